/-
  Texts of mine that belong together (packed by pack.py), for every input: GQc, GQa, QQa, GQb, QQb, QQc, GTx, QTx, QTy, QTz.
-/
import Derived.Test.YtbfjgcjjaoaaaaaGreatDoorChecked
import Derived.Test.YtbfjgcjjaoaaaaaGreatDoorKT2
import Derived.Test.YtbfjgcjjaoaaaaaGreatDoorKT3
import Derived.Test.YtbfjgcjjaoaaaaaGreatDoorKT4
import Derived.KernelRfl
set_option linter.unusedVariables false
set_option linter.unusedSimpArgs false
namespace Go.Pl
open Go.RowKit
open Enc (enc dec is)
open EncL (encL decL isL)
set_option maxRecDepth 100000
noncomputable def Kw:IC:=Xu Proofs.Tryz.f63
def Kh:List IRes:=[(.tmp 4)]
abbrev d1p:Nat:=45
def Hu:ZO:=YQ []
theorem d7a{G:PV->Prop}(l:List Str)(s:List UInt8)(h:At Hu 0 (Za Kh G) Kw 0 45 [(0,(.pv (.sl 1 false (List.map enc l)))),(1,(.pv (.str s))),(5,(.pv (.int .i64 0)))] []):Ze Hu 0 (Za Kh G) Kw [] (Z0 45 [enc l,.str s]):=Ze.tp (.nil) h (by kernel_rfl)
theorem a7i{G:PV->Prop}(l:List Str)(s:List UInt8)(i:Int)(h:if (decide (i<(↑(List.length (List.map enc l)):Int)))=true then(decide (0<=i)&&decide (Int.toNat i<List.length (List.map enc l))&&Enc.sz Str==1)=true∧(∃ y0:Str,AV.pv (PV.rptr (PV.cells (List.getD (List.map enc l) (Int.toNat i) default)))=AV.pv (PV.rptr (PV.cells ((enc) y0)))∧(if (Op.bytesLess (PV.asStr (List.getD (PV.cells (enc y0)) 0 default)) s)=true then At Hu 0 (Za Kh G) Kw 0 45 [(0,(.pv (.sl 1 false (List.map enc l)))),(1,(.pv (.str s))),(5,(.pv (.int .i64 (IntKind.wrap IntKind.i64 (i+1)))))] []else(if (decide (i<(↑(List.length (List.map enc l)):Int)))=true then(decide (0<=i)&&decide (Int.toNat i<List.length (List.map enc l))&&Enc.sz Str==1)=true∧(∃ y1:Str,AV.pv (PV.rptr (PV.cells (List.getD (List.map enc l) (Int.toNat i) default)))=AV.pv (PV.rptr (PV.cells ((enc) y1)))∧(if (PV.asStr (List.getD (PV.cells (enc y1)) 0 default)==s)=true then G ((.sl 1 false (List.map enc l)))else((true&&decide (0<=i)&&(List.isEmpty (List.map enc l)||Enc.sz Str==1)&&decide (0<=Int.toNat i)&&decide (Int.toNat i<=List.length (List.map enc l)))=true∧((List.isEmpty (List.drop 0 (List.take (Int.toNat i) (List.map enc l)))||Enc.sz Str==1)=true∧((List.length ([]:List PV)==0&&0==0&&decide ((0+List.length (List.drop 0 (List.take (Int.toNat i) (List.map enc l))))*16<=1099511627776)&&decide (0+List.length (List.drop 0 (List.take (Int.toNat i) (List.map enc l)))<=1099511627776))=true∧((List.length (([]:List PV)++List.drop 0 (List.take (Int.toNat i) (List.map enc l)))==0+List.length (List.drop 0 (List.take (Int.toNat i) (List.map enc l)))&&0+List.length (List.drop 0 (List.take (Int.toNat i) (List.map enc l)))==0+List.length (List.drop 0 (List.take (Int.toNat i) (List.map enc l)))&&decide ((0+List.length (List.drop 0 (List.take (Int.toNat i) (List.map enc l)))+List.length (List.drop 0 (List.take 1 [PV.str s])))*16<=1099511627776)&&decide (0+List.length (List.drop 0 (List.take (Int.toNat i) (List.map enc l)))+List.length (List.drop 0 (List.take 1 [PV.str s]))<=1099511627776))=true∧((decide (0<=i)&&true&&(List.isEmpty (List.map enc l)||Enc.sz Str==1)&&decide (Int.toNat i<=List.length (List.map enc l))&&decide (List.length (List.map enc l)<=List.length (List.map enc l)))=true∧((List.isEmpty (List.drop (Int.toNat i) (List.take (List.length (List.map enc l)) (List.map enc l)))||Enc.sz Str==1)=true∧((List.length (([]:List PV)++List.drop 0 (List.take (Int.toNat i) (List.map enc l))++List.drop 0 (List.take 1 [PV.str s]))==0+List.length (List.drop 0 (List.take (Int.toNat i) (List.map enc l)))+List.length (List.drop 0 (List.take 1 [PV.str s]))&&0+List.length (List.drop 0 (List.take (Int.toNat i) (List.map enc l)))+List.length (List.drop 0 (List.take 1 [PV.str s]))==0+List.length (List.drop 0 (List.take (Int.toNat i) (List.map enc l)))+List.length (List.drop 0 (List.take 1 [PV.str s]))&&decide ((0+List.length (List.drop 0 (List.take (Int.toNat i) (List.map enc l)))+List.length (List.drop 0 (List.take 1 [PV.str s]))+List.length (List.drop (Int.toNat i) (List.take (List.length (List.map enc l)) (List.map enc l))))*16<=1099511627776)&&decide (0+List.length (List.drop 0 (List.take (Int.toNat i) (List.map enc l)))+List.length (List.drop 0 (List.take 1 [PV.str s]))+List.length (List.drop (Int.toNat i) (List.take (List.length (List.map enc l)) (List.map enc l)))<=1099511627776))=true∧((List.length (([]:List PV)++List.drop 0 (List.take (Int.toNat i) (List.map enc l))++List.drop 0 (List.take 1 [PV.str s])++List.drop (Int.toNat i) (List.take (List.length (List.map enc l)) (List.map enc l)))==0+List.length (List.drop 0 (List.take (Int.toNat i) (List.map enc l)))+List.length (List.drop 0 (List.take 1 [PV.str s]))+List.length (List.drop (Int.toNat i) (List.take (List.length (List.map enc l)) (List.map enc l))))=true∧(G ((.sl 1 false (List.drop 0 (List.take (0+List.length (List.drop 0 (List.take (Int.toNat i) (List.map enc l)))+List.length (List.drop 0 (List.take 1 [PV.str s]))+List.length (List.drop (Int.toNat i) (List.take (List.length (List.map enc l)) (List.map enc l)))) (([]:List PV)++List.drop 0 (List.take (Int.toNat i) (List.map enc l))++List.drop 0 (List.take 1 [PV.str s])++List.drop (Int.toNat i) (List.take (List.length (List.map enc l)) (List.map enc l))))))))))))))))))else((true&&decide (0<=i)&&(List.isEmpty (List.map enc l)||Enc.sz Str==1)&&decide (0<=Int.toNat i)&&decide (Int.toNat i<=List.length (List.map enc l)))=true∧((List.isEmpty (List.drop 0 (List.take (Int.toNat i) (List.map enc l)))||Enc.sz Str==1)=true∧((List.length ([]:List PV)==0&&0==0&&decide ((0+List.length (List.drop 0 (List.take (Int.toNat i) (List.map enc l))))*16<=1099511627776)&&decide (0+List.length (List.drop 0 (List.take (Int.toNat i) (List.map enc l)))<=1099511627776))=true∧((List.length (([]:List PV)++List.drop 0 (List.take (Int.toNat i) (List.map enc l)))==0+List.length (List.drop 0 (List.take (Int.toNat i) (List.map enc l)))&&0+List.length (List.drop 0 (List.take (Int.toNat i) (List.map enc l)))==0+List.length (List.drop 0 (List.take (Int.toNat i) (List.map enc l)))&&decide ((0+List.length (List.drop 0 (List.take (Int.toNat i) (List.map enc l)))+List.length (List.drop 0 (List.take 1 [PV.str s])))*16<=1099511627776)&&decide (0+List.length (List.drop 0 (List.take (Int.toNat i) (List.map enc l)))+List.length (List.drop 0 (List.take 1 [PV.str s]))<=1099511627776))=true∧((decide (0<=i)&&true&&(List.isEmpty (List.map enc l)||Enc.sz Str==1)&&decide (Int.toNat i<=List.length (List.map enc l))&&decide (List.length (List.map enc l)<=List.length (List.map enc l)))=true∧((List.isEmpty (List.drop (Int.toNat i) (List.take (List.length (List.map enc l)) (List.map enc l)))||Enc.sz Str==1)=true∧((List.length (([]:List PV)++List.drop 0 (List.take (Int.toNat i) (List.map enc l))++List.drop 0 (List.take 1 [PV.str s]))==0+List.length (List.drop 0 (List.take (Int.toNat i) (List.map enc l)))+List.length (List.drop 0 (List.take 1 [PV.str s]))&&0+List.length (List.drop 0 (List.take (Int.toNat i) (List.map enc l)))+List.length (List.drop 0 (List.take 1 [PV.str s]))==0+List.length (List.drop 0 (List.take (Int.toNat i) (List.map enc l)))+List.length (List.drop 0 (List.take 1 [PV.str s]))&&decide ((0+List.length (List.drop 0 (List.take (Int.toNat i) (List.map enc l)))+List.length (List.drop 0 (List.take 1 [PV.str s]))+List.length (List.drop (Int.toNat i) (List.take (List.length (List.map enc l)) (List.map enc l))))*16<=1099511627776)&&decide (0+List.length (List.drop 0 (List.take (Int.toNat i) (List.map enc l)))+List.length (List.drop 0 (List.take 1 [PV.str s]))+List.length (List.drop (Int.toNat i) (List.take (List.length (List.map enc l)) (List.map enc l)))<=1099511627776))=true∧((List.length (([]:List PV)++List.drop 0 (List.take (Int.toNat i) (List.map enc l))++List.drop 0 (List.take 1 [PV.str s])++List.drop (Int.toNat i) (List.take (List.length (List.map enc l)) (List.map enc l)))==0+List.length (List.drop 0 (List.take (Int.toNat i) (List.map enc l)))+List.length (List.drop 0 (List.take 1 [PV.str s]))+List.length (List.drop (Int.toNat i) (List.take (List.length (List.map enc l)) (List.map enc l))))=true∧(G ((.sl 1 false (List.drop 0 (List.take (0+List.length (List.drop 0 (List.take (Int.toNat i) (List.map enc l)))+List.length (List.drop 0 (List.take 1 [PV.str s]))+List.length (List.drop (Int.toNat i) (List.take (List.length (List.map enc l)) (List.map enc l)))) (([]:List PV)++List.drop 0 (List.take (Int.toNat i) (List.map enc l))++List.drop 0 (List.take 1 [PV.str s])++List.drop (Int.toNat i) (List.take (List.length (List.map enc l)) (List.map enc l)))))))))))))))))))else(if (decide (i<(↑(List.length (List.map enc l)):Int)))=true then(decide (0<=i)&&decide (Int.toNat i<List.length (List.map enc l))&&Enc.sz Str==1)=true∧(∃ y2:Str,AV.pv (PV.rptr (PV.cells (List.getD (List.map enc l) (Int.toNat i) default)))=AV.pv (PV.rptr (PV.cells ((enc) y2)))∧(if (PV.asStr (List.getD (PV.cells (enc y2)) 0 default)==s)=true then G ((.sl 1 false (List.map enc l)))else((true&&decide (0<=i)&&(List.isEmpty (List.map enc l)||Enc.sz Str==1)&&decide (0<=Int.toNat i)&&decide (Int.toNat i<=List.length (List.map enc l)))=true∧((List.isEmpty (List.drop 0 (List.take (Int.toNat i) (List.map enc l)))||Enc.sz Str==1)=true∧((List.length ([]:List PV)==0&&0==0&&decide ((0+List.length (List.drop 0 (List.take (Int.toNat i) (List.map enc l))))*16<=1099511627776)&&decide (0+List.length (List.drop 0 (List.take (Int.toNat i) (List.map enc l)))<=1099511627776))=true∧((List.length (([]:List PV)++List.drop 0 (List.take (Int.toNat i) (List.map enc l)))==0+List.length (List.drop 0 (List.take (Int.toNat i) (List.map enc l)))&&0+List.length (List.drop 0 (List.take (Int.toNat i) (List.map enc l)))==0+List.length (List.drop 0 (List.take (Int.toNat i) (List.map enc l)))&&decide ((0+List.length (List.drop 0 (List.take (Int.toNat i) (List.map enc l)))+List.length (List.drop 0 (List.take 1 [PV.str s])))*16<=1099511627776)&&decide (0+List.length (List.drop 0 (List.take (Int.toNat i) (List.map enc l)))+List.length (List.drop 0 (List.take 1 [PV.str s]))<=1099511627776))=true∧((decide (0<=i)&&true&&(List.isEmpty (List.map enc l)||Enc.sz Str==1)&&decide (Int.toNat i<=List.length (List.map enc l))&&decide (List.length (List.map enc l)<=List.length (List.map enc l)))=true∧((List.isEmpty (List.drop (Int.toNat i) (List.take (List.length (List.map enc l)) (List.map enc l)))||Enc.sz Str==1)=true∧((List.length (([]:List PV)++List.drop 0 (List.take (Int.toNat i) (List.map enc l))++List.drop 0 (List.take 1 [PV.str s]))==0+List.length (List.drop 0 (List.take (Int.toNat i) (List.map enc l)))+List.length (List.drop 0 (List.take 1 [PV.str s]))&&0+List.length (List.drop 0 (List.take (Int.toNat i) (List.map enc l)))+List.length (List.drop 0 (List.take 1 [PV.str s]))==0+List.length (List.drop 0 (List.take (Int.toNat i) (List.map enc l)))+List.length (List.drop 0 (List.take 1 [PV.str s]))&&decide ((0+List.length (List.drop 0 (List.take (Int.toNat i) (List.map enc l)))+List.length (List.drop 0 (List.take 1 [PV.str s]))+List.length (List.drop (Int.toNat i) (List.take (List.length (List.map enc l)) (List.map enc l))))*16<=1099511627776)&&decide (0+List.length (List.drop 0 (List.take (Int.toNat i) (List.map enc l)))+List.length (List.drop 0 (List.take 1 [PV.str s]))+List.length (List.drop (Int.toNat i) (List.take (List.length (List.map enc l)) (List.map enc l)))<=1099511627776))=true∧((List.length (([]:List PV)++List.drop 0 (List.take (Int.toNat i) (List.map enc l))++List.drop 0 (List.take 1 [PV.str s])++List.drop (Int.toNat i) (List.take (List.length (List.map enc l)) (List.map enc l)))==0+List.length (List.drop 0 (List.take (Int.toNat i) (List.map enc l)))+List.length (List.drop 0 (List.take 1 [PV.str s]))+List.length (List.drop (Int.toNat i) (List.take (List.length (List.map enc l)) (List.map enc l))))=true∧(G ((.sl 1 false (List.drop 0 (List.take (0+List.length (List.drop 0 (List.take (Int.toNat i) (List.map enc l)))+List.length (List.drop 0 (List.take 1 [PV.str s]))+List.length (List.drop (Int.toNat i) (List.take (List.length (List.map enc l)) (List.map enc l)))) (([]:List PV)++List.drop 0 (List.take (Int.toNat i) (List.map enc l))++List.drop 0 (List.take 1 [PV.str s])++List.drop (Int.toNat i) (List.take (List.length (List.map enc l)) (List.map enc l))))))))))))))))))else((true&&decide (0<=i)&&(List.isEmpty (List.map enc l)||Enc.sz Str==1)&&decide (0<=Int.toNat i)&&decide (Int.toNat i<=List.length (List.map enc l)))=true∧((List.isEmpty (List.drop 0 (List.take (Int.toNat i) (List.map enc l)))||Enc.sz Str==1)=true∧((List.length ([]:List PV)==0&&0==0&&decide ((0+List.length (List.drop 0 (List.take (Int.toNat i) (List.map enc l))))*16<=1099511627776)&&decide (0+List.length (List.drop 0 (List.take (Int.toNat i) (List.map enc l)))<=1099511627776))=true∧((List.length (([]:List PV)++List.drop 0 (List.take (Int.toNat i) (List.map enc l)))==0+List.length (List.drop 0 (List.take (Int.toNat i) (List.map enc l)))&&0+List.length (List.drop 0 (List.take (Int.toNat i) (List.map enc l)))==0+List.length (List.drop 0 (List.take (Int.toNat i) (List.map enc l)))&&decide ((0+List.length (List.drop 0 (List.take (Int.toNat i) (List.map enc l)))+List.length (List.drop 0 (List.take 1 [PV.str s])))*16<=1099511627776)&&decide (0+List.length (List.drop 0 (List.take (Int.toNat i) (List.map enc l)))+List.length (List.drop 0 (List.take 1 [PV.str s]))<=1099511627776))=true∧((decide (0<=i)&&true&&(List.isEmpty (List.map enc l)||Enc.sz Str==1)&&decide (Int.toNat i<=List.length (List.map enc l))&&decide (List.length (List.map enc l)<=List.length (List.map enc l)))=true∧((List.isEmpty (List.drop (Int.toNat i) (List.take (List.length (List.map enc l)) (List.map enc l)))||Enc.sz Str==1)=true∧((List.length (([]:List PV)++List.drop 0 (List.take (Int.toNat i) (List.map enc l))++List.drop 0 (List.take 1 [PV.str s]))==0+List.length (List.drop 0 (List.take (Int.toNat i) (List.map enc l)))+List.length (List.drop 0 (List.take 1 [PV.str s]))&&0+List.length (List.drop 0 (List.take (Int.toNat i) (List.map enc l)))+List.length (List.drop 0 (List.take 1 [PV.str s]))==0+List.length (List.drop 0 (List.take (Int.toNat i) (List.map enc l)))+List.length (List.drop 0 (List.take 1 [PV.str s]))&&decide ((0+List.length (List.drop 0 (List.take (Int.toNat i) (List.map enc l)))+List.length (List.drop 0 (List.take 1 [PV.str s]))+List.length (List.drop (Int.toNat i) (List.take (List.length (List.map enc l)) (List.map enc l))))*16<=1099511627776)&&decide (0+List.length (List.drop 0 (List.take (Int.toNat i) (List.map enc l)))+List.length (List.drop 0 (List.take 1 [PV.str s]))+List.length (List.drop (Int.toNat i) (List.take (List.length (List.map enc l)) (List.map enc l)))<=1099511627776))=true∧((List.length (([]:List PV)++List.drop 0 (List.take (Int.toNat i) (List.map enc l))++List.drop 0 (List.take 1 [PV.str s])++List.drop (Int.toNat i) (List.take (List.length (List.map enc l)) (List.map enc l)))==0+List.length (List.drop 0 (List.take (Int.toNat i) (List.map enc l)))+List.length (List.drop 0 (List.take 1 [PV.str s]))+List.length (List.drop (Int.toNat i) (List.take (List.length (List.map enc l)) (List.map enc l))))=true∧(G ((.sl 1 false (List.drop 0 (List.take (0+List.length (List.drop 0 (List.take (Int.toNat i) (List.map enc l)))+List.length (List.drop 0 (List.take 1 [PV.str s]))+List.length (List.drop (Int.toNat i) (List.take (List.length (List.map enc l)) (List.map enc l)))) (([]:List PV)++List.drop 0 (List.take (Int.toNat i) (List.map enc l))++List.drop 0 (List.take 1 [PV.str s])++List.drop (Int.toNat i) (List.take (List.length (List.map enc l)) (List.map enc l)))))))))))))))))):At Hu 0 (Za Kh G) Kw 0 45 [(0,.pv (enc l)),(1,.pv (.str s)),(5,.pv (.int .i64 i))] []:=At.tp (.lit (.ask (Zl 2 (.req (.abs (Str) (fun YY=>AV.pv (PV.rptr (PV.cells ((enc) YY)))) (Zl 6 (.ask (.lit (.nil)) (.lit (.ask (Zl 2 (.req (.abs (Str) (fun YY=>AV.pv (PV.rptr (PV.cells ((enc) YY)))) (Zl 6 (.ask (.nil) (.lit (.req (.req (.req (Zl 2 (.req (.req (.req (.req (.req (.nil)))))))))))))))) (Zl 8 (.req (.req (.req (Zl 2 (.req (.req (.req (.req (.req (.nil)))))))))))))))))) (Zl 8 (.ask (Zl 2 (.req (.abs (Str) (fun YY=>AV.pv (PV.rptr (PV.cells ((enc) YY)))) (Zl 6 (.ask (.nil) (.lit (.req (.req (.req (Zl 2 (.req (.req (.req (.req (.req (.nil)))))))))))))))) (Zl 8 (.req (.req (.req (Zl 2 (.req (.req (.req (.req (.req (.nil))))))))))))))) h (by kernel_rfl)
noncomputable def ZZ:IC:=Xu Proofs.Tryz.f32
def ZV:List IRes:=[(.tmp 2)]
abbrev c4c:Nat:=56
def Yc:ZO:=YQ [(13,.pure (preT (fun x:Tm×Unit=>tW x.1)) (Zb (fun x:Tm×Unit=>Y6 x.1))),(63,.pure (preT (fun x:List Str×Str×Unit=>decide (x.1.length<=1048576))) (Zb (fun x:List Str×Str×Unit=>Ug x.1 x.2.1)))]
theorem c9c{G:PV->Prop}(n:Nd)(ks:List Tm)(h:(Go.Pl.preT (fun(x:Tm×Unit)=>tW x.1) (V4 n ks))=true∧(∃ y0:List Tm,AV.pv (Zb (fun(x:Tm×Unit)=>Y6 x.1) (V4 n ks))=AV.pv (enc y0)∧(At Yc 0 (Za ZV G) ZZ 0 56 [(3,(.pv (.sl 0 true []))),(4,(.pv (.sl 10 false (List.map enc y0)))),(5,(.pv (.int .i64 0)))] []))):Ze Yc 0 (Za ZV G) ZZ [] (Z0 56 [.agg [enc n.kind,enc n.line,enc n.name,enc n.num,enc n.elem,enc n.dims,enc n.data,enc n.sizes,enc n.ranks,enc ks]]):=Ze.tp (.req (.abs (List Tm) (fun YY=>AV.pv (enc YY)) (.nil))) h (by kernel_rfl)
theorem b0i{G:PV->Prop}(n:Nd)(ks:List Tm)(y:List Tm)(i:Int)(h:if (decide (i<(↑(List.length (List.map enc y)):Int)))=true then At Yc 0 (Za ZV G) ZZ 1 56 [(3,(.pv (.sl 0 true []))),(4,(.pv (.sl 10 false (List.map enc y)))),(5,(.pv (.int .i64 i))),(6,(.pv (.int .i64 0)))] []else(G ((.sl 0 true [])))):At Yc 0 (Za ZV G) ZZ 0 56 [(3,.pv (.sl 0 true [])),(4,.pv (enc y)),(5,.pv (.int .i64 i))] []:=At.tp (.lit (.ask (.nil) (.nil))) h (by kernel_rfl)
theorem b2d{G:PV->Prop}(n:Nd)(ks:List Tm)(y:List Tm)(o:List Str)(i:Int)(h:if (decide (i<(↑(List.length (List.map enc y)):Int)))=true then At Yc 0 (Za ZV G) ZZ 1 56 [(3,(.pv (.sl 1 false (List.map enc o)))),(4,(.pv (.sl 10 false (List.map enc y)))),(5,(.pv (.int .i64 i))),(6,(.pv (.int .i64 0)))] []else(G ((.sl 1 false (List.map enc o))))):At Yc 0 (Za ZV G) ZZ 0 56 [(3,.pv (enc o)),(4,.pv (enc y)),(5,.pv (.int .i64 i))] []:=At.tp (.lit (.ask (.nil) (.nil))) h (by kernel_rfl)
theorem b3f{G:PV->Prop}(n:Nd)(ks:List Tm)(y:List Tm)(i k:Int)(h:(decide (0<=i)&&decide (Int.toNat i<List.length (List.map enc y))&&Enc.sz Tm==10)=true∧(∃ y0:Tm,AV.pv (PV.rptr (PV.cells (List.getD (List.map enc y) (Int.toNat i) default)))=AV.pv (PV.rptr (PV.cells ((enc) y0)))∧((decide (0+List.length [Sh.sl 2]<=List.length (List.drop 7 (PV.cells (enc y0))))&&Yx (List.drop 7 (PV.cells (enc y0))) 0 [Sh.sl 2])=true∧(if (decide (k<(↑(List.length (PV.asXs (List.getD (List.drop 7 (PV.cells (enc y0))) 0 default))):Int)))=true then At Yc 0 (Za ZV G) ZZ 2 56 [(3,(.pv (.sl 0 true []))),(4,(.pv (.sl 10 false (List.map enc y)))),(5,(.pv (.int .i64 i))),(6,(.pv (.int .i64 k))),(7,(.pv (.int .i64 0)))] []else(At Yc 0 (Za ZV G) ZZ 0 56 [(3,(.pv (.sl 0 true []))),(4,(.pv (.sl 10 false (List.map enc y)))),(5,(.pv (.int .i64 (IntKind.wrap IntKind.i64 (i+1)))))] []))))):At Yc 0 (Za ZV G) ZZ 1 56 [(3,.pv (.sl 0 true [])),(4,.pv (enc y)),(5,.pv (.int .i64 i)),(6,.pv (.int .i64 k))] []:=At.tp (.req (.abs (Tm) (fun YY=>AV.pv (PV.rptr (PV.cells ((enc) YY)))) (.req (.lit (.ask (.nil) (.lit (.nil))))))) h (by kernel_rfl)
theorem b2u{G:PV->Prop}(n:Nd)(ks:List Tm)(y:List Tm)(o:List Str)(i k:Int)(h:(decide (0<=i)&&decide (Int.toNat i<List.length (List.map enc y))&&Enc.sz Tm==10)=true∧(∃ y0:Tm,AV.pv (PV.rptr (PV.cells (List.getD (List.map enc y) (Int.toNat i) default)))=AV.pv (PV.rptr (PV.cells ((enc) y0)))∧((decide (0+List.length [Sh.sl 2]<=List.length (List.drop 7 (PV.cells (enc y0))))&&Yx (List.drop 7 (PV.cells (enc y0))) 0 [Sh.sl 2])=true∧(if (decide (k<(↑(List.length (PV.asXs (List.getD (List.drop 7 (PV.cells (enc y0))) 0 default))):Int)))=true then At Yc 0 (Za ZV G) ZZ 2 56 [(3,(.pv (.sl 1 false (List.map enc o)))),(4,(.pv (.sl 10 false (List.map enc y)))),(5,(.pv (.int .i64 i))),(6,(.pv (.int .i64 k))),(7,(.pv (.int .i64 0)))] []else(At Yc 0 (Za ZV G) ZZ 0 56 [(3,(.pv (.sl 1 false (List.map enc o)))),(4,(.pv (.sl 10 false (List.map enc y)))),(5,(.pv (.int .i64 (IntKind.wrap IntKind.i64 (i+1)))))] []))))):At Yc 0 (Za ZV G) ZZ 1 56 [(3,.pv (enc o)),(4,.pv (enc y)),(5,.pv (.int .i64 i)),(6,.pv (.int .i64 k))] []:=At.tp (.req (.abs (Tm) (fun YY=>AV.pv (PV.rptr (PV.cells ((enc) YY)))) (.req (.lit (.ask (.nil) (.lit (.nil))))))) h (by kernel_rfl)
theorem Pq{G:PV->Prop}(n:Nd)(ks:List Tm)(y:List Tm)(i k j:Int)(h:(decide (0<=i)&&decide (Int.toNat i<List.length (List.map enc y))&&Enc.sz Tm==10)=true∧(∃ y0:Tm,AV.pv (PV.rptr (PV.cells (List.getD (List.map enc y) (Int.toNat i) default)))=AV.pv (PV.rptr (PV.cells ((enc) y0)))∧((decide (0+List.length [Sh.sl 2]<=List.length (List.drop 7 (PV.cells (enc y0))))&&Yx (List.drop 7 (PV.cells (enc y0))) 0 [Sh.sl 2])=true∧((decide (0<=k)&&decide (Int.toNat k<List.length (PV.asXs (List.getD (List.drop 7 (PV.cells (enc y0))) 0 default)))&&2==2)=true∧((decide (0+List.length [Sh.sl 2]<=List.length (List.drop 1 (PV.cells (List.getD (PV.asXs (List.getD (List.drop 7 (PV.cells (enc y0))) 0 default)) (Int.toNat k) default))))&&Yx (List.drop 1 (PV.cells (List.getD (PV.asXs (List.getD (List.drop 7 (PV.cells (enc y0))) 0 default)) (Int.toNat k) default))) 0 [Sh.sl 2])=true∧(if (decide (j<(↑(List.length (PV.asXs (List.getD (List.drop 1 (PV.cells (List.getD (PV.asXs (List.getD (List.drop 7 (PV.cells (enc y0))) 0 default)) (Int.toNat k) default))) 0 default))):Int)))=true then(decide (0<=i)&&decide (Int.toNat i<List.length (List.map enc y))&&Enc.sz Tm==10)=true∧(∃ y1:Tm,AV.pv (PV.rptr (PV.cells (List.getD (List.map enc y) (Int.toNat i) default)))=AV.pv (PV.rptr (PV.cells ((enc) y1)))∧((decide (0+List.length [Sh.sl 2]<=List.length (List.drop 7 (PV.cells (enc y1))))&&Yx (List.drop 7 (PV.cells (enc y1))) 0 [Sh.sl 2])=true∧((decide (0<=k)&&decide (Int.toNat k<List.length (PV.asXs (List.getD (List.drop 7 (PV.cells (enc y1))) 0 default)))&&2==2)=true∧((decide (0+List.length [Sh.sl 2]<=List.length (List.drop 1 (PV.cells (List.getD (PV.asXs (List.getD (List.drop 7 (PV.cells (enc y1))) 0 default)) (Int.toNat k) default))))&&Yx (List.drop 1 (PV.cells (List.getD (PV.asXs (List.getD (List.drop 7 (PV.cells (enc y1))) 0 default)) (Int.toNat k) default))) 0 [Sh.sl 2])=true∧((decide (0<=j)&&decide (Int.toNat j<List.length (PV.asXs (List.getD (List.drop 1 (PV.cells (List.getD (PV.asXs (List.getD (List.drop 7 (PV.cells (enc y1))) 0 default)) (Int.toNat k) default))) 0 default)))&&2==2)=true∧((decide (0+List.length [Sh.str]<=List.length (List.drop 0 (PV.cells (List.getD (PV.asXs (List.getD (List.drop 1 (PV.cells (List.getD (PV.asXs (List.getD (List.drop 7 (PV.cells (enc y1))) 0 default)) (Int.toNat k) default))) 0 default)) (Int.toNat j) default))))&&Yx (List.drop 0 (PV.cells (List.getD (PV.asXs (List.getD (List.drop 1 (PV.cells (List.getD (PV.asXs (List.getD (List.drop 7 (PV.cells (enc y1))) 0 default)) (Int.toNat k) default))) 0 default)) (Int.toNat j) default))) 0 [Sh.str])=true∧(∃ y2:List Str,AV.pv (Zb (fun(x:List Str×Str×Unit)=>Ug x.1 x.2.1) [(.sl 0 true []),(.str (PV.asStr (List.getD (List.drop 0 (PV.cells (List.getD (PV.asXs (List.getD (List.drop 1 (PV.cells (List.getD (PV.asXs (List.getD (List.drop 7 (PV.cells (enc y1))) 0 default)) (Int.toNat k) default))) 0 default)) (Int.toNat j) default))) 0 default)))])=AV.pv (enc y2)∧(At Yc 0 (Za ZV G) ZZ 2 56 [(3,(.pv (.sl 1 false (List.map enc y2)))),(4,(.pv (.sl 10 false (List.map enc y)))),(5,(.pv (.int .i64 i))),(6,(.pv (.int .i64 k))),(7,(.pv (.int .i64 (IntKind.wrap IntKind.i64 (j+1)))))] []))))))))else(At Yc 0 (Za ZV G) ZZ 1 56 [(3,(.pv (.sl 0 true []))),(4,(.pv (.sl 10 false (List.map enc y)))),(5,(.pv (.int .i64 i))),(6,(.pv (.int .i64 (IntKind.wrap IntKind.i64 (k+1)))))] []))))))):At Yc 0 (Za ZV G) ZZ 2 56 [(3,.pv (.sl 0 true [])),(4,.pv (enc y)),(5,.pv (.int .i64 i)),(6,.pv (.int .i64 k)),(7,.pv (.int .i64 j))] []:=At.tp (.req (.abs (Tm) (fun YY=>AV.pv (PV.rptr (PV.cells ((enc) YY)))) (.req (.req (.keep (.req (.lit (.ask (.req (.abs (Tm) (fun YY=>AV.pv (PV.rptr (PV.cells ((enc) YY)))) (.req (.req (.keep (.req (.req (.keep (.req (.lit (.abs (List Str) (fun YY=>AV.pv (enc YY)) (.lit (.nil))))))))))))) (.lit (.nil)))))))))) h (by kernel_rfl)
theorem P9{G:PV->Prop}(n:Nd)(ks:List Tm)(y:List Tm)(o:List Str)(i k j:Int)(h:(decide (0<=i)&&decide (Int.toNat i<List.length (List.map enc y))&&Enc.sz Tm==10)=true∧(∃ y0:Tm,AV.pv (PV.rptr (PV.cells (List.getD (List.map enc y) (Int.toNat i) default)))=AV.pv (PV.rptr (PV.cells ((enc) y0)))∧((decide (0+List.length [Sh.sl 2]<=List.length (List.drop 7 (PV.cells (enc y0))))&&Yx (List.drop 7 (PV.cells (enc y0))) 0 [Sh.sl 2])=true∧((decide (0<=k)&&decide (Int.toNat k<List.length (PV.asXs (List.getD (List.drop 7 (PV.cells (enc y0))) 0 default)))&&2==2)=true∧((decide (0+List.length [Sh.sl 2]<=List.length (List.drop 1 (PV.cells (List.getD (PV.asXs (List.getD (List.drop 7 (PV.cells (enc y0))) 0 default)) (Int.toNat k) default))))&&Yx (List.drop 1 (PV.cells (List.getD (PV.asXs (List.getD (List.drop 7 (PV.cells (enc y0))) 0 default)) (Int.toNat k) default))) 0 [Sh.sl 2])=true∧(if (decide (j<(↑(List.length (PV.asXs (List.getD (List.drop 1 (PV.cells (List.getD (PV.asXs (List.getD (List.drop 7 (PV.cells (enc y0))) 0 default)) (Int.toNat k) default))) 0 default))):Int)))=true then(decide (0<=i)&&decide (Int.toNat i<List.length (List.map enc y))&&Enc.sz Tm==10)=true∧(∃ y1:Tm,AV.pv (PV.rptr (PV.cells (List.getD (List.map enc y) (Int.toNat i) default)))=AV.pv (PV.rptr (PV.cells ((enc) y1)))∧((decide (0+List.length [Sh.sl 2]<=List.length (List.drop 7 (PV.cells (enc y1))))&&Yx (List.drop 7 (PV.cells (enc y1))) 0 [Sh.sl 2])=true∧((decide (0<=k)&&decide (Int.toNat k<List.length (PV.asXs (List.getD (List.drop 7 (PV.cells (enc y1))) 0 default)))&&2==2)=true∧((decide (0+List.length [Sh.sl 2]<=List.length (List.drop 1 (PV.cells (List.getD (PV.asXs (List.getD (List.drop 7 (PV.cells (enc y1))) 0 default)) (Int.toNat k) default))))&&Yx (List.drop 1 (PV.cells (List.getD (PV.asXs (List.getD (List.drop 7 (PV.cells (enc y1))) 0 default)) (Int.toNat k) default))) 0 [Sh.sl 2])=true∧((decide (0<=j)&&decide (Int.toNat j<List.length (PV.asXs (List.getD (List.drop 1 (PV.cells (List.getD (PV.asXs (List.getD (List.drop 7 (PV.cells (enc y1))) 0 default)) (Int.toNat k) default))) 0 default)))&&2==2)=true∧((decide (0+List.length [Sh.str]<=List.length (List.drop 0 (PV.cells (List.getD (PV.asXs (List.getD (List.drop 1 (PV.cells (List.getD (PV.asXs (List.getD (List.drop 7 (PV.cells (enc y1))) 0 default)) (Int.toNat k) default))) 0 default)) (Int.toNat j) default))))&&Yx (List.drop 0 (PV.cells (List.getD (PV.asXs (List.getD (List.drop 1 (PV.cells (List.getD (PV.asXs (List.getD (List.drop 7 (PV.cells (enc y1))) 0 default)) (Int.toNat k) default))) 0 default)) (Int.toNat j) default))) 0 [Sh.str])=true∧((Go.Pl.preT (fun(x:List Str×Str×Unit)=>decide (List.length x.1<=1048576)) [(.sl 1 false (List.map enc o)),(.str (PV.asStr (List.getD (List.drop 0 (PV.cells (List.getD (PV.asXs (List.getD (List.drop 1 (PV.cells (List.getD (PV.asXs (List.getD (List.drop 7 (PV.cells (enc y1))) 0 default)) (Int.toNat k) default))) 0 default)) (Int.toNat j) default))) 0 default)))])=true∧(∃ y2:List Str,AV.pv (Zb (fun(x:List Str×Str×Unit)=>Ug x.1 x.2.1) [(.sl 1 false (List.map enc o)),(.str (PV.asStr (List.getD (List.drop 0 (PV.cells (List.getD (PV.asXs (List.getD (List.drop 1 (PV.cells (List.getD (PV.asXs (List.getD (List.drop 7 (PV.cells (enc y1))) 0 default)) (Int.toNat k) default))) 0 default)) (Int.toNat j) default))) 0 default)))])=AV.pv (enc y2)∧(At Yc 0 (Za ZV G) ZZ 2 56 [(3,(.pv (.sl 1 false (List.map enc y2)))),(4,(.pv (.sl 10 false (List.map enc y)))),(5,(.pv (.int .i64 i))),(6,(.pv (.int .i64 k))),(7,(.pv (.int .i64 (IntKind.wrap IntKind.i64 (j+1)))))] [])))))))))else(At Yc 0 (Za ZV G) ZZ 1 56 [(3,(.pv (.sl 1 false (List.map enc o)))),(4,(.pv (.sl 10 false (List.map enc y)))),(5,(.pv (.int .i64 i))),(6,(.pv (.int .i64 (IntKind.wrap IntKind.i64 (k+1)))))] []))))))):At Yc 0 (Za ZV G) ZZ 2 56 [(3,.pv (enc o)),(4,.pv (enc y)),(5,.pv (.int .i64 i)),(6,.pv (.int .i64 k)),(7,.pv (.int .i64 j))] []:=At.tp (.req (.abs (Tm) (fun YY=>AV.pv (PV.rptr (PV.cells ((enc) YY)))) (.req (.req (.keep (.req (.lit (.ask (.req (.abs (Tm) (fun YY=>AV.pv (PV.rptr (PV.cells ((enc) YY)))) (.req (.req (.keep (.req (.req (.keep (.req (.req (.abs (List Str) (fun YY=>AV.pv (enc YY)) (.lit (.nil))))))))))))) (.lit (.nil)))))))))) h (by kernel_rfl)
noncomputable def TJ:IC:=Xu Proofs.Tryz.f34
def Da:List IRes:=[(.tmp 2),(.tmp 3),(.tmp 4)]
abbrev b8m:Nat:=69
def AJ:ZO:=YQ [(67,.pure (preT (fun _:Str×Unit=>true)) (Zb (fun x:Str×Unit=>KS x.1))),(68,.pure (preT (fun _:Str×Bool×Unit=>true)) (Zb (fun x:Str×Bool×Unit=>YJ x.1 x.2.1)))]
theorem d0l{G:PV->Prop}(n:Nd)(ks:List Tm)(h : ∃ y0:R3 Str Bool Bool,AV.pv (Zb (fun(x:Str×Unit)=>KS x.1) [(.str (Str.s (Nd.name n)))])=AV.pv (enc y0)∧(if (Nd.kind n != 6)=true then G ((.tup [(.str []),(.int .i64 0),(.bool false)]))else(if (!R3.c y0)=true then G ((.tup [(.str []),(.int .i64 0),(.bool false)]))else(if (decide (IntKind.wrap IntKind.i64 ((↑(List.length (List.map enc (Nd.sizes n))):Int)+(↑(List.length (List.map enc (Nd.ranks n))):Int))>0))=true then G ((.tup [(.str []),(.int .i64 0),(.bool false)]))else(if (Nd.num n != 0)=true then G ((.tup [(.str []),(.int .i64 0),(.bool false)]))else(if ((↑(List.length (List.map enc ks)):Int) != 1)=true then if (R3.b y0)=true then G ((.tup [(.str []),(.int .i64 0),(.bool false)]))else(if ((↑(List.length (List.map enc ks)):Int) != 2)=true then if (!R3.b y0)=true then G ((.tup [(.str []),(.int .i64 0),(.bool false)]))else(∃ y1:R3 Str Int Bool,AV.pv (Zb (fun(x:Str×Bool×Unit)=>YJ x.1 x.2.1) [(.str (Str.s (R3.a y0))),(.bool (R3.b y0))])=AV.pv (enc y1)∧(G ((.tup [(.str (Str.s (R3.a y0))),(.int .i64 (R3.b y1)),(.bool (R3.b y0))]))))else(∃ y2:R3 Str Int Bool,AV.pv (Zb (fun(x:Str×Bool×Unit)=>YJ x.1 x.2.1) [(.str (Str.s (R3.a y0))),(.bool (R3.b y0))])=AV.pv (enc y2)∧(G ((.tup [(.str (Str.s (R3.a y0))),(.int .i64 (R3.b y2)),(.bool (R3.b y0))])))))else(if ((↑(List.length (List.map enc ks)):Int) != 2)=true then if (!R3.b y0)=true then G ((.tup [(.str []),(.int .i64 0),(.bool false)]))else(∃ y3:R3 Str Int Bool,AV.pv (Zb (fun(x:Str×Bool×Unit)=>YJ x.1 x.2.1) [(.str (Str.s (R3.a y0))),(.bool (R3.b y0))])=AV.pv (enc y3)∧(G ((.tup [(.str (Str.s (R3.a y0))),(.int .i64 (R3.b y3)),(.bool (R3.b y0))]))))else(∃ y4:R3 Str Int Bool,AV.pv (Zb (fun(x:Str×Bool×Unit)=>YJ x.1 x.2.1) [(.str (Str.s (R3.a y0))),(.bool (R3.b y0))])=AV.pv (enc y4)∧(G ((.tup [(.str (Str.s (R3.a y0))),(.int .i64 (R3.b y4)),(.bool (R3.b y0))]))))))))))):Ze AJ 0 (Za Da G) TJ [] (Z0 69 [.agg [enc n.kind,enc n.line,enc n.name,enc n.num,enc n.elem,enc n.dims,enc n.data,enc n.sizes,enc n.ranks,enc ks]]):=Ze.tp (.lit (.abs (R3 Str Bool Bool) (fun YY=>AV.pv (enc YY)) (.lit (.ask (Zu 30) (Zl 2 (.ask (Zu 27) (Zl 10 (.ask (Zu 18) (Zl 4 (.ask (Zu 14) (Zl 5 (.ask (Zl 3 (.ask (Zu 7) (Zl 5 (.ask (Zl 4 (.ask (.nil) (.lit (.abs (R3 Str Int Bool) (fun YY=>AV.pv (enc YY)) (.nil))))) (Zl 6 (.abs (R3 Str Int Bool) (fun YY=>AV.pv (enc YY)) (.nil))))))) (Zl 9 (.ask (Zl 4 (.ask (.nil) (.lit (.abs (R3 Str Int Bool) (fun YY=>AV.pv (enc YY)) (.nil))))) (Zl 6 (.abs (R3 Str Int Bool) (fun YY=>AV.pv (enc YY)) (.nil))))))))))))))))) h (by kernel_rfl)
noncomputable def M6:IC:=Xu Proofs.Tryz.f36
def Au:List IRes:=[(.tmp 2)]
abbrev d0g:Nat:=34
def NP:ZO:=YQ [(34,.pure (preT (fun x:Tm×Unit=>tW x.1)) (Zb (fun x:Tm×Unit=>Hd x.1)))]
theorem d4l{G:PV->Prop}(n:Nd)(ks:List Tm)(h:(Go.Pl.preT (fun(x:Tm×Unit)=>tW x.1) (V4 n ks))=true∧(∃ y0:R3 Str Int Bool,AV.pv (Zb (fun(x:Tm×Unit)=>Hd x.1) (V4 n ks))=AV.pv (enc y0)∧(if (Nd.kind n==5)=true then G ((.int .i64 0))else(if (!Str.s (R3.a y0)==[])=true then G ((.int .i64 (R3.b y0)))else(if (Nd.kind n==2)=true then if (Str.s (Nd.name n)==[(105:UInt8),(110:UInt8),(116:UInt8)])=true then if (decide (Nd.num n<0))=true then G ((.int .i64 6))else(G ((.int .i64 7)))else(G ((.int .i64 7)))else(G ((.int .i64 7)))))))):Ze NP 0 (Za Au G) M6 [] (Z0 34 [.agg [enc n.kind,enc n.line,enc n.name,enc n.num,enc n.elem,enc n.dims,enc n.data,enc n.sizes,enc n.ranks,enc ks]]):=Ze.tp (.req (.abs (R3 Str Int Bool) (fun YY=>AV.pv (enc YY)) (.lit (.ask (.nil) (.lit (.ask (.nil) (.lit (.ask (Zl 4 (.ask (Zl 4 (.ask (.nil) (.nil))) (Zu 4))) (Zu 8))))))))) h (by kernel_rfl)
noncomputable def Lj:IC:=Xu Proofs.Tryz.f35
def Af:List IRes:=[(.tmp 4)]
abbrev c6l:Nat:=12
def MF(N:Nat):ZO:=YQ [(18,.pure (preT (fun x:Tm×Unit=>(tW x.1&&ZU x.1)&&decide (ZM x.1<N))) (Zb (fun x:Tm×Unit=>Zq x.1)))]
theorem d3l{G:PV->Prop}(N:Nat)(n:Nd)(ks:List Tm)(b:Bool)(h:if (b)=true then(Go.Pl.preT (fun(x:Tm×Unit)=>tW x.1&&ZU x.1&&decide (ZM x.1<N)) (V4 n ks))=true∧(∃ y0:Str,AV.pv (Zb (fun(x:Tm×Unit)=>Zq x.1) (V4 n ks))=AV.pv (enc y0)∧((decide (List.length [(40:UInt8)]+List.length (Str.s y0)<=1099511627776))=true∧((decide (List.length ([(40:UInt8)]++Str.s y0)+List.length [(41:UInt8)]<=1099511627776))=true∧(G ((.str ([(40:UInt8)]++Str.s y0++[(41:UInt8)])))))))else((Go.Pl.preT (fun(x:Tm×Unit)=>tW x.1&&ZU x.1&&decide (ZM x.1<N)) (V4 n ks))=true∧(∃ y1:Str,AV.pv (Zb (fun(x:Tm×Unit)=>Zq x.1) (V4 n ks))=AV.pv (enc y1)∧(G ((.str (Str.s y1))))))):Ze (MF N) 0 (Za Af G) Lj [] (Z0 12 [.agg [enc n.kind,enc n.line,enc n.name,enc n.num,enc n.elem,enc n.dims,enc n.data,enc n.sizes,enc n.ranks,enc ks],.bool b]):=Ze.tp (.ask (.req (.abs (Str) (fun YY=>AV.pv (enc YY)) (.req (.req (.nil))))) (.req (.abs (Str) (fun YY=>AV.pv (enc YY)) (.nil)))) h (by kernel_rfl)
noncomputable def Uo:IC:=Xu Proofs.Tryz.f39
def Un:List IRes:=[(.tmp 2)]
abbrev b8a:Nat:=23
def Qq(N:Nat):ZO:=YQ [(18,.pure (preT (fun x:Tm×Unit=>(tW x.1&&ZU x.1)&&decide (ZM x.1<N))) (Zb (fun x:Tm×Unit=>Zq x.1)))]
theorem d1b{G:PV->Prop}(N:Nat)(l:List Tm)(h:At (Qq N) 0 (Za Un G) Uo 0 23 [(0,(.pv (.sl 10 false (List.map enc l)))),(3,(.pv (.str []))),(4,(.pv (.int .i64 0)))] []):Ze (Qq N) 0 (Za Un G) Uo [] (Z0 23 [enc l]):=Ze.tp (.nil) h (by kernel_rfl)
theorem Eb{G:PV->Prop}(N:Nat)(l:List Tm)(o:List UInt8)(i:Int)(h:if (decide (i<(↑(List.length (List.map enc l)):Int)))=true then if (decide (i>0))=true then(decide (List.length o+List.length [(44:UInt8),(32:UInt8)]<=1099511627776))=true∧((decide (0<=i)&&decide (Int.toNat i<List.length (List.map enc l))&&Enc.sz Tm==10)=true∧(∃ y0:Tm,AV.pv (PV.rptr (PV.cells (List.getD (List.map enc l) (Int.toNat i) default)))=AV.pv (PV.rptr (PV.cells ((enc) y0)))∧(Cb y0=true∧((Go.Pl.preT (fun(x:Tm×Unit)=>tW x.1&&ZU x.1&&decide (ZM x.1<N)) (Wd y0))=true∧(∃ y1:Str,AV.pv (Zb (fun(x:Tm×Unit)=>Zq x.1) (Wd y0))=AV.pv (enc y1)∧((decide (List.length (o++[(44:UInt8),(32:UInt8)])+List.length (Str.s y1)<=1099511627776))=true∧(At (Qq N) 0 (Za Un G) Uo 0 23 [(0,(.pv (.sl 10 false (List.map enc l)))),(3,(.pv (.str (o++[(44:UInt8),(32:UInt8)]++Str.s y1)))),(4,(.pv (.int .i64 (IntKind.wrap IntKind.i64 (i+1)))))] [])))))))else((decide (0<=i)&&decide (Int.toNat i<List.length (List.map enc l))&&Enc.sz Tm==10)=true∧(∃ y2:Tm,AV.pv (PV.rptr (PV.cells (List.getD (List.map enc l) (Int.toNat i) default)))=AV.pv (PV.rptr (PV.cells ((enc) y2)))∧(Cb y2=true∧((Go.Pl.preT (fun(x:Tm×Unit)=>tW x.1&&ZU x.1&&decide (ZM x.1<N)) (Wd y2))=true∧(∃ y3:Str,AV.pv (Zb (fun(x:Tm×Unit)=>Zq x.1) (Wd y2))=AV.pv (enc y3)∧((decide (List.length o+List.length (Str.s y3)<=1099511627776))=true∧(At (Qq N) 0 (Za Un G) Uo 0 23 [(0,(.pv (.sl 10 false (List.map enc l)))),(3,(.pv (.str (o++Str.s y3)))),(4,(.pv (.int .i64 (IntKind.wrap IntKind.i64 (i+1)))))] [])))))))else(G ((.str o)))):At (Qq N) 0 (Za Un G) Uo 0 23 [(0,.pv (enc l)),(3,.pv (.str o)),(4,.pv (.int .i64 i))] []:=At.tp (.lit (.ask (.lit (.ask (.req (.req (.abs (Tm) (fun YY=>AV.pv (PV.rptr (PV.cells ((enc) YY)))) (.req (.req (.abs (Str) (fun YY=>AV.pv (enc YY)) (.req (.lit (.nil))))))))) (.req (.abs (Tm) (fun YY=>AV.pv (PV.rptr (PV.cells ((enc) YY)))) (.req (.req (.abs (Str) (fun YY=>AV.pv (enc YY)) (.req (.lit (.nil)))))))))) (.nil))) h (by kernel_rfl)
noncomputable def Vp:IC:=Xu Proofs.Tryz.f69
def Vs:List IRes:=[(.tmp 2)]
abbrev b1e:Nat:=23
def Ur:ZO:=YQ [(40,.pure (preT (fun x:Lin×Unit=>Ws x.1)) (Zb (fun x:Lin×Unit=>(⟨ZY x.1⟩:Str))))]
theorem c0o{G:PV->Prop}(l:List Lin)(h:At Ur 0 (Za Vs G) Vp 0 23 [(0,(.pv (.sl 2 false (List.map enc l)))),(3,(.pv (.str []))),(4,(.pv (.int .i64 0)))] []):Ze Ur 0 (Za Vs G) Vp [] (Z0 23 [enc l]):=Ze.tp (.nil) h (by kernel_rfl)
theorem Nb{G:PV->Prop}(l:List Lin)(o:List UInt8)(i:Int)(h:if (decide (i<(↑(List.length (List.map enc l)):Int)))=true then if (decide (i>0))=true then(decide (List.length o+List.length [(44:UInt8),(32:UInt8)]<=1099511627776))=true∧((decide (0<=i)&&decide (Int.toNat i<List.length (List.map enc l))&&Enc.sz Lin==2)=true∧(∃ y0:Lin,AV.pv (PV.rptr (PV.cells (List.getD (List.map enc l) (Int.toNat i) default)))=AV.pv (PV.rptr (PV.cells ((enc) y0)))∧((Go.Pl.preT (fun(x:Lin×Unit)=>Ws x.1) [(.agg [(.int .i64 (PV.asInt (List.getD (PV.cells (enc y0)) 0 default))),(.sl 2 false (PV.asXs (List.getD (PV.cells (enc y0)) (0+1) default)))])])=true∧(∃ y1:Str,AV.pv (Zb (fun(x:Lin×Unit)=>Str.mk (ZY x.1)) [(.agg [(.int .i64 (PV.asInt (List.getD (PV.cells (enc y0)) 0 default))),(.sl 2 false (PV.asXs (List.getD (PV.cells (enc y0)) (0+1) default)))])])=AV.pv (enc y1)∧((decide (List.length (o++[(44:UInt8),(32:UInt8)])+List.length (Str.s y1)<=1099511627776))=true∧(At Ur 0 (Za Vs G) Vp 0 23 [(0,(.pv (.sl 2 false (List.map enc l)))),(3,(.pv (.str (o++[(44:UInt8),(32:UInt8)]++Str.s y1)))),(4,(.pv (.int .i64 (IntKind.wrap IntKind.i64 (i+1)))))] []))))))else((decide (0<=i)&&decide (Int.toNat i<List.length (List.map enc l))&&Enc.sz Lin==2)=true∧(∃ y2:Lin,AV.pv (PV.rptr (PV.cells (List.getD (List.map enc l) (Int.toNat i) default)))=AV.pv (PV.rptr (PV.cells ((enc) y2)))∧((Go.Pl.preT (fun(x:Lin×Unit)=>Ws x.1) [(.agg [(.int .i64 (PV.asInt (List.getD (PV.cells (enc y2)) 0 default))),(.sl 2 false (PV.asXs (List.getD (PV.cells (enc y2)) (0+1) default)))])])=true∧(∃ y3:Str,AV.pv (Zb (fun(x:Lin×Unit)=>Str.mk (ZY x.1)) [(.agg [(.int .i64 (PV.asInt (List.getD (PV.cells (enc y2)) 0 default))),(.sl 2 false (PV.asXs (List.getD (PV.cells (enc y2)) (0+1) default)))])])=AV.pv (enc y3)∧((decide (List.length o+List.length (Str.s y3)<=1099511627776))=true∧(At Ur 0 (Za Vs G) Vp 0 23 [(0,(.pv (.sl 2 false (List.map enc l)))),(3,(.pv (.str (o++Str.s y3)))),(4,(.pv (.int .i64 (IntKind.wrap IntKind.i64 (i+1)))))] []))))))else(G ((.str o)))):At Ur 0 (Za Vs G) Vp 0 23 [(0,.pv (enc l)),(3,.pv (.str o)),(4,.pv (.int .i64 i))] []:=At.tp (.lit (.ask (.lit (.ask (.req (.req (.abs (Lin) (fun YY=>AV.pv (PV.rptr (PV.cells ((enc) YY)))) (.lit (.req (.abs (Str) (fun YY=>AV.pv (enc YY)) (.req (.lit (.nil))))))))) (.req (.abs (Lin) (fun YY=>AV.pv (PV.rptr (PV.cells ((enc) YY)))) (.lit (.req (.abs (Str) (fun YY=>AV.pv (enc YY)) (.req (.lit (.nil)))))))))) (.nil))) h (by kernel_rfl)
noncomputable def XI:IC:=Xu Proofs.Tryz.f38
def Xk:List IRes:=[(.tmp 2)]
abbrev c1g:Nat:=64
def X9(N:Nat):ZO:=YQ [(69,.pure (preT (fun x:List Lin×Unit=>decide (x.1.length<=1048576)&&x.1.all Zp)) (Zb (fun x:List Lin×Unit=>Yh (x.1.map Yz)))),(37,.pure (preT (fun x:Int×Unit=>decide (x.1.natAbs<9223372036854775808))) (Zb (fun x:Int×Unit=>Zn x.1))),(39,.pure (preT (fun x:List Tm×Unit=>(Ca x.1&&YP x.1)&&decide (ZW x.1<N))) (Zb (fun x:List Tm×Unit=>Yh (x.1.map Zq))))]
theorem c7m{G:PV->Prop}(N:Nat)(n:Nd)(ks:List Tm)(h:if (decide ((↑(List.length (List.map enc (Nd.sizes n))):Int)>0))=true then(Go.Pl.preT (fun(x:List Lin×Unit)=>decide (List.length x.1<=1048576)&&List.all x.1 Zp) [(.sl 2 false (List.map enc (Nd.sizes n)))])=true∧(∃ y0:Str,AV.pv (Zb (fun(x:List Lin×Unit)=>Yh (List.map Yz x.1)) [(.sl 2 false (List.map enc (Nd.sizes n)))])=AV.pv (enc y0)∧((decide (List.length [(91:UInt8)]+List.length (Str.s y0)<=1099511627776))=true∧((decide (List.length ([(91:UInt8)]++Str.s y0)+List.length [(93:UInt8)]<=1099511627776))=true∧((decide (List.length (Str.s (Nd.name n))+List.length ([(91:UInt8)]++Str.s y0++[(93:UInt8)])<=1099511627776))=true∧(if (Nd.num n != 0)=true then(Go.Pl.preT (fun(x:Int×Unit)=>decide (Int.natAbs x.1<9223372036854775808)) [(.int .i64 (Nd.num n))])=true∧(∃ y1:Str,AV.pv (Zb (fun(x:Int×Unit)=>Zn x.1) [(.int .i64 (Nd.num n))])=AV.pv (enc y1)∧((decide (List.length [(123:UInt8)]+List.length (Str.s y1)<=1099511627776))=true∧((decide (List.length ([(123:UInt8)]++Str.s y1)+List.length [(125:UInt8)]<=1099511627776))=true∧((decide (List.length (Str.s (Nd.name n)++([(91:UInt8)]++Str.s y0++[(93:UInt8)]))+List.length ([(123:UInt8)]++Str.s y1++[(125:UInt8)])<=1099511627776))=true∧(At (X9 N) 0 (Za Xk G) XI 0 64 [(1,(.ptr 0 0)),(3,(.pv (.str (Str.s (Nd.name n)++([(91:UInt8)]++Str.s y0++[(93:UInt8)])++([(123:UInt8)]++Str.s y1++[(125:UInt8)]))))),(4,(.pv (.int .i64 0)))] [(.obj (.box (Z7 n ks)))])))))else(At (X9 N) 0 (Za Xk G) XI 0 64 [(1,(.ptr 0 0)),(3,(.pv (.str (Str.s (Nd.name n)++([(91:UInt8)]++Str.s y0++[(93:UInt8)]))))),(4,(.pv (.int .i64 0)))] [(.obj (.box (Z7 n ks)))]))))))else(if (Nd.num n != 0)=true then(Go.Pl.preT (fun(x:Int×Unit)=>decide (Int.natAbs x.1<9223372036854775808)) [(.int .i64 (Nd.num n))])=true∧(∃ y2:Str,AV.pv (Zb (fun(x:Int×Unit)=>Zn x.1) [(.int .i64 (Nd.num n))])=AV.pv (enc y2)∧((decide (List.length [(123:UInt8)]+List.length (Str.s y2)<=1099511627776))=true∧((decide (List.length ([(123:UInt8)]++Str.s y2)+List.length [(125:UInt8)]<=1099511627776))=true∧((decide (List.length (Str.s (Nd.name n))+List.length ([(123:UInt8)]++Str.s y2++[(125:UInt8)])<=1099511627776))=true∧(At (X9 N) 0 (Za Xk G) XI 0 64 [(1,(.ptr 0 0)),(3,(.pv (.str (Str.s (Nd.name n)++([(123:UInt8)]++Str.s y2++[(125:UInt8)]))))),(4,(.pv (.int .i64 0)))] [(.obj (.box (Z7 n ks)))])))))else(At (X9 N) 0 (Za Xk G) XI 0 64 [(1,(.ptr 0 0)),(3,(.pv (.str (Str.s (Nd.name n))))),(4,(.pv (.int .i64 0)))] [(.obj (.box (Z7 n ks)))]))):Ze (X9 N) 0 (Za Xk G) XI [] (Z0 64 [.agg [enc n.kind,enc n.line,enc n.name,enc n.num,enc n.elem,enc n.dims,enc n.data,enc n.sizes,enc n.ranks,enc ks]]):=Ze.tp (.lit (.ask (.req (.abs (Str) (fun YY=>AV.pv (enc YY)) (.req (.req (.req (.lit (.ask (.req (.abs (Str) (fun YY=>AV.pv (enc YY)) (.req (.req (.req (.nil)))))) (.nil)))))))) (.lit (.ask (.req (.abs (Str) (fun YY=>AV.pv (enc YY)) (.req (.req (.req (.nil)))))) (.nil))))) h (by kernel_rfl)
theorem OI{G:PV->Prop}(N:Nat)(n:Nd)(ks:List Tm)(o:List UInt8)(i:Int)(h:if (decide (i<(↑(List.length (List.map enc (Nd.ranks n))):Int)))=true then if (i==0)=true then(decide (List.length o+List.length [(64:UInt8),(40:UInt8)]<=1099511627776))=true∧((decide (0<=i)&&decide (Int.toNat i<List.length (List.map enc (Nd.ranks n)))&&Enc.sz Int==1)=true∧(∃ y0:Int,AV.pv (PV.rptr (PV.cells (List.getD (List.map enc (Nd.ranks n)) (Int.toNat i) default)))=AV.pv (PV.rptr (PV.cells ((enc) y0)))∧((Go.Pl.preT (fun(x:Int×Unit)=>decide (Int.natAbs x.1<9223372036854775808)) [(.int .i64 (PV.asInt (List.getD (PV.cells (enc y0)) 0 default)))])=true∧(∃ y1:Str,AV.pv (Zb (fun(x:Int×Unit)=>Zn x.1) [(.int .i64 (PV.asInt (List.getD (PV.cells (enc y0)) 0 default)))])=AV.pv (enc y1)∧((decide (List.length (o++[(64:UInt8),(40:UInt8)])+List.length (Str.s y1)<=1099511627776))=true∧(if (i==IntKind.wrap IntKind.i64 ((↑(List.length (List.map enc (Nd.ranks n))):Int) - 1))=true then(decide (List.length (o++[(64:UInt8),(40:UInt8)]++Str.s y1)+List.length [(41:UInt8)]<=1099511627776))=true∧(At (X9 N) 0 (Za Xk G) XI 0 64 [(1,(.ptr 0 0)),(3,(.pv (.str (o++[(64:UInt8),(40:UInt8)]++Str.s y1++[(41:UInt8)])))),(4,(.pv (.int .i64 (IntKind.wrap IntKind.i64 (i+1)))))] [(.obj (.box (Z7 n ks)))])else(At (X9 N) 0 (Za Xk G) XI 0 64 [(1,(.ptr 0 0)),(3,(.pv (.str (o++[(64:UInt8),(40:UInt8)]++Str.s y1)))),(4,(.pv (.int .i64 (IntKind.wrap IntKind.i64 (i+1)))))] [(.obj (.box (Z7 n ks)))])))))))else((decide (List.length o+List.length [(44:UInt8),(32:UInt8)]<=1099511627776))=true∧((decide (0<=i)&&decide (Int.toNat i<List.length (List.map enc (Nd.ranks n)))&&Enc.sz Int==1)=true∧(∃ y2:Int,AV.pv (PV.rptr (PV.cells (List.getD (List.map enc (Nd.ranks n)) (Int.toNat i) default)))=AV.pv (PV.rptr (PV.cells ((enc) y2)))∧((Go.Pl.preT (fun(x:Int×Unit)=>decide (Int.natAbs x.1<9223372036854775808)) [(.int .i64 (PV.asInt (List.getD (PV.cells (enc y2)) 0 default)))])=true∧(∃ y3:Str,AV.pv (Zb (fun(x:Int×Unit)=>Zn x.1) [(.int .i64 (PV.asInt (List.getD (PV.cells (enc y2)) 0 default)))])=AV.pv (enc y3)∧((decide (List.length (o++[(44:UInt8),(32:UInt8)])+List.length (Str.s y3)<=1099511627776))=true∧(if (i==IntKind.wrap IntKind.i64 ((↑(List.length (List.map enc (Nd.ranks n))):Int) - 1))=true then(decide (List.length (o++[(44:UInt8),(32:UInt8)]++Str.s y3)+List.length [(41:UInt8)]<=1099511627776))=true∧(At (X9 N) 0 (Za Xk G) XI 0 64 [(1,(.ptr 0 0)),(3,(.pv (.str (o++[(44:UInt8),(32:UInt8)]++Str.s y3++[(41:UInt8)])))),(4,(.pv (.int .i64 (IntKind.wrap IntKind.i64 (i+1)))))] [(.obj (.box (Z7 n ks)))])else(At (X9 N) 0 (Za Xk G) XI 0 64 [(1,(.ptr 0 0)),(3,(.pv (.str (o++[(44:UInt8),(32:UInt8)]++Str.s y3)))),(4,(.pv (.int .i64 (IntKind.wrap IntKind.i64 (i+1)))))] [(.obj (.box (Z7 n ks)))]))))))))else((decide (List.length o+List.length [(40:UInt8)]<=1099511627776))=true∧((Go.Pl.preT (fun(x:List Tm×Unit)=>Ca x.1&&YP x.1&&decide (ZW x.1<N)) [(.sl 10 false (List.map enc ks))])=true∧(∃ y4:Str,AV.pv (Zb (fun(x:List Tm×Unit)=>Yh (List.map Zq x.1)) [(.sl 10 false (List.map enc ks))])=AV.pv (enc y4)∧((decide (List.length (o++[(40:UInt8)])+List.length (Str.s y4)<=1099511627776))=true∧((decide (List.length (o++[(40:UInt8)]++Str.s y4)+List.length [(41:UInt8)]<=1099511627776))=true∧(G ((.str (o++[(40:UInt8)]++Str.s y4++[(41:UInt8)])))))))))):At (X9 N) 0 (Za Xk G) XI 0 64 [(1,.ptr 0 0),(3,.pv (.str o)),(4,.pv (.int .i64 i))] [.obj (.box [.pv (enc n.kind),.pv (enc n.line),.pv (enc n.name),.pv (enc n.num),.pv (enc n.elem),.pv (enc n.dims),.pv (enc n.data),.pv (enc n.sizes),.pv (enc n.ranks),.pv (enc ks)])]:=At.tp (.lit (.ask (.lit (.ask (.req (.req (.abs (Int) (fun YY=>AV.pv (PV.rptr (PV.cells ((enc) YY)))) (.lit (.req (.abs (Str) (fun YY=>AV.pv (enc YY)) (.req (Zl 2 (.ask (.req (.lit (.nil))) (.lit (.nil))))))))))) (.req (.req (.abs (Int) (fun YY=>AV.pv (PV.rptr (PV.cells ((enc) YY)))) (.lit (.req (.abs (Str) (fun YY=>AV.pv (enc YY)) (.req (Zl 2 (.ask (.req (.lit (.nil))) (.lit (.nil))))))))))))) (.req (.req (.abs (Str) (fun YY=>AV.pv (enc YY)) (.req (.req (.nil)))))))) h (by kernel_rfl)
noncomputable def Sb:IC:=Xu Proofs.Tryz.f18
def GR:List IRes:=[(.tmp 2)]
abbrev b8q:Nat:=173
def AQ(N:Nat):ZO:=YQ [(34,.pure (preT (fun x:Tm×Unit=>tW x.1)) (Zb (fun x:Tm×Unit=>Hd x.1))),(36,.pure (preT (fun x:Tm×Unit=>tW x.1)) (Zb (fun x:Tm×Unit=>YV x.1))),(35,.pure (preT (fun x:Tm×Bool×Unit=>(tW x.1&&ZU x.1)&&decide (ZM x.1<N))) (Zb (fun x:Tm×Bool×Unit=>VE x.2.1 x.1))),(18,.pure (preT (fun x:Tm×Unit=>(tW x.1&&ZU x.1)&&decide (ZM x.1<N))) (Zb (fun x:Tm×Unit=>Zq x.1))),(37,.pure (preT (fun x:Int×Unit=>decide (x.1.natAbs<9223372036854775808))) (Zb (fun x:Int×Unit=>Zn x.1))),(38,.pure (preT (fun x:Tm×Unit=>(tW x.1&&ZU x.1&&decide (x.1.nd.kind=6))&&decide (ZW x.1.ks<N))) (Zb (fun x:Tm×Unit=>Qf x.1))),(39,.pure (preT (fun x:List Tm×Unit=>(Ca x.1&&YP x.1)&&decide (ZW x.1<N))) (Zb (fun x:List Tm×Unit=>Yh (x.1.map Zq)))),(40,.pure (preT (fun x:Lin×Unit=>Ws x.1)) (Zb (fun x:Lin×Unit=>(⟨ZY x.1⟩:Str)))),(41,.pure (preT (fun x:Arr×Unit=>WQ x.1&&X8 x.1)) (Zb (fun x:Arr×Unit=>Q9 x.1)))]
theorem d0m{G:PV->Prop}(N:Nat)(n:Nd)(ks:List Tm)(h:(Go.Pl.preT (fun(x:Tm×Unit)=>tW x.1) (V4 n ks))=true∧(∃ y0:R3 Str Int Bool,AV.pv (Zb (fun(x:Tm×Unit)=>Hd x.1) (V4 n ks))=AV.pv (enc y0)∧(if (!Str.s (R3.a y0)==[])=true then if (R3.c y0)=true then(decide (0<=0)&&decide (Int.toNat 0<List.length (List.map enc ks))&&Enc.sz Tm==10)=true∧(∃ y1:Tm,AV.pv (PV.rptr (PV.cells (List.getD (List.map enc ks) (Int.toNat 0) default)))=AV.pv (PV.rptr (PV.cells ((enc) y1)))∧(Cb y1=true∧((Go.Pl.preT (fun(x:Tm×Unit)=>tW x.1) (Wd y1))=true∧(∃ y2:Int,AV.pv (Zb (fun(x:Tm×Unit)=>YV x.1) (Wd y1))=AV.pv (enc y2)∧(if (decide (y2<6))=true then(Go.Pl.preT (fun(x:Tm×Bool×Unit)=>tW x.1&&ZU x.1&&decide (ZM x.1<N)) (K6 y1 true))=true∧(∃ y3:Str,AV.pv (Zb (fun(x:Tm×Bool×Unit)=>VE x.2.1 x.1) (K6 y1 true))=AV.pv (enc y3)∧((decide (List.length (Str.s (R3.a y0))+List.length (Str.s y3)<=1099511627776))=true∧(G ((.str (Str.s (R3.a y0)++Str.s y3))))))else(if (Str.s (R3.a y0)==[(45:UInt8)])=true then if (PV.asInt (List.getD (PV.cells (enc y1)) 0 default)==2)=true then if (PV.asStr (List.getD (PV.cells (enc y1)) (0+1+1) default)==[(105:UInt8),(110:UInt8),(116:UInt8)])=true then(Go.Pl.preT (fun(x:Tm×Bool×Unit)=>tW x.1&&ZU x.1&&decide (ZM x.1<N)) (K6 y1 (decide (PV.asInt (List.getD (PV.cells (enc y1)) (0+1+1+1) default) ≥ 0))))=true∧(∃ y4:Str,AV.pv (Zb (fun(x:Tm×Bool×Unit)=>VE x.2.1 x.1) (K6 y1 (decide (PV.asInt (List.getD (PV.cells (enc y1)) (0+1+1+1) default) ≥ 0))))=AV.pv (enc y4)∧((decide (List.length (Str.s (R3.a y0))+List.length (Str.s y4)<=1099511627776))=true∧(G ((.str (Str.s (R3.a y0)++Str.s y4))))))else((Go.Pl.preT (fun(x:Tm×Bool×Unit)=>tW x.1&&ZU x.1&&decide (ZM x.1<N)) (K6 y1 false))=true∧(∃ y5:Str,AV.pv (Zb (fun(x:Tm×Bool×Unit)=>VE x.2.1 x.1) (K6 y1 false))=AV.pv (enc y5)∧((decide (List.length (Str.s (R3.a y0))+List.length (Str.s y5)<=1099511627776))=true∧(G ((.str (Str.s (R3.a y0)++Str.s y5)))))))else((Go.Pl.preT (fun(x:Tm×Bool×Unit)=>tW x.1&&ZU x.1&&decide (ZM x.1<N)) (K6 y1 false))=true∧(∃ y6:Str,AV.pv (Zb (fun(x:Tm×Bool×Unit)=>VE x.2.1 x.1) (K6 y1 false))=AV.pv (enc y6)∧((decide (List.length (Str.s (R3.a y0))+List.length (Str.s y6)<=1099511627776))=true∧(G ((.str (Str.s (R3.a y0)++Str.s y6)))))))else((Go.Pl.preT (fun(x:Tm×Bool×Unit)=>tW x.1&&ZU x.1&&decide (ZM x.1<N)) (K6 y1 false))=true∧(∃ y7:Str,AV.pv (Zb (fun(x:Tm×Bool×Unit)=>VE x.2.1 x.1) (K6 y1 false))=AV.pv (enc y7)∧((decide (List.length (Str.s (R3.a y0))+List.length (Str.s y7)<=1099511627776))=true∧(G ((.str (Str.s (R3.a y0)++Str.s y7)))))))))))))else(if (!Str.s (R3.a y0)==[])=true then(decide (0<=0)&&decide (Int.toNat 0<List.length (List.map enc ks))&&Enc.sz Tm==10)=true∧(∃ y8:Tm,AV.pv (PV.rptr (PV.cells (List.getD (List.map enc ks) (Int.toNat 0) default)))=AV.pv (PV.rptr (PV.cells ((enc) y8)))∧(Cb y8=true∧((decide (0<=1)&&decide (Int.toNat 1<List.length (List.map enc ks))&&Enc.sz Tm==10)=true∧(∃ y9:Tm,AV.pv (PV.rptr (PV.cells (List.getD (List.map enc ks) (Int.toNat 1) default)))=AV.pv (PV.rptr (PV.cells ((enc) y9)))∧(Cb y9=true∧((Go.Pl.preT (fun(x:Tm×Unit)=>tW x.1) (Wd y8))=true∧(∃ y10:Int,AV.pv (Zb (fun(x:Tm×Unit)=>YV x.1) (Wd y8))=AV.pv (enc y10)∧(if (decide (y10<R3.b y0))=true then(Go.Pl.preT (fun(x:Tm×Bool×Unit)=>tW x.1&&ZU x.1&&decide (ZM x.1<N)) (K6 y8 true))=true∧(∃ y11:Str,AV.pv (Zb (fun(x:Tm×Bool×Unit)=>VE x.2.1 x.1) (K6 y8 true))=AV.pv (enc y11)∧((decide (List.length (Str.s y11)+List.length [(32:UInt8)]<=1099511627776))=true∧((decide (List.length (Str.s y11++[(32:UInt8)])+List.length (Str.s (R3.a y0))<=1099511627776))=true∧((decide (List.length (Str.s y11++[(32:UInt8)]++Str.s (R3.a y0))+List.length [(32:UInt8)]<=1099511627776))=true∧((Go.Pl.preT (fun(x:Tm×Unit)=>tW x.1) (Wd y9))=true∧(∃ y12:Int,AV.pv (Zb (fun(x:Tm×Unit)=>YV x.1) (Wd y9))=AV.pv (enc y12)∧((Go.Pl.preT (fun(x:Tm×Bool×Unit)=>tW x.1&&ZU x.1&&decide (ZM x.1<N)) (K6 y9 (decide (y12<=R3.b y0))))=true∧(∃ y13:Str,AV.pv (Zb (fun(x:Tm×Bool×Unit)=>VE x.2.1 x.1) (K6 y9 (decide (y12<=R3.b y0))))=AV.pv (enc y13)∧((decide (List.length (Str.s y11++[(32:UInt8)]++Str.s (R3.a y0)++[(32:UInt8)])+List.length (Str.s y13)<=1099511627776))=true∧(G ((.str (Str.s y11++[(32:UInt8)]++Str.s (R3.a y0)++[(32:UInt8)]++Str.s y13)))))))))))))else((Go.Pl.preT (fun(x:Tm×Unit)=>tW x.1) (Wd y8))=true∧(∃ y14:Int,AV.pv (Zb (fun(x:Tm×Unit)=>YV x.1) (Wd y8))=AV.pv (enc y14)∧(if (y14==3)=true then(Go.Pl.preT (fun(x:Tm×Bool×Unit)=>tW x.1&&ZU x.1&&decide (ZM x.1<N)) (K6 y8 (R3.b y0==3)))=true∧(∃ y15:Str,AV.pv (Zb (fun(x:Tm×Bool×Unit)=>VE x.2.1 x.1) (K6 y8 (R3.b y0==3)))=AV.pv (enc y15)∧((decide (List.length (Str.s y15)+List.length [(32:UInt8)]<=1099511627776))=true∧((decide (List.length (Str.s y15++[(32:UInt8)])+List.length (Str.s (R3.a y0))<=1099511627776))=true∧((decide (List.length (Str.s y15++[(32:UInt8)]++Str.s (R3.a y0))+List.length [(32:UInt8)]<=1099511627776))=true∧((Go.Pl.preT (fun(x:Tm×Unit)=>tW x.1) (Wd y9))=true∧(∃ y16:Int,AV.pv (Zb (fun(x:Tm×Unit)=>YV x.1) (Wd y9))=AV.pv (enc y16)∧((Go.Pl.preT (fun(x:Tm×Bool×Unit)=>tW x.1&&ZU x.1&&decide (ZM x.1<N)) (K6 y9 (decide (y16<=R3.b y0))))=true∧(∃ y17:Str,AV.pv (Zb (fun(x:Tm×Bool×Unit)=>VE x.2.1 x.1) (K6 y9 (decide (y16<=R3.b y0))))=AV.pv (enc y17)∧((decide (List.length (Str.s y15++[(32:UInt8)]++Str.s (R3.a y0)++[(32:UInt8)])+List.length (Str.s y17)<=1099511627776))=true∧(G ((.str (Str.s y15++[(32:UInt8)]++Str.s (R3.a y0)++[(32:UInt8)]++Str.s y17)))))))))))))else((Go.Pl.preT (fun(x:Tm×Bool×Unit)=>tW x.1&&ZU x.1&&decide (ZM x.1<N)) (K6 y8 false))=true∧(∃ y18:Str,AV.pv (Zb (fun(x:Tm×Bool×Unit)=>VE x.2.1 x.1) (K6 y8 false))=AV.pv (enc y18)∧((decide (List.length (Str.s y18)+List.length [(32:UInt8)]<=1099511627776))=true∧((decide (List.length (Str.s y18++[(32:UInt8)])+List.length (Str.s (R3.a y0))<=1099511627776))=true∧((decide (List.length (Str.s y18++[(32:UInt8)]++Str.s (R3.a y0))+List.length [(32:UInt8)]<=1099511627776))=true∧((Go.Pl.preT (fun(x:Tm×Unit)=>tW x.1) (Wd y9))=true∧(∃ y19:Int,AV.pv (Zb (fun(x:Tm×Unit)=>YV x.1) (Wd y9))=AV.pv (enc y19)∧((Go.Pl.preT (fun(x:Tm×Bool×Unit)=>tW x.1&&ZU x.1&&decide (ZM x.1<N)) (K6 y9 (decide (y19<=R3.b y0))))=true∧(∃ y20:Str,AV.pv (Zb (fun(x:Tm×Bool×Unit)=>VE x.2.1 x.1) (K6 y9 (decide (y19<=R3.b y0))))=AV.pv (enc y20)∧((decide (List.length (Str.s y18++[(32:UInt8)]++Str.s (R3.a y0)++[(32:UInt8)])+List.length (Str.s y20)<=1099511627776))=true∧(G ((.str (Str.s y18++[(32:UInt8)]++Str.s (R3.a y0)++[(32:UInt8)]++Str.s y20)))))))))))))))))))))))))else(if (Nd.kind n==5)=true then(decide (List.length [(108:UInt8),(101:UInt8),(116:UInt8),(32:UInt8)]+List.length (Str.s (Nd.name n))<=1099511627776))=true∧((decide (List.length ([(108:UInt8),(101:UInt8),(116:UInt8),(32:UInt8)]++Str.s (Nd.name n))+List.length [(32:UInt8),(61:UInt8),(32:UInt8)]<=1099511627776))=true∧((decide (0<=0)&&decide (Int.toNat 0<List.length (List.map enc ks))&&Enc.sz Tm==10)=true∧(∃ y21:Tm,AV.pv (PV.rptr (PV.cells (List.getD (List.map enc ks) (Int.toNat 0) default)))=AV.pv (PV.rptr (PV.cells ((enc) y21)))∧(Cb y21=true∧((Go.Pl.preT (fun(x:Tm×Unit)=>tW x.1&&ZU x.1&&decide (ZM x.1<N)) (Wd y21))=true∧(∃ y22:Str,AV.pv (Zb (fun(x:Tm×Unit)=>Zq x.1) (Wd y21))=AV.pv (enc y22)∧((decide (List.length ([(108:UInt8),(101:UInt8),(116:UInt8),(32:UInt8)]++Str.s (Nd.name n)++[(32:UInt8),(61:UInt8),(32:UInt8)])+List.length (Str.s y22)<=1099511627776))=true∧((decide (List.length ([(108:UInt8),(101:UInt8),(116:UInt8),(32:UInt8)]++Str.s (Nd.name n)++[(32:UInt8),(61:UInt8),(32:UInt8)]++Str.s y22)+List.length [(32:UInt8),(105:UInt8),(110:UInt8),(32:UInt8)]<=1099511627776))=true∧((decide (0<=1)&&decide (Int.toNat 1<List.length (List.map enc ks))&&Enc.sz Tm==10)=true∧(∃ y23:Tm,AV.pv (PV.rptr (PV.cells (List.getD (List.map enc ks) (Int.toNat 1) default)))=AV.pv (PV.rptr (PV.cells ((enc) y23)))∧(Cb y23=true∧((Go.Pl.preT (fun(x:Tm×Unit)=>tW x.1&&ZU x.1&&decide (ZM x.1<N)) (Wd y23))=true∧(∃ y24:Str,AV.pv (Zb (fun(x:Tm×Unit)=>Zq x.1) (Wd y23))=AV.pv (enc y24)∧((decide (List.length ([(108:UInt8),(101:UInt8),(116:UInt8),(32:UInt8)]++Str.s (Nd.name n)++[(32:UInt8),(61:UInt8),(32:UInt8)]++Str.s y22++[(32:UInt8),(105:UInt8),(110:UInt8),(32:UInt8)])+List.length (Str.s y24)<=1099511627776))=true∧(G ((.str ([(108:UInt8),(101:UInt8),(116:UInt8),(32:UInt8)]++Str.s (Nd.name n)++[(32:UInt8),(61:UInt8),(32:UInt8)]++Str.s y22++[(32:UInt8),(105:UInt8),(110:UInt8),(32:UInt8)]++Str.s y24))))))))))))))))))else(if (Nd.kind n==2)=true then if (Str.s (Nd.name n)==[(105:UInt8),(110:UInt8),(116:UInt8)])=true then(Go.Pl.preT (fun(x:Int×Unit)=>decide (Int.natAbs x.1<9223372036854775808)) [(.int .i64 (Nd.num n))])=true∧(∃ y25:Str,AV.pv (Zb (fun(x:Int×Unit)=>Zn x.1) [(.int .i64 (Nd.num n))])=AV.pv (enc y25)∧(G ((.str (Str.s y25)))))else(if (Nd.num n==1)=true then G ((.str [(116:UInt8),(114:UInt8),(117:UInt8),(101:UInt8)]))else(G ((.str [(102:UInt8),(97:UInt8),(108:UInt8),(115:UInt8),(101:UInt8)]))))else(if (Nd.kind n==6)=true then(Go.Pl.preT (fun(x:Tm×Unit)=>tW x.1&&ZU x.1&&decide (Nd.kind (Tm.nd x.1)=6)&&decide (ZW (Tm.ks x.1)<N)) (V4 n ks))=true∧(∃ y26:Str,AV.pv (Zb (fun(x:Tm×Unit)=>Qf x.1) (V4 n ks))=AV.pv (enc y26)∧(G ((.str (Str.s y26)))))else(if (Nd.kind n==7)=true then(Go.Pl.preT (fun(x:List Tm×Unit)=>Ca x.1&&YP x.1&&decide (ZW x.1<N)) [(.sl 10 false (List.map enc ks))])=true∧(∃ y27:Str,AV.pv (Zb (fun(x:List Tm×Unit)=>Yh (List.map Zq x.1)) [(.sl 10 false (List.map enc ks))])=AV.pv (enc y27)∧((decide (List.length [(91:UInt8)]+List.length (Str.s y27)<=1099511627776))=true∧((decide (List.length ([(91:UInt8)]++Str.s y27)+List.length [(93:UInt8)]<=1099511627776))=true∧(G ((.str ([(91:UInt8)]++Str.s y27++[(93:UInt8)])))))))else(if (Nd.kind n==8)=true then(decide (List.length [(102:UInt8),(111:UInt8),(108:UInt8),(100:UInt8),(40:UInt8)]+List.length (Str.s (Nd.name n))<=1099511627776))=true∧((decide (List.length ([(102:UInt8),(111:UInt8),(108:UInt8),(100:UInt8),(40:UInt8)]++Str.s (Nd.name n))+List.length [(44:UInt8),(32:UInt8)]<=1099511627776))=true∧((Go.Pl.preT (fun(x:List Tm×Unit)=>Ca x.1&&YP x.1&&decide (ZW x.1<N)) [(.sl 10 false (List.map enc ks))])=true∧(∃ y28:Str,AV.pv (Zb (fun(x:List Tm×Unit)=>Yh (List.map Zq x.1)) [(.sl 10 false (List.map enc ks))])=AV.pv (enc y28)∧((decide (List.length ([(102:UInt8),(111:UInt8),(108:UInt8),(100:UInt8),(40:UInt8)]++Str.s (Nd.name n)++[(44:UInt8),(32:UInt8)])+List.length (Str.s y28)<=1099511627776))=true∧((decide (List.length ([(102:UInt8),(111:UInt8),(108:UInt8),(100:UInt8),(40:UInt8)]++Str.s (Nd.name n)++[(44:UInt8),(32:UInt8)]++Str.s y28)+List.length [(41:UInt8)]<=1099511627776))=true∧(G ((.str ([(102:UInt8),(111:UInt8),(108:UInt8),(100:UInt8),(40:UInt8)]++Str.s (Nd.name n)++[(44:UInt8),(32:UInt8)]++Str.s y28++[(41:UInt8)])))))))))else(if (Nd.kind n==9)=true then(decide (List.length [(115:UInt8),(99:UInt8),(97:UInt8),(110:UInt8),(40:UInt8)]+List.length (Str.s (Nd.name n))<=1099511627776))=true∧((decide (List.length ([(115:UInt8),(99:UInt8),(97:UInt8),(110:UInt8),(40:UInt8)]++Str.s (Nd.name n))+List.length [(44:UInt8),(32:UInt8)]<=1099511627776))=true∧((Go.Pl.preT (fun(x:List Tm×Unit)=>Ca x.1&&YP x.1&&decide (ZW x.1<N)) [(.sl 10 false (List.map enc ks))])=true∧(∃ y29:Str,AV.pv (Zb (fun(x:List Tm×Unit)=>Yh (List.map Zq x.1)) [(.sl 10 false (List.map enc ks))])=AV.pv (enc y29)∧((decide (List.length ([(115:UInt8),(99:UInt8),(97:UInt8),(110:UInt8),(40:UInt8)]++Str.s (Nd.name n)++[(44:UInt8),(32:UInt8)])+List.length (Str.s y29)<=1099511627776))=true∧((decide (List.length ([(115:UInt8),(99:UInt8),(97:UInt8),(110:UInt8),(40:UInt8)]++Str.s (Nd.name n)++[(44:UInt8),(32:UInt8)]++Str.s y29)+List.length [(41:UInt8)]<=1099511627776))=true∧(G ((.str ([(115:UInt8),(99:UInt8),(97:UInt8),(110:UInt8),(40:UInt8)]++Str.s (Nd.name n)++[(44:UInt8),(32:UInt8)]++Str.s y29++[(41:UInt8)])))))))))else(if (Nd.kind n==4)=true then(decide (0<=0)&&decide (Int.toNat 0<List.length (List.map enc (Nd.sizes n)))&&Enc.sz Lin==2)=true∧(∃ y30:Lin,AV.pv (PV.rptr (PV.cells (List.getD (List.map enc (Nd.sizes n)) (Int.toNat 0) default)))=AV.pv (PV.rptr (PV.cells ((enc) y30)))∧((Go.Pl.preT (fun(x:Lin×Unit)=>Ws x.1) [(.agg [(.int .i64 (PV.asInt (List.getD (PV.cells (enc y30)) 0 default))),(.sl 2 false (PV.asXs (List.getD (PV.cells (enc y30)) (0+1) default)))])])=true∧(∃ y31:Str,AV.pv (Zb (fun(x:Lin×Unit)=>Str.mk (ZY x.1)) [(.agg [(.int .i64 (PV.asInt (List.getD (PV.cells (enc y30)) 0 default))),(.sl 2 false (PV.asXs (List.getD (PV.cells (enc y30)) (0+1) default)))])])=AV.pv (enc y31)∧((decide (List.length [(115:UInt8),(105:UInt8),(122:UInt8),(101:UInt8),(91:UInt8)]+List.length (Str.s y31)<=1099511627776))=true∧((decide (List.length ([(115:UInt8),(105:UInt8),(122:UInt8),(101:UInt8),(91:UInt8)]++Str.s y31)+List.length [(93:UInt8)]<=1099511627776))=true∧(G ((.str ([(115:UInt8),(105:UInt8),(122:UInt8),(101:UInt8),(91:UInt8)]++Str.s y31++[(93:UInt8)])))))))))else(if (Nd.kind n==3)=true then(Go.Pl.preT (fun(x:Arr×Unit)=>WQ x.1&&X8 x.1) [(.agg [(.str (Str.s (Nd.elem n))),(.sl 1 false (List.map enc (Nd.dims n))),(.sl 1 false (List.map enc (Nd.data n)))])])=true∧(∃ y32:Str×Int,AV.pv (Zb (fun(x:Arr×Unit)=>Q9 x.1) [(.agg [(.str (Str.s (Nd.elem n))),(.sl 1 false (List.map enc (Nd.dims n))),(.sl 1 false (List.map enc (Nd.data n)))])])=AV.pv (enc y32)∧(G ((.str (Str.s y32.1)))))else(G ((.str (Str.s (Nd.name n))))))))))))))else(if (!Str.s (R3.a y0)==[])=true then(decide (0<=0)&&decide (Int.toNat 0<List.length (List.map enc ks))&&Enc.sz Tm==10)=true∧(∃ y33:Tm,AV.pv (PV.rptr (PV.cells (List.getD (List.map enc ks) (Int.toNat 0) default)))=AV.pv (PV.rptr (PV.cells ((enc) y33)))∧(Cb y33=true∧((decide (0<=1)&&decide (Int.toNat 1<List.length (List.map enc ks))&&Enc.sz Tm==10)=true∧(∃ y34:Tm,AV.pv (PV.rptr (PV.cells (List.getD (List.map enc ks) (Int.toNat 1) default)))=AV.pv (PV.rptr (PV.cells ((enc) y34)))∧(Cb y34=true∧((Go.Pl.preT (fun(x:Tm×Unit)=>tW x.1) (Wd y33))=true∧(∃ y35:Int,AV.pv (Zb (fun(x:Tm×Unit)=>YV x.1) (Wd y33))=AV.pv (enc y35)∧(if (decide (y35<R3.b y0))=true then(Go.Pl.preT (fun(x:Tm×Bool×Unit)=>tW x.1&&ZU x.1&&decide (ZM x.1<N)) (K6 y33 true))=true∧(∃ y36:Str,AV.pv (Zb (fun(x:Tm×Bool×Unit)=>VE x.2.1 x.1) (K6 y33 true))=AV.pv (enc y36)∧((decide (List.length (Str.s y36)+List.length [(32:UInt8)]<=1099511627776))=true∧((decide (List.length (Str.s y36++[(32:UInt8)])+List.length (Str.s (R3.a y0))<=1099511627776))=true∧((decide (List.length (Str.s y36++[(32:UInt8)]++Str.s (R3.a y0))+List.length [(32:UInt8)]<=1099511627776))=true∧((Go.Pl.preT (fun(x:Tm×Unit)=>tW x.1) (Wd y34))=true∧(∃ y37:Int,AV.pv (Zb (fun(x:Tm×Unit)=>YV x.1) (Wd y34))=AV.pv (enc y37)∧((Go.Pl.preT (fun(x:Tm×Bool×Unit)=>tW x.1&&ZU x.1&&decide (ZM x.1<N)) (K6 y34 (decide (y37<=R3.b y0))))=true∧(∃ y38:Str,AV.pv (Zb (fun(x:Tm×Bool×Unit)=>VE x.2.1 x.1) (K6 y34 (decide (y37<=R3.b y0))))=AV.pv (enc y38)∧((decide (List.length (Str.s y36++[(32:UInt8)]++Str.s (R3.a y0)++[(32:UInt8)])+List.length (Str.s y38)<=1099511627776))=true∧(G ((.str (Str.s y36++[(32:UInt8)]++Str.s (R3.a y0)++[(32:UInt8)]++Str.s y38)))))))))))))else((Go.Pl.preT (fun(x:Tm×Unit)=>tW x.1) (Wd y33))=true∧(∃ y39:Int,AV.pv (Zb (fun(x:Tm×Unit)=>YV x.1) (Wd y33))=AV.pv (enc y39)∧(if (y39==3)=true then(Go.Pl.preT (fun(x:Tm×Bool×Unit)=>tW x.1&&ZU x.1&&decide (ZM x.1<N)) (K6 y33 (R3.b y0==3)))=true∧(∃ y40:Str,AV.pv (Zb (fun(x:Tm×Bool×Unit)=>VE x.2.1 x.1) (K6 y33 (R3.b y0==3)))=AV.pv (enc y40)∧((decide (List.length (Str.s y40)+List.length [(32:UInt8)]<=1099511627776))=true∧((decide (List.length (Str.s y40++[(32:UInt8)])+List.length (Str.s (R3.a y0))<=1099511627776))=true∧((decide (List.length (Str.s y40++[(32:UInt8)]++Str.s (R3.a y0))+List.length [(32:UInt8)]<=1099511627776))=true∧((Go.Pl.preT (fun(x:Tm×Unit)=>tW x.1) (Wd y34))=true∧(∃ y41:Int,AV.pv (Zb (fun(x:Tm×Unit)=>YV x.1) (Wd y34))=AV.pv (enc y41)∧((Go.Pl.preT (fun(x:Tm×Bool×Unit)=>tW x.1&&ZU x.1&&decide (ZM x.1<N)) (K6 y34 (decide (y41<=R3.b y0))))=true∧(∃ y42:Str,AV.pv (Zb (fun(x:Tm×Bool×Unit)=>VE x.2.1 x.1) (K6 y34 (decide (y41<=R3.b y0))))=AV.pv (enc y42)∧((decide (List.length (Str.s y40++[(32:UInt8)]++Str.s (R3.a y0)++[(32:UInt8)])+List.length (Str.s y42)<=1099511627776))=true∧(G ((.str (Str.s y40++[(32:UInt8)]++Str.s (R3.a y0)++[(32:UInt8)]++Str.s y42)))))))))))))else((Go.Pl.preT (fun(x:Tm×Bool×Unit)=>tW x.1&&ZU x.1&&decide (ZM x.1<N)) (K6 y33 false))=true∧(∃ y43:Str,AV.pv (Zb (fun(x:Tm×Bool×Unit)=>VE x.2.1 x.1) (K6 y33 false))=AV.pv (enc y43)∧((decide (List.length (Str.s y43)+List.length [(32:UInt8)]<=1099511627776))=true∧((decide (List.length (Str.s y43++[(32:UInt8)])+List.length (Str.s (R3.a y0))<=1099511627776))=true∧((decide (List.length (Str.s y43++[(32:UInt8)]++Str.s (R3.a y0))+List.length [(32:UInt8)]<=1099511627776))=true∧((Go.Pl.preT (fun(x:Tm×Unit)=>tW x.1) (Wd y34))=true∧(∃ y44:Int,AV.pv (Zb (fun(x:Tm×Unit)=>YV x.1) (Wd y34))=AV.pv (enc y44)∧((Go.Pl.preT (fun(x:Tm×Bool×Unit)=>tW x.1&&ZU x.1&&decide (ZM x.1<N)) (K6 y34 (decide (y44<=R3.b y0))))=true∧(∃ y45:Str,AV.pv (Zb (fun(x:Tm×Bool×Unit)=>VE x.2.1 x.1) (K6 y34 (decide (y44<=R3.b y0))))=AV.pv (enc y45)∧((decide (List.length (Str.s y43++[(32:UInt8)]++Str.s (R3.a y0)++[(32:UInt8)])+List.length (Str.s y45)<=1099511627776))=true∧(G ((.str (Str.s y43++[(32:UInt8)]++Str.s (R3.a y0)++[(32:UInt8)]++Str.s y45)))))))))))))))))))))))))else(if (Nd.kind n==5)=true then(decide (List.length [(108:UInt8),(101:UInt8),(116:UInt8),(32:UInt8)]+List.length (Str.s (Nd.name n))<=1099511627776))=true∧((decide (List.length ([(108:UInt8),(101:UInt8),(116:UInt8),(32:UInt8)]++Str.s (Nd.name n))+List.length [(32:UInt8),(61:UInt8),(32:UInt8)]<=1099511627776))=true∧((decide (0<=0)&&decide (Int.toNat 0<List.length (List.map enc ks))&&Enc.sz Tm==10)=true∧(∃ y46:Tm,AV.pv (PV.rptr (PV.cells (List.getD (List.map enc ks) (Int.toNat 0) default)))=AV.pv (PV.rptr (PV.cells ((enc) y46)))∧(Cb y46=true∧((Go.Pl.preT (fun(x:Tm×Unit)=>tW x.1&&ZU x.1&&decide (ZM x.1<N)) (Wd y46))=true∧(∃ y47:Str,AV.pv (Zb (fun(x:Tm×Unit)=>Zq x.1) (Wd y46))=AV.pv (enc y47)∧((decide (List.length ([(108:UInt8),(101:UInt8),(116:UInt8),(32:UInt8)]++Str.s (Nd.name n)++[(32:UInt8),(61:UInt8),(32:UInt8)])+List.length (Str.s y47)<=1099511627776))=true∧((decide (List.length ([(108:UInt8),(101:UInt8),(116:UInt8),(32:UInt8)]++Str.s (Nd.name n)++[(32:UInt8),(61:UInt8),(32:UInt8)]++Str.s y47)+List.length [(32:UInt8),(105:UInt8),(110:UInt8),(32:UInt8)]<=1099511627776))=true∧((decide (0<=1)&&decide (Int.toNat 1<List.length (List.map enc ks))&&Enc.sz Tm==10)=true∧(∃ y48:Tm,AV.pv (PV.rptr (PV.cells (List.getD (List.map enc ks) (Int.toNat 1) default)))=AV.pv (PV.rptr (PV.cells ((enc) y48)))∧(Cb y48=true∧((Go.Pl.preT (fun(x:Tm×Unit)=>tW x.1&&ZU x.1&&decide (ZM x.1<N)) (Wd y48))=true∧(∃ y49:Str,AV.pv (Zb (fun(x:Tm×Unit)=>Zq x.1) (Wd y48))=AV.pv (enc y49)∧((decide (List.length ([(108:UInt8),(101:UInt8),(116:UInt8),(32:UInt8)]++Str.s (Nd.name n)++[(32:UInt8),(61:UInt8),(32:UInt8)]++Str.s y47++[(32:UInt8),(105:UInt8),(110:UInt8),(32:UInt8)])+List.length (Str.s y49)<=1099511627776))=true∧(G ((.str ([(108:UInt8),(101:UInt8),(116:UInt8),(32:UInt8)]++Str.s (Nd.name n)++[(32:UInt8),(61:UInt8),(32:UInt8)]++Str.s y47++[(32:UInt8),(105:UInt8),(110:UInt8),(32:UInt8)]++Str.s y49))))))))))))))))))else(if (Nd.kind n==2)=true then if (Str.s (Nd.name n)==[(105:UInt8),(110:UInt8),(116:UInt8)])=true then(Go.Pl.preT (fun(x:Int×Unit)=>decide (Int.natAbs x.1<9223372036854775808)) [(.int .i64 (Nd.num n))])=true∧(∃ y50:Str,AV.pv (Zb (fun(x:Int×Unit)=>Zn x.1) [(.int .i64 (Nd.num n))])=AV.pv (enc y50)∧(G ((.str (Str.s y50)))))else(if (Nd.num n==1)=true then G ((.str [(116:UInt8),(114:UInt8),(117:UInt8),(101:UInt8)]))else(G ((.str [(102:UInt8),(97:UInt8),(108:UInt8),(115:UInt8),(101:UInt8)]))))else(if (Nd.kind n==6)=true then(Go.Pl.preT (fun(x:Tm×Unit)=>tW x.1&&ZU x.1&&decide (Nd.kind (Tm.nd x.1)=6)&&decide (ZW (Tm.ks x.1)<N)) (V4 n ks))=true∧(∃ y51:Str,AV.pv (Zb (fun(x:Tm×Unit)=>Qf x.1) (V4 n ks))=AV.pv (enc y51)∧(G ((.str (Str.s y51)))))else(if (Nd.kind n==7)=true then(Go.Pl.preT (fun(x:List Tm×Unit)=>Ca x.1&&YP x.1&&decide (ZW x.1<N)) [(.sl 10 false (List.map enc ks))])=true∧(∃ y52:Str,AV.pv (Zb (fun(x:List Tm×Unit)=>Yh (List.map Zq x.1)) [(.sl 10 false (List.map enc ks))])=AV.pv (enc y52)∧((decide (List.length [(91:UInt8)]+List.length (Str.s y52)<=1099511627776))=true∧((decide (List.length ([(91:UInt8)]++Str.s y52)+List.length [(93:UInt8)]<=1099511627776))=true∧(G ((.str ([(91:UInt8)]++Str.s y52++[(93:UInt8)])))))))else(if (Nd.kind n==8)=true then(decide (List.length [(102:UInt8),(111:UInt8),(108:UInt8),(100:UInt8),(40:UInt8)]+List.length (Str.s (Nd.name n))<=1099511627776))=true∧((decide (List.length ([(102:UInt8),(111:UInt8),(108:UInt8),(100:UInt8),(40:UInt8)]++Str.s (Nd.name n))+List.length [(44:UInt8),(32:UInt8)]<=1099511627776))=true∧((Go.Pl.preT (fun(x:List Tm×Unit)=>Ca x.1&&YP x.1&&decide (ZW x.1<N)) [(.sl 10 false (List.map enc ks))])=true∧(∃ y53:Str,AV.pv (Zb (fun(x:List Tm×Unit)=>Yh (List.map Zq x.1)) [(.sl 10 false (List.map enc ks))])=AV.pv (enc y53)∧((decide (List.length ([(102:UInt8),(111:UInt8),(108:UInt8),(100:UInt8),(40:UInt8)]++Str.s (Nd.name n)++[(44:UInt8),(32:UInt8)])+List.length (Str.s y53)<=1099511627776))=true∧((decide (List.length ([(102:UInt8),(111:UInt8),(108:UInt8),(100:UInt8),(40:UInt8)]++Str.s (Nd.name n)++[(44:UInt8),(32:UInt8)]++Str.s y53)+List.length [(41:UInt8)]<=1099511627776))=true∧(G ((.str ([(102:UInt8),(111:UInt8),(108:UInt8),(100:UInt8),(40:UInt8)]++Str.s (Nd.name n)++[(44:UInt8),(32:UInt8)]++Str.s y53++[(41:UInt8)])))))))))else(if (Nd.kind n==9)=true then(decide (List.length [(115:UInt8),(99:UInt8),(97:UInt8),(110:UInt8),(40:UInt8)]+List.length (Str.s (Nd.name n))<=1099511627776))=true∧((decide (List.length ([(115:UInt8),(99:UInt8),(97:UInt8),(110:UInt8),(40:UInt8)]++Str.s (Nd.name n))+List.length [(44:UInt8),(32:UInt8)]<=1099511627776))=true∧((Go.Pl.preT (fun(x:List Tm×Unit)=>Ca x.1&&YP x.1&&decide (ZW x.1<N)) [(.sl 10 false (List.map enc ks))])=true∧(∃ y54:Str,AV.pv (Zb (fun(x:List Tm×Unit)=>Yh (List.map Zq x.1)) [(.sl 10 false (List.map enc ks))])=AV.pv (enc y54)∧((decide (List.length ([(115:UInt8),(99:UInt8),(97:UInt8),(110:UInt8),(40:UInt8)]++Str.s (Nd.name n)++[(44:UInt8),(32:UInt8)])+List.length (Str.s y54)<=1099511627776))=true∧((decide (List.length ([(115:UInt8),(99:UInt8),(97:UInt8),(110:UInt8),(40:UInt8)]++Str.s (Nd.name n)++[(44:UInt8),(32:UInt8)]++Str.s y54)+List.length [(41:UInt8)]<=1099511627776))=true∧(G ((.str ([(115:UInt8),(99:UInt8),(97:UInt8),(110:UInt8),(40:UInt8)]++Str.s (Nd.name n)++[(44:UInt8),(32:UInt8)]++Str.s y54++[(41:UInt8)])))))))))else(if (Nd.kind n==4)=true then(decide (0<=0)&&decide (Int.toNat 0<List.length (List.map enc (Nd.sizes n)))&&Enc.sz Lin==2)=true∧(∃ y55:Lin,AV.pv (PV.rptr (PV.cells (List.getD (List.map enc (Nd.sizes n)) (Int.toNat 0) default)))=AV.pv (PV.rptr (PV.cells ((enc) y55)))∧((Go.Pl.preT (fun(x:Lin×Unit)=>Ws x.1) [(.agg [(.int .i64 (PV.asInt (List.getD (PV.cells (enc y55)) 0 default))),(.sl 2 false (PV.asXs (List.getD (PV.cells (enc y55)) (0+1) default)))])])=true∧(∃ y56:Str,AV.pv (Zb (fun(x:Lin×Unit)=>Str.mk (ZY x.1)) [(.agg [(.int .i64 (PV.asInt (List.getD (PV.cells (enc y55)) 0 default))),(.sl 2 false (PV.asXs (List.getD (PV.cells (enc y55)) (0+1) default)))])])=AV.pv (enc y56)∧((decide (List.length [(115:UInt8),(105:UInt8),(122:UInt8),(101:UInt8),(91:UInt8)]+List.length (Str.s y56)<=1099511627776))=true∧((decide (List.length ([(115:UInt8),(105:UInt8),(122:UInt8),(101:UInt8),(91:UInt8)]++Str.s y56)+List.length [(93:UInt8)]<=1099511627776))=true∧(G ((.str ([(115:UInt8),(105:UInt8),(122:UInt8),(101:UInt8),(91:UInt8)]++Str.s y56++[(93:UInt8)])))))))))else(if (Nd.kind n==3)=true then(Go.Pl.preT (fun(x:Arr×Unit)=>WQ x.1&&X8 x.1) [(.agg [(.str (Str.s (Nd.elem n))),(.sl 1 false (List.map enc (Nd.dims n))),(.sl 1 false (List.map enc (Nd.data n)))])])=true∧(∃ y57:Str×Int,AV.pv (Zb (fun(x:Arr×Unit)=>Q9 x.1) [(.agg [(.str (Str.s (Nd.elem n))),(.sl 1 false (List.map enc (Nd.dims n))),(.sl 1 false (List.map enc (Nd.data n)))])])=AV.pv (enc y57)∧(G ((.str (Str.s y57.1)))))else(G ((.str (Str.s (Nd.name n))))))))))))))))):Ze (AQ N) 0 (Za GR G) Sb [] (Z0 173 [.agg [enc n.kind,enc n.line,enc n.name,enc n.num,enc n.elem,enc n.dims,enc n.data,enc n.sizes,enc n.ranks,enc ks]]):=Ze.tp (.req (.abs (R3 Str Int Bool) (fun YY=>AV.pv (enc YY)) (.lit (.ask (.lit (.ask (.req (.abs (Tm) (fun YY=>AV.pv (PV.rptr (PV.cells ((enc) YY)))) (.req (.req (.abs (Int) (fun YY=>AV.pv (enc YY)) (.lit (.ask (Zl 8 (.req (.abs (Str) (fun YY=>AV.pv (enc YY)) (.req (.nil))))) (Zl 3 (.ask (Zl 6 (.ask (Zl 6 (.ask (Zl 6 (.req (.abs (Str) (fun YY=>AV.pv (enc YY)) (.req (.nil))))) (Zl 5 (.req (.abs (Str) (fun YY=>AV.pv (enc YY)) (.req (.nil))))))) (Zl 11 (.req (.abs (Str) (fun YY=>AV.pv (enc YY)) (.req (.nil))))))) (Zl 17 (.req (.abs (Str) (fun YY=>AV.pv (enc YY)) (.req (.nil)))))))))))))) (.lit (.ask (.req (.abs (Tm) (fun YY=>AV.pv (PV.rptr (PV.cells ((enc) YY)))) (.req (.req (.abs (Tm) (fun YY=>AV.pv (PV.rptr (PV.cells ((enc) YY)))) (.req (.req (.abs (Int) (fun YY=>AV.pv (enc YY)) (.lit (.ask (Zl 5 (.req (.abs (Str) (fun YY=>AV.pv (enc YY)) (.req (.req (.req (.req (.abs (Int) (fun YY=>AV.pv (enc YY)) (.lit (.req (.abs (Str) (fun YY=>AV.pv (enc YY)) (.req (.nil))))))))))))) (.lit (.req (.abs (Int) (fun YY=>AV.pv (enc YY)) (Zl 3 (.ask (Zl 5 (.req (.abs (Str) (fun YY=>AV.pv (enc YY)) (.req (.req (.req (.req (.abs (Int) (fun YY=>AV.pv (enc YY)) (.lit (.req (.abs (Str) (fun YY=>AV.pv (enc YY)) (.req (.nil))))))))))))) (Zl 4 (.req (.abs (Str) (fun YY=>AV.pv (enc YY)) (.req (.req (.req (.req (.abs (Int) (fun YY=>AV.pv (enc YY)) (.lit (.req (.abs (Str) (fun YY=>AV.pv (enc YY)) (.req (.nil)))))))))))))))))))))))))))) (.lit (.ask (.req (.req (.req (.abs (Tm) (fun YY=>AV.pv (PV.rptr (PV.cells ((enc) YY)))) (.req (.req (.abs (Str) (fun YY=>AV.pv (enc YY)) (.req (.req (.req (.abs (Tm) (fun YY=>AV.pv (PV.rptr (PV.cells ((enc) YY)))) (.req (.req (.abs (Str) (fun YY=>AV.pv (enc YY)) (.req (.nil)))))))))))))))) (.lit (.ask (.lit (.ask (.req (.abs (Str) (fun YY=>AV.pv (enc YY)) (.nil))) (.lit (.ask (.nil) (.nil))))) (.lit (.ask (.req (.abs (Str) (fun YY=>AV.pv (enc YY)) (.nil))) (.lit (.ask (.req (.abs (Str) (fun YY=>AV.pv (enc YY)) (.req (.req (.nil))))) (.lit (.ask (.req (.req (.req (.abs (Str) (fun YY=>AV.pv (enc YY)) (.req (.req (.nil))))))) (.lit (.ask (.req (.req (.req (.abs (Str) (fun YY=>AV.pv (enc YY)) (.req (.req (.nil))))))) (.lit (.ask (.req (.abs (Lin) (fun YY=>AV.pv (PV.rptr (PV.cells ((enc) YY)))) (.lit (.req (.abs (Str) (fun YY=>AV.pv (enc YY)) (.req (.req (.nil)))))))) (.lit (.ask (.req (.abs (Str×Int) (fun YY=>AV.pv (enc YY)) (.nil))) (.nil))))))))))))))))))))) (Zl 3 (.ask (.req (.abs (Tm) (fun YY=>AV.pv (PV.rptr (PV.cells ((enc) YY)))) (.req (.req (.abs (Tm) (fun YY=>AV.pv (PV.rptr (PV.cells ((enc) YY)))) (.req (.req (.abs (Int) (fun YY=>AV.pv (enc YY)) (.lit (.ask (Zl 5 (.req (.abs (Str) (fun YY=>AV.pv (enc YY)) (.req (.req (.req (.req (.abs (Int) (fun YY=>AV.pv (enc YY)) (.lit (.req (.abs (Str) (fun YY=>AV.pv (enc YY)) (.req (.nil))))))))))))) (.lit (.req (.abs (Int) (fun YY=>AV.pv (enc YY)) (Zl 3 (.ask (Zl 5 (.req (.abs (Str) (fun YY=>AV.pv (enc YY)) (.req (.req (.req (.req (.abs (Int) (fun YY=>AV.pv (enc YY)) (.lit (.req (.abs (Str) (fun YY=>AV.pv (enc YY)) (.req (.nil))))))))))))) (Zl 4 (.req (.abs (Str) (fun YY=>AV.pv (enc YY)) (.req (.req (.req (.req (.abs (Int) (fun YY=>AV.pv (enc YY)) (.lit (.req (.abs (Str) (fun YY=>AV.pv (enc YY)) (.req (.nil)))))))))))))))))))))))))))) (.lit (.ask (.req (.req (.req (.abs (Tm) (fun YY=>AV.pv (PV.rptr (PV.cells ((enc) YY)))) (.req (.req (.abs (Str) (fun YY=>AV.pv (enc YY)) (.req (.req (.req (.abs (Tm) (fun YY=>AV.pv (PV.rptr (PV.cells ((enc) YY)))) (.req (.req (.abs (Str) (fun YY=>AV.pv (enc YY)) (.req (.nil)))))))))))))))) (.lit (.ask (.lit (.ask (.req (.abs (Str) (fun YY=>AV.pv (enc YY)) (.nil))) (.lit (.ask (.nil) (.nil))))) (.lit (.ask (.req (.abs (Str) (fun YY=>AV.pv (enc YY)) (.nil))) (.lit (.ask (.req (.abs (Str) (fun YY=>AV.pv (enc YY)) (.req (.req (.nil))))) (.lit (.ask (.req (.req (.req (.abs (Str) (fun YY=>AV.pv (enc YY)) (.req (.req (.nil))))))) (.lit (.ask (.req (.req (.req (.abs (Str) (fun YY=>AV.pv (enc YY)) (.req (.req (.nil))))))) (.lit (.ask (.req (.abs (Lin) (fun YY=>AV.pv (PV.rptr (PV.cells ((enc) YY)))) (.lit (.req (.abs (Str) (fun YY=>AV.pv (enc YY)) (.req (.req (.nil)))))))) (.lit (.ask (.req (.abs (Str×Int) (fun YY=>AV.pv (enc YY)) (.nil))) (.nil))))))))))))))))))))))) h (by kernel_rfl)
noncomputable def V8:IC:=Xu Proofs.Tryz.f17
def Vv:List IRes:=[(.tmp 2)]
abbrev b1d:Nat:=22
def Uu:ZO:=YQ [(31,.pure (preT (fun x:Tm×Unit=>tW x.1)) (Zb (fun x:Tm×Unit=>Y4 x.1))),(32,.pure (preT (fun x:Tm×Unit=>tW x.1)) (Zb (fun x:Tm×Unit=>KY x.1))),(33,.pure (preT (fun x:Str×Unit=>decide (x.1.s.length<=1048576))) (Zb (fun x:Str×Unit=>ZN x.1.s)))]
theorem b8g{G:PV->Prop}(n:Nd)(ks:List Tm)(h:(Go.Pl.preT (fun(x:Tm×Unit)=>tW x.1) (V4 n ks))=true∧(∃ y0:Bool,AV.pv (Zb (fun(x:Tm×Unit)=>Y4 x.1) (V4 n ks))=AV.pv (enc y0)∧(if (!y0)=true then G ((.bool false))else((Go.Pl.preT (fun(x:Tm×Unit)=>tW x.1) (V4 n ks))=true∧(∃ y1:List Str,AV.pv (Zb (fun(x:Tm×Unit)=>KY x.1) (V4 n ks))=AV.pv (enc y1)∧(At Uu 0 (Za Vv G) V8 0 22 [(3,(.pv (.sl 1 false (List.map enc y1)))),(4,(.pv (.int .i64 0)))] [])))))):Ze Uu 0 (Za Vv G) V8 [] (Z0 22 [.agg [enc n.kind,enc n.line,enc n.name,enc n.num,enc n.elem,enc n.dims,enc n.data,enc n.sizes,enc n.ranks,enc ks]]):=Ze.tp (.req (.abs (Bool) (fun YY=>AV.pv (enc YY)) (.ask (.nil) (.req (.abs (List Str) (fun YY=>AV.pv (enc YY)) (.nil)))))) h (by kernel_rfl)
theorem Pd{G:PV->Prop}(n:Nd)(ks:List Tm)(l:List Str)(i:Int)(h:if (decide (i<(↑(List.length (List.map enc l)):Int)))=true then(decide (0<=i)&&decide (Int.toNat i<List.length (List.map enc l))&&Enc.sz Str==1)=true∧(∃ y0:Str,AV.pv (PV.rptr (PV.cells (List.getD (List.map enc l) (Int.toNat i) default)))=AV.pv (PV.rptr (PV.cells ((enc) y0)))∧((Go.Pl.preT (fun(x:Str×Unit)=>decide (List.length (Str.s x.1)<=1048576)) [(.str (PV.asStr (List.getD (PV.cells (enc y0)) 0 default)))])=true∧(∃ y1:Bool,AV.pv (Zb (fun(x:Str×Unit)=>ZN (Str.s x.1)) [(.str (PV.asStr (List.getD (PV.cells (enc y0)) 0 default)))])=AV.pv (enc y1)∧(if (!y1)=true then G ((.bool false))else(At Uu 0 (Za Vv G) V8 0 22 [(3,(.pv (.sl 1 false (List.map enc l)))),(4,(.pv (.int .i64 (IntKind.wrap IntKind.i64 (i+1)))))] [])))))else(G ((.bool true)))):At Uu 0 (Za Vv G) V8 0 22 [(3,.pv (enc l)),(4,.pv (.int .i64 i))] []:=At.tp (.lit (.ask (.req (.abs (Str) (fun YY=>AV.pv (PV.rptr (PV.cells ((enc) YY)))) (.lit (.req (.abs (Bool) (fun YY=>AV.pv (enc YY)) (.ask (.nil) (.lit (.nil)))))))) (.nil))) h (by kernel_rfl)
noncomputable def Rw:IC:=Xu Proofs.Tryz.f8
def Dh:List IRes:=[(.tmp 2),(.tmp 3)]
abbrev b4b:Nat:=14
def Ah:ZO:=YQ [(17,.pure (preT (fun x:Tm×Unit=>tW x.1)) (Zb (fun x:Tm×Unit=>Y3 x.1))),(18,.pure (preT (fun x:Tm×Unit=>tW x.1&&ZU x.1)) (Zb (fun x:Tm×Unit=>Zq x.1)))]
theorem d0k{G:PV->Prop}(n:Nd)(ks:List Tm)(h:(Go.Pl.preT (fun(x:Tm×Unit)=>tW x.1) (V4 n ks))=true∧(∃ y0:Bool,AV.pv (Zb (fun(x:Tm×Unit)=>Y3 x.1) (V4 n ks))=AV.pv (enc y0)∧(if (!y0)=true then G ((.tup [(.str []),(.int .i64 1)]))else((Go.Pl.preT (fun(x:Tm×Unit)=>tW x.1&&ZU x.1) (V4 n ks))=true∧(∃ y1:Str,AV.pv (Zb (fun(x:Tm×Unit)=>Zq x.1) (V4 n ks))=AV.pv (enc y1)∧(if (decide ((↑(List.length (Str.s y1)):Int)>20000))=true then G ((.tup [(.str []),(.int .i64 3)]))else(G ((.tup [(.str (Str.s y1)),(.int .i64 0)]))))))))):Ze Ah 0 (Za Dh G) Rw [] (Z0 14 [.agg [enc n.kind,enc n.line,enc n.name,enc n.num,enc n.elem,enc n.dims,enc n.data,enc n.sizes,enc n.ranks,enc ks]]):=Ze.tp (.req (.abs (Bool) (fun YY=>AV.pv (enc YY)) (.ask (.nil) (.req (.abs (Str) (fun YY=>AV.pv (enc YY)) (.lit (.ask (.nil) (.nil)))))))) h (by kernel_rfl)
noncomputable def TR:IC:=Xu Proofs.Tryz.f3
def TW:List IRes:=[(.tmp 2)]
abbrev c2c:Nat:=30
def Ma:ZO:=YQ [(5,.pure (preT (fun _:Unit=>true)) (Zb (fun _:Unit=>true))),(6,.pure (preT (fun x:Tm×Int×Unit=>tW x.1)) (Zb (fun x:Tm×Int×Unit=>Dr x.1 x.2.1))),(7,.pure (preT (fun x:Tm×Unit=>tW x.1)) (Zb (fun x:Tm×Unit=>Wt x.1))),(8,.pure (preT (fun x:Tm×Unit=>tW x.1)) (Zb (fun x:Tm×Unit=>Wt x.1)))]
theorem d1x{G:PV->Prop}(n:Nd)(ks:List Tm)(h : ∃ y0:Bool,AV.pv (Zb (fun(x:Unit)=>true) [])=AV.pv (enc y0)∧(if (!y0)=true then G ((.bool false))else((Go.Pl.preT (fun(x:Tm×Int×Unit)=>tW x.1) [(.agg [(.int .i64 (Nd.kind n)),(.int .i64 (Nd.line n)),(.str (Str.s (Nd.name n))),(.int .i64 (Nd.num n)),(.str (Str.s (Nd.elem n))),(.sl 1 false (List.map enc (Nd.dims n))),(.sl 1 false (List.map enc (Nd.data n))),(.sl 2 false (List.map enc (Nd.sizes n))),(.sl 1 false (List.map enc (Nd.ranks n))),(.sl 10 false (List.map enc ks))]),(.int .i64 30)])=true∧(∃ y1:Bool,AV.pv (Zb (fun(x:Tm×Int×Unit)=>Dr x.1 x.2.1) [(.agg [(.int .i64 (Nd.kind n)),(.int .i64 (Nd.line n)),(.str (Str.s (Nd.name n))),(.int .i64 (Nd.num n)),(.str (Str.s (Nd.elem n))),(.sl 1 false (List.map enc (Nd.dims n))),(.sl 1 false (List.map enc (Nd.data n))),(.sl 2 false (List.map enc (Nd.sizes n))),(.sl 1 false (List.map enc (Nd.ranks n))),(.sl 10 false (List.map enc ks))]),(.int .i64 30)])=AV.pv (enc y1)∧(if (!y1)=true then G ((.bool true))else((Go.Pl.preT (fun(x:Tm×Unit)=>tW x.1) (V4 n ks))=true∧(∃ y2:Str×Int,AV.pv (Zb (fun(x:Tm×Unit)=>Wt x.1) (V4 n ks))=AV.pv (enc y2)∧((Go.Pl.preT (fun(x:Tm×Unit)=>tW x.1) (V4 n ks))=true∧(∃ y3:Str×Int,AV.pv (Zb (fun(x:Tm×Unit)=>Wt x.1) (V4 n ks))=AV.pv (enc y3)∧(if (Str.s y2.1==Str.s y3.1)=true then G ((.bool (y2.2==y3.2)))else(G ((.bool false))))))))))))):Ze Ma 0 (Za TW G) TR [] (Z0 30 [.agg [enc n.kind,enc n.line,enc n.name,enc n.num,enc n.elem,enc n.dims,enc n.data,enc n.sizes,enc n.ranks,enc ks]]):=Ze.tp (.lit (.abs (Bool) (fun YY=>AV.pv (enc YY)) (.ask (.nil) (.req (.abs (Bool) (fun YY=>AV.pv (enc YY)) (.ask (.nil) (.req (.abs (Str×Int) (fun YY=>AV.pv (enc YY)) (.req (.abs (Str×Int) (fun YY=>AV.pv (enc YY)) (.lit (.ask (Zu 4) (Zu 3))))))))))))) h (by kernel_rfl)
end Go.Pl
namespace Go.Pl
open Go.RowKit
open Enc (enc dec is)
open EncL (encL decL isL)
set_option maxRecDepth 100000
noncomputable def Cc:IC:=Dm
def CR:List IRes:=[(.tmp 2)]
abbrev b0h:Nat:=9
def Rf:ZO:=YQ []
theorem b4t{G:PV->Prop}(c:UInt8)(h:if (decide ((↑(UInt8.toNat c):Int) ≥ 97))=true then G ((.bool (decide ((↑(UInt8.toNat c):Int)<=122))))else(G ((.bool false)))):Ze Rf 0 (Za CR G) Cc [] (Z0 9 [enc c]):=Ze.tp (.lit (.ask (Zu 3) (Zu 2))) h (by kernel_rfl)
noncomputable def Ba:IC:=D5
def Bd:List IRes:=[(.tmp 2)]
abbrev a8p:Nat:=9
def Rq:ZO:=YQ []
theorem c1d{G:PV->Prop}(c:UInt8)(h:if (decide ((↑(UInt8.toNat c):Int) ≥ 48))=true then G ((.bool (decide ((↑(UInt8.toNat c):Int)<=57))))else(G ((.bool false)))):Ze Rq 0 (Za Bd G) Ba [] (Z0 9 [enc c]):=Ze.tp (.lit (.ask (Zu 3) (Zu 2))) h (by kernel_rfl)
noncomputable def N8:IC:=AX
def Mj:List IRes:=[(.tmp 2)]
abbrev c6q:Nat:=19
def a1z:ZO:=YQ []
theorem d8o{G:PV->Prop}(s:List UInt8)(h:if (s==[(98:UInt8),(111:UInt8),(111:UInt8),(108:UInt8)])=true then G ((.bool true))else(if (s==[(100:UInt8),(101:UInt8),(102:UInt8)])=true then G ((.bool true))else(if (s==[(101:UInt8),(120:UInt8),(112:UInt8),(111:UInt8),(114:UInt8),(116:UInt8)])=true then G ((.bool true))else(if (s==[(102:UInt8),(97:UInt8),(108:UInt8),(115:UInt8),(101:UInt8)])=true then G ((.bool true))else(if (s==[(102:UInt8),(111:UInt8),(108:UInt8),(100:UInt8)])=true then G ((.bool true))else(if (s==[(105:UInt8),(109:UInt8),(112:UInt8),(111:UInt8),(114:UInt8),(116:UInt8)])=true then G ((.bool true))else(if (s==[(105:UInt8),(110:UInt8)])=true then G ((.bool true))else(if (s==[(105:UInt8),(110:UInt8),(116:UInt8)])=true then G ((.bool true))else(if (s==[(108:UInt8),(101:UInt8),(116:UInt8)])=true then G ((.bool true))else(if (s==[(109:UInt8),(111:UInt8),(100:UInt8),(117:UInt8),(108:UInt8),(101:UInt8)])=true then G ((.bool true))else(if (s==[(115:UInt8),(99:UInt8),(97:UInt8),(110:UInt8)])=true then G ((.bool true))else(if (s==[(115:UInt8),(105:UInt8),(122:UInt8),(101:UInt8)])=true then G ((.bool true))else(if (s==[(116:UInt8),(114:UInt8),(117:UInt8),(101:UInt8)])=true then G ((.bool true))else(if (s==[(119:UInt8),(104:UInt8),(101:UInt8),(114:UInt8),(101:UInt8)])=true then G ((.bool true))else(G ((.bool false))))))))))))))))):Ze a1z 0 (Za Mj G) N8 [] (Z0 19 [.str s]):=Ze.tp (.lit (.ask (.lit (.nil)) (.lit (.ask (.lit (.nil)) (.lit (.ask (.lit (.nil)) (.lit (.ask (.lit (.nil)) (.lit (.ask (.lit (.nil)) (.lit (.ask (.lit (.nil)) (.lit (.ask (.lit (.nil)) (.lit (.ask (.lit (.nil)) (.lit (.ask (.lit (.nil)) (.lit (.ask (.lit (.nil)) (.lit (.ask (.lit (.nil)) (.lit (.ask (.lit (.nil)) (.lit (.ask (.lit (.nil)) (.lit (.ask (.nil) (.nil))))))))))))))))))))))))))))) h (by kernel_rfl)
noncomputable def VN:IC:=Xu Proofs.Tryz.f33
def VM:List IRes:=[(.tmp 2)]
abbrev b7r:Nat:=39
def UG:ZO:=YQ [(64,.pure (preT (fun _:UInt8×Unit=>true)) (Zb (fun x:UInt8×Unit=>lowB x.1))),(65,.pure (preT (fun _:UInt8×Unit=>true)) (Zb (fun x:UInt8×Unit=>digB x.1))),(66,.pure (preT (fun _:Str×Unit=>true)) (Zb (fun x:Str×Unit=>Qk.contains x.1.s)))]
theorem c7e{G:PV->Prop}(s:List UInt8)(h:At UG 0 (Za VM G) VN 0 39 [(0,(.pv (.str s))),(3,(.pv (.int .i64 0)))] []):Ze UG 0 (Za VM G) VN [] (Z0 39 [.str s]):=Ze.tp (.nil) h (by kernel_rfl)
theorem Dp{G:PV->Prop}(s:List UInt8)(i:Int)(h:if (decide (i<(↑(List.length s):Int)))=true then(decide (0<=i)&&decide (Int.toNat i<List.length s))=true∧((Go.Pl.preT (fun(x:UInt8×Unit)=>true) [(.int IntKind.u8 (↑(UInt8.toNat (List.getD s (Int.toNat i) (0:UInt8))):Int))])=true∧(∃ y0:Bool,AV.pv (Zb (fun(x:UInt8×Unit)=>lowB x.1) [(.int IntKind.u8 (↑(UInt8.toNat (List.getD s (Int.toNat i) (0:UInt8))):Int))])=AV.pv (enc y0)∧(if (!y0)=true then if (i==0)=true then G ((.bool false))else((decide (0<=i)&&decide (Int.toNat i<List.length s))=true∧((Go.Pl.preT (fun(x:UInt8×Unit)=>true) [(.int IntKind.u8 (↑(UInt8.toNat (List.getD s (Int.toNat i) (0:UInt8))):Int))])=true∧(∃ y1:Bool,AV.pv (Zb (fun(x:UInt8×Unit)=>digB x.1) [(.int IntKind.u8 (↑(UInt8.toNat (List.getD s (Int.toNat i) (0:UInt8))):Int))])=AV.pv (enc y1)∧(if (!y1)=true then G ((.bool false))else(At UG 0 (Za VM G) VN 0 39 [(0,(.pv (.str s))),(3,(.pv (.int .i64 (IntKind.wrap IntKind.i64 (i+1)))))] [])))))else(At UG 0 (Za VM G) VN 0 39 [(0,(.pv (.str s))),(3,(.pv (.int .i64 (IntKind.wrap IntKind.i64 (i+1)))))] []))))else(if (decide ((↑(List.length s):Int) ≥ 1))=true then if (decide ((↑(List.length s):Int)<=30))=true then ∃ y2:Bool,AV.pv (Zb (fun(x:Str×Unit)=>List.contains Qk (Str.s x.1)) [(.str s)])=AV.pv (enc y2)∧(G ((.bool !y2)))else(G ((.bool false)))else(G ((.bool false))))):At UG 0 (Za VM G) VN 0 39 [(0,.pv (.str s)),(3,.pv (.int .i64 i))] []:=At.tp (.lit (.ask (.req (.req (.abs (Bool) (fun YY=>AV.pv (enc YY)) (.ask (Zl 3 (.ask (Zu 8) (Zl 2 (.req (.lit (.req (.abs (Bool) (fun YY=>AV.pv (enc YY)) (Zl 4 (.ask (.nil) (.lit (.nil))))))))))) (Zu 6))))) (.lit (.ask (Zl 4 (.ask (Zl 2 (.abs (Bool) (fun YY=>AV.pv (enc YY)) (Zu 2))) (Zu 3))) (Zu 7))))) h (by kernel_rfl)
noncomputable def Qb:IC:=Xu Proofs.Tryz.f155
def U9:List IRes:=[(.tmp 2)]
abbrev c3w:Nat:=25
def KF:ZO:=YQ [(33,.pure (preT (fun x:Str×Unit=>decide (x.1.s.length<=1048576))) (Zb (fun x:Str×Unit=>ZN x.1.s)))]
theorem d1o{G:PV->Prop}(s:List UInt8)(h:At KF 0 (Za U9 G) Qb 0 25 [(0,(.pv (.str s))),(3,(.pv (.int .i64 0)))] []):Ze KF 0 (Za U9 G) Qb [] (Z0 25 [.str s]):=Ze.tp (.nil) h (by kernel_rfl)
theorem OJ{G:PV->Prop}(s:List UInt8)(i:Int)(h:if (decide (i<(↑(List.length s):Int)))=true then(decide (0<=i)&&decide (Int.toNat i<List.length s))=true∧(if ((↑(UInt8.toNat (List.getD s (Int.toNat i) (0:UInt8))):Int)==46)=true then(true&&decide (0<=i)&&decide (0<=Int.toNat i)&&decide (Int.toNat i<=List.length s))=true∧((Go.Pl.preT (fun(x:Str×Unit)=>decide (List.length (Str.s x.1)<=1048576)) [(.str (List.drop 0 (List.take (Int.toNat i) s)))])=true∧(∃ y0:Bool,AV.pv (Zb (fun(x:Str×Unit)=>ZN (Str.s x.1)) [(.str (List.drop 0 (List.take (Int.toNat i) s)))])=AV.pv (enc y0)∧(if (y0)=true then(decide (0<=IntKind.wrap IntKind.i64 (i+1))&&true&&decide (Int.toNat (IntKind.wrap IntKind.i64 (i+1))<=List.length s)&&decide (List.length s<=List.length s))=true∧((Go.Pl.preT (fun(x:Str×Unit)=>decide (List.length (Str.s x.1)<=1048576)) [(.str (List.drop (Int.toNat (IntKind.wrap IntKind.i64 (i+1))) (List.take (List.length s) s)))])=true∧(∃ y1:Bool,AV.pv (Zb (fun(x:Str×Unit)=>ZN (Str.s x.1)) [(.str (List.drop (Int.toNat (IntKind.wrap IntKind.i64 (i+1))) (List.take (List.length s) s)))])=AV.pv (enc y1)∧(G ((.bool y1)))))else(G ((.bool false))))))else(At KF 0 (Za U9 G) Qb 0 25 [(0,(.pv (.str s))),(3,(.pv (.int .i64 (IntKind.wrap IntKind.i64 (i+1)))))] []))else(G ((.bool false)))):At KF 0 (Za U9 G) Qb 0 25 [(0,.pv (.str s)),(3,.pv (.int .i64 i))] []:=At.tp (.lit (.ask (.req (.lit (.ask (.req (.req (.abs (Bool) (fun YY=>AV.pv (enc YY)) (.ask (Zl 4 (.req (.lit (.req (.abs (Bool) (fun YY=>AV.pv (enc YY)) (.lit (.nil))))))) (Zu 5))))) (.lit (.nil))))) (.nil))) h (by kernel_rfl)
noncomputable def NH:IC:=Xu Proofs.Tryz.f123
def Nn:List IRes:=[(.tmp 2)]
abbrev d0p:Nat:=9
def a2i:ZO:=YQ [(33,.pure (preT (fun x:Str×Unit=>decide (x.1.s.length<=1048576))) (Zb (fun x:Str×Unit=>ZN x.1.s))),(155,.pure (preT (fun x:Str×Unit=>decide (x.1.s.length<=1048576))) (Zb (fun x:Str×Unit=>fullI x.1.s)))]
theorem d6z{G:PV->Prop}(s:List UInt8)(h:(Go.Pl.preT (fun(x:Str×Unit)=>decide (List.length (Str.s x.1)<=1048576)) [(.str s)])=true∧(∃ y0:Bool,AV.pv (Zb (fun(x:Str×Unit)=>ZN (Str.s x.1)) [(.str s)])=AV.pv (enc y0)∧(if (y0)=true then G ((.bool true))else((Go.Pl.preT (fun(x:Str×Unit)=>decide (List.length (Str.s x.1)<=1048576)) [(.str s)])=true∧(∃ y1:Bool,AV.pv (Zb (fun(x:Str×Unit)=>fullI (Str.s x.1)) [(.str s)])=AV.pv (enc y1)∧(G ((.bool y1)))))))):Ze a2i 0 (Za Nn G) NH [] (Z0 9 [.str s]):=Ze.tp (.req (.abs (Bool) (fun YY=>AV.pv (enc YY)) (.ask (Zu 2) (.lit (.req (.abs (Bool) (fun YY=>AV.pv (enc YY)) (.lit (.nil)))))))) h (by kernel_rfl)
noncomputable def CU:IC:=Xu Proofs.Tryz.f121
def QK:List IRes:=[(.tmp 12)]
abbrev b1v:Nat:=66
def TE:ZO:=YQ []
theorem c3o{G:PV->Prop}(n:Nd)(ks:List Tm)(a b c d e:Bool)(h:if (a)=true then if (b)=true then if (c)=true then if (d)=true then if (e)=true then G ((.bool true))else(G ((.bool ((↑(List.length (List.map enc (Nd.ranks n))):Int)==0))))else(if ((↑(List.length (List.map enc (Nd.sizes n))):Int)==0)=true then if (e)=true then G ((.bool true))else(G ((.bool ((↑(List.length (List.map enc (Nd.ranks n))):Int)==0))))else(G ((.bool false))))else(if (Str.s (Nd.elem n)==[])=true then if (IntKind.wrap IntKind.i64 ((↑(List.length (List.map enc (Nd.dims n))):Int)+(↑(List.length (List.map enc (Nd.data n))):Int))==0)=true then if (d)=true then if (e)=true then G ((.bool true))else(G ((.bool ((↑(List.length (List.map enc (Nd.ranks n))):Int)==0))))else(if ((↑(List.length (List.map enc (Nd.sizes n))):Int)==0)=true then if (e)=true then G ((.bool true))else(G ((.bool ((↑(List.length (List.map enc (Nd.ranks n))):Int)==0))))else(G ((.bool false))))else(G ((.bool false)))else(G ((.bool false))))else(if (Nd.num n==0)=true then if (c)=true then if (d)=true then if (e)=true then G ((.bool true))else(G ((.bool ((↑(List.length (List.map enc (Nd.ranks n))):Int)==0))))else(if ((↑(List.length (List.map enc (Nd.sizes n))):Int)==0)=true then if (e)=true then G ((.bool true))else(G ((.bool ((↑(List.length (List.map enc (Nd.ranks n))):Int)==0))))else(G ((.bool false))))else(if (Str.s (Nd.elem n)==[])=true then if (IntKind.wrap IntKind.i64 ((↑(List.length (List.map enc (Nd.dims n))):Int)+(↑(List.length (List.map enc (Nd.data n))):Int))==0)=true then if (d)=true then if (e)=true then G ((.bool true))else(G ((.bool ((↑(List.length (List.map enc (Nd.ranks n))):Int)==0))))else(if ((↑(List.length (List.map enc (Nd.sizes n))):Int)==0)=true then if (e)=true then G ((.bool true))else(G ((.bool ((↑(List.length (List.map enc (Nd.ranks n))):Int)==0))))else(G ((.bool false))))else(G ((.bool false)))else(G ((.bool false))))else(G ((.bool false))))else(if (Str.s (Nd.name n)==[])=true then if (b)=true then if (c)=true then if (d)=true then if (e)=true then G ((.bool true))else(G ((.bool ((↑(List.length (List.map enc (Nd.ranks n))):Int)==0))))else(if ((↑(List.length (List.map enc (Nd.sizes n))):Int)==0)=true then if (e)=true then G ((.bool true))else(G ((.bool ((↑(List.length (List.map enc (Nd.ranks n))):Int)==0))))else(G ((.bool false))))else(if (Str.s (Nd.elem n)==[])=true then if (IntKind.wrap IntKind.i64 ((↑(List.length (List.map enc (Nd.dims n))):Int)+(↑(List.length (List.map enc (Nd.data n))):Int))==0)=true then if (d)=true then if (e)=true then G ((.bool true))else(G ((.bool ((↑(List.length (List.map enc (Nd.ranks n))):Int)==0))))else(if ((↑(List.length (List.map enc (Nd.sizes n))):Int)==0)=true then if (e)=true then G ((.bool true))else(G ((.bool ((↑(List.length (List.map enc (Nd.ranks n))):Int)==0))))else(G ((.bool false))))else(G ((.bool false)))else(G ((.bool false))))else(if (Nd.num n==0)=true then if (c)=true then if (d)=true then if (e)=true then G ((.bool true))else(G ((.bool ((↑(List.length (List.map enc (Nd.ranks n))):Int)==0))))else(if ((↑(List.length (List.map enc (Nd.sizes n))):Int)==0)=true then if (e)=true then G ((.bool true))else(G ((.bool ((↑(List.length (List.map enc (Nd.ranks n))):Int)==0))))else(G ((.bool false))))else(if (Str.s (Nd.elem n)==[])=true then if (IntKind.wrap IntKind.i64 ((↑(List.length (List.map enc (Nd.dims n))):Int)+(↑(List.length (List.map enc (Nd.data n))):Int))==0)=true then if (d)=true then if (e)=true then G ((.bool true))else(G ((.bool ((↑(List.length (List.map enc (Nd.ranks n))):Int)==0))))else(if ((↑(List.length (List.map enc (Nd.sizes n))):Int)==0)=true then if (e)=true then G ((.bool true))else(G ((.bool ((↑(List.length (List.map enc (Nd.ranks n))):Int)==0))))else(G ((.bool false))))else(G ((.bool false)))else(G ((.bool false))))else(G ((.bool false))))else(G ((.bool false))))):Ze TE 0 (Za QK G) CU [] (Z0 66 [.agg [enc n.kind,enc n.line,enc n.name,enc n.num,enc n.elem,enc n.dims,enc n.data,enc n.sizes,enc n.ranks,enc ks],.bool a,.bool b,.bool c,.bool d,.bool e]):=Ze.tp (.ask (Zl 5 (.ask (Zl 7 (.ask (Zl 10 (.ask (Zl 8 (.ask (Zu 6) (Zu 7))) (Zl 7 (.ask (.lit (.ask (Zu 6) (Zu 7))) (Zu 3))))) (Zl 5 (.ask (Zl 16 (.ask (.lit (.ask (Zl 8 (.ask (Zu 6) (Zu 7))) (Zl 7 (.ask (.lit (.ask (Zu 6) (Zu 7))) (Zu 3))))) (Zu 7))) (Zu 22))))) (Zl 6 (.ask (.lit (.ask (Zl 10 (.ask (Zl 8 (.ask (Zu 6) (Zu 7))) (Zl 7 (.ask (.lit (.ask (Zu 6) (Zu 7))) (Zu 3))))) (Zl 5 (.ask (Zl 16 (.ask (.lit (.ask (Zl 8 (.ask (Zu 6) (Zu 7))) (Zl 7 (.ask (.lit (.ask (Zu 6) (Zu 7))) (Zu 3))))) (Zu 7))) (Zu 22))))) (Zu 11))))) (Zl 4 (.ask (.lit (.ask (Zl 7 (.ask (Zl 10 (.ask (Zl 8 (.ask (Zu 6) (Zu 7))) (Zl 7 (.ask (.lit (.ask (Zu 6) (Zu 7))) (Zu 3))))) (Zl 5 (.ask (Zl 16 (.ask (.lit (.ask (Zl 8 (.ask (Zu 6) (Zu 7))) (Zl 7 (.ask (.lit (.ask (Zu 6) (Zu 7))) (Zu 3))))) (Zu 7))) (Zu 22))))) (Zl 6 (.ask (.lit (.ask (Zl 10 (.ask (Zl 8 (.ask (Zu 6) (Zu 7))) (Zl 7 (.ask (.lit (.ask (Zu 6) (Zu 7))) (Zu 3))))) (Zl 5 (.ask (Zl 16 (.ask (.lit (.ask (Zl 8 (.ask (Zu 6) (Zu 7))) (Zl 7 (.ask (.lit (.ask (Zu 6) (Zu 7))) (Zu 3))))) (Zu 7))) (Zu 22))))) (Zu 11))))) (Zu 15)))) h (by kernel_rfl)
noncomputable def KR:IC:=Xu Proofs.Tryz.f122
def KV:List IRes:=[(.tmp 2)]
abbrev d0s:Nat:=16
def Gy:ZO:=YQ [(70,.pure (preT (fun x:Lin×Unit=>X3 x.1)) (Zb (fun x:Lin×Unit=>Zp x.1)))]
theorem d4a{G:PV->Prop}(l:List Lin)(h:At Gy 0 (Za KV G) KR 0 16 [(0,(.pv (.sl 2 false (List.map enc l)))),(3,(.pv (.int .i64 0)))] []):Ze Gy 0 (Za KV G) KR [] (Z0 16 [enc l]):=Ze.tp (.nil) h (by kernel_rfl)
theorem a6i{G:PV->Prop}(l:List Lin)(i:Int)(h:if (decide (i<(↑(List.length (List.map enc l)):Int)))=true then(decide (0<=i)&&decide (Int.toNat i<List.length (List.map enc l))&&Enc.sz Lin==2)=true∧(∃ y0:Lin,AV.pv (PV.rptr (PV.cells (List.getD (List.map enc l) (Int.toNat i) default)))=AV.pv (PV.rptr (PV.cells ((enc) y0)))∧((Go.Pl.preT (fun(x:Lin×Unit)=>X3 x.1) [(.agg [(.int .i64 (PV.asInt (List.getD (PV.cells (enc y0)) 0 default))),(.sl 2 false (PV.asXs (List.getD (PV.cells (enc y0)) (0+1) default)))])])=true∧(∃ y1:Bool,AV.pv (Zb (fun(x:Lin×Unit)=>Zp x.1) [(.agg [(.int .i64 (PV.asInt (List.getD (PV.cells (enc y0)) 0 default))),(.sl 2 false (PV.asXs (List.getD (PV.cells (enc y0)) (0+1) default)))])])=AV.pv (enc y1)∧(if (!y1)=true then G ((.bool false))else(At Gy 0 (Za KV G) KR 0 16 [(0,(.pv (.sl 2 false (List.map enc l)))),(3,(.pv (.int .i64 (IntKind.wrap IntKind.i64 (i+1)))))] [])))))else(G ((.bool true)))):At Gy 0 (Za KV G) KR 0 16 [(0,.pv (enc l)),(3,.pv (.int .i64 i))] []:=At.tp (.lit (.ask (.req (.abs (Lin) (fun YY=>AV.pv (PV.rptr (PV.cells ((enc) YY)))) (.lit (.req (.abs (Bool) (fun YY=>AV.pv (enc YY)) (.ask (.nil) (.lit (.nil)))))))) (.nil))) h (by kernel_rfl)
noncomputable def VJ:IC:=Xu Proofs.Tryz.f98
def WV:List IRes:=[(.tmp 2)]
abbrev c2w:Nat:=221
def UW:ZO:=YQ [(33,.pure (preT (fun x:Str×Unit=>decide (x.1.s.length<=1048576))) (Zb (fun x:Str×Unit=>ZN x.1.s))),(121,.pure (preT (fun x:Tm×Bool×Bool×Bool×Bool×Bool×Unit=>tW x.1)) (Zb (fun x:Tm×Bool×Bool×Bool×Bool×Bool×Unit=>Z6 x.1.nd x.2.1 x.2.2.1 x.2.2.2.1 x.2.2.2.2.1 x.2.2.2.2.2.1))),(123,.pure (preT (fun x:Str×Unit=>decide (x.1.s.length<=1048576))) (Zb (fun x:Str×Unit=>JV x.1.s))),(122,.pure (preT (fun x:List Lin×Unit=>decide (x.1.length<=1048576)&&x.1.all X3)) (Zb (fun x:List Lin×Unit=>x.1.all Zp))),(72,.pure (preT (fun x:Arr×Unit=>WQ x.1)) (Zb (fun x:Arr×Unit=>X8 x.1)))]
theorem c8c{G:PV->Prop}(n:Nd)(ks:List Tm)(h:if (decide (Nd.line n<0))=true then G ((.bool false))else(if (decide (Nd.line n>10000))=true then G ((.bool false))else(if (Nd.kind n==1)=true then if ((↑(List.length (List.map enc ks)):Int)==0)=true then(Go.Pl.preT (fun(x:Str×Unit)=>decide (List.length (Str.s x.1)<=1048576)) [(.str (Str.s (Nd.name n)))])=true∧(∃ y0:Bool,AV.pv (Zb (fun(x:Str×Unit)=>ZN (Str.s x.1)) [(.str (Str.s (Nd.name n)))])=AV.pv (enc y0)∧(if (y0)=true then(Go.Pl.preT (fun(x:Tm×Bool×Bool×Bool×Bool×Bool×Unit)=>tW x.1) (WM n ks true false false false false))=true∧(∃ y1:Bool,AV.pv (Zb (fun(x:Tm×Bool×Bool×Bool×Bool×Bool×Unit)=>Z6 (Tm.nd x.1) x.2.1 x.2.2.1 x.2.2.2.1 x.2.2.2.2.1 x.2.2.2.2.2.1) (WM n ks true false false false false))=AV.pv (enc y1)∧(G ((.bool y1))))else(G ((.bool false)))))else(G ((.bool false)))else(if (Nd.kind n==2)=true then if (Str.s (Nd.name n)==[(105:UInt8),(110:UInt8),(116:UInt8)])=true then if (decide (Nd.num n ≥ (-2147483648:Int)))=true then if (decide (Nd.num n<=2147483647))=true then if ((↑(List.length (List.map enc ks)):Int)==0)=true then(Go.Pl.preT (fun(x:Tm×Bool×Bool×Bool×Bool×Bool×Unit)=>tW x.1) (WM n ks true true false false false))=true∧(∃ y2:Bool,AV.pv (Zb (fun(x:Tm×Bool×Bool×Bool×Bool×Bool×Unit)=>Z6 (Tm.nd x.1) x.2.1 x.2.2.1 x.2.2.2.1 x.2.2.2.2.1 x.2.2.2.2.2.1) (WM n ks true true false false false))=AV.pv (enc y2)∧(G ((.bool y2))))else(G ((.bool false)))else(if (Str.s (Nd.name n)==[(98:UInt8),(111:UInt8),(111:UInt8),(108:UInt8)])=true then if (Nd.num n==0)=true then if ((↑(List.length (List.map enc ks)):Int)==0)=true then(Go.Pl.preT (fun(x:Tm×Bool×Bool×Bool×Bool×Bool×Unit)=>tW x.1) (WM n ks true true false false false))=true∧(∃ y3:Bool,AV.pv (Zb (fun(x:Tm×Bool×Bool×Bool×Bool×Bool×Unit)=>Z6 (Tm.nd x.1) x.2.1 x.2.2.1 x.2.2.2.1 x.2.2.2.2.1 x.2.2.2.2.2.1) (WM n ks true true false false false))=AV.pv (enc y3)∧(G ((.bool y3))))else(G ((.bool false)))else(if ((↑(List.length (List.map enc ks)):Int)==0)=true then if (Nd.num n==1)=true then(Go.Pl.preT (fun(x:Tm×Bool×Bool×Bool×Bool×Bool×Unit)=>tW x.1) (WM n ks true true false false false))=true∧(∃ y4:Bool,AV.pv (Zb (fun(x:Tm×Bool×Bool×Bool×Bool×Bool×Unit)=>Z6 (Tm.nd x.1) x.2.1 x.2.2.1 x.2.2.2.1 x.2.2.2.2.1 x.2.2.2.2.2.1) (WM n ks true true false false false))=AV.pv (enc y4)∧(G ((.bool y4))))else(G ((.bool false)))else(G ((.bool false))))else(if ((↑(List.length (List.map enc ks)):Int)==0)=true then G ((.bool false))else(G ((.bool false)))))else(if (Str.s (Nd.name n)==[(98:UInt8),(111:UInt8),(111:UInt8),(108:UInt8)])=true then if (Nd.num n==0)=true then if ((↑(List.length (List.map enc ks)):Int)==0)=true then(Go.Pl.preT (fun(x:Tm×Bool×Bool×Bool×Bool×Bool×Unit)=>tW x.1) (WM n ks true true false false false))=true∧(∃ y5:Bool,AV.pv (Zb (fun(x:Tm×Bool×Bool×Bool×Bool×Bool×Unit)=>Z6 (Tm.nd x.1) x.2.1 x.2.2.1 x.2.2.2.1 x.2.2.2.2.1 x.2.2.2.2.2.1) (WM n ks true true false false false))=AV.pv (enc y5)∧(G ((.bool y5))))else(G ((.bool false)))else(if ((↑(List.length (List.map enc ks)):Int)==0)=true then if (Nd.num n==1)=true then(Go.Pl.preT (fun(x:Tm×Bool×Bool×Bool×Bool×Bool×Unit)=>tW x.1) (WM n ks true true false false false))=true∧(∃ y6:Bool,AV.pv (Zb (fun(x:Tm×Bool×Bool×Bool×Bool×Bool×Unit)=>Z6 (Tm.nd x.1) x.2.1 x.2.2.1 x.2.2.2.1 x.2.2.2.2.1 x.2.2.2.2.2.1) (WM n ks true true false false false))=AV.pv (enc y6)∧(G ((.bool y6))))else(G ((.bool false)))else(G ((.bool false))))else(if ((↑(List.length (List.map enc ks)):Int)==0)=true then G ((.bool false))else(G ((.bool false)))))else(if (Str.s (Nd.name n)==[(98:UInt8),(111:UInt8),(111:UInt8),(108:UInt8)])=true then if (Nd.num n==0)=true then if ((↑(List.length (List.map enc ks)):Int)==0)=true then(Go.Pl.preT (fun(x:Tm×Bool×Bool×Bool×Bool×Bool×Unit)=>tW x.1) (WM n ks true true false false false))=true∧(∃ y7:Bool,AV.pv (Zb (fun(x:Tm×Bool×Bool×Bool×Bool×Bool×Unit)=>Z6 (Tm.nd x.1) x.2.1 x.2.2.1 x.2.2.2.1 x.2.2.2.2.1 x.2.2.2.2.2.1) (WM n ks true true false false false))=AV.pv (enc y7)∧(G ((.bool y7))))else(G ((.bool false)))else(if ((↑(List.length (List.map enc ks)):Int)==0)=true then if (Nd.num n==1)=true then(Go.Pl.preT (fun(x:Tm×Bool×Bool×Bool×Bool×Bool×Unit)=>tW x.1) (WM n ks true true false false false))=true∧(∃ y8:Bool,AV.pv (Zb (fun(x:Tm×Bool×Bool×Bool×Bool×Bool×Unit)=>Z6 (Tm.nd x.1) x.2.1 x.2.2.1 x.2.2.2.1 x.2.2.2.2.1 x.2.2.2.2.2.1) (WM n ks true true false false false))=AV.pv (enc y8)∧(G ((.bool y8))))else(G ((.bool false)))else(G ((.bool false))))else(if ((↑(List.length (List.map enc ks)):Int)==0)=true then G ((.bool false))else(G ((.bool false)))))else(if (Nd.kind n==3)=true then if ((↑(List.length (List.map enc ks)):Int)==0)=true then(Go.Pl.preT (fun(x:Arr×Unit)=>WQ x.1) [(.agg [(.str (Str.s (Nd.elem n))),(.sl 1 false (List.map enc (Nd.dims n))),(.sl 1 false (List.map enc (Nd.data n)))])])=true∧(∃ y9:Bool,AV.pv (Zb (fun(x:Arr×Unit)=>X8 x.1) [(.agg [(.str (Str.s (Nd.elem n))),(.sl 1 false (List.map enc (Nd.dims n))),(.sl 1 false (List.map enc (Nd.data n)))])])=AV.pv (enc y9)∧(if (y9)=true then(Go.Pl.preT (fun(x:Tm×Bool×Bool×Bool×Bool×Bool×Unit)=>tW x.1) (WM n ks false false true false false))=true∧(∃ y10:Bool,AV.pv (Zb (fun(x:Tm×Bool×Bool×Bool×Bool×Bool×Unit)=>Z6 (Tm.nd x.1) x.2.1 x.2.2.1 x.2.2.2.1 x.2.2.2.2.1 x.2.2.2.2.2.1) (WM n ks false false true false false))=AV.pv (enc y10)∧(G ((.bool y10))))else(G ((.bool false)))))else(G ((.bool false)))else(if (Nd.kind n==4)=true then if ((↑(List.length (List.map enc ks)):Int)==0)=true then if ((↑(List.length (List.map enc (Nd.sizes n))):Int)==1)=true then(Go.Pl.preT (fun(x:List Lin×Unit)=>decide (List.length x.1<=1048576)&&List.all x.1 X3) [(.sl 2 false (List.map enc (Nd.sizes n)))])=true∧(∃ y11:Bool,AV.pv (Zb (fun(x:List Lin×Unit)=>List.all x.1 Zp) [(.sl 2 false (List.map enc (Nd.sizes n)))])=AV.pv (enc y11)∧(if (y11)=true then(Go.Pl.preT (fun(x:Tm×Bool×Bool×Bool×Bool×Bool×Unit)=>tW x.1) (WM n ks false false false true false))=true∧(∃ y12:Bool,AV.pv (Zb (fun(x:Tm×Bool×Bool×Bool×Bool×Bool×Unit)=>Z6 (Tm.nd x.1) x.2.1 x.2.2.1 x.2.2.2.1 x.2.2.2.2.1 x.2.2.2.2.2.1) (WM n ks false false false true false))=AV.pv (enc y12)∧(G ((.bool y12))))else(G ((.bool false)))))else(G ((.bool false)))else(G ((.bool false)))else(if (Nd.kind n==5)=true then if ((↑(List.length (List.map enc ks)):Int)==2)=true then(Go.Pl.preT (fun(x:Str×Unit)=>decide (List.length (Str.s x.1)<=1048576)) [(.str (Str.s (Nd.name n)))])=true∧(∃ y13:Bool,AV.pv (Zb (fun(x:Str×Unit)=>ZN (Str.s x.1)) [(.str (Str.s (Nd.name n)))])=AV.pv (enc y13)∧(if (y13)=true then(Go.Pl.preT (fun(x:Tm×Bool×Bool×Bool×Bool×Bool×Unit)=>tW x.1) (WM n ks true false false false false))=true∧(∃ y14:Bool,AV.pv (Zb (fun(x:Tm×Bool×Bool×Bool×Bool×Bool×Unit)=>Z6 (Tm.nd x.1) x.2.1 x.2.2.1 x.2.2.2.1 x.2.2.2.2.1 x.2.2.2.2.2.1) (WM n ks true false false false false))=AV.pv (enc y14)∧(G ((.bool y14))))else(G ((.bool false)))))else(G ((.bool false)))else(if (Nd.kind n==6)=true then if (decide ((↑(List.length (List.map enc ks)):Int)>8))=true then G ((.bool false))else(if (decide ((↑(List.length (List.map enc (Nd.sizes n))):Int)>4))=true then G ((.bool false))else((Go.Pl.preT (fun(x:List Lin×Unit)=>decide (List.length x.1<=1048576)&&List.all x.1 X3) [(.sl 2 false (List.map enc (Nd.sizes n)))])=true∧(∃ y15:Bool,AV.pv (Zb (fun(x:List Lin×Unit)=>List.all x.1 Zp) [(.sl 2 false (List.map enc (Nd.sizes n)))])=AV.pv (enc y15)∧(if (!y15)=true then G ((.bool false))else(if (decide (Nd.num n<0))=true then G ((.bool false))else(if (decide (Nd.num n>64))=true then G ((.bool false))else(if ((↑(List.length (List.map enc (Nd.ranks n))):Int) != 0)=true then if ((↑(List.length (List.map enc (Nd.ranks n))):Int) != (↑(List.length (List.map enc ks)):Int))=true then G ((.bool false))else(At UW 0 (Za WV G) VJ 0 221 [(1,(.ptr 0 0)),(5,(.pv (.int .i64 0)))] [(.obj (.box (Z7 n ks)))])else(At UW 0 (Za WV G) VJ 0 221 [(1,(.ptr 0 0)),(5,(.pv (.int .i64 0)))] [(.obj (.box (Z7 n ks)))]))))))))else(if (Nd.kind n==7)=true then if (decide ((↑(List.length (List.map enc ks)):Int) ≥ 1))=true then if (decide ((↑(List.length (List.map enc ks)):Int)<=16))=true then(Go.Pl.preT (fun(x:Tm×Bool×Bool×Bool×Bool×Bool×Unit)=>tW x.1) (WM n ks false false false false false))=true∧(∃ y16:Bool,AV.pv (Zb (fun(x:Tm×Bool×Bool×Bool×Bool×Bool×Unit)=>Z6 (Tm.nd x.1) x.2.1 x.2.2.1 x.2.2.2.1 x.2.2.2.2.1 x.2.2.2.2.2.1) (WM n ks false false false false false))=AV.pv (enc y16)∧(G ((.bool y16))))else(G ((.bool false)))else(G ((.bool false)))else(if (Nd.kind n==8)=true then if ((↑(List.length (List.map enc ks)):Int)==2)=true then(Go.Pl.preT (fun(x:Str×Unit)=>decide (List.length (Str.s x.1)<=1048576)) [(.str (Str.s (Nd.name n)))])=true∧(∃ y17:Bool,AV.pv (Zb (fun(x:Str×Unit)=>JV (Str.s x.1)) [(.str (Str.s (Nd.name n)))])=AV.pv (enc y17)∧(if (y17)=true then(Go.Pl.preT (fun(x:Tm×Bool×Bool×Bool×Bool×Bool×Unit)=>tW x.1) (WM n ks true false false false false))=true∧(∃ y18:Bool,AV.pv (Zb (fun(x:Tm×Bool×Bool×Bool×Bool×Bool×Unit)=>Z6 (Tm.nd x.1) x.2.1 x.2.2.1 x.2.2.2.1 x.2.2.2.2.1 x.2.2.2.2.2.1) (WM n ks true false false false false))=AV.pv (enc y18)∧(G ((.bool y18))))else(G ((.bool false)))))else(G ((.bool false)))else(if (Nd.kind n==9)=true then if ((↑(List.length (List.map enc ks)):Int)==1)=true then(Go.Pl.preT (fun(x:Str×Unit)=>decide (List.length (Str.s x.1)<=1048576)) [(.str (Str.s (Nd.name n)))])=true∧(∃ y19:Bool,AV.pv (Zb (fun(x:Str×Unit)=>JV (Str.s x.1)) [(.str (Str.s (Nd.name n)))])=AV.pv (enc y19)∧(if (y19)=true then(Go.Pl.preT (fun(x:Tm×Bool×Bool×Bool×Bool×Bool×Unit)=>tW x.1) (WM n ks true false false false false))=true∧(∃ y20:Bool,AV.pv (Zb (fun(x:Tm×Bool×Bool×Bool×Bool×Bool×Unit)=>Z6 (Tm.nd x.1) x.2.1 x.2.2.1 x.2.2.2.1 x.2.2.2.2.1 x.2.2.2.2.2.1) (WM n ks true false false false false))=AV.pv (enc y20)∧(G ((.bool y20))))else(G ((.bool false)))))else(G ((.bool false)))else(G ((.bool false)))))))))))))):Ze UW 0 (Za WV G) VJ [] (Z0 221 [.agg [enc n.kind,enc n.line,enc n.name,enc n.num,enc n.elem,enc n.dims,enc n.data,enc n.sizes,enc n.ranks,enc ks]]):=Ze.tp (.lit (.ask (Zu 4) (Zl 4 (.ask (.nil) (.lit (.ask (.lit (.ask (Zl 2 (.req (.abs (Bool) (fun YY=>AV.pv (enc YY)) (.lit (.ask (.lit (.req (.abs (Bool) (fun YY=>AV.pv (enc YY)) (.lit (.nil))))) (Zu 2)))))) (Zu 6))) (.lit (.ask (.lit (.ask (Zl 4 (.ask (Zl 4 (.ask (Zl 6 (.ask (Zl 3 (.req (.abs (Bool) (fun YY=>AV.pv (enc YY)) (.lit (.nil))))) (Zu 4))) (Zl 4 (.ask (Zl 4 (.ask (Zl 8 (.ask (Zl 3 (.req (.abs (Bool) (fun YY=>AV.pv (enc YY)) (.lit (.nil))))) (Zu 4))) (Zl 9 (.ask (.lit (.ask (.lit (.req (.abs (Bool) (fun YY=>AV.pv (enc YY)) (.lit (.nil))))) (Zu 2))) (Zu 4))))) (Zl 8 (.ask (Zu 4) (Zu 4))))))) (Zl 8 (.ask (Zl 4 (.ask (Zl 8 (.ask (Zl 3 (.req (.abs (Bool) (fun YY=>AV.pv (enc YY)) (.lit (.nil))))) (Zu 4))) (Zl 9 (.ask (.lit (.ask (.lit (.req (.abs (Bool) (fun YY=>AV.pv (enc YY)) (.lit (.nil))))) (Zu 2))) (Zu 4))))) (Zl 8 (.ask (Zu 4) (Zu 4))))))) (Zl 12 (.ask (Zl 4 (.ask (Zl 8 (.ask (Zl 3 (.req (.abs (Bool) (fun YY=>AV.pv (enc YY)) (.lit (.nil))))) (Zu 4))) (Zl 9 (.ask (.lit (.ask (.lit (.req (.abs (Bool) (fun YY=>AV.pv (enc YY)) (.lit (.nil))))) (Zu 2))) (Zu 4))))) (Zl 8 (.ask (Zu 4) (Zu 4))))))) (.lit (.ask (.lit (.ask (Zl 2 (.req (.abs (Bool) (fun YY=>AV.pv (enc YY)) (.lit (.ask (.lit (.req (.abs (Bool) (fun YY=>AV.pv (enc YY)) (.lit (.nil))))) (Zu 2)))))) (Zu 6))) (.lit (.ask (.lit (.ask (Zl 5 (.ask (Zl 2 (.req (.abs (Bool) (fun YY=>AV.pv (enc YY)) (.lit (.ask (.lit (.req (.abs (Bool) (fun YY=>AV.pv (enc YY)) (.lit (.nil))))) (Zu 2)))))) (Zu 6))) (Zu 11))) (.lit (.ask (.lit (.ask (Zl 2 (.req (.abs (Bool) (fun YY=>AV.pv (enc YY)) (.lit (.ask (.lit (.req (.abs (Bool) (fun YY=>AV.pv (enc YY)) (.lit (.nil))))) (Zu 2)))))) (Zu 6))) (.lit (.ask (.lit (.ask (Zu 25) (Zl 5 (.ask (Zu 20) (Zl 2 (.req (.abs (Bool) (fun YY=>AV.pv (enc YY)) (Zl 2 (.ask (Zu 15) (Zl 4 (.ask (Zu 11) (Zl 4 (.ask (Zu 7) (Zl 5 (.ask (Zl 8 (.ask (.nil) (.nil))) (Zu 8)))))))))))))))) (.lit (.ask (.lit (.ask (Zl 3 (.ask (.lit (.req (.abs (Bool) (fun YY=>AV.pv (enc YY)) (.lit (.nil))))) (Zu 2))) (Zu 5))) (.lit (.ask (.lit (.ask (Zl 2 (.req (.abs (Bool) (fun YY=>AV.pv (enc YY)) (.lit (.ask (.lit (.req (.abs (Bool) (fun YY=>AV.pv (enc YY)) (.lit (.nil))))) (Zu 2)))))) (Zu 6))) (.lit (.ask (.lit (.ask (Zl 2 (.req (.abs (Bool) (fun YY=>AV.pv (enc YY)) (.lit (.ask (.lit (.req (.abs (Bool) (fun YY=>AV.pv (enc YY)) (.lit (.nil))))) (Zu 2)))))) (Zu 6))) (.nil))))))))))))))))))))))) h (by kernel_rfl)
theorem Oj{G:PV->Prop}(n:Nd)(ks:List Tm)(i:Int)(h:if (decide (i<(↑(List.length (List.map enc (Nd.ranks n))):Int)))=true then(decide (0<=i)&&decide (Int.toNat i<List.length (List.map enc (Nd.ranks n)))&&Enc.sz Int==1)=true∧(∃ y0:Int,AV.pv (PV.rptr (PV.cells (List.getD (List.map enc (Nd.ranks n)) (Int.toNat i) default)))=AV.pv (PV.rptr (PV.cells ((enc) y0)))∧(if (decide (PV.asInt (List.getD (PV.cells (enc y0)) 0 default)<0))=true then G ((.bool false))else((decide (0<=i)&&decide (Int.toNat i<List.length (List.map enc (Nd.ranks n)))&&Enc.sz Int==1)=true∧(∃ y1:Int,AV.pv (PV.rptr (PV.cells (List.getD (List.map enc (Nd.ranks n)) (Int.toNat i) default)))=AV.pv (PV.rptr (PV.cells ((enc) y1)))∧(if (decide (PV.asInt (List.getD (PV.cells (enc y1)) 0 default)>6))=true then G ((.bool false))else(At UW 0 (Za WV G) VJ 0 221 [(1,(.ptr 0 0)),(5,(.pv (.int .i64 (IntKind.wrap IntKind.i64 (i+1)))))] [(.obj (.box (Z7 n ks)))]))))))else((Go.Pl.preT (fun(x:Str×Unit)=>decide (List.length (Str.s x.1)<=1048576)) [(.str (Str.s (Nd.name n)))])=true∧(∃ y2:Bool,AV.pv (Zb (fun(x:Str×Unit)=>JV (Str.s x.1)) [(.str (Str.s (Nd.name n)))])=AV.pv (enc y2)∧(if (y2)=true then(Go.Pl.preT (fun(x:Tm×Bool×Bool×Bool×Bool×Bool×Unit)=>tW x.1) (WM n ks true true false true true))=true∧(∃ y3:Bool,AV.pv (Zb (fun(x:Tm×Bool×Bool×Bool×Bool×Bool×Unit)=>Z6 (Tm.nd x.1) x.2.1 x.2.2.1 x.2.2.2.1 x.2.2.2.2.1 x.2.2.2.2.2.1) (WM n ks true true false true true))=AV.pv (enc y3)∧(G ((.bool y3))))else(G ((.bool false))))))):At UW 0 (Za WV G) VJ 0 221 [(1,.ptr 0 0),(5,.pv (.int .i64 i))] [.obj (.box [.pv (enc n.kind),.pv (enc n.line),.pv (enc n.name),.pv (enc n.num),.pv (enc n.elem),.pv (enc n.dims),.pv (enc n.data),.pv (enc n.sizes),.pv (enc n.ranks),.pv (enc ks)])]:=At.tp (.lit (.ask (.req (.abs (Int) (fun YY=>AV.pv (PV.rptr (PV.cells ((enc) YY)))) (Zl 2 (.ask (Zu 7) (Zl 3 (.req (.abs (Int) (fun YY=>AV.pv (PV.rptr (PV.cells ((enc) YY)))) (Zl 5 (.ask (.nil) (.lit (.nil))))))))))) (.req (.abs (Bool) (fun YY=>AV.pv (enc YY)) (.ask (.lit (.req (.abs (Bool) (fun YY=>AV.pv (enc YY)) (.lit (.nil))))) (Zu 2)))))) h (by kernel_rfl)
noncomputable def KP:IC:=Xu Proofs.Tryz.f62
def KL:List IRes:=[(.tmp 2)]
abbrev c8y:Nat:=20
def Gg(N:Nat):ZO:=YQ [(62,.pure (preT (fun x:Tm×Unit=>tW x.1&&decide (ZM x.1<N))) (Zb (fun x:Tm×Unit=>ZU x.1))),(98,.pure (preT (fun x:Tm×Unit=>tW x.1)) (Zb (fun x:Tm×Unit=>Jp x.1)))]
theorem d5q{G:PV->Prop}(N:Nat)(n:Nd)(ks:List Tm)(h:At (Gg N) 0 (Za KL G) KP 0 20 [(1,(.ptr 0 0)),(3,(.pv (.int .i64 0)))] [(.obj (.box (Z7 n ks)))]):Ze (Gg N) 0 (Za KL G) KP [] (Z0 20 [.agg [enc n.kind,enc n.line,enc n.name,enc n.num,enc n.elem,enc n.dims,enc n.data,enc n.sizes,enc n.ranks,enc ks]]):=Ze.tp (.nil) h (by kernel_rfl)
theorem a7z{G:PV->Prop}(N:Nat)(n:Nd)(ks:List Tm)(i:Int)(h:if (decide (i<(↑(List.length (List.map enc ks)):Int)))=true then(decide (0<=i)&&decide (Int.toNat i<List.length (List.map enc ks))&&Enc.sz Tm==10)=true∧(∃ y0:Tm,AV.pv (PV.rptr (PV.cells (List.getD (List.map enc ks) (Int.toNat i) default)))=AV.pv (PV.rptr (PV.cells ((enc) y0)))∧(Cb y0=true∧((Go.Pl.preT (fun(x:Tm×Unit)=>tW x.1&&decide (ZM x.1<N)) (Wd y0))=true∧(∃ y1:Bool,AV.pv (Zb (fun(x:Tm×Unit)=>ZU x.1) (Wd y0))=AV.pv (enc y1)∧(if (!y1)=true then G ((.bool false))else(At (Gg N) 0 (Za KL G) KP 0 20 [(1,(.ptr 0 0)),(3,(.pv (.int .i64 (IntKind.wrap IntKind.i64 (i+1)))))] [(.obj (.box (Z7 n ks)))]))))))else((Go.Pl.preT (fun(x:Tm×Unit)=>tW x.1) (V4 n ks))=true∧(∃ y2:Bool,AV.pv (Zb (fun(x:Tm×Unit)=>Jp x.1) (V4 n ks))=AV.pv (enc y2)∧(G ((.bool y2)))))):At (Gg N) 0 (Za KL G) KP 0 20 [(1,.ptr 0 0),(3,.pv (.int .i64 i))] [.obj (.box [.pv (enc n.kind),.pv (enc n.line),.pv (enc n.name),.pv (enc n.num),.pv (enc n.elem),.pv (enc n.dims),.pv (enc n.data),.pv (enc n.sizes),.pv (enc n.ranks),.pv (enc ks)])]:=At.tp (.lit (.ask (.req (.abs (Tm) (fun YY=>AV.pv (PV.rptr (PV.cells ((enc) YY)))) (.req (.req (.abs (Bool) (fun YY=>AV.pv (enc YY)) (.ask (.nil) (.lit (.nil)))))))) (.req (.abs (Bool) (fun YY=>AV.pv (enc YY)) (.nil))))) h (by kernel_rfl)
noncomputable def Bi:IC:=Xu Proofs.Tryz.f31
def JC:List IRes:=[(.tmp 2)]
abbrev a8l:Nat:=15
def Su:ZO:=YQ [(12,.pure (preT (fun x:Tm×Unit=>tW x.1)) (Zb (fun x:Tm×Unit=>(Yl x.1:Int)))),(11,.pure (preT (fun x:Tm×Unit=>tW x.1)) (Zb (fun x:Tm×Unit=>(ZM x.1:Int)))),(62,.pure (preT (fun x:Tm×Unit=>tW x.1)) (Zb (fun x:Tm×Unit=>ZU x.1)))]
theorem b5k{G:PV->Prop}(n:Nd)(ks:List Tm)(h:(Go.Pl.preT (fun(x:Tm×Unit)=>tW x.1) (V4 n ks))=true∧(∃ y0:Int,AV.pv (Zb (fun(x:Tm×Unit)=>(↑(Yl x.1):Int)) (V4 n ks))=AV.pv (enc y0)∧(if (decide (y0<=400))=true then(Go.Pl.preT (fun(x:Tm×Unit)=>tW x.1) (V4 n ks))=true∧(∃ y1:Int,AV.pv (Zb (fun(x:Tm×Unit)=>(↑(ZM x.1):Int)) (V4 n ks))=AV.pv (enc y1)∧(if (decide (y1<=40))=true then(Go.Pl.preT (fun(x:Tm×Unit)=>tW x.1) (V4 n ks))=true∧(∃ y2:Bool,AV.pv (Zb (fun(x:Tm×Unit)=>ZU x.1) (V4 n ks))=AV.pv (enc y2)∧(G ((.bool y2))))else(G ((.bool false)))))else(G ((.bool false)))))):Ze Su 0 (Za JC G) Bi [] (Z0 15 [.agg [enc n.kind,enc n.line,enc n.name,enc n.num,enc n.elem,enc n.dims,enc n.data,enc n.sizes,enc n.ranks,enc ks]]):=Ze.tp (.req (.abs (Int) (fun YY=>AV.pv (enc YY)) (.lit (.ask (.lit (.req (.abs (Int) (fun YY=>AV.pv (enc YY)) (Zl 3 (.ask (.lit (.req (.abs (Bool) (fun YY=>AV.pv (enc YY)) (.lit (.nil))))) (Zu 2)))))) (Zu 6))))) h (by kernel_rfl)
noncomputable def Mc:IC:=Xu Proofs.Tryz.f68
def MC:List IRes:=[(.tmp 4),(.tmp 5),(.tmp 6)]
abbrev c5u:Nat:=40
def ET:ZO:=YQ []
theorem d4n{G:PV->Prop}(s:List UInt8)(u:Bool)(h:if (u)=true then if (s==[(45:UInt8)])=true then G ((.tup [(.str [(110:UInt8),(101:UInt8),(103:UInt8)]),(.int .i64 6),(.bool true)]))else(if (s==[(33:UInt8)])=true then G ((.tup [(.str [(110:UInt8),(111:UInt8),(116:UInt8)]),(.int .i64 6),(.bool true)]))else(G ((.tup [(.str []),(.int .i64 0),(.bool false)]))))else(if (s==[(124:UInt8),(124:UInt8)])=true then G ((.tup [(.str [(111:UInt8),(114:UInt8)]),(.int .i64 1),(.bool true)]))else(if (s==[(38:UInt8),(38:UInt8)])=true then G ((.tup [(.str [(97:UInt8),(110:UInt8),(100:UInt8)]),(.int .i64 2),(.bool true)]))else(if (s==[(61:UInt8),(61:UInt8)])=true then G ((.tup [(.str [(101:UInt8),(113:UInt8)]),(.int .i64 3),(.bool true)]))else(if (s==[(33:UInt8),(61:UInt8)])=true then G ((.tup [(.str [(110:UInt8),(101:UInt8)]),(.int .i64 3),(.bool true)]))else(if (s==[(60:UInt8)])=true then G ((.tup [(.str [(108:UInt8),(116:UInt8)]),(.int .i64 3),(.bool true)]))else(if (s==[(60:UInt8),(61:UInt8)])=true then G ((.tup [(.str [(108:UInt8),(101:UInt8)]),(.int .i64 3),(.bool true)]))else(if (s==[(62:UInt8)])=true then G ((.tup [(.str [(103:UInt8),(116:UInt8)]),(.int .i64 3),(.bool true)]))else(if (s==[(62:UInt8),(61:UInt8)])=true then G ((.tup [(.str [(103:UInt8),(101:UInt8)]),(.int .i64 3),(.bool true)]))else(if (s==[(43:UInt8)])=true then G ((.tup [(.str [(97:UInt8),(100:UInt8),(100:UInt8)]),(.int .i64 4),(.bool true)]))else(if (s==[(45:UInt8)])=true then G ((.tup [(.str [(115:UInt8),(117:UInt8),(98:UInt8)]),(.int .i64 4),(.bool true)]))else(if (s==[(42:UInt8)])=true then G ((.tup [(.str [(109:UInt8),(117:UInt8),(108:UInt8)]),(.int .i64 5),(.bool true)]))else(if (s==[(47:UInt8)])=true then G ((.tup [(.str [(100:UInt8),(105:UInt8),(118:UInt8)]),(.int .i64 5),(.bool true)]))else(if (s==[(37:UInt8)])=true then G ((.tup [(.str [(109:UInt8),(111:UInt8),(100:UInt8)]),(.int .i64 5),(.bool true)]))else(G ((.tup [(.str []),(.int .i64 0),(.bool false)]))))))))))))))))):Ze ET 0 (Za MC G) Mc [] (Z0 40 [.str s,.bool u]):=Ze.tp (.ask (.lit (.ask (.nil) (.lit (.ask (.nil) (.nil))))) (.lit (.ask (.nil) (.lit (.ask (.nil) (.lit (.ask (.nil) (.lit (.ask (.nil) (.lit (.ask (.nil) (.lit (.ask (.nil) (.lit (.ask (.nil) (.lit (.ask (.nil) (.lit (.ask (.nil) (.lit (.ask (.nil) (.lit (.ask (.nil) (.lit (.ask (.nil) (.lit (.ask (.nil) (.nil)))))))))))))))))))))))))))) h (by kernel_rfl)
noncomputable def Zt:IC:=Xu Proofs.Tryz.f67
def Zr:List IRes:=[(.tmp 2),(.tmp 3),(.tmp 4)]
abbrev d0r:Nat:=58
def ZC:ZO:=YQ [(68,.pure (preT (fun _:Str×Bool×Unit=>true)) (Zb (fun x:Str×Bool×Unit=>YJ x.1 x.2.1)))]
theorem d3p{G:PV->Prop}(s:List UInt8)(h:At ZC 0 (Za Zr G) Zt 0 58 [(0,(.pv (.str s))),(5,(.row 0 14 0 14)),(6,(.pv (.int .i64 0)))] [(.obj (.row false 9 1 Zz))]):Ze ZC 0 (Za Zr G) Zt [] (Z0 58 [.str s]):=Ze.tp (.lit (.nil)) h (by kernel_rfl)
theorem b6t{G:PV->Prop}(s:List UInt8)(h : ∃ y0:R3 Str Int Bool,AV.pv (Zb (fun(x:Str×Bool×Unit)=>YJ x.1 x.2.1) [(.str (PV.asStr (List.getD (PV.cells (List.getD Zz (0+Int.toNat 0) default)) 0 default))),(.bool false)])=AV.pv (enc y0)∧(if (R3.c y0)=true then if (Str.s (R3.a y0)==s)=true then G ((.tup [(.str (PV.asStr (List.getD (PV.cells (List.getD Zz (0+Int.toNat 0) default)) 0 default))),(.bool false),(.bool true)]))else(∃ y1:R3 Str Int Bool,AV.pv (Zb (fun(x:Str×Bool×Unit)=>YJ x.1 x.2.1) [(.str (PV.asStr (List.getD (PV.cells (List.getD Zz (0+Int.toNat 0) default)) 0 default))),(.bool true)])=AV.pv (enc y1)∧(if (R3.c y1)=true then if (Str.s (R3.a y1)==s)=true then G ((.tup [(.str (PV.asStr (List.getD (PV.cells (List.getD Zz (0+Int.toNat 0) default)) 0 default))),(.bool true),(.bool true)]))else(At ZC 0 (Za Zr G) Zt 0 58 [(0,(.pv (.str s))),(5,(.row 0 14 0 14)),(6,(.pv (.int .i64 1)))] [(.obj (.row false 9 1 Zz))])else(At ZC 0 (Za Zr G) Zt 0 58 [(0,(.pv (.str s))),(5,(.row 0 14 0 14)),(6,(.pv (.int .i64 1)))] [(.obj (.row false 9 1 Zz))])))else(∃ y2:R3 Str Int Bool,AV.pv (Zb (fun(x:Str×Bool×Unit)=>YJ x.1 x.2.1) [(.str (PV.asStr (List.getD (PV.cells (List.getD Zz (0+Int.toNat 0) default)) 0 default))),(.bool true)])=AV.pv (enc y2)∧(if (R3.c y2)=true then if (Str.s (R3.a y2)==s)=true then G ((.tup [(.str (PV.asStr (List.getD (PV.cells (List.getD Zz (0+Int.toNat 0) default)) 0 default))),(.bool true),(.bool true)]))else(At ZC 0 (Za Zr G) Zt 0 58 [(0,(.pv (.str s))),(5,(.row 0 14 0 14)),(6,(.pv (.int .i64 1)))] [(.obj (.row false 9 1 Zz))])else(At ZC 0 (Za Zr G) Zt 0 58 [(0,(.pv (.str s))),(5,(.row 0 14 0 14)),(6,(.pv (.int .i64 1)))] [(.obj (.row false 9 1 Zz))]))))):At ZC 0 (Za Zr G) Zt 0 58 [(0,.pv (.str s)),(5,.row 0 14 0 14),(6,.pv (.int .i64 0))] [.obj (.row false 9 1 Zz)]:=At.tp (Zl 3 (.keep (Zl 3 (.abs (R3 Str Int Bool) (fun YY=>AV.pv (enc YY)) (.ask (Zl 4 (.ask (.lit (.keep (Zu 2))) (.lit (.keep (Zl 3 (.abs (R3 Str Int Bool) (fun YY=>AV.pv (enc YY)) (.ask (Zl 4 (.ask (.lit (.keep (Zu 2))) (.lit (.nil)))) (Zu 5)))))))) (Zl 5 (.keep (Zl 3 (.abs (R3 Str Int Bool) (fun YY=>AV.pv (enc YY)) (.ask (Zl 4 (.ask (.lit (.keep (Zu 2))) (.lit (.nil)))) (Zu 5))))))))))) h (by kernel_rfl)
theorem b6j{G:PV->Prop}(s:List UInt8)(h : ∃ y0:R3 Str Int Bool,AV.pv (Zb (fun(x:Str×Bool×Unit)=>YJ x.1 x.2.1) [(.str (PV.asStr (List.getD (PV.cells (List.getD Zz (0+Int.toNat 1) default)) 0 default))),(.bool false)])=AV.pv (enc y0)∧(if (R3.c y0)=true then if (Str.s (R3.a y0)==s)=true then G ((.tup [(.str (PV.asStr (List.getD (PV.cells (List.getD Zz (0+Int.toNat 1) default)) 0 default))),(.bool false),(.bool true)]))else(∃ y1:R3 Str Int Bool,AV.pv (Zb (fun(x:Str×Bool×Unit)=>YJ x.1 x.2.1) [(.str (PV.asStr (List.getD (PV.cells (List.getD Zz (0+Int.toNat 1) default)) 0 default))),(.bool true)])=AV.pv (enc y1)∧(if (R3.c y1)=true then if (Str.s (R3.a y1)==s)=true then G ((.tup [(.str (PV.asStr (List.getD (PV.cells (List.getD Zz (0+Int.toNat 1) default)) 0 default))),(.bool true),(.bool true)]))else(At ZC 0 (Za Zr G) Zt 0 58 [(0,(.pv (.str s))),(5,(.row 0 14 0 14)),(6,(.pv (.int .i64 2)))] [(.obj (.row false 9 1 Zz))])else(At ZC 0 (Za Zr G) Zt 0 58 [(0,(.pv (.str s))),(5,(.row 0 14 0 14)),(6,(.pv (.int .i64 2)))] [(.obj (.row false 9 1 Zz))])))else(∃ y2:R3 Str Int Bool,AV.pv (Zb (fun(x:Str×Bool×Unit)=>YJ x.1 x.2.1) [(.str (PV.asStr (List.getD (PV.cells (List.getD Zz (0+Int.toNat 1) default)) 0 default))),(.bool true)])=AV.pv (enc y2)∧(if (R3.c y2)=true then if (Str.s (R3.a y2)==s)=true then G ((.tup [(.str (PV.asStr (List.getD (PV.cells (List.getD Zz (0+Int.toNat 1) default)) 0 default))),(.bool true),(.bool true)]))else(At ZC 0 (Za Zr G) Zt 0 58 [(0,(.pv (.str s))),(5,(.row 0 14 0 14)),(6,(.pv (.int .i64 2)))] [(.obj (.row false 9 1 Zz))])else(At ZC 0 (Za Zr G) Zt 0 58 [(0,(.pv (.str s))),(5,(.row 0 14 0 14)),(6,(.pv (.int .i64 2)))] [(.obj (.row false 9 1 Zz))]))))):At ZC 0 (Za Zr G) Zt 0 58 [(0,.pv (.str s)),(5,.row 0 14 0 14),(6,.pv (.int .i64 1))] [.obj (.row false 9 1 Zz)]:=At.tp (Zl 3 (.keep (Zl 3 (.abs (R3 Str Int Bool) (fun YY=>AV.pv (enc YY)) (.ask (Zl 4 (.ask (.lit (.keep (Zu 2))) (.lit (.keep (Zl 3 (.abs (R3 Str Int Bool) (fun YY=>AV.pv (enc YY)) (.ask (Zl 4 (.ask (.lit (.keep (Zu 2))) (.lit (.nil)))) (Zu 5)))))))) (Zl 5 (.keep (Zl 3 (.abs (R3 Str Int Bool) (fun YY=>AV.pv (enc YY)) (.ask (Zl 4 (.ask (.lit (.keep (Zu 2))) (.lit (.nil)))) (Zu 5))))))))))) h (by kernel_rfl)
theorem b8j{G:PV->Prop}(s:List UInt8)(h : ∃ y0:R3 Str Int Bool,AV.pv (Zb (fun(x:Str×Bool×Unit)=>YJ x.1 x.2.1) [(.str (PV.asStr (List.getD (PV.cells (List.getD Zz (0+Int.toNat 2) default)) 0 default))),(.bool false)])=AV.pv (enc y0)∧(if (R3.c y0)=true then if (Str.s (R3.a y0)==s)=true then G ((.tup [(.str (PV.asStr (List.getD (PV.cells (List.getD Zz (0+Int.toNat 2) default)) 0 default))),(.bool false),(.bool true)]))else(∃ y1:R3 Str Int Bool,AV.pv (Zb (fun(x:Str×Bool×Unit)=>YJ x.1 x.2.1) [(.str (PV.asStr (List.getD (PV.cells (List.getD Zz (0+Int.toNat 2) default)) 0 default))),(.bool true)])=AV.pv (enc y1)∧(if (R3.c y1)=true then if (Str.s (R3.a y1)==s)=true then G ((.tup [(.str (PV.asStr (List.getD (PV.cells (List.getD Zz (0+Int.toNat 2) default)) 0 default))),(.bool true),(.bool true)]))else(At ZC 0 (Za Zr G) Zt 0 58 [(0,(.pv (.str s))),(5,(.row 0 14 0 14)),(6,(.pv (.int .i64 3)))] [(.obj (.row false 9 1 Zz))])else(At ZC 0 (Za Zr G) Zt 0 58 [(0,(.pv (.str s))),(5,(.row 0 14 0 14)),(6,(.pv (.int .i64 3)))] [(.obj (.row false 9 1 Zz))])))else(∃ y2:R3 Str Int Bool,AV.pv (Zb (fun(x:Str×Bool×Unit)=>YJ x.1 x.2.1) [(.str (PV.asStr (List.getD (PV.cells (List.getD Zz (0+Int.toNat 2) default)) 0 default))),(.bool true)])=AV.pv (enc y2)∧(if (R3.c y2)=true then if (Str.s (R3.a y2)==s)=true then G ((.tup [(.str (PV.asStr (List.getD (PV.cells (List.getD Zz (0+Int.toNat 2) default)) 0 default))),(.bool true),(.bool true)]))else(At ZC 0 (Za Zr G) Zt 0 58 [(0,(.pv (.str s))),(5,(.row 0 14 0 14)),(6,(.pv (.int .i64 3)))] [(.obj (.row false 9 1 Zz))])else(At ZC 0 (Za Zr G) Zt 0 58 [(0,(.pv (.str s))),(5,(.row 0 14 0 14)),(6,(.pv (.int .i64 3)))] [(.obj (.row false 9 1 Zz))]))))):At ZC 0 (Za Zr G) Zt 0 58 [(0,.pv (.str s)),(5,.row 0 14 0 14),(6,.pv (.int .i64 2))] [.obj (.row false 9 1 Zz)]:=At.tp (Zl 3 (.keep (Zl 3 (.abs (R3 Str Int Bool) (fun YY=>AV.pv (enc YY)) (.ask (Zl 4 (.ask (.lit (.keep (Zu 2))) (.lit (.keep (Zl 3 (.abs (R3 Str Int Bool) (fun YY=>AV.pv (enc YY)) (.ask (Zl 4 (.ask (.lit (.keep (Zu 2))) (.lit (.nil)))) (Zu 5)))))))) (Zl 5 (.keep (Zl 3 (.abs (R3 Str Int Bool) (fun YY=>AV.pv (enc YY)) (.ask (Zl 4 (.ask (.lit (.keep (Zu 2))) (.lit (.nil)))) (Zu 5))))))))))) h (by kernel_rfl)
theorem b4z{G:PV->Prop}(s:List UInt8)(h : ∃ y0:R3 Str Int Bool,AV.pv (Zb (fun(x:Str×Bool×Unit)=>YJ x.1 x.2.1) [(.str (PV.asStr (List.getD (PV.cells (List.getD Zz (0+Int.toNat 3) default)) 0 default))),(.bool false)])=AV.pv (enc y0)∧(if (R3.c y0)=true then if (Str.s (R3.a y0)==s)=true then G ((.tup [(.str (PV.asStr (List.getD (PV.cells (List.getD Zz (0+Int.toNat 3) default)) 0 default))),(.bool false),(.bool true)]))else(∃ y1:R3 Str Int Bool,AV.pv (Zb (fun(x:Str×Bool×Unit)=>YJ x.1 x.2.1) [(.str (PV.asStr (List.getD (PV.cells (List.getD Zz (0+Int.toNat 3) default)) 0 default))),(.bool true)])=AV.pv (enc y1)∧(if (R3.c y1)=true then if (Str.s (R3.a y1)==s)=true then G ((.tup [(.str (PV.asStr (List.getD (PV.cells (List.getD Zz (0+Int.toNat 3) default)) 0 default))),(.bool true),(.bool true)]))else(At ZC 0 (Za Zr G) Zt 0 58 [(0,(.pv (.str s))),(5,(.row 0 14 0 14)),(6,(.pv (.int .i64 4)))] [(.obj (.row false 9 1 Zz))])else(At ZC 0 (Za Zr G) Zt 0 58 [(0,(.pv (.str s))),(5,(.row 0 14 0 14)),(6,(.pv (.int .i64 4)))] [(.obj (.row false 9 1 Zz))])))else(∃ y2:R3 Str Int Bool,AV.pv (Zb (fun(x:Str×Bool×Unit)=>YJ x.1 x.2.1) [(.str (PV.asStr (List.getD (PV.cells (List.getD Zz (0+Int.toNat 3) default)) 0 default))),(.bool true)])=AV.pv (enc y2)∧(if (R3.c y2)=true then if (Str.s (R3.a y2)==s)=true then G ((.tup [(.str (PV.asStr (List.getD (PV.cells (List.getD Zz (0+Int.toNat 3) default)) 0 default))),(.bool true),(.bool true)]))else(At ZC 0 (Za Zr G) Zt 0 58 [(0,(.pv (.str s))),(5,(.row 0 14 0 14)),(6,(.pv (.int .i64 4)))] [(.obj (.row false 9 1 Zz))])else(At ZC 0 (Za Zr G) Zt 0 58 [(0,(.pv (.str s))),(5,(.row 0 14 0 14)),(6,(.pv (.int .i64 4)))] [(.obj (.row false 9 1 Zz))]))))):At ZC 0 (Za Zr G) Zt 0 58 [(0,.pv (.str s)),(5,.row 0 14 0 14),(6,.pv (.int .i64 3))] [.obj (.row false 9 1 Zz)]:=At.tp (Zl 3 (.keep (Zl 3 (.abs (R3 Str Int Bool) (fun YY=>AV.pv (enc YY)) (.ask (Zl 4 (.ask (.lit (.keep (Zu 2))) (.lit (.keep (Zl 3 (.abs (R3 Str Int Bool) (fun YY=>AV.pv (enc YY)) (.ask (Zl 4 (.ask (.lit (.keep (Zu 2))) (.lit (.nil)))) (Zu 5)))))))) (Zl 5 (.keep (Zl 3 (.abs (R3 Str Int Bool) (fun YY=>AV.pv (enc YY)) (.ask (Zl 4 (.ask (.lit (.keep (Zu 2))) (.lit (.nil)))) (Zu 5))))))))))) h (by kernel_rfl)
theorem c3p{G:PV->Prop}(s:List UInt8)(h : ∃ y0:R3 Str Int Bool,AV.pv (Zb (fun(x:Str×Bool×Unit)=>YJ x.1 x.2.1) [(.str (PV.asStr (List.getD (PV.cells (List.getD Zz (0+Int.toNat 4) default)) 0 default))),(.bool false)])=AV.pv (enc y0)∧(if (R3.c y0)=true then if (Str.s (R3.a y0)==s)=true then G ((.tup [(.str (PV.asStr (List.getD (PV.cells (List.getD Zz (0+Int.toNat 4) default)) 0 default))),(.bool false),(.bool true)]))else(∃ y1:R3 Str Int Bool,AV.pv (Zb (fun(x:Str×Bool×Unit)=>YJ x.1 x.2.1) [(.str (PV.asStr (List.getD (PV.cells (List.getD Zz (0+Int.toNat 4) default)) 0 default))),(.bool true)])=AV.pv (enc y1)∧(if (R3.c y1)=true then if (Str.s (R3.a y1)==s)=true then G ((.tup [(.str (PV.asStr (List.getD (PV.cells (List.getD Zz (0+Int.toNat 4) default)) 0 default))),(.bool true),(.bool true)]))else(At ZC 0 (Za Zr G) Zt 0 58 [(0,(.pv (.str s))),(5,(.row 0 14 0 14)),(6,(.pv (.int .i64 5)))] [(.obj (.row false 9 1 Zz))])else(At ZC 0 (Za Zr G) Zt 0 58 [(0,(.pv (.str s))),(5,(.row 0 14 0 14)),(6,(.pv (.int .i64 5)))] [(.obj (.row false 9 1 Zz))])))else(∃ y2:R3 Str Int Bool,AV.pv (Zb (fun(x:Str×Bool×Unit)=>YJ x.1 x.2.1) [(.str (PV.asStr (List.getD (PV.cells (List.getD Zz (0+Int.toNat 4) default)) 0 default))),(.bool true)])=AV.pv (enc y2)∧(if (R3.c y2)=true then if (Str.s (R3.a y2)==s)=true then G ((.tup [(.str (PV.asStr (List.getD (PV.cells (List.getD Zz (0+Int.toNat 4) default)) 0 default))),(.bool true),(.bool true)]))else(At ZC 0 (Za Zr G) Zt 0 58 [(0,(.pv (.str s))),(5,(.row 0 14 0 14)),(6,(.pv (.int .i64 5)))] [(.obj (.row false 9 1 Zz))])else(At ZC 0 (Za Zr G) Zt 0 58 [(0,(.pv (.str s))),(5,(.row 0 14 0 14)),(6,(.pv (.int .i64 5)))] [(.obj (.row false 9 1 Zz))]))))):At ZC 0 (Za Zr G) Zt 0 58 [(0,.pv (.str s)),(5,.row 0 14 0 14),(6,.pv (.int .i64 4))] [.obj (.row false 9 1 Zz)]:=At.tp (Zl 3 (.keep (Zl 3 (.abs (R3 Str Int Bool) (fun YY=>AV.pv (enc YY)) (.ask (Zl 4 (.ask (.lit (.keep (Zu 2))) (.lit (.keep (Zl 3 (.abs (R3 Str Int Bool) (fun YY=>AV.pv (enc YY)) (.ask (Zl 4 (.ask (.lit (.keep (Zu 2))) (.lit (.nil)))) (Zu 5)))))))) (Zl 5 (.keep (Zl 3 (.abs (R3 Str Int Bool) (fun YY=>AV.pv (enc YY)) (.ask (Zl 4 (.ask (.lit (.keep (Zu 2))) (.lit (.nil)))) (Zu 5))))))))))) h (by kernel_rfl)
theorem c1j{G:PV->Prop}(s:List UInt8)(h : ∃ y0:R3 Str Int Bool,AV.pv (Zb (fun(x:Str×Bool×Unit)=>YJ x.1 x.2.1) [(.str (PV.asStr (List.getD (PV.cells (List.getD Zz (0+Int.toNat 5) default)) 0 default))),(.bool false)])=AV.pv (enc y0)∧(if (R3.c y0)=true then if (Str.s (R3.a y0)==s)=true then G ((.tup [(.str (PV.asStr (List.getD (PV.cells (List.getD Zz (0+Int.toNat 5) default)) 0 default))),(.bool false),(.bool true)]))else(∃ y1:R3 Str Int Bool,AV.pv (Zb (fun(x:Str×Bool×Unit)=>YJ x.1 x.2.1) [(.str (PV.asStr (List.getD (PV.cells (List.getD Zz (0+Int.toNat 5) default)) 0 default))),(.bool true)])=AV.pv (enc y1)∧(if (R3.c y1)=true then if (Str.s (R3.a y1)==s)=true then G ((.tup [(.str (PV.asStr (List.getD (PV.cells (List.getD Zz (0+Int.toNat 5) default)) 0 default))),(.bool true),(.bool true)]))else(At ZC 0 (Za Zr G) Zt 0 58 [(0,(.pv (.str s))),(5,(.row 0 14 0 14)),(6,(.pv (.int .i64 6)))] [(.obj (.row false 9 1 Zz))])else(At ZC 0 (Za Zr G) Zt 0 58 [(0,(.pv (.str s))),(5,(.row 0 14 0 14)),(6,(.pv (.int .i64 6)))] [(.obj (.row false 9 1 Zz))])))else(∃ y2:R3 Str Int Bool,AV.pv (Zb (fun(x:Str×Bool×Unit)=>YJ x.1 x.2.1) [(.str (PV.asStr (List.getD (PV.cells (List.getD Zz (0+Int.toNat 5) default)) 0 default))),(.bool true)])=AV.pv (enc y2)∧(if (R3.c y2)=true then if (Str.s (R3.a y2)==s)=true then G ((.tup [(.str (PV.asStr (List.getD (PV.cells (List.getD Zz (0+Int.toNat 5) default)) 0 default))),(.bool true),(.bool true)]))else(At ZC 0 (Za Zr G) Zt 0 58 [(0,(.pv (.str s))),(5,(.row 0 14 0 14)),(6,(.pv (.int .i64 6)))] [(.obj (.row false 9 1 Zz))])else(At ZC 0 (Za Zr G) Zt 0 58 [(0,(.pv (.str s))),(5,(.row 0 14 0 14)),(6,(.pv (.int .i64 6)))] [(.obj (.row false 9 1 Zz))]))))):At ZC 0 (Za Zr G) Zt 0 58 [(0,.pv (.str s)),(5,.row 0 14 0 14),(6,.pv (.int .i64 5))] [.obj (.row false 9 1 Zz)]:=At.tp (Zl 3 (.keep (Zl 3 (.abs (R3 Str Int Bool) (fun YY=>AV.pv (enc YY)) (.ask (Zl 4 (.ask (.lit (.keep (Zu 2))) (.lit (.keep (Zl 3 (.abs (R3 Str Int Bool) (fun YY=>AV.pv (enc YY)) (.ask (Zl 4 (.ask (.lit (.keep (Zu 2))) (.lit (.nil)))) (Zu 5)))))))) (Zl 5 (.keep (Zl 3 (.abs (R3 Str Int Bool) (fun YY=>AV.pv (enc YY)) (.ask (Zl 4 (.ask (.lit (.keep (Zu 2))) (.lit (.nil)))) (Zu 5))))))))))) h (by kernel_rfl)
theorem c4d{G:PV->Prop}(s:List UInt8)(h : ∃ y0:R3 Str Int Bool,AV.pv (Zb (fun(x:Str×Bool×Unit)=>YJ x.1 x.2.1) [(.str (PV.asStr (List.getD (PV.cells (List.getD Zz (0+Int.toNat 6) default)) 0 default))),(.bool false)])=AV.pv (enc y0)∧(if (R3.c y0)=true then if (Str.s (R3.a y0)==s)=true then G ((.tup [(.str (PV.asStr (List.getD (PV.cells (List.getD Zz (0+Int.toNat 6) default)) 0 default))),(.bool false),(.bool true)]))else(∃ y1:R3 Str Int Bool,AV.pv (Zb (fun(x:Str×Bool×Unit)=>YJ x.1 x.2.1) [(.str (PV.asStr (List.getD (PV.cells (List.getD Zz (0+Int.toNat 6) default)) 0 default))),(.bool true)])=AV.pv (enc y1)∧(if (R3.c y1)=true then if (Str.s (R3.a y1)==s)=true then G ((.tup [(.str (PV.asStr (List.getD (PV.cells (List.getD Zz (0+Int.toNat 6) default)) 0 default))),(.bool true),(.bool true)]))else(At ZC 0 (Za Zr G) Zt 0 58 [(0,(.pv (.str s))),(5,(.row 0 14 0 14)),(6,(.pv (.int .i64 7)))] [(.obj (.row false 9 1 Zz))])else(At ZC 0 (Za Zr G) Zt 0 58 [(0,(.pv (.str s))),(5,(.row 0 14 0 14)),(6,(.pv (.int .i64 7)))] [(.obj (.row false 9 1 Zz))])))else(∃ y2:R3 Str Int Bool,AV.pv (Zb (fun(x:Str×Bool×Unit)=>YJ x.1 x.2.1) [(.str (PV.asStr (List.getD (PV.cells (List.getD Zz (0+Int.toNat 6) default)) 0 default))),(.bool true)])=AV.pv (enc y2)∧(if (R3.c y2)=true then if (Str.s (R3.a y2)==s)=true then G ((.tup [(.str (PV.asStr (List.getD (PV.cells (List.getD Zz (0+Int.toNat 6) default)) 0 default))),(.bool true),(.bool true)]))else(At ZC 0 (Za Zr G) Zt 0 58 [(0,(.pv (.str s))),(5,(.row 0 14 0 14)),(6,(.pv (.int .i64 7)))] [(.obj (.row false 9 1 Zz))])else(At ZC 0 (Za Zr G) Zt 0 58 [(0,(.pv (.str s))),(5,(.row 0 14 0 14)),(6,(.pv (.int .i64 7)))] [(.obj (.row false 9 1 Zz))]))))):At ZC 0 (Za Zr G) Zt 0 58 [(0,.pv (.str s)),(5,.row 0 14 0 14),(6,.pv (.int .i64 6))] [.obj (.row false 9 1 Zz)]:=At.tp (Zl 3 (.keep (Zl 3 (.abs (R3 Str Int Bool) (fun YY=>AV.pv (enc YY)) (.ask (Zl 4 (.ask (.lit (.keep (Zu 2))) (.lit (.keep (Zl 3 (.abs (R3 Str Int Bool) (fun YY=>AV.pv (enc YY)) (.ask (Zl 4 (.ask (.lit (.keep (Zu 2))) (.lit (.nil)))) (Zu 5)))))))) (Zl 5 (.keep (Zl 3 (.abs (R3 Str Int Bool) (fun YY=>AV.pv (enc YY)) (.ask (Zl 4 (.ask (.lit (.keep (Zu 2))) (.lit (.nil)))) (Zu 5))))))))))) h (by kernel_rfl)
theorem c4n{G:PV->Prop}(s:List UInt8)(h : ∃ y0:R3 Str Int Bool,AV.pv (Zb (fun(x:Str×Bool×Unit)=>YJ x.1 x.2.1) [(.str (PV.asStr (List.getD (PV.cells (List.getD Zz (0+Int.toNat 7) default)) 0 default))),(.bool false)])=AV.pv (enc y0)∧(if (R3.c y0)=true then if (Str.s (R3.a y0)==s)=true then G ((.tup [(.str (PV.asStr (List.getD (PV.cells (List.getD Zz (0+Int.toNat 7) default)) 0 default))),(.bool false),(.bool true)]))else(∃ y1:R3 Str Int Bool,AV.pv (Zb (fun(x:Str×Bool×Unit)=>YJ x.1 x.2.1) [(.str (PV.asStr (List.getD (PV.cells (List.getD Zz (0+Int.toNat 7) default)) 0 default))),(.bool true)])=AV.pv (enc y1)∧(if (R3.c y1)=true then if (Str.s (R3.a y1)==s)=true then G ((.tup [(.str (PV.asStr (List.getD (PV.cells (List.getD Zz (0+Int.toNat 7) default)) 0 default))),(.bool true),(.bool true)]))else(At ZC 0 (Za Zr G) Zt 0 58 [(0,(.pv (.str s))),(5,(.row 0 14 0 14)),(6,(.pv (.int .i64 8)))] [(.obj (.row false 9 1 Zz))])else(At ZC 0 (Za Zr G) Zt 0 58 [(0,(.pv (.str s))),(5,(.row 0 14 0 14)),(6,(.pv (.int .i64 8)))] [(.obj (.row false 9 1 Zz))])))else(∃ y2:R3 Str Int Bool,AV.pv (Zb (fun(x:Str×Bool×Unit)=>YJ x.1 x.2.1) [(.str (PV.asStr (List.getD (PV.cells (List.getD Zz (0+Int.toNat 7) default)) 0 default))),(.bool true)])=AV.pv (enc y2)∧(if (R3.c y2)=true then if (Str.s (R3.a y2)==s)=true then G ((.tup [(.str (PV.asStr (List.getD (PV.cells (List.getD Zz (0+Int.toNat 7) default)) 0 default))),(.bool true),(.bool true)]))else(At ZC 0 (Za Zr G) Zt 0 58 [(0,(.pv (.str s))),(5,(.row 0 14 0 14)),(6,(.pv (.int .i64 8)))] [(.obj (.row false 9 1 Zz))])else(At ZC 0 (Za Zr G) Zt 0 58 [(0,(.pv (.str s))),(5,(.row 0 14 0 14)),(6,(.pv (.int .i64 8)))] [(.obj (.row false 9 1 Zz))]))))):At ZC 0 (Za Zr G) Zt 0 58 [(0,.pv (.str s)),(5,.row 0 14 0 14),(6,.pv (.int .i64 7))] [.obj (.row false 9 1 Zz)]:=At.tp (Zl 3 (.keep (Zl 3 (.abs (R3 Str Int Bool) (fun YY=>AV.pv (enc YY)) (.ask (Zl 4 (.ask (.lit (.keep (Zu 2))) (.lit (.keep (Zl 3 (.abs (R3 Str Int Bool) (fun YY=>AV.pv (enc YY)) (.ask (Zl 4 (.ask (.lit (.keep (Zu 2))) (.lit (.nil)))) (Zu 5)))))))) (Zl 5 (.keep (Zl 3 (.abs (R3 Str Int Bool) (fun YY=>AV.pv (enc YY)) (.ask (Zl 4 (.ask (.lit (.keep (Zu 2))) (.lit (.nil)))) (Zu 5))))))))))) h (by kernel_rfl)
theorem b8f{G:PV->Prop}(s:List UInt8)(h : ∃ y0:R3 Str Int Bool,AV.pv (Zb (fun(x:Str×Bool×Unit)=>YJ x.1 x.2.1) [(.str (PV.asStr (List.getD (PV.cells (List.getD Zz (0+Int.toNat 8) default)) 0 default))),(.bool false)])=AV.pv (enc y0)∧(if (R3.c y0)=true then if (Str.s (R3.a y0)==s)=true then G ((.tup [(.str (PV.asStr (List.getD (PV.cells (List.getD Zz (0+Int.toNat 8) default)) 0 default))),(.bool false),(.bool true)]))else(∃ y1:R3 Str Int Bool,AV.pv (Zb (fun(x:Str×Bool×Unit)=>YJ x.1 x.2.1) [(.str (PV.asStr (List.getD (PV.cells (List.getD Zz (0+Int.toNat 8) default)) 0 default))),(.bool true)])=AV.pv (enc y1)∧(if (R3.c y1)=true then if (Str.s (R3.a y1)==s)=true then G ((.tup [(.str (PV.asStr (List.getD (PV.cells (List.getD Zz (0+Int.toNat 8) default)) 0 default))),(.bool true),(.bool true)]))else(At ZC 0 (Za Zr G) Zt 0 58 [(0,(.pv (.str s))),(5,(.row 0 14 0 14)),(6,(.pv (.int .i64 9)))] [(.obj (.row false 9 1 Zz))])else(At ZC 0 (Za Zr G) Zt 0 58 [(0,(.pv (.str s))),(5,(.row 0 14 0 14)),(6,(.pv (.int .i64 9)))] [(.obj (.row false 9 1 Zz))])))else(∃ y2:R3 Str Int Bool,AV.pv (Zb (fun(x:Str×Bool×Unit)=>YJ x.1 x.2.1) [(.str (PV.asStr (List.getD (PV.cells (List.getD Zz (0+Int.toNat 8) default)) 0 default))),(.bool true)])=AV.pv (enc y2)∧(if (R3.c y2)=true then if (Str.s (R3.a y2)==s)=true then G ((.tup [(.str (PV.asStr (List.getD (PV.cells (List.getD Zz (0+Int.toNat 8) default)) 0 default))),(.bool true),(.bool true)]))else(At ZC 0 (Za Zr G) Zt 0 58 [(0,(.pv (.str s))),(5,(.row 0 14 0 14)),(6,(.pv (.int .i64 9)))] [(.obj (.row false 9 1 Zz))])else(At ZC 0 (Za Zr G) Zt 0 58 [(0,(.pv (.str s))),(5,(.row 0 14 0 14)),(6,(.pv (.int .i64 9)))] [(.obj (.row false 9 1 Zz))]))))):At ZC 0 (Za Zr G) Zt 0 58 [(0,.pv (.str s)),(5,.row 0 14 0 14),(6,.pv (.int .i64 8))] [.obj (.row false 9 1 Zz)]:=At.tp (Zl 3 (.keep (Zl 3 (.abs (R3 Str Int Bool) (fun YY=>AV.pv (enc YY)) (.ask (Zl 4 (.ask (.lit (.keep (Zu 2))) (.lit (.keep (Zl 3 (.abs (R3 Str Int Bool) (fun YY=>AV.pv (enc YY)) (.ask (Zl 4 (.ask (.lit (.keep (Zu 2))) (.lit (.nil)))) (Zu 5)))))))) (Zl 5 (.keep (Zl 3 (.abs (R3 Str Int Bool) (fun YY=>AV.pv (enc YY)) (.ask (Zl 4 (.ask (.lit (.keep (Zu 2))) (.lit (.nil)))) (Zu 5))))))))))) h (by kernel_rfl)
theorem b9c{G:PV->Prop}(s:List UInt8)(h : ∃ y0:R3 Str Int Bool,AV.pv (Zb (fun(x:Str×Bool×Unit)=>YJ x.1 x.2.1) [(.str (PV.asStr (List.getD (PV.cells (List.getD Zz (0+Int.toNat 9) default)) 0 default))),(.bool false)])=AV.pv (enc y0)∧(if (R3.c y0)=true then if (Str.s (R3.a y0)==s)=true then G ((.tup [(.str (PV.asStr (List.getD (PV.cells (List.getD Zz (0+Int.toNat 9) default)) 0 default))),(.bool false),(.bool true)]))else(∃ y1:R3 Str Int Bool,AV.pv (Zb (fun(x:Str×Bool×Unit)=>YJ x.1 x.2.1) [(.str (PV.asStr (List.getD (PV.cells (List.getD Zz (0+Int.toNat 9) default)) 0 default))),(.bool true)])=AV.pv (enc y1)∧(if (R3.c y1)=true then if (Str.s (R3.a y1)==s)=true then G ((.tup [(.str (PV.asStr (List.getD (PV.cells (List.getD Zz (0+Int.toNat 9) default)) 0 default))),(.bool true),(.bool true)]))else(At ZC 0 (Za Zr G) Zt 0 58 [(0,(.pv (.str s))),(5,(.row 0 14 0 14)),(6,(.pv (.int .i64 10)))] [(.obj (.row false 9 1 Zz))])else(At ZC 0 (Za Zr G) Zt 0 58 [(0,(.pv (.str s))),(5,(.row 0 14 0 14)),(6,(.pv (.int .i64 10)))] [(.obj (.row false 9 1 Zz))])))else(∃ y2:R3 Str Int Bool,AV.pv (Zb (fun(x:Str×Bool×Unit)=>YJ x.1 x.2.1) [(.str (PV.asStr (List.getD (PV.cells (List.getD Zz (0+Int.toNat 9) default)) 0 default))),(.bool true)])=AV.pv (enc y2)∧(if (R3.c y2)=true then if (Str.s (R3.a y2)==s)=true then G ((.tup [(.str (PV.asStr (List.getD (PV.cells (List.getD Zz (0+Int.toNat 9) default)) 0 default))),(.bool true),(.bool true)]))else(At ZC 0 (Za Zr G) Zt 0 58 [(0,(.pv (.str s))),(5,(.row 0 14 0 14)),(6,(.pv (.int .i64 10)))] [(.obj (.row false 9 1 Zz))])else(At ZC 0 (Za Zr G) Zt 0 58 [(0,(.pv (.str s))),(5,(.row 0 14 0 14)),(6,(.pv (.int .i64 10)))] [(.obj (.row false 9 1 Zz))]))))):At ZC 0 (Za Zr G) Zt 0 58 [(0,.pv (.str s)),(5,.row 0 14 0 14),(6,.pv (.int .i64 9))] [.obj (.row false 9 1 Zz)]:=At.tp (Zl 3 (.keep (Zl 3 (.abs (R3 Str Int Bool) (fun YY=>AV.pv (enc YY)) (.ask (Zl 4 (.ask (.lit (.keep (Zu 2))) (.lit (.keep (Zl 3 (.abs (R3 Str Int Bool) (fun YY=>AV.pv (enc YY)) (.ask (Zl 4 (.ask (.lit (.keep (Zu 2))) (.lit (.nil)))) (Zu 5)))))))) (Zl 5 (.keep (Zl 3 (.abs (R3 Str Int Bool) (fun YY=>AV.pv (enc YY)) (.ask (Zl 4 (.ask (.lit (.keep (Zu 2))) (.lit (.nil)))) (Zu 5))))))))))) h (by kernel_rfl)
theorem b6x{G:PV->Prop}(s:List UInt8)(h : ∃ y0:R3 Str Int Bool,AV.pv (Zb (fun(x:Str×Bool×Unit)=>YJ x.1 x.2.1) [(.str (PV.asStr (List.getD (PV.cells (List.getD Zz (0+Int.toNat 10) default)) 0 default))),(.bool false)])=AV.pv (enc y0)∧(if (R3.c y0)=true then if (Str.s (R3.a y0)==s)=true then G ((.tup [(.str (PV.asStr (List.getD (PV.cells (List.getD Zz (0+Int.toNat 10) default)) 0 default))),(.bool false),(.bool true)]))else(∃ y1:R3 Str Int Bool,AV.pv (Zb (fun(x:Str×Bool×Unit)=>YJ x.1 x.2.1) [(.str (PV.asStr (List.getD (PV.cells (List.getD Zz (0+Int.toNat 10) default)) 0 default))),(.bool true)])=AV.pv (enc y1)∧(if (R3.c y1)=true then if (Str.s (R3.a y1)==s)=true then G ((.tup [(.str (PV.asStr (List.getD (PV.cells (List.getD Zz (0+Int.toNat 10) default)) 0 default))),(.bool true),(.bool true)]))else(At ZC 0 (Za Zr G) Zt 0 58 [(0,(.pv (.str s))),(5,(.row 0 14 0 14)),(6,(.pv (.int .i64 11)))] [(.obj (.row false 9 1 Zz))])else(At ZC 0 (Za Zr G) Zt 0 58 [(0,(.pv (.str s))),(5,(.row 0 14 0 14)),(6,(.pv (.int .i64 11)))] [(.obj (.row false 9 1 Zz))])))else(∃ y2:R3 Str Int Bool,AV.pv (Zb (fun(x:Str×Bool×Unit)=>YJ x.1 x.2.1) [(.str (PV.asStr (List.getD (PV.cells (List.getD Zz (0+Int.toNat 10) default)) 0 default))),(.bool true)])=AV.pv (enc y2)∧(if (R3.c y2)=true then if (Str.s (R3.a y2)==s)=true then G ((.tup [(.str (PV.asStr (List.getD (PV.cells (List.getD Zz (0+Int.toNat 10) default)) 0 default))),(.bool true),(.bool true)]))else(At ZC 0 (Za Zr G) Zt 0 58 [(0,(.pv (.str s))),(5,(.row 0 14 0 14)),(6,(.pv (.int .i64 11)))] [(.obj (.row false 9 1 Zz))])else(At ZC 0 (Za Zr G) Zt 0 58 [(0,(.pv (.str s))),(5,(.row 0 14 0 14)),(6,(.pv (.int .i64 11)))] [(.obj (.row false 9 1 Zz))]))))):At ZC 0 (Za Zr G) Zt 0 58 [(0,.pv (.str s)),(5,.row 0 14 0 14),(6,.pv (.int .i64 10))] [.obj (.row false 9 1 Zz)]:=At.tp (Zl 3 (.keep (Zl 3 (.abs (R3 Str Int Bool) (fun YY=>AV.pv (enc YY)) (.ask (Zl 4 (.ask (.lit (.keep (Zu 2))) (.lit (.keep (Zl 3 (.abs (R3 Str Int Bool) (fun YY=>AV.pv (enc YY)) (.ask (Zl 4 (.ask (.lit (.keep (Zu 2))) (.lit (.nil)))) (Zu 5)))))))) (Zl 5 (.keep (Zl 3 (.abs (R3 Str Int Bool) (fun YY=>AV.pv (enc YY)) (.ask (Zl 4 (.ask (.lit (.keep (Zu 2))) (.lit (.nil)))) (Zu 5))))))))))) h (by kernel_rfl)
theorem c1v{G:PV->Prop}(s:List UInt8)(h : ∃ y0:R3 Str Int Bool,AV.pv (Zb (fun(x:Str×Bool×Unit)=>YJ x.1 x.2.1) [(.str (PV.asStr (List.getD (PV.cells (List.getD Zz (0+Int.toNat 11) default)) 0 default))),(.bool false)])=AV.pv (enc y0)∧(if (R3.c y0)=true then if (Str.s (R3.a y0)==s)=true then G ((.tup [(.str (PV.asStr (List.getD (PV.cells (List.getD Zz (0+Int.toNat 11) default)) 0 default))),(.bool false),(.bool true)]))else(∃ y1:R3 Str Int Bool,AV.pv (Zb (fun(x:Str×Bool×Unit)=>YJ x.1 x.2.1) [(.str (PV.asStr (List.getD (PV.cells (List.getD Zz (0+Int.toNat 11) default)) 0 default))),(.bool true)])=AV.pv (enc y1)∧(if (R3.c y1)=true then if (Str.s (R3.a y1)==s)=true then G ((.tup [(.str (PV.asStr (List.getD (PV.cells (List.getD Zz (0+Int.toNat 11) default)) 0 default))),(.bool true),(.bool true)]))else(At ZC 0 (Za Zr G) Zt 0 58 [(0,(.pv (.str s))),(5,(.row 0 14 0 14)),(6,(.pv (.int .i64 12)))] [(.obj (.row false 9 1 Zz))])else(At ZC 0 (Za Zr G) Zt 0 58 [(0,(.pv (.str s))),(5,(.row 0 14 0 14)),(6,(.pv (.int .i64 12)))] [(.obj (.row false 9 1 Zz))])))else(∃ y2:R3 Str Int Bool,AV.pv (Zb (fun(x:Str×Bool×Unit)=>YJ x.1 x.2.1) [(.str (PV.asStr (List.getD (PV.cells (List.getD Zz (0+Int.toNat 11) default)) 0 default))),(.bool true)])=AV.pv (enc y2)∧(if (R3.c y2)=true then if (Str.s (R3.a y2)==s)=true then G ((.tup [(.str (PV.asStr (List.getD (PV.cells (List.getD Zz (0+Int.toNat 11) default)) 0 default))),(.bool true),(.bool true)]))else(At ZC 0 (Za Zr G) Zt 0 58 [(0,(.pv (.str s))),(5,(.row 0 14 0 14)),(6,(.pv (.int .i64 12)))] [(.obj (.row false 9 1 Zz))])else(At ZC 0 (Za Zr G) Zt 0 58 [(0,(.pv (.str s))),(5,(.row 0 14 0 14)),(6,(.pv (.int .i64 12)))] [(.obj (.row false 9 1 Zz))]))))):At ZC 0 (Za Zr G) Zt 0 58 [(0,.pv (.str s)),(5,.row 0 14 0 14),(6,.pv (.int .i64 11))] [.obj (.row false 9 1 Zz)]:=At.tp (Zl 3 (.keep (Zl 3 (.abs (R3 Str Int Bool) (fun YY=>AV.pv (enc YY)) (.ask (Zl 4 (.ask (.lit (.keep (Zu 2))) (.lit (.keep (Zl 3 (.abs (R3 Str Int Bool) (fun YY=>AV.pv (enc YY)) (.ask (Zl 4 (.ask (.lit (.keep (Zu 2))) (.lit (.nil)))) (Zu 5)))))))) (Zl 5 (.keep (Zl 3 (.abs (R3 Str Int Bool) (fun YY=>AV.pv (enc YY)) (.ask (Zl 4 (.ask (.lit (.keep (Zu 2))) (.lit (.nil)))) (Zu 5))))))))))) h (by kernel_rfl)
theorem b7n{G:PV->Prop}(s:List UInt8)(h : ∃ y0:R3 Str Int Bool,AV.pv (Zb (fun(x:Str×Bool×Unit)=>YJ x.1 x.2.1) [(.str (PV.asStr (List.getD (PV.cells (List.getD Zz (0+Int.toNat 12) default)) 0 default))),(.bool false)])=AV.pv (enc y0)∧(if (R3.c y0)=true then if (Str.s (R3.a y0)==s)=true then G ((.tup [(.str (PV.asStr (List.getD (PV.cells (List.getD Zz (0+Int.toNat 12) default)) 0 default))),(.bool false),(.bool true)]))else(∃ y1:R3 Str Int Bool,AV.pv (Zb (fun(x:Str×Bool×Unit)=>YJ x.1 x.2.1) [(.str (PV.asStr (List.getD (PV.cells (List.getD Zz (0+Int.toNat 12) default)) 0 default))),(.bool true)])=AV.pv (enc y1)∧(if (R3.c y1)=true then if (Str.s (R3.a y1)==s)=true then G ((.tup [(.str (PV.asStr (List.getD (PV.cells (List.getD Zz (0+Int.toNat 12) default)) 0 default))),(.bool true),(.bool true)]))else(At ZC 0 (Za Zr G) Zt 0 58 [(0,(.pv (.str s))),(5,(.row 0 14 0 14)),(6,(.pv (.int .i64 13)))] [(.obj (.row false 9 1 Zz))])else(At ZC 0 (Za Zr G) Zt 0 58 [(0,(.pv (.str s))),(5,(.row 0 14 0 14)),(6,(.pv (.int .i64 13)))] [(.obj (.row false 9 1 Zz))])))else(∃ y2:R3 Str Int Bool,AV.pv (Zb (fun(x:Str×Bool×Unit)=>YJ x.1 x.2.1) [(.str (PV.asStr (List.getD (PV.cells (List.getD Zz (0+Int.toNat 12) default)) 0 default))),(.bool true)])=AV.pv (enc y2)∧(if (R3.c y2)=true then if (Str.s (R3.a y2)==s)=true then G ((.tup [(.str (PV.asStr (List.getD (PV.cells (List.getD Zz (0+Int.toNat 12) default)) 0 default))),(.bool true),(.bool true)]))else(At ZC 0 (Za Zr G) Zt 0 58 [(0,(.pv (.str s))),(5,(.row 0 14 0 14)),(6,(.pv (.int .i64 13)))] [(.obj (.row false 9 1 Zz))])else(At ZC 0 (Za Zr G) Zt 0 58 [(0,(.pv (.str s))),(5,(.row 0 14 0 14)),(6,(.pv (.int .i64 13)))] [(.obj (.row false 9 1 Zz))]))))):At ZC 0 (Za Zr G) Zt 0 58 [(0,.pv (.str s)),(5,.row 0 14 0 14),(6,.pv (.int .i64 12))] [.obj (.row false 9 1 Zz)]:=At.tp (Zl 3 (.keep (Zl 3 (.abs (R3 Str Int Bool) (fun YY=>AV.pv (enc YY)) (.ask (Zl 4 (.ask (.lit (.keep (Zu 2))) (.lit (.keep (Zl 3 (.abs (R3 Str Int Bool) (fun YY=>AV.pv (enc YY)) (.ask (Zl 4 (.ask (.lit (.keep (Zu 2))) (.lit (.nil)))) (Zu 5)))))))) (Zl 5 (.keep (Zl 3 (.abs (R3 Str Int Bool) (fun YY=>AV.pv (enc YY)) (.ask (Zl 4 (.ask (.lit (.keep (Zu 2))) (.lit (.nil)))) (Zu 5))))))))))) h (by kernel_rfl)
theorem c1u{G:PV->Prop}(s:List UInt8)(h : ∃ y0:R3 Str Int Bool,AV.pv (Zb (fun(x:Str×Bool×Unit)=>YJ x.1 x.2.1) [(.str (PV.asStr (List.getD (PV.cells (List.getD Zz (0+Int.toNat 13) default)) 0 default))),(.bool false)])=AV.pv (enc y0)∧(if (R3.c y0)=true then if (Str.s (R3.a y0)==s)=true then G ((.tup [(.str (PV.asStr (List.getD (PV.cells (List.getD Zz (0+Int.toNat 13) default)) 0 default))),(.bool false),(.bool true)]))else(∃ y1:R3 Str Int Bool,AV.pv (Zb (fun(x:Str×Bool×Unit)=>YJ x.1 x.2.1) [(.str (PV.asStr (List.getD (PV.cells (List.getD Zz (0+Int.toNat 13) default)) 0 default))),(.bool true)])=AV.pv (enc y1)∧(if (R3.c y1)=true then if (Str.s (R3.a y1)==s)=true then G ((.tup [(.str (PV.asStr (List.getD (PV.cells (List.getD Zz (0+Int.toNat 13) default)) 0 default))),(.bool true),(.bool true)]))else(At ZC 0 (Za Zr G) Zt 0 58 [(0,(.pv (.str s))),(5,(.row 0 14 0 14)),(6,(.pv (.int .i64 14)))] [(.obj (.row false 9 1 Zz))])else(At ZC 0 (Za Zr G) Zt 0 58 [(0,(.pv (.str s))),(5,(.row 0 14 0 14)),(6,(.pv (.int .i64 14)))] [(.obj (.row false 9 1 Zz))])))else(∃ y2:R3 Str Int Bool,AV.pv (Zb (fun(x:Str×Bool×Unit)=>YJ x.1 x.2.1) [(.str (PV.asStr (List.getD (PV.cells (List.getD Zz (0+Int.toNat 13) default)) 0 default))),(.bool true)])=AV.pv (enc y2)∧(if (R3.c y2)=true then if (Str.s (R3.a y2)==s)=true then G ((.tup [(.str (PV.asStr (List.getD (PV.cells (List.getD Zz (0+Int.toNat 13) default)) 0 default))),(.bool true),(.bool true)]))else(At ZC 0 (Za Zr G) Zt 0 58 [(0,(.pv (.str s))),(5,(.row 0 14 0 14)),(6,(.pv (.int .i64 14)))] [(.obj (.row false 9 1 Zz))])else(At ZC 0 (Za Zr G) Zt 0 58 [(0,(.pv (.str s))),(5,(.row 0 14 0 14)),(6,(.pv (.int .i64 14)))] [(.obj (.row false 9 1 Zz))]))))):At ZC 0 (Za Zr G) Zt 0 58 [(0,.pv (.str s)),(5,.row 0 14 0 14),(6,.pv (.int .i64 13))] [.obj (.row false 9 1 Zz)]:=At.tp (Zl 3 (.keep (Zl 3 (.abs (R3 Str Int Bool) (fun YY=>AV.pv (enc YY)) (.ask (Zl 4 (.ask (.lit (.keep (Zu 2))) (.lit (.keep (Zl 3 (.abs (R3 Str Int Bool) (fun YY=>AV.pv (enc YY)) (.ask (Zl 4 (.ask (.lit (.keep (Zu 2))) (.lit (.nil)))) (Zu 5)))))))) (Zl 5 (.keep (Zl 3 (.abs (R3 Str Int Bool) (fun YY=>AV.pv (enc YY)) (.ask (Zl 4 (.ask (.lit (.keep (Zu 2))) (.lit (.nil)))) (Zu 5))))))))))) h (by kernel_rfl)
theorem b8b{G:PV->Prop}(s:List UInt8)(h:G ((.tup [(.str []),(.bool false),(.bool false)]))):At ZC 0 (Za Zr G) Zt 0 58 [(0,.pv (.str s)),(5,.row 0 14 0 14),(6,.pv (.int .i64 14))] [.obj (.row false 9 1 Zz)]:=At.tp (Zu 2) h (by kernel_rfl)
end Go.Pl
namespace Go.Pl
open Go.RowKit
open Enc (enc dec is)
open EncL (encL decL isL)
theorem a1o: ∀ x:UInt8×Unit,(fun _:UInt8×Unit=>true) x=true->Ze Rf 0 (Za CR (Zi (lowB x.1))) Cc [] (Z0 b0h (encL x)):=by
 rintro⟨c,⟨⟩⟩ _
 refine b4t c (Gd (fun h=>ZA ?_) fun h=>ZA ?_)
 ·have h:(97:Int)<=c.toNat:=by simpa using h
  have h1:(97:UInt8)<=c:=by rw[UInt8.le_iff_toNat_le];exact Int.ofNat_le.1 h
  unfold lowB
  rw[decide_eq_true h1,Bool.true_and]
  exact decide_eq_decide.2 ⟨fun h=>UInt8.le_iff_toNat_le.2 (Int.ofNat_le.1 h),fun h=>Int.ofNat_le.2 (UInt8.le_iff_toNat_le.1 h)⟩
 ·have h : ¬ (97:Int)<=c.toNat:=by simpa using h
  have h1 : ¬ (97:UInt8)<=c:=by rw[UInt8.le_iff_toNat_le];exact fun k=>h (Int.ofNat_le.2 k)
  unfold lowB
  rw[decide_eq_false h1]
  rfl
theorem a2a: ∀ x:UInt8×Unit,(fun _:UInt8×Unit=>true) x=true->Ze Rq 0 (Za Bd (Zi (digB x.1))) Ba [] (Z0 a8p (encL x)):=by
 rintro⟨c,⟨⟩⟩ _
 refine c1d c (Gd (fun h=>ZA ?_) fun h=>ZA ?_)
 ·have h:(48:Int)<=c.toNat:=by simpa using h
  have h1:(48:UInt8)<=c:=by rw[UInt8.le_iff_toNat_le];exact Int.ofNat_le.1 h
  unfold digB
  rw[decide_eq_true h1,Bool.true_and]
  exact decide_eq_decide.2 ⟨fun h=>UInt8.le_iff_toNat_le.2 (Int.ofNat_le.1 h),fun h=>Int.ofNat_le.2 (UInt8.le_iff_toNat_le.1 h)⟩
 ·have h : ¬ (48:Int)<=c.toNat:=by simpa using h
  have h1 : ¬ (48:UInt8)<=c:=by rw[UInt8.le_iff_toNat_le];exact fun k=>h (Int.ofNat_le.2 k)
  unfold digB
  rw[decide_eq_false h1]
  rfl
theorem b7i: ∀ x:Str×Unit,(fun _:Str×Unit=>true) x=true->Ze a1z 0 (Za Mj (Zi (Qk.contains x.1.s))) N8 [] (Z0 c6q (encL x)):=by
 rintro⟨⟨s⟩,⟨⟩⟩ _
 refine d8o s ?_
 iterate 14 (refine ZL (fun h=>ZA (by subst h;rfl)) fun h=> ?_)
 refine ZA ?_
 show false=Qk.contains s
 rw[eq_comm,<- Bool.not_eq_true,List.contains_iff_mem]
 simp only[Qk,List.mem_cons,List.not_mem_nil,or_false,not_or]
 refine⟨?_,?_,?_,?_,?_,?_,?_,?_,?_,?_,?_,?_,?_,?_⟩ <;> assumption
theorem c2o{c:UInt8}{F:UInt8->Bool}{ps:List PV}{P:Bool->Prop}(e:ps=encL (c,()))(h:P (F c)):preT (fun x:UInt8×Unit=>true) ps=true∧ ∃ y:Bool,AV.pv (Zb (fun x:UInt8×Unit=>F x.1) ps)=AV.pv (enc y)∧P y:=⟨Zf (c,()) e rfl,Zd (c,()) e h⟩
theorem a1i(s:List UInt8)(hl:s.length<=1048576)(h1:1<=s.length)(R:Bool): ∀ (d i:Nat),d+i=s.length->1<=i->R=((s.drop i).all Fh&&(decide (s.length<=30)&& !Qk.contains s)) ->
  At UG 0 (Za VM (Zi R)) VN 0 39 [(0,.pv (.str s)),(3,.pv (.int .i64 i))] []:=by
 intro d
 induction d with
 | zero=>
  intro i hi h0 hR
  rw[List.drop_eq_nil_of_le (by omega),List.all_nil,Bool.true_and]at hR
  refine Dp s i (YA (YR (by omega)) (Yv (decide_eq_true (by omega)) (Yg (fun h=>Zd (⟨s⟩,()) rfl (ZA ?_)) fun h=>ZA ?_)))
  ·rw[hR,decide_eq_true (show s.length<=30 by omega)];rfl
  ·rw[hR,decide_eq_false (show ¬ s.length<=30 by omega)];rfl
 | succ d ih=>
  intro i hi h0 hR
  have hlt:i<s.length:=by omega
  have hix:(decide (0<=(i:Int))&&decide (Int.toNat (i:Int)<List.length s))=true:=by simp[hlt]
  rw[List.drop_eq_getElem_cons hlt,List.all_cons]at hR
  have k:=fun h=>ih (i+1) (by omega) (by omega) h
  refine Dp s i (Yv (YO hlt) ⟨hix,c2o (Sm hlt) (VY (fun hs=>YA (by simp;omega) ⟨hix,c2o (Sm hlt) (VY (fun hd=>ZA ?_) fun hd=> ?_)⟩) fun hs=> ?_)⟩)
  ·rw[hR];unfold Fh;rw[hs,hd];rfl
  ·rw[next (by omega)]
   exact k (by rw[hR];unfold Fh;rw[hd];rfl)
  ·rw[next (by omega)]
   exact k (by rw[hR];unfold Fh;rw[hs,Bool.or_true,Bool.true_and])
theorem b2l: ∀ x:Str×Unit,decide (x.1.s.length<=1048576)=true->Ze UG 0 (Za VM (Zi (ZN x.1.s))) VN [] (Z0 b7r (encL x)):=by
 rintro⟨⟨s⟩,⟨⟩⟩ h
 have hl:s.length<=1048576:=of_decide_eq_true h
 refine c7e s ?_
 show At UG 0 (Za VM (Zi (ZN s))) VN 0 39 [(0,.pv (.str s)),(3,.pv (.int .i64 ((0:Nat):Int)))] []
 cases s with
 | nil=>exact Dp [] 0 (YA (by simp) (YA (by simp) (ZA rfl)))
 | cons c r=>
  have hlt:0<(c::r).length:=by simp
  have hix:(decide (0<=((0:Nat):Int))&&decide (Int.toNat ((0:Nat):Int)<List.length (c::r)))=true:=by simp
  refine Dp (c::r) (0:Nat) (Yv (YO hlt) ⟨hix,c2o (Sm hlt) (VY (fun hs=>Yv (by simp) (ZA ?_)) fun hs=> ?_)⟩)
  ·have hs:lowB c=false:=hs
   show false=(lowB c&&r.all Fh&&decide (r.length<=29)&& !Qk.contains (c::r))
   rw[hs];rfl
  ·have hs:lowB c=true:=hs
   rw[next (by omega)]
   refine a1i (c::r) hl (by simp) _ r.length 1 (by rw[List.length_cons]) (by omega) ?_
   show(lowB c&&r.all Fh&&decide (r.length<=29)&& !Qk.contains (c::r))=(r.all Fh&&(decide (r.length+1<=30)&& !Qk.contains (c::r)))
   rw[hs,Bool.true_and,Bool.and_assoc,show decide (r.length<=29)=decide (r.length+1<=30)from decide_eq_decide.2 (by omega)]
theorem Pe{s:List UInt8}{P:Bool->Prop}(h0:s.length<=1048576)(h:P (ZN s)):preT (fun x:Str×Unit=>decide (x.1.s.length<=1048576)) [.str s]=true∧ ∃ y:Bool,AV.pv (Zb (fun x:Str×Unit=>ZN x.1.s) [.str s])=AV.pv (enc y)∧P y:=⟨Zf (⟨s⟩,()) rfl (decide_eq_true h0),Zd (⟨s⟩,()) rfl h⟩
theorem e0g{s:List UInt8}{P:Bool->Prop}(h0:s.length<=1048576)(h:P (fullI s)):preT (fun x:Str×Unit=>decide (x.1.s.length<=1048576)) [.str s]=true∧ ∃ y:Bool,AV.pv (Zb (fun x:Str×Unit=>fullI x.1.s) [.str s])=AV.pv (enc y)∧P y:=⟨Zf (⟨s⟩,()) rfl (decide_eq_true h0),Zd (⟨s⟩,()) rfl h⟩
theorem c0v{s:List UInt8}{P:Bool->Prop}(h0:s.length<=1048576)(h:P (JV s)):preT (fun x:Str×Unit=>decide (x.1.s.length<=1048576)) [.str s]=true∧ ∃ y:Bool,AV.pv (Zb (fun x:Str×Unit=>JV x.1.s) [.str s])=AV.pv (enc y)∧P y:=⟨Zf (⟨s⟩,()) rfl (decide_eq_true h0),Zd (⟨s⟩,()) rfl h⟩
theorem e2a{s:List UInt8}{i:Nat}(h:i<s.length)(ha : ∀ x∈s.take i,(x != 46)=true)(hb:s[i]=46):fullI s=(ZN (s.take i)&&ZN (s.drop (i+1))):=by
 have e:s=s.take i++s[i]::s.drop (i+1):=by rw[<- List.drop_eq_getElem_cons h,List.take_append_drop]
 have e1:(s.takeWhile fun c=>c != 46)=s.take i:=by
  have h2:((s.take i++s[i]::s.drop (i+1)).takeWhile fun c=>c != 46)=s.take i:=by
   rw[List.takeWhile_append_of_pos ha,hb,List.takeWhile_cons,if_neg (by decide),List.append_nil]
  rw[<- e]at h2
  exact h2
 have e2:(s.dropWhile fun c=>c != 46)=s[i]::s.drop (i+1):=by
  have h2:((s.take i++s[i]::s.drop (i+1)).dropWhile fun c=>c != 46)=s[i]::s.drop (i+1):=by
   rw[List.dropWhile_append_of_pos ha,hb,List.dropWhile_cons,if_neg (by decide)]
  rw[<- e]at h2
  exact h2
 unfold fullI
 rw[e1,e2]
theorem e2k{s:List UInt8}(ha : ∀ x∈s,(x != 46)=true):fullI s=false:=by
 have e2:(s.dropWhile fun c=>c != 46)=[]:=by
  have h2:((s++[]).dropWhile fun c=>c != 46)=[]:=by rw[List.dropWhile_append_of_pos ha];rfl
  rwa [List.append_nil]at h2
 unfold fullI
 rw[e2]
theorem a1a(s:List UInt8)(hl:s.length<=1048576): ∀ (d i:Nat),d+i=s.length->(∀ x∈s.take i,(x != 46)=true) ->
  At KF 0 (Za U9 (Zi (fullI s))) Qb 0 25 [(0,.pv (.str s)),(3,.pv (.int .i64 i))] []:=by
 intro d
 induction d with
 | zero=>
  intro i hi ha
  rw[List.take_of_length_le (by omega)]at ha
  exact OJ s i (YA (YR (by omega)) (ZA (e2k ha).symm))
 | succ d ih=>
  intro i hi ha
  have hlt:i<s.length:=by omega
  have hix:(decide (0<=(i:Int))&&decide (Int.toNat (i:Int)<List.length s))=true:=by simp[hlt]
  have hg:s.getD (Int.toNat (i:Int)) 0=s[i]:=by rw[Int.toNat_natCast,List.getD_eq_getElem?_getD,List.getElem?_eq_getElem hlt];rfl
  refine OJ s i (Yv (YO hlt) ⟨hix,ZL (fun h=> ?_) fun h=> ?_⟩)
  ·rw[hg]at h
   have hb:s[i]=46:=UInt8.toNat_inj.1 (by show s[i].toNat=46;omega)
   have e:=e2a hlt ha hb
   rw[Int.toNat_natCast,List.drop_zero,next (by omega),Int.toNat_natCast,List.take_of_length_le (Nat.le_refl s.length)]
   refine⟨by simp;omega,Pe (s:=s.take i) (by rw[List.length_take];omega) (XR (fun h1=>⟨by simp;omega,Pe (s:=s.drop (i+1)) (by rw[List.length_drop];omega) (ZA ?_)⟩) fun h1=>ZA ?_)⟩
   ·have h1:ZN (s.take i)=true:=h1
    rw[e,h1];rfl
   ·have h1:ZN (s.take i)=false:=h1
    rw[e,h1];rfl
  ·rw[hg]at h
   rw[next (by omega)]
   refine ih (i+1) (by omega) fun x hx=> ?_
   rw[UZ hlt,List.mem_append]at hx
   rcases hx with hx|hx
   ·exact ha x hx
   ·rw[List.mem_singleton]at hx
    subst hx
    have:s[i]≠46:=fun e=>h (by rw[e];rfl)
    simpa using this
theorem b0w: ∀ x:Str×Unit,decide (x.1.s.length<=1048576)=true->Ze KF 0 (Za U9 (Zi (fullI x.1.s))) Qb [] (Z0 c3w (encL x)):=by
 rintro⟨⟨s⟩,⟨⟩⟩ h
 exact d1o s (a1a s (of_decide_eq_true h) s.length 0 (by omega) (by simp))
theorem b6g: ∀ x:Str×Unit,decide (x.1.s.length<=1048576)=true->Ze a2i 0 (Za Nn (Zi (JV x.1.s))) NH [] (Z0 d0p (encL x)):=by
 rintro⟨⟨s⟩,⟨⟩⟩ h
 have hl:s.length<=1048576:=of_decide_eq_true h
 refine d6z s (Pe hl (XR (fun h1=>ZA ?_) fun h1=>e0g hl (ZA ?_)))
 ·have h1:ZN s=true:=h1
  show true=(ZN s||fullI s)
  rw[h1];rfl
 ·have h1:ZN s=false:=h1
  show fullI s=(ZN s||fullI s)
  rw[h1];rfl
theorem e2e{n:Nat}:((n:Int)==0)=decide (n=0):=by rw[Bool.eq_iff_iff];simp
theorem a0z: ∀ x:Tm×Bool×Bool×Bool×Bool×Bool×Unit,tW x.1=true->Ze TE 0 (Za QK (Zi (Z6 x.1.nd x.2.1 x.2.2.1 x.2.2.2.1 x.2.2.2.2.1 x.2.2.2.2.2.1))) CU [] (Z0 b1v (encL x)):=by
 rintro⟨⟨n,ks⟩,a,b,c,d,e,⟨⟩⟩ hw
 have hB:=EQ hw
 have h1:=hB.dims
 have h2:=hB.data
 rw[<- LV]
 have hb:Z6 n a b c d e=((a||decide (n.name.s=[]))&&(b||decide (n.num=0))&&(c||(decide (n.elem.s=[])&&decide (n.dims.length+n.data.length=0)))&&(d||decide (n.sizes.length=0))&&(e||decide (n.ranks.length=0))):=rfl
 show Ze _ 0 (Za QK (Zi (Z6 n a b c d e))) _ _ _
 rw[hb]
 have hb:Z6 n a b c d e=((a||decide (n.name.s=[]))&&(b||decide (n.num=0))&&(c||(decide (n.elem.s=[])&&decide (n.dims.length+n.data.length=0)))&&(d||decide (n.sizes.length=0))&&(e||decide (n.ranks.length=0))):=rfl
 show Ze _ 0 (Za QK (Zi (Z6 n a b c d e))) _ _ _
 rw[hb]
 refine c3o n ks a b c d e ?_
 simp only[List.length_map,SI (show n.dims.length+n.data.length<=4611686018427387904 by omega),e2e]
 generalize decide (n.dims.length+n.data.length=0)=X
 generalize decide (n.sizes.length=0)=Y
 generalize decide (n.ranks.length=0)=Z
 clear hb h1 h2 hB hw
 repeat' (first|refine ZL (fun _=> ?_) fun _=> ?_|refine XR (fun _=> ?_) fun _=> ?_|refine ZA ?_)
 all_goals simp_all
theorem b0v(l:List Lin)(hl:l.length<=1048576)(ho : ∀ x∈l,X3 x=true)(R:Bool): ∀ (d i:Nat),d+i=l.length->R=(l.drop i).all Zp ->
  At Gy 0 (Za KV (Zi R)) KR 0 16 [(0,.pv (enc l)),(3,.pv (.int .i64 i))] []:=by
 intro d
 induction d with
 | zero=>
  intro i hi hR
  rw[List.drop_eq_nil_of_le (by omega)]at hR
  exact a6i l i (YA (QF (by omega)) (ZA hR.symm))
 | succ d ih=>
  intro i hi hR
  have hlt:i<l.length:=by omega
  rw[List.drop_eq_getElem_cons hlt,List.all_cons]at hR
  refine a6i l i (Yv (QR hlt) ⟨ZT hlt rfl,Yk hlt ⟨Zf (l[i],()) rfl (ho _ (List.getElem_mem hlt)),Zd (l[i],()) rfl (VY (fun h=>ZA ?_) fun h=> ?_)⟩⟩)
  ·have h:Zp l[i]=false:=h
   rw[hR,h];rfl
  ·have h:Zp l[i]=true:=h
   rw[next (by omega)]
   exact ih (i+1) (by omega) (by rw[hR,h];rfl)
theorem c4i: ∀ x:List Lin×Unit,(decide (x.1.length<=1048576)&&x.1.all X3)=true->Ze Gy 0 (Za KV (Zi (x.1.all Zp))) KR [] (Z0 d0s (encL x)):=by
 rintro⟨l,⟨⟩⟩ h
 simp only[Bool.and_eq_true,decide_eq_true_eq,List.all_eq_true]at h
 exact d4a l (b0v l h.1 h.2 _ l.length 0 (by omega) rfl)
theorem c4b: ∀ x:Str×Bool×Unit,true=true->Ze ET 0 (Za MC (Zi (YJ x.1 x.2.1))) Mc [] (Z0 c5u (encL x)):=by
 rintro⟨⟨s⟩,u,⟨⟩⟩ _
 refine d4n s u (XR (fun hu=> ?_) fun hu=> ?_)
 ·subst hu
  iterate 2 (refine ZL (fun h=>by subst h;exact⟨rfl,rfl⟩) fun h=> ?_)
  refine Zo (x:=(⟨⟨[]⟩,0,false⟩:R3 Str Int Bool)) ?_
  have e:a2r s true=none:=by
   unfold a2r
   rw[List.find?_eq_none]
   intro x hx
   simp only[XL,List.mem_cons,List.not_mem_nil,or_false]at hx
   rcases hx with rfl|rfl|rfl|rfl|rfl|rfl|rfl|rfl|rfl|rfl|rfl|rfl|rfl|rfl|rfl <;> simp <;> intro e <;> simp_all
  show _=YJ ⟨s⟩ true
  unfold YJ
  rw[show a2r (⟨s⟩:Str).s true=none from e]
 ·subst hu
  iterate 13 (refine ZL (fun h=>by subst h;exact⟨rfl,rfl⟩) fun h=> ?_)
  refine Zo (x:=(⟨⟨[]⟩,0,false⟩:R3 Str Int Bool)) ?_
  have e:a2r s false=none:=by
   unfold a2r
   rw[List.find?_eq_none]
   intro x hx
   simp only[XL,List.mem_cons,List.not_mem_nil,or_false]at hx
   rcases hx with rfl|rfl|rfl|rfl|rfl|rfl|rfl|rfl|rfl|rfl|rfl|rfl|rfl|rfl|rfl <;> simp <;> intro e <;> simp_all
  show _=YJ ⟨s⟩ false
  unfold YJ
  rw[show a2r (⟨s⟩:Str).s false=none from e]
theorem d9x{n:List UInt8}{r:OpR}(h:GA n=some r):KS ⟨n⟩=⟨⟨r.s⟩,r.u,true⟩:=by unfold KS;rw[show GA (⟨n⟩:Str).s=some r from h]
theorem b9q: ∀ x:Str×Unit,true=true->Ze ZC 0 (Za Zr (Zi (KS x.1))) Zt [] (Z0 d0r (encL x)):=by
 rintro⟨⟨s⟩,⟨⟩⟩ _
 refine d3p s ?_
 refine b6t s (Zd (⟨[124,124]⟩,false,()) rfl ?_)
 refine Yv rfl (ZL (fun h=>by subst h;exact⟨rfl,rfl⟩) fun b0=>Zd (⟨[124,124]⟩,true,()) rfl ?_)
 refine YA (by decide) ?_
 refine b6j s (Zd (⟨[38,38]⟩,false,()) rfl ?_)
 refine Yv rfl (ZL (fun h=>by subst h;exact⟨rfl,rfl⟩) fun b1=>Zd (⟨[38,38]⟩,true,()) rfl ?_)
 refine YA (by decide) ?_
 refine b8j s (Zd (⟨[61,61]⟩,false,()) rfl ?_)
 refine Yv rfl (ZL (fun h=>by subst h;exact⟨rfl,rfl⟩) fun b2=>Zd (⟨[61,61]⟩,true,()) rfl ?_)
 refine YA (by decide) ?_
 refine b4z s (Zd (⟨[33,61]⟩,false,()) rfl ?_)
 refine Yv rfl (ZL (fun h=>by subst h;exact⟨rfl,rfl⟩) fun b3=>Zd (⟨[33,61]⟩,true,()) rfl ?_)
 refine YA (by decide) ?_
 refine c3p s (Zd (⟨[60]⟩,false,()) rfl ?_)
 refine Yv rfl (ZL (fun h=>by subst h;exact⟨rfl,rfl⟩) fun b4=>Zd (⟨[60]⟩,true,()) rfl ?_)
 refine YA (by decide) ?_
 refine c1j s (Zd (⟨[60,61]⟩,false,()) rfl ?_)
 refine Yv rfl (ZL (fun h=>by subst h;exact⟨rfl,rfl⟩) fun b5=>Zd (⟨[60,61]⟩,true,()) rfl ?_)
 refine YA (by decide) ?_
 refine c4d s (Zd (⟨[62]⟩,false,()) rfl ?_)
 refine Yv rfl (ZL (fun h=>by subst h;exact⟨rfl,rfl⟩) fun b6=>Zd (⟨[62]⟩,true,()) rfl ?_)
 refine YA (by decide) ?_
 refine c4n s (Zd (⟨[62,61]⟩,false,()) rfl ?_)
 refine Yv rfl (ZL (fun h=>by subst h;exact⟨rfl,rfl⟩) fun b7=>Zd (⟨[62,61]⟩,true,()) rfl ?_)
 refine YA (by decide) ?_
 refine b8f s (Zd (⟨[43]⟩,false,()) rfl ?_)
 refine Yv rfl (ZL (fun h=>by subst h;exact⟨rfl,rfl⟩) fun b8=>Zd (⟨[43]⟩,true,()) rfl ?_)
 refine YA (by decide) ?_
 refine b9c s (Zd (⟨[45]⟩,false,()) rfl ?_)
 refine Yv rfl (ZL (fun h=>by subst h;exact⟨rfl,rfl⟩) fun b9=>Zd (⟨[45]⟩,true,()) rfl ?_)
 refine Yv rfl (ZL (fun h=>by subst h;exact⟨rfl,rfl⟩) fun u9=> ?_)
 refine b6x s (Zd (⟨[42]⟩,false,()) rfl ?_)
 refine Yv rfl (ZL (fun h=>by subst h;exact⟨rfl,rfl⟩) fun b10=>Zd (⟨[42]⟩,true,()) rfl ?_)
 refine YA (by decide) ?_
 refine c1v s (Zd (⟨[47]⟩,false,()) rfl ?_)
 refine Yv rfl (ZL (fun h=>by subst h;exact⟨rfl,rfl⟩) fun b11=>Zd (⟨[47]⟩,true,()) rfl ?_)
 refine YA (by decide) ?_
 refine b7n s (Zd (⟨[37]⟩,false,()) rfl ?_)
 refine Yv rfl (ZL (fun h=>by subst h;exact⟨rfl,rfl⟩) fun b12=>Zd (⟨[37]⟩,true,()) rfl ?_)
 refine YA (by decide) ?_
 refine c1u s (Zd (⟨[33]⟩,false,()) rfl ?_)
 refine YA (by decide) (Zd (⟨[33]⟩,true,()) rfl ?_)
 refine Yv rfl (ZL (fun h=>by subst h;exact⟨rfl,rfl⟩) fun u13=> ?_)
 refine b8b s (Zo (x:=(⟨⟨[]⟩,false,false⟩:R3 Str Bool Bool)) ?_)
 have e:GA s=none:=by
  unfold GA
  rw[List.find?_eq_none]
  intro x hx
  simp only[XL,List.mem_cons,List.not_mem_nil,or_false]at hx
  rcases hx with rfl|rfl|rfl|rfl|rfl|rfl|rfl|rfl|rfl|rfl|rfl|rfl|rfl|rfl|rfl
  ·exact fun e=>b0 (eq_of_beq e)
  ·exact fun e=>b1 (eq_of_beq e)
  ·exact fun e=>b2 (eq_of_beq e)
  ·exact fun e=>b3 (eq_of_beq e)
  ·exact fun e=>b4 (eq_of_beq e)
  ·exact fun e=>b5 (eq_of_beq e)
  ·exact fun e=>b6 (eq_of_beq e)
  ·exact fun e=>b7 (eq_of_beq e)
  ·exact fun e=>b8 (eq_of_beq e)
  ·exact fun e=>b9 (eq_of_beq e)
  ·exact fun e=>b10 (eq_of_beq e)
  ·exact fun e=>b11 (eq_of_beq e)
  ·exact fun e=>b12 (eq_of_beq e)
  ·exact fun e=>u9 (eq_of_beq e)
  ·exact fun e=>u13 (eq_of_beq e)
 show _=KS ⟨s⟩
 unfold KS
 rw[show GA (⟨s⟩:Str).s=none from e]
theorem UK(n:Nd):Tx n=(decide (n.elem.s=[])&&decide (n.dims.length+n.data.length=0)):=by
 unfold Tx
 have e1:decide (n.elem=⟨[]⟩)=decide (n.elem.s=[]):=decide_eq_decide.2 ⟨fun h=>by rw[h],fun h=>by cases hn:n.elem;rw[hn]at h;simp only at h;rw[h]⟩
 rw[e1,Bool.and_assoc]
 congr 1
 cases n.dims <;> cases n.data <;> simp
theorem KG(n:Nd):decide (n.name=⟨[]⟩)=decide (n.name.s=[]):=decide_eq_decide.2 ⟨fun h=>by rw[h],fun h=>by cases hn:n.name;rw[hn]at h;simp only at h;rw[h]⟩
theorem VL{α:Type}(l:List α):l.isEmpty=decide (l.length=0):=by cases l <;> simp
theorem UU(n:Nd):Rs n=(decide (n.sizes.length=0)&&decide (n.ranks.length=0)):=by unfold Rs;rw[VL,VL]
def JX(n:Nd):Bool:=(decide (n.name.s=Wo)&&decide (n.num ≥ -2147483648)&&decide (n.num<=2147483647))||(decide (n.name.s=XJ)&&(decide (n.num=0)||decide (n.num=1)))
theorem UL(n:Nd):Uv n=JX n:=by
 unfold Uv JX
 rw[show decide (n.num<=2147483647)=decide (n.num<2147483648)from decide_eq_decide.2 (by omega)]
 by_cases h:n.name.s=XJ
 ·rw[if_pos h,h]
  simp[Wo,XJ]
 ·rw[if_neg h,decide_eq_false h]
  simp
theorem lQ1{n:Nd}(h1:n.name.s=[105,110,116])(h2:n.num ≥ -2147483648)(h3:n.num<=2147483647):JX n=true:=by unfold JX;rw[decide_eq_true (show n.name.s=Wo from h1),decide_eq_true h2,decide_eq_true h3];rfl
theorem lQ2{n:Nd}(h1:n.name.s=[98,111,111,108])(h2:n.num=0):JX n=true:=by unfold JX;rw[decide_eq_true (show n.name.s=XJ from h1),decide_eq_true h2];simp
theorem lQ3{n:Nd}(h1:n.name.s=[98,111,111,108])(h2:n.num=1):JX n=true:=by unfold JX;rw[decide_eq_true (show n.name.s=XJ from h1),decide_eq_true h2];simp
theorem lQ0{n:Nd}(h1 : ¬ (n.name.s=[105,110,116]∧n.num ≥ -2147483648∧n.num<=2147483647))(h2:n.name.s=[98,111,111,108]->n.num≠0∧n.num≠1):JX n=false:=by
 rw[<- Bool.not_eq_true]
 intro h
 unfold JX at h
 simp only[Bool.or_eq_true,Bool.and_eq_true,decide_eq_true_eq]at h
 rcases h with h|h
 ·exact h1 ⟨h.1.1,h.1.2,h.2⟩
 ·have:=h2 h.1
  rcases h.2 with h|h
  ·exact this.1 h
  ·exact this.2 h
theorem kB1{n:Nd}{k:Nat}(h:n.kind=1):YI n k=(decide (k=0)&&ZN n.name.s&&Z6 n true false false false false):=by
 unfold YI Z6
 simp only[h,UK,KG,UU,VL,UL,Bool.true_or,Bool.false_or,Bool.true_and,Bool.and_true,if_true,if_false,Int.reduceEq]
 ac_rfl
theorem kB2{n:Nd}{k:Nat}(h:n.kind=2):YI n k=(decide (k=0)&&JX n&&Z6 n true true false false false):=by
 unfold YI Z6
 simp only[h,UK,KG,UU,VL,UL,Bool.true_or,Bool.false_or,Bool.true_and,Bool.and_true,if_true,if_false,Int.reduceEq]
 ac_rfl
theorem kB3{n:Nd}{k:Nat}(h:n.kind=3):YI n k=(decide (k=0)&&X8 (Ux n)&&Z6 n false false true false false):=by
 unfold YI Z6
 simp only[h,UK,KG,UU,VL,UL,Bool.true_or,Bool.false_or,Bool.true_and,Bool.and_true,if_true,if_false,Int.reduceEq]
 ac_rfl
theorem kB4{n:Nd}{k:Nat}(h:n.kind=4):YI n k=(decide (k=0)&&decide (n.sizes.length=1)&&n.sizes.all Zp&&Z6 n false false false true false):=by
 unfold YI Z6
 simp only[h,UK,KG,UU,VL,UL,Bool.true_or,Bool.false_or,Bool.true_and,Bool.and_true,if_true,if_false,Int.reduceEq]
 ac_rfl
theorem kB5{n:Nd}{k:Nat}(h:n.kind=5):YI n k=(decide (k=2)&&ZN n.name.s&&Z6 n true false false false false):=by
 unfold YI Z6
 simp only[h,UK,KG,UU,VL,UL,Bool.true_or,Bool.false_or,Bool.true_and,Bool.and_true,if_true,if_false,Int.reduceEq]
 ac_rfl
theorem kB6{n:Nd}{k:Nat}(h:n.kind=6):YI n k=(XK n k&&Z6 n true true false true true):=by
 unfold YI Z6
 simp only[h,UK,KG,UU,VL,UL,Bool.true_or,Bool.false_or,Bool.true_and,Bool.and_true,if_true,if_false,Int.reduceEq]
 ac_rfl
theorem kB7{n:Nd}{k:Nat}(h:n.kind=7):YI n k=(decide (1<=k)&&decide (k<=16)&&Z6 n false false false false false):=by
 unfold YI Z6
 simp only[h,UK,KG,UU,VL,UL,Bool.true_or,Bool.false_or,Bool.true_and,Bool.and_true,if_true,if_false,Int.reduceEq]
 ac_rfl
theorem kB8{n:Nd}{k:Nat}(h:n.kind=8):YI n k=(decide (k=2)&&JV n.name.s&&Z6 n true false false false false):=by
 unfold YI Z6
 simp only[h,UK,KG,UU,VL,UL,Bool.true_or,Bool.false_or,Bool.true_and,Bool.and_true,if_true,if_false,Int.reduceEq]
 ac_rfl
theorem kB9{n:Nd}{k:Nat}(h:n.kind=9):YI n k=(decide (k=1)&&JV n.name.s&&Z6 n true false false false false):=by
 unfold YI Z6
 simp only[h,UK,KG,UU,VL,UL,Bool.true_or,Bool.false_or,Bool.true_and,Bool.and_true,if_true,if_false,Int.reduceEq]
 ac_rfl
theorem kB0{n:Nd}{k:Nat}(h1:n.kind≠1)(h2:n.kind≠2)(h3:n.kind≠3)(h4:n.kind≠4)(h5:n.kind≠5)(h6:n.kind≠6)(h7:n.kind≠7)(h8:n.kind≠8)(h9:n.kind≠9):YI n k=false:=by
 unfold YI
 rw[if_neg h1,if_neg h2,if_neg h3,if_neg h4,if_neg h5,if_neg h6,if_neg h7,if_neg h8,if_neg h9]
theorem Em{α:Type}[Enc α]{l:List α}{c:Int}{P Q:Prop}(h1:(l.length:Int)=c->P)(h2:(l.length:Int)≠c->Q):if ((↑(List.length (List.map (enc:α->PV) l)):Int)==c)=true then P else Q:=by
 rw[List.length_map];exact ZL h1 h2
theorem D7{n:Nd}{ks:List Tm}{a b c d e:Bool}{P:Bool->Prop}(hw:tW (.mk n ks)=true)(h:P (Z6 n a b c d e)):preT (fun x:Tm×Bool×Bool×Bool×Bool×Bool×Unit=>tW x.1) (WM n ks a b c d e)=true∧ ∃ y:Bool,AV.pv (Zb (fun x:Tm×Bool×Bool×Bool×Bool×Bool×Unit=>Z6 x.1.nd x.2.1 x.2.2.1 x.2.2.2.1 x.2.2.2.2.1 x.2.2.2.2.2.1) (WM n ks a b c d e))=AV.pv (enc y)∧P y:=
 ⟨Zf (Tm.mk n ks,a,b,c,d,e,()) (LV n ks a b c d e) hw,Zd (Tm.mk n ks,a,b,c,d,e,()) (LV n ks a b c d e) h⟩
theorem c2r{l:List Lin}{P:Bool->Prop}(h0:l.length<=1048576)(h1 : ∀ x∈l,X3 x=true)(h:P (l.all Zp)):preT (fun x:List Lin×Unit=>decide (x.1.length<=1048576)&&x.1.all X3) [.sl 2 false (l.map enc)]=true∧ ∃ y:Bool,AV.pv (Zb (fun x:List Lin×Unit=>x.1.all Zp) [.sl 2 false (l.map enc)])=AV.pv (enc y)∧P y:=
 ⟨Zf (l,()) rfl (by show(decide (l.length<=1048576)&&l.all X3)=true;rw[decide_eq_true h0,List.all_eq_true.2 h1];rfl),Zd (l,()) rfl h⟩
theorem e1a{n:Nd}{P:Bool->Prop}(h0:WQ (Ux n)=true)(h:P (X8 (Ux n))):preT (fun x:Arr×Unit=>WQ x.1) [.agg [.str n.elem.s,.sl 1 false (n.dims.map enc),.sl 1 false (n.data.map enc)]]=true∧ ∃ y:Bool,AV.pv (Zb (fun x:Arr×Unit=>X8 x.1) [.agg [.str n.elem.s,.sl 1 false (n.dims.map enc),.sl 1 false (n.data.map enc)]])=AV.pv (enc y)∧P y:=
 ⟨Zf (Ux n,()) rfl h0,Zd (Ux n,()) rfl h⟩
theorem a3x(n:Nd)(ks:List Tm)(hw:tW (.mk n ks)=true)(R:Bool): ∀ (d i:Nat),d+i=n.ranks.length->R=(Xw (n.ranks.drop i)&&JV n.name.s&&Z6 n true true false true true) ->
  At UW 0 (Za WV (Zi R)) VJ 0 221 [(1,.ptr 0 0),(5,.pv (.int .i64 i))] [.obj (.box (Z7 n ks))]:=by
 have hB:=EQ hw
 have hr:=hB.ranks
 have hnm:=hB.name
 intro d
 induction d with
 | zero=>
  intro i hi hR
  rw[List.drop_eq_nil_of_le (by omega)]at hR
  have hR:R=(JV n.name.s&&Z6 n true true false true true):=hR
  refine Oj n ks i (YA (QF (by omega)) (c0v hnm (XR (fun h=>D7 hw (ZA ?_)) fun h=>ZA ?_)))
  ·rw[hR,h];rfl
  ·rw[hR,h];rfl
 | succ d ih=>
  intro i hi hR
  have hlt:i<n.ranks.length:=by omega
  rw[List.drop_eq_getElem_cons hlt]at hR
  have hc:Xw (n.ranks[i]::n.ranks.drop (i+1))=((decide (0<=n.ranks[i])&&decide (n.ranks[i]<=6))&&Xw (n.ranks.drop (i+1))):=rfl
  rw[hc]at hR
  refine Oj n ks i (Yv (QR hlt) ⟨ZT hlt rfl,Yk hlt (Yg (fun h=>ZA ?_) fun h=>⟨ZT hlt rfl,Yk hlt (Yg (fun h2=>ZA ?_) fun h2=> ?_)⟩)⟩)
  ·have h:n.ranks[i]<0:=h
   rw[hR,decide_eq_false (by omega)];rfl
  ·have h2:n.ranks[i]>6:=h2
   rw[hR,decide_eq_false (show ¬ n.ranks[i]<=6 by omega),Bool.and_false];rfl
  ·have h : ¬ n.ranks[i]<0:=h
   have h2 : ¬ n.ranks[i]>6:=h2
   rw[next (by omega)]
   exact ih (i+1) (by omega) (by rw[hR,decide_eq_true (by omega),decide_eq_true (show n.ranks[i]<=6 by omega)];rfl)
theorem a9b: ∀ x:Tm×Unit,tW x.1=true->Ze UW 0 (Za WV (Zi (Jp x.1))) VJ [] (Z0 c2w (encL x)):=by
 rintro⟨⟨n,ks⟩,⟨⟩⟩ hw
 have hB:=EQ hw
 have hnm:=hB.name
 have hkl:=(Ju hw).1
 have hlo : ∀ l∈n.sizes,X3 l=true:=fun l hl=>decide_eq_true (by have:=hB.lens l hl;omega)
 rw[<- ZH]
 show Ze _ 0 (Za WV (Zi (Wx n ks.length))) _ _ _
 refine c8c n ks (Yg (fun h=>ZA ?_) fun h1=>Yg (fun h=>ZA ?_) fun h2=> ?_)
 ·unfold Wx;rw[decide_eq_false (by omega)];rfl
 ·unfold Wx;rw[decide_eq_false (show ¬ n.line<=10000 by omega),Bool.and_false];rfl
 have hn:Wx n ks.length=YI n ks.length:=by unfold Wx;rw[decide_eq_true (by omega),decide_eq_true (by omega)];rfl
 rw[hn]
 refine ZL (fun hk=> ?_) fun k1=>ZL (fun hk=> ?_) fun k2=>ZL (fun hk=> ?_) fun k3=>ZL (fun hk=> ?_) fun k4=>ZL (fun hk=> ?_) fun k5=>ZL (fun hk=> ?_) fun k6=>ZL (fun hk=> ?_) fun k7=>ZL (fun hk=> ?_) fun k8=>ZL (fun hk=> ?_) fun k9=>ZA (kB0 k1 k2 k3 k4 k5 k6 k7 k8 k9).symm
 ·rw[kB1 hk]
  refine Em (fun h0=>Pe hnm (XR (fun hx=>D7 hw (ZA ?_)) fun hx=>ZA ?_)) fun h0=>ZA ?_
  ·rw[hx,decide_eq_true (by omega)];rfl
  ·rw[hx,Bool.and_false];rfl
  ·rw[decide_eq_false (by omega)];rfl
 ·rw[kB2 hk]
  have leafT:JX n=true->(ks.length:Int)=0->Z6 n true true false false false=(decide (ks.length=0)&&JX n&&Z6 n true true false false false):=fun a b=>by rw[a,decide_eq_true (show ks.length=0 by omega)];rfl
  have leafF:JX n=false->false=(decide (ks.length=0)&&JX n&&Z6 n true true false false false):=fun a=>by rw[a,Bool.and_false];rfl
  have leafK:(ks.length:Int)≠0->false=(decide (ks.length=0)&&JX n&&Z6 n true true false false false):=fun a=>by rw[decide_eq_false (show ¬ ks.length=0 by omega)];rfl
  repeat' (first|refine Em (fun _=> ?_) fun _=> ?_|refine ZL (fun _=> ?_) fun _=> ?_|refine Yg (fun _=> ?_) fun _=> ?_|refine D7 hw (ZA ?_)|refine ZA ?_)
  all_goals first
   | exact leafK ‹_›
   | exact leafT (lQ1 ‹_› ‹_› ‹_›) ‹_›
   | exact leafT (lQ2 ‹_› ‹_›) ‹_›
   | exact leafT (lQ3 ‹_› ‹_›) ‹_›
   | exact leafF (lQ0 (fun h=>by first|exact absurd h.1 ‹_› | exact absurd h.2.1 ‹_› | exact absurd h.2.2 ‹_›) (fun a=>by first|exact absurd a ‹_› | exact⟨‹_›,‹_›⟩))
 ·rw[kB3 hk]
  refine Em (fun h0=>e1a (MH hw) (XR (fun hx=>D7 hw (ZA ?_)) fun hx=>ZA ?_)) fun h0=>ZA ?_
  ·rw[hx,decide_eq_true (by omega)];rfl
  ·rw[hx,Bool.and_false];rfl
  ·rw[decide_eq_false (by omega)];rfl
 ·rw[kB4 hk]
  refine Em (fun h0=>Em (fun h3=>c2r hB.sizes hlo (XR (fun hx=>D7 hw (ZA ?_)) fun hx=>ZA ?_)) fun h3=>ZA ?_) fun h0=>ZA ?_
  ·rw[hx,decide_eq_true (show ks.length=0 by omega),decide_eq_true (show n.sizes.length=1 by omega)];rfl
  ·rw[hx,Bool.and_false];rfl
  ·rw[decide_eq_false (show ¬ n.sizes.length=1 by omega),Bool.and_false];rfl
  ·rw[decide_eq_false (show ¬ ks.length=0 by omega)];rfl
 ·rw[kB5 hk]
  refine Em (fun h0=>Pe hnm (XR (fun hx=>D7 hw (ZA ?_)) fun hx=>ZA ?_)) fun h0=>ZA ?_
  ·rw[hx,decide_eq_true (by omega)];rfl
  ·rw[hx,Bool.and_false];rfl
  ·rw[decide_eq_false (by omega)];rfl
 ·rw[kB6 hk]
  have hc:XK n ks.length=(decide (ks.length<=8)&&decide (n.sizes.length<=4)&&n.sizes.all Zp&&decide (0<=n.num)&&decide (n.num<=64)&&(n.ranks.isEmpty||decide (n.ranks.length=ks.length))&&(Xw n.ranks&&JV n.name.s)):=by unfold XK;ac_rfl
  rw[hc]
  refine Yg (fun h3=>ZA ?_) fun h3=>Yg (fun h4=>ZA ?_) fun h4=>c2r hB.sizes hlo (VY (fun hx=>ZA ?_) fun hx=>Yg (fun h5=>ZA ?_) fun h5=>Yg (fun h6=>ZA ?_) fun h6=> ?_)
  ·rw[List.length_map]at h3
   rw[decide_eq_false (show ¬ ks.length<=8 by omega)];simp
  ·rw[List.length_map]at h4
   rw[decide_eq_false (show ¬ n.sizes.length<=4 by omega)];simp
  ·rw[hx];simp
  ·rw[decide_eq_false (show ¬ 0<=n.num by omega)];simp
  ·rw[decide_eq_false (show ¬ n.num<=64 by omega)];simp
  ·rw[List.length_map]at h3 h4
   have go:(n.ranks.isEmpty||decide (n.ranks.length=ks.length))=true->At UW 0 (Za WV (Zi (decide (ks.length<=8)&&decide (n.sizes.length<=4)&&n.sizes.all Zp&&decide (0<=n.num)&&decide (n.num<=64)&&(n.ranks.isEmpty||decide (n.ranks.length=ks.length))&&(Xw n.ranks&&JV n.name.s)&&Z6 n true true false true true))) VJ 0 221 [(1,.ptr 0 0),(5,.pv (.int .i64 ((0:Nat):Int)))] [.obj (.box (Z7 n ks))]:=fun he=>
    a3x n ks hw _ n.ranks.length 0 (by omega) (by rw[he,hx,decide_eq_true (show ks.length<=8 by omega),decide_eq_true (show n.sizes.length<=4 by omega),decide_eq_true (show 0<=n.num by omega),decide_eq_true (show n.num<=64 by omega)];rfl)
   refine Bj (fun h7=>Bj (fun h8=>ZA ?_) fun h8=> ?_) fun h7=> ?_
   ·rw[List.length_map,List.length_map]at h8
    rw[List.length_map]at h7
    rw[VL,decide_eq_false (show ¬ n.ranks.length=0 by omega),decide_eq_false (show ¬ n.ranks.length=ks.length by omega)];simp
   ·rw[List.length_map,List.length_map]at h8
    exact go (by rw[decide_eq_true (show n.ranks.length=ks.length by omega),Bool.or_true])
   ·rw[List.length_map]at h7
    exact go (by rw[VL,decide_eq_true (show n.ranks.length=0 by omega),Bool.true_or])
 ·rw[kB7 hk]
  refine Yg (fun h3=>Yg (fun h4=>D7 hw (ZA ?_)) fun h4=>ZA ?_) fun h3=>ZA ?_
  ·rw[List.length_map]at h3 h4
   rw[decide_eq_true (show 1<=ks.length by omega),decide_eq_true (show ks.length<=16 by omega)];rfl
  ·rw[List.length_map]at h4
   rw[decide_eq_false (show ¬ ks.length<=16 by omega),Bool.and_false];rfl
  ·rw[List.length_map]at h3
   rw[decide_eq_false (show ¬ 1<=ks.length by omega)];rfl
 ·rw[kB8 hk]
  refine Em (fun h0=>c0v hnm (XR (fun hx=>D7 hw (ZA ?_)) fun hx=>ZA ?_)) fun h0=>ZA ?_
  ·rw[hx,decide_eq_true (by omega)];rfl
  ·rw[hx,Bool.and_false];rfl
  ·rw[decide_eq_false (by omega)];rfl
 ·rw[kB9 hk]
  refine Em (fun h0=>c0v hnm (XR (fun hx=>D7 hw (ZA ?_)) fun hx=>ZA ?_)) fun h0=>ZA ?_
  ·rw[hx,decide_eq_true (by omega)];rfl
  ·rw[hx,Bool.and_false];rfl
  ·rw[decide_eq_false (by omega)];rfl
theorem d2x{n:Nd}{ks:List Tm}{β:Type}[Enc β]{F:Tm->β}{P:β->Prop}(hw:tW (.mk n ks)=true)(h:P (F (.mk n ks))):preT (fun x:Tm×Unit=>tW x.1) (V4 n ks)=true∧ ∃ y:β,AV.pv (Zb (fun x:Tm×Unit=>F x.1) (V4 n ks))=AV.pv (enc y)∧P y:=
 ⟨Zf (Tm.mk n ks,()) (ZH n ks) hw,Zd (Tm.mk n ks,()) (ZH n ks) h⟩
theorem b0r(N:Nat)(n:Nd)(ks:List Tm)(hw:tW (.mk n ks)=true)(hd:ZW ks<N)(R:Bool): ∀ (d i:Nat),d+i=ks.length->R=(Wx n ks.length&&(ks.drop i).all ZU) ->
  At (Gg N) 0 (Za KL (Zi R)) KP 0 20 [(1,.ptr 0 0),(3,.pv (.int .i64 i))] [.obj (.box (Z7 n ks))]:=by
 intro d
 induction d with
 | zero=>
  intro i hi hR
  rw[List.drop_eq_nil_of_le (by omega),List.all_nil,Bool.and_true]at hR
  refine a7z N n ks i (YA (QF (by omega)) (d2x hw (ZA ?_)))
  rw[hR];rfl
 | succ d ih=>
  intro i hi hR
  have hlt:i<ks.length:=by omega
  have hkl:=(Ju hw).1
  rw[List.drop_eq_getElem_cons hlt,List.all_cons]at hR
  refine a7z N n ks i (Yv (QR hlt) ⟨ZT hlt rfl,Yk hlt ⟨Xx _,Zf (ks[i],()) (Yj _) (Al hw hd (List.getElem_mem hlt)),Zd (ks[i],()) (Yj _) (VY (fun h=>ZA ?_) fun h=> ?_)⟩⟩)
  ·have h:ZU ks[i]=false:=h
   rw[hR,h];simp
  ·have h:ZU ks[i]=true:=h
   rw[next (by omega)]
   exact ih (i+1) (by omega) (by rw[hR,h];rfl)
theorem b4j(N:Nat): ∀ x:Tm×Unit,(tW x.1&&decide (ZM x.1<N+1))=true->Ze (Gg N) 0 (Za KL (Zi (ZU x.1))) KP [] (Z0 c8y (encL x)):=by
 rintro⟨⟨n,ks⟩,⟨⟩⟩ h
 simp only[Bool.and_eq_true,decide_eq_true_eq]at h
 have hd:ZM (.mk n ks)<N+1:=h.2
 rw[ZM]at hd
 rw[<- ZH]
 exact d5q N n ks (b0r N n ks h.1 (by omega) _ ks.length 0 (by omega) (by show ZU (.mk n ks)=_;rw[ZU,V7];rfl))
set_option maxRecDepth 20000 in
theorem a5e: ∀ x:Tm×Unit,tW x.1=true->Ze Su 0 (Za JC (Zi (Y4 x.1))) Bi [] (Z0 a8l (encL x)):=by
 rintro⟨⟨n,ks⟩,⟨⟩⟩ hw
 have e0 : ∀ a b:Nat,(b:Int)=b->decide (a<=b)=decide ((a:Int)<=(b:Int)):=fun a b _=>decide_eq_decide.2 (by omega)
 have e1:decide (Yl (.mk n ks)<=400)=decide (((Yl (.mk n ks):Nat):Int)<=400):=e0 _ 400 rfl
 have e2:decide (ZM (.mk n ks)<=40)=decide (((ZM (.mk n ks):Nat):Int)<=40):=e0 _ 40 rfl
 have e:Y4 (.mk n ks)=(decide (((Yl (.mk n ks):Nat):Int)<=400)&&decide (((ZM (.mk n ks):Nat):Int)<=40)&&ZU (.mk n ks)):=by
  unfold Y4 Y6
  rw[HY,e1,e2]
 rw[<- ZH]
 show Ze _ 0 (Za JC (Zi (Y4 (.mk n ks)))) _ _ _
 rw[e]
 refine b5k n ks ⟨Zf (Tm.mk n ks,()) (ZH n ks) hw,Zd (Tm.mk n ks,()) (ZH n ks) (Yg (fun h1=>⟨Zf (Tm.mk n ks,()) (ZH n ks) hw,Zd (Tm.mk n ks,()) (ZH n ks) (Yg (fun h2=>d2x hw (ZA ?_)) fun h2=>ZA ?_)⟩) fun h1=>ZA ?_)⟩
 ·have h1:((Yl (.mk n ks):Nat):Int)<=400:=h1
  have h2:((ZM (.mk n ks):Nat):Int)<=40:=h2
  rw[decide_eq_true h1,decide_eq_true h2];rfl
 ·have h2 : ¬ ((ZM (.mk n ks):Nat):Int)<=40:=h2
  rw[decide_eq_false h2,Bool.and_false];rfl
 ·have h1 : ¬ ((Yl (.mk n ks):Nat):Int)<=400:=h1
  rw[decide_eq_false h1];rfl
end Go.Pl
namespace Go.Pl
open Go.RowKit
open Enc (enc dec is)
open EncL (encL decL isL)
set_option maxRecDepth 100000
noncomputable def SL:IC:=Xu Proofs.Tryz.f128
def Ra:List IRes:=[(.tmp 2)]
abbrev b7p:Nat:=6
def Mh:ZO:=YQ []
theorem c5h{G:PV->Prop}(l:List Int)(h:(List.isEmpty (List.map enc l)||Enc.sz Int==1)=true∧((List.length ([]:List PV)==0&&0==0&&decide ((0+List.length (List.map enc l))*8<=1099511627776)&&decide (0+List.length (List.map enc l)<=1099511627776))=true∧((List.length (([]:List PV)++List.map enc l)==0+List.length (List.map enc l))=true∧(G ((.sl 1 false (List.drop 0 (List.take (0+List.length (List.map enc l)) (([]:List PV)++List.map enc l))))))))):Ze Mh 0 (Za Ra G) SL [] (Z0 6 [enc l]):=Ze.tp (.lit (.req (.req (.req (.nil))))) h (by kernel_rfl)
noncomputable def MI:IC:=Xu Proofs.Tryz.f127
def MG:List IRes:=[(.tmp 4)]
abbrev c8m:Nat:=23
def a2b:ZO:=YQ []
theorem d6q{G:PV->Prop}(e:List UInt8)(n:Int)(h:if (e==[(98:UInt8),(111:UInt8),(111:UInt8),(108:UInt8)])=true then if (n==0)=true then G ((.bool true))else(G ((.bool (n==1))))else(if (e==[(105:UInt8),(110:UInt8),(116:UInt8)])=true then if (decide (n ≥ (-2147483648:Int)))=true then G ((.bool (decide (n<=2147483647))))else(G ((.bool false)))else(G ((.bool false))))):Ze a2b 0 (Za MG G) MI [] (Z0 23 [.str e,.int .i64 n]):=Ze.tp (.lit (.ask (.lit (.ask (Zu 2) (Zu 3))) (.lit (.ask (Zl 3 (.ask (Zu 3) (Zu 2))) (Zu 5))))) h (by kernel_rfl)
noncomputable def VO:IC:=Xu Proofs.Tryz.f101
def VX:List IRes:=[(.cell true 3 6),(.tmp 7)]
abbrev F7:Nat:=52
def UQ:ZO:=YQ [(126,.pure (preT (fun _:List Int×Unit=>true)) (Zb (fun x:List Int×Unit=>Y2 x.1))),(127,.pure (preT (fun _:Str×Int×Unit=>true)) (Zb (fun x:Str×Int×Unit=>X4 x.1 x.2.1))),(128,.pure (preT (fun x:List Int×Unit=>decide (x.1.length<=2000000))) (Zb (fun x:List Int×Unit=>x.1)))]
theorem d1e{G:PV->Prop}(e:List UInt8)(d x:List Int)(h:if (!e==[(105:UInt8),(110:UInt8),(116:UInt8)])=true then if (!e==[(98:UInt8),(111:UInt8),(111:UInt8),(108:UInt8)])=true then G ((.tup [(.agg [(.str []),(.sl 0 true []),(.sl 0 true [])]),(.int .i64 12)]))else((Go.Pl.preT (fun(x:List Int×Unit)=>true) [(.sl 1 false (List.map enc d))])=true∧(∃ y0:Int×Int,AV.pv (Zb (fun(x:List Int×Unit)=>Y2 x.1) [(.sl 1 false (List.map enc d))])=AV.pv (enc y0)∧(if (y0.2 != 0)=true then G ((.tup [(.agg [(.str []),(.sl 0 true []),(.sl 0 true [])]),(.int .i64 y0.2)]))else(if ((↑(List.length (List.map enc x)):Int) != y0.1)=true then G ((.tup [(.agg [(.str []),(.sl 0 true []),(.sl 0 true [])]),(.int .i64 1)]))else(At UQ 0 (Za VX G) VO 0 52 [(0,(.pv (.str e))),(1,(.pv (.sl 1 false (List.map enc d)))),(2,(.pv (.sl 1 false (List.map enc x)))),(6,(.ptr 0 0)),(10,(.pv (.int .i64 0)))] [(.obj (.box [(.pv (.str [])),(.pv (.sl 0 true [])),(.pv (.sl 0 true []))]))])))))else((Go.Pl.preT (fun(x:List Int×Unit)=>true) [(.sl 1 false (List.map enc d))])=true∧(∃ y1:Int×Int,AV.pv (Zb (fun(x:List Int×Unit)=>Y2 x.1) [(.sl 1 false (List.map enc d))])=AV.pv (enc y1)∧(if (y1.2 != 0)=true then G ((.tup [(.agg [(.str []),(.sl 0 true []),(.sl 0 true [])]),(.int .i64 y1.2)]))else(if ((↑(List.length (List.map enc x)):Int) != y1.1)=true then G ((.tup [(.agg [(.str []),(.sl 0 true []),(.sl 0 true [])]),(.int .i64 1)]))else(At UQ 0 (Za VX G) VO 0 52 [(0,(.pv (.str e))),(1,(.pv (.sl 1 false (List.map enc d)))),(2,(.pv (.sl 1 false (List.map enc x)))),(6,(.ptr 0 0)),(10,(.pv (.int .i64 0)))] [(.obj (.box [(.pv (.str [])),(.pv (.sl 0 true [])),(.pv (.sl 0 true []))]))])))))):Ze UQ 0 (Za VX G) VO [] (Z0 52 [.str e,enc d,enc x]):=Ze.tp (.lit (.ask (Zl 3 (.ask (.nil) (.req (.abs (Int×Int) (fun YY=>AV.pv (enc YY)) (.lit (.ask (.nil) (.lit (.ask (.nil) (.nil))))))))) (Zl 3 (.req (.abs (Int×Int) (fun YY=>AV.pv (enc YY)) (.lit (.ask (.nil) (.lit (.ask (.nil) (.nil)))))))))) h (by kernel_rfl)
theorem En{G:PV->Prop}(e:List UInt8)(d x:List Int)(i:Int)(h:if (decide (i<(↑(List.length (List.map enc x)):Int)))=true then(decide (0<=i)&&decide (Int.toNat i<List.length (List.map enc x))&&Enc.sz Int==1)=true∧(∃ y0:Int,AV.pv (PV.rptr (PV.cells (List.getD (List.map enc x) (Int.toNat i) default)))=AV.pv (PV.rptr (PV.cells ((enc) y0)))∧(∃ y1:Bool,AV.pv (Zb (fun(x:Str×Int×Unit)=>X4 x.1 x.2.1) [(.str e),(.int .i64 (PV.asInt (List.getD (PV.cells (enc y0)) 0 default)))])=AV.pv (enc y1)∧(if (!y1)=true then G ((.tup [(.agg [(.str []),(.sl 0 true []),(.sl 0 true [])]),(.int .i64 2)]))else(At UQ 0 (Za VX G) VO 0 52 [(0,(.pv (.str e))),(1,(.pv (.sl 1 false (List.map enc d)))),(2,(.pv (.sl 1 false (List.map enc x)))),(6,(.ptr 0 0)),(10,(.pv (.int .i64 (IntKind.wrap IntKind.i64 (i+1)))))] [(.obj (.box [(.pv (.str [])),(.pv (.sl 0 true [])),(.pv (.sl 0 true []))]))]))))else((Go.Pl.preT (fun(x:List Int×Unit)=>decide (List.length x.1<=2000000)) [(.sl 1 false (List.map enc d))])=true∧(∃ y2:List Int,AV.pv (Zb (fun(x:List Int×Unit)=>x.1) [(.sl 1 false (List.map enc d))])=AV.pv (enc y2)∧((Go.Pl.preT (fun(x:List Int×Unit)=>decide (List.length x.1<=2000000)) [(.sl 1 false (List.map enc x))])=true∧(∃ y3:List Int,AV.pv (Zb (fun(x:List Int×Unit)=>x.1) [(.sl 1 false (List.map enc x))])=AV.pv (enc y3)∧(G ((.tup [(.agg [(.str e),(.sl 1 false (List.map enc y2)),(.sl 1 false (List.map enc y3))]),(.int .i64 0)])))))))):At UQ 0 (Za VX G) VO 0 52 [(0,.pv (.str e)),(1,.pv (enc d)),(2,.pv (enc x)),(6,.ptr 0 0),(10,.pv (.int .i64 i))] [.obj (.box [.pv (.str []),.pv (.sl 0 true []),.pv (.sl 0 true [])])]:=At.tp (.lit (.ask (.req (.abs (Int) (fun YY=>AV.pv (PV.rptr (PV.cells ((enc) YY)))) (Zl 2 (.abs (Bool) (fun YY=>AV.pv (enc YY)) (.ask (.nil) (.lit (.nil))))))) (.req (.abs (List Int) (fun YY=>AV.pv (enc YY)) (.req (.abs (List Int) (fun YY=>AV.pv (enc YY)) (.nil))))))) h (by kernel_rfl)
noncomputable def Fa:IC:=Xu Proofs.Tryz.f72
def Ld:List IRes:=[(.tmp 2)]
abbrev c8k:Nat:=17
def a3p:ZO:=YQ [(101,.pure (preT (fun x:Str×List Int×List Int×Unit=>decide (x.2.1.length<=2000000)&&decide (x.2.2.1.length<=2000000))) (Zb (fun x:Str×List Int×List Int×Unit=>KD x.1 x.2.1 x.2.2.1)))]
theorem d8g{G:PV->Prop}(a:Arr)(h:(Go.Pl.preT (fun(x:Str×List Int×List Int×Unit)=>decide (List.length x.2.1<=2000000)&&decide (List.length x.2.2.1<=2000000)) [(.str (Str.s (Arr.e a))),(.sl 1 false (List.map enc (Arr.d a))),(.sl 1 false (List.map enc (Arr.x a)))])=true∧(∃ y0:Arr×Int,AV.pv (Zb (fun(x:Str×List Int×List Int×Unit)=>KD x.1 x.2.1 x.2.2.1) [(.str (Str.s (Arr.e a))),(.sl 1 false (List.map enc (Arr.d a))),(.sl 1 false (List.map enc (Arr.x a)))])=AV.pv (enc y0)∧(G ((.bool (y0.2==0)))))):Ze a3p 0 (Za Ld G) Fa [] (Z0 17 [enc a]):=Ze.tp (.req (.abs (Arr×Int) (fun YY=>AV.pv (enc YY)) (.lit (.nil)))) h (by kernel_rfl)
noncomputable def NU:IC:=Xu Proofs.Tryz.f73
def LM:List IRes:=[(.tmp 2)]
abbrev c8x:Nat:=24
def a0k(N:Nat):ZO:=YQ [(73,.pure (preT (fun x:Int×Unit=>(decide (x.1.natAbs<9223372036854775808))&&decide (Gm x.1<N))) (Zb (fun x:Int×Unit=>Zn x.1)))]
theorem d7y{G:PV->Prop}(N:Nat)(n:Int)(h:if (decide (n<0))=true then(Go.Pl.preT (fun(x:Int×Unit)=>decide (Int.natAbs x.1<9223372036854775808)&&decide (Gm x.1<N)) [(.int .i64 (IntKind.wrap IntKind.i64 (-n)))])=true∧(∃ y0:Str,AV.pv (Zb (fun(x:Int×Unit)=>Zn x.1) [(.int .i64 (IntKind.wrap IntKind.i64 (-n)))])=AV.pv (enc y0)∧((decide (List.length [(45:UInt8)]+List.length (Str.s y0)<=1099511627776))=true∧(G ((.str ([(45:UInt8)]++Str.s y0))))))else((List.length [PV.int IntKind.u8 (IntKind.wrap IntKind.u8 (IntKind.wrap IntKind.i64 (48+Int.tmod n 10)))]==1&&List.all [PV.int IntKind.u8 (IntKind.wrap IntKind.u8 (IntKind.wrap IntKind.i64 (48+Int.tmod n 10)))] Gx&&1==1)=true∧(if (decide (n<10))=true then G ((.str (YX (List.drop 0 (List.take 1 [PV.int IntKind.u8 (IntKind.wrap IntKind.u8 (IntKind.wrap IntKind.i64 (48+Int.tmod n 10)))])))))else((Go.Pl.preT (fun(x:Int×Unit)=>decide (Int.natAbs x.1<9223372036854775808)&&decide (Gm x.1<N)) [(.int .i64 (IntKind.wrap IntKind.i64 (Int.tdiv n 10)))])=true∧(∃ y1:Str,AV.pv (Zb (fun(x:Int×Unit)=>Zn x.1) [(.int .i64 (IntKind.wrap IntKind.i64 (Int.tdiv n 10)))])=AV.pv (enc y1)∧((decide (List.length (Str.s y1)+List.length (YX (List.drop 0 (List.take 1 [PV.int IntKind.u8 (IntKind.wrap IntKind.u8 (IntKind.wrap IntKind.i64 (48+Int.tmod n 10)))])))<=1099511627776))=true∧(G ((.str (Str.s y1++YX (List.drop 0 (List.take 1 [PV.int IntKind.u8 (IntKind.wrap IntKind.u8 (IntKind.wrap IntKind.i64 (48+Int.tmod n 10)))])))))))))))):Ze (a0k N) 0 (Za LM G) NU [] (Z0 24 [enc n]):=Ze.tp (.lit (.ask (.req (.abs (Str) (fun YY=>AV.pv (enc YY)) (.req (.nil)))) (Zl 3 (.req (.lit (.ask (.nil) (.lit (.req (.abs (Str) (fun YY=>AV.pv (enc YY)) (.req (.nil))))))))))) h (by kernel_rfl)
noncomputable def Wu:IC:=Xu Proofs.Tryz.f41
def Ww:List IRes:=[(.tmp 2),(.tmp 3)]
abbrev c7u:Nat:=52
def VG:ZO:=YQ [(72,.pure (preT (fun x:Arr×Unit=>WQ x.1)) (Zb (fun x:Arr×Unit=>X8 x.1))),(73,.pure (preT (fun x:Int×Unit=>decide (x.1.natAbs<9223372036854775808))) (Zb (fun x:Int×Unit=>Zn x.1)))]
theorem d4g{G:PV->Prop}(a:Arr)(h:(Go.Pl.preT (fun(x:Arr×Unit)=>WQ x.1) [(.agg [(.str (Str.s (Arr.e a))),(.sl 1 false (List.map enc (Arr.d a))),(.sl 1 false (List.map enc (Arr.x a)))])])=true∧(∃ y0:Bool,AV.pv (Zb (fun(x:Arr×Unit)=>X8 x.1) [(.agg [(.str (Str.s (Arr.e a))),(.sl 1 false (List.map enc (Arr.d a))),(.sl 1 false (List.map enc (Arr.x a)))])])=AV.pv (enc y0)∧(if (!y0)=true then G ((.tup [(.str []),(.int .i64 1)]))else(if (Str.s (Arr.e a)==[(98:UInt8),(111:UInt8),(111:UInt8),(108:UInt8)])=true then At VG 0 (Za Ww G) Wu 0 52 [(1,(.ptr 0 0)),(4,(.pv (.str [(35:UInt8),(98:UInt8),(91:UInt8)]))),(5,(.pv (.int .i64 0)))] [(.obj (.box [(.pv (.str (Str.s (Arr.e a)))),(.pv (.sl 1 false (List.map enc (Arr.d a)))),(.pv (.sl 1 false (List.map enc (Arr.x a))))]))]else(At VG 0 (Za Ww G) Wu 0 52 [(1,(.ptr 0 0)),(4,(.pv (.str [(35:UInt8),(91:UInt8)]))),(5,(.pv (.int .i64 0)))] [(.obj (.box [(.pv (.str (Str.s (Arr.e a)))),(.pv (.sl 1 false (List.map enc (Arr.d a)))),(.pv (.sl 1 false (List.map enc (Arr.x a))))]))]))))):Ze VG 0 (Za Ww G) Wu [] (Z0 52 [enc a]):=Ze.tp (.req (.abs (Bool) (fun YY=>AV.pv (enc YY)) (.ask (.nil) (.lit (.ask (.nil) (.nil)))))) h (by kernel_rfl)
theorem a7m{G:PV->Prop}(a:Arr)(o:List UInt8)(i:Int)(h:if (decide (i<(↑(List.length (List.map enc (Arr.d a))):Int)))=true then if (decide (i>0))=true then(decide (List.length o+List.length [(32:UInt8)]<=1099511627776))=true∧((decide (0<=i)&&decide (Int.toNat i<List.length (List.map enc (Arr.d a)))&&Enc.sz Int==1)=true∧(∃ y0:Int,AV.pv (PV.rptr (PV.cells (List.getD (List.map enc (Arr.d a)) (Int.toNat i) default)))=AV.pv (PV.rptr (PV.cells ((enc) y0)))∧((Go.Pl.preT (fun(x:Int×Unit)=>decide (Int.natAbs x.1<9223372036854775808)) [(.int .i64 (PV.asInt (List.getD (PV.cells (enc y0)) 0 default)))])=true∧(∃ y1:Str,AV.pv (Zb (fun(x:Int×Unit)=>Zn x.1) [(.int .i64 (PV.asInt (List.getD (PV.cells (enc y0)) 0 default)))])=AV.pv (enc y1)∧((decide (List.length (o++[(32:UInt8)])+List.length (Str.s y1)<=1099511627776))=true∧(At VG 0 (Za Ww G) Wu 0 52 [(1,(.ptr 0 0)),(4,(.pv (.str (o++[(32:UInt8)]++Str.s y1)))),(5,(.pv (.int .i64 (IntKind.wrap IntKind.i64 (i+1)))))] [(.obj (.box [(.pv (.str (Str.s (Arr.e a)))),(.pv (.sl 1 false (List.map enc (Arr.d a)))),(.pv (.sl 1 false (List.map enc (Arr.x a))))]))]))))))else((decide (0<=i)&&decide (Int.toNat i<List.length (List.map enc (Arr.d a)))&&Enc.sz Int==1)=true∧(∃ y2:Int,AV.pv (PV.rptr (PV.cells (List.getD (List.map enc (Arr.d a)) (Int.toNat i) default)))=AV.pv (PV.rptr (PV.cells ((enc) y2)))∧((Go.Pl.preT (fun(x:Int×Unit)=>decide (Int.natAbs x.1<9223372036854775808)) [(.int .i64 (PV.asInt (List.getD (PV.cells (enc y2)) 0 default)))])=true∧(∃ y3:Str,AV.pv (Zb (fun(x:Int×Unit)=>Zn x.1) [(.int .i64 (PV.asInt (List.getD (PV.cells (enc y2)) 0 default)))])=AV.pv (enc y3)∧((decide (List.length o+List.length (Str.s y3)<=1099511627776))=true∧(At VG 0 (Za Ww G) Wu 0 52 [(1,(.ptr 0 0)),(4,(.pv (.str (o++Str.s y3)))),(5,(.pv (.int .i64 (IntKind.wrap IntKind.i64 (i+1)))))] [(.obj (.box [(.pv (.str (Str.s (Arr.e a)))),(.pv (.sl 1 false (List.map enc (Arr.d a)))),(.pv (.sl 1 false (List.map enc (Arr.x a))))]))]))))))else((decide (List.length o+List.length [(58:UInt8)]<=1099511627776))=true∧(At VG 0 (Za Ww G) Wu 1 52 [(1,(.ptr 0 0)),(4,(.pv (.str (o++[(58:UInt8)])))),(6,(.pv (.int .i64 0)))] [(.obj (.box [(.pv (.str (Str.s (Arr.e a)))),(.pv (.sl 1 false (List.map enc (Arr.d a)))),(.pv (.sl 1 false (List.map enc (Arr.x a))))]))]))):At VG 0 (Za Ww G) Wu 0 52 [(1,.ptr 0 0),(4,.pv (.str o)),(5,.pv (.int .i64 i))] [.obj (.box [.pv (.str a.e.s),.pv (enc a.d),.pv (enc a.x)])]:=At.tp (.lit (.ask (.lit (.ask (.req (.req (.abs (Int) (fun YY=>AV.pv (PV.rptr (PV.cells ((enc) YY)))) (.lit (.req (.abs (Str) (fun YY=>AV.pv (enc YY)) (.req (.lit (.nil))))))))) (.req (.abs (Int) (fun YY=>AV.pv (PV.rptr (PV.cells ((enc) YY)))) (.lit (.req (.abs (Str) (fun YY=>AV.pv (enc YY)) (.req (.lit (.nil)))))))))) (.req (.nil)))) h (by kernel_rfl)
theorem a8a{G:PV->Prop}(a:Arr)(o:List UInt8)(i:Int)(h:if (decide (i<(↑(List.length (List.map enc (Arr.x a))):Int)))=true then(decide (0<=i)&&decide (Int.toNat i<List.length (List.map enc (Arr.x a)))&&Enc.sz Int==1)=true∧(∃ y0:Int,AV.pv (PV.rptr (PV.cells (List.getD (List.map enc (Arr.x a)) (Int.toNat i) default)))=AV.pv (PV.rptr (PV.cells ((enc) y0)))∧((Go.Pl.preT (fun(x:Int×Unit)=>decide (Int.natAbs x.1<9223372036854775808)) [(.int .i64 (PV.asInt (List.getD (PV.cells (enc y0)) 0 default)))])=true∧(∃ y1:Str,AV.pv (Zb (fun(x:Int×Unit)=>Zn x.1) [(.int .i64 (PV.asInt (List.getD (PV.cells (enc y0)) 0 default)))])=AV.pv (enc y1)∧((decide (List.length [(32:UInt8)]+List.length (Str.s y1)<=1099511627776))=true∧((decide (List.length o+List.length ([(32:UInt8)]++Str.s y1)<=1099511627776))=true∧(At VG 0 (Za Ww G) Wu 1 52 [(1,(.ptr 0 0)),(4,(.pv (.str (o++([(32:UInt8)]++Str.s y1))))),(6,(.pv (.int .i64 (IntKind.wrap IntKind.i64 (i+1)))))] [(.obj (.box [(.pv (.str (Str.s (Arr.e a)))),(.pv (.sl 1 false (List.map enc (Arr.d a)))),(.pv (.sl 1 false (List.map enc (Arr.x a))))]))]))))))else((decide (List.length o+List.length [(93:UInt8)]<=1099511627776))=true∧(G ((.tup [(.str (o++[(93:UInt8)])),(.int .i64 0)]))))):At VG 0 (Za Ww G) Wu 1 52 [(1,.ptr 0 0),(4,.pv (.str o)),(6,.pv (.int .i64 i))] [.obj (.box [.pv (.str a.e.s),.pv (enc a.d),.pv (enc a.x)])]:=At.tp (.lit (.ask (.req (.abs (Int) (fun YY=>AV.pv (PV.rptr (PV.cells ((enc) YY)))) (.lit (.req (.abs (Str) (fun YY=>AV.pv (enc YY)) (.req (.req (.lit (.nil))))))))) (.req (.nil)))) h (by kernel_rfl)
noncomputable def Q3:IC:=Xu Proofs.Tryz.f37
def KJ:List IRes:=[(.tmp 2)]
abbrev c6a:Nat:=31
def Gv(N:Nat):ZO:=YQ [(37,.pure (preT (fun x:Int×Unit=>(decide (x.1.natAbs<9223372036854775808))&&decide (Gm x.1<N))) (Zb (fun x:Int×Unit=>Zn x.1)))]
theorem d3k{G:PV->Prop}(N:Nat)(m:Int)(h:if (decide (m<0))=true then(Go.Pl.preT (fun(x:Int×Unit)=>decide (Int.natAbs x.1<9223372036854775808)&&decide (Gm x.1<N)) [(.int .i64 (IntKind.wrap IntKind.i64 (-m)))])=true∧(∃ y0:Str,AV.pv (Zb (fun(x:Int×Unit)=>Zn x.1) [(.int .i64 (IntKind.wrap IntKind.i64 (-m)))])=AV.pv (enc y0)∧((decide (List.length [(45:UInt8)]+List.length (Str.s y0)<=1099511627776))=true∧(G ((.str ([(45:UInt8)]++Str.s y0))))))else((List.length [PV.int IntKind.u8 (IntKind.wrap IntKind.u8 (IntKind.wrap IntKind.i64 (48+Int.tmod m 10)))]==1&&List.all [PV.int IntKind.u8 (IntKind.wrap IntKind.u8 (IntKind.wrap IntKind.i64 (48+Int.tmod m 10)))] Gx&&1==1)=true∧(At (Gv N) 0 (Za KJ G) Q3 0 31 [(0,(.pv (.int .i64 (IntKind.wrap IntKind.i64 (Int.tdiv m 10))))),(3,(.pv (.str (YX (List.drop 0 (List.take 1 [PV.int IntKind.u8 (IntKind.wrap IntKind.u8 (IntKind.wrap IntKind.i64 (48+Int.tmod m 10)))]))))))] []))):Ze (Gv N) 0 (Za KJ G) Q3 [] (Z0 31 [enc m]):=Ze.tp (.lit (.ask (.req (.abs (Str) (fun YY=>AV.pv (enc YY)) (.req (.nil)))) (Zl 3 (.req (.lit (.nil)))))) h (by kernel_rfl)
theorem a7d{G:PV->Prop}(N:Nat)(m:Int)(n:Int)(o:List UInt8)(h:if (decide (n>0))=true then(List.length [PV.int IntKind.u8 (IntKind.wrap IntKind.u8 (IntKind.wrap IntKind.i64 (48+Int.tmod n 10)))]==1&&List.all [PV.int IntKind.u8 (IntKind.wrap IntKind.u8 (IntKind.wrap IntKind.i64 (48+Int.tmod n 10)))] Gx&&1==1)=true∧((decide (List.length (YX (List.drop 0 (List.take 1 [PV.int IntKind.u8 (IntKind.wrap IntKind.u8 (IntKind.wrap IntKind.i64 (48+Int.tmod n 10)))])))+List.length o<=1099511627776))=true∧(At (Gv N) 0 (Za KJ G) Q3 0 31 [(0,(.pv (.int .i64 (IntKind.wrap IntKind.i64 (Int.tdiv n 10))))),(3,(.pv (.str (YX (List.drop 0 (List.take 1 [PV.int IntKind.u8 (IntKind.wrap IntKind.u8 (IntKind.wrap IntKind.i64 (48+Int.tmod n 10)))]))++o))))] []))else(G ((.str o)))):At (Gv N) 0 (Za KJ G) Q3 0 31 [(0,.pv (.int .i64 n)),(3,.pv (.str o))] []:=At.tp (.lit (.ask (Zl 3 (.req (.req (.lit (.nil))))) (.nil))) h (by kernel_rfl)
end Go.Pl
namespace Go.Pl
open Go.RowKit
open Enc (enc dec is)
open EncL (encL decL isL)
theorem b1w: ∀ x:List Int×Unit,decide (x.1.length<=2000000)=true->Ze Mh 0 (Za Ra (Zi x.1)) SL [] (Z0 b7p (encL x)):=by
 rintro⟨l,⟨⟩⟩ h
 have hl:l.length<=2000000:=of_decide_eq_true h
 refine c5h l ⟨by simp[Enc.sz],by simp;omega,by simp,?_⟩
 rw[List.nil_append,List.drop_zero,List.take_of_length_le (by omega)]
 exact Zo (x:=l) rfl
theorem b4h: ∀ a:Str×Int×Unit,true=true->Ze a2b 0 (Za MG (Zi (X4 a.1 a.2.1))) MI [] (Z0 c8m (encL a)):=by
 rintro⟨⟨e⟩,n,⟨⟩⟩ _
 refine d6q e n ?_
 simp only[beq_iff_eq,decide_eq_true_eq,Zi,a6g,Fy,true_and,X4,Wo,XJ,ge_iff_le]
 by_cases h1:e=[105,110,116]
 ·subst h1
  rw[if_neg (by decide)]
  simp only[if_true]
  split <;> simp[*]
 ·by_cases h2:e=[98,111,111,108]
  ·subst h2
   simp only[if_true]
   split <;> simp[*]
  ·simp[h1,h2]
theorem a1p(e:List UInt8)(d x:List Int)(hd:d.length<=2000000)(hx:x.length<=2000000)(r:Arr×Int): ∀ (m k:Nat),m+k=x.length->r=(if (x.drop k).all (X4 ⟨e⟩)then(⟨⟨e⟩,d,x⟩,0)else(⟨⟨[]⟩,[],[]⟩,2)) ->
  At UQ 0 (Za VX (Zi r)) VO 0 F7 [(0,.pv (.str e)),(1,.pv (enc d)),(2,.pv (enc x)),(6,.ptr 0 0),(10,.pv (.int .i64 k))] [.obj (.box [.pv (.str []),.pv (.sl 0 true []),.pv (.sl 0 true [])])]:=by
 intro m
 induction m with
 | zero=>
  intro k hk hr
  refine En e d x k ?_
  rw[if_neg (by simp;omega)]
  rw[List.drop_of_length_le (by omega)]at hr
  subst hr
  refine⟨Zf (d,()) rfl (by simpa using hd),?_⟩
  refine Zd (d,()) rfl ?_
  refine⟨Zf (x,()) rfl (by simpa using hx),?_⟩
  refine Zd (x,()) rfl ?_
  exact⟨by simp,by simp⟩
 | succ m ih=>
  intro k hk hr
  have hlt:k<x.length:=by omega
  refine En e d x k ?_
  rw[if_pos (by simp;omega)]
  refine⟨by simp[Enc.sz];omega,x[k],by rw[WA _ hlt],?_⟩
  refine Zd (⟨e⟩,x[k],()) rfl ?_
  rw[List.drop_eq_getElem_cons hlt,List.all_cons]at hr
  simp only[]
  cases h:X4 ⟨e⟩ x[k]with
  | true=>
   rw[if_neg (by simp),next (by omega)]
   rw[h,Bool.true_and]at hr
   exact ih (k+1) (by omega) hr
  | false=>
   rw[if_pos (by decide)]
   rw[h,Bool.false_and,if_neg (by simp)]at hr
   subst hr
   exact⟨by simp,by simp⟩
theorem a9s: ∀ a:Str×List Int×List Int×Unit,(decide (a.2.1.length<=2000000)&&decide (a.2.2.1.length<=2000000))=true->Ze UQ 0 (Za VX (Zi (KD a.1 a.2.1 a.2.2.1))) VO [] (Z0 F7 (encL a)):=by
 rintro⟨⟨e⟩,d,x,⟨⟩⟩ hp
 simp only[Bool.and_eq_true,decide_eq_true_eq]at hp
 refine d1e e d x ?_
 have hp1:=hp.1
 have hp2:=hp.2
 have hl:=fun(h0 : ¬ (e≠Wo∧e≠XJ)) (h1 : ¬ (Y2 d).2≠0) (h2 : ¬ (x.length:Int)≠(Y2 d).1)=>a1p e d x hp1 hp2 (KD ⟨e⟩ d x) x.length 0 (by omega) (by simp only[KD,h0,h1,h2,if_false,List.drop_zero])
 simp only[preT,Zb,Oo,a7x,PN,Ov,d2e,Rl,b9m,a6o,b5z,Br,List.isEmpty_iff,Bool.and_true,beq_self_eq_true,Bool.or_true,Bool.true_and,decide_eq_true_eq,AV.pv.injEq,c4g,exists_eq_left',true_and,Enc.sz,List.length_map,Bool.not_eq_true',beq_eq_false_iff_ne,bne_iff_ne]
 have key:(if ¬ (Y2 d).2=0 then Zi (KD ⟨e⟩ d x) ((.tup [(.agg [(.str []),(.sl 0 true []),(.sl 0 true [])]),(.int .i64 (Y2 d).2)]))else if ¬ (x.length:Int)=(Y2 d).1 then Zi (KD ⟨e⟩ d x) ((.tup [(.agg [(.str []),(.sl 0 true []),(.sl 0 true [])]),(.int .i64 1)]))else At UQ 0 (Za VX (Zi (KD ⟨e⟩ d x))) VO 0 52 [(0,(.pv (.str e))),(1,(.pv (.sl 1 false (List.map enc d)))),(2,(.pv (.sl 1 false (List.map enc x)))),(6,(.ptr 0 0)),(10,(.pv (.int .i64 0)))] [(.obj (.box [(.pv (.str [])),(.pv (.sl 0 true [])),(.pv (.sl 0 true []))]))])∨(e≠Wo∧e≠XJ):=by
  by_cases h0:e≠Wo∧e≠XJ
  ·exact .inr h0
  ·refine .inl ?_
   split
   ·rename_i h1
    exact⟨by simp,by simp[KD,h0,h1]⟩
   ·rename_i h1
    split
    ·rename_i h2
     exact⟨by simp,by simp only[KD,ne_eq,h1,h2,not_false_eq_true,if_true,if_false];rw[if_neg h0];simp⟩
    ·rename_i h2
     exact hl h0 h1 h2
 by_cases h1:e=Wo
 ·rw[if_neg (by simp[h1,Wo])]
  exact key.resolve_right (by simp[h1])
 ·rw[if_pos (by simpa [Wo]using h1)]
  by_cases h2:e=XJ
  ·rw[if_neg (by simp[h2,XJ])]
   exact key.resolve_right (by simp[h2])
  ·rw[if_pos (by simpa [XJ]using h2)]
   exact⟨by simp,by simp[KD,h1,h2]⟩
theorem c4r: ∀ a:Arr×Unit,WQ a.1=true->Ze a3p 0 (Za Ld (Zi (X8 a.1))) Fa [] (Z0 c8k (encL a)):=by
 rintro⟨a,⟨⟩⟩ hp
 refine d8g a ⟨Zf (a.e,a.d,a.x,()) rfl hp,Zd (a.e,a.d,a.x,()) rfl ?_⟩
 exact⟨rfl,rfl⟩
theorem a6n(m:Nat):IntKind.wrap .u8 (IntKind.wrap .i64 (48+Int.tmod (m:Int) 10))=((48+m % 10:Nat):Int):=by
 have e2:Int.tmod (m:Int) 10=((m % 10:Nat):Int):=by rw[Int.tmod_eq_emod_of_nonneg (by omega)];omega
 rw[e2,Vn (by omega) (by omega)]
 simp[IntKind.wrap,IntKind.bits,IntKind.signed]
 omega
theorem b8r(m:Nat):(List.length [PV.int IntKind.u8 (IntKind.wrap .u8 (IntKind.wrap .i64 (48+Int.tmod (m:Int) 10)))]==1&&List.all [PV.int IntKind.u8 (IntKind.wrap .u8 (IntKind.wrap .i64 (48+Int.tmod (m:Int) 10)))] Gx&&1==1)=true:=by
 rw[a6n]
 simp only[List.length_cons,List.length_nil,List.all_cons,List.all_nil,Gx,Bool.and_true,beq_self_eq_true,Bool.true_and,Bool.and_eq_true,decide_eq_true_eq,Nat.zero_add]
 omega
theorem c1o(m:Nat):YX (List.drop 0 (List.take 1 [PV.int IntKind.u8 (IntKind.wrap .u8 (IntKind.wrap .i64 (48+Int.tmod (m:Int) 10)))]))=[UInt8.ofNat (48+m % 10)]:=by
 rw[a6n];rfl
theorem a0e(m:Nat):Int.tdiv (m:Int) 10=((m / 10:Nat):Int):=by rw[Int.tdiv_eq_ediv_of_nonneg (by omega)];omega
theorem a5a{N:Nat}{k:Int}(h1:k.natAbs<9223372036854775808)(h2:Gm k<N):preT (fun x:Int×Unit=>decide (x.1.natAbs<9223372036854775808)&&decide (Gm x.1<N)) [.int .i64 k]=true:=
 Zf (k,()) rfl (by show(decide (k.natAbs<9223372036854775808)&&decide (Gm k<N))=true;rw[decide_eq_true h1,decide_eq_true h2];rfl)
theorem BX{k:Int}(h1:k.natAbs<9223372036854775808):preT (fun x:Int×Unit=>decide (x.1.natAbs<9223372036854775808)) [.int .i64 k]=true:=
 Zf (k,()) rfl (decide_eq_true h1)
theorem c3b{n:Int}(hn:n<0):[(45:UInt8)]++(Zn (-n)).s=(Zn n).s:=by
 rw[YH (n:= -n) (by omega),WR hn,Int.natAbs_neg];rfl
theorem Gu{k:Int}(h:k.natAbs<9223372036854775808):(Zn k).s.length<=21:=Qh (n:=k) (by omega)
theorem c0q(N:Nat): ∀ a:Int×Unit,(decide (a.1.natAbs<9223372036854775808)&&decide (Gm a.1<N+1))=true->Ze (a0k N) 0 (Za LM (Zi (Zn a.1))) NU [] (Z0 c8x (encL a)):=by
 rintro⟨n,⟨⟩⟩ h
 simp only[Bool.and_eq_true,decide_eq_true_eq]at h
 obtain⟨h1,h3⟩:=h
 unfold Gm at h3
 refine d7y N n (Yg (fun hn=> ?_) fun hn=> ?_)
 ·rw[Vn (by omega) (by omega)]
  have hl:=Gu (k:= -n) (by omega)
  refine⟨a5a (by omega) (by unfold Gm;rw[if_pos hn]at h3;rw[if_neg (by omega)];omega),Zd (-n,()) rfl ⟨decide_eq_true (by simp only[List.length_singleton];omega),?_⟩⟩
  refine Zo (x:=(⟨[(45:UInt8)]++(Zn (-n)).s⟩:Str)) ?_
  show(⟨[(45:UInt8)]++(Zn (-n)).s⟩:Str)=⟨(Zn n).s⟩
  rw[c3b hn]
 ·obtain⟨m,rfl⟩ : ∃ m:Nat,n=m:=⟨n.toNat,by omega⟩
  rw[if_neg (by omega)]at h3
  refine⟨b8r m,?_⟩
  rw[c1o,a0e,Vn (by omega) (by omega)]
  refine Yg (fun h10=> ?_) fun h10=> ?_
  ·have hm:m<10:=by omega
   refine Zo (x:=(⟨[UInt8.ofNat (48+m % 10)]⟩:Str)) ?_
   show(⟨[UInt8.ofNat (48+m % 10)]⟩:Str)=⟨(Zn (m:Int)).s⟩
   rw[YH (by omega),Int.natAbs_natCast,XA hm,Nat.mod_eq_of_lt hm]
  ·have l1:=Gu (k:=((m / 10:Nat):Int)) (by omega)
   refine⟨a5a (by omega) (by unfold Gm;rw[if_neg (by omega)];omega),Zd (((m / 10:Nat):Int),()) rfl ⟨decide_eq_true (by show(Zn ((m / 10:Nat):Int)).s.length+1<=_;omega),?_⟩⟩
   refine Zo (x:=(⟨(Zn ((m / 10:Nat):Int)).s++[UInt8.ofNat (48+m % 10)]⟩:Str)) ?_
   show(⟨(Zn ((m / 10:Nat):Int)).s++[UInt8.ofNat (48+m % 10)]⟩:Str)=⟨(Zn (m:Int)).s⟩
   rw[YH (by omega),YH (by omega),Int.natAbs_natCast,Int.natAbs_natCast,D8 (u:=m) (by omega)]
theorem b0p(N:Nat)(k:Int)(R:Str): ∀ (d m:Nat) (o:List UInt8),m<10 ^ d->m<=9223372036854775807->o.length+d<=100->R=⟨(if m=0 then []else Lib.decDigits m)++o⟩ ->
  At (Gv N) 0 (Za KJ (Zi R)) Q3 0 31 [(0,.pv (.int .i64 (m:Nat))),(3,.pv (.str o))] []:=by
 intro d
 induction d with
 | zero=>
  intro m o hm hb ho hR
  have hm:m=0:=by simpa using hm
  subst hm
  refine a7d N k _ o (YA (by simp) ?_)
  refine Zo (x:=(⟨o⟩:Str)) ?_
  rw[hR];rfl
 | succ d ih=>
  intro m o hm hb ho hR
  refine a7d N k _ o (Yg (fun h=> ?_) fun h=> ?_)
  ·have hm0:m≠0:=by omega
   refine⟨b8r m,?_⟩
   rw[c1o,a0e]
   refine⟨decide_eq_true (by show 1+o.length<=_;omega),?_⟩
   have k:=ih (m / 10) ([UInt8.ofNat (48+m % 10)]++o) (by rw[Nat.pow_succ]at hm;omega) (by omega) (by rw[List.length_append];show 1+_+_<=_;omega) (by
    rw[hR,if_neg hm0,<- List.append_assoc]
    congr 2
    by_cases h10:m<10
    ·rw[if_pos (by omega),XA h10,Nat.mod_eq_of_lt h10];rfl
    ·rw[if_neg (by omega),D8 h10])
   rw[Vn (by omega) (by omega)]
   exact k
  ·have hm0:m=0:=by omega
   refine Zo (x:=(⟨o⟩:Str)) ?_
   rw[hR,if_pos hm0];rfl
theorem c1y(N:Nat): ∀ a:Int×Unit,(decide (a.1.natAbs<9223372036854775808)&&decide (Gm a.1<N+1))=true->Ze (Gv N) 0 (Za KJ (Zi (Zn a.1))) Q3 [] (Z0 c6a (encL a)):=by
 rintro⟨n,⟨⟩⟩ h
 simp only[Bool.and_eq_true,decide_eq_true_eq]at h
 obtain⟨h1,h3⟩:=h
 unfold Gm at h3
 refine d3k N n (Yg (fun hn=> ?_) fun hn=> ?_)
 ·rw[Vn (by omega) (by omega)]
  have hl:=Gu (k:= -n) (by omega)
  refine⟨a5a (by omega) (by unfold Gm;rw[if_pos hn]at h3;rw[if_neg (by omega)];omega),Zd (-n,()) rfl ⟨decide_eq_true (by simp only[List.length_singleton];omega),?_⟩⟩
  refine Zo (x:=(⟨[(45:UInt8)]++(Zn (-n)).s⟩:Str)) ?_
  show(⟨[(45:UInt8)]++(Zn (-n)).s⟩:Str)=⟨(Zn n).s⟩
  rw[c3b hn]
 ·obtain⟨m,rfl⟩ : ∃ m:Nat,n=m:=⟨n.toNat,by omega⟩
  refine⟨b8r m,?_⟩
  rw[c1o,a0e,Vn (by omega) (by omega)]
  refine b0p N (m:Int) _ 20 (m / 10) _ (by omega) (by omega) (by show 1+20<=100;omega) ?_
  show(⟨(Zn (m:Int)).s⟩:Str)=_
  rw[YH (by omega),Int.natAbs_natCast]
  congr 1
  by_cases h10:m<10
  ·rw[if_pos (by omega),XA h10,Nat.mod_eq_of_lt h10];rfl
  ·rw[if_neg (by omega),D8 h10]
theorem d1q(a:Arr)(G:PV->Prop)(hx : ∀ n∈a.x,n.natAbs<9223372036854775808)(hl:a.x.length<=2000000): ∀ (d i:Nat) (o:List UInt8),d+i=a.x.length->o.length<=100000000+22*i ->
  G (.tup [.str (Yw o true (a.x.drop i)++[93]),.int .i64 0]) ->
  At VG 0 (Za Ww G) Wu 1 52 [(1,.ptr 0 0),(4,.pv (.str o)),(6,.pv (.int .i64 i))] [.obj (.box [.pv (.str a.e.s),.pv (enc a.d),.pv (enc a.x)])]:=by
 intro d
 induction d with
 | zero=>
  intro i o hi ho h
  rw[List.drop_eq_nil_of_le (by omega)]at h
  exact a8a a o i (YA (QF (by omega)) ⟨decide_eq_true (by show o.length+1<=_;omega),h⟩)
 | succ d ih=>
  intro i o hi ho h
  have hlt:i<a.x.length:=by omega
  have hn:=hx _ (List.getElem_mem hlt)
  have hnl:=AR true (i:=a.x[i]) (by omega)
  have hil:=Gu (k:=a.x[i]) hn
  rw[List.drop_eq_getElem_cons hlt]at h
  have k:=ih (i+1) (o++Uc true a.x[i]) (by omega) (by rw[List.length_append];omega) h
  refine a8a a o i (Yv (QR hlt) ⟨ZT hlt rfl,Yk hlt ⟨BX hn,Zd (a.x[i],()) rfl ⟨decide_eq_true (by show 1+(Zn a.x[i]).s.length<=_;omega),decide_eq_true (by show o.length+([32]++(Zn a.x[i]).s).length<=_;rw[List.length_append];show o.length+(1+_)<=_;omega),?_⟩⟩⟩)
  rw[next (by omega)]
  exact k
theorem c7f(a:Arr)(G:PV->Prop)(hd : ∀ n∈a.d,n.natAbs<9223372036854775808)(hl:a.d.length<=2000000)
  (next1 : ∀ o:List UInt8,o.length<=44000010->G (.tup [.str (Yw (o++[58]) true a.x++[93]),.int .i64 0])->At VG 0 (Za Ww G) Wu 1 52 [(1,.ptr 0 0),(4,.pv (.str (o++[58]))),(6,.pv (.int .i64 (0:Nat)))] [.obj (.box [.pv (.str a.e.s),.pv (enc a.d),.pv (enc a.x)])]) : ∀ (d i:Nat) (o:List UInt8),d+i=a.d.length->o.length<=10+22*i ->
  G (.tup [.str (Yw (Yw o (decide (0<i)) (a.d.drop i)++[58]) true a.x++[93]),.int .i64 0]) ->
  At VG 0 (Za Ww G) Wu 0 52 [(1,.ptr 0 0),(4,.pv (.str o)),(5,.pv (.int .i64 i))] [.obj (.box [.pv (.str a.e.s),.pv (enc a.d),.pv (enc a.x)])]:=by
 intro d
 induction d with
 | zero=>
  intro i o hi ho h
  rw[List.drop_eq_nil_of_le (by omega)]at h
  exact a7m a o i (YA (QF (by omega)) ⟨decide_eq_true (by show o.length+1<=_;omega),next1 o (by omega) h⟩)
 | succ d ih=>
  intro i o hi ho h
  have hlt:i<a.d.length:=by omega
  have hn:=hd _ (List.getElem_mem hlt)
  have hnl:=AR (decide (0<i)) (i:=a.d[i]) (by omega)
  have hil:=Gu (k:=a.d[i]) hn
  rw[List.drop_eq_getElem_cons hlt]at h
  have k:=ih (i+1) (o++Uc (decide (0<i)) a.d[i]) (by omega) (by rw[List.length_append];omega) (by rw[decide_eq_true (show 0<i+1 by omega)];exact h)
  refine a7m a o i (Yv (QR hlt) (Yg (fun h0=> ?_) fun h0=> ?_))
  ·rw[decide_eq_true (show 0<i by omega)]at k
   refine⟨decide_eq_true (by show o.length+1<=_;omega),ZT hlt rfl,Yk hlt ⟨BX hn,Zd (a.d[i],()) rfl ⟨decide_eq_true (by rw[List.length_append];show o.length+1+(Zn a.d[i]).s.length<=_;omega),?_⟩⟩⟩
   rw[next (by omega),List.append_assoc]
   exact k
  ·rw[decide_eq_false (show ¬ 0<i by omega)]at k
   refine⟨ZT hlt rfl,Yk hlt ⟨BX hn,Zd (a.d[i],()) rfl ⟨decide_eq_true (by show o.length+(Zn a.d[i]).s.length<=_;omega),?_⟩⟩⟩
   rw[next (by omega)]
   exact k
theorem c3c: ∀ x:Arr×Unit,(WQ x.1&&X8 x.1)=true->Ze VG 0 (Za Ww (Zi (Q9 x.1))) Wu [] (Z0 c7u (encL x)):=by
 rintro⟨a,⟨⟩⟩ h
 rw[Bool.and_eq_true]at h
 have hs:WQ a=true:=h.1
 have hv:X8 a=true:=h.2
 have hsm:=hs
 unfold WQ at hsm
 simp only[Bool.and_eq_true,decide_eq_true_eq]at hsm
 obtain⟨hd,hx⟩:=Nv hv
 have fin : ∀ o:List UInt8,(o=if a.e.s=XJ then [35,98,91]else [35,91])->Zi (Q9 a) (.tup [.str (Yw (Yw o (decide (0<0)) (a.d.drop 0)++[58]) true a.x++[93]),.int .i64 0]):=fun o ho=>by
  have e:Yw (Yw o (decide (0<0)) (a.d.drop 0)++[58]) true a.x++[93]=CG a:=by
   rw[List.drop_zero,show decide (0<0)=false from rfl,C9,Sa,ho]
   rfl
  rw[e]
  exact Zo (x:=((⟨CG a⟩,0):Str×Int)) rfl
 have key : ∀ o:List UInt8,o.length<=10->Zi (Q9 a) (.tup [.str (Yw (Yw o (decide (0<0)) (a.d.drop 0)++[58]) true a.x++[93]),.int .i64 0])->_:=fun o ho k=>
  c7f a (Zi (Q9 a)) hd hsm.1 (fun o ho k=>d1q a (Zi (Q9 a)) hx hsm.2 a.x.length 0 (o++[58]) (by omega) (by rw[List.length_append];show _+1<=_;omega) k) a.d.length 0 o (by omega) (by omega) k
 refine d4g a ⟨Zf (a,()) rfl hs,Zd (a,()) rfl (VY (fun hn=> ?_) fun hn=>ZL (fun hb=> ?_) fun hb=> ?_)⟩
 ·have hn:X8 a=false:=hn
  rw[hv]at hn;cases hn
 ·exact key [35,98,91] (by decide) (fin _ (by rw[if_pos (show a.e.s=XJ from hb)]))
 ·exact key [35,91] (by decide) (fin _ (by rw[if_neg (show ¬ a.e.s=XJ from hb)]))
def RX(o:List UInt8):Bool->List (List UInt8)->List UInt8
 | _,[]=>o
 | b,s::r=>RX (o++(if b then []else [44,32])++s) false r
theorem NE: ∀ (l:List (List UInt8)) (o:List UInt8),RX o true l=o++Ya l
 | [],o=>by simp[RX,Ya]
 | [s],o=>by simp[RX,Ya]
 | s::t::r,o=>by
  have h:=NE (t::r) (o++s++[44,32])
  rw[RX]at h ⊢
  rw[RX,Ya]
  ·simp only[Bool.false_eq_true,if_true,if_false,List.append_nil]at h ⊢
   rw[h]
   simp only[List.append_assoc]
  ·simp
def a9k(l:List (List UInt8)):Nat:=(l.map fun s=>s.length+2).sum
theorem b0s(s:List UInt8)(l:List (List UInt8)):a9k (s::l)=s.length+2+a9k l:=by unfold a9k;rw[List.map_cons,List.sum_cons]
theorem M0{N:Nat}{a:Tm}{P:Str->Prop}(h1:tW a=true∧ZU a=true∧ZM a<N)(h:P (Zq a)):preT (fun x:Tm×Unit=>tW x.1&&ZU x.1&&decide (ZM x.1<N)) (Wd a)=true∧ ∃ y:Str,AV.pv (Zb (fun x:Tm×Unit=>Zq x.1) (Wd a))=AV.pv (enc y)∧P y:=
 ⟨Zf (a,()) (Yj a) (W9 h1.1 h1.2.1 h1.2.2),Zd (a,()) (Yj a) h⟩
theorem U8{N:Nat}{a:Tm}{b:Bool}{P:Str->Prop}(h1:tW a=true∧ZU a=true∧ZM a<N)(h:P (VE b a)):preT (fun x:Tm×Bool×Unit=>tW x.1&&ZU x.1&&decide (ZM x.1<N)) (K6 a b)=true∧ ∃ y:Str,AV.pv (Zb (fun x:Tm×Bool×Unit=>VE x.2.1 x.1) (K6 a b))=AV.pv (enc y)∧P y:=
 ⟨Zf (a,b,()) (b4f a b) (W9 h1.1 h1.2.1 h1.2.2),Zd (a,b,()) (b4f a b) h⟩
theorem Bh{a:Tm}{P:Int->Prop}(h1:tW a=true)(h:P (YV a)):preT (fun x:Tm×Unit=>tW x.1) (Wd a)=true∧ ∃ y:Int,AV.pv (Zb (fun x:Tm×Unit=>YV x.1) (Wd a))=AV.pv (enc y)∧P y:=
 ⟨Zf (a,()) (Yj a) h1,Zd (a,()) (Yj a) h⟩
theorem Tu{n:Int}{P:Str->Prop}(h1:n.natAbs<9223372036854775808)(h:P (Zn n)):preT (fun x:Int×Unit=>decide (x.1.natAbs<9223372036854775808)) [.int .i64 n]=true∧ ∃ y:Str,AV.pv (Zb (fun x:Int×Unit=>Zn x.1) [.int .i64 n])=AV.pv (enc y)∧P y:=
 ⟨BX h1,Zd (n,()) rfl h⟩
theorem AY{N:Nat}{ks:List Tm}{P:Str->Prop}(hp:TxP N ks)(h:P (Yh (ks.map Zq))):preT (fun x:List Tm×Unit=>Ca x.1&&YP x.1&&decide (ZW x.1<N)) [.sl 10 false (ks.map enc)]=true∧ ∃ y:Str,AV.pv (Zb (fun x:List Tm×Unit=>Yh (x.1.map Zq)) [.sl 10 false (ks.map enc)])=AV.pv (enc y)∧P y:=
 ⟨Zf (ks,()) rfl hp.pre,Zd (ks,()) rfl h⟩
theorem c3q{s t:List UInt8}(h:s=t):Zi (⟨t⟩:Str) (.str s):=Zo (x:=(⟨s⟩:Str)) (by rw[h])
theorem a0x(N:Nat)(l:List Tm)(hp:TxP N l)(R:Str): ∀ (d i:Nat) (o:List UInt8),d+i=l.length->o.length+a9k ((l.drop i).map ZX)<=1099511627000->R=⟨RX o (decide (i=0)) ((l.drop i).map ZX)⟩ ->
  At (Qq N) 0 (Za Un (Zi R)) Uo 0 23 [(0,.pv (enc l)),(3,.pv (.str o)),(4,.pv (.int .i64 i))] []:=by
 have hlen:l.length<=1048576:=Nat.le_trans (Dn l) hp.w
 intro d
 induction d with
 | zero=>
  intro i o hi ho hR
  rw[List.drop_eq_nil_of_le (by omega)]at hR
  rw[hR]
  exact Eb N l o i (YA (QF (by omega)) (c3q rfl))
 | succ d ih=>
  intro i o hi ho hR
  have hlt:i<l.length:=by omega
  have hk:=hp.kid (List.getElem_mem hlt)
  rw[List.drop_eq_getElem_cons hlt,List.map_cons,b0s]at ho
  rw[List.drop_eq_getElem_cons hlt,List.map_cons,RX]at hR
  have k:=fun o'=>ih (i+1) o' (by omega)
  rw[decide_eq_false (show ¬ i+1=0 by omega)]at k
  refine Eb N l o i (Yv (QR hlt) (Yg (fun h0=>⟨ZE (by show o.length+2<=_;omega),ZT hlt rfl,Yk hlt ⟨Xx _,M0 hk ⟨ZE (by rw[List.length_append];show o.length+2+(ZX l[i]).length<=_;omega),?_⟩⟩⟩) fun h0=>⟨ZT hlt rfl,Yk hlt ⟨Xx _,M0 hk ⟨ZE (by show o.length+(ZX l[i]).length<=_;omega),?_⟩⟩⟩))
  ·rw[next (by omega)]
   rw[decide_eq_false (show ¬ i=0 by omega)]at hR
   exact k _ (by rw[List.length_append,List.length_append];show o.length+2+(ZX l[i]).length+_<=_;omega) hR
  ·rw[next (by omega)]
   rw[decide_eq_true (show i=0 by omega)]at hR
   exact k _ (by rw[List.length_append];show o.length+(ZX l[i]).length+_<=_;omega) (by rw[hR,if_pos rfl,List.append_nil];rfl)
theorem TxP.sum{N:Nat}{ks:List Tm}(h:TxP N ks):a9k (ks.map ZX)<=1153433600:=by
 have h2:=JG ks (by rw[V7];exact List.all_eq_true.2 h.v)
 have h3:((ks.map ZX).map fun s=>s.length+2).sum<=((YC ks).map fun x=>x.2.2.length+4).sum:=by
  rw[WE,DZ,DZ]
  exact G6 fun x _=>by show(ZX x).length+2<=(ZX x).length+4;omega
 have:=h.w
 unfold a9k
 omega
theorem b3b(N:Nat): ∀ x:List Tm×Unit,((Ca x.1&&YP x.1)&&decide (ZW x.1<N))=true->Ze (Qq N) 0 (Za Un (Zi (Yh (x.1.map Zq)))) Uo [] (Z0 b8a (encL x)):=by
 rintro⟨l,⟨⟩⟩ h
 simp only[Bool.and_eq_true,decide_eq_true_eq,V7,List.all_eq_true]at h
 have hp:TxP N l:=⟨of_decide_eq_true h.1.1,h.1.2,h.2⟩
 have:=hp.sum
 refine d1b N l (a0x N l hp _ l.length 0 [] (by omega) (by rw[List.drop_zero];show 0+_<=_;omega) ?_)
 rw[List.drop_zero,show decide (0=0)=true from rfl,NE,List.nil_append,<- VH]
theorem Oi(l:List Lin)(hl:l.length<=1048576)(hv : ∀ x∈l,Zp x=true)(R:Str): ∀ (d i:Nat) (o:List UInt8),d+i=l.length->o.length+1002*d<=1099511627000->R=⟨RX o (decide (i=0)) ((l.drop i).map ZY)⟩ ->
  At Ur 0 (Za Vs (Zi R)) Vp 0 23 [(0,.pv (enc l)),(3,.pv (.str o)),(4,.pv (.int .i64 i))] []:=by
 intro d
 induction d with
 | zero=>
  intro i o hi ho hR
  rw[List.drop_eq_nil_of_le (by omega)]at hR
  rw[hR]
  exact Nb l o i (YA (QF (by omega)) (c3q rfl))
 | succ d ih=>
  intro i o hi ho hR
  have hlt:i<l.length:=by omega
  have hk:=JA (hv _ (List.getElem_mem hlt))
  have hpl:=Vr l[i]
  rw[List.drop_eq_getElem_cons hlt,List.map_cons,RX]at hR
  have k:=fun o'=>ih (i+1) o' (by omega)
  rw[decide_eq_false (show ¬ i+1=0 by omega)]at k
  refine Nb l o i (Yv (QR hlt) (Yg (fun h0=>⟨ZE (by show o.length+2<=_;omega),ZT hlt rfl,Yk hlt ⟨Zf (l[i],()) rfl hk,Zd (l[i],()) rfl ⟨ZE (by rw[List.length_append];show o.length+2+(ZY l[i]).length<=_;omega),?_⟩⟩⟩) fun h0=>⟨ZT hlt rfl,Yk hlt ⟨Zf (l[i],()) rfl hk,Zd (l[i],()) rfl ⟨ZE (by show o.length+(ZY l[i]).length<=_;omega),?_⟩⟩⟩))
  ·rw[next (by omega)]
   rw[decide_eq_false (show ¬ i=0 by omega)]at hR
   exact k _ (by rw[List.length_append,List.length_append];show o.length+2+(ZY l[i]).length+_<=_;omega) hR
  ·rw[next (by omega)]
   rw[decide_eq_true (show i=0 by omega)]at hR
   exact k _ (by rw[List.length_append];show o.length+(ZY l[i]).length+_<=_;omega) (by rw[hR,if_pos rfl,List.append_nil])
theorem a5h: ∀ x:List Lin×Unit,(decide (x.1.length<=1048576)&&x.1.all Zp)=true->Ze Ur 0 (Za Vs (Zi (Yh (x.1.map Yz)))) Vp [] (Z0 b1e (encL x)):=by
 rintro⟨l,⟨⟩⟩ h
 simp only[Bool.and_eq_true,decide_eq_true_eq,List.all_eq_true]at h
 refine c0o l (Oi l h.1 h.2 _ l.length 0 [] (by omega) (by show 0+_<=_;omega) ?_)
 rw[List.drop_zero,show decide (0=0)=true from rfl,NE,List.nil_append,<- QX]
def rkO(o:List UInt8):Bool->List Int->List UInt8
 | _,[]=>o
 | b,n::r=>rkO (o++(if b then [64,40]else [44,32])++Qw n++(if r.isEmpty then [41]else [])) false r
theorem Nw(s t:List UInt8)(r:List (List UInt8)):Ya (s::t::r)=s++[44,32]++Ya (t::r):=rfl
theorem d1z: ∀ (l:List Int) (o:List UInt8),l≠[]->rkO o false l=o++[44,32]++Ya (l.map Qw)++[41]
 | [],_,h=>absurd rfl h
 | [n],o,_=>by simp[rkO,Ya]
 | n::m::r,o,_=>by
  rw[rkO,d1z (m::r) _ (by simp)]
  simp only[List.map_cons,List.isEmpty_cons,Bool.false_eq_true,if_false,List.append_nil,Nw,List.append_assoc]
theorem d7k(l:List Int)(o:List UInt8):rkO o true l=o++(if l=[]then []else [64,40]++Ya (l.map Qw)++[41]):=by
 cases l with
 | nil=>simp[rkO]
 | cons n r=>
  rw[rkO,if_neg (List.cons_ne_nil n r)]
  cases r with
  | nil=>simp[rkO,Ya]
  | cons m r=>
   rw[d1z _ _ (by simp)]
   simp only[List.map_cons,List.isEmpty_cons,Bool.false_eq_true,if_false,if_true,List.append_nil,Nw,List.append_assoc]
theorem a1m(N:Nat)(n:Nd)(ks:List Tm)(hp:TxP N ks)(hr:n.ranks.length<=8)(hk:Xw n.ranks=true)(R:Str): ∀ (d i:Nat) (o:List UInt8),d+i=n.ranks.length->o.length+30*d<=1000000->R=⟨rkO o (decide (i=0)) (n.ranks.drop i)++[40]++Ya (ks.map ZX)++[41]⟩ ->
  At (X9 N) 0 (Za Xk (Zi R)) XI 0 64 [(1,.ptr 0 0),(3,.pv (.str o)),(4,.pv (.int .i64 i))] [.obj (.box (Z7 n ks))]:=by
 intro d
 induction d with
 | zero=>
  intro i o hi ho hR
  rw[List.drop_eq_nil_of_le (by omega)]at hR
  have hc:=hp.com
  have e3:=VH ks
  rw[<- e3]at hc
  rw[hR,<- e3]
  refine OI N n ks o i (YA (QF (by omega)) ⟨ZE (by show o.length+1<=_;omega),AY hp ⟨ZE (by rw[List.length_append];show o.length+1+_<=_;omega),ZE (by rw[List.length_append,List.length_append];show o.length+1+_+1<=_;omega),c3q rfl⟩⟩)
 | succ d ih=>
  intro i o hi ho hR
  have hlt:i<n.ranks.length:=by omega
  have h7:=List.all_eq_true.1 hk _ (List.getElem_mem hlt)
  simp only[Bool.and_eq_true,decide_eq_true_eq]at h7
  have hna:n.ranks[i].natAbs<9223372036854775808:=by omega
  have hil:(Zn n.ranks[i]).s.length<=21:=Gu hna
  rw[List.drop_eq_getElem_cons hlt,rkO]at hR
  have k:=fun o'=>ih (i+1) o' (by omega)
  rw[decide_eq_false (show ¬ i+1=0 by omega)]at k
  have hw:IntKind.i64.wrap ((↑(List.length (List.map (enc:Int->PV) n.ranks)):Int) - 1)=((n.ranks.length - 1:Nat):Int):=by rw[List.length_map,Vn (by omega) (by omega)];omega
  have em:(n.ranks.drop (i+1)).isEmpty=decide (i=n.ranks.length - 1):=by rw[VL,List.length_drop];exact decide_eq_decide.2 (by omega)
  rw[em]at hR
  refine OI N n ks o i (Yv (QR hlt) ?_)
  rw[hw]
  refine ZL (fun h0=>⟨ZE (by show o.length+2<=_;omega),ZT hlt rfl,Yk hlt (Tu (n:=n.ranks[i]) hna ⟨ZE (by rw[List.length_append];show o.length+2+_<=_;omega),ZL (fun h1=>⟨ZE (by rw[List.length_append,List.length_append];show o.length+2+_+1<=_;omega),?_⟩) fun h1=> ?_⟩)⟩) fun h0=>⟨ZE (by show o.length+2<=_;omega),ZT hlt rfl,Yk hlt (Tu (n:=n.ranks[i]) hna ⟨ZE (by rw[List.length_append];show o.length+2+_<=_;omega),ZL (fun h1=>⟨ZE (by rw[List.length_append,List.length_append];show o.length+2+_+1<=_;omega),?_⟩) fun h1=> ?_⟩)⟩
  ·rw[next (by omega)]
   rw[decide_eq_true (show i=0 by omega),decide_eq_true (show i=n.ranks.length - 1 by omega)]at hR
   exact k _ (by rw[List.length_append,List.length_append,List.length_append];show o.length+2+_+1+_<=_;omega) hR
  ·rw[next (by omega)]
   rw[decide_eq_true (show i=0 by omega),decide_eq_false (show ¬ i=n.ranks.length - 1 by omega)]at hR
   exact k _ (by rw[List.length_append,List.length_append];show o.length+2+_+_<=_;omega) (by rw[hR];simp only[Bool.false_eq_true,if_false,List.append_nil];rfl)
  ·rw[next (by omega)]
   rw[decide_eq_false (show ¬ i=0 by omega),decide_eq_true (show i=n.ranks.length - 1 by omega)]at hR
   exact k _ (by rw[List.length_append,List.length_append,List.length_append];show o.length+2+_+1+_<=_;omega) hR
  ·rw[next (by omega)]
   rw[decide_eq_false (show ¬ i=0 by omega),decide_eq_false (show ¬ i=n.ranks.length - 1 by omega)]at hR
   exact k _ (by rw[List.length_append,List.length_append];show o.length+2+_+_<=_;omega) (by rw[hR];simp only[Bool.false_eq_true,if_false,List.append_nil];rfl)
theorem b2k(N:Nat): ∀ x:Tm×Unit,(((tW x.1&&ZU x.1)&&decide (x.1.nd.kind=6))&&decide (ZW x.1.ks<N))=true->Ze (X9 N) 0 (Za Xk (Zi (Qf x.1))) XI [] (Z0 c1g (encL x)):=by
 rintro⟨⟨n,ks⟩,⟨⟩⟩ h
 simp only[Bool.and_eq_true,decide_eq_true_eq]at h
 obtain⟨⟨⟨hw,hv⟩,hk⟩,hd⟩:=h
 have hk:n.kind=6:=hk
 have hw:tW (.mk n ks)=true:=hw
 have hv:=Qd hv
 have hwk:Us ks<=1048576:=by have h1:K7 (.mk n ks)<=1048576:=of_decide_eq_true hw;rw[K7]at h1;omega
 have hp:TxP N ks:=⟨hwk,hv.2,hd⟩
 have hc:XK n ks.length=true:=by
  have h1:=hv.1
  unfold Wx YI at h1
  rw[hk]at h1
  simp at h1
  exact h1.2.2
 obtain⟨c1,c2,c3,c4,c5,c6⟩:=SX hc
 have l0:(Yh (n.sizes.map Yz)).s.length<=4008:=by
  rw[QX]
  have h1:=Xc (n.sizes.map ZY)
  rw[List.map_map]at h1
  have h2:=Gj (f:=(fun s:List UInt8=>s.length+2) ∘ ZY) (c:=1002) (l:=n.sizes) fun x _=>by
   have:=Vr x
   show(ZY x).length+2<=_
   omega
  omega
 have l1:(Zn n.num).s.length<=21:=Gu (by omega)
 have e0:=QX n.sizes
 rw[<- ZH]
 show Ze (X9 N) 0 (Za Xk (Zi (Qf (.mk n ks)))) _ _ _
 have key : ∀ o:List UInt8,o.length<=10000->o=n.name.s++(if n.sizes=[]then []else [91]++Ya (n.sizes.map ZY)++[93])++(if n.num=0 then []else [123]++Qw n.num++[125]) ->
   At (X9 N) 0 (Za Xk (Zi (Qf (.mk n ks)))) XI 0 64 [(1,.ptr 0 0),(3,.pv (.str o)),(4,.pv (.int .i64 ((0:Nat):Int)))] [.obj (.box (Z7 n ks))]:=fun o ho he=>
  a1m N n ks hp c4 c6 _ n.ranks.length 0 o (by omega) (by omega) (by
   rw[List.drop_zero,show decide (0=0)=true from rfl,d7k,he]
   show(⟨V3 n (ks.map ZX)⟩:Str)=_
   unfold V3
   simp only[List.append_assoc])
 have p0:(fun x:List Lin×Unit=>decide (x.1.length<=1048576)&&x.1.all Zp) (n.sizes,())=true:=by show(decide (n.sizes.length<=1048576)&&n.sizes.all Zp)=true;rw[decide_eq_true (by omega),c5];rfl
 have hna:n.num.natAbs<9223372036854775808:=by omega
 refine c7m N n ks (Yg (fun hs=> ?_) fun hs=> ?_)
 ·rw[VA]at hs
  refine⟨Zf (n.sizes,()) rfl p0,Zd (n.sizes,()) rfl ⟨ZE (by show 1+(Yh (n.sizes.map Yz)).s.length<=_;omega),ZE (by rw[List.length_append];show 1+(Yh (n.sizes.map Yz)).s.length+1<=_;omega),ZE (by show n.name.s.length+([91]++(Yh (n.sizes.map Yz)).s++[93]).length<=_;rw[List.length_append,List.length_append];show _+(1+_+1)<=_;omega),Bj (fun hm=>Tu hna ⟨ZE (by show 1+_<=_;omega),ZE (by rw[List.length_append];show 1+(Zn n.num).s.length+1<=_;omega),ZE (by show(n.name.s++([91]++(Yh (n.sizes.map Yz)).s++[93])).length+([123]++(Zn n.num).s++[125]).length<=_;rw[List.length_append,List.length_append,List.length_append,List.length_append,List.length_append];show _+(1+_+1)+(1+_+1)<=_;omega),?_⟩) fun hm=> ?_⟩⟩
  ·refine key _ ?_ ?_
   ·show(n.name.s++([91]++(Yh (n.sizes.map Yz)).s++[93])++([123]++(Zn n.num).s++[125])).length<=_
    rw[List.length_append,List.length_append,List.length_append,List.length_append,List.length_append,List.length_append];show _+(1+_+1)+(1+_+1)<=_;omega
   ·rw[if_neg hs,if_neg hm,<- e0];rfl
  ·refine key _ ?_ ?_
   ·show(n.name.s++([91]++(Yh (n.sizes.map Yz)).s++[93])).length<=_
    rw[List.length_append,List.length_append,List.length_append];show _+(1+_+1)<=_;omega
   ·rw[if_neg hs,if_pos hm,<- e0,List.append_nil]
 ·have hs:n.sizes=[]:=by
   cases hn:n.sizes with
   | nil=>rfl
   | cons x y=>exact absurd (by rw[hn];simp) hs
  refine Bj (fun hm=>Tu hna ⟨ZE (by show 1+_<=_;omega),ZE (by rw[List.length_append];show 1+(Zn n.num).s.length+1<=_;omega),ZE (by show n.name.s.length+([123]++(Zn n.num).s++[125]).length<=_;rw[List.length_append,List.length_append];show _+(1+_+1)<=_;omega),?_⟩) fun hm=> ?_
  ·refine key _ ?_ ?_
   ·show(n.name.s++([123]++(Zn n.num).s++[125])).length<=_
    rw[List.length_append,List.length_append,List.length_append];show _+(1+_+1)<=_;omega
   ·rw[if_pos hs,if_neg hm,List.append_nil];rfl
  ·refine key _ (by omega) ?_
   rw[if_pos hs,if_pos hm,List.append_nil,List.append_nil]
theorem d8p{r:OpR}(h:r∈XL):YJ ⟨r.s⟩ r.u=⟨⟨r.n⟩,r.l,true⟩:=by
 simp only[XL,List.mem_cons,List.not_mem_nil,or_false]at h
 rcases h with rfl|rfl|rfl|rfl|rfl|rfl|rfl|rfl|rfl|rfl|rfl|rfl|rfl|rfl|rfl <;> rfl
theorem CX{n:Nd}{ks:List Tm}{r:OpR}(h:Jh n ks.length=some r):Hd (.mk n ks)=⟨⟨r.s⟩,r.l,r.u⟩:=by
 show(match Jh n ks.length with|none=>(⟨⟨[]⟩,0,false⟩:R3 Str Int Bool)|some r=>⟨⟨r.s⟩,r.l,r.u⟩)=_
 rw[h]
theorem CE{n:Nd}{ks:List Tm}(h:Jh n ks.length=none):Hd (.mk n ks)=⟨⟨[]⟩,0,false⟩:=by
 show(match Jh n ks.length with|none=>(⟨⟨[]⟩,0,false⟩:R3 Str Int Bool)|some r=>⟨⟨r.s⟩,r.l,r.u⟩)=_
 rw[h]
theorem a8m: ∀ x:Tm×Unit,tW x.1=true->Ze AJ 0 (Za Da (Zi (Hd x.1))) TJ [] (Z0 b8m (encL x)):=by
 rintro⟨⟨n,ks⟩,⟨⟩⟩ h
 have hB:=EQ h
 have q1:=hB.sizes
 have q2:=hB.ranks
 rw[<- ZH]
 show Ze AJ 0 (Za Da (Zi (Hd (.mk n ks)))) _ _ _
 have e0:Jh n ks.length=none->Zi (Hd (.mk n ks)) (.tup [.str [],.int .i64 0,.bool false]):=fun e=>Zo (x:=(⟨⟨[]⟩,0,false⟩:R3 Str Int Bool)) (CE e).symm
 refine d0l n ks (Zd (n.name,()) rfl ?_)
 cases hq:GA n.name.s with
 | none=>
  have e:Jh n ks.length=none:=by unfold Jh;simp[hq]
  rw[show KS (n.name,()).1=⟨⟨[]⟩,false,false⟩from by show KS n.name=_;unfold KS;rw[hq]]
  exact Bj (fun _=>e0 e) fun _=>Yv rfl (e0 e)
 | some r=>
  rw[show KS (n.name,()).1=⟨⟨r.s⟩,r.u,true⟩from d9x hq]
  have hno : ¬ (n.kind=6∧ks.length=(if r.u then 1 else 2)∧n.sizes=[]∧n.num=0∧n.ranks=[])->Jh n ks.length=none:=fun h=>by unfold Jh;simp only[hq];rw[if_neg h]
  have hye:(n.kind=6∧ks.length=(if r.u then 1 else 2)∧n.sizes=[]∧n.num=0∧n.ranks=[])->Jh n ks.length=some r:=fun h=>by unfold Jh;simp only[hq];rw[if_pos h]
  have hm:r∈XL:=List.mem_of_find?_eq_some hq
  have e1:=d8p hm
  simp only[List.length_map,SI (show n.sizes.length+n.ranks.length<=4611686018427387904 by omega)]
  refine Bj (fun hk=>e0 (hno fun x=>hk x.1)) fun hk=>YA (by simp) (Yg (fun hs=>e0 (hno fun x=> ?_)) fun hs=>Bj (fun hm=>e0 (hno fun x=>hm x.2.2.2.1)) fun hm=> ?_)
  ·rw[x.2.2.1,x.2.2.2.2]at hs
   simp at hs
  ·have hs1:n.sizes=[]:=List.length_eq_zero_iff.1 (by omega)
   have hs2:n.ranks=[]:=List.length_eq_zero_iff.1 (by omega)
   have fin:ks.length=(if r.u then 1 else 2)-> ∃ y:R3 Str Int Bool,AV.pv (Zb (fun x:Str×Bool×Unit=>YJ x.1 x.2.1) [.str (Str.s (R3.a (⟨⟨r.s⟩,r.u,true⟩:R3 Str Bool Bool))),.bool (R3.b (⟨⟨r.s⟩,r.u,true⟩:R3 Str Bool Bool))])=AV.pv (enc y)∧Zi (Hd (.mk n ks)) (.tup [.str (Str.s (R3.a (⟨⟨r.s⟩,r.u,true⟩:R3 Str Bool Bool))),.int .i64 (R3.b y),.bool (R3.b (⟨⟨r.s⟩,r.u,true⟩:R3 Str Bool Bool))]):=fun hl=>
    Zd (⟨r.s⟩,r.u,()) rfl (by
     rw[show YJ ((⟨r.s⟩,r.u,()):Str×Bool×Unit).1 ((⟨r.s⟩,r.u,()):Str×Bool×Unit).2.1=⟨⟨r.n⟩,r.l,true⟩from e1]
     exact Zo (x:=(⟨⟨r.s⟩,r.l,r.u⟩:R3 Str Int Bool)) (CX (hye ⟨hk,hl,hs1,hm,hs2⟩)).symm)
   refine Bj (fun a1=>XR (fun hu=>e0 (hno fun x=> ?_)) fun hu=>Bj (fun a2=>VY (fun hu2=>e0 (hno fun x=> ?_)) fun hu2=> ?_) fun a2=>fin ?_) fun a1=>Bj (fun a2=>VY (fun hu=>e0 (hno fun x=> ?_)) fun hu=>fin ?_) fun a2=> ?_
   ·have hu:r.u=true:=hu
    have:=x.2.1
    rw[hu,if_pos rfl]at this
    omega
   ·have hu:r.u=false:=hu
    have:=x.2.1
    rw[hu,if_neg (by decide)]at this
    omega
   ·have hu:r.u=false:=hu
    have hu2:r.u=true:=hu2
    rw[hu]at hu2;cases hu2
   ·have hu:r.u=false:=hu
    rw[hu,if_neg (by decide)];omega
   ·have hu:r.u=false:=hu
    have:=x.2.1
    rw[hu,if_neg (by decide)]at this
    omega
   ·have hu:r.u=true:=hu
    rw[hu,if_pos rfl];omega
   ·omega
theorem b6n: ∀ x:Tm×Unit,tW x.1=true->Ze NP 0 (Za Au (Zi (YV x.1))) M6 [] (Z0 d0g (encL x)):=by
 rintro⟨⟨n,ks⟩,⟨⟩⟩ h
 rw[<- ZH]
 show Ze NP 0 (Za Au (Zi (BP n ks.length))) _ _ _
 refine d4l n ks ⟨Zf (.mk n ks,()) (ZH n ks) h,Zd (.mk n ks,()) (ZH n ks) (ZL (fun h5=>QM ?_) fun h5=> ?_)⟩
 ·unfold BP;rw[if_pos h5]
 ·cases ho:Jh n ks.length with
  | some r=>
   rw[show Hd ((Tm.mk n ks,()):Tm×Unit).1=⟨⟨r.s⟩,r.l,r.u⟩from CX ho]
   have hne:(r.s==[])=false:=by rw[Gw];exact decide_eq_false (d2k (Bu ho).1)
   exact Yv (by show(!(r.s==[]))=true;rw[hne];rfl) (QM (a5r ho).symm)
  | none=>
   rw[show Hd ((Tm.mk n ks,()):Tm×Unit).1=⟨⟨[]⟩,0,false⟩from CE ho]
   have e:BP n ks.length=if n.kind=2∧n.name.s=Wo∧n.num<0 then 6 else 7:=by unfold BP;rw[if_neg h5,ho]
   rw[e]
   refine YA (by decide) (ZL (fun h2=>ZL (fun h3=>Yg (fun h4=>QM ?_) fun h4=>QM ?_) fun h3=>QM ?_) fun h2=>QM ?_)
   ·rw[if_pos ⟨h2,h3,h4⟩]
   ·rw[if_neg fun x=>h4 x.2.2]
   ·rw[if_neg fun x=>h3 x.2.1]
   ·rw[if_neg fun x=>h2 x.1]
theorem c2z(N:Nat): ∀ x:Tm×Bool×Unit,((tW x.1&&ZU x.1)&&decide (ZM x.1<N))=true->Ze (MF N) 0 (Za Af (Zi (VE x.2.1 x.1))) Lj [] (Z0 c6l (encL x)):=by
 rintro⟨⟨n,ks⟩,b,⟨⟩⟩ h
 have h':=h
 simp only[Bool.and_eq_true,decide_eq_true_eq]at h'
 have hl:(ZX (.mk n ks)).length<=1153433592:=Tf h'.1.1 h'.1.2
 have el:encL ((Tm.mk n ks,b,()):Tm×Bool×Unit)=V4 n ks++[.bool b]:=by rw[ZH];rfl
 rw[el]
 show Ze (MF N) 0 (Za Af (Zi (VE b (.mk n ks)))) _ _ _
 refine d3l N n ks b (XR (fun hb=>⟨Zf (.mk n ks,()) (ZH n ks) h,Zd (.mk n ks,()) (ZH n ks) ⟨ZE (by show 1+(ZX (.mk n ks)).length<=_;omega),ZE (by rw[List.length_append];show 1+(ZX (.mk n ks)).length+1<=_;omega),?_⟩⟩) fun hb=>⟨Zf (.mk n ks,()) (ZH n ks) h,Zd (.mk n ks,()) (ZH n ks) ?_⟩)
 ·exact c3q (by rw[hb];rfl)
 ·exact c3q (by rw[hb];rfl)
theorem b3e(N:Nat): ∀ x:Tm×Unit,((tW x.1&&ZU x.1)&&decide (ZM x.1<N+1))=true->Ze (AQ N) 0 (Za GR (Zi (Zq x.1))) Sb [] (Z0 b8q (encL x)):=by
 rintro⟨⟨n,ks⟩,⟨⟩⟩ h
 simp only[Bool.and_eq_true,decide_eq_true_eq]at h
 obtain⟨⟨hw,hva⟩,hd⟩:=h
 have hw:tW (.mk n ks)=true:=hw
 have hva:ZU (.mk n ks)=true:=hva
 have hd:ZM (.mk n ks)<N+1:=hd
 rw[ZM]at hd
 have hv:=Qd hva
 have hwk:Us ks<=1048576:=by have h1:K7 (.mk n ks)<=1048576:=of_decide_eq_true hw;rw[K7]at h1;omega
 have hp:TxP N ks:=⟨hwk,hv.2,by omega⟩
 have hln:=(EQ hw).name
 have hkb:YI n ks.length=true:=by
  have:=hv.1
  unfold Wx at this
  simp only[Bool.and_eq_true]at this
  exact this.2
 have fin : ∀ s,s=Ql n (YC ks)->Zi (Zq (.mk n ks)) (.str s):=fun s hs=>Zo (x:=(⟨s⟩:Str)) (by rw[hs,Zq,ZX])
 rw[<- ZH]
 show Ze (AQ N) 0 (Za GR (Zi (Zq (.mk n ks)))) _ _ _
 refine d0m N n ks ⟨Zf (.mk n ks,()) (ZH n ks) hw,Zd (.mk n ks,()) (ZH n ks) ?_⟩
 generalize Zi (Zq (.mk n ks))=G at fin ⊢
 cases ho:Jh n ks.length with
 | some r=>
  obtain⟨hm,hk⟩:=LW ho
  have hr:=(Bu ho).2
  have hne:(r.s==[])=false:=by rw[Gw];exact decide_eq_false (d2k (Bu ho).1)
  have hnt:(!(r.s==[]))=true:=by rw[hne];rfl
  rw[show Hd ((Tm.mk n ks,()):Tm×Unit).1=⟨⟨r.s⟩,r.l,r.u⟩from CX ho]
  cases hu:r.u with
  | false=>
   rw[hu]at hk
   match ks,hk with
   | [a,b],_=>
    have ha:=hp.kid (show a∈[a,b] by simp)
    have hb:=hp.kid (show b∈[a,b] by simp)
    have la:=hp.len (show a∈[a,b] by simp)
    have lb:=hp.len (show b∈[a,b] by simp)
    have hV0 : ∀ f,(VE f a).s.length<=1153433594:=fun f=>by have:=UH f (ZX a);show(VZ f (ZX a)).length<=_;omega
    have hV1 : ∀ f,(VE f b).s.length<=1153433594:=fun f=>by have:=UH f (ZX b);show(VZ f (ZX b)).length<=_;omega
    have enod : ∀ f:Bool,f=(decide (YV a<r.l)||(decide (YV a=3)&&decide (r.l=3)))->(VE f a).s++[32]++r.s++[32]++(VE (decide (YV b<=r.l)) b).s=Ql n (YC [a,b]):=fun f hf=>by
     simp only[YC]
     rw[a6j ho,hf]
     rfl
    refine Yv hnt (YA (by simp) (Yv hnt ⟨rfl,a,rfl,Xx a,rfl,b,rfl,Xx b,Bh ha.1 (Yg (fun h1=> ?_) fun h1=>Bh ha.1 (ZL (fun h2=> ?_) fun h2=> ?_))⟩))
    ·have h1:YV a<r.l:=h1
     refine U8 ha ⟨ZF (hV0 _) (show _<=8 by decide) (by omega),ZF (ZB (hV0 _) (show _<=8 by decide)) hr (by omega),ZF (ZB (ZB (hV0 _) (show _<=8 by decide)) hr) (show _<=8 by decide) (by omega),Bh hb.1 (U8 hb ⟨ZF (ZB (ZB (ZB (hV0 _) (show _<=8 by decide)) hr) (show _<=8 by decide)) (hV1 _) (by omega),fin _ (enod _ ?_)⟩)⟩
     rw[decide_eq_true h1];rfl
    ·have h1 : ¬ YV a<r.l:=h1
     refine U8 ha ⟨ZF (hV0 _) (show _<=8 by decide) (by omega),ZF (ZB (hV0 _) (show _<=8 by decide)) hr (by omega),ZF (ZB (ZB (hV0 _) (show _<=8 by decide)) hr) (show _<=8 by decide) (by omega),Bh hb.1 (U8 hb ⟨ZF (ZB (ZB (ZB (hV0 _) (show _<=8 by decide)) hr) (show _<=8 by decide)) (hV1 _) (by omega),fin _ (enod _ ?_)⟩)⟩
     rw[decide_eq_false h1,h2];simp[beq_iff_eq];rfl
    ·have h1 : ¬ YV a<r.l:=h1
     refine U8 ha ⟨ZF (hV0 _) (show _<=8 by decide) (by omega),ZF (ZB (hV0 _) (show _<=8 by decide)) hr (by omega),ZF (ZB (ZB (hV0 _) (show _<=8 by decide)) hr) (show _<=8 by decide) (by omega),Bh hb.1 (U8 hb ⟨ZF (ZB (ZB (ZB (hV0 _) (show _<=8 by decide)) hr) (show _<=8 by decide)) (hV1 _) (by omega),fin _ (enod _ ?_)⟩)⟩
     rw[decide_eq_false h1,decide_eq_false h2];rfl
  | true=>
   rw[hu]at hk
   match ks,hk with
   | [a],_=>
    have ha:=hp.kid (show a∈[a] by simp)
    have la:=hp.len (show a∈[a] by simp)
    have hV0 : ∀ f,(VE f a).s.length<=1153433594:=fun f=>by have:=UH f (ZX a);show(VZ f (ZX a)).length<=_;omega
    have enod : ∀ f:Bool,f=(decide (YV a<6)||(decide (r.s=[45])&&CP a))->r.s++(VE f a).s=Ql n (YC [a]):=fun f hf=>by
     simp only[YC]
     rw[c1m ho,hf]
     rfl
    refine Yv hnt (Yv rfl ⟨rfl,a,rfl,Xx a,Bh ha.1 ?_⟩)
    rw[e0f,d8z,d9b]
    have nn : ∀ {q:Bool},CP a=q->CP a=q:=fun h=>h
    refine Yg (fun h6=> ?_) fun h6=>ZL (fun h7=>ZL (fun h2=>ZL (fun h3=> ?_) fun h3=> ?_) fun h2=> ?_) fun h7=> ?_
    ·refine U8 ha ⟨ZF hr (hV0 _) (by omega),fin _ (enod _ ?_)⟩
     rw[decide_eq_true h6];rfl
    ·refine U8 ha ⟨ZF hr (hV0 _) (by omega),fin _ (enod _ ?_)⟩
     have h7:r.s=[45]:=h7
     rw[decide_eq_false h6,decide_eq_true h7,Bool.false_or,Bool.true_and]
     unfold CP
     rw[decide_eq_true h2,decide_eq_true (show a.nd.name.s=Wo from h3)];rfl
    ·refine U8 ha ⟨ZF hr (hV0 _) (by omega),fin _ (enod _ ?_)⟩
     have h7:r.s=[45]:=h7
     rw[decide_eq_false h6,decide_eq_true h7,Bool.false_or,Bool.true_and]
     unfold CP
     rw[decide_eq_true h2,decide_eq_false (show ¬ a.nd.name.s=Wo from h3)];rfl
    ·refine U8 ha ⟨ZF hr (hV0 _) (by omega),fin _ (enod _ ?_)⟩
     have h7:r.s=[45]:=h7
     rw[decide_eq_false h6,decide_eq_true h7,Bool.false_or,Bool.true_and]
     unfold CP
     rw[decide_eq_false h2];rfl
    ·refine U8 ha ⟨ZF hr (hV0 _) (by omega),fin _ (enod _ ?_)⟩
     have h7 : ¬ r.s=[45]:=h7
     rw[decide_eq_false h6,decide_eq_false h7];rfl
 | none=>
  rw[show Hd ((Tm.mk n ks,()):Tm×Unit).1=⟨⟨[]⟩,0,false⟩from CE ho]
  have hn:Ql n (YC ks)=_:=P5 (by rw[WE,List.length_map];exact ho)
  have et:(YC ks).map (·.2.2)=ks.map ZX:=by rw[WE,List.map_map];rfl
  rw[et]at hn
  rw[hn]at fin
  refine YA (by decide) (YA (by decide) (ZL (fun h=> ?_) fun h5=>ZL (fun h=> ?_) fun h2=>ZL (fun h=> ?_) fun h6=>ZL (fun h=> ?_) fun h7=>ZL (fun h=> ?_) fun h8=>ZL (fun h=> ?_) fun h9=>ZL (fun h=> ?_) fun h4=>ZL (fun h=> ?_) fun h3=> ?_))
  ·-- let
   have q:ZN n.name.s=true∧ks.length=2:=by
    have:=hkb
    unfold YI at this
    simp[h]at this
    exact⟨this.1.1.1.2,this.1.2⟩
   obtain⟨a,b,rfl⟩:=A7 q.2
   have ha:=hp.kid (show a∈[a,b] by simp)
   have hb:=hp.kid (show b∈[a,b] by simp)
   have la:(Zq a).s.length<=_:=hp.len (show a∈[a,b] by simp)
   have lb:(Zq b).s.length<=_:=hp.len (show b∈[a,b] by simp)
   refine⟨ZF (show _<=8 by decide) hln (by omega),ZF (ZB (show _<=8 by decide) hln) (show _<=8 by decide) (by omega),rfl,a,rfl,Xx a,M0 ha ⟨ZF (ZB (ZB (show _<=8 by decide) hln) (show _<=8 by decide)) la (by omega),ZF (ZB (ZB (ZB (show _<=8 by decide) hln) (show _<=8 by decide)) la) (show _<=8 by decide) (by omega),rfl,b,rfl,Xx b,M0 hb ⟨ZF (ZB (ZB (ZB (ZB (show _<=8 by decide) hln) (show _<=8 by decide)) la) (show _<=8 by decide)) lb (by omega),fin _ ?_⟩⟩⟩
   simp[h,YC,Zq]
  ·-- literals
   have q:Uv n=true:=by
    have:=hkb
    unfold YI at this
    simp[h]at this
    exact this.1.1.2
   have hq:n.name.s=Wo->n.num.natAbs<9223372036854775808:=fun e=>by
    unfold Uv at q
    rw[e,if_neg (by decide)]at q
    simp at q
    omega
   have el:Ql n (YC ks)=Cz n:=by rw[hn];simp[h]
   rw[hn]at el
   rw[el]at fin
   refine ZL (fun h3=>Tu (hq h3) (fin _ ?_)) fun h3=>ZL (fun h4=>fin _ ?_) fun h4=>fin _ ?_
   ·unfold Cz;rw[if_pos (show n.name.s=Wo from h3)];rfl
   ·unfold Cz;rw[if_neg (show ¬ n.name.s=Wo from h3),if_pos h4]
   ·unfold Cz;rw[if_neg (show ¬ n.name.s=Wo from h3),if_neg h4]
  ·-- call
   refine⟨Zf (.mk n ks,()) (ZH n ks) ?_,Zd (.mk n ks,()) (ZH n ks) (fin _ (by simp[h,Qf,Tm.nd,Tm.ks]))⟩
   show(tW (.mk n ks)&&ZU (.mk n ks)&&decide (n.kind=6)&&decide (ZW ks<N))=true
   rw[hw,hva,decide_eq_true h,decide_eq_true hp.d];rfl
  ·-- pack
   have hc:=hp.com
   have e3:=VH ks
   rw[<- e3]at hc
   refine AY hp ⟨ZF (show _<=8 by decide) hc (by omega),ZF (ZB (show _<=8 by decide) hc) (show _<=8 by decide) (by omega),fin _ ?_⟩
   simp[h,e3]
  ·-- fold
   have q:JV n.name.s=true∧ks.length=2:=by
    have:=hkb
    unfold YI at this
    simp[h]at this
    exact⟨this.1.1.1.2,this.1.2⟩
   have hc:=hp.com
   have e3:=VH ks
   rw[<- e3]at hc
   have hl:=(Vz q.1).2.2
   obtain⟨a,b,rfl⟩:=A7 q.2
   refine⟨ZF (show _<=8 by decide) hl (by omega),ZF (ZB (show _<=8 by decide) hl) (show _<=8 by decide) (by omega),AY hp ⟨ZF (ZB (ZB (show _<=8 by decide) hl) (show _<=8 by decide)) hc (by omega),ZF (ZB (ZB (ZB (show _<=8 by decide) hl) (show _<=8 by decide)) hc) (show _<=8 by decide) (by omega),fin _ ?_⟩⟩
   rw[e3]
   simp[h,Nw]
  ·-- scan
   have q:JV n.name.s=true∧ks.length=1:=by
    have:=hkb
    unfold YI at this
    simp[h]at this
    exact⟨this.1.1.1.2,this.1.2⟩
   have hc:=hp.com
   have e3:=VH ks
   rw[<- e3]at hc
   have hl:=(Vz q.1).2.2
   obtain⟨a,rfl⟩:=List.length_eq_one_iff.1 q.2
   refine⟨ZF (show _<=8 by decide) hl (by omega),ZF (ZB (show _<=8 by decide) hl) (show _<=8 by decide) (by omega),AY hp ⟨ZF (ZB (ZB (show _<=8 by decide) hl) (show _<=8 by decide)) hc (by omega),ZF (ZB (ZB (ZB (show _<=8 by decide) hl) (show _<=8 by decide)) hc) (show _<=8 by decide) (by omega),fin _ ?_⟩⟩
   rw[e3]
   simp[h,Nw]
  ·-- sizes
   have q:n.sizes.length=1∧n.sizes.all Zp=true:=by
    have:=hkb
    unfold YI at this
    simp[h]at this
    exact⟨this.1.1.2,by rw[List.all_eq_true];exact this.1.2⟩
   obtain⟨l,hs⟩:=List.length_eq_one_iff.1 q.1
   have hvl:Zp l=true:=by
    have:=q.2
    rw[hs,List.all_eq_true]at this
    exact this l (by simp)
   have hpl:=Vr l
   refine⟨by rw[hs];rfl,l,by rw[hs];rfl,Zf (l,()) rfl (JA hvl),Zd (l,()) rfl ⟨ZF (show _<=8 by decide) (show _<=1000 from hpl) (by omega),ZF (ZB (show _<=8 by decide) (show _<=1000 from hpl)) (show _<=8 by decide) (by omega),fin _ ?_⟩⟩
   simp[h,hs]
  ·-- arrays
   have q:X8 (Ux n)=true:=by
    have:=hkb
    unfold YI at this
    simp[h]at this
    exact this.2
   refine⟨Zf (Ux n,()) rfl ?_,Zd (Ux n,()) rfl (fin _ ?_)⟩
   ·show(WQ (Ux n)&&X8 (Ux n))=true
    rw[MH hw,q];rfl
   ·simp[h,Q9]
  ·-- variables
   have h1:n.kind=1:=by
    refine Classical.byContradiction fun h1=> ?_
    rw[kB0 h1 h2 h3 h4 h5 h6 h7 h8 h9]at hkb
    cases hkb
   exact fin _ (by simp[h1])
theorem Ej(l:List Str)(s:Str):(Ug l s).length<=l.length+1:=by
 induction l with
 | nil=>simp[Ug]
 | cons a r ih=>
  rw[Ug]
  split
  ·rw[List.length_cons,List.length_cons];omega
  ·split <;> simp
theorem c8j(l:List Str)(s:Str):Ug l s≠[]:=by
 cases l with
 | nil=>simp[Ug]
 | cons a r=>
  rw[Ug]
  split
  ·simp
  ·split <;> simp
theorem b7w{l:List Str}{s x:Str}:x∈Ug l s ↔ x∈l∨x=s:=by
 induction l with
 | nil=>simp[Ug]
 | cons a r ih=>
  rw[Ug]
  split
  ·rw[List.mem_cons,ih,List.mem_cons,or_assoc]
  ·split
   ·rename_i h
    subst h
    simp only[List.mem_cons]
    exact⟨fun h=>.inl h,fun h=>h.elim id .inl⟩
   ·simp only[List.mem_cons]
    constructor
    ·rintro(h|h|h)
     ·exact .inr h
     ·exact .inl (.inl h)
     ·exact .inl (.inr h)
    ·rintro((h|h)|h)
     ·exact .inr (.inl h)
     ·exact .inr (.inr h)
     ·exact .inl h
theorem Pb: ∀ (l m:List Str) (x:Str),x∈l.foldl Ug m ↔ x∈m∨x∈l
 | [],m,x=>by simp
 | s::l,m,x=>by
  rw[List.foldl_cons,Pb l,b7w,List.mem_cons,or_assoc]
theorem CK(t:Tm)(x:Str):x∈KY t ↔ x∈YT t:=by
 have h:=Pb (YT t) [] x
 simp only[List.not_mem_nil,false_or]at h
 exact h
theorem b1m(t:Tm)(p:Str->Bool):(KY t).all p=(V6 t).all p:=by
 rw[JH,Bool.eq_iff_iff,List.all_eq_true,List.all_eq_true]
 exact⟨fun h s hs=>h s ((CK t s).2 hs),fun h s hs=>h s ((CK t s).1 hs)⟩
theorem a6b(l:List Str)(s:List UInt8)(i:Nat)(h:i<=l.length):(PV.sl 1 false (List.drop 0 (List.take (0+List.length (List.drop 0 (List.take (Int.toNat (i:Int)) (List.map (enc:Str->PV) l)))+List.length (List.drop 0 (List.take 1 [PV.str s]))+List.length (List.drop (Int.toNat (i:Int)) (List.take (List.length (List.map (enc:Str->PV) l)) (List.map (enc:Str->PV) l)))) (([]:List PV)++List.drop 0 (List.take (Int.toNat (i:Int)) (List.map (enc:Str->PV) l))++List.drop 0 (List.take 1 [PV.str s])++List.drop (Int.toNat (i:Int)) (List.take (List.length (List.map (enc:Str->PV) l)) (List.map (enc:Str->PV) l))))))=enc (l.take i++(⟨s⟩:Str)::l.drop i):=by
 have e:(([]:List PV)++List.drop 0 (List.take (Int.toNat (i:Int)) (List.map (enc:Str->PV) l))++List.drop 0 (List.take 1 [PV.str s])++List.drop (Int.toNat (i:Int)) (List.take (List.length (List.map (enc:Str->PV) l)) (List.map (enc:Str->PV) l)))=(l.take i++(⟨s⟩:Str)::l.drop i).map enc:=by
  rw[Int.toNat_natCast,List.nil_append,List.drop_zero,List.take_length,List.map_append,List.map_cons,List.map_take,List.map_drop,List.append_assoc]
  rfl
 rw[e,List.drop_zero,List.take_of_length_le]
 ·rfl
 ·rw[<- e];simp only[List.length_append,List.length_nil];omega
theorem b1l(l:List Str)(s:List UInt8)(hl:l.length<=1048576): ∀ (d i:Nat),d+i=l.length->Ug l ⟨s⟩=l.take i++Ug (l.drop i) ⟨s⟩ ->
  At Hu 0 (Za Kh (Zi (Ug l ⟨s⟩))) Kw 0 45 [(0,.pv (enc l)),(1,.pv (.str s)),(5,.pv (.int .i64 i))] []:=by
 intro d
 induction d with
 | zero=>
  intro i hi hR
  have hn : ¬ i<l.length:=by omega
  refine a7i l s i (YA (QF hn) (YA (QF hn) ⟨by first|(simp[Enc.sz];done)|(simp[Enc.sz];omega),by first|(simp[Enc.sz];done)|(simp[Enc.sz];omega),by first|(simp[Enc.sz];done)|(simp[Enc.sz];omega),by first|(simp[Enc.sz];done)|(simp[Enc.sz];omega),by first|(simp[Enc.sz];done)|(simp[Enc.sz];omega),by first|(simp[Enc.sz];done)|(simp[Enc.sz];omega),by first|(simp[Enc.sz];done)|(simp[Enc.sz];omega),by first|(simp[Enc.sz];done)|(simp[Enc.sz];omega),?_⟩))
  rw[a6b l s i (by omega)]
  refine Zo ?_
  rw[hR,List.drop_eq_nil_of_le (show l.length<=i by omega)]
  rfl
 | succ d ih=>
  intro i hi hR
  have hlt:i<l.length:=by omega
  have hR2:=hR
  rw[List.drop_eq_getElem_cons hlt,Ug]at hR2
  have hil:i<=l.length:=by omega
  refine a7i l s i (Yv (QR hlt) ⟨ZT hlt rfl,Yk hlt (Gd (fun hb=> ?_) fun hb=>Yv (QR hlt) ⟨ZT hlt rfl,Yk hlt (ZL (fun he=> ?_) fun he=>⟨by first|(simp[Enc.sz];done)|(simp[Enc.sz];omega),by first|(simp[Enc.sz];done)|(simp[Enc.sz];omega),by first|(simp[Enc.sz];done)|(simp[Enc.sz];omega),by first|(simp[Enc.sz];done)|(simp[Enc.sz];omega),by first|(simp[Enc.sz];done)|(simp[Enc.sz];omega),by first|(simp[Enc.sz];done)|(simp[Enc.sz];omega),by first|(simp[Enc.sz];done)|(simp[Enc.sz];omega),by first|(simp[Enc.sz];done)|(simp[Enc.sz];omega),?_⟩)⟩)⟩)
  ·have hb:Op.bytesLess l[i].s s=true:=hb
   rw[X6]at hb
   rw[if_pos (of_decide_eq_true hb)]at hR2
   rw[next (by omega)]
   refine ih (i+1) (by omega) ?_
   rw[hR2,UZ hlt,List.append_assoc];rfl
  ·have hb : ¬ Op.bytesLess l[i].s s=true:=hb
   rw[X6]at hb
   have he:l[i].s=s:=he
   have he2:l[i]=⟨s⟩:=by rw[<- he]
   rw[if_neg (fun h=>hb (decide_eq_true h)),if_pos he2]at hR2
   refine Zo ?_
   rw[hR2,<- List.drop_eq_getElem_cons hlt,List.take_append_drop]
  ·have hb : ¬ Op.bytesLess l[i].s s=true:=hb
   rw[X6]at hb
   have he:l[i].s≠s:=he
   have he2 : ¬ l[i]=⟨s⟩:=fun h=>he (by rw[h])
   rw[if_neg (fun h=>hb (decide_eq_true h)),if_neg he2]at hR2
   rw[a6b l s i hil]
   refine Zo ?_
   rw[hR2,List.drop_eq_getElem_cons hlt]
theorem b6i: ∀ x:List Str×Str×Unit,decide (x.1.length<=1048576)=true->Ze Hu 0 (Za Kh (Zi (Ug x.1 x.2.1))) Kw [] (Z0 d1p (encL x)):=by
 rintro⟨l,⟨s⟩,⟨⟩⟩ h
 exact d7a l s (b1l l s (of_decide_eq_true h) l.length 0 (by omega) (by simp))
def Ot:List Str->PV
 | []=>.sl 0 true []
 | a::r=>enc (a::r)
theorem d6k{o:List Str}(h:o≠[]):Ot o=enc o:=by cases o with
 | nil=>exact absurd rfl h
 | cons a r=>rfl
theorem b3s(o:List Str):Zi o (Ot o):=by cases o with
 | nil=>exact⟨rfl,rfl⟩
 | cons a r=>exact Zo rfl
theorem zsv(c:Coef):(decide (0+List.length [Sh.str]<=List.length (List.drop 0 (PV.cells (enc c))))&&Yx (List.drop 0 (PV.cells (enc c))) 0 [Sh.str])=true:=rfl
theorem d3a{G:PV->Prop}(n:Nd)(ks:List Tm)(y:List Tm)(o:List Str)(i:Nat)(h:if decide ((i:Int)<(y.length:Int))=true then At Yc 0 (Za ZV G) ZZ 1 56 [(3,.pv (Ot o)),(4,.pv (enc y)),(5,.pv (.int .i64 i)),(6,.pv (.int .i64 ((0:Nat):Int)))] []else G (Ot o)):
  At Yc 0 (Za ZV G) ZZ 0 56 [(3,.pv (Ot o)),(4,.pv (enc y)),(5,.pv (.int .i64 i))] []:=by
 cases o with
 | nil=>exact b0i n ks y i (by rw[List.length_map];exact h)
 | cons a r=>exact b2d n ks y (a::r) i (by rw[List.length_map];exact h)
theorem d2f{G:PV->Prop}(n:Nd)(ks:List Tm)(y:List Tm)(o:List Str)(i k:Nat)(hlt:i<y.length)(h:if decide ((k:Int)<(y[i].nd.sizes.length:Int))=true then At Yc 0 (Za ZV G) ZZ 2 56 [(3,.pv (Ot o)),(4,.pv (enc y)),(5,.pv (.int .i64 i)),(6,.pv (.int .i64 k)),(7,.pv (.int .i64 ((0:Nat):Int)))] []else At Yc 0 (Za ZV G) ZZ 0 56 [(3,.pv (Ot o)),(4,.pv (enc y)),(5,.pv (.int .i64 (IntKind.i64.wrap ((i:Int)+1))))] []):
  At Yc 0 (Za ZV G) ZZ 1 56 [(3,.pv (Ot o)),(4,.pv (enc y)),(5,.pv (.int .i64 i)),(6,.pv (.int .i64 k))] []:=by
 cases o with
 | nil=>
  refine b3f n ks y i k ⟨ZT hlt rfl,Yk hlt ⟨zs7 _,?_⟩⟩
  rw[zv7,List.length_map]
  exact h
 | cons a r=>
  refine b2u n ks y (a::r) i k ⟨ZT hlt rfl,Yk hlt ⟨zs7 _,?_⟩⟩
  rw[zv7,List.length_map]
  exact h
theorem d7z{G:PV->Prop}(n:Nd)(ks:List Tm)(y:List Tm)(o:List Str)(i k j:Nat)(hlt:i<y.length)(hk:k<y[i].nd.sizes.length)(hj : ¬ j<y[i].nd.sizes[k].t.length)(h:At Yc 0 (Za ZV G) ZZ 1 56 [(3,.pv (Ot o)),(4,.pv (enc y)),(5,.pv (.int .i64 i)),(6,.pv (.int .i64 (IntKind.i64.wrap ((k:Int)+1))))] []):
  At Yc 0 (Za ZV G) ZZ 2 56 [(3,.pv (Ot o)),(4,.pv (enc y)),(5,.pv (.int .i64 i)),(6,.pv (.int .i64 k)),(7,.pv (.int .i64 j))] []:=by
 have c1:(decide (0<=(k:Int))&&decide (Int.toNat (k:Int)<List.length (List.map (enc:Lin->PV) y[i].nd.sizes))&&2==2)=true:=by simp[hk]
 cases o with
 | nil=>
  refine Pq n ks y i k j ⟨ZT hlt rfl,Yk hlt ⟨zs7 _,?_⟩⟩
  rw[zv7,WA enc hk]
  refine⟨c1,a4r _,?_⟩
  rw[a5d,List.length_map]
  exact YA (YR hj) h
 | cons a r=>
  refine P9 n ks y (a::r) i k j ⟨ZT hlt rfl,Yk hlt ⟨zs7 _,?_⟩⟩
  rw[zv7,WA enc hk]
  refine⟨c1,a4r _,?_⟩
  rw[a5d,List.length_map]
  exact YA (YR hj) h
theorem d8c{G:PV->Prop}(n:Nd)(ks:List Tm)(y:List Tm)(o:List Str)(i k j:Nat)(hlt:i<y.length)(hk:k<y[i].nd.sizes.length)(hj:j<y[i].nd.sizes[k].t.length)(ho:o.length<=1048576)(h:At Yc 0 (Za ZV G) ZZ 2 56 [(3,.pv (Ot (Ug o y[i].nd.sizes[k].t[j].v))),(4,.pv (enc y)),(5,.pv (.int .i64 i)),(6,.pv (.int .i64 k)),(7,.pv (.int .i64 (IntKind.i64.wrap ((j:Int)+1))))] []):
  At Yc 0 (Za ZV G) ZZ 2 56 [(3,.pv (Ot o)),(4,.pv (enc y)),(5,.pv (.int .i64 i)),(6,.pv (.int .i64 k)),(7,.pv (.int .i64 j))] []:=by
 have c1:(decide (0<=(k:Int))&&decide (Int.toNat (k:Int)<List.length (List.map (enc:Lin->PV) y[i].nd.sizes))&&2==2)=true:=by simp[hk]
 have c2:(decide (0<=(j:Int))&&decide (Int.toNat (j:Int)<List.length (List.map (enc:Coef->PV) y[i].nd.sizes[k].t))&&2==2)=true:=by simp[hj]
 rw[d6k (c8j _ _)]at h
 cases o with
 | nil=>
  refine Pq n ks y i k j ⟨ZT hlt rfl,Yk hlt ⟨zs7 _,?_⟩⟩
  rw[zv7,WA enc hk]
  refine⟨c1,a4r _,?_⟩
  rw[a5d,List.length_map]
  refine Yv (YO hj) ⟨ZT hlt rfl,Yk hlt ⟨zs7 _,?_⟩⟩
  rw[zv7,WA enc hk]
  refine⟨c1,a4r _,?_⟩
  rw[a5d,WA enc hj]
  exact⟨c2,zsv _,b5h ([],y[i].nd.sizes[k].t[j].v,()) rfl h⟩
 | cons a r=>
  refine P9 n ks y (a::r) i k j ⟨ZT hlt rfl,Yk hlt ⟨zs7 _,?_⟩⟩
  rw[zv7,WA enc hk]
  refine⟨c1,a4r _,?_⟩
  rw[a5d,List.length_map]
  refine Yv (YO hj) ⟨ZT hlt rfl,Yk hlt ⟨zs7 _,?_⟩⟩
  rw[zv7,WA enc hk]
  refine⟨c1,a4r _,?_⟩
  rw[a5d,WA enc hj]
  exact⟨c2,zsv _,Zf (a::r,y[i].nd.sizes[k].t[j].v,()) rfl (decide_eq_true ho),Zd (a::r,y[i].nd.sizes[k].t[j].v,()) rfl h⟩
theorem e1t{G:PV->Prop}(n:Nd)(ks:List Tm)(y:List Tm)(i k E:Nat)(hlt:i<y.length)(hk:k<y[i].nd.sizes.length)(hkl:y[i].nd.sizes[k].t.length<=1048576)(F:List Str)(cont:F.length+E<=1048576->At Yc 0 (Za ZV G) ZZ 1 56 [(3,.pv (Ot F)),(4,.pv (enc y)),(5,.pv (.int .i64 i)),(6,.pv (.int .i64 (IntKind.i64.wrap ((k:Int)+1))))] []): ∀ (d j:Nat) (o:List Str),d+j=y[i].nd.sizes[k].t.length->o.length+d+E<=1048576->F=((y[i].nd.sizes[k].t.drop j).map (·.v)).foldl Ug o ->
  At Yc 0 (Za ZV G) ZZ 2 56 [(3,.pv (Ot o)),(4,.pv (enc y)),(5,.pv (.int .i64 i)),(6,.pv (.int .i64 k)),(7,.pv (.int .i64 j))] []:=by
 intro d
 induction d with
 | zero=>
  intro j o hj ho hF
  rw[List.drop_eq_nil_of_le (by omega)]at hF
  have hF:F=o:=hF
  subst hF
  exact d7z n ks y _ i k j hlt hk (by omega) (cont (by omega))
 | succ d ih=>
  intro j o hj ho hF
  have hjl:j<y[i].nd.sizes[k].t.length:=by omega
  rw[List.drop_eq_getElem_cons hjl,List.map_cons,List.foldl_cons]at hF
  refine d8c n ks y o i k j hlt hk hjl (by omega) ?_
  rw[next (by omega)]
  exact ih (j+1) _ (by omega) (by have:=Ej o y[i].nd.sizes[k].t[j].v;omega) hF
theorem e2h{G:PV->Prop}(n:Nd)(ks:List Tm)(y:List Tm)(i E:Nat)(hlt:i<y.length)(hyl:y[i].nd.sizes.length<=1048576)(hkl : ∀ l∈y[i].nd.sizes,l.t.length<=1048576)(F:List Str)(cont:F.length+E<=1048576->At Yc 0 (Za ZV G) ZZ 0 56 [(3,.pv (Ot F)),(4,.pv (enc y)),(5,.pv (.int .i64 (IntKind.i64.wrap ((i:Int)+1))))] []): ∀ (d k:Nat) (o:List Str),d+k=y[i].nd.sizes.length->o.length+((y[i].nd.sizes.drop k).flatMap fun l=>l.t.map (·.v)).length+E<=1048576->F=((y[i].nd.sizes.drop k).flatMap fun l=>l.t.map (·.v)).foldl Ug o ->
  At Yc 0 (Za ZV G) ZZ 1 56 [(3,.pv (Ot o)),(4,.pv (enc y)),(5,.pv (.int .i64 i)),(6,.pv (.int .i64 k))] []:=by
 intro d
 induction d with
 | zero=>
  intro k o hj ho hF
  rw[List.drop_eq_nil_of_le (by omega)]at hF
  have hF:F=o:=hF
  subst hF
  exact d2f n ks y _ i k hlt (YA (YR (by omega)) (cont (by omega)))
 | succ d ih=>
  intro k o hj ho hF
  have hkl2:k<y[i].nd.sizes.length:=by omega
  have hkt:=hkl _ (List.getElem_mem hkl2)
  rw[List.drop_eq_getElem_cons hkl2,List.flatMap_cons,List.foldl_append]at hF
  rw[List.drop_eq_getElem_cons hkl2,List.flatMap_cons,List.length_append,List.length_map]at ho
  refine d2f n ks y o i k hlt (Yv (YO hkl2) ?_)
  refine e1t n ks y i k (((y[i].nd.sizes.drop (k+1)).flatMap fun l=>l.t.map (·.v)).length+E) hlt hkl2 hkt _ (fun hb=> ?_) y[i].nd.sizes[k].t.length 0 o (by omega) (by omega) rfl
  rw[next (by omega)]
  exact ih (k+1) _ (by omega) (by rw[List.drop_zero]at hb ⊢;omega) (by rw[List.drop_zero];exact hF)
theorem e1w(n:Nd)(ks:List Tm)(y:List Tm)(hw : ∀ x∈y,tW x=true)(hyl:y.length<=1048576)(F:List Str): ∀ (d i:Nat) (o:List Str),d+i=y.length->o.length+((y.drop i).flatMap Ut).length<=1048576->F=((y.drop i).flatMap Ut).foldl Ug o ->
  At Yc 0 (Za ZV (Zi F)) ZZ 0 56 [(3,.pv (Ot o)),(4,.pv (enc y)),(5,.pv (.int .i64 i))] []:=by
 intro d
 induction d with
 | zero=>
  intro i o hj ho hF
  rw[List.drop_eq_nil_of_le (by omega)]at hF
  have hF:F=o:=hF
  subst hF
  exact d3a n ks y _ i (YA (YR (by omega)) (b3s _))
 | succ d ih=>
  intro i o hj ho hF
  have hlt:i<y.length:=by omega
  have hwi:=hw _ (List.getElem_mem hlt)
  have hB:NdB y[i].nd 1048576:=by
   have h2:y[i] = .mk y[i].nd y[i].ks:=by cases y[i];rfl
   rw[h2]at hwi
   exact EQ hwi
  rw[List.drop_eq_getElem_cons hlt,List.flatMap_cons,List.foldl_append]at hF
  rw[List.drop_eq_getElem_cons hlt,List.flatMap_cons,List.length_append]at ho
  refine d3a n ks y o i (Yv (YO hlt) ?_)
  refine e2h n ks y i ((y.drop (i+1)).flatMap Ut).length hlt hB.sizes hB.lens _ (fun hb=> ?_) y[i].nd.sizes.length 0 o (by omega) (by rw[List.drop_zero];unfold Ut at ho ⊢;omega) rfl
  rw[next (by omega)]
  exact ih (i+1) _ (by omega) hb (by rw[List.drop_zero];exact hF)
theorem b0c: ∀ x:Tm×Unit,tW x.1=true->Ze Yc 0 (Za ZV (Zi (KY x.1))) ZZ [] (Z0 c4c (encL x)):=by
 rintro⟨⟨n,ks⟩,⟨⟩⟩ h
 have h:tW (.mk n ks)=true:=h
 rw[<- ZH]
 show Ze Yc 0 (Za ZV (Zi (KY (.mk n ks)))) _ _ _
 have h5:=Jr 1 (.mk n ks)
 have h6:K7 (.mk n ks)<=1048576:=of_decide_eq_true h
 have h7:=Du h
 have h8:=DF (.mk n ks)
 have h9:((Y6 (.mk n ks)).flatMap Ut).length<=K7 (.mk n ks):=h5
 refine c9c n ks ⟨Zf (.mk n ks,()) (ZH n ks) h,Zd (.mk n ks,()) (ZH n ks) ?_⟩
 exact e1w n ks (Y6 (.mk n ks)) (fun x hx=>a6s h hx) (by omega) _ (Y6 (.mk n ks)).length 0 [] (by omega) (by rw[List.drop_zero,List.length_nil];omega) (by rw[List.drop_zero];rfl)
theorem FL(n:Nd)(ks:List Tm)(l:List Str)(hl:l.length<=9223372036854775806)(hs : ∀ s∈l,s.s.length<=1048576)(R:Bool): ∀ (d i:Nat),d+i=l.length->R=(l.drop i).all (fun s=>ZN s.s) ->
  At Uu 0 (Za Vv (Zi R)) V8 0 22 [(3,.pv (enc l)),(4,.pv (.int .i64 i))] []:=by
 intro d
 induction d with
 | zero=>
  intro i hi hR
  rw[List.drop_eq_nil_of_le (by omega)]at hR
  exact Pd n ks l i (YA (QF (by omega)) (ZA hR.symm))
 | succ d ih=>
  intro i hi hR
  have hlt:i<l.length:=by omega
  rw[List.drop_eq_getElem_cons hlt,List.all_cons]at hR
  refine Pd n ks l i (Yv (QR hlt) ⟨ZT hlt rfl,Yk hlt (Pe (s:=l[i].s) (hs _ (List.getElem_mem hlt)) (VY (fun h=>ZA ?_) fun h=> ?_))⟩)
  ·have h:ZN l[i].s=false:=h
   rw[hR,h];rfl
  ·have h:ZN l[i].s=true:=h
   rw[next (by omega)]
   exact ih (i+1) (by omega) (by rw[hR,h];rfl)
theorem Pk: ∀ (l m:List Str),(l.foldl Ug m).length<=m.length+l.length
 | [],m=>by simp
 | s::l,m=>by
  have h:=Pk l (Ug m s)
  have h2:=Ej m s
  rw[List.foldl_cons,List.length_cons]
  omega
theorem a2v: ∀ x:Tm×Unit,tW x.1=true->Ze Uu 0 (Za Vv (Zi (Y3 x.1))) V8 [] (Z0 b1d (encL x)):=by
 rintro⟨⟨n,ks⟩,⟨⟩⟩ h
 have h:tW (.mk n ks)=true:=h
 rw[<- ZH]
 show Ze Uu 0 (Za Vv (Zi (Y3 (.mk n ks)))) _ _ _
 have e:Y3 (.mk n ks)=(Y4 (.mk n ks)&&(KY (.mk n ks)).all fun s=>ZN s.s):=by unfold Y3;rw[b1m]
 have hl:(KY (.mk n ks)).length<=1048576:=by
  have h5:=Jr 1 (.mk n ks)
  have h6:K7 (.mk n ks)<=1048576:=of_decide_eq_true h
  have h9:((Y6 (.mk n ks)).flatMap Ut).length<=K7 (.mk n ks):=h5
  have h4:=Pk ((Y6 (.mk n ks)).flatMap Ut) []
  unfold KY
  rw[List.length_nil]at h4
  omega
 refine b8g n ks ⟨Zf (.mk n ks,()) (ZH n ks) h,Zd (.mk n ks,()) (ZH n ks) (VY (fun hv=>ZA ?_) fun hv=>⟨Zf (.mk n ks,()) (ZH n ks) h,Zd (.mk n ks,()) (ZH n ks) ?_⟩)⟩
 ·have hv:Y4 (.mk n ks)=false:=hv
  rw[e,hv];rfl
 ·have hv:Y4 (.mk n ks)=true:=hv
  exact FL n ks (KY (.mk n ks)) (by omega) (fun s hs=>Jf h s ((CK _ _).1 hs)) _ (KY (.mk n ks)).length 0 (by omega) (by rw[e,hv,List.drop_zero,Bool.true_and])
theorem b1a: ∀ x:Tm×Unit,tW x.1=true->Ze Ah 0 (Za Dh (Zi (Wt x.1))) Rw [] (Z0 b4b (encL x)):=by
 rintro⟨⟨n,ks⟩,⟨⟩⟩ h
 have h:tW (.mk n ks)=true:=h
 rw[<- ZH]
 show Ze Ah 0 (Za Dh (Zi (Wt (.mk n ks)))) _ _ _
 refine d0k n ks ⟨Zf (.mk n ks,()) (ZH n ks) h,Zd (.mk n ks,()) (ZH n ks) (VY (fun hp=> ?_) fun hp=> ?_)⟩
 ·have hp:Y3 (.mk n ks)=false:=hp
  refine Zo (x:=((⟨[]⟩,1):Str×Int)) ?_
  unfold Wt
  rw[hp];rfl
 ·have hp:Y3 (.mk n ks)=true:=hp
  have hv:ZU (.mk n ks)=true:=Sd (by unfold Y3 at hp;rw[Bool.and_eq_true]at hp;exact hp.1)
  have e:Wt (.mk n ks)=Tk (Zq (.mk n ks)):=by unfold Wt;rw[hp];rfl
  rw[e]
  refine⟨Zf (.mk n ks,()) (ZH n ks) (by show(tW (.mk n ks)&&ZU (.mk n ks))=true;rw[h,hv];rfl),Zd (.mk n ks,()) (ZH n ks) (Yg (fun hl=> ?_) fun hl=> ?_)⟩
  ·refine Zo (x:=((⟨[]⟩,3):Str×Int)) ?_
   unfold Tk
   rw[if_pos hl]
  ·refine Zo (x:=((Zq (.mk n ks),0):Str×Int)) ?_
   unfold Tk
   rw[if_neg hl]
theorem b0u: ∀ x:Tm×Unit,tW x.1=true->Ze Ma 0 (Za TW (Zi true)) TR [] (Z0 c2c (encL x)):=by
 rintro⟨⟨n,ks⟩,⟨⟩⟩ h
 have h:tW (.mk n ks)=true:=h
 have ea:V4 n ks++[.int .i64 30]=encL ((.mk n ks,30,()):Tm×Int×Unit):=by rw[ZH];rfl
 rw[<- ZH]
 exact d1x n ks (Zd () rfl (YA (by simp) ⟨Zf (.mk n ks,30,()) ea h,Zd (.mk n ks,30,()) ea (VY (fun hf=>ZA rfl) fun hf=>⟨Zf (.mk n ks,()) (ZH n ks) h,Zd (.mk n ks,()) (ZH n ks) ⟨Zf (.mk n ks,()) (ZH n ks) h,Zd (.mk n ks,()) (ZH n ks) (ZL (fun _=>ZA (by simp)) fun hn=>absurd rfl hn)⟩⟩)⟩))
end Go.Pl
namespace Go.Pl
open Go.RowKit
open Enc (enc dec is)
open EncL (encL decL isL)
set_option maxRecDepth 100000
noncomputable def SC:IC:=Xu Proofs.Tryz.f71
def S9:List IRes:=[(.tmp 2)]
abbrev b4l:Nat:=22
def Mt(N:Nat):ZO:=YQ [(71,.pure (preT (fun x:Int×Unit=>(decide (-1000000000<=x.1)&&decide (x.1<=1000000000))&&decide (Gm x.1<N))) (Zb (fun x:Int×Unit=>Zn x.1)))]
theorem d1w{G:PV->Prop}(N:Nat)(n:Int)(h:if (decide (n<0))=true then(Go.Pl.preT (fun(x:Int×Unit)=>decide ((-1000000000:Int)<=x.1)&&decide (x.1<=1000000000)&&decide (Gm x.1<N)) [(.int .i64 (IntKind.wrap IntKind.i64 (-n)))])=true∧(∃ y0:Str,AV.pv (Zb (fun(x:Int×Unit)=>Zn x.1) [(.int .i64 (IntKind.wrap IntKind.i64 (-n)))])=AV.pv (enc y0)∧((decide (List.length [(45:UInt8)]+List.length (Str.s y0)<=1099511627776))=true∧(G ((.str ([(45:UInt8)]++Str.s y0))))))else(if (decide (n<10))=true then(decide (0<=n)&&decide (0<=IntKind.wrap IntKind.i64 (n+1))&&decide (Int.toNat n<=Int.toNat (IntKind.wrap IntKind.i64 (n+1)))&&decide (Int.toNat (IntKind.wrap IntKind.i64 (n+1))<=List.length [(48:UInt8),(49:UInt8),(50:UInt8),(51:UInt8),(52:UInt8),(53:UInt8),(54:UInt8),(55:UInt8),(56:UInt8),(57:UInt8)]))=true∧(G ((.str (List.drop (Int.toNat n) (List.take (Int.toNat (IntKind.wrap IntKind.i64 (n+1))) [(48:UInt8),(49:UInt8),(50:UInt8),(51:UInt8),(52:UInt8),(53:UInt8),(54:UInt8),(55:UInt8),(56:UInt8),(57:UInt8)])))))else((Go.Pl.preT (fun(x:Int×Unit)=>decide ((-1000000000:Int)<=x.1)&&decide (x.1<=1000000000)&&decide (Gm x.1<N)) [(.int .i64 (IntKind.wrap IntKind.i64 (Int.tdiv n 10)))])=true∧(∃ y1:Str,AV.pv (Zb (fun(x:Int×Unit)=>Zn x.1) [(.int .i64 (IntKind.wrap IntKind.i64 (Int.tdiv n 10)))])=AV.pv (enc y1)∧((Go.Pl.preT (fun(x:Int×Unit)=>decide ((-1000000000:Int)<=x.1)&&decide (x.1<=1000000000)&&decide (Gm x.1<N)) [(.int .i64 (Int.tmod n 10))])=true∧(∃ y2:Str,AV.pv (Zb (fun(x:Int×Unit)=>Zn x.1) [(.int .i64 (Int.tmod n 10))])=AV.pv (enc y2)∧((decide (List.length (Str.s y1)+List.length (Str.s y2)<=1099511627776))=true∧(G ((.str (Str.s y1++Str.s y2))))))))))):Ze (Mt N) 0 (Za S9 G) SC [] (Z0 22 [enc n]):=Ze.tp (.lit (.ask (.req (.abs (Str) (fun YY=>AV.pv (enc YY)) (.req (.nil)))) (.lit (.ask (.lit (.req (.nil))) (.lit (.req (.abs (Str) (fun YY=>AV.pv (enc YY)) (.lit (.req (.abs (Str) (fun YY=>AV.pv (enc YY)) (.req (.nil)))))))))))) h (by kernel_rfl)
noncomputable def Xg:IC:=Xu Proofs.Tryz.f40
def Xf:List IRes:=[(.tmp 2)]
abbrev b1j:Nat:=69
def XX:ZO:=YQ [(70,.pure (preT (fun x:Lin×Unit=>X3 x.1)) (Zb (fun x:Lin×Unit=>Zp x.1))),(71,.pure (preT (fun x:Int×Unit=>decide (-1000000000<=x.1)&&decide (x.1<=1000000000))) (Zb (fun x:Int×Unit=>Zn x.1)))]
theorem b5x{G:PV->Prop}(l:Lin)(h:(Go.Pl.preT (fun(x:Lin×Unit)=>X3 x.1) [(.agg [(.int .i64 l.k),(.sl 2 false (List.map enc l.t))])])=true∧(∃ y0:Bool,AV.pv (Zb (fun(x:Lin×Unit)=>Zp x.1) [(.agg [(.int .i64 l.k),(.sl 2 false (List.map enc l.t))])])=AV.pv (enc y0)∧(if (!y0)=true then G ((.str []))else(At XX 0 (Za Xf G) Xg 0 69 [(1,(.ptr 0 0)),(3,(.pv (.str []))),(4,(.pv (.int .i64 0)))] [(.obj (.box [(.pv (.int .i64 l.k)),(.pv (.sl 2 false (List.map enc l.t)))]))])))):Ze XX 0 (Za Xf G) Xg [] (Z0 69 [enc l]):=Ze.tp (.req (.abs (Bool) (fun YY=>AV.pv (enc YY)) (.ask (.nil) (.nil)))) h (by kernel_rfl)
theorem PS{G:PV->Prop}(l:Lin)(o:List UInt8)(i:Int)(h:if (decide (i<(↑(List.length (List.map enc l.t)):Int)))=true then(decide (0<=i)&&decide (Int.toNat i<List.length (List.map enc l.t))&&Enc.sz Coef==2)=true∧(∃ y0:Coef,AV.pv (PV.rptr (PV.cells (List.getD (List.map enc l.t) (Int.toNat i) default)))=AV.pv (PV.rptr (PV.cells ((enc) y0)))∧(if (decide (PV.asInt (List.getD (PV.cells (enc y0)) (0+1) default)<0))=true then(decide (List.length o+List.length [(45:UInt8)]<=1099511627776))=true∧(if (decide (IntKind.wrap IntKind.i64 (-PV.asInt (List.getD (PV.cells (enc y0)) (0+1) default))>1))=true then(Go.Pl.preT (fun(x:Int×Unit)=>decide ((-1000000000:Int)<=x.1)&&decide (x.1<=1000000000)) [(.int .i64 (IntKind.wrap IntKind.i64 (-PV.asInt (List.getD (PV.cells (enc y0)) (0+1) default))))])=true∧(∃ y1:Str,AV.pv (Zb (fun(x:Int×Unit)=>Zn x.1) [(.int .i64 (IntKind.wrap IntKind.i64 (-PV.asInt (List.getD (PV.cells (enc y0)) (0+1) default))))])=AV.pv (enc y1)∧((decide (List.length (o++[(45:UInt8)])+List.length (Str.s y1)<=1099511627776))=true∧((decide (List.length (o++[(45:UInt8)]++Str.s y1)+List.length (PV.asStr (List.getD (PV.cells (enc y0)) 0 default))<=1099511627776))=true∧(At XX 0 (Za Xf G) Xg 0 69 [(1,(.ptr 0 0)),(3,(.pv (.str (o++[(45:UInt8)]++Str.s y1++PV.asStr (List.getD (PV.cells (enc y0)) 0 default))))),(4,(.pv (.int .i64 (IntKind.wrap IntKind.i64 (i+1)))))] [(.obj (.box [(.pv (.int .i64 l.k)),(.pv (.sl 2 false (List.map enc l.t)))]))]))))else((decide (List.length (o++[(45:UInt8)])+List.length (PV.asStr (List.getD (PV.cells (enc y0)) 0 default))<=1099511627776))=true∧(At XX 0 (Za Xf G) Xg 0 69 [(1,(.ptr 0 0)),(3,(.pv (.str (o++[(45:UInt8)]++PV.asStr (List.getD (PV.cells (enc y0)) 0 default))))),(4,(.pv (.int .i64 (IntKind.wrap IntKind.i64 (i+1)))))] [(.obj (.box [(.pv (.int .i64 l.k)),(.pv (.sl 2 false (List.map enc l.t)))]))])))else(if (decide (i>0))=true then(decide (List.length o+List.length [(43:UInt8)]<=1099511627776))=true∧(if (decide (PV.asInt (List.getD (PV.cells (enc y0)) (0+1) default)>1))=true then(Go.Pl.preT (fun(x:Int×Unit)=>decide ((-1000000000:Int)<=x.1)&&decide (x.1<=1000000000)) [(.int .i64 (PV.asInt (List.getD (PV.cells (enc y0)) (0+1) default)))])=true∧(∃ y2:Str,AV.pv (Zb (fun(x:Int×Unit)=>Zn x.1) [(.int .i64 (PV.asInt (List.getD (PV.cells (enc y0)) (0+1) default)))])=AV.pv (enc y2)∧((decide (List.length (o++[(43:UInt8)])+List.length (Str.s y2)<=1099511627776))=true∧((decide (List.length (o++[(43:UInt8)]++Str.s y2)+List.length (PV.asStr (List.getD (PV.cells (enc y0)) 0 default))<=1099511627776))=true∧(At XX 0 (Za Xf G) Xg 0 69 [(1,(.ptr 0 0)),(3,(.pv (.str (o++[(43:UInt8)]++Str.s y2++PV.asStr (List.getD (PV.cells (enc y0)) 0 default))))),(4,(.pv (.int .i64 (IntKind.wrap IntKind.i64 (i+1)))))] [(.obj (.box [(.pv (.int .i64 l.k)),(.pv (.sl 2 false (List.map enc l.t)))]))]))))else((decide (List.length (o++[(43:UInt8)])+List.length (PV.asStr (List.getD (PV.cells (enc y0)) 0 default))<=1099511627776))=true∧(At XX 0 (Za Xf G) Xg 0 69 [(1,(.ptr 0 0)),(3,(.pv (.str (o++[(43:UInt8)]++PV.asStr (List.getD (PV.cells (enc y0)) 0 default))))),(4,(.pv (.int .i64 (IntKind.wrap IntKind.i64 (i+1)))))] [(.obj (.box [(.pv (.int .i64 l.k)),(.pv (.sl 2 false (List.map enc l.t)))]))])))else(if (decide (PV.asInt (List.getD (PV.cells (enc y0)) (0+1) default)>1))=true then(Go.Pl.preT (fun(x:Int×Unit)=>decide ((-1000000000:Int)<=x.1)&&decide (x.1<=1000000000)) [(.int .i64 (PV.asInt (List.getD (PV.cells (enc y0)) (0+1) default)))])=true∧(∃ y3:Str,AV.pv (Zb (fun(x:Int×Unit)=>Zn x.1) [(.int .i64 (PV.asInt (List.getD (PV.cells (enc y0)) (0+1) default)))])=AV.pv (enc y3)∧((decide (List.length o+List.length (Str.s y3)<=1099511627776))=true∧((decide (List.length (o++Str.s y3)+List.length (PV.asStr (List.getD (PV.cells (enc y0)) 0 default))<=1099511627776))=true∧(At XX 0 (Za Xf G) Xg 0 69 [(1,(.ptr 0 0)),(3,(.pv (.str (o++Str.s y3++PV.asStr (List.getD (PV.cells (enc y0)) 0 default))))),(4,(.pv (.int .i64 (IntKind.wrap IntKind.i64 (i+1)))))] [(.obj (.box [(.pv (.int .i64 l.k)),(.pv (.sl 2 false (List.map enc l.t)))]))]))))else((decide (List.length o+List.length (PV.asStr (List.getD (PV.cells (enc y0)) 0 default))<=1099511627776))=true∧(At XX 0 (Za Xf G) Xg 0 69 [(1,(.ptr 0 0)),(3,(.pv (.str (o++PV.asStr (List.getD (PV.cells (enc y0)) 0 default))))),(4,(.pv (.int .i64 (IntKind.wrap IntKind.i64 (i+1)))))] [(.obj (.box [(.pv (.int .i64 l.k)),(.pv (.sl 2 false (List.map enc l.t)))]))]))))))else(if ((↑(List.length (List.map enc l.t)):Int)==0)=true then(Go.Pl.preT (fun(x:Int×Unit)=>decide ((-1000000000:Int)<=x.1)&&decide (x.1<=1000000000)) [(.int .i64 l.k)])=true∧(∃ y4:Str,AV.pv (Zb (fun(x:Int×Unit)=>Zn x.1) [(.int .i64 l.k)])=AV.pv (enc y4)∧(G ((.str (Str.s y4)))))else(if (decide (l.k>0))=true then(decide (List.length o+List.length [(43:UInt8)]<=1099511627776))=true∧(if (l.k != 0)=true then(Go.Pl.preT (fun(x:Int×Unit)=>decide ((-1000000000:Int)<=x.1)&&decide (x.1<=1000000000)) [(.int .i64 l.k)])=true∧(∃ y5:Str,AV.pv (Zb (fun(x:Int×Unit)=>Zn x.1) [(.int .i64 l.k)])=AV.pv (enc y5)∧((decide (List.length (o++[(43:UInt8)])+List.length (Str.s y5)<=1099511627776))=true∧(G ((.str (o++[(43:UInt8)]++Str.s y5))))))else(G ((.str (o++[(43:UInt8)])))))else(if (l.k != 0)=true then(Go.Pl.preT (fun(x:Int×Unit)=>decide ((-1000000000:Int)<=x.1)&&decide (x.1<=1000000000)) [(.int .i64 l.k)])=true∧(∃ y6:Str,AV.pv (Zb (fun(x:Int×Unit)=>Zn x.1) [(.int .i64 l.k)])=AV.pv (enc y6)∧((decide (List.length o+List.length (Str.s y6)<=1099511627776))=true∧(G ((.str (o++Str.s y6))))))else(G ((.str o))))))):At XX 0 (Za Xf G) Xg 0 69 [(1,.ptr 0 0),(3,.pv (.str o)),(4,.pv (.int .i64 i))] [.obj (.box [.pv (.int .i64 l.k),.pv (enc l.t)])]:=At.tp (.lit (.ask (.req (.abs (Coef) (fun YY=>AV.pv (PV.rptr (PV.cells ((enc) YY)))) (Zl 2 (.ask (.req (.lit (.ask (.req (.abs (Str) (fun YY=>AV.pv (enc YY)) (.req (.req (.lit (.nil)))))) (.req (.lit (.nil)))))) (.lit (.ask (.req (.lit (.ask (.req (.abs (Str) (fun YY=>AV.pv (enc YY)) (.req (.req (.lit (.nil)))))) (.req (.lit (.nil)))))) (.lit (.ask (.req (.abs (Str) (fun YY=>AV.pv (enc YY)) (.req (.req (.lit (.nil)))))) (.req (.lit (.nil))))))))))) (.lit (.ask (.req (.abs (Str) (fun YY=>AV.pv (enc YY)) (.nil))) (.lit (.ask (.req (.lit (.ask (.req (.abs (Str) (fun YY=>AV.pv (enc YY)) (.req (.nil)))) (.nil)))) (.lit (.ask (.req (.abs (Str) (fun YY=>AV.pv (enc YY)) (.req (.nil)))) (.nil))))))))) h (by kernel_rfl)
end Go.Pl
namespace Go.Pl
open Go.RowKit
open Enc (enc dec is)
open EncL (encL decL isL)
theorem K9{n:Int}(h:n.natAbs<=1000000000):(Zn n).s.length<=11:=by
 have:=Aj 9 n.natAbs (by omega)
 by_cases hn:n<0
 ·rw[WR hn,List.length_cons];omega
 ·rw[YH hn];omega
theorem c2e{m:Nat}(h:m<10):List.drop m (List.take (m+1) [(48:UInt8),(49:UInt8),(50:UInt8),(51:UInt8),(52:UInt8),(53:UInt8),(54:UInt8),(55:UInt8),(56:UInt8),(57:UInt8)])=[UInt8.ofNat (48+m)]:=by
 revert h
 revert m
 decide
theorem b2h(N:Nat): ∀ a:Int×Unit,((decide ((-1000000000:Int)<=a.1)&&decide (a.1<=1000000000))&&decide (Gm a.1<N+1))=true->Ze (Mt N) 0 (Za S9 (Zi (Zn a.1))) SC [] (Z0 b4l (encL a)):=by
 rintro⟨n,⟨⟩⟩ h
 simp only[Bool.and_eq_true,decide_eq_true_eq]at h
 obtain⟨⟨h1,h2⟩,h3⟩:=h
 unfold Gm at h3
 have hpre : ∀ k:Int,-1000000000<=k->k<=1000000000->Gm k<N->Go.Pl.preT (fun(x:Int×Unit)=>decide ((-1000000000:Int)<=Prod.fst x)&&decide (Prod.fst x<=1000000000)&&decide (Gm (Prod.fst x)<N)) [(.int .i64 k)]=true:=fun k a b c=>Zf (k,()) rfl (by rw[decide_eq_true a,decide_eq_true b,decide_eq_true c];rfl)
 refine d1w N n (Yg (fun hn=> ?_) fun hn=>Yg (fun h10=> ?_) fun h10=> ?_)
 ·rw[Vn (by omega) (by omega)]
  refine⟨hpre _ (by omega) (by omega) (by unfold Gm;rw[if_pos hn]at h3;rw[if_neg (by omega)];omega),Zd (-n,()) rfl ⟨?_,?_⟩⟩
  ·have:=K9 (n:= -n) (by omega)
   exact decide_eq_true (by simp only[List.length_singleton];omega)
  ·refine Zo (x:=(⟨[(45:UInt8)]++(Zn (-n)).s⟩:Str)) ?_
   show(⟨[(45:UInt8)]++(Zn (-n)).s⟩:Str)=⟨(Zn n).s⟩
   rw[YH (n:= -n) (by omega),WR hn,Int.natAbs_neg];rfl
 ·obtain⟨m,rfl⟩ : ∃ m:Nat,n=m:=⟨n.toNat,by omega⟩
  have hm:m<10:=by omega
  rw[Vn (by omega) (by omega)]
  have e1:((m:Int)+1).toNat=m+1:=by omega
  refine⟨?_,?_⟩
  ·rw[e1,Int.toNat_natCast,decide_eq_true (show(0:Int)<=m by omega),decide_eq_true (show(0:Int)<=(m:Int)+1 by omega),decide_eq_true (show m<=m+1 by omega)]
   exact decide_eq_true (by simp only[List.length_cons,List.length_nil];omega)
  ·rw[e1,Int.toNat_natCast,c2e hm]
   refine Zo (x:=(⟨[UInt8.ofNat (48+m)]⟩:Str)) ?_
   show(⟨[UInt8.ofNat (48+m)]⟩:Str)=⟨(Zn (m:Int)).s⟩
   rw[YH (by omega),Int.natAbs_natCast,XA hm]
 ·obtain⟨m,rfl⟩ : ∃ m:Nat,n=m:=⟨n.toNat,by omega⟩
  have e1:Int.tdiv (m:Int) 10=((m / 10:Nat):Int):=by rw[Int.tdiv_eq_ediv_of_nonneg (by omega)];omega
  have e2:Int.tmod (m:Int) 10=((m % 10:Nat):Int):=by rw[Int.tmod_eq_emod_of_nonneg (by omega)];omega
  rw[e1,e2,Vn (by omega) (by omega)]
  rw[if_neg (by omega)]at h3
  have i1:Gm ((m / 10:Nat):Int)<N:=by unfold Gm;rw[if_neg (by omega)];omega
  have i2:Gm ((m % 10:Nat):Int)<N:=by unfold Gm;rw[if_neg (by omega)];omega
  have l1:=K9 (n:=((m / 10:Nat):Int)) (by omega)
  have l2:=K9 (n:=((m % 10:Nat):Int)) (by omega)
  refine⟨hpre _ (by omega) (by omega) i1,Zd (((m / 10:Nat):Int),()) rfl ⟨hpre _ (by omega) (by omega) i2,Zd (((m % 10:Nat):Int),()) rfl ⟨decide_eq_true (by dsimp only;omega),?_⟩⟩⟩
  refine Zo (x:=(⟨(Zn ((m / 10:Nat):Int)).s++(Zn ((m % 10:Nat):Int)).s⟩:Str)) ?_
  show(⟨(Zn ((m / 10:Nat):Int)).s++(Zn ((m % 10:Nat):Int)).s⟩:Str)=⟨(Zn (m:Int)).s⟩
  rw[YH (by omega),YH (by omega),YH (by omega),Int.natAbs_natCast,Int.natAbs_natCast,Int.natAbs_natCast,D8 (u:=m) (by omega),XA (u:=m % 10) (by omega)]
theorem a8t{o s:List UInt8}{n:Int}(hs:s≠[])(hn:n≠0)(h1:n.natAbs<=1000000)(h2:s.length<=30):(XP o n s).length<=o.length+40:=by
 have:=TY (v:=s) h1 h2
 rw[Ar hs hn,List.length_append,List.length_append]
 have:(if n<0 then [45]else if o=[]then []else [43]:List UInt8).length<=1:=by split;exact Nat.le_refl _;split <;> simp
 omega
theorem Ey(l:Lin)(hv:Zp l=true): ∀ (d i:Nat) (o:List UInt8),d+i=l.t.length->o=Ck (l.t.take i)->o.length<=40*i->(o=[] ↔ i=0) ->
  At XX 0 (Za Xf (Zi (⟨ZY l⟩:Str))) Xg 0 69 [(1,.ptr 0 0),(3,.pv (.str o)),(4,.pv (.int .i64 i))] [.obj (.box [.pv (.int .i64 l.k),.pv (enc l.t)])]:=by
 have hk:=MJ hv
 have hlen:=Jy hv
 intro d
 induction d with
 | zero=>
  intro i o hi ho hl h0
  have hi:i=l.t.length:=by omega
  rw[List.take_of_length_le (by omega)]at ho
  have hpk : ∀ k:Int,k=l.k->Go.Pl.preT (fun(x:Int×Unit)=>decide ((-1000000000:Int)<=Prod.fst x)&&decide (Prod.fst x<=1000000000)) [(.int .i64 k)]=true:=fun k e=>Zf (k,()) rfl (by rw[decide_eq_true (show(-1000000000:Int)<=k by omega),decide_eq_true (show k<=1000000000 by omega)];rfl)
  have hil:=K9 (n:=l.k) (by omega)
  have hR:ZY l=if decide (l.k≠0)||decide (o=[])then XP o l.k []else o:=by
   unfold ZY
   rw[if_pos hv,<- ho]
  refine PS l o i (YA (QF (by omega)) (Gd (fun hz=> ?_) fun hz=> ?_))
  ·have hz:i=0:=by
    simp only[List.length_map,beq_iff_eq]at hz
    omega
   have ho0:=h0.2 hz
   refine⟨hpk _ rfl,Zd (l.k,()) rfl (Zo (x:=Zn l.k) ?_)⟩
   show(⟨(Zn l.k).s⟩:Str)=⟨ZY l⟩
   rw[hR,decide_eq_true ho0,Bool.or_true,if_pos rfl,ho0]
   congr 1
   unfold XP
   rw[decide_eq_false (show ¬ ([]:List UInt8)≠[] by simp),Bool.and_false,Bool.false_and,if_neg (by simp),if_neg (by simp)]
   simp
  ·have hi0:i≠0:=by
    simp only[List.length_map,beq_iff_eq]at hz
    omega
   have ho0:o≠[]:=fun e=>hi0 (h0.1 e)
   rw[decide_eq_false ho0,Bool.or_false]at hR
   have hlo:o.length<=40*12:=by omega
   refine Yg (fun hp=>⟨decide_eq_true (by simp only[List.length_singleton];omega),Gd (fun hn=> ?_) fun hn=> ?_⟩) fun hp=>Gd (fun hn=> ?_) fun hn=> ?_
   ·refine⟨hpk _ rfl,Zd (l.k,()) rfl ⟨decide_eq_true (by simp only[List.length_append,List.length_singleton];omega),?_⟩⟩
    refine Zo (x:=(⟨o++[(43:UInt8)]++(Zn l.k).s⟩:Str)) ?_
    rw[hR,decide_eq_true (by omega),if_pos rfl,Ls,if_neg (by omega),if_neg ho0,YH (by omega)]
    unfold Wv
    rw[if_pos rfl];simp
   ·have hz0:l.k=0:=by simpa using hn
    exact absurd hp (by omega)
   ·have hn:l.k≠0:=by simpa using hn
    refine⟨hpk _ rfl,Zd (l.k,()) rfl ⟨decide_eq_true (by dsimp only;omega),?_⟩⟩
    refine Zo (x:=(⟨o++(Zn l.k).s⟩:Str)) ?_
    rw[hR,decide_eq_true hn,if_pos rfl,Ls,if_pos (by omega),WR (by omega)]
    unfold Wv
    rw[if_pos rfl];simp
   ·have hn:l.k=0:=by simpa using hn
    refine Zo (x:=(⟨o⟩:Str)) ?_
    rw[hR,decide_eq_false (by simpa using hn),if_neg (by simp)]
 | succ d ih=>
  intro i o hi ho hl h0
  have hlt:i<l.t.length:=by omega
  have hm:=List.getElem_mem hlt
  obtain⟨v1,v2,v3,v4⟩:=Ue hv hm
  have hs:=(O5 hv _ hm).2
  have hsl:l.t[i].v.s.length<=30:=Jo v1
  have hpl:=a8t (o:=o) hs v2 (by omega) hsl
  have hpe:=Ar (o:=o) hs v2
  have nxt : ∀ o',o'=XP o l.t[i].c l.t[i].v.s->At XX 0 (Za Xf (Zi (⟨ZY l⟩:Str))) Xg 0 69 [(1,.ptr 0 0),(3,.pv (.str o')),(4,.pv (.int .i64 (IntKind.i64.wrap ((i:Int)+1))))] [.obj (.box [.pv (.int .i64 l.k),.pv (enc l.t)])]:=by
   intro o' e
   rw[next (by omega)]
   refine ih (i+1) o' (by omega) ?_ (by rw[e];omega) ⟨fun h=> ?_,fun h=>by omega⟩
   ·rw[e,ho,List.take_succ_eq_append_getElem hlt]
    unfold Ck
    rw[List.foldl_append];rfl
   ·rw[e,hpe]at h
    exact absurd (List.append_eq_nil_iff.1 (List.append_eq_nil_iff.1 h).2).2 (LK (.inr v1))
  have hcn:=TY (v:=l.t[i].v.s) (n:=l.t[i].c.natAbs) (by omega) hsl
  have hpk : ∀ k:Int,k.natAbs<=1000000->Go.Pl.preT (fun(x:Int×Unit)=>decide ((-1000000000:Int)<=Prod.fst x)&&decide (Prod.fst x<=1000000000)) [(.int .i64 k)]=true:=fun k e=>Zf (k,()) rfl (by rw[decide_eq_true (show(-1000000000:Int)<=k by omega),decide_eq_true (show k<=1000000000 by omega)];rfl)
  have hil : ∀ k:Int,k.natAbs<=1000000->(Zn k).s.length<=11:=fun k e=>K9 (by omega)
  refine PS l o i (Yv (QR hlt) ⟨ZT hlt rfl,Yk hlt ?_⟩)
  refine Yg (fun hn=> ?_) fun hn=> ?_
  ·have hn:l.t[i].c<0:=hn
   have hw:IntKind.i64.wrap (-l.t[i].c) = -l.t[i].c:=Vn (by omega) (by omega)
   refine⟨decide_eq_true (by simp only[List.length_singleton];omega),?_⟩
   show if decide (IntKind.i64.wrap (-l.t[i].c)>1)=true then _ else _
   refine Yg (fun h1=> ?_) fun h1=> ?_
   ·rw[hw]at h1
    show Go.Pl.preT _ [(.int .i64 (IntKind.i64.wrap (-l.t[i].c)))]=true∧(∃ y1:Str,AV.pv (Zb _ [(.int .i64 (IntKind.i64.wrap (-l.t[i].c)))])=AV.pv (enc y1)∧_)
    rw[hw]
    have hi1:=hil (-l.t[i].c) (by omega)
    refine⟨hpk _ (by omega),Zd (-l.t[i].c,()) rfl ⟨decide_eq_true (by simp only[List.length_append,List.length_singleton];omega),decide_eq_true ?_,nxt _ ?_⟩⟩
    ·show(o++[(45:UInt8)]++(Zn (-l.t[i].c)).s).length+l.t[i].v.s.length<=_
     simp only[List.length_append,List.length_singleton];omega
    ·show o++[(45:UInt8)]++(Zn (-l.t[i].c)).s++l.t[i].v.s=_
     rw[hpe,if_pos hn,YH (by omega),Int.natAbs_neg]
     unfold Wv
     rw[if_neg hs,if_pos (by omega)];simp
   ·rw[hw]at h1
    refine⟨decide_eq_true ?_,nxt _ ?_⟩
    ·show(o++[(45:UInt8)]).length+l.t[i].v.s.length<=_
     simp only[List.length_append,List.length_singleton];omega
    ·show o++[(45:UInt8)]++l.t[i].v.s=_
     rw[hpe,if_pos hn]
     unfold Wv
     rw[if_neg hs,if_neg (by omega)];simp
  ·have hn : ¬ l.t[i].c<0:=hn
   refine Yg (fun hi0=>⟨decide_eq_true (by simp only[List.length_singleton];omega),?_⟩) fun hi0=> ?_
   ·have ho0:o≠[]:=fun e=>by have:=h0.1 e;omega
    show if decide (l.t[i].c>1)=true then _ else _
    refine Yg (fun h1=> ?_) fun h1=> ?_
    ·have hi1:=hil l.t[i].c (by omega)
     refine⟨hpk l.t[i].c (by omega),Zd (l.t[i].c,()) rfl ⟨decide_eq_true (by simp only[List.length_append,List.length_singleton];omega),decide_eq_true ?_,nxt _ ?_⟩⟩
     ·show(o++[(43:UInt8)]++(Zn l.t[i].c).s).length+l.t[i].v.s.length<=_
      simp only[List.length_append,List.length_singleton];omega
     ·show o++[(43:UInt8)]++(Zn l.t[i].c).s++l.t[i].v.s=_
      rw[hpe,if_neg hn,if_neg ho0,YH (by omega)]
      unfold Wv
      rw[if_neg hs,if_pos (by omega)];simp
    ·refine⟨decide_eq_true ?_,nxt _ ?_⟩
     ·show(o++[(43:UInt8)]).length+l.t[i].v.s.length<=_
      simp only[List.length_append,List.length_singleton];omega
     ·show o++[(43:UInt8)]++l.t[i].v.s=_
      rw[hpe,if_neg hn,if_neg ho0]
      unfold Wv
      rw[if_neg hs,if_neg (by omega)];simp
   ·have ho0:o=[]:=h0.2 (by omega)
    show if decide (l.t[i].c>1)=true then _ else _
    refine Yg (fun h1=> ?_) fun h1=> ?_
    ·have hi1:=hil l.t[i].c (by omega)
     refine⟨hpk l.t[i].c (by omega),Zd (l.t[i].c,()) rfl ⟨decide_eq_true (by dsimp only;omega),decide_eq_true ?_,nxt _ ?_⟩⟩
     ·show(o++(Zn l.t[i].c).s).length+l.t[i].v.s.length<=_
      simp only[List.length_append];omega
     ·show o++(Zn l.t[i].c).s++l.t[i].v.s=_
      rw[hpe,if_neg hn,if_pos ho0,YH (by omega)]
      unfold Wv
      rw[if_neg hs,if_pos (by omega)];simp
    ·refine⟨decide_eq_true ?_,nxt _ ?_⟩
     ·show o.length+l.t[i].v.s.length<=_
      omega
     ·show o++l.t[i].v.s=_
      rw[hpe,if_neg hn,if_pos ho0]
      unfold Wv
      rw[if_neg hs,if_neg (by omega)];simp
theorem a1d: ∀ x:Lin×Unit,Ws x.1=true->Ze XX 0 (Za Xf (Zi (⟨ZY x.1⟩:Str))) Xg [] (Z0 b1j (encL x)):=by
 rintro⟨l,⟨⟩⟩ h
 have hok:X3 l=true:=by
  unfold Ws at h
  rw[Bool.and_eq_true]at h;exact h.1
 refine b5x l ⟨Zf (l,()) rfl hok,Zd (l,()) rfl (VY (fun hv=> ?_) fun hv=> ?_)⟩
 ·refine Zo (x:=(⟨[]⟩:Str)) ?_
  have hv:Zp l=false:=hv
  show(⟨[]⟩:Str)=⟨ZY l⟩
  unfold ZY
  rw[if_neg (by simp[hv])]
 ·exact Ey l hv l.t.length 0 [] rfl rfl (by simp) (by simp)
end Go.Pl
