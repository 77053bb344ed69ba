/-
  Texts of mine that belong together (packed by pack.py), for every input: GQc, GQa, QQa, GQb, QQb, QQc, GTx, QTx, QTy, QTz, TyMb, GQe.
-/
import Derived.Test.YtkpppjbhmmabeaaGreatDoorChecked
import Derived.Test.YtkpppjbhmmabeaaGreatDoorKM2
import Derived.Test.YtkpppjbhmmabeaaGreatDoorKM3
import Derived.Test.YtkpppjbhmmabeaaGreatDoorKM4
import Derived.KernelRfl
set_option linter.unusedVariables false
set_option linter.unusedSimpArgs false
namespace Go.Pl
open Go.RowKit
open Enc (enc dec is)
open EncL (encL decL isL)
set_option maxRecDepth 100000
abbrev g3t(ps:List PV)(k:List Tm->Prop):Prop:=Ym (fun(x:Tm×Unit)=>tW (Prod.fst x)) (fun(x:Tm×Unit)=>Xb (Prod.fst x)) ps k
abbrev g3l(ps:List PV)(k:List Str->Prop):Prop:=ceP (fun(x:List Str×Str×Unit)=>Uv (Prod.fst x) (Prod.fst (Prod.snd x))) ps k
abbrev g3r(ps:List PV)(k:List Str->Prop):Prop:=Ym (fun(x:List Str×Str×Unit)=>decide (List.length (Prod.fst x)<=1048576)) (fun(x:List Str×Str×Unit)=>Uv (Prod.fst x) (Prod.fst (Prod.snd x))) ps k
abbrev b4y(ps:List PV)(k:R3 Str Int Bool->Prop):Prop:=ceP (fun(x:Str×Bool×Unit)=>Vd (Prod.fst x) (Prod.fst (Prod.snd x))) ps k
abbrev f2s(ps:List PV)(k:R3 Str Int Bool->Prop):Prop:=Ym (fun(x:Tm×Unit)=>tW (Prod.fst x)) (fun(x:Tm×Unit)=>Cy (Prod.fst x)) ps k
abbrev S9(N:Nat)(ps:List PV)(k:Str->Prop):Prop:=Ym (fun(x:Tm×Unit)=>tW (Prod.fst x)&&Z9 (Prod.fst x)&&decide (Z4 (Prod.fst x)<N)) (fun(x:Tm×Unit)=>Zt (Prod.fst x)) ps k
abbrev b8s(ps:List PV)(k:Str->Prop):Prop:=Ym (fun(x:Lin×Unit)=>Wi (Prod.fst x)) (fun(x:Lin×Unit)=>Str.mk (ZE (Prod.fst x))) ps k
abbrev g6v(ps:List PV)(k:Str->Prop):Prop:=Ym (fun(x:List Lin×Unit)=>decide (List.length (Prod.fst x)<=1048576)&&List.all (Prod.fst x) Zh) (fun(x:List Lin×Unit)=>Yi (List.map Yu (Prod.fst x))) ps k
abbrev MZ(ps:List PV)(k:Str->Prop):Prop:=Ym (fun(x:Int×Unit)=>decide (Int.natAbs (Prod.fst x)<9223372036854775808)) (fun(x:Int×Unit)=>Zp (Prod.fst x)) ps k
abbrev PL(N:Nat)(ps:List PV)(k:Str->Prop):Prop:=Ym (fun(x:List Tm×Unit)=>tsW (Prod.fst x)&&Wn (Prod.fst x)&&decide (Yc (Prod.fst x)<N)) (fun(x:List Tm×Unit)=>Yi (List.map Zt (Prod.fst x))) ps k
abbrev QH(ps:List PV)(k:Int->Prop):Prop:=Ym (fun(x:Tm×Unit)=>tW (Prod.fst x)) (fun(x:Tm×Unit)=>Wh (Prod.fst x)) ps k
abbrev WR(N:Nat)(ps:List PV)(k:Str->Prop):Prop:=Ym (fun(x:Tm×Bool×Unit)=>tW (Prod.fst x)&&Z9 (Prod.fst x)&&decide (Z4 (Prod.fst x)<N)) (fun(x:Tm×Bool×Unit)=>Su (Prod.fst (Prod.snd x)) (Prod.fst x)) ps k
abbrev d6a(N:Nat)(ps:List PV)(k:Str->Prop):Prop:=Ym (fun(x:Tm×Unit)=>tW (Prod.fst x)&&Z9 (Prod.fst x)&&decide (Nd.kind (Tm.nd (Prod.fst x))=6)&&decide (Yc (Tm.ks (Prod.fst x))<N)) (fun(x:Tm×Unit)=>Kg (Prod.fst x)) ps k
abbrev d7m(ps:List PV)(k:Str×Int->Prop):Prop:=Ym (fun(x:Arr×Unit)=>VH (Prod.fst x)&&WE (Prod.fst x)) (fun(x:Arr×Unit)=>J8 (Prod.fst x)) ps k
abbrev f9v(ps:List PV)(k:Bool->Prop):Prop:=Ym (fun(x:Tm×Unit)=>tW (Prod.fst x)) (fun(x:Tm×Unit)=>Y7 (Prod.fst x)) ps k
abbrev f8v(ps:List PV)(k:List Str->Prop):Prop:=Ym (fun(x:Tm×Unit)=>tW (Prod.fst x)) (fun(x:Tm×Unit)=>JZ (Prod.fst x)) ps k
abbrev f8z(ps:List PV)(k:Bool->Prop):Prop:=Ym (fun(x:Str×Unit)=>decide (List.length (Str.s (Prod.fst x))<=1048576)) (fun(x:Str×Unit)=>nameI (Str.s (Prod.fst x))) ps k
noncomputable def G6:IC:=YI Proofs.Tryz.f107
def Gf:List IRes:=[(.tmp 4)]
abbrev e5u:Nat:=45
def BU:ZC:=Yh []
theorem f9m{G:PV->Prop}(l:List Str)(s:List UInt8)(h:At BU 0 (Za Gf G) G6 0 45 [(0,(.pv (.sl 1 false (List.map enc l)))),(1,(.pv (.str s))),(5,(.pv (.int .i64 0)))] []):Zd BU 0 (Za Gf G) G6 [] (Zx 45 [enc l,.str s]):=Zd.tp (.nil) h
abbrev Et(a:Int)(XY:List Str):Bool:=(List.isEmpty (List.drop 0 (List.take (Int.toNat a) (List.map enc XY)))||Enc.sz Str==1)
theorem b7e{G:PV->Prop}(l:List Str)(s:List UInt8)(i:Int)(h:if (Cn l i)=true then(Y1 l i 1 fun b=>(if (Op.bytesLess (PV.asStr (VD b)) s)=true then At BU 0 (Za Gf G) G6 0 45 [(0,(.pv (.sl 1 false (List.map enc l)))),(1,(.pv (.str s))),(5,(.pv (.int .i64 (IntKind.wrap IntKind.i64 (i+1)))))] []else(if (Cn l i)=true then(Y1 l i 1 fun a=>(if (PV.asStr (VD a)==s)=true then G ((.sl 1 false (List.map enc l)))else((true&&decide (0<=i)&&(List.isEmpty (List.map enc l)||Enc.sz Str==1)&&decide (0<=Int.toNat i)&&decide (Int.toNat i<=List.length (List.map enc l)))=true∧((Et i l)=true∧((List.length ([]:List PV)==0&&0==0&&decide ((0+List.length (List.drop 0 (List.take (Int.toNat i) (List.map enc l))))*16<=1099511627776)&&decide (0+List.length (List.drop 0 (List.take (Int.toNat i) (List.map enc l)))<=1099511627776))=true∧((List.length (([]:List PV)++List.drop 0 (List.take (Int.toNat i) (List.map enc l)))==0+List.length (List.drop 0 (List.take (Int.toNat i) (List.map enc l)))&&0+List.length (List.drop 0 (List.take (Int.toNat i) (List.map enc l)))==0+List.length (List.drop 0 (List.take (Int.toNat i) (List.map enc l)))&&decide ((0+List.length (List.drop 0 (List.take (Int.toNat i) (List.map enc l)))+List.length (List.drop 0 (List.take 1 [PV.str s])))*16<=1099511627776)&&decide (0+List.length (List.drop 0 (List.take (Int.toNat i) (List.map enc l)))+List.length (List.drop 0 (List.take 1 [PV.str s]))<=1099511627776))=true∧((decide (0<=i)&&true&&(List.isEmpty (List.map enc l)||Enc.sz Str==1)&&decide (Int.toNat i<=List.length (List.map enc l))&&decide (List.length (List.map enc l)<=List.length (List.map enc l)))=true∧((List.isEmpty (List.drop (Int.toNat i) (List.take (List.length (List.map enc l)) (List.map enc l)))||Enc.sz Str==1)=true∧((List.length (([]:List PV)++List.drop 0 (List.take (Int.toNat i) (List.map enc l))++List.drop 0 (List.take 1 [PV.str s]))==0+List.length (List.drop 0 (List.take (Int.toNat i) (List.map enc l)))+List.length (List.drop 0 (List.take 1 [PV.str s]))&&0+List.length (List.drop 0 (List.take (Int.toNat i) (List.map enc l)))+List.length (List.drop 0 (List.take 1 [PV.str s]))==0+List.length (List.drop 0 (List.take (Int.toNat i) (List.map enc l)))+List.length (List.drop 0 (List.take 1 [PV.str s]))&&decide ((0+List.length (List.drop 0 (List.take (Int.toNat i) (List.map enc l)))+List.length (List.drop 0 (List.take 1 [PV.str s]))+List.length (List.drop (Int.toNat i) (List.take (List.length (List.map enc l)) (List.map enc l))))*16<=1099511627776)&&decide (0+List.length (List.drop 0 (List.take (Int.toNat i) (List.map enc l)))+List.length (List.drop 0 (List.take 1 [PV.str s]))+List.length (List.drop (Int.toNat i) (List.take (List.length (List.map enc l)) (List.map enc l)))<=1099511627776))=true∧((List.length (([]:List PV)++List.drop 0 (List.take (Int.toNat i) (List.map enc l))++List.drop 0 (List.take 1 [PV.str s])++List.drop (Int.toNat i) (List.take (List.length (List.map enc l)) (List.map enc l)))==0+List.length (List.drop 0 (List.take (Int.toNat i) (List.map enc l)))+List.length (List.drop 0 (List.take 1 [PV.str s]))+List.length (List.drop (Int.toNat i) (List.take (List.length (List.map enc l)) (List.map enc l))))=true∧(G ((.sl 1 false (List.drop 0 (List.take (0+List.length (List.drop 0 (List.take (Int.toNat i) (List.map enc l)))+List.length (List.drop 0 (List.take 1 [PV.str s]))+List.length (List.drop (Int.toNat i) (List.take (List.length (List.map enc l)) (List.map enc l)))) (([]:List PV)++List.drop 0 (List.take (Int.toNat i) (List.map enc l))++List.drop 0 (List.take 1 [PV.str s])++List.drop (Int.toNat i) (List.take (List.length (List.map enc l)) (List.map enc l))))))))))))))))))else((true&&decide (0<=i)&&(List.isEmpty (List.map enc l)||Enc.sz Str==1)&&decide (0<=Int.toNat i)&&decide (Int.toNat i<=List.length (List.map enc l)))=true∧((Et i l)=true∧((List.length ([]:List PV)==0&&0==0&&decide ((0+List.length (List.drop 0 (List.take (Int.toNat i) (List.map enc l))))*16<=1099511627776)&&decide (0+List.length (List.drop 0 (List.take (Int.toNat i) (List.map enc l)))<=1099511627776))=true∧((List.length (([]:List PV)++List.drop 0 (List.take (Int.toNat i) (List.map enc l)))==0+List.length (List.drop 0 (List.take (Int.toNat i) (List.map enc l)))&&0+List.length (List.drop 0 (List.take (Int.toNat i) (List.map enc l)))==0+List.length (List.drop 0 (List.take (Int.toNat i) (List.map enc l)))&&decide ((0+List.length (List.drop 0 (List.take (Int.toNat i) (List.map enc l)))+List.length (List.drop 0 (List.take 1 [PV.str s])))*16<=1099511627776)&&decide (0+List.length (List.drop 0 (List.take (Int.toNat i) (List.map enc l)))+List.length (List.drop 0 (List.take 1 [PV.str s]))<=1099511627776))=true∧((decide (0<=i)&&true&&(List.isEmpty (List.map enc l)||Enc.sz Str==1)&&decide (Int.toNat i<=List.length (List.map enc l))&&decide (List.length (List.map enc l)<=List.length (List.map enc l)))=true∧((List.isEmpty (List.drop (Int.toNat i) (List.take (List.length (List.map enc l)) (List.map enc l)))||Enc.sz Str==1)=true∧((List.length (([]:List PV)++List.drop 0 (List.take (Int.toNat i) (List.map enc l))++List.drop 0 (List.take 1 [PV.str s]))==0+List.length (List.drop 0 (List.take (Int.toNat i) (List.map enc l)))+List.length (List.drop 0 (List.take 1 [PV.str s]))&&0+List.length (List.drop 0 (List.take (Int.toNat i) (List.map enc l)))+List.length (List.drop 0 (List.take 1 [PV.str s]))==0+List.length (List.drop 0 (List.take (Int.toNat i) (List.map enc l)))+List.length (List.drop 0 (List.take 1 [PV.str s]))&&decide ((0+List.length (List.drop 0 (List.take (Int.toNat i) (List.map enc l)))+List.length (List.drop 0 (List.take 1 [PV.str s]))+List.length (List.drop (Int.toNat i) (List.take (List.length (List.map enc l)) (List.map enc l))))*16<=1099511627776)&&decide (0+List.length (List.drop 0 (List.take (Int.toNat i) (List.map enc l)))+List.length (List.drop 0 (List.take 1 [PV.str s]))+List.length (List.drop (Int.toNat i) (List.take (List.length (List.map enc l)) (List.map enc l)))<=1099511627776))=true∧((List.length (([]:List PV)++List.drop 0 (List.take (Int.toNat i) (List.map enc l))++List.drop 0 (List.take 1 [PV.str s])++List.drop (Int.toNat i) (List.take (List.length (List.map enc l)) (List.map enc l)))==0+List.length (List.drop 0 (List.take (Int.toNat i) (List.map enc l)))+List.length (List.drop 0 (List.take 1 [PV.str s]))+List.length (List.drop (Int.toNat i) (List.take (List.length (List.map enc l)) (List.map enc l))))=true∧(G ((.sl 1 false (List.drop 0 (List.take (0+List.length (List.drop 0 (List.take (Int.toNat i) (List.map enc l)))+List.length (List.drop 0 (List.take 1 [PV.str s]))+List.length (List.drop (Int.toNat i) (List.take (List.length (List.map enc l)) (List.map enc l)))) (([]:List PV)++List.drop 0 (List.take (Int.toNat i) (List.map enc l))++List.drop 0 (List.take 1 [PV.str s])++List.drop (Int.toNat i) (List.take (List.length (List.map enc l)) (List.map enc l)))))))))))))))))))else(if (Cn l i)=true then(Y1 l i 1 fun e=>(if (PV.asStr (VD e)==s)=true then G ((.sl 1 false (List.map enc l)))else((true&&decide (0<=i)&&(List.isEmpty (List.map enc l)||Enc.sz Str==1)&&decide (0<=Int.toNat i)&&decide (Int.toNat i<=List.length (List.map enc l)))=true∧((Et i l)=true∧((List.length ([]:List PV)==0&&0==0&&decide ((0+List.length (List.drop 0 (List.take (Int.toNat i) (List.map enc l))))*16<=1099511627776)&&decide (0+List.length (List.drop 0 (List.take (Int.toNat i) (List.map enc l)))<=1099511627776))=true∧((List.length (([]:List PV)++List.drop 0 (List.take (Int.toNat i) (List.map enc l)))==0+List.length (List.drop 0 (List.take (Int.toNat i) (List.map enc l)))&&0+List.length (List.drop 0 (List.take (Int.toNat i) (List.map enc l)))==0+List.length (List.drop 0 (List.take (Int.toNat i) (List.map enc l)))&&decide ((0+List.length (List.drop 0 (List.take (Int.toNat i) (List.map enc l)))+List.length (List.drop 0 (List.take 1 [PV.str s])))*16<=1099511627776)&&decide (0+List.length (List.drop 0 (List.take (Int.toNat i) (List.map enc l)))+List.length (List.drop 0 (List.take 1 [PV.str s]))<=1099511627776))=true∧((decide (0<=i)&&true&&(List.isEmpty (List.map enc l)||Enc.sz Str==1)&&decide (Int.toNat i<=List.length (List.map enc l))&&decide (List.length (List.map enc l)<=List.length (List.map enc l)))=true∧((List.isEmpty (List.drop (Int.toNat i) (List.take (List.length (List.map enc l)) (List.map enc l)))||Enc.sz Str==1)=true∧((List.length (([]:List PV)++List.drop 0 (List.take (Int.toNat i) (List.map enc l))++List.drop 0 (List.take 1 [PV.str s]))==0+List.length (List.drop 0 (List.take (Int.toNat i) (List.map enc l)))+List.length (List.drop 0 (List.take 1 [PV.str s]))&&0+List.length (List.drop 0 (List.take (Int.toNat i) (List.map enc l)))+List.length (List.drop 0 (List.take 1 [PV.str s]))==0+List.length (List.drop 0 (List.take (Int.toNat i) (List.map enc l)))+List.length (List.drop 0 (List.take 1 [PV.str s]))&&decide ((0+List.length (List.drop 0 (List.take (Int.toNat i) (List.map enc l)))+List.length (List.drop 0 (List.take 1 [PV.str s]))+List.length (List.drop (Int.toNat i) (List.take (List.length (List.map enc l)) (List.map enc l))))*16<=1099511627776)&&decide (0+List.length (List.drop 0 (List.take (Int.toNat i) (List.map enc l)))+List.length (List.drop 0 (List.take 1 [PV.str s]))+List.length (List.drop (Int.toNat i) (List.take (List.length (List.map enc l)) (List.map enc l)))<=1099511627776))=true∧((List.length (([]:List PV)++List.drop 0 (List.take (Int.toNat i) (List.map enc l))++List.drop 0 (List.take 1 [PV.str s])++List.drop (Int.toNat i) (List.take (List.length (List.map enc l)) (List.map enc l)))==0+List.length (List.drop 0 (List.take (Int.toNat i) (List.map enc l)))+List.length (List.drop 0 (List.take 1 [PV.str s]))+List.length (List.drop (Int.toNat i) (List.take (List.length (List.map enc l)) (List.map enc l))))=true∧(G ((.sl 1 false (List.drop 0 (List.take (0+List.length (List.drop 0 (List.take (Int.toNat i) (List.map enc l)))+List.length (List.drop 0 (List.take 1 [PV.str s]))+List.length (List.drop (Int.toNat i) (List.take (List.length (List.map enc l)) (List.map enc l)))) (([]:List PV)++List.drop 0 (List.take (Int.toNat i) (List.map enc l))++List.drop 0 (List.take 1 [PV.str s])++List.drop (Int.toNat i) (List.take (List.length (List.map enc l)) (List.map enc l))))))))))))))))))else((true&&decide (0<=i)&&(List.isEmpty (List.map enc l)||Enc.sz Str==1)&&decide (0<=Int.toNat i)&&decide (Int.toNat i<=List.length (List.map enc l)))=true∧((Et i l)=true∧((List.length ([]:List PV)==0&&0==0&&decide ((0+List.length (List.drop 0 (List.take (Int.toNat i) (List.map enc l))))*16<=1099511627776)&&decide (0+List.length (List.drop 0 (List.take (Int.toNat i) (List.map enc l)))<=1099511627776))=true∧((List.length (([]:List PV)++List.drop 0 (List.take (Int.toNat i) (List.map enc l)))==0+List.length (List.drop 0 (List.take (Int.toNat i) (List.map enc l)))&&0+List.length (List.drop 0 (List.take (Int.toNat i) (List.map enc l)))==0+List.length (List.drop 0 (List.take (Int.toNat i) (List.map enc l)))&&decide ((0+List.length (List.drop 0 (List.take (Int.toNat i) (List.map enc l)))+List.length (List.drop 0 (List.take 1 [PV.str s])))*16<=1099511627776)&&decide (0+List.length (List.drop 0 (List.take (Int.toNat i) (List.map enc l)))+List.length (List.drop 0 (List.take 1 [PV.str s]))<=1099511627776))=true∧((decide (0<=i)&&true&&(List.isEmpty (List.map enc l)||Enc.sz Str==1)&&decide (Int.toNat i<=List.length (List.map enc l))&&decide (List.length (List.map enc l)<=List.length (List.map enc l)))=true∧((List.isEmpty (List.drop (Int.toNat i) (List.take (List.length (List.map enc l)) (List.map enc l)))||Enc.sz Str==1)=true∧((List.length (([]:List PV)++List.drop 0 (List.take (Int.toNat i) (List.map enc l))++List.drop 0 (List.take 1 [PV.str s]))==0+List.length (List.drop 0 (List.take (Int.toNat i) (List.map enc l)))+List.length (List.drop 0 (List.take 1 [PV.str s]))&&0+List.length (List.drop 0 (List.take (Int.toNat i) (List.map enc l)))+List.length (List.drop 0 (List.take 1 [PV.str s]))==0+List.length (List.drop 0 (List.take (Int.toNat i) (List.map enc l)))+List.length (List.drop 0 (List.take 1 [PV.str s]))&&decide ((0+List.length (List.drop 0 (List.take (Int.toNat i) (List.map enc l)))+List.length (List.drop 0 (List.take 1 [PV.str s]))+List.length (List.drop (Int.toNat i) (List.take (List.length (List.map enc l)) (List.map enc l))))*16<=1099511627776)&&decide (0+List.length (List.drop 0 (List.take (Int.toNat i) (List.map enc l)))+List.length (List.drop 0 (List.take 1 [PV.str s]))+List.length (List.drop (Int.toNat i) (List.take (List.length (List.map enc l)) (List.map enc l)))<=1099511627776))=true∧((List.length (([]:List PV)++List.drop 0 (List.take (Int.toNat i) (List.map enc l))++List.drop 0 (List.take 1 [PV.str s])++List.drop (Int.toNat i) (List.take (List.length (List.map enc l)) (List.map enc l)))==0+List.length (List.drop 0 (List.take (Int.toNat i) (List.map enc l)))+List.length (List.drop 0 (List.take 1 [PV.str s]))+List.length (List.drop (Int.toNat i) (List.take (List.length (List.map enc l)) (List.map enc l))))=true∧(G ((.sl 1 false (List.drop 0 (List.take (0+List.length (List.drop 0 (List.take (Int.toNat i) (List.map enc l)))+List.length (List.drop 0 (List.take 1 [PV.str s]))+List.length (List.drop (Int.toNat i) (List.take (List.length (List.map enc l)) (List.map enc l)))) (([]:List PV)++List.drop 0 (List.take (Int.toNat i) (List.map enc l))++List.drop 0 (List.take 1 [PV.str s])++List.drop (Int.toNat i) (List.take (List.length (List.map enc l)) (List.map enc l)))))))))))))))))):At BU 0 (Za Gf G) G6 0 45 [(0,.pv (enc l)),(1,.pv (.str s)),(5,.pv (.int .i64 i))] []:=At.tp (dm [dr Str] 131 0x11111221112222222201111122111200014222222512201b422222222011111221112222222201111122111200014222222512201b42020024222222512204342) h
noncomputable def ZV:IC:=YI Proofs.Tryz.f71
def ZQ:List IRes:=[(.tmp 2)]
abbrev d5p:Nat:=56
def Z8:ZC:=Yh [(49,.pure (preT (fun x:Tm×Unit=>tW x.1)) (Zi (fun x:Tm×Unit=>Xb x.1))),(107,.pure (preT (fun x:List Str×Str×Unit=>decide (x.1.length<=1048576))) (Zi (fun x:List Str×Str×Unit=>Uv x.1 x.2.1)))]
theorem e6a{G:PV->Prop}(n:Nd)(ks:List Tm)(h:(g3t (Dh n ks) fun a=>(At Z8 0 (Za ZQ G) ZV 0 56 [(3,(.pv (.sl 0 true []))),(4,(.pv (.sl 10 false (List.map enc a)))),(5,(.pv (.int .i64 0)))] []))):Zd Z8 0 (Za ZQ G) ZV [] (Zx 56 [.agg [enc n.kind,enc n.line,enc n.name,enc n.num,enc n.elem,enc n.dims,enc n.data,enc n.sizes,enc n.ranks,enc ks]]):=Zd.tp (.req (FJ (List Tm) (.nil))) h
abbrev Ky(a:List Tm):Nat×AV:=(4,(.pv (.sl 10 false (List.map enc a))))
theorem c3r{G:PV->Prop}(n:Nd)(ks:List Tm)(y:List Tm)(i:Int)(h:if (Cn y i)=true then At Z8 0 (Za ZQ G) ZV 1 56 [(3,(.pv (.sl 0 true []))),(Ky y),(5,(.pv (.int .i64 i))),(6,(.pv (.int .i64 0)))] []else(G ((.sl 0 true [])))):At Z8 0 (Za ZQ G) ZV 0 56 [(3,.pv (.sl 0 true [])),(4,.pv (enc y)),(5,.pv (.int .i64 i))] []:=At.tp (dm [] 8 0x142) h
abbrev PM(a:List Str):Nat×AV:=(3,(.pv (.sl 1 false (List.map enc a))))
theorem c1m{G:PV->Prop}(n:Nd)(ks:List Tm)(y:List Tm)(o:List Str)(i:Int)(h:if (Cn y i)=true then At Z8 0 (Za ZQ G) ZV 1 56 [(PM o),(Ky y),(5,(.pv (.int .i64 i))),(6,(.pv (.int .i64 0)))] []else(G ((.sl 1 false (List.map enc o))))):At Z8 0 (Za ZQ G) ZV 0 56 [(3,.pv (enc o)),(4,.pv (enc y)),(5,.pv (.int .i64 i))] []:=At.tp (dm [] 8 0x142) h
theorem c4f{G:PV->Prop}(n:Nd)(ks:List Tm)(y:List Tm)(i k:Int)(h:(Y1 y i 10 fun a=>((decide (0+List.length [Sh.sl 2]<=List.length (List.drop 7 (PV.cells (enc a))))&&Yj (List.drop 7 (PV.cells (enc a))) 0 [Sh.sl 2])=true∧(if (decide (k<(↑(List.length (PV.asXs (List.getD (List.drop 7 (PV.cells (enc a))) 0 default))):Int)))=true then At Z8 0 (Za ZQ G) ZV 2 56 [(3,(.pv (.sl 0 true []))),(Ky y),(5,(.pv (.int .i64 i))),(6,(.pv (.int .i64 k))),(7,(.pv (.int .i64 0)))] []else(At Z8 0 (Za ZQ G) ZV 0 56 [(3,(.pv (.sl 0 true []))),(Ky y),(5,(.pv (.int .i64 (IntKind.wrap IntKind.i64 (i+1)))))] []))))):At Z8 0 (Za ZQ G) ZV 1 56 [(3,.pv (.sl 0 true [])),(4,.pv (enc y)),(5,.pv (.int .i64 i)),(6,.pv (.int .i64 k))] []:=At.tp (dm [dr Tm] 12 0x2000142151) h
theorem c1u{G:PV->Prop}(n:Nd)(ks:List Tm)(y:List Tm)(o:List Str)(i k:Int)(h:(Y1 y i 10 fun a=>((decide (0+List.length [Sh.sl 2]<=List.length (List.drop 7 (PV.cells (enc a))))&&Yj (List.drop 7 (PV.cells (enc a))) 0 [Sh.sl 2])=true∧(if (decide (k<(↑(List.length (PV.asXs (List.getD (List.drop 7 (PV.cells (enc a))) 0 default))):Int)))=true then At Z8 0 (Za ZQ G) ZV 2 56 [(PM o),(Ky y),(5,(.pv (.int .i64 i))),(6,(.pv (.int .i64 k))),(7,(.pv (.int .i64 0)))] []else(At Z8 0 (Za ZQ G) ZV 0 56 [(PM o),(Ky y),(5,(.pv (.int .i64 (IntKind.wrap IntKind.i64 (i+1)))))] []))))):At Z8 0 (Za ZQ G) ZV 1 56 [(3,.pv (enc o)),(4,.pv (enc y)),(5,.pv (.int .i64 i)),(6,.pv (.int .i64 k))] []:=At.tp (dm [dr Tm] 12 0x2000142151) h
theorem FB{G:PV->Prop}(n:Nd)(ks:List Tm)(y:List Tm)(i k j:Int)(h:(Y1 y i 10 fun b=>((decide (0+List.length [Sh.sl 2]<=List.length (List.drop 7 (PV.cells (enc b))))&&Yj (List.drop 7 (PV.cells (enc b))) 0 [Sh.sl 2])=true∧((decide (0<=k)&&decide (Int.toNat k<List.length (PV.asXs (List.getD (List.drop 7 (PV.cells (enc b))) 0 default)))&&2==2)=true∧((decide (0+List.length [Sh.sl 2]<=List.length (List.drop 1 (PV.cells (List.getD (PV.asXs (List.getD (List.drop 7 (PV.cells (enc b))) 0 default)) (Int.toNat k) default))))&&Yj (List.drop 1 (PV.cells (List.getD (PV.asXs (List.getD (List.drop 7 (PV.cells (enc b))) 0 default)) (Int.toNat k) default))) 0 [Sh.sl 2])=true∧(if (decide (j<(↑(List.length (PV.asXs (List.getD (List.drop 1 (PV.cells (List.getD (PV.asXs (List.getD (List.drop 7 (PV.cells (enc b))) 0 default)) (Int.toNat k) default))) 0 default))):Int)))=true then(Y1 y i 10 fun a=>((decide (0+List.length [Sh.sl 2]<=List.length (List.drop 7 (PV.cells (enc a))))&&Yj (List.drop 7 (PV.cells (enc a))) 0 [Sh.sl 2])=true∧((decide (0<=k)&&decide (Int.toNat k<List.length (PV.asXs (List.getD (List.drop 7 (PV.cells (enc a))) 0 default)))&&2==2)=true∧((decide (0+List.length [Sh.sl 2]<=List.length (List.drop 1 (PV.cells (List.getD (PV.asXs (List.getD (List.drop 7 (PV.cells (enc a))) 0 default)) (Int.toNat k) default))))&&Yj (List.drop 1 (PV.cells (List.getD (PV.asXs (List.getD (List.drop 7 (PV.cells (enc a))) 0 default)) (Int.toNat k) default))) 0 [Sh.sl 2])=true∧((decide (0<=j)&&decide (Int.toNat j<List.length (PV.asXs (List.getD (List.drop 1 (PV.cells (List.getD (PV.asXs (List.getD (List.drop 7 (PV.cells (enc a))) 0 default)) (Int.toNat k) default))) 0 default)))&&2==2)=true∧((decide (0+List.length [Sh.str]<=List.length (List.drop 0 (PV.cells (List.getD (PV.asXs (List.getD (List.drop 1 (PV.cells (List.getD (PV.asXs (List.getD (List.drop 7 (PV.cells (enc a))) 0 default)) (Int.toNat k) default))) 0 default)) (Int.toNat j) default))))&&Yj (List.drop 0 (PV.cells (List.getD (PV.asXs (List.getD (List.drop 1 (PV.cells (List.getD (PV.asXs (List.getD (List.drop 7 (PV.cells (enc a))) 0 default)) (Int.toNat k) default))) 0 default)) (Int.toNat j) default))) 0 [Sh.str])=true∧(g3l [(.sl 0 true []),(.str (PV.asStr (List.getD (List.drop 0 (PV.cells (List.getD (PV.asXs (List.getD (List.drop 1 (PV.cells (List.getD (PV.asXs (List.getD (List.drop 7 (PV.cells (enc a))) 0 default)) (Int.toNat k) default))) 0 default)) (Int.toNat j) default))) 0 default)))] fun e=>(At Z8 0 (Za ZQ G) ZV 2 56 [(3,(.pv (.sl 1 false (List.map enc e)))),(Ky y),(5,(.pv (.int .i64 i))),(6,(.pv (.int .i64 k))),(7,(.pv (.int .i64 (IntKind.wrap IntKind.i64 (j+1)))))] []))))))))else(At Z8 0 (Za ZQ G) ZV 1 56 [(3,(.pv (.sl 0 true []))),(Ky y),(5,(.pv (.int .i64 i))),(6,(.pv (.int .i64 (IntKind.wrap IntKind.i64 (k+1)))))] []))))))):At Z8 0 (Za ZQ G) ZV 2 56 [(3,.pv (.sl 0 true [])),(4,.pv (enc y)),(5,.pv (.int .i64 i)),(6,.pv (.int .i64 k)),(7,.pv (.int .i64 j))] []:=At.tp (dm [dr Tm,dv (List Str)] 27 0x2026213113115100d42131151) h
theorem Mj{G:PV->Prop}(n:Nd)(ks:List Tm)(y:List Tm)(o:List Str)(i k j:Int)(h:(Y1 y i 10 fun b=>((decide (0+List.length [Sh.sl 2]<=List.length (List.drop 7 (PV.cells (enc b))))&&Yj (List.drop 7 (PV.cells (enc b))) 0 [Sh.sl 2])=true∧((decide (0<=k)&&decide (Int.toNat k<List.length (PV.asXs (List.getD (List.drop 7 (PV.cells (enc b))) 0 default)))&&2==2)=true∧((decide (0+List.length [Sh.sl 2]<=List.length (List.drop 1 (PV.cells (List.getD (PV.asXs (List.getD (List.drop 7 (PV.cells (enc b))) 0 default)) (Int.toNat k) default))))&&Yj (List.drop 1 (PV.cells (List.getD (PV.asXs (List.getD (List.drop 7 (PV.cells (enc b))) 0 default)) (Int.toNat k) default))) 0 [Sh.sl 2])=true∧(if (decide (j<(↑(List.length (PV.asXs (List.getD (List.drop 1 (PV.cells (List.getD (PV.asXs (List.getD (List.drop 7 (PV.cells (enc b))) 0 default)) (Int.toNat k) default))) 0 default))):Int)))=true then(Y1 y i 10 fun a=>((decide (0+List.length [Sh.sl 2]<=List.length (List.drop 7 (PV.cells (enc a))))&&Yj (List.drop 7 (PV.cells (enc a))) 0 [Sh.sl 2])=true∧((decide (0<=k)&&decide (Int.toNat k<List.length (PV.asXs (List.getD (List.drop 7 (PV.cells (enc a))) 0 default)))&&2==2)=true∧((decide (0+List.length [Sh.sl 2]<=List.length (List.drop 1 (PV.cells (List.getD (PV.asXs (List.getD (List.drop 7 (PV.cells (enc a))) 0 default)) (Int.toNat k) default))))&&Yj (List.drop 1 (PV.cells (List.getD (PV.asXs (List.getD (List.drop 7 (PV.cells (enc a))) 0 default)) (Int.toNat k) default))) 0 [Sh.sl 2])=true∧((decide (0<=j)&&decide (Int.toNat j<List.length (PV.asXs (List.getD (List.drop 1 (PV.cells (List.getD (PV.asXs (List.getD (List.drop 7 (PV.cells (enc a))) 0 default)) (Int.toNat k) default))) 0 default)))&&2==2)=true∧((decide (0+List.length [Sh.str]<=List.length (List.drop 0 (PV.cells (List.getD (PV.asXs (List.getD (List.drop 1 (PV.cells (List.getD (PV.asXs (List.getD (List.drop 7 (PV.cells (enc a))) 0 default)) (Int.toNat k) default))) 0 default)) (Int.toNat j) default))))&&Yj (List.drop 0 (PV.cells (List.getD (PV.asXs (List.getD (List.drop 1 (PV.cells (List.getD (PV.asXs (List.getD (List.drop 7 (PV.cells (enc a))) 0 default)) (Int.toNat k) default))) 0 default)) (Int.toNat j) default))) 0 [Sh.str])=true∧((g3r [(.sl 1 false (List.map enc o)),(.str (PV.asStr (List.getD (List.drop 0 (PV.cells (List.getD (PV.asXs (List.getD (List.drop 1 (PV.cells (List.getD (PV.asXs (List.getD (List.drop 7 (PV.cells (enc a))) 0 default)) (Int.toNat k) default))) 0 default)) (Int.toNat j) default))) 0 default)))] fun e=>(At Z8 0 (Za ZQ G) ZV 2 56 [(3,(.pv (.sl 1 false (List.map enc e)))),(Ky y),(5,(.pv (.int .i64 i))),(6,(.pv (.int .i64 k))),(7,(.pv (.int .i64 (IntKind.wrap IntKind.i64 (j+1)))))] [])))))))))else(At Z8 0 (Za ZQ G) ZV 1 56 [(PM o),(Ky y),(5,(.pv (.int .i64 i))),(6,(.pv (.int .i64 (IntKind.wrap IntKind.i64 (k+1)))))] []))))))):At Z8 0 (Za ZQ G) ZV 2 56 [(3,.pv (enc o)),(4,.pv (enc y)),(5,.pv (.int .i64 i)),(6,.pv (.int .i64 k)),(7,.pv (.int .i64 j))] []:=At.tp (dm [dr Tm,dv (List Str)] 27 0x2026113113115100d42131151) h
noncomputable def a0d:IC:=YI Proofs.Tryz.f73
def Rx:List IRes:=[(.tmp 2),(.tmp 3),(.tmp 4)]
abbrev c7h:Nat:=69
def FW:ZC:=Yh [(109,.pure (preT (fun _:Str×Unit=>true)) (Zi (fun x:Str×Unit=>Jp x.1))),(110,.pure (preT (fun _:Str×Bool×Unit=>true)) (Zi (fun x:Str×Bool×Unit=>Vd x.1 x.2.1)))]
theorem e4c{G:PV->Prop}(n:Nd)(ks:List Tm)(h:Tt (fun(x:Str×Unit)=>Jp x.1) [(.str (Str.s (Nd.name n)))] fun e:R3 Str Bool Bool=>if (Nd.kind n != 6)=true then G ((.tup [(.str []),(.int .i64 0),(.bool false)]))else(if (!R3.c e)=true then G ((.tup [(.str []),(.int .i64 0),(.bool false)]))else(if (decide (IntKind.wrap IntKind.i64 ((↑(List.length (List.map enc (Nd.sizes n))):Int)+(↑(List.length (List.map enc (Nd.ranks n))):Int))>0))=true then G ((.tup [(.str []),(.int .i64 0),(.bool false)]))else(if (Nd.num n != 0)=true then G ((.tup [(.str []),(.int .i64 0),(.bool false)]))else(if ((↑(List.length (List.map enc ks)):Int) != 1)=true then if (R3.b e)=true then G ((.tup [(.str []),(.int .i64 0),(.bool false)]))else(if ((↑(List.length (List.map enc ks)):Int) != 2)=true then if (!R3.b e)=true then G ((.tup [(.str []),(.int .i64 0),(.bool false)]))else(b4y [(.str (Str.s (R3.a e))),(.bool (R3.b e))] fun g=>(G ((.tup [(.str (Str.s (R3.a e))),(.int .i64 (R3.b g)),(.bool (R3.b e))]))))else(b4y [(.str (Str.s (R3.a e))),(.bool (R3.b e))] fun i=>(G ((.tup [(.str (Str.s (R3.a e))),(.int .i64 (R3.b i)),(.bool (R3.b e))])))))else(if ((↑(List.length (List.map enc ks)):Int) != 2)=true then if (!R3.b e)=true then G ((.tup [(.str []),(.int .i64 0),(.bool false)]))else(b4y [(.str (Str.s (R3.a e))),(.bool (R3.b e))] fun j=>(G ((.tup [(.str (Str.s (R3.a e))),(.int .i64 (R3.b j)),(.bool (R3.b e))]))))else(b4y [(.str (Str.s (R3.a e))),(.bool (R3.b e))] fun k=>(G ((.tup [(.str (Str.s (R3.a e))),(.int .i64 (R3.b k)),(.bool (R3.b e))])))))))))):Zd FW 0 (Za Rx G) a0d [] (Zx 69 [.agg [enc n.kind,enc n.line,enc n.name,enc n.num,enc n.elem,enc n.dims,enc n.data,enc n.sizes,enc n.ranks,enc ks]]):=Zd.tp (dm [dv (R3 Str Bool Bool),dv (R3 Str Int Bool)] 215 0x622222206200014222200c42222222220622222206200014222200c42222202222222008422202c42222202222222222222200f42222022222222222222222201342222222222022222222222222222222222222201c422022222222222222222222222222222201f4252) h
noncomputable def b7b:IC:=YI Proofs.Tryz.f75
def O8:List IRes:=[(.tmp 2)]
abbrev e9e:Nat:=34
def b1n:ZC:=Yh [(73,.pure (preT (fun x:Tm×Unit=>tW x.1)) (Zi (fun x:Tm×Unit=>Cy x.1)))]
theorem f5l{G:PV->Prop}(n:Nd)(ks:List Tm)(h:(f2s (Dh n ks) fun e=>(if (Nd.kind n==5)=true then G ((.int .i64 0))else(if (!Str.s (R3.a e)==[])=true then G ((.int .i64 (R3.b e)))else(if (Nd.kind n==2)=true then if (Str.s (Nd.name n)==[(105:UInt8),(110:UInt8),(116:UInt8)])=true then if (decide (Nd.num n<0))=true then G ((.int .i64 6))else(G ((.int .i64 7)))else(G ((.int .i64 7)))else(G ((.int .i64 7)))))))):Zd b1n 0 (Za O8 G) b7b [] (Zx 34 [.agg [enc n.kind,enc n.line,enc n.name,enc n.num,enc n.elem,enc n.dims,enc n.data,enc n.sizes,enc n.ranks,enc ks]]):=Zd.tp (dm [dv (R3 Str Int Bool)] 52 0x2222222202222000014222200a422220174200014200014251) h
noncomputable def b8y:IC:=YI Proofs.Tryz.f74
def O5:List IRes:=[(.tmp 4)]
abbrev e8j:Nat:=12
def b0j(N:Nat):ZC:=Yh [(46,.pure (preT (fun x:Tm×Unit=>(tW x.1&&Z9 x.1)&&decide (Z4 x.1<N))) (Zi (fun x:Tm×Unit=>Zt x.1)))]
theorem f4v{G:PV->Prop}(N:Nat)(n:Nd)(ks:List Tm)(b:Bool)(h:if (b)=true then(S9 N (Dh n ks) fun a=>(ZA [(40:UInt8)] (Str.s a)∧(ZA ([(40:UInt8)]++Str.s a) [(41:UInt8)]∧(G ((.str ([(40:UInt8)]++Str.s a++[(41:UInt8)])))))))else((S9 N (Dh n ks) fun e=>(G ((.str (Str.s e))))))):Zd (b0j N) 0 (Za O5 G) b8y [] (Zx 12 [.agg [enc n.kind,enc n.line,enc n.name,enc n.num,enc n.elem,enc n.dims,enc n.data,enc n.sizes,enc n.ranks,enc ks],.bool b]):=Zd.tp (dm [dv Str] 13 0x51011510054) h
noncomputable def QA:IC:=YI Proofs.Tryz.f78
def QW:List IRes:=[(.tmp 2)]
abbrev d3j:Nat:=23
def Jw(N:Nat):ZC:=Yh [(46,.pure (preT (fun x:Tm×Unit=>(tW x.1&&Z9 x.1)&&decide (Z4 x.1<N))) (Zi (fun x:Tm×Unit=>Zt x.1)))]
abbrev b1u(a:List Tm):Nat×AV:=(0,(.pv (.sl 10 false (List.map enc a))))
theorem e9d{G:PV->Prop}(N:Nat)(l:List Tm)(h:At (Jw N) 0 (Za QW G) QA 0 23 [(b1u l),(3,(.pv (.str []))),(4,(.pv (.int .i64 0)))] []):Zd (Jw N) 0 (Za QW G) QA [] (Zx 23 [enc l]):=Zd.tp (.nil) h
theorem a5h{G:PV->Prop}(N:Nat)(l:List Tm)(o:List UInt8)(i:Int)(h:if (Cn l i)=true then if (decide (i>0))=true then ZA o [(44:UInt8),(32:UInt8)]∧((Y1 l i 10 fun e=>(BL e=true∧((S9 N (Kz e) fun a=>(ZA (o++[(44:UInt8),(32:UInt8)]) (Str.s a)∧(At (Jw N) 0 (Za QW G) QA 0 23 [(b1u l),(3,(.pv (.str (o++[(44:UInt8),(32:UInt8)]++Str.s a)))),(4,(.pv (.int .i64 (IntKind.wrap IntKind.i64 (i+1)))))] [])))))))else((Y1 l i 10 fun b=>(BL b=true∧((S9 N (Kz b) fun g=>(ZA o (Str.s g)∧(At (Jw N) 0 (Za QW G) QA 0 23 [(b1u l),(3,(.pv (.str (o++Str.s g)))),(4,(.pv (.int .i64 (IntKind.wrap IntKind.i64 (i+1)))))] [])))))))else(G ((.str o)))):At (Jw N) 0 (Za QW G) QA 0 23 [(0,.pv (enc l)),(3,.pv (.str o)),(4,.pv (.int .i64 i))] []:=At.tp (dm [dr Tm,dv Str] 29 0x21611510216115110094201642) h
noncomputable def Um:IC:=YI Proofs.Tryz.f111
def Uw:List IRes:=[(.tmp 2)]
abbrev c4y:Nat:=23
def Qz:ZC:=Yh [(79,.pure (preT (fun x:Lin×Unit=>Wi x.1)) (Zi (fun x:Lin×Unit=>(⟨ZE x.1⟩:Str))))]
abbrev b2d(a:List Lin):Nat×AV:=(0,(.pv (.sl 2 false (List.map enc a))))
theorem d6g{G:PV->Prop}(l:List Lin)(h:At Qz 0 (Za Uw G) Um 0 23 [(b2d l),(3,(.pv (.str []))),(4,(.pv (.int .i64 0)))] []):Zd Qz 0 (Za Uw G) Um [] (Zx 23 [enc l]):=Zd.tp (.nil) h
theorem MS{G:PV->Prop}(l:List Lin)(o:List UInt8)(i:Int)(h:if (Cn l i)=true then if (decide (i>0))=true then ZA o [(44:UInt8),(32:UInt8)]∧((Y1 l i 2 fun e=>((b8s [(.agg [(.int .i64 (PV.asInt (VD e))),(.sl 2 false (PV.asXs (Tu e)))])] fun a=>(ZA (o++[(44:UInt8),(32:UInt8)]) (Str.s a)∧(At Qz 0 (Za Uw G) Um 0 23 [(b2d l),(3,(.pv (.str (o++[(44:UInt8),(32:UInt8)]++Str.s a)))),(4,(.pv (.int .i64 (IntKind.wrap IntKind.i64 (i+1)))))] []))))))else((Y1 l i 2 fun b=>((b8s [(.agg [(.int .i64 (PV.asInt (VD b))),(.sl 2 false (PV.asXs (Tu b)))])] fun g=>(ZA o (Str.s g)∧(At Qz 0 (Za Uw G) Um 0 23 [(b2d l),(3,(.pv (.str (o++Str.s g)))),(4,(.pv (.int .i64 (IntKind.wrap IntKind.i64 (i+1)))))] []))))))else(G ((.str o)))):At Qz 0 (Za Uw G) Um 0 23 [(0,.pv (enc l)),(3,.pv (.str o)),(4,.pv (.int .i64 i))] []:=At.tp (dm [dr Lin,dv Str] 29 0x21612510216125110094201642) h
noncomputable def X3:IC:=YI Proofs.Tryz.f77
def XI:List IRes:=[(.tmp 2)]
abbrev e1m:Nat:=64
def WA(N:Nat):ZC:=Yh [(111,.pure (preT (fun x:List Lin×Unit=>decide (x.1.length<=1048576)&&x.1.all Zh)) (Zi (fun x:List Lin×Unit=>Yi (x.1.map Yu)))),(76,.pure (preT (fun x:Int×Unit=>decide (x.1.natAbs<9223372036854775808))) (Zi (fun x:Int×Unit=>Zp x.1))),(78,.pure (preT (fun x:List Tm×Unit=>(tsW x.1&&Wn x.1)&&decide (Yc x.1<N))) (Zi (fun x:List Tm×Unit=>Yi (x.1.map Zt))))]
theorem e5i{G:PV->Prop}(N:Nat)(n:Nd)(ks:List Tm)(h:if (decide ((↑(List.length (List.map enc (Nd.sizes n))):Int)>0))=true then(g6v [(.sl 2 false (List.map enc (Nd.sizes n)))] fun a=>(ZA [(91:UInt8)] (Str.s a)∧(ZA ([(91:UInt8)]++Str.s a) [(93:UInt8)]∧(ZA (Str.s (Nd.name n)) ([(91:UInt8)]++Str.s a++[(93:UInt8)])∧(if (Nd.num n != 0)=true then(MZ [(.int .i64 (Nd.num n))] fun b=>(ZA [(123:UInt8)] (Str.s b)∧(ZA ([(123:UInt8)]++Str.s b) [(125:UInt8)]∧(ZA (Str.s (Nd.name n)++([(91:UInt8)]++Str.s a++[(93:UInt8)])) ([(123:UInt8)]++Str.s b++[(125:UInt8)])∧(At (WA N) 0 (Za XI G) X3 0 64 [(1,(.ptr 0 0)),(3,(.pv (.str (Str.s (Nd.name n)++([(91:UInt8)]++Str.s a++[(93:UInt8)])++([(123:UInt8)]++Str.s b++[(125:UInt8)]))))),(4,(.pv (.int .i64 0)))] [(.obj (.box (ZY n ks)))])))))else(At (WA N) 0 (Za XI G) X3 0 64 [(1,(.ptr 0 0)),(3,(.pv (.str (Str.s (Nd.name n)++([(91:UInt8)]++Str.s a++[(93:UInt8)]))))),(4,(.pv (.int .i64 0)))] [(.obj (.box (ZY n ks)))]))))))else(if (Nd.num n != 0)=true then(MZ [(.int .i64 (Nd.num n))] fun e=>(ZA [(123:UInt8)] (Str.s e)∧(ZA ([(123:UInt8)]++Str.s e) [(125:UInt8)]∧(ZA (Str.s (Nd.name n)) ([(123:UInt8)]++Str.s e++[(125:UInt8)])∧(At (WA N) 0 (Za XI G) X3 0 64 [(1,(.ptr 0 0)),(3,(.pv (.str (Str.s (Nd.name n)++([(123:UInt8)]++Str.s e++[(125:UInt8)]))))),(4,(.pv (.int .i64 0)))] [(.obj (.box (ZY n ks)))])))))else(At (WA N) 0 (Za XI G) X3 0 64 [(1,(.ptr 0 0)),(3,(.pv (.str (Str.s (Nd.name n))))),(4,(.pv (.int .i64 0)))] [(.obj (.box (ZY n ks)))]))):Zd (WA N) 0 (Za XI G) X3 [] (Zx 64 [.agg [enc n.kind,enc n.line,enc n.name,enc n.num,enc n.elem,enc n.dims,enc n.data,enc n.sizes,enc n.ranks,enc ks]]):=Zd.tp (dm [dv Str] 35 0x11151006420011151006421115101142) h
theorem a2l{G:PV->Prop}(N:Nat)(n:Nd)(ks:List Tm)(o:List UInt8)(i:Int)(h:if (Cn (Nd.ranks n) i)=true then if (i==0)=true then ZA o [(64:UInt8),(40:UInt8)]∧((Y1 (Nd.ranks n) i 1 fun j=>((MZ [(.int .i64 (PV.asInt (VD j)))] fun a=>(ZA (o++[(64:UInt8),(40:UInt8)]) (Str.s a)∧(if (i==IntKind.wrap IntKind.i64 ((↑(List.length (List.map enc (Nd.ranks n))):Int) - 1))=true then ZA (o++[(64:UInt8),(40:UInt8)]++Str.s a) [(41:UInt8)]∧(At (WA N) 0 (Za XI G) X3 0 64 [(1,(.ptr 0 0)),(3,(.pv (.str (o++[(64:UInt8),(40:UInt8)]++Str.s a++[(41:UInt8)])))),(4,(.pv (.int .i64 (IntKind.wrap IntKind.i64 (i+1)))))] [(.obj (.box (ZY n ks)))])else(At (WA N) 0 (Za XI G) X3 0 64 [(1,(.ptr 0 0)),(3,(.pv (.str (o++[(64:UInt8),(40:UInt8)]++Str.s a)))),(4,(.pv (.int .i64 (IntKind.wrap IntKind.i64 (i+1)))))] [(.obj (.box (ZY n ks)))])))))))else(ZA o [(44:UInt8),(32:UInt8)]∧((Y1 (Nd.ranks n) i 1 fun g=>((MZ [(.int .i64 (PV.asInt (VD g)))] fun b=>(ZA (o++[(44:UInt8),(32:UInt8)]) (Str.s b)∧(if (i==IntKind.wrap IntKind.i64 ((↑(List.length (List.map enc (Nd.ranks n))):Int) - 1))=true then ZA (o++[(44:UInt8),(32:UInt8)]++Str.s b) [(41:UInt8)]∧(At (WA N) 0 (Za XI G) X3 0 64 [(1,(.ptr 0 0)),(3,(.pv (.str (o++[(44:UInt8),(32:UInt8)]++Str.s b++[(41:UInt8)])))),(4,(.pv (.int .i64 (IntKind.wrap IntKind.i64 (i+1)))))] [(.obj (.box (ZY n ks)))])else(At (WA N) 0 (Za XI G) X3 0 64 [(1,(.ptr 0 0)),(3,(.pv (.str (o++[(44:UInt8),(32:UInt8)]++Str.s b)))),(4,(.pv (.int .i64 (IntKind.wrap IntKind.i64 (i+1)))))] [(.obj (.box (ZY n ks)))]))))))))else(ZA o [(40:UInt8)]∧((PL N [(.sl 10 false (List.map enc ks))] fun e=>(ZA (o++[(40:UInt8)]) (Str.s e)∧(ZA (o++[(40:UInt8)]++Str.s e) [(41:UInt8)]∧(G ((.str (o++[(40:UInt8)]++Str.s e++[(41:UInt8)])))))))))):At (WA N) 0 (Za XI G) X3 0 64 [(1,.ptr 0 0),(3,.pv (.str o)),(4,.pv (.int .i64 i))] [.obj (.box [.pv (enc n.kind),.pv (enc n.line),.pv (enc n.name),.pv (enc n.num),.pv (enc n.elem),.pv (enc n.dims),.pv (enc n.data),.pv (enc n.sizes),.pv (enc n.ranks),.pv (enc ks)])]:=At.tp (dm [dr Int,dv Str] 53 0x116110202100342216125110202100342216125110124202942) h
noncomputable def a0z:IC:=YI Proofs.Tryz.f46
def P8:List IRes:=[(.tmp 2)]
abbrev d7g:Nat:=173
def Oy(N:Nat):ZC:=Yh [(73,.pure (preT (fun x:Tm×Unit=>tW x.1)) (Zi (fun x:Tm×Unit=>Cy x.1))),(75,.pure (preT (fun x:Tm×Unit=>tW x.1)) (Zi (fun x:Tm×Unit=>Wh x.1))),(74,.pure (preT (fun x:Tm×Bool×Unit=>(tW x.1&&Z9 x.1)&&decide (Z4 x.1<N))) (Zi (fun x:Tm×Bool×Unit=>Su x.2.1 x.1))),(46,.pure (preT (fun x:Tm×Unit=>(tW x.1&&Z9 x.1)&&decide (Z4 x.1<N))) (Zi (fun x:Tm×Unit=>Zt x.1))),(76,.pure (preT (fun x:Int×Unit=>decide (x.1.natAbs<9223372036854775808))) (Zi (fun x:Int×Unit=>Zp x.1))),(77,.pure (preT (fun x:Tm×Unit=>(tW x.1&&Z9 x.1&&decide (x.1.nd.kind=6))&&decide (Yc x.1.ks<N))) (Zi (fun x:Tm×Unit=>Kg x.1))),(78,.pure (preT (fun x:List Tm×Unit=>(tsW x.1&&Wn x.1)&&decide (Yc x.1<N))) (Zi (fun x:List Tm×Unit=>Yi (x.1.map Zt)))),(79,.pure (preT (fun x:Lin×Unit=>Wi x.1)) (Zi (fun x:Lin×Unit=>(⟨ZE x.1⟩:Str)))),(80,.pure (preT (fun x:Arr×Unit=>VH x.1&&WE x.1)) (Zi (fun x:Arr×Unit=>J8 x.1)))]
abbrev d6j(a:Nd)(XY:PV->Prop):Prop:=(if (Nd.num a==1)=true then XY ((.str [(116:UInt8),(114:UInt8),(117:UInt8),(101:UInt8)]))else(XY ((.str [(102:UInt8),(97:UInt8),(108:UInt8),(115:UInt8),(101:UInt8)]))))
theorem e6y{G:PV->Prop}(N:Nat)(n:Nd)(ks:List Tm)(h:(f2s (Dh n ks) fun e=>(if (!Str.s (R3.a e)==[])=true then if (R3.c e)=true then(Y1 ks 0 10 fun u=>(BL u=true∧((QH (Kz u) fun y2=>(if (decide (y2<6))=true then(WR N (NG u true) fun y3=>(ZA (Str.s (R3.a e)) (Str.s y3)∧(G ((.str (Str.s (R3.a e)++Str.s y3))))))else(if (Str.s (R3.a e)==[(45:UInt8)])=true then if (PV.asInt (VD u)==2)=true then if (PV.asStr (List.getD (PV.cells (enc u)) (0+1+1) default)==[(105:UInt8),(110:UInt8),(116:UInt8)])=true then(WR N (NG u (decide (PV.asInt (List.getD (PV.cells (enc u)) (0+1+1+1) default) ≥ 0))) fun y4=>(ZA (Str.s (R3.a e)) (Str.s y4)∧(G ((.str (Str.s (R3.a e)++Str.s y4))))))else((WR N (NG u false) fun y5=>(ZA (Str.s (R3.a e)) (Str.s y5)∧(G ((.str (Str.s (R3.a e)++Str.s y5)))))))else((WR N (NG u false) fun y6=>(ZA (Str.s (R3.a e)) (Str.s y6)∧(G ((.str (Str.s (R3.a e)++Str.s y6)))))))else((WR N (NG u false) fun y7=>(ZA (Str.s (R3.a e)) (Str.s y7)∧(G ((.str (Str.s (R3.a e)++Str.s y7)))))))))))))else(if (!Str.s (R3.a e)==[])=true then(Y1 ks 0 10 fun K=>(BL K=true∧((Y1 ks 1 10 fun A=>(BL A=true∧((QH (Kz K) fun y10=>(if (decide (y10<R3.b e))=true then(WR N (NG K true) fun q=>(ZA (Str.s q) [(32:UInt8)]∧(ZA (Str.s q++[(32:UInt8)]) (Str.s (R3.a e))∧(ZA (Str.s q++[(32:UInt8)]++Str.s (R3.a e)) [(32:UInt8)]∧((QH (Kz A) fun y12=>((WR N (NG A (decide (y12<=R3.b e))) fun O=>(ZA (Str.s q++[(32:UInt8)]++Str.s (R3.a e)++[(32:UInt8)]) (Str.s O)∧(G ((.str (Str.s q++[(32:UInt8)]++Str.s (R3.a e)++[(32:UInt8)]++Str.s O)))))))))))))else((QH (Kz K) fun y14=>(if (y14==3)=true then(WR N (NG K (R3.b e==3)) fun k=>(ZA (Str.s k) [(32:UInt8)]∧(ZA (Str.s k++[(32:UInt8)]) (Str.s (R3.a e))∧(ZA (Str.s k++[(32:UInt8)]++Str.s (R3.a e)) [(32:UInt8)]∧((QH (Kz A) fun y16=>((WR N (NG A (decide (y16<=R3.b e))) fun V=>(ZA (Str.s k++[(32:UInt8)]++Str.s (R3.a e)++[(32:UInt8)]) (Str.s V)∧(G ((.str (Str.s k++[(32:UInt8)]++Str.s (R3.a e)++[(32:UInt8)]++Str.s V)))))))))))))else((WR N (NG K false) fun j=>(ZA (Str.s j) [(32:UInt8)]∧(ZA (Str.s j++[(32:UInt8)]) (Str.s (R3.a e))∧(ZA (Str.s j++[(32:UInt8)]++Str.s (R3.a e)) [(32:UInt8)]∧((QH (Kz A) fun y19=>((WR N (NG A (decide (y19<=R3.b e))) fun S=>(ZA (Str.s j++[(32:UInt8)]++Str.s (R3.a e)++[(32:UInt8)]) (Str.s S)∧(G ((.str (Str.s j++[(32:UInt8)]++Str.s (R3.a e)++[(32:UInt8)]++Str.s S)))))))))))))))))))))))))else(if (Nd.kind n==5)=true then ZA [(108:UInt8),(101:UInt8),(116:UInt8),(32:UInt8)] (Str.s (Nd.name n))∧(ZA ([(108:UInt8),(101:UInt8),(116:UInt8),(32:UInt8)]++Str.s (Nd.name n)) [(32:UInt8),(61:UInt8),(32:UInt8)]∧((Y1 ks 0 10 fun U=>(BL U=true∧((S9 N (Kz U) fun z=>(ZA ([(108:UInt8),(101:UInt8),(116:UInt8),(32:UInt8)]++Str.s (Nd.name n)++[(32:UInt8),(61:UInt8),(32:UInt8)]) (Str.s z)∧(ZA ([(108:UInt8),(101:UInt8),(116:UInt8),(32:UInt8)]++Str.s (Nd.name n)++[(32:UInt8),(61:UInt8),(32:UInt8)]++Str.s z) [(32:UInt8),(105:UInt8),(110:UInt8),(32:UInt8)]∧((Y1 ks 1 10 fun T=>(BL T=true∧((S9 N (Kz T) fun L=>(ZA ([(108:UInt8),(101:UInt8),(116:UInt8),(32:UInt8)]++Str.s (Nd.name n)++[(32:UInt8),(61:UInt8),(32:UInt8)]++Str.s z++[(32:UInt8),(105:UInt8),(110:UInt8),(32:UInt8)]) (Str.s L)∧(G ((.str ([(108:UInt8),(101:UInt8),(116:UInt8),(32:UInt8)]++Str.s (Nd.name n)++[(32:UInt8),(61:UInt8),(32:UInt8)]++Str.s z++[(32:UInt8),(105:UInt8),(110:UInt8),(32:UInt8)]++Str.s L))))))))))))))))))else(if (Nd.kind n==2)=true then if (Str.s (Nd.name n)==[(105:UInt8),(110:UInt8),(116:UInt8)])=true then(MZ [(.int .i64 (Nd.num n))] fun y25=>(G ((.str (Str.s y25)))))else(d6j n G)else(if (Nd.kind n==6)=true then(d6a N (Dh n ks) fun y26=>(G ((.str (Str.s y26)))))else(if (Nd.kind n==7)=true then(PL N [(.sl 10 false (List.map enc ks))] fun H=>(ZA [(91:UInt8)] (Str.s H)∧(ZA ([(91:UInt8)]++Str.s H) [(93:UInt8)]∧(G ((.str ([(91:UInt8)]++Str.s H++[(93:UInt8)])))))))else(if (Nd.kind n==8)=true then ZA [(102:UInt8),(111:UInt8),(108:UInt8),(100:UInt8),(40:UInt8)] (Str.s (Nd.name n))∧(ZA ([(102:UInt8),(111:UInt8),(108:UInt8),(100:UInt8),(40:UInt8)]++Str.s (Nd.name n)) [(44:UInt8),(32:UInt8)]∧((PL N [(.sl 10 false (List.map enc ks))] fun E=>(ZA ([(102:UInt8),(111:UInt8),(108:UInt8),(100:UInt8),(40:UInt8)]++Str.s (Nd.name n)++[(44:UInt8),(32:UInt8)]) (Str.s E)∧(ZA ([(102:UInt8),(111:UInt8),(108:UInt8),(100:UInt8),(40:UInt8)]++Str.s (Nd.name n)++[(44:UInt8),(32:UInt8)]++Str.s E) [(41:UInt8)]∧(G ((.str ([(102:UInt8),(111:UInt8),(108:UInt8),(100:UInt8),(40:UInt8)]++Str.s (Nd.name n)++[(44:UInt8),(32:UInt8)]++Str.s E++[(41:UInt8)])))))))))else(if (Nd.kind n==9)=true then ZA [(115:UInt8),(99:UInt8),(97:UInt8),(110:UInt8),(40:UInt8)] (Str.s (Nd.name n))∧(ZA ([(115:UInt8),(99:UInt8),(97:UInt8),(110:UInt8),(40:UInt8)]++Str.s (Nd.name n)) [(44:UInt8),(32:UInt8)]∧((PL N [(.sl 10 false (List.map enc ks))] fun J=>(ZA ([(115:UInt8),(99:UInt8),(97:UInt8),(110:UInt8),(40:UInt8)]++Str.s (Nd.name n)++[(44:UInt8),(32:UInt8)]) (Str.s J)∧(ZA ([(115:UInt8),(99:UInt8),(97:UInt8),(110:UInt8),(40:UInt8)]++Str.s (Nd.name n)++[(44:UInt8),(32:UInt8)]++Str.s J) [(41:UInt8)]∧(G ((.str ([(115:UInt8),(99:UInt8),(97:UInt8),(110:UInt8),(40:UInt8)]++Str.s (Nd.name n)++[(44:UInt8),(32:UInt8)]++Str.s J++[(41:UInt8)])))))))))else(if (Nd.kind n==4)=true then(Y1 (Nd.sizes n) 0 2 fun Y=>((b8s [(.agg [(.int .i64 (PV.asInt (VD Y))),(.sl 2 false (PV.asXs (Tu Y)))])] fun D=>(ZA [(115:UInt8),(105:UInt8),(122:UInt8),(101:UInt8),(91:UInt8)] (Str.s D)∧(ZA ([(115:UInt8),(105:UInt8),(122:UInt8),(101:UInt8),(91:UInt8)]++Str.s D) [(93:UInt8)]∧(G ((.str ([(115:UInt8),(105:UInt8),(122:UInt8),(101:UInt8),(91:UInt8)]++Str.s D++[(93:UInt8)])))))))))else(if (Nd.kind n==3)=true then(d7m [(.agg [(.str (Str.s (Nd.elem n))),(.sl 1 false (List.map enc (Nd.dims n))),(.sl 1 false (List.map enc (Nd.data n)))])] fun y32=>(G ((.str (Str.s y32.1)))))else(G ((.str (Str.s (Nd.name n))))))))))))))else(if (!Str.s (R3.a e)==[])=true then(Y1 ks 0 10 fun i=>(BL i=true∧((Y1 ks 1 10 fun g=>(BL g=true∧((QH (Kz i) fun y35=>(if (decide (y35<R3.b e))=true then(WR N (NG i true) fun l=>(ZA (Str.s l) [(32:UInt8)]∧(ZA (Str.s l++[(32:UInt8)]) (Str.s (R3.a e))∧(ZA (Str.s l++[(32:UInt8)]++Str.s (R3.a e)) [(32:UInt8)]∧((QH (Kz g) fun y37=>((WR N (NG g (decide (y37<=R3.b e))) fun M=>(ZA (Str.s l++[(32:UInt8)]++Str.s (R3.a e)++[(32:UInt8)]) (Str.s M)∧(G ((.str (Str.s l++[(32:UInt8)]++Str.s (R3.a e)++[(32:UInt8)]++Str.s M)))))))))))))else((QH (Kz i) fun y39=>(if (y39==3)=true then(WR N (NG i (R3.b e==3)) fun r=>(ZA (Str.s r) [(32:UInt8)]∧(ZA (Str.s r++[(32:UInt8)]) (Str.s (R3.a e))∧(ZA (Str.s r++[(32:UInt8)]++Str.s (R3.a e)) [(32:UInt8)]∧((QH (Kz g) fun y41=>((WR N (NG g (decide (y41<=R3.b e))) fun X=>(ZA (Str.s r++[(32:UInt8)]++Str.s (R3.a e)++[(32:UInt8)]) (Str.s X)∧(G ((.str (Str.s r++[(32:UInt8)]++Str.s (R3.a e)++[(32:UInt8)]++Str.s X)))))))))))))else((WR N (NG i false) fun m=>(ZA (Str.s m) [(32:UInt8)]∧(ZA (Str.s m++[(32:UInt8)]) (Str.s (R3.a e))∧(ZA (Str.s m++[(32:UInt8)]++Str.s (R3.a e)) [(32:UInt8)]∧((QH (Kz g) fun y44=>((WR N (NG g (decide (y44<=R3.b e))) fun P=>(ZA (Str.s m++[(32:UInt8)]++Str.s (R3.a e)++[(32:UInt8)]) (Str.s P)∧(G ((.str (Str.s m++[(32:UInt8)]++Str.s (R3.a e)++[(32:UInt8)]++Str.s P)))))))))))))))))))))))))else(if (Nd.kind n==5)=true then ZA [(108:UInt8),(101:UInt8),(116:UInt8),(32:UInt8)] (Str.s (Nd.name n))∧(ZA ([(108:UInt8),(101:UInt8),(116:UInt8),(32:UInt8)]++Str.s (Nd.name n)) [(32:UInt8),(61:UInt8),(32:UInt8)]∧((Y1 ks 0 10 fun W=>(BL W=true∧((S9 N (Kz W) fun y=>(ZA ([(108:UInt8),(101:UInt8),(116:UInt8),(32:UInt8)]++Str.s (Nd.name n)++[(32:UInt8),(61:UInt8),(32:UInt8)]) (Str.s y)∧(ZA ([(108:UInt8),(101:UInt8),(116:UInt8),(32:UInt8)]++Str.s (Nd.name n)++[(32:UInt8),(61:UInt8),(32:UInt8)]++Str.s y) [(32:UInt8),(105:UInt8),(110:UInt8),(32:UInt8)]∧((Y1 ks 1 10 fun Z=>(BL Z=true∧((S9 N (Kz Z) fun Q=>(ZA ([(108:UInt8),(101:UInt8),(116:UInt8),(32:UInt8)]++Str.s (Nd.name n)++[(32:UInt8),(61:UInt8),(32:UInt8)]++Str.s y++[(32:UInt8),(105:UInt8),(110:UInt8),(32:UInt8)]) (Str.s Q)∧(G ((.str ([(108:UInt8),(101:UInt8),(116:UInt8),(32:UInt8)]++Str.s (Nd.name n)++[(32:UInt8),(61:UInt8),(32:UInt8)]++Str.s y++[(32:UInt8),(105:UInt8),(110:UInt8),(32:UInt8)]++Str.s Q))))))))))))))))))else(if (Nd.kind n==2)=true then if (Str.s (Nd.name n)==[(105:UInt8),(110:UInt8),(116:UInt8)])=true then(MZ [(.int .i64 (Nd.num n))] fun y50=>(G ((.str (Str.s y50)))))else(d6j n G)else(if (Nd.kind n==6)=true then(d6a N (Dh n ks) fun y51=>(G ((.str (Str.s y51)))))else(if (Nd.kind n==7)=true then(PL N [(.sl 10 false (List.map enc ks))] fun F=>(ZA [(91:UInt8)] (Str.s F)∧(ZA ([(91:UInt8)]++Str.s F) [(93:UInt8)]∧(G ((.str ([(91:UInt8)]++Str.s F++[(93:UInt8)])))))))else(if (Nd.kind n==8)=true then ZA [(102:UInt8),(111:UInt8),(108:UInt8),(100:UInt8),(40:UInt8)] (Str.s (Nd.name n))∧(ZA ([(102:UInt8),(111:UInt8),(108:UInt8),(100:UInt8),(40:UInt8)]++Str.s (Nd.name n)) [(44:UInt8),(32:UInt8)]∧((PL N [(.sl 10 false (List.map enc ks))] fun C=>(ZA ([(102:UInt8),(111:UInt8),(108:UInt8),(100:UInt8),(40:UInt8)]++Str.s (Nd.name n)++[(44:UInt8),(32:UInt8)]) (Str.s C)∧(ZA ([(102:UInt8),(111:UInt8),(108:UInt8),(100:UInt8),(40:UInt8)]++Str.s (Nd.name n)++[(44:UInt8),(32:UInt8)]++Str.s C) [(41:UInt8)]∧(G ((.str ([(102:UInt8),(111:UInt8),(108:UInt8),(100:UInt8),(40:UInt8)]++Str.s (Nd.name n)++[(44:UInt8),(32:UInt8)]++Str.s C++[(41:UInt8)])))))))))else(if (Nd.kind n==9)=true then ZA [(115:UInt8),(99:UInt8),(97:UInt8),(110:UInt8),(40:UInt8)] (Str.s (Nd.name n))∧(ZA ([(115:UInt8),(99:UInt8),(97:UInt8),(110:UInt8),(40:UInt8)]++Str.s (Nd.name n)) [(44:UInt8),(32:UInt8)]∧((PL N [(.sl 10 false (List.map enc ks))] fun I=>(ZA ([(115:UInt8),(99:UInt8),(97:UInt8),(110:UInt8),(40:UInt8)]++Str.s (Nd.name n)++[(44:UInt8),(32:UInt8)]) (Str.s I)∧(ZA ([(115:UInt8),(99:UInt8),(97:UInt8),(110:UInt8),(40:UInt8)]++Str.s (Nd.name n)++[(44:UInt8),(32:UInt8)]++Str.s I) [(41:UInt8)]∧(G ((.str ([(115:UInt8),(99:UInt8),(97:UInt8),(110:UInt8),(40:UInt8)]++Str.s (Nd.name n)++[(44:UInt8),(32:UInt8)]++Str.s I++[(41:UInt8)])))))))))else(if (Nd.kind n==4)=true then(Y1 (Nd.sizes n) 0 2 fun y55=>((b8s [(.agg [(.int .i64 (PV.asInt (VD y55))),(.sl 2 false (PV.asXs (Tu y55)))])] fun B=>(ZA [(115:UInt8),(105:UInt8),(122:UInt8),(101:UInt8),(91:UInt8)] (Str.s B)∧(ZA ([(115:UInt8),(105:UInt8),(122:UInt8),(101:UInt8),(91:UInt8)]++Str.s B) [(93:UInt8)]∧(G ((.str ([(115:UInt8),(105:UInt8),(122:UInt8),(101:UInt8),(91:UInt8)]++Str.s B++[(93:UInt8)])))))))))else(if (Nd.kind n==3)=true then(d7m [(.agg [(.str (Str.s (Nd.elem n))),(.sl 1 false (List.map enc (Nd.dims n))),(.sl 1 false (List.map enc (Nd.data n)))])] fun y57=>(G ((.str (Str.s y57.1)))))else(G ((.str (Str.s (Nd.name n))))))))))))))))):Zd (Oy N) 0 (Za P8 G) a0z [] (Zx 173 [.agg [enc n.kind,enc n.line,enc n.name,enc n.num,enc n.elem,enc n.dims,enc n.data,enc n.sizes,enc n.ranks,enc ks]]):=Zd.tp (dm [dv (R3 Str Int Bool),dr Tm,dv Int,dv Str,dr Lin,dv (Str×Int)] 485 0xa100342011812910084201181110074201181110074201181005420810034200001420810034200f420181161118116111010420181271111812222018127111181222220114222712018127111181222220114271161161049422200a100342011812910084201181110074201181110074201181005420810034200001420810034200f42018116111811611101042018127111181222201812711118122222011422271201812711118122222011427116116104942018122222222222222222018122222222222018122222018122222200a422222201d4222222036422201812222222200c4271161068421244251) h
noncomputable def Qs:IC:=YI Proofs.Tryz.f44
def Ut:List IRes:=[(.tmp 2)]
abbrev c4i:Nat:=22
def QB:ZC:=Yh [(70,.pure (preT (fun x:Tm×Unit=>tW x.1)) (Zi (fun x:Tm×Unit=>Y7 x.1))),(71,.pure (preT (fun x:Tm×Unit=>tW x.1)) (Zi (fun x:Tm×Unit=>JZ x.1))),(20,.pure (preT (fun x:Str×Unit=>decide (x.1.s.length<=1048576))) (Zi (fun x:Str×Unit=>nameI x.1.s)))]
theorem d9r{G:PV->Prop}(n:Nd)(ks:List Tm)(h:(f9v (Dh n ks) fun b=>(if (!b)=true then G ((.bool false))else((f8v (Dh n ks) fun a=>(At QB 0 (Za Ut G) Qs 0 22 [(3,(.pv (.sl 1 false (List.map enc a)))),(4,(.pv (.int .i64 0)))] [])))))):Zd QB 0 (Za Ut G) Qs [] (Zx 22 [.agg [enc n.kind,enc n.line,enc n.name,enc n.num,enc n.elem,enc n.dims,enc n.data,enc n.sizes,enc n.ranks,enc ks]]):=Zd.tp (dm [dv Bool,dv (List Str)] 11 0x610001451) h
theorem LC{G:PV->Prop}(n:Nd)(ks:List Tm)(l:List Str)(i:Int)(h:if (Cn l i)=true then(Y1 l i 1 fun b=>((f8z [(.str (PV.asStr (VD b)))] fun a=>(if (!a)=true then G ((.bool false))else(At QB 0 (Za Ut G) Qs 0 22 [(PM l),(4,(.pv (.int .i64 (IntKind.wrap IntKind.i64 (i+1)))))] [])))))else(G ((.bool true)))):At QB 0 (Za Ut G) Qs 0 22 [(3,.pv (enc l)),(4,.pv (.int .i64 i))] []:=At.tp (dm [dr Str,dv Bool] 19 0x2000146125100c42) h
end Go.Pl
namespace Go.Pl
open Go.RowKit
open Enc (enc dec is)
open EncL (encL decL isL)
set_option maxRecDepth 100000
abbrev g3o(ps:List PV)(k:Bool->Prop):Prop:=Ym (fun(x:UInt8×Unit)=>true) (fun(x:UInt8×Unit)=>lowB (Prod.fst x)) ps k
abbrev g3m(ps:List PV)(k:Bool->Prop):Prop:=Ym (fun(x:UInt8×Unit)=>true) (fun(x:UInt8×Unit)=>digB (Prod.fst x)) ps k
abbrev a0n(ps:List PV)(k:Bool->Prop):Prop:=Ym (fun(x:Str×Unit)=>decide (List.length (Str.s (Prod.fst x))<=1048576)) (fun(x:Str×Unit)=>nameI (Str.s (Prod.fst x))) ps k
abbrev g1l(ps:List PV)(k:Bool->Prop):Prop:=Ym (fun(x:Str×Unit)=>decide (List.length (Str.s (Prod.fst x))<=1048576)) (fun(x:Str×Unit)=>fullI (Str.s (Prod.fst x))) ps k
abbrev g4h(ps:List PV)(k:Bool->Prop):Prop:=Ym (fun(x:Lin×Unit)=>XM (Prod.fst x)) (fun(x:Lin×Unit)=>Zh (Prod.fst x)) ps k
abbrev QX(ps:List PV)(k:Bool->Prop):Prop:=Ym (fun(x:Tm×Bool×Bool×Bool×Bool×Bool×Unit)=>tW (Prod.fst x)) (fun(x:Tm×Bool×Bool×Bool×Bool×Bool×Unit)=>Yz (Tm.nd (Prod.fst x)) (Prod.fst (Prod.snd x)) (Prod.fst (Prod.snd (Prod.snd x))) (Prod.fst (Prod.snd (Prod.snd (Prod.snd x)))) (Prod.fst (Prod.snd (Prod.snd (Prod.snd (Prod.snd x))))) (Prod.fst (Prod.snd (Prod.snd (Prod.snd (Prod.snd (Prod.snd x))))))) ps k
abbrev g5m(ps:List PV)(k:Bool->Prop):Prop:=Ym (fun(x:Arr×Unit)=>VH (Prod.fst x)) (fun(x:Arr×Unit)=>WE (Prod.fst x)) ps k
abbrev f1v(ps:List PV)(k:Bool->Prop):Prop:=Ym (fun(x:List Lin×Unit)=>decide (List.length (Prod.fst x)<=1048576)&&List.all (Prod.fst x) XM) (fun(x:List Lin×Unit)=>List.all (Prod.fst x) Zh) ps k
abbrev d6p(ps:List PV)(k:Bool->Prop):Prop:=Ym (fun(x:Str×Unit)=>decide (List.length (Str.s (Prod.fst x))<=1048576)) (fun(x:Str×Unit)=>CY (Str.s (Prod.fst x))) ps k
abbrev g1i(N:Nat)(ps:List PV)(k:Bool->Prop):Prop:=Ym (fun(x:Tm×Unit)=>tW (Prod.fst x)&&decide (Z4 (Prod.fst x)<N)) (fun(x:Tm×Unit)=>Z9 (Prod.fst x)) ps k
abbrev f8j(ps:List PV)(k:Bool->Prop):Prop:=Ym (fun(x:Tm×Unit)=>tW (Prod.fst x)) (fun(x:Tm×Unit)=>Hm (Prod.fst x)) ps k
abbrev f9o(ps:List PV)(k:Int->Prop):Prop:=Ym (fun(x:Tm×Unit)=>tW (Prod.fst x)) (fun(x:Tm×Unit)=>(↑(Yb (Prod.fst x)):Int)) ps k
abbrev f7o(ps:List PV)(k:Int->Prop):Prop:=Ym (fun(x:Tm×Unit)=>tW (Prod.fst x)) (fun(x:Tm×Unit)=>(↑(Z4 (Prod.fst x)):Int)) ps k
abbrev f6r(ps:List PV)(k:Bool->Prop):Prop:=Ym (fun(x:Tm×Unit)=>tW (Prod.fst x)) (fun(x:Tm×Unit)=>Z9 (Prod.fst x)) ps k
abbrev YW(ps:List PV)(k:R3 Str Int Bool->Prop):Prop:=ceP (fun(x:Str×Bool×Unit)=>Vd (Prod.fst x) (Prod.fst (Prod.snd x))) ps k
noncomputable def Mv:IC:=Re
def Ls:List IRes:=[(.tmp 2)]
abbrev c3w:Nat:=9
def a0o:ZC:=Yh []
theorem d7x{G:PV->Prop}(c:UInt8)(h:if (decide ((↑(UInt8.toNat c):Int) ≥ 97))=true then G ((.bool (decide ((↑(UInt8.toNat c):Int)<=122))))else(G ((.bool false)))):Zd a0o 0 (Za Ls G) Mv [] (Zx 9 [enc c]):=Zd.tp (dm [] 13 0x22022200442) h
noncomputable def LM:IC:=TT
def Li:List IRes:=[(.tmp 2)]
abbrev b9w:Nat:=9
def a0i:ZC:=Yh []
theorem d4j{G:PV->Prop}(c:UInt8)(h:if (decide ((↑(UInt8.toNat c):Int) ≥ 48))=true then G ((.bool (decide ((↑(UInt8.toNat c):Int)<=57))))else(G ((.bool false)))):Zd a0i 0 (Za Li G) LM [] (Zx 9 [enc c]):=Zd.tp (dm [] 13 0x22022200442) h
noncomputable def b4k:IC:=Oc
def b9c:List IRes:=[(.tmp 2)]
abbrev e2v:Nat:=19
def e1k:ZC:=Yh []
theorem f3m{G:PV->Prop}(s:List UInt8)(h:if (s==[(98:UInt8),(111:UInt8),(111:UInt8),(108:UInt8)])=true then G ((.bool true))else(if (s==[(100:UInt8),(101:UInt8),(102:UInt8)])=true then G ((.bool true))else(if (s==[(101:UInt8),(120:UInt8),(112:UInt8),(111:UInt8),(114:UInt8),(116:UInt8)])=true then G ((.bool true))else(if (s==[(102:UInt8),(97:UInt8),(108:UInt8),(115:UInt8),(101:UInt8)])=true then G ((.bool true))else(if (s==[(102:UInt8),(111:UInt8),(108:UInt8),(100:UInt8)])=true then G ((.bool true))else(if (s==[(105:UInt8),(109:UInt8),(112:UInt8),(111:UInt8),(114:UInt8),(116:UInt8)])=true then G ((.bool true))else(if (s==[(105:UInt8),(110:UInt8)])=true then G ((.bool true))else(if (s==[(105:UInt8),(110:UInt8),(116:UInt8)])=true then G ((.bool true))else(if (s==[(108:UInt8),(101:UInt8),(116:UInt8)])=true then G ((.bool true))else(if (s==[(109:UInt8),(111:UInt8),(100:UInt8),(117:UInt8),(108:UInt8),(101:UInt8)])=true then G ((.bool true))else(if (s==[(115:UInt8),(99:UInt8),(97:UInt8),(110:UInt8)])=true then G ((.bool true))else(if (s==[(115:UInt8),(105:UInt8),(122:UInt8),(101:UInt8)])=true then G ((.bool true))else(if (s==[(116:UInt8),(114:UInt8),(117:UInt8),(101:UInt8)])=true then G ((.bool true))else(if (s==[(119:UInt8),(104:UInt8),(101:UInt8),(114:UInt8),(101:UInt8)])=true then G ((.bool true))else(G ((.bool false))))))))))))))))):Zd e1k 0 (Za b9c G) b4k [] (Zx 19 [.str s]):=Zd.tp (dm [] 99 0x1420200242020024202002420200242020024202002420200242020024202002420200242020024202002420200242) h
noncomputable def UR:IC:=YI Proofs.Tryz.f20
def UO:List IRes:=[(.tmp 2)]
abbrev c8i:Nat:=39
def Kj:ZC:=Yh [(40,.pure (preT (fun _:UInt8×Unit=>true)) (Zi (fun x:UInt8×Unit=>lowB x.1))),(41,.pure (preT (fun _:UInt8×Unit=>true)) (Zi (fun x:UInt8×Unit=>digB x.1))),(42,.pure (preT (fun _:Str×Unit=>true)) (Zi (fun x:Str×Unit=>QZ.contains x.1.s)))]
theorem e2q{G:PV->Prop}(s:List UInt8)(h:At Kj 0 (Za UO G) UR 0 39 [(0,(.pv (.str s))),(3,(.pv (.int .i64 0)))] []):Zd Kj 0 (Za UO G) UR [] (Zx 39 [.str s]):=Zd.tp (.nil) h
abbrev FI(a:Int)(XY:List UInt8):Bool:=(decide (0<=a)&&decide (Int.toNat a<List.length XY))
theorem CO{G:PV->Prop}(s:List UInt8)(i:Int)(h:if (decide (i<(↑(List.length s):Int)))=true then(FI i s)=true∧((g3o [(.int IntKind.u8 (↑(UInt8.toNat (List.getD s (Int.toNat i) (0:UInt8))):Int))] fun b=>(if (!b)=true then if (i==0)=true then G ((.bool false))else((FI i s)=true∧((g3m [(.int IntKind.u8 (↑(UInt8.toNat (List.getD s (Int.toNat i) (0:UInt8))):Int))] fun a=>(if (!a)=true then G ((.bool false))else(At Kj 0 (Za UO G) UR 0 39 [(0,(.pv (.str s))),(3,(.pv (.int .i64 (IntKind.wrap IntKind.i64 (i+1)))))] [])))))else(At Kj 0 (Za UO G) UR 0 39 [(0,(.pv (.str s))),(3,(.pv (.int .i64 (IntKind.wrap IntKind.i64 (i+1)))))] []))))else(if (decide ((↑(List.length s):Int) ≥ 1))=true then if (decide ((↑(List.length s):Int)<=30))=true then Tt (fun(x:Str×Unit)=>List.contains QZ (Str.s x.1)) [(.str s)] fun e:Bool=>G ((.bool !e))else(G ((.bool false)))else(G ((.bool false))))):At Kj 0 (Za UO G) UR 0 39 [(0,.pv (.str s)),(3,.pv (.int .i64 i))] []:=At.tp (dm [dv Bool] 84 0x2222222022202252200642222012420222222020001422225121220222222220094222021451102f42) h
noncomputable def KV:IC:=YI Proofs.Tryz.f200
def KT:List IRes:=[(.tmp 2)]
abbrev d0r:Nat:=25
def Gs:ZC:=Yh [(20,.pure (preT (fun x:Str×Unit=>decide (x.1.s.length<=1048576))) (Zi (fun x:Str×Unit=>nameI x.1.s)))]
theorem e4x{G:PV->Prop}(s:List UInt8)(h:At Gs 0 (Za KT G) KV 0 25 [(0,(.pv (.str s))),(3,(.pv (.int .i64 0)))] []):Zd Gs 0 (Za KT G) KV [] (Zx 25 [.str s]):=Zd.tp (.nil) h
theorem a6s{G:PV->Prop}(s:List UInt8)(i:Int)(h:if (decide (i<(↑(List.length s):Int)))=true then(FI i s)=true∧(if ((↑(UInt8.toNat (List.getD s (Int.toNat i) (0:UInt8))):Int)==46)=true then(true&&decide (0<=i)&&decide (0<=Int.toNat i)&&decide (Int.toNat i<=List.length s))=true∧((a0n [(.str (List.drop 0 (List.take (Int.toNat i) s)))] fun b=>(if (b)=true then(decide (0<=IntKind.wrap IntKind.i64 (i+1))&&true&&decide (Int.toNat (IntKind.wrap IntKind.i64 (i+1))<=List.length s)&&decide (List.length s<=List.length s))=true∧((a0n [(.str (List.drop (Int.toNat (IntKind.wrap IntKind.i64 (i+1))) (List.take (List.length s) s)))] fun a=>(G ((.bool a)))))else(G ((.bool false))))))else(At Gs 0 (Za KT G) KV 0 25 [(0,(.pv (.str s))),(3,(.pv (.int .i64 (IntKind.wrap IntKind.i64 (i+1)))))] []))else(G ((.bool false)))):At Gs 0 (Za KT G) KV 0 25 [(0,.pv (.str s)),(3,.pv (.int .i64 i))] []:=At.tp (dm [dv Bool] 38 0x2022222025121222200a451101742101f42) h
noncomputable def b6b:IC:=YI Proofs.Tryz.f164
def b6r:List IRes:=[(.tmp 2)]
abbrev e7t:Nat:=9
def d4d:ZC:=Yh [(20,.pure (preT (fun x:Str×Unit=>decide (x.1.s.length<=1048576))) (Zi (fun x:Str×Unit=>nameI x.1.s))),(200,.pure (preT (fun x:Str×Unit=>decide (x.1.s.length<=1048576))) (Zi (fun x:Str×Unit=>fullI x.1.s)))]
theorem f8w{G:PV->Prop}(s:List UInt8)(h:(a0n [(.str s)] fun b=>(if (b)=true then G ((.bool true))else((g1l [(.str s)] fun a=>(G ((.bool a)))))))):Zd d4d 0 (Za b6r G) b6b [] (Zx 9 [.str s]):=Zd.tp (dm [dv Bool] 15 0x2512022003451) h
noncomputable def LZ:IC:=YI Proofs.Tryz.f162
def GN:List IRes:=[(.tmp 12)]
abbrev c4l:Nat:=66
def a5u:ZC:=Yh []
theorem d5x{G:PV->Prop}(n:Nd)(ks:List Tm)(a b c d e:Bool)(h:if (a)=true then if (b)=true then if (c)=true then if (d)=true then if (e)=true then G ((.bool true))else(G ((.bool ((↑(List.length (List.map enc (Nd.ranks n))):Int)==0))))else(if ((↑(List.length (List.map enc (Nd.sizes n))):Int)==0)=true then if (e)=true then G ((.bool true))else(G ((.bool ((↑(List.length (List.map enc (Nd.ranks n))):Int)==0))))else(G ((.bool false))))else(if (Str.s (Nd.elem n)==[])=true then if (IntKind.wrap IntKind.i64 ((↑(List.length (List.map enc (Nd.dims n))):Int)+(↑(List.length (List.map enc (Nd.data n))):Int))==0)=true then if (d)=true then if (e)=true then G ((.bool true))else(G ((.bool ((↑(List.length (List.map enc (Nd.ranks n))):Int)==0))))else(if ((↑(List.length (List.map enc (Nd.sizes n))):Int)==0)=true then if (e)=true then G ((.bool true))else(G ((.bool ((↑(List.length (List.map enc (Nd.ranks n))):Int)==0))))else(G ((.bool false))))else(G ((.bool false)))else(G ((.bool false))))else(if (Nd.num n==0)=true then if (c)=true then if (d)=true then if (e)=true then G ((.bool true))else(G ((.bool ((↑(List.length (List.map enc (Nd.ranks n))):Int)==0))))else(if ((↑(List.length (List.map enc (Nd.sizes n))):Int)==0)=true then if (e)=true then G ((.bool true))else(G ((.bool ((↑(List.length (List.map enc (Nd.ranks n))):Int)==0))))else(G ((.bool false))))else(if (Str.s (Nd.elem n)==[])=true then if (IntKind.wrap IntKind.i64 ((↑(List.length (List.map enc (Nd.dims n))):Int)+(↑(List.length (List.map enc (Nd.data n))):Int))==0)=true then if (d)=true then if (e)=true then G ((.bool true))else(G ((.bool ((↑(List.length (List.map enc (Nd.ranks n))):Int)==0))))else(if ((↑(List.length (List.map enc (Nd.sizes n))):Int)==0)=true then if (e)=true then G ((.bool true))else(G ((.bool ((↑(List.length (List.map enc (Nd.ranks n))):Int)==0))))else(G ((.bool false))))else(G ((.bool false)))else(G ((.bool false))))else(G ((.bool false))))else(if (Str.s (Nd.name n)==[])=true then if (b)=true then if (c)=true then if (d)=true then if (e)=true then G ((.bool true))else(G ((.bool ((↑(List.length (List.map enc (Nd.ranks n))):Int)==0))))else(if ((↑(List.length (List.map enc (Nd.sizes n))):Int)==0)=true then if (e)=true then G ((.bool true))else(G ((.bool ((↑(List.length (List.map enc (Nd.ranks n))):Int)==0))))else(G ((.bool false))))else(if (Str.s (Nd.elem n)==[])=true then if (IntKind.wrap IntKind.i64 ((↑(List.length (List.map enc (Nd.dims n))):Int)+(↑(List.length (List.map enc (Nd.data n))):Int))==0)=true then if (d)=true then if (e)=true then G ((.bool true))else(G ((.bool ((↑(List.length (List.map enc (Nd.ranks n))):Int)==0))))else(if ((↑(List.length (List.map enc (Nd.sizes n))):Int)==0)=true then if (e)=true then G ((.bool true))else(G ((.bool ((↑(List.length (List.map enc (Nd.ranks n))):Int)==0))))else(G ((.bool false))))else(G ((.bool false)))else(G ((.bool false))))else(if (Nd.num n==0)=true then if (c)=true then if (d)=true then if (e)=true then G ((.bool true))else(G ((.bool ((↑(List.length (List.map enc (Nd.ranks n))):Int)==0))))else(if ((↑(List.length (List.map enc (Nd.sizes n))):Int)==0)=true then if (e)=true then G ((.bool true))else(G ((.bool ((↑(List.length (List.map enc (Nd.ranks n))):Int)==0))))else(G ((.bool false))))else(if (Str.s (Nd.elem n)==[])=true then if (IntKind.wrap IntKind.i64 ((↑(List.length (List.map enc (Nd.dims n))):Int)+(↑(List.length (List.map enc (Nd.data n))):Int))==0)=true then if (d)=true then if (e)=true then G ((.bool true))else(G ((.bool ((↑(List.length (List.map enc (Nd.ranks n))):Int)==0))))else(if ((↑(List.length (List.map enc (Nd.sizes n))):Int)==0)=true then if (e)=true then G ((.bool true))else(G ((.bool ((↑(List.length (List.map enc (Nd.ranks n))):Int)==0))))else(G ((.bool false))))else(G ((.bool false)))else(G ((.bool false))))else(G ((.bool false))))else(G ((.bool false))))):Zd a5u 0 (Za GN G) LZ [] (Zx 66 [.agg [enc n.kind,enc n.line,enc n.name,enc n.num,enc n.elem,enc n.dims,enc n.data,enc n.sizes,enc n.ranks,enc ks],.bool a,.bool b,.bool c,.bool d,.bool e]):=Zd.tp (dm [] 931 0x22222222222222202222222222202222222222222222222222022222220222022222220222222007420144222222202222222022222200742222222201b420434222222222222222205f4222220222022222220222222007420144222222202222222022222200742222222201b4222222222204c420d0422222202222222222222222222222022222220222022222220222222007420144222222202222222022222200742222222201b420434222222222222222205f4222220222022222220222222007420144222222202222222022222200742222222201b4222222222204c422222220d6421c14222202222222222202222222222222222222222022222220222022222220222222007420144222222202222222022222200742222222201b420434222222222222222205f4222220222022222220222222007420144222222202222222022222200742222222201b4222222222204c420d0422222202222222222222222222222022222220222022222220222222007420144222222202222222022222200742222222201b420434222222222222222205f4222220222022222220222222007420144222222202222222022222200742222222201b4222222222204c422222220d64222221c54) h
noncomputable def G9:IC:=YI Proofs.Tryz.f163
def GR:List IRes:=[(.tmp 2)]
abbrev f0o:Nat:=16
def Sg:ZC:=Yh [(112,.pure (preT (fun x:Lin×Unit=>XM x.1)) (Zi (fun x:Lin×Unit=>Zh x.1)))]
theorem f6o{G:PV->Prop}(l:List Lin)(h:At Sg 0 (Za GR G) G9 0 16 [(0,(.pv (.sl 2 false (List.map enc l)))),(3,(.pv (.int .i64 0)))] []):Zd Sg 0 (Za GR G) G9 [] (Zx 16 [enc l]):=Zd.tp (.nil) h
theorem b6u{G:PV->Prop}(l:List Lin)(i:Int)(h:if (Cn l i)=true then(Y1 l i 2 fun a=>((g4h [(.agg [(.int .i64 (PV.asInt (VD a))),(.sl 2 false (PV.asXs (Tu a)))])] fun b=>(if (!b)=true then G ((.bool false))else(At Sg 0 (Za GR G) G9 0 16 [(0,(.pv (.sl 2 false (List.map enc l)))),(3,(.pv (.int .i64 (IntKind.wrap IntKind.i64 (i+1)))))] [])))))else(G ((.bool true)))):At Sg 0 (Za GR G) G9 0 16 [(0,.pv (enc l)),(3,.pv (.int .i64 i))] []:=At.tp (dm [dr Lin,dv Bool] 19 0x2000146125100c42) h
noncomputable def QU:IC:=YI Proofs.Tryz.f139
def UZ:List IRes:=[(.tmp 2)]
abbrev c9y:Nat:=221
def JD:ZC:=Yh [(20,.pure (preT (fun x:Str×Unit=>decide (x.1.s.length<=1048576))) (Zi (fun x:Str×Unit=>nameI x.1.s))),(162,.pure (preT (fun x:Tm×Bool×Bool×Bool×Bool×Bool×Unit=>tW x.1)) (Zi (fun x:Tm×Bool×Bool×Bool×Bool×Bool×Unit=>Yz x.1.nd x.2.1 x.2.2.1 x.2.2.2.1 x.2.2.2.2.1 x.2.2.2.2.2.1))),(164,.pure (preT (fun x:Str×Unit=>decide (x.1.s.length<=1048576))) (Zi (fun x:Str×Unit=>CY x.1.s))),(163,.pure (preT (fun x:List Lin×Unit=>decide (x.1.length<=1048576)&&x.1.all XM)) (Zi (fun x:List Lin×Unit=>x.1.all Zh))),(114,.pure (preT (fun x:Arr×Unit=>VH x.1)) (Zi (fun x:Arr×Unit=>WE x.1)))]
abbrev b5i(b:PV->Prop)(XY:Nd)(a:List Tm):Prop:=(At JD 0 (Za UZ b) QU 0 221 [(1,(.ptr 0 0)),(5,(.pv (.int .i64 0)))] [(.obj (.box (ZY XY a)))])
theorem e7r{G:PV->Prop}(n:Nd)(ks:List Tm)(h:if (decide (Nd.line n<0))=true then G ((.bool false))else(if (decide (Nd.line n>10000))=true then G ((.bool false))else(if (Nd.kind n==1)=true then if ((↑(List.length (List.map enc ks)):Int)==0)=true then(a0n [(.str (Str.s (Nd.name n)))] fun C=>(if (C)=true then(QX (JW n ks true false false false false) fun E=>(G ((.bool E))))else(G ((.bool false)))))else(G ((.bool false)))else(if (Nd.kind n==2)=true then if (Str.s (Nd.name n)==[(105:UInt8),(110:UInt8),(116:UInt8)])=true then if (decide (Nd.num n ≥ (-2147483648:Int)))=true then if (decide (Nd.num n<=2147483647))=true then if ((↑(List.length (List.map enc ks)):Int)==0)=true then(QX (JW n ks true true false false false) fun z=>(G ((.bool z))))else(G ((.bool false)))else(if (Str.s (Nd.name n)==[(98:UInt8),(111:UInt8),(111:UInt8),(108:UInt8)])=true then if (Nd.num n==0)=true then if ((↑(List.length (List.map enc ks)):Int)==0)=true then(QX (JW n ks true true false false false) fun D=>(G ((.bool D))))else(G ((.bool false)))else(if ((↑(List.length (List.map enc ks)):Int)==0)=true then if (Nd.num n==1)=true then(QX (JW n ks true true false false false) fun H=>(G ((.bool H))))else(G ((.bool false)))else(G ((.bool false))))else(if ((↑(List.length (List.map enc ks)):Int)==0)=true then G ((.bool false))else(G ((.bool false)))))else(if (Str.s (Nd.name n)==[(98:UInt8),(111:UInt8),(111:UInt8),(108:UInt8)])=true then if (Nd.num n==0)=true then if ((↑(List.length (List.map enc ks)):Int)==0)=true then(QX (JW n ks true true false false false) fun y=>(G ((.bool y))))else(G ((.bool false)))else(if ((↑(List.length (List.map enc ks)):Int)==0)=true then if (Nd.num n==1)=true then(QX (JW n ks true true false false false) fun u=>(G ((.bool u))))else(G ((.bool false)))else(G ((.bool false))))else(if ((↑(List.length (List.map enc ks)):Int)==0)=true then G ((.bool false))else(G ((.bool false)))))else(if (Str.s (Nd.name n)==[(98:UInt8),(111:UInt8),(111:UInt8),(108:UInt8)])=true then if (Nd.num n==0)=true then if ((↑(List.length (List.map enc ks)):Int)==0)=true then(QX (JW n ks true true false false false) fun B=>(G ((.bool B))))else(G ((.bool false)))else(if ((↑(List.length (List.map enc ks)):Int)==0)=true then if (Nd.num n==1)=true then(QX (JW n ks true true false false false) fun F=>(G ((.bool F))))else(G ((.bool false)))else(G ((.bool false))))else(if ((↑(List.length (List.map enc ks)):Int)==0)=true then G ((.bool false))else(G ((.bool false)))))else(if (Nd.kind n==3)=true then if ((↑(List.length (List.map enc ks)):Int)==0)=true then(g5m [(.agg [(.str (Str.s (Nd.elem n))),(.sl 1 false (List.map enc (Nd.dims n))),(.sl 1 false (List.map enc (Nd.data n)))])] fun A=>(if (A)=true then(QX (JW n ks false false true false false) fun i=>(G ((.bool i))))else(G ((.bool false)))))else(G ((.bool false)))else(if (Nd.kind n==4)=true then if ((↑(List.length (List.map enc ks)):Int)==0)=true then if ((↑(List.length (List.map enc (Nd.sizes n))):Int)==1)=true then(f1v [(.sl 2 false (List.map enc (Nd.sizes n)))] fun k=>(if (k)=true then(QX (JW n ks false false false true false) fun r=>(G ((.bool r))))else(G ((.bool false)))))else(G ((.bool false)))else(G ((.bool false)))else(if (Nd.kind n==5)=true then if ((↑(List.length (List.map enc ks)):Int)==2)=true then(a0n [(.str (Str.s (Nd.name n)))] fun e=>(if (e)=true then(QX (JW n ks true false false false false) fun a=>(G ((.bool a))))else(G ((.bool false)))))else(G ((.bool false)))else(if (Nd.kind n==6)=true then if (decide ((↑(List.length (List.map enc ks)):Int)>8))=true then G ((.bool false))else(if (decide ((↑(List.length (List.map enc (Nd.sizes n))):Int)>4))=true then G ((.bool false))else((f1v [(.sl 2 false (List.map enc (Nd.sizes n)))] fun q=>(if (!q)=true then G ((.bool false))else(if (decide (Nd.num n<0))=true then G ((.bool false))else(if (decide (Nd.num n>64))=true then G ((.bool false))else(if ((↑(List.length (List.map enc (Nd.ranks n))):Int) != 0)=true then if ((↑(List.length (List.map enc (Nd.ranks n))):Int) != (↑(List.length (List.map enc ks)):Int))=true then G ((.bool false))else(b5i G n ks)else(b5i G n ks))))))))else(if (Nd.kind n==7)=true then if (decide ((↑(List.length (List.map enc ks)):Int) ≥ 1))=true then if (decide ((↑(List.length (List.map enc ks)):Int)<=16))=true then(QX (JW n ks false false false false false) fun b=>(G ((.bool b))))else(G ((.bool false)))else(G ((.bool false)))else(if (Nd.kind n==8)=true then if ((↑(List.length (List.map enc ks)):Int)==2)=true then(d6p [(.str (Str.s (Nd.name n)))] fun j=>(if (j)=true then(QX (JW n ks true false false false false) fun g=>(G ((.bool g))))else(G ((.bool false)))))else(G ((.bool false)))else(if (Nd.kind n==9)=true then if ((↑(List.length (List.map enc ks)):Int)==1)=true then(d6p [(.str (Str.s (Nd.name n)))] fun m=>(if (m)=true then(QX (JW n ks true false false false false) fun l=>(G ((.bool l))))else(G ((.bool false)))))else(G ((.bool false)))else(G ((.bool false)))))))))))))):Zd JD 0 (Za UZ G) QU [] (Zx 221 [.agg [enc n.kind,enc n.line,enc n.name,enc n.num,enc n.elem,enc n.dims,enc n.data,enc n.sizes,enc n.ranks,enc ks]]):=Zd.tp (dm [dv Bool] 776 0x222222022025120054251220114201d420222222022025120054251220114201d4202222202202512005422200f4201a420222222220000142222222200e422222022222220084222202222222222200c42222022222222222222201042251220222222222222222222220154222220222222222222222222222222201a4209b420222222022025120054251220114201d4202222222222202222220220251200542512201142222202142032420222222022025120054251220114201d42022220222200542222222202222022025120054200d42222222220222202512220074222222220184222203f4222222222222022220222200542222222202222022025120054200d42222222220222202512220074222222220184222203f422222222022220222200542222222202222022025120054200d42222222220222202512220074222222220184222203f4222202222025122200742222220164222207b422220e44214e420222222022025120054251220114201d420001422220222200542) h
theorem a5e{G:PV->Prop}(n:Nd)(ks:List Tm)(i:Int)(h:if (Cn (Nd.ranks n) i)=true then(Y1 (Nd.ranks n) i 1 fun g=>(if (decide (PV.asInt (VD g)<0))=true then G ((.bool false))else((Y1 (Nd.ranks n) i 1 fun a=>(if (decide (PV.asInt (VD a)>6))=true then G ((.bool false))else(At JD 0 (Za UZ G) QU 0 221 [(1,(.ptr 0 0)),(5,(.pv (.int .i64 (IntKind.wrap IntKind.i64 (i+1)))))] [(.obj (.box (ZY n ks)))]))))))else((d6p [(.str (Str.s (Nd.name n)))] fun b=>(if (b)=true then(QX (JW n ks true true false true true) fun e=>(G ((.bool e))))else(G ((.bool false))))))):At JD 0 (Za UZ G) QU 0 221 [(1,.ptr 0 0),(5,.pv (.int .i64 i))] [.obj (.box [.pv (enc n.kind),.pv (enc n.line),.pv (enc n.name),.pv (enc n.num),.pv (enc n.elem),.pv (enc n.dims),.pv (enc n.data),.pv (enc n.sizes),.pv (enc n.ranks),.pv (enc ks)])]:=At.tp (dm [dr Int,dv Bool] 53 0x220261200546102000142222251222022222220084225102142) h
noncomputable def Gt:IC:=YI Proofs.Tryz.f106
def G8:List IRes:=[(.tmp 2)]
abbrev f0k:Nat:=20
def Sy(N:Nat):ZC:=Yh [(106,.pure (preT (fun x:Tm×Unit=>tW x.1&&decide (Z4 x.1<N))) (Zi (fun x:Tm×Unit=>Z9 x.1))),(139,.pure (preT (fun x:Tm×Unit=>tW x.1)) (Zi (fun x:Tm×Unit=>Hm x.1)))]
theorem f7k{G:PV->Prop}(N:Nat)(n:Nd)(ks:List Tm)(h:At (Sy N) 0 (Za G8 G) Gt 0 20 [(1,(.ptr 0 0)),(3,(.pv (.int .i64 0)))] [(.obj (.box (ZY n ks)))]):Zd (Sy N) 0 (Za G8 G) Gt [] (Zx 20 [.agg [enc n.kind,enc n.line,enc n.name,enc n.num,enc n.elem,enc n.dims,enc n.data,enc n.sizes,enc n.ranks,enc ks]]):=Zd.tp (.nil) h
theorem b3z{G:PV->Prop}(N:Nat)(n:Nd)(ks:List Tm)(i:Int)(h:if (Cn ks i)=true then(Y1 ks i 10 fun a=>(BL a=true∧((g1i N (Kz a) fun b=>(if (!b)=true then G ((.bool false))else(At (Sy N) 0 (Za G8 G) Gt 0 20 [(1,(.ptr 0 0)),(3,(.pv (.int .i64 (IntKind.wrap IntKind.i64 (i+1)))))] [(.obj (.box (ZY n ks)))]))))))else((f8j (Dh n ks) fun e=>(G ((.bool e)))))):At (Sy N) 0 (Za G8 G) Gt 0 20 [(1,.ptr 0 0),(3,.pv (.int .i64 i))] [.obj (.box [.pv (enc n.kind),.pv (enc n.line),.pv (enc n.name),.pv (enc n.num),.pv (enc n.elem),.pv (enc n.dims),.pv (enc n.data),.pv (enc n.sizes),.pv (enc n.ranks),.pv (enc ks)])]:=At.tp (dm [dr Tm,dv Bool] 21 0x6102000146115100c42) h
noncomputable def Fu:IC:=YI Proofs.Tryz.f70
def AO:List IRes:=[(.tmp 2)]
abbrev c2h:Nat:=15
def a0c:ZC:=Yh [(48,.pure (preT (fun x:Tm×Unit=>tW x.1)) (Zi (fun x:Tm×Unit=>(Yb x.1:Int)))),(47,.pure (preT (fun x:Tm×Unit=>tW x.1)) (Zi (fun x:Tm×Unit=>(Z4 x.1:Int)))),(106,.pure (preT (fun x:Tm×Unit=>tW x.1)) (Zi (fun x:Tm×Unit=>Z9 x.1)))]
theorem d9l{G:PV->Prop}(n:Nd)(ks:List Tm)(h:(f9o (Dh n ks) fun b=>(if (decide (b<=400))=true then(f7o (Dh n ks) fun a=>(if (decide (a<=40))=true then(f6r (Dh n ks) fun e=>(G ((.bool e))))else(G ((.bool false)))))else(G ((.bool false)))))):Zd a0c 0 (Za AO G) Fu [] (Zx 15 [.agg [enc n.kind,enc n.line,enc n.name,enc n.num,enc n.elem,enc n.dims,enc n.data,enc n.sizes,enc n.ranks,enc ks]]):=Zd.tp (dm [dv Int,dv Bool] 33 0x2222220220261200542225120124251) h
noncomputable def b5c:IC:=YI Proofs.Tryz.f110
def b8x:List IRes:=[(.tmp 4),(.tmp 5),(.tmp 6)]
abbrev e5e:Nat:=40
def c6q:ZC:=Yh []
theorem f6k{G:PV->Prop}(s:List UInt8)(u:Bool)(h:if (u)=true then if (s==[(45:UInt8)])=true then G ((.tup [(.str [(110:UInt8),(101:UInt8),(103:UInt8)]),(.int .i64 6),(.bool true)]))else(if (s==[(33:UInt8)])=true then G ((.tup [(.str [(110:UInt8),(111:UInt8),(116:UInt8)]),(.int .i64 6),(.bool true)]))else(G ((.tup [(.str []),(.int .i64 0),(.bool false)]))))else(if (s==[(124:UInt8),(124:UInt8)])=true then G ((.tup [(.str [(111:UInt8),(114:UInt8)]),(.int .i64 1),(.bool true)]))else(if (s==[(38:UInt8),(38:UInt8)])=true then G ((.tup [(.str [(97:UInt8),(110:UInt8),(100:UInt8)]),(.int .i64 2),(.bool true)]))else(if (s==[(61:UInt8),(61:UInt8)])=true then G ((.tup [(.str [(101:UInt8),(113:UInt8)]),(.int .i64 3),(.bool true)]))else(if (s==[(33:UInt8),(61:UInt8)])=true then G ((.tup [(.str [(110:UInt8),(101:UInt8)]),(.int .i64 3),(.bool true)]))else(if (s==[(60:UInt8)])=true then G ((.tup [(.str [(108:UInt8),(116:UInt8)]),(.int .i64 3),(.bool true)]))else(if (s==[(60:UInt8),(61:UInt8)])=true then G ((.tup [(.str [(108:UInt8),(101:UInt8)]),(.int .i64 3),(.bool true)]))else(if (s==[(62:UInt8)])=true then G ((.tup [(.str [(103:UInt8),(116:UInt8)]),(.int .i64 3),(.bool true)]))else(if (s==[(62:UInt8),(61:UInt8)])=true then G ((.tup [(.str [(103:UInt8),(101:UInt8)]),(.int .i64 3),(.bool true)]))else(if (s==[(43:UInt8)])=true then G ((.tup [(.str [(97:UInt8),(100:UInt8),(100:UInt8)]),(.int .i64 4),(.bool true)]))else(if (s==[(45:UInt8)])=true then G ((.tup [(.str [(115:UInt8),(117:UInt8),(98:UInt8)]),(.int .i64 4),(.bool true)]))else(if (s==[(42:UInt8)])=true then G ((.tup [(.str [(109:UInt8),(117:UInt8),(108:UInt8)]),(.int .i64 5),(.bool true)]))else(if (s==[(47:UInt8)])=true then G ((.tup [(.str [(100:UInt8),(105:UInt8),(118:UInt8)]),(.int .i64 5),(.bool true)]))else(if (s==[(37:UInt8)])=true then G ((.tup [(.str [(109:UInt8),(111:UInt8),(100:UInt8)]),(.int .i64 5),(.bool true)]))else(G ((.tup [(.str []),(.int .i64 0),(.bool false)]))))))))))))))))):Zd c6q 0 (Za b8x G) b5c [] (Zx 40 [.str s,.bool u]):=Zd.tp (dm [] 97 0x142000142000142000142000142000142000142000142000142000142000142000142000142000014200014200d4) h
noncomputable def Ye:IC:=YI Proofs.Tryz.f109
def Yf:List IRes:=[(.tmp 2),(.tmp 3),(.tmp 4)]
abbrev e8s:Nat:=58
def YG:ZC:=Yh [(110,.pure (preT (fun _:Str×Bool×Unit=>true)) (Zi (fun x:Str×Bool×Unit=>Vd x.1 x.2.1)))]
theorem g1a{G:PV->Prop}(s:List UInt8)(h:At YG 0 (Za Yf G) Ye 0 58 [(0,(.pv (.str s))),(5,(.row 0 14 0 14)),(6,(.pv (.int .i64 0)))] [(.obj (.row false 9 1 ZM))]):Zd YG 0 (Za Yf G) Ye [] (Zx 58 [.str s]):=Zd.tp (.lit (.nil)) h
abbrev Eg(a:PV->Prop)(XY:List UInt8):Prop:=(At YG 0 (Za Yf a) Ye 0 58 [(0,(.pv (.str XY))),(5,(.row 0 14 0 14)),(6,(.pv (.int .i64 1)))] [(.obj (.row false 9 1 ZM))])
theorem d8k{G:PV->Prop}(s:List UInt8)(h:Tt (fun(x:Str×Bool×Unit)=>Vd x.1 x.2.1) [(.str (PV.asStr (List.getD (PV.cells (List.getD ZM (0+Int.toNat 0) default)) 0 default))),(.bool false)] fun e:R3 Str Int Bool=>if (R3.c e)=true then if (Str.s (R3.a e)==s)=true then G ((.tup [(.str (PV.asStr (List.getD (PV.cells (List.getD ZM (0+Int.toNat 0) default)) 0 default))),(.bool false),(.bool true)]))else(YW [(.str (PV.asStr (List.getD (PV.cells (List.getD ZM (0+Int.toNat 0) default)) 0 default))),(.bool true)] fun b=>(if (R3.c b)=true then if (Str.s (R3.a b)==s)=true then G ((.tup [(.str (PV.asStr (List.getD (PV.cells (List.getD ZM (0+Int.toNat 0) default)) 0 default))),(.bool true),(.bool true)]))else(Eg G s)else(Eg G s)))else(YW [(.str (PV.asStr (List.getD (PV.cells (List.getD ZM (0+Int.toNat 0) default)) 0 default))),(.bool true)] fun g=>(if (R3.c g)=true then if (Str.s (R3.a g)==s)=true then G ((.tup [(.str (PV.asStr (List.getD (PV.cells (List.getD ZM (0+Int.toNat 0) default)) 0 default))),(.bool true),(.bool true)]))else(Eg G s)else(Eg G s)))):At YG 0 (Za Yf G) Ye 0 58 [(0,.pv (.str s)),(5,.row 0 14 0 14),(6,.pv (.int .i64 0))] [.obj (.row false 9 1 ZM)]:=At.tp (dm [dv (R3 Str Int Bool)] 92 0x2222202022320054222200f4522232222202222202022320054222200f4522232022320054222202c452223222) h
abbrev Em(a:PV->Prop)(XY:List UInt8):Prop:=(At YG 0 (Za Yf a) Ye 0 58 [(0,(.pv (.str XY))),(5,(.row 0 14 0 14)),(6,(.pv (.int .i64 2)))] [(.obj (.row false 9 1 ZM))])
theorem d0x{G:PV->Prop}(s:List UInt8)(h:Tt (fun(x:Str×Bool×Unit)=>Vd x.1 x.2.1) [(.str (PV.asStr (List.getD (PV.cells (List.getD ZM (0+Int.toNat 1) default)) 0 default))),(.bool false)] fun e:R3 Str Int Bool=>if (R3.c e)=true then if (Str.s (R3.a e)==s)=true then G ((.tup [(.str (PV.asStr (List.getD (PV.cells (List.getD ZM (0+Int.toNat 1) default)) 0 default))),(.bool false),(.bool true)]))else(YW [(.str (PV.asStr (List.getD (PV.cells (List.getD ZM (0+Int.toNat 1) default)) 0 default))),(.bool true)] fun b=>(if (R3.c b)=true then if (Str.s (R3.a b)==s)=true then G ((.tup [(.str (PV.asStr (List.getD (PV.cells (List.getD ZM (0+Int.toNat 1) default)) 0 default))),(.bool true),(.bool true)]))else(Em G s)else(Em G s)))else(YW [(.str (PV.asStr (List.getD (PV.cells (List.getD ZM (0+Int.toNat 1) default)) 0 default))),(.bool true)] fun g=>(if (R3.c g)=true then if (Str.s (R3.a g)==s)=true then G ((.tup [(.str (PV.asStr (List.getD (PV.cells (List.getD ZM (0+Int.toNat 1) default)) 0 default))),(.bool true),(.bool true)]))else(Em G s)else(Em G s)))):At YG 0 (Za Yf G) Ye 0 58 [(0,.pv (.str s)),(5,.row 0 14 0 14),(6,.pv (.int .i64 1))] [.obj (.row false 9 1 ZM)]:=At.tp (dm [dv (R3 Str Int Bool)] 92 0x2222202022320054222200f4522232222202222202022320054222200f4522232022320054222202c452223222) h
abbrev F4(a:PV->Prop)(XY:List UInt8):Prop:=(At YG 0 (Za Yf a) Ye 0 58 [(0,(.pv (.str XY))),(5,(.row 0 14 0 14)),(6,(.pv (.int .i64 3)))] [(.obj (.row false 9 1 ZM))])
theorem d5b{G:PV->Prop}(s:List UInt8)(h:Tt (fun(x:Str×Bool×Unit)=>Vd x.1 x.2.1) [(.str (PV.asStr (List.getD (PV.cells (List.getD ZM (0+Int.toNat 2) default)) 0 default))),(.bool false)] fun e:R3 Str Int Bool=>if (R3.c e)=true then if (Str.s (R3.a e)==s)=true then G ((.tup [(.str (PV.asStr (List.getD (PV.cells (List.getD ZM (0+Int.toNat 2) default)) 0 default))),(.bool false),(.bool true)]))else(YW [(.str (PV.asStr (List.getD (PV.cells (List.getD ZM (0+Int.toNat 2) default)) 0 default))),(.bool true)] fun b=>(if (R3.c b)=true then if (Str.s (R3.a b)==s)=true then G ((.tup [(.str (PV.asStr (List.getD (PV.cells (List.getD ZM (0+Int.toNat 2) default)) 0 default))),(.bool true),(.bool true)]))else(F4 G s)else(F4 G s)))else(YW [(.str (PV.asStr (List.getD (PV.cells (List.getD ZM (0+Int.toNat 2) default)) 0 default))),(.bool true)] fun g=>(if (R3.c g)=true then if (Str.s (R3.a g)==s)=true then G ((.tup [(.str (PV.asStr (List.getD (PV.cells (List.getD ZM (0+Int.toNat 2) default)) 0 default))),(.bool true),(.bool true)]))else(F4 G s)else(F4 G s)))):At YG 0 (Za Yf G) Ye 0 58 [(0,.pv (.str s)),(5,.row 0 14 0 14),(6,.pv (.int .i64 2))] [.obj (.row false 9 1 ZM)]:=At.tp (dm [dv (R3 Str Int Bool)] 92 0x2222202022320054222200f4522232222202222202022320054222200f4522232022320054222202c452223222) h
abbrev Ed(a:PV->Prop)(XY:List UInt8):Prop:=(At YG 0 (Za Yf a) Ye 0 58 [(0,(.pv (.str XY))),(5,(.row 0 14 0 14)),(6,(.pv (.int .i64 4)))] [(.obj (.row false 9 1 ZM))])
theorem d4h{G:PV->Prop}(s:List UInt8)(h:Tt (fun(x:Str×Bool×Unit)=>Vd x.1 x.2.1) [(.str (PV.asStr (List.getD (PV.cells (List.getD ZM (0+Int.toNat 3) default)) 0 default))),(.bool false)] fun e:R3 Str Int Bool=>if (R3.c e)=true then if (Str.s (R3.a e)==s)=true then G ((.tup [(.str (PV.asStr (List.getD (PV.cells (List.getD ZM (0+Int.toNat 3) default)) 0 default))),(.bool false),(.bool true)]))else(YW [(.str (PV.asStr (List.getD (PV.cells (List.getD ZM (0+Int.toNat 3) default)) 0 default))),(.bool true)] fun b=>(if (R3.c b)=true then if (Str.s (R3.a b)==s)=true then G ((.tup [(.str (PV.asStr (List.getD (PV.cells (List.getD ZM (0+Int.toNat 3) default)) 0 default))),(.bool true),(.bool true)]))else(Ed G s)else(Ed G s)))else(YW [(.str (PV.asStr (List.getD (PV.cells (List.getD ZM (0+Int.toNat 3) default)) 0 default))),(.bool true)] fun g=>(if (R3.c g)=true then if (Str.s (R3.a g)==s)=true then G ((.tup [(.str (PV.asStr (List.getD (PV.cells (List.getD ZM (0+Int.toNat 3) default)) 0 default))),(.bool true),(.bool true)]))else(Ed G s)else(Ed G s)))):At YG 0 (Za Yf G) Ye 0 58 [(0,.pv (.str s)),(5,.row 0 14 0 14),(6,.pv (.int .i64 3))] [.obj (.row false 9 1 ZM)]:=At.tp (dm [dv (R3 Str Int Bool)] 92 0x2222202022320054222200f4522232222202222202022320054222200f4522232022320054222202c452223222) h
abbrev TS(a:PV->Prop)(XY:List UInt8):Prop:=(At YG 0 (Za Yf a) Ye 0 58 [(0,(.pv (.str XY))),(5,(.row 0 14 0 14)),(6,(.pv (.int .i64 5)))] [(.obj (.row false 9 1 ZM))])
theorem d4c{G:PV->Prop}(s:List UInt8)(h:Tt (fun(x:Str×Bool×Unit)=>Vd x.1 x.2.1) [(.str (PV.asStr (List.getD (PV.cells (List.getD ZM (0+Int.toNat 4) default)) 0 default))),(.bool false)] fun e:R3 Str Int Bool=>if (R3.c e)=true then if (Str.s (R3.a e)==s)=true then G ((.tup [(.str (PV.asStr (List.getD (PV.cells (List.getD ZM (0+Int.toNat 4) default)) 0 default))),(.bool false),(.bool true)]))else(YW [(.str (PV.asStr (List.getD (PV.cells (List.getD ZM (0+Int.toNat 4) default)) 0 default))),(.bool true)] fun b=>(if (R3.c b)=true then if (Str.s (R3.a b)==s)=true then G ((.tup [(.str (PV.asStr (List.getD (PV.cells (List.getD ZM (0+Int.toNat 4) default)) 0 default))),(.bool true),(.bool true)]))else(TS G s)else(TS G s)))else(YW [(.str (PV.asStr (List.getD (PV.cells (List.getD ZM (0+Int.toNat 4) default)) 0 default))),(.bool true)] fun g=>(if (R3.c g)=true then if (Str.s (R3.a g)==s)=true then G ((.tup [(.str (PV.asStr (List.getD (PV.cells (List.getD ZM (0+Int.toNat 4) default)) 0 default))),(.bool true),(.bool true)]))else(TS G s)else(TS G s)))):At YG 0 (Za Yf G) Ye 0 58 [(0,.pv (.str s)),(5,.row 0 14 0 14),(6,.pv (.int .i64 4))] [.obj (.row false 9 1 ZM)]:=At.tp (dm [dv (R3 Str Int Bool)] 92 0x2222202022320054222200f4522232222202222202022320054222200f4522232022320054222202c452223222) h
abbrev Rc(a:PV->Prop)(XY:List UInt8):Prop:=(At YG 0 (Za Yf a) Ye 0 58 [(0,(.pv (.str XY))),(5,(.row 0 14 0 14)),(6,(.pv (.int .i64 6)))] [(.obj (.row false 9 1 ZM))])
theorem e0j{G:PV->Prop}(s:List UInt8)(h:Tt (fun(x:Str×Bool×Unit)=>Vd x.1 x.2.1) [(.str (PV.asStr (List.getD (PV.cells (List.getD ZM (0+Int.toNat 5) default)) 0 default))),(.bool false)] fun e:R3 Str Int Bool=>if (R3.c e)=true then if (Str.s (R3.a e)==s)=true then G ((.tup [(.str (PV.asStr (List.getD (PV.cells (List.getD ZM (0+Int.toNat 5) default)) 0 default))),(.bool false),(.bool true)]))else(YW [(.str (PV.asStr (List.getD (PV.cells (List.getD ZM (0+Int.toNat 5) default)) 0 default))),(.bool true)] fun b=>(if (R3.c b)=true then if (Str.s (R3.a b)==s)=true then G ((.tup [(.str (PV.asStr (List.getD (PV.cells (List.getD ZM (0+Int.toNat 5) default)) 0 default))),(.bool true),(.bool true)]))else(Rc G s)else(Rc G s)))else(YW [(.str (PV.asStr (List.getD (PV.cells (List.getD ZM (0+Int.toNat 5) default)) 0 default))),(.bool true)] fun g=>(if (R3.c g)=true then if (Str.s (R3.a g)==s)=true then G ((.tup [(.str (PV.asStr (List.getD (PV.cells (List.getD ZM (0+Int.toNat 5) default)) 0 default))),(.bool true),(.bool true)]))else(Rc G s)else(Rc G s)))):At YG 0 (Za Yf G) Ye 0 58 [(0,.pv (.str s)),(5,.row 0 14 0 14),(6,.pv (.int .i64 5))] [.obj (.row false 9 1 ZM)]:=At.tp (dm [dv (R3 Str Int Bool)] 92 0x2222202022320054222200f4522232222202222202022320054222200f4522232022320054222202c452223222) h
abbrev TV(a:PV->Prop)(XY:List UInt8):Prop:=(At YG 0 (Za Yf a) Ye 0 58 [(0,(.pv (.str XY))),(5,(.row 0 14 0 14)),(6,(.pv (.int .i64 7)))] [(.obj (.row false 9 1 ZM))])
theorem c9r{G:PV->Prop}(s:List UInt8)(h:Tt (fun(x:Str×Bool×Unit)=>Vd x.1 x.2.1) [(.str (PV.asStr (List.getD (PV.cells (List.getD ZM (0+Int.toNat 6) default)) 0 default))),(.bool false)] fun e:R3 Str Int Bool=>if (R3.c e)=true then if (Str.s (R3.a e)==s)=true then G ((.tup [(.str (PV.asStr (List.getD (PV.cells (List.getD ZM (0+Int.toNat 6) default)) 0 default))),(.bool false),(.bool true)]))else(YW [(.str (PV.asStr (List.getD (PV.cells (List.getD ZM (0+Int.toNat 6) default)) 0 default))),(.bool true)] fun b=>(if (R3.c b)=true then if (Str.s (R3.a b)==s)=true then G ((.tup [(.str (PV.asStr (List.getD (PV.cells (List.getD ZM (0+Int.toNat 6) default)) 0 default))),(.bool true),(.bool true)]))else(TV G s)else(TV G s)))else(YW [(.str (PV.asStr (List.getD (PV.cells (List.getD ZM (0+Int.toNat 6) default)) 0 default))),(.bool true)] fun g=>(if (R3.c g)=true then if (Str.s (R3.a g)==s)=true then G ((.tup [(.str (PV.asStr (List.getD (PV.cells (List.getD ZM (0+Int.toNat 6) default)) 0 default))),(.bool true),(.bool true)]))else(TV G s)else(TV G s)))):At YG 0 (Za Yf G) Ye 0 58 [(0,.pv (.str s)),(5,.row 0 14 0 14),(6,.pv (.int .i64 6))] [.obj (.row false 9 1 ZM)]:=At.tp (dm [dv (R3 Str Int Bool)] 92 0x2222202022320054222200f4522232222202222202022320054222200f4522232022320054222202c452223222) h
abbrev Rf(a:PV->Prop)(XY:List UInt8):Prop:=(At YG 0 (Za Yf a) Ye 0 58 [(0,(.pv (.str XY))),(5,(.row 0 14 0 14)),(6,(.pv (.int .i64 8)))] [(.obj (.row false 9 1 ZM))])
theorem e0m{G:PV->Prop}(s:List UInt8)(h:Tt (fun(x:Str×Bool×Unit)=>Vd x.1 x.2.1) [(.str (PV.asStr (List.getD (PV.cells (List.getD ZM (0+Int.toNat 7) default)) 0 default))),(.bool false)] fun e:R3 Str Int Bool=>if (R3.c e)=true then if (Str.s (R3.a e)==s)=true then G ((.tup [(.str (PV.asStr (List.getD (PV.cells (List.getD ZM (0+Int.toNat 7) default)) 0 default))),(.bool false),(.bool true)]))else(YW [(.str (PV.asStr (List.getD (PV.cells (List.getD ZM (0+Int.toNat 7) default)) 0 default))),(.bool true)] fun b=>(if (R3.c b)=true then if (Str.s (R3.a b)==s)=true then G ((.tup [(.str (PV.asStr (List.getD (PV.cells (List.getD ZM (0+Int.toNat 7) default)) 0 default))),(.bool true),(.bool true)]))else(Rf G s)else(Rf G s)))else(YW [(.str (PV.asStr (List.getD (PV.cells (List.getD ZM (0+Int.toNat 7) default)) 0 default))),(.bool true)] fun g=>(if (R3.c g)=true then if (Str.s (R3.a g)==s)=true then G ((.tup [(.str (PV.asStr (List.getD (PV.cells (List.getD ZM (0+Int.toNat 7) default)) 0 default))),(.bool true),(.bool true)]))else(Rf G s)else(Rf G s)))):At YG 0 (Za Yf G) Ye 0 58 [(0,.pv (.str s)),(5,.row 0 14 0 14),(6,.pv (.int .i64 7))] [.obj (.row false 9 1 ZM)]:=At.tp (dm [dv (R3 Str Int Bool)] 92 0x2222202022320054222200f4522232222202222202022320054222200f4522232022320054222202c452223222) h
abbrev TY(a:PV->Prop)(XY:List UInt8):Prop:=(At YG 0 (Za Yf a) Ye 0 58 [(0,(.pv (.str XY))),(5,(.row 0 14 0 14)),(6,(.pv (.int .i64 9)))] [(.obj (.row false 9 1 ZM))])
theorem d4r{G:PV->Prop}(s:List UInt8)(h:Tt (fun(x:Str×Bool×Unit)=>Vd x.1 x.2.1) [(.str (PV.asStr (List.getD (PV.cells (List.getD ZM (0+Int.toNat 8) default)) 0 default))),(.bool false)] fun e:R3 Str Int Bool=>if (R3.c e)=true then if (Str.s (R3.a e)==s)=true then G ((.tup [(.str (PV.asStr (List.getD (PV.cells (List.getD ZM (0+Int.toNat 8) default)) 0 default))),(.bool false),(.bool true)]))else(YW [(.str (PV.asStr (List.getD (PV.cells (List.getD ZM (0+Int.toNat 8) default)) 0 default))),(.bool true)] fun b=>(if (R3.c b)=true then if (Str.s (R3.a b)==s)=true then G ((.tup [(.str (PV.asStr (List.getD (PV.cells (List.getD ZM (0+Int.toNat 8) default)) 0 default))),(.bool true),(.bool true)]))else(TY G s)else(TY G s)))else(YW [(.str (PV.asStr (List.getD (PV.cells (List.getD ZM (0+Int.toNat 8) default)) 0 default))),(.bool true)] fun g=>(if (R3.c g)=true then if (Str.s (R3.a g)==s)=true then G ((.tup [(.str (PV.asStr (List.getD (PV.cells (List.getD ZM (0+Int.toNat 8) default)) 0 default))),(.bool true),(.bool true)]))else(TY G s)else(TY G s)))):At YG 0 (Za Yf G) Ye 0 58 [(0,.pv (.str s)),(5,.row 0 14 0 14),(6,.pv (.int .i64 8))] [.obj (.row false 9 1 ZM)]:=At.tp (dm [dv (R3 Str Int Bool)] 92 0x2222202022320054222200f4522232222202222202022320054222200f4522232022320054222202c452223222) h
abbrev O4(a:PV->Prop)(XY:List UInt8):Prop:=(At YG 0 (Za Yf a) Ye 0 58 [(0,(.pv (.str XY))),(5,(.row 0 14 0 14)),(6,(.pv (.int .i64 10)))] [(.obj (.row false 9 1 ZM))])
theorem d8p{G:PV->Prop}(s:List UInt8)(h:Tt (fun(x:Str×Bool×Unit)=>Vd x.1 x.2.1) [(.str (PV.asStr (List.getD (PV.cells (List.getD ZM (0+Int.toNat 9) default)) 0 default))),(.bool false)] fun e:R3 Str Int Bool=>if (R3.c e)=true then if (Str.s (R3.a e)==s)=true then G ((.tup [(.str (PV.asStr (List.getD (PV.cells (List.getD ZM (0+Int.toNat 9) default)) 0 default))),(.bool false),(.bool true)]))else(YW [(.str (PV.asStr (List.getD (PV.cells (List.getD ZM (0+Int.toNat 9) default)) 0 default))),(.bool true)] fun b=>(if (R3.c b)=true then if (Str.s (R3.a b)==s)=true then G ((.tup [(.str (PV.asStr (List.getD (PV.cells (List.getD ZM (0+Int.toNat 9) default)) 0 default))),(.bool true),(.bool true)]))else(O4 G s)else(O4 G s)))else(YW [(.str (PV.asStr (List.getD (PV.cells (List.getD ZM (0+Int.toNat 9) default)) 0 default))),(.bool true)] fun g=>(if (R3.c g)=true then if (Str.s (R3.a g)==s)=true then G ((.tup [(.str (PV.asStr (List.getD (PV.cells (List.getD ZM (0+Int.toNat 9) default)) 0 default))),(.bool true),(.bool true)]))else(O4 G s)else(O4 G s)))):At YG 0 (Za Yf G) Ye 0 58 [(0,.pv (.str s)),(5,.row 0 14 0 14),(6,.pv (.int .i64 9))] [.obj (.row false 9 1 ZM)]:=At.tp (dm [dv (R3 Str Int Bool)] 92 0x2222202022320054222200f4522232222202222202022320054222200f4522232022320054222202c452223222) h
abbrev Ou(a:PV->Prop)(XY:List UInt8):Prop:=(At YG 0 (Za Yf a) Ye 0 58 [(0,(.pv (.str XY))),(5,(.row 0 14 0 14)),(6,(.pv (.int .i64 11)))] [(.obj (.row false 9 1 ZM))])
theorem d1g{G:PV->Prop}(s:List UInt8)(h:Tt (fun(x:Str×Bool×Unit)=>Vd x.1 x.2.1) [(.str (PV.asStr (List.getD (PV.cells (List.getD ZM (0+Int.toNat 10) default)) 0 default))),(.bool false)] fun e:R3 Str Int Bool=>if (R3.c e)=true then if (Str.s (R3.a e)==s)=true then G ((.tup [(.str (PV.asStr (List.getD (PV.cells (List.getD ZM (0+Int.toNat 10) default)) 0 default))),(.bool false),(.bool true)]))else(YW [(.str (PV.asStr (List.getD (PV.cells (List.getD ZM (0+Int.toNat 10) default)) 0 default))),(.bool true)] fun b=>(if (R3.c b)=true then if (Str.s (R3.a b)==s)=true then G ((.tup [(.str (PV.asStr (List.getD (PV.cells (List.getD ZM (0+Int.toNat 10) default)) 0 default))),(.bool true),(.bool true)]))else(Ou G s)else(Ou G s)))else(YW [(.str (PV.asStr (List.getD (PV.cells (List.getD ZM (0+Int.toNat 10) default)) 0 default))),(.bool true)] fun g=>(if (R3.c g)=true then if (Str.s (R3.a g)==s)=true then G ((.tup [(.str (PV.asStr (List.getD (PV.cells (List.getD ZM (0+Int.toNat 10) default)) 0 default))),(.bool true),(.bool true)]))else(Ou G s)else(Ou G s)))):At YG 0 (Za Yf G) Ye 0 58 [(0,.pv (.str s)),(5,.row 0 14 0 14),(6,.pv (.int .i64 10))] [.obj (.row false 9 1 ZM)]:=At.tp (dm [dv (R3 Str Int Bool)] 92 0x2222202022320054222200f4522232222202222202022320054222200f4522232022320054222202c452223222) h
abbrev Ee(a:PV->Prop)(XY:List UInt8):Prop:=(At YG 0 (Za Yf a) Ye 0 58 [(0,(.pv (.str XY))),(5,(.row 0 14 0 14)),(6,(.pv (.int .i64 12)))] [(.obj (.row false 9 1 ZM))])
theorem c6l{G:PV->Prop}(s:List UInt8)(h:Tt (fun(x:Str×Bool×Unit)=>Vd x.1 x.2.1) [(.str (PV.asStr (List.getD (PV.cells (List.getD ZM (0+Int.toNat 11) default)) 0 default))),(.bool false)] fun e:R3 Str Int Bool=>if (R3.c e)=true then if (Str.s (R3.a e)==s)=true then G ((.tup [(.str (PV.asStr (List.getD (PV.cells (List.getD ZM (0+Int.toNat 11) default)) 0 default))),(.bool false),(.bool true)]))else(YW [(.str (PV.asStr (List.getD (PV.cells (List.getD ZM (0+Int.toNat 11) default)) 0 default))),(.bool true)] fun b=>(if (R3.c b)=true then if (Str.s (R3.a b)==s)=true then G ((.tup [(.str (PV.asStr (List.getD (PV.cells (List.getD ZM (0+Int.toNat 11) default)) 0 default))),(.bool true),(.bool true)]))else(Ee G s)else(Ee G s)))else(YW [(.str (PV.asStr (List.getD (PV.cells (List.getD ZM (0+Int.toNat 11) default)) 0 default))),(.bool true)] fun g=>(if (R3.c g)=true then if (Str.s (R3.a g)==s)=true then G ((.tup [(.str (PV.asStr (List.getD (PV.cells (List.getD ZM (0+Int.toNat 11) default)) 0 default))),(.bool true),(.bool true)]))else(Ee G s)else(Ee G s)))):At YG 0 (Za Yf G) Ye 0 58 [(0,.pv (.str s)),(5,.row 0 14 0 14),(6,.pv (.int .i64 11))] [.obj (.row false 9 1 ZM)]:=At.tp (dm [dv (R3 Str Int Bool)] 92 0x2222202022320054222200f4522232222202222202022320054222200f4522232022320054222202c452223222) h
abbrev O9(a:PV->Prop)(XY:List UInt8):Prop:=(At YG 0 (Za Yf a) Ye 0 58 [(0,(.pv (.str XY))),(5,(.row 0 14 0 14)),(6,(.pv (.int .i64 13)))] [(.obj (.row false 9 1 ZM))])
theorem c6u{G:PV->Prop}(s:List UInt8)(h:Tt (fun(x:Str×Bool×Unit)=>Vd x.1 x.2.1) [(.str (PV.asStr (List.getD (PV.cells (List.getD ZM (0+Int.toNat 12) default)) 0 default))),(.bool false)] fun e:R3 Str Int Bool=>if (R3.c e)=true then if (Str.s (R3.a e)==s)=true then G ((.tup [(.str (PV.asStr (List.getD (PV.cells (List.getD ZM (0+Int.toNat 12) default)) 0 default))),(.bool false),(.bool true)]))else(YW [(.str (PV.asStr (List.getD (PV.cells (List.getD ZM (0+Int.toNat 12) default)) 0 default))),(.bool true)] fun b=>(if (R3.c b)=true then if (Str.s (R3.a b)==s)=true then G ((.tup [(.str (PV.asStr (List.getD (PV.cells (List.getD ZM (0+Int.toNat 12) default)) 0 default))),(.bool true),(.bool true)]))else(O9 G s)else(O9 G s)))else(YW [(.str (PV.asStr (List.getD (PV.cells (List.getD ZM (0+Int.toNat 12) default)) 0 default))),(.bool true)] fun g=>(if (R3.c g)=true then if (Str.s (R3.a g)==s)=true then G ((.tup [(.str (PV.asStr (List.getD (PV.cells (List.getD ZM (0+Int.toNat 12) default)) 0 default))),(.bool true),(.bool true)]))else(O9 G s)else(O9 G s)))):At YG 0 (Za Yf G) Ye 0 58 [(0,.pv (.str s)),(5,.row 0 14 0 14),(6,.pv (.int .i64 12))] [.obj (.row false 9 1 ZM)]:=At.tp (dm [dv (R3 Str Int Bool)] 92 0x2222202022320054222200f4522232222202222202022320054222200f4522232022320054222202c452223222) h
abbrev OD(a:PV->Prop)(XY:List UInt8):Prop:=(At YG 0 (Za Yf a) Ye 0 58 [(0,(.pv (.str XY))),(5,(.row 0 14 0 14)),(6,(.pv (.int .i64 14)))] [(.obj (.row false 9 1 ZM))])
theorem e0f{G:PV->Prop}(s:List UInt8)(h:Tt (fun(x:Str×Bool×Unit)=>Vd x.1 x.2.1) [(.str (PV.asStr (List.getD (PV.cells (List.getD ZM (0+Int.toNat 13) default)) 0 default))),(.bool false)] fun e:R3 Str Int Bool=>if (R3.c e)=true then if (Str.s (R3.a e)==s)=true then G ((.tup [(.str (PV.asStr (List.getD (PV.cells (List.getD ZM (0+Int.toNat 13) default)) 0 default))),(.bool false),(.bool true)]))else(YW [(.str (PV.asStr (List.getD (PV.cells (List.getD ZM (0+Int.toNat 13) default)) 0 default))),(.bool true)] fun b=>(if (R3.c b)=true then if (Str.s (R3.a b)==s)=true then G ((.tup [(.str (PV.asStr (List.getD (PV.cells (List.getD ZM (0+Int.toNat 13) default)) 0 default))),(.bool true),(.bool true)]))else(OD G s)else(OD G s)))else(YW [(.str (PV.asStr (List.getD (PV.cells (List.getD ZM (0+Int.toNat 13) default)) 0 default))),(.bool true)] fun g=>(if (R3.c g)=true then if (Str.s (R3.a g)==s)=true then G ((.tup [(.str (PV.asStr (List.getD (PV.cells (List.getD ZM (0+Int.toNat 13) default)) 0 default))),(.bool true),(.bool true)]))else(OD G s)else(OD G s)))):At YG 0 (Za Yf G) Ye 0 58 [(0,.pv (.str s)),(5,.row 0 14 0 14),(6,.pv (.int .i64 13))] [.obj (.row false 9 1 ZM)]:=At.tp (dm [dv (R3 Str Int Bool)] 92 0x2222202022320054222200f4522232222202222202022320054222200f4522232022320054222202c452223222) h
theorem d2f{G:PV->Prop}(s:List UInt8)(h:G ((.tup [(.str []),(.bool false),(.bool false)]))):At YG 0 (Za Yf G) Ye 0 58 [(0,.pv (.str s)),(5,.row 0 14 0 14),(6,.pv (.int .i64 14))] [.obj (.row false 9 1 ZM)]:=At.tp (.lit (.lit (.nil))) h
end Go.Pl
namespace Go.Pl
open Go.RowKit
open Enc (enc dec is)
open EncL (encL decL isL)
theorem a9x: ∀ x:UInt8×Unit,(fun _:UInt8×Unit=>true) x=true->Zd a0o 0 (Za Ls (Zf (lowB x.1))) Mv [] (Zx c3w (encL x)):=by
 rintro⟨c,⟨⟩⟩ _
 refine d7x c (DW (fun h=>Zl ?_) fun h=>Zl ?_)
 ·have h:(97:Int)<=c.toNat:=by simpa using h
  have h1:(97:UInt8)<=c:=by rw[UInt8.le_iff_toNat_le];exact Int.ofNat_le.1 h
  unfold lowB
  rw[decide_eq_true h1,Bool.true_and]
  exact decide_eq_decide.2 ⟨fun h=>UInt8.le_iff_toNat_le.2 (Int.ofNat_le.1 h),fun h=>Int.ofNat_le.2 (UInt8.le_iff_toNat_le.1 h)⟩
 ·have h : ¬ (97:Int)<=c.toNat:=by simpa using h
  have h1 : ¬ (97:UInt8)<=c:=by rw[UInt8.le_iff_toNat_le];exact fun k=>h (Int.ofNat_le.2 k)
  unfold lowB
  rw[decide_eq_false h1]
  rfl
theorem b1z: ∀ x:UInt8×Unit,(fun _:UInt8×Unit=>true) x=true->Zd a0i 0 (Za Li (Zf (digB x.1))) LM [] (Zx b9w (encL x)):=by
 rintro⟨c,⟨⟩⟩ _
 refine d4j c (DW (fun h=>Zl ?_) fun h=>Zl ?_)
 ·have h:(48:Int)<=c.toNat:=by simpa using h
  have h1:(48:UInt8)<=c:=by rw[UInt8.le_iff_toNat_le];exact Int.ofNat_le.1 h
  unfold digB
  rw[decide_eq_true h1,Bool.true_and]
  exact decide_eq_decide.2 ⟨fun h=>UInt8.le_iff_toNat_le.2 (Int.ofNat_le.1 h),fun h=>Int.ofNat_le.2 (UInt8.le_iff_toNat_le.1 h)⟩
 ·have h : ¬ (48:Int)<=c.toNat:=by simpa using h
  have h1 : ¬ (48:UInt8)<=c:=by rw[UInt8.le_iff_toNat_le];exact fun k=>h (Int.ofNat_le.2 k)
  unfold digB
  rw[decide_eq_false h1]
  rfl
theorem d8s: ∀ x:Str×Unit,(fun _:Str×Unit=>true) x=true->Zd e1k 0 (Za b9c (Zf (QZ.contains x.1.s))) b4k [] (Zx e2v (encL x)):=by
 rintro⟨⟨s⟩,⟨⟩⟩ _
 refine f3m s ?_
 iterate 14 (refine Zy (fun h=>Zl (by subst h;rfl)) fun h=> ?_)
 refine Zl ?_
 show false=QZ.contains s
 rw[eq_comm,<- Bool.not_eq_true,List.contains_iff_mem]
 simp only[QZ,List.mem_cons,List.not_mem_nil,or_false,not_or]
 refine⟨?_,?_,?_,?_,?_,?_,?_,?_,?_,?_,?_,?_,?_,?_⟩ <;> assumption
theorem c8y{c:UInt8}{F:UInt8->Bool}{ps:List PV}{P:Bool->Prop}(e:ps=encL (c,()))(h:P (F c)):preT (fun x:UInt8×Unit=>true) ps=true∧ ∃ y:Bool,AV.pv (Zi (fun x:UInt8×Unit=>F x.1) ps)=AV.pv (enc y)∧P y:=⟨Zc (c,()) e rfl,Zb (c,()) e h⟩
theorem a9e(s:List UInt8)(hl:s.length<=1048576)(h1:1<=s.length)(R:Bool): ∀ (d i:Nat),d+i=s.length->1<=i->R=((s.drop i).all E5&&(decide (s.length<=30)&& !QZ.contains s)) ->
  At Kj 0 (Za UO (Zf R)) UR 0 39 [(0,.pv (.str s)),(3,.pv (.int .i64 i))] []:=by
 intro d
 induction d with
 | zero=>
  intro i hi g b
  rw[List.drop_eq_nil_of_le (by omega),List.all_nil,Bool.true_and]at b
  refine CO s i (ZU (Yx (by omega)) (ZT (decide_eq_true (by omega)) (ZO (fun h=>Zb (⟨s⟩,()) rfl (Zl ?_)) fun h=>Zl ?_)))
  ·rw[b,decide_eq_true (show s.length<=30 by omega)];rfl
  ·rw[b,decide_eq_false (show ¬ s.length<=30 by omega)];rfl
 | succ d ih=>
  intro i hi g b
  have a:i<s.length:=by omega
  have e:(decide (0<=(i:Int))&&decide (Int.toNat (i:Int)<List.length s))=true:=by simp[a]
  rw[List.drop_eq_getElem_cons a,List.all_cons]at b
  have k:=fun h=>ih (i+1) (by omega) (by omega) h
  refine CO s i (ZT (Yt a) ⟨e,c8y (PO a) (YY (fun hs=>ZU (by simp;omega) ⟨e,c8y (PO a) (YY (fun hd=>Zl ?_) fun hd=> ?_)⟩) fun hs=> ?_)⟩)
  ·rw[b];unfold E5;rw[hs,hd];rfl
  ·rw[next (by omega)]
   exact k (by rw[b];unfold E5;rw[hd];rfl)
  ·rw[next (by omega)]
   exact k (by rw[b];unfold E5;rw[hs,Bool.or_true,Bool.true_and])
theorem c5q: ∀ x:Str×Unit,decide (x.1.s.length<=1048576)=true->Zd Kj 0 (Za UO (Zf (nameI x.1.s))) UR [] (Zx c8i (encL x)):=by
 rintro⟨⟨s⟩,⟨⟩⟩ h
 have e:s.length<=1048576:=of_decide_eq_true h
 refine e2q s ?_
 show At Kj 0 (Za UO (Zf (nameI s))) UR 0 39 [(0,.pv (.str s)),(3,.pv (.int .i64 ((0:Nat):Int)))] []
 cases s with
 | nil=>exact CO [] 0 (ZU (by simp) (ZU (by simp) (Zl rfl)))
 | cons c r=>
  have a:0<(c::r).length:=by simp
  have b:(decide (0<=((0:Nat):Int))&&decide (Int.toNat ((0:Nat):Int)<List.length (c::r)))=true:=by simp
  refine CO (c::r) (0:Nat) (ZT (Yt a) ⟨b,c8y (PO a) (YY (fun hs=>ZT (by simp) (Zl ?_)) fun hs=> ?_)⟩)
  ·have hs:lowB c=false:=hs
   show false=(lowB c&&r.all E5&&decide (r.length<=29)&& !QZ.contains (c::r))
   rw[hs];rfl
  ·have hs:lowB c=true:=hs
   rw[next (by omega)]
   refine a9e (c::r) e (by simp) _ r.length 1 (by rw[List.length_cons]) (by omega) ?_
   show(lowB c&&r.all E5&&decide (r.length<=29)&& !QZ.contains (c::r))=(r.all E5&&(decide (r.length+1<=30)&& !QZ.contains (c::r)))
   rw[hs,Bool.true_and,Bool.and_assoc,show decide (r.length<=29)=decide (r.length+1<=30)from decide_eq_decide.2 (by omega)]
theorem KH{s:List UInt8}{P:Bool->Prop}(a:s.length<=1048576)(h:P (nameI s)):preT (fun x:Str×Unit=>decide (x.1.s.length<=1048576)) [.str s]=true∧ ∃ y:Bool,AV.pv (Zi (fun x:Str×Unit=>nameI x.1.s) [.str s])=AV.pv (enc y)∧P y:=⟨Zc (⟨s⟩,()) rfl (decide_eq_true a),Zb (⟨s⟩,()) rfl h⟩
theorem g2a{s:List UInt8}{P:Bool->Prop}(a:s.length<=1048576)(h:P (fullI s)):preT (fun x:Str×Unit=>decide (x.1.s.length<=1048576)) [.str s]=true∧ ∃ y:Bool,AV.pv (Zi (fun x:Str×Unit=>fullI x.1.s) [.str s])=AV.pv (enc y)∧P y:=⟨Zc (⟨s⟩,()) rfl (decide_eq_true a),Zb (⟨s⟩,()) rfl h⟩
theorem d5e{s:List UInt8}{P:Bool->Prop}(a:s.length<=1048576)(h:P (CY s)):preT (fun x:Str×Unit=>decide (x.1.s.length<=1048576)) [.str s]=true∧ ∃ y:Bool,AV.pv (Zi (fun x:Str×Unit=>CY x.1.s) [.str s])=AV.pv (enc y)∧P y:=⟨Zc (⟨s⟩,()) rfl (decide_eq_true a),Zb (⟨s⟩,()) rfl h⟩
theorem g7s{s:List UInt8}{i:Nat}(h:i<s.length)(ha : ∀ x∈s.take i,(x != 46)=true)(hb:s[i]=46):fullI s=(nameI (s.take i)&&nameI (s.drop (i+1))):=by
 have e:s=s.take i++s[i]::s.drop (i+1):=by rw[<- List.drop_eq_getElem_cons h,List.take_append_drop]
 have b:(s.takeWhile fun c=>c != 46)=s.take i:=by
  have h2:((s.take i++s[i]::s.drop (i+1)).takeWhile fun c=>c != 46)=s.take i:=by
   rw[List.takeWhile_append_of_pos ha,hb,List.takeWhile_cons,if_neg (by decide),List.append_nil]
  rw[<- e]at h2
  exact h2
 have a:(s.dropWhile fun c=>c != 46)=s[i]::s.drop (i+1):=by
  have h2:((s.take i++s[i]::s.drop (i+1)).dropWhile fun c=>c != 46)=s[i]::s.drop (i+1):=by
   rw[List.dropWhile_append_of_pos ha,hb,List.dropWhile_cons,if_neg (by decide)]
  rw[<- e]at h2
  exact h2
 unfold fullI
 rw[b,a]
theorem g7n{s:List UInt8}(ha : ∀ x∈s,(x != 46)=true):fullI s=false:=by
 have a:(s.dropWhile fun c=>c != 46)=[]:=by
  have h2:((s++[]).dropWhile fun c=>c != 46)=[]:=by rw[List.dropWhile_append_of_pos ha];rfl
  rwa [List.append_nil]at h2
 unfold fullI
 rw[a]
theorem b0i(s:List UInt8)(hl:s.length<=1048576): ∀ (d i:Nat),d+i=s.length->(∀ x∈s.take i,(x != 46)=true) ->
  At Gs 0 (Za KT (Zf (fullI s))) KV 0 25 [(0,.pv (.str s)),(3,.pv (.int .i64 i))] []:=by
 intro d
 induction d with
 | zero=>
  intro i hi ha
  rw[List.take_of_length_le (by omega)]at ha
  exact a6s s i (ZU (Yx (by omega)) (Zl (g7n ha).symm))
 | succ d ih=>
  intro i hi ha
  have a:i<s.length:=by omega
  have g:(decide (0<=(i:Int))&&decide (Int.toNat (i:Int)<List.length s))=true:=by simp[a]
  have j:s.getD (Int.toNat (i:Int)) 0=s[i]:=by rw[Int.toNat_natCast,List.getD_eq_getElem?_getD,List.getElem?_eq_getElem a];rfl
  refine a6s s i (ZT (Yt a) ⟨g,Zy (fun h=> ?_) fun h=> ?_⟩)
  ·rw[j]at h
   have hb:s[i]=46:=UInt8.toNat_inj.1 (by show s[i].toNat=46;omega)
   have e:=g7s a ha hb
   rw[Int.toNat_natCast,List.drop_zero,next (by omega),Int.toNat_natCast,List.take_of_length_le (Nat.le_refl s.length)]
   refine⟨by simp;omega,KH (s:=s.take i) (by rw[List.length_take];omega) (YV (fun h1=>⟨by simp;omega,KH (s:=s.drop (i+1)) (by rw[List.length_drop];omega) (Zl ?_)⟩) fun h1=>Zl ?_)⟩
   ·have h1:nameI (s.take i)=true:=h1
    rw[e,h1];rfl
   ·have h1:nameI (s.take i)=false:=h1
    rw[e,h1];rfl
  ·rw[j]at h
   rw[next (by omega)]
   refine ih (i+1) (by omega) fun x b=> ?_
   rw[Qw a,List.mem_append]at b
   rcases b with b|b
   ·exact ha x b
   ·rw[List.mem_singleton]at b
    subst b
    have:s[i]≠46:=fun e=>h (by rw[e];rfl)
    simpa using this
theorem c2d: ∀ x:Str×Unit,decide (x.1.s.length<=1048576)=true->Zd Gs 0 (Za KT (Zf (fullI x.1.s))) KV [] (Zx d0r (encL x)):=by
 rintro⟨⟨s⟩,⟨⟩⟩ h
 exact e4x s (b0i s (of_decide_eq_true h) s.length 0 (by omega) (by simp))
theorem d9j: ∀ x:Str×Unit,decide (x.1.s.length<=1048576)=true->Zd d4d 0 (Za b6r (Zf (CY x.1.s))) b6b [] (Zx e7t (encL x)):=by
 rintro⟨⟨s⟩,⟨⟩⟩ h
 have a:s.length<=1048576:=of_decide_eq_true h
 refine f8w s (KH a (YV (fun h1=>Zl ?_) fun h1=>g2a a (Zl ?_)))
 ·have h1:nameI s=true:=h1
  show true=(nameI s||fullI s)
  rw[h1];rfl
 ·have h1:nameI s=false:=h1
  show fullI s=(nameI s||fullI s)
  rw[h1];rfl
theorem g7v{n:Nat}:((n:Int)==0)=decide (n=0):=by rw[Bool.eq_iff_iff];simp
theorem a7h: ∀ x:Tm×Bool×Bool×Bool×Bool×Bool×Unit,tW x.1=true->Zd a5u 0 (Za GN (Zf (Yz x.1.nd x.2.1 x.2.2.1 x.2.2.2.1 x.2.2.2.2.1 x.2.2.2.2.2.1))) LZ [] (Zx c4l (encL x)):=by
 rintro⟨⟨n,ks⟩,a,b,c,d,e,⟨⟩⟩ hw
 have g:=ndB hw
 have h1:=g.dims
 have h2:=g.data
 rw[<- FU]
 have hb:Yz n a b c d e=((a||decide (n.name.s=[]))&&(b||decide (n.num=0))&&(c||(decide (n.elem.s=[])&&decide (n.dims.length+n.data.length=0)))&&(d||decide (n.sizes.length=0))&&(e||decide (n.ranks.length=0))):=rfl
 show Zd _ 0 (Za GN (Zf (Yz n a b c d e))) _ _ _
 rw[hb]
 have hb:Yz n a b c d e=((a||decide (n.name.s=[]))&&(b||decide (n.num=0))&&(c||(decide (n.elem.s=[])&&decide (n.dims.length+n.data.length=0)))&&(d||decide (n.sizes.length=0))&&(e||decide (n.ranks.length=0))):=rfl
 show Zd _ 0 (Za GN (Zf (Yz n a b c d e))) _ _ _
 rw[hb]
 refine d5x n ks a b c d e ?_
 simp only[List.length_map,P9 (show n.dims.length+n.data.length<=4611686018427387904 by omega),g7v]
 generalize decide (n.dims.length+n.data.length=0)=X
 generalize decide (n.sizes.length=0)=Y
 generalize decide (n.ranks.length=0)=Z
 clear hb h1 h2 g hw
 repeat' (first|refine Zy (fun _=> ?_) fun _=> ?_|refine YV (fun _=> ?_) fun _=> ?_|refine Zl ?_)
 all_goals simp_all
theorem c0h(l:List Lin)(hl:l.length<=1048576)(ho : ∀ x∈l,XM x=true)(R:Bool): ∀ (d i:Nat),d+i=l.length->R=(l.drop i).all Zh ->
  At Sg 0 (Za GR (Zf R)) G9 0 16 [(0,.pv (enc l)),(3,.pv (.int .i64 i))] []:=by
 intro d
 induction d with
 | zero=>
  intro i hi b
  rw[List.drop_eq_nil_of_le (by omega)]at b
  exact b6u l i (ZU (XO (by omega)) (Zl b.symm))
 | succ d ih=>
  intro i hi b
  have a:i<l.length:=by omega
  rw[List.drop_eq_getElem_cons a,List.all_cons]at b
  refine b6u l i (ZT (Xq a) ⟨Zq a rfl,ZB a ⟨Zc (l[i],()) rfl (ho _ (List.getElem_mem a)),Zb (l[i],()) rfl (YY (fun h=>Zl ?_) fun h=> ?_)⟩⟩)
  ·have h:Zh l[i]=false:=h
   rw[b,h];rfl
  ·have h:Zh l[i]=true:=h
   rw[next (by omega)]
   exact ih (i+1) (by omega) (by rw[b,h];rfl)
theorem d4u: ∀ x:List Lin×Unit,(decide (x.1.length<=1048576)&&x.1.all XM)=true->Zd Sg 0 (Za GR (Zf (x.1.all Zh))) G9 [] (Zx f0o (encL x)):=by
 rintro⟨l,⟨⟩⟩ h
 simp only[Bool.and_eq_true,decide_eq_true_eq,List.all_eq_true]at h
 exact f6o l (c0h l h.1 h.2 _ l.length 0 (by omega) rfl)
theorem d5v: ∀ x:Str×Bool×Unit,true=true->Zd c6q 0 (Za b8x (Zf (Vd x.1 x.2.1))) b5c [] (Zx e5e (encL x)):=by
 rintro⟨⟨s⟩,u,⟨⟩⟩ _
 refine f6k s u (YV (fun hu=> ?_) fun hu=> ?_)
 ·subst hu
  iterate 2 (refine Zy (fun h=>by subst h;exact⟨rfl,rfl⟩) fun h=> ?_)
  refine Zg (x:=(⟨⟨[]⟩,0,false⟩:R3 Str Int Bool)) ?_
  have e:b1w s true=none:=by
   unfold b1w
   rw[List.find?_eq_none]
   intro x a
   simp only[XP,List.mem_cons,List.not_mem_nil,or_false]at a
   rcases a with rfl|rfl|rfl|rfl|rfl|rfl|rfl|rfl|rfl|rfl|rfl|rfl|rfl|rfl|rfl <;> simp <;> intro e <;> simp_all
  show _=Vd ⟨s⟩ true
  unfold Vd
  rw[show b1w (⟨s⟩:Str).s true=none from e]
 ·subst hu
  iterate 13 (refine Zy (fun h=>by subst h;exact⟨rfl,rfl⟩) fun h=> ?_)
  refine Zg (x:=(⟨⟨[]⟩,0,false⟩:R3 Str Int Bool)) ?_
  have e:b1w s false=none:=by
   unfold b1w
   rw[List.find?_eq_none]
   intro x a
   simp only[XP,List.mem_cons,List.not_mem_nil,or_false]at a
   rcases a with rfl|rfl|rfl|rfl|rfl|rfl|rfl|rfl|rfl|rfl|rfl|rfl|rfl|rfl|rfl <;> simp <;> intro e <;> simp_all
  show _=Vd ⟨s⟩ false
  unfold Vd
  rw[show b1w (⟨s⟩:Str).s false=none from e]
theorem g5h{n:List UInt8}{r:OpR}(h:Bf n=some r):Jp ⟨n⟩=⟨⟨r.s⟩,r.u,true⟩:=by unfold Jp;rw[show Bf (⟨n⟩:Str).s=some r from h]
theorem d7f: ∀ x:Str×Unit,true=true->Zd YG 0 (Za Yf (Zf (Jp x.1))) Ye [] (Zx e8s (encL x)):=by
 rintro⟨⟨s⟩,⟨⟩⟩ _
 refine g1a s ?_
 refine d8k s (Zb (⟨[124,124]⟩,false,()) rfl ?_)
 refine ZT rfl (Zy (fun h=>by subst h;exact⟨rfl,rfl⟩) fun B=>Zb (⟨[124,124]⟩,true,()) rfl ?_)
 refine ZU (by decide) ?_
 refine d0x s (Zb (⟨[38,38]⟩,false,()) rfl ?_)
 refine ZT rfl (Zy (fun h=>by subst h;exact⟨rfl,rfl⟩) fun b1=>Zb (⟨[38,38]⟩,true,()) rfl ?_)
 refine ZU (by decide) ?_
 refine d5b s (Zb (⟨[61,61]⟩,false,()) rfl ?_)
 refine ZT rfl (Zy (fun h=>by subst h;exact⟨rfl,rfl⟩) fun q=>Zb (⟨[61,61]⟩,true,()) rfl ?_)
 refine ZU (by decide) ?_
 refine d4h s (Zb (⟨[33,61]⟩,false,()) rfl ?_)
 refine ZT rfl (Zy (fun h=>by subst h;exact⟨rfl,rfl⟩) fun l=>Zb (⟨[33,61]⟩,true,()) rfl ?_)
 refine ZU (by decide) ?_
 refine d4c s (Zb (⟨[60]⟩,false,()) rfl ?_)
 refine ZT rfl (Zy (fun h=>by subst h;exact⟨rfl,rfl⟩) fun k=>Zb (⟨[60]⟩,true,()) rfl ?_)
 refine ZU (by decide) ?_
 refine e0j s (Zb (⟨[60,61]⟩,false,()) rfl ?_)
 refine ZT rfl (Zy (fun h=>by subst h;exact⟨rfl,rfl⟩) fun r=>Zb (⟨[60,61]⟩,true,()) rfl ?_)
 refine ZU (by decide) ?_
 refine c9r s (Zb (⟨[62]⟩,false,()) rfl ?_)
 refine ZT rfl (Zy (fun h=>by subst h;exact⟨rfl,rfl⟩) fun u=>Zb (⟨[62]⟩,true,()) rfl ?_)
 refine ZU (by decide) ?_
 refine e0m s (Zb (⟨[62,61]⟩,false,()) rfl ?_)
 refine ZT rfl (Zy (fun h=>by subst h;exact⟨rfl,rfl⟩) fun z=>Zb (⟨[62,61]⟩,true,()) rfl ?_)
 refine ZU (by decide) ?_
 refine d4r s (Zb (⟨[43]⟩,false,()) rfl ?_)
 refine ZT rfl (Zy (fun h=>by subst h;exact⟨rfl,rfl⟩) fun m=>Zb (⟨[43]⟩,true,()) rfl ?_)
 refine ZU (by decide) ?_
 refine d8p s (Zb (⟨[45]⟩,false,()) rfl ?_)
 refine ZT rfl (Zy (fun h=>by subst h;exact⟨rfl,rfl⟩) fun y=>Zb (⟨[45]⟩,true,()) rfl ?_)
 refine ZT rfl (Zy (fun h=>by subst h;exact⟨rfl,rfl⟩) fun A=> ?_)
 refine d1g s (Zb (⟨[42]⟩,false,()) rfl ?_)
 refine ZT rfl (Zy (fun h=>by subst h;exact⟨rfl,rfl⟩) fun a=>Zb (⟨[42]⟩,true,()) rfl ?_)
 refine ZU (by decide) ?_
 refine c6l s (Zb (⟨[47]⟩,false,()) rfl ?_)
 refine ZT rfl (Zy (fun h=>by subst h;exact⟨rfl,rfl⟩) fun b=>Zb (⟨[47]⟩,true,()) rfl ?_)
 refine ZU (by decide) ?_
 refine c6u s (Zb (⟨[37]⟩,false,()) rfl ?_)
 refine ZT rfl (Zy (fun h=>by subst h;exact⟨rfl,rfl⟩) fun i=>Zb (⟨[37]⟩,true,()) rfl ?_)
 refine ZU (by decide) ?_
 refine e0f s (Zb (⟨[33]⟩,false,()) rfl ?_)
 refine ZU (by decide) (Zb (⟨[33]⟩,true,()) rfl ?_)
 refine ZT rfl (Zy (fun h=>by subst h;exact⟨rfl,rfl⟩) fun g=> ?_)
 refine d2f s (Zg (x:=(⟨⟨[]⟩,false,false⟩:R3 Str Bool Bool)) ?_)
 have e:Bf s=none:=by
  unfold Bf
  rw[List.find?_eq_none]
  intro x j
  simp only[XP,List.mem_cons,List.not_mem_nil,or_false]at j
  rcases j with rfl|rfl|rfl|rfl|rfl|rfl|rfl|rfl|rfl|rfl|rfl|rfl|rfl|rfl|rfl
  ·exact fun e=>B (eq_of_beq e)
  ·exact fun e=>b1 (eq_of_beq e)
  ·exact fun e=>q (eq_of_beq e)
  ·exact fun e=>l (eq_of_beq e)
  ·exact fun e=>k (eq_of_beq e)
  ·exact fun e=>r (eq_of_beq e)
  ·exact fun e=>u (eq_of_beq e)
  ·exact fun e=>z (eq_of_beq e)
  ·exact fun e=>m (eq_of_beq e)
  ·exact fun e=>y (eq_of_beq e)
  ·exact fun e=>a (eq_of_beq e)
  ·exact fun e=>b (eq_of_beq e)
  ·exact fun e=>i (eq_of_beq e)
  ·exact fun e=>A (eq_of_beq e)
  ·exact fun e=>g (eq_of_beq e)
 show _=Jp ⟨s⟩
 unfold Jp
 rw[show Bf (⟨s⟩:Str).s=none from e]
theorem Qf(n:Nd):PU n=(decide (n.elem.s=[])&&decide (n.dims.length+n.data.length=0)):=by
 unfold PU
 have a:decide (n.elem=⟨[]⟩)=decide (n.elem.s=[]):=decide_eq_decide.2 ⟨fun h=>by rw[h],fun h=>by cases hn:n.elem;rw[hn]at h;simp only at h;rw[h]⟩
 rw[a,Bool.and_assoc]
 congr 1
 cases n.dims <;> cases n.data <;> simp
theorem Jg(n:Nd):decide (n.name=⟨[]⟩)=decide (n.name.s=[]):=decide_eq_decide.2 ⟨fun h=>by rw[h],fun h=>by cases hn:n.name;rw[hn]at h;simp only at h;rw[h]⟩
theorem V6{α:Type}(l:List α):l.isEmpty=decide (l.length=0):=by cases l <;> simp
theorem Qp(n:Nd):P7 n=(decide (n.sizes.length=0)&&decide (n.ranks.length=0)):=by unfold P7;rw[V6,V6]
def De(n:Nd):Bool:=(decide (n.name.s=Xa)&&decide (n.num ≥ -2147483648)&&decide (n.num<=2147483647))||(decide (n.name.s=YM)&&(decide (n.num=0)||decide (n.num=1)))
theorem Qg(n:Nd):UK n=De n:=by
 unfold UK De
 rw[show decide (n.num<=2147483647)=decide (n.num<2147483648)from decide_eq_decide.2 (by omega)]
 by_cases h:n.name.s=YM
 ·rw[if_pos h,h]
  simp[Xa,YM]
 ·rw[if_neg h,decide_eq_false h]
  simp
theorem lQ1{n:Nd}(h1:n.name.s=[105,110,116])(h2:n.num ≥ -2147483648)(h3:n.num<=2147483647):De n=true:=by unfold De;rw[decide_eq_true (show n.name.s=Xa from h1),decide_eq_true h2,decide_eq_true h3];rfl
theorem lQ2{n:Nd}(h1:n.name.s=[98,111,111,108])(h2:n.num=0):De n=true:=by unfold De;rw[decide_eq_true (show n.name.s=YM from h1),decide_eq_true h2];simp
theorem lQ3{n:Nd}(h1:n.name.s=[98,111,111,108])(h2:n.num=1):De n=true:=by unfold De;rw[decide_eq_true (show n.name.s=YM from h1),decide_eq_true h2];simp
theorem lQ0{n:Nd}(h1 : ¬ (n.name.s=[105,110,116]∧n.num ≥ -2147483648∧n.num<=2147483647))(h2:n.name.s=[98,111,111,108]->n.num≠0∧n.num≠1):De n=false:=by
 rw[<- Bool.not_eq_true]
 intro h
 unfold De at h
 simp only[Bool.or_eq_true,Bool.and_eq_true,decide_eq_true_eq]at h
 rcases h with h|h
 ·exact h1 ⟨h.1.1,h.1.2,h.2⟩
 ·have:=h2 h.1
  rcases h.2 with h|h
  ·exact this.1 h
  ·exact this.2 h
theorem kB1{n:Nd}{k:Nat}(h:n.kind=1):YJ n k=(decide (k=0)&&nameI n.name.s&&Yz n true false false false false):=by
 unfold YJ Yz
 simp only[h,Qf,Jg,Qp,V6,Qg,Bool.true_or,Bool.false_or,Bool.true_and,Bool.and_true,if_true,if_false,Int.reduceEq]
 ac_rfl
theorem kB2{n:Nd}{k:Nat}(h:n.kind=2):YJ n k=(decide (k=0)&&De n&&Yz n true true false false false):=by
 unfold YJ Yz
 simp only[h,Qf,Jg,Qp,V6,Qg,Bool.true_or,Bool.false_or,Bool.true_and,Bool.and_true,if_true,if_false,Int.reduceEq]
 ac_rfl
theorem kB3{n:Nd}{k:Nat}(h:n.kind=3):YJ n k=(decide (k=0)&&WE (U6 n)&&Yz n false false true false false):=by
 unfold YJ Yz
 simp only[h,Qf,Jg,Qp,V6,Qg,Bool.true_or,Bool.false_or,Bool.true_and,Bool.and_true,if_true,if_false,Int.reduceEq]
 ac_rfl
theorem kB4{n:Nd}{k:Nat}(h:n.kind=4):YJ n k=(decide (k=0)&&decide (n.sizes.length=1)&&n.sizes.all Zh&&Yz n false false false true false):=by
 unfold YJ Yz
 simp only[h,Qf,Jg,Qp,V6,Qg,Bool.true_or,Bool.false_or,Bool.true_and,Bool.and_true,if_true,if_false,Int.reduceEq]
 ac_rfl
theorem kB5{n:Nd}{k:Nat}(h:n.kind=5):YJ n k=(decide (k=2)&&nameI n.name.s&&Yz n true false false false false):=by
 unfold YJ Yz
 simp only[h,Qf,Jg,Qp,V6,Qg,Bool.true_or,Bool.false_or,Bool.true_and,Bool.and_true,if_true,if_false,Int.reduceEq]
 ac_rfl
theorem kB6{n:Nd}{k:Nat}(h:n.kind=6):YJ n k=(XK n k&&Yz n true true false true true):=by
 unfold YJ Yz
 simp only[h,Qf,Jg,Qp,V6,Qg,Bool.true_or,Bool.false_or,Bool.true_and,Bool.and_true,if_true,if_false,Int.reduceEq]
 ac_rfl
theorem kB7{n:Nd}{k:Nat}(h:n.kind=7):YJ n k=(decide (1<=k)&&decide (k<=16)&&Yz n false false false false false):=by
 unfold YJ Yz
 simp only[h,Qf,Jg,Qp,V6,Qg,Bool.true_or,Bool.false_or,Bool.true_and,Bool.and_true,if_true,if_false,Int.reduceEq]
 ac_rfl
theorem kB8{n:Nd}{k:Nat}(h:n.kind=8):YJ n k=(decide (k=2)&&CY n.name.s&&Yz n true false false false false):=by
 unfold YJ Yz
 simp only[h,Qf,Jg,Qp,V6,Qg,Bool.true_or,Bool.false_or,Bool.true_and,Bool.and_true,if_true,if_false,Int.reduceEq]
 ac_rfl
theorem kB9{n:Nd}{k:Nat}(h:n.kind=9):YJ n k=(decide (k=1)&&CY n.name.s&&Yz n true false false false false):=by
 unfold YJ Yz
 simp only[h,Qf,Jg,Qp,V6,Qg,Bool.true_or,Bool.false_or,Bool.true_and,Bool.and_true,if_true,if_false,Int.reduceEq]
 ac_rfl
theorem kB0{n:Nd}{k:Nat}(h1:n.kind≠1)(h2:n.kind≠2)(h3:n.kind≠3)(h:n.kind≠4)(a:n.kind≠5)(b:n.kind≠6)(e:n.kind≠7)(i:n.kind≠8)(g:n.kind≠9):YJ n k=false:=by
 unfold YJ
 rw[if_neg h1,if_neg h2,if_neg h3,if_neg h,if_neg a,if_neg b,if_neg e,if_neg i,if_neg g]
theorem a0a{α:Type}[Enc α]{l:List α}{c:Int}{P Q:Prop}(h1:(l.length:Int)=c->P)(h2:(l.length:Int)≠c->Q):if ((↑(List.length (List.map (enc:α->PV) l)):Int)==c)=true then P else Q:=by
 rw[List.length_map];exact Zy h1 h2
theorem CQ{n:Nd}{ks:List Tm}{a b c d e:Bool}{P:Bool->Prop}(g:tW (.mk n ks)=true)(h:P (Yz n a b c d e)):preT (fun x:Tm×Bool×Bool×Bool×Bool×Bool×Unit=>tW x.1) (JW n ks a b c d e)=true∧ ∃ y:Bool,AV.pv (Zi (fun x:Tm×Bool×Bool×Bool×Bool×Bool×Unit=>Yz x.1.nd x.2.1 x.2.2.1 x.2.2.2.1 x.2.2.2.2.1 x.2.2.2.2.2.1) (JW n ks a b c d e))=AV.pv (enc y)∧P y:=
 ⟨Zc (Tm.mk n ks,a,b,c,d,e,()) (FU n ks a b c d e) g,Zb (Tm.mk n ks,a,b,c,d,e,()) (FU n ks a b c d e) h⟩
theorem d3b{l:List Lin}{P:Bool->Prop}(a:l.length<=1048576)(h1 : ∀ x∈l,XM x=true)(h:P (l.all Zh)):preT (fun x:List Lin×Unit=>decide (x.1.length<=1048576)&&x.1.all XM) [.sl 2 false (l.map enc)]=true∧ ∃ y:Bool,AV.pv (Zi (fun x:List Lin×Unit=>x.1.all Zh) [.sl 2 false (l.map enc)])=AV.pv (enc y)∧P y:=
 ⟨Zc (l,()) rfl (by show(decide (l.length<=1048576)&&l.all XM)=true;rw[decide_eq_true a,List.all_eq_true.2 h1];rfl),Zb (l,()) rfl h⟩
theorem g5u{n:Nd}{P:Bool->Prop}(a:VH (U6 n)=true)(h:P (WE (U6 n))):preT (fun x:Arr×Unit=>VH x.1) [.agg [.str n.elem.s,.sl 1 false (n.dims.map enc),.sl 1 false (n.data.map enc)]]=true∧ ∃ y:Bool,AV.pv (Zi (fun x:Arr×Unit=>WE x.1) [.agg [.str n.elem.s,.sl 1 false (n.dims.map enc),.sl 1 false (n.data.map enc)]])=AV.pv (enc y)∧P y:=
 ⟨Zc (U6 n,()) rfl a,Zb (U6 n,()) rfl h⟩
theorem b1q(n:Nd)(ks:List Tm)(j:tW (.mk n ks)=true)(R:Bool): ∀ (d i:Nat),d+i=n.ranks.length->R=(X8 (n.ranks.drop i)&&CY n.name.s&&Yz n true true false true true) ->
  At JD 0 (Za UZ (Zf R)) QU 0 221 [(1,.ptr 0 0),(5,.pv (.int .i64 i))] [.obj (.box (ZY n ks))]:=by
 have g:=ndB j
 have hr:=g.ranks
 have e:=g.name
 intro d
 induction d with
 | zero=>
  intro i hi b
  rw[List.drop_eq_nil_of_le (by omega)]at b
  have b:R=(CY n.name.s&&Yz n true true false true true):=b
  refine a5e n ks i (ZU (XO (by omega)) (d5e e (YV (fun h=>CQ j (Zl ?_)) fun h=>Zl ?_)))
  ·rw[b,h];rfl
  ·rw[b,h];rfl
 | succ d ih=>
  intro i hi b
  have a:i<n.ranks.length:=by omega
  rw[List.drop_eq_getElem_cons a]at b
  have hc:X8 (n.ranks[i]::n.ranks.drop (i+1))=((decide (0<=n.ranks[i])&&decide (n.ranks[i]<=6))&&X8 (n.ranks.drop (i+1))):=rfl
  rw[hc]at b
  refine a5e n ks i (ZT (Xq a) ⟨Zq a rfl,ZB a (ZO (fun h=>Zl ?_) fun h=>⟨Zq a rfl,ZB a (ZO (fun h2=>Zl ?_) fun h2=> ?_)⟩)⟩)
  ·have h:n.ranks[i]<0:=h
   rw[b,decide_eq_false (by omega)];rfl
  ·have h2:n.ranks[i]>6:=h2
   rw[b,decide_eq_false (show ¬ n.ranks[i]<=6 by omega),Bool.and_false];rfl
  ·have h : ¬ n.ranks[i]<0:=h
   have h2 : ¬ n.ranks[i]>6:=h2
   rw[next (by omega)]
   exact ih (i+1) (by omega) (by rw[b,decide_eq_true (by omega),decide_eq_true (show n.ranks[i]<=6 by omega)];rfl)
theorem c3z: ∀ x:Tm×Unit,tW x.1=true->Zd JD 0 (Za UZ (Zf (Hm x.1))) QU [] (Zx c9y (encL x)):=by
 rintro⟨⟨n,ks⟩,⟨⟩⟩ hw
 have y:=ndB hw
 have k:=y.name
 have hkl:=(G5 hw).1
 have u : ∀ l∈n.sizes,XM l=true:=fun l L=>decide_eq_true (by have:=y.lens l L;omega)
 rw[<- ZP]
 show Zd _ 0 (Za UZ (Zf (WC n ks.length))) _ _ _
 refine e7r n ks (ZO (fun h=>Zl ?_) fun h1=>ZO (fun h=>Zl ?_) fun h2=> ?_)
 ·unfold WC;rw[decide_eq_false (by omega)];rfl
 ·unfold WC;rw[decide_eq_false (show ¬ n.line<=10000 by omega),Bool.and_false];rfl
 have hn:WC n ks.length=YJ n ks.length:=by unfold WC;rw[decide_eq_true (by omega),decide_eq_true (by omega)];rfl
 rw[hn]
 refine Zy (fun g=> ?_) fun J=>Zy (fun g=> ?_) fun O=>Zy (fun g=> ?_) fun E=>Zy (fun g=> ?_) fun K=>Zy (fun g=> ?_) fun C=>Zy (fun g=> ?_) fun H=>Zy (fun g=> ?_) fun N=>Zy (fun g=> ?_) fun B=>Zy (fun g=> ?_) fun M=>Zl (kB0 J O E K C H N B M).symm
 ·rw[kB1 g]
  refine a0a (fun j=>KH k (YV (fun e=>CQ hw (Zl ?_)) fun e=>Zl ?_)) fun j=>Zl ?_
  ·rw[e,decide_eq_true (by omega)];rfl
  ·rw[e,Bool.and_false];rfl
  ·rw[decide_eq_false (by omega)];rfl
 ·rw[kB2 g]
  have i:De n=true->(ks.length:Int)=0->Yz n true true false false false=(decide (ks.length=0)&&De n&&Yz n true true false false false):=fun a b=>by rw[a,decide_eq_true (show ks.length=0 by omega)];rfl
  have q:De n=false->false=(decide (ks.length=0)&&De n&&Yz n true true false false false):=fun a=>by rw[a,Bool.and_false];rfl
  have r:(ks.length:Int)≠0->false=(decide (ks.length=0)&&De n&&Yz n true true false false false):=fun a=>by rw[decide_eq_false (show ¬ ks.length=0 by omega)];rfl
  repeat' (first|refine a0a (fun _=> ?_) fun _=> ?_|refine Zy (fun _=> ?_) fun _=> ?_|refine ZO (fun _=> ?_) fun _=> ?_|refine CQ hw (Zl ?_)|refine Zl ?_)
  all_goals first
   | exact r ‹_›
   | exact i (lQ1 ‹_› ‹_› ‹_›) ‹_›
   | exact i (lQ2 ‹_› ‹_›) ‹_›
   | exact i (lQ3 ‹_› ‹_›) ‹_›
   | exact q (lQ0 (fun h=>by first|exact absurd h.1 ‹_› | exact absurd h.2.1 ‹_› | exact absurd h.2.2 ‹_›) (fun a=>by first|exact absurd a ‹_› | exact⟨‹_›,‹_›⟩))
 ·rw[kB3 g]
  refine a0a (fun j=>g5u (OX hw) (YV (fun e=>CQ hw (Zl ?_)) fun e=>Zl ?_)) fun j=>Zl ?_
  ·rw[e,decide_eq_true (by omega)];rfl
  ·rw[e,Bool.and_false];rfl
  ·rw[decide_eq_false (by omega)];rfl
 ·rw[kB4 g]
  refine a0a (fun j=>a0a (fun h3=>d3b y.sizes u (YV (fun e=>CQ hw (Zl ?_)) fun e=>Zl ?_)) fun h3=>Zl ?_) fun j=>Zl ?_
  ·rw[e,decide_eq_true (show ks.length=0 by omega),decide_eq_true (show n.sizes.length=1 by omega)];rfl
  ·rw[e,Bool.and_false];rfl
  ·rw[decide_eq_false (show ¬ n.sizes.length=1 by omega),Bool.and_false];rfl
  ·rw[decide_eq_false (show ¬ ks.length=0 by omega)];rfl
 ·rw[kB5 g]
  refine a0a (fun j=>KH k (YV (fun e=>CQ hw (Zl ?_)) fun e=>Zl ?_)) fun j=>Zl ?_
  ·rw[e,decide_eq_true (by omega)];rfl
  ·rw[e,Bool.and_false];rfl
  ·rw[decide_eq_false (by omega)];rfl
 ·rw[kB6 g]
  have hc:XK n ks.length=(decide (ks.length<=8)&&decide (n.sizes.length<=4)&&n.sizes.all Zh&&decide (0<=n.num)&&decide (n.num<=64)&&(n.ranks.isEmpty||decide (n.ranks.length=ks.length))&&(X8 n.ranks&&CY n.name.s)):=by unfold XK;ac_rfl
  rw[hc]
  refine ZO (fun h3=>Zl ?_) fun h3=>ZO (fun m=>Zl ?_) fun m=>d3b y.sizes u (YY (fun e=>Zl ?_) fun e=>ZO (fun I=>Zl ?_) fun I=>ZO (fun D=>Zl ?_) fun D=> ?_)
  ·rw[List.length_map]at h3
   rw[decide_eq_false (show ¬ ks.length<=8 by omega)];simp
  ·rw[List.length_map]at m
   rw[decide_eq_false (show ¬ n.sizes.length<=4 by omega)];simp
  ·rw[e];simp
  ·rw[decide_eq_false (show ¬ 0<=n.num by omega)];simp
  ·rw[decide_eq_false (show ¬ n.num<=64 by omega)];simp
  ·rw[List.length_map]at h3 m
   have go:(n.ranks.isEmpty||decide (n.ranks.length=ks.length))=true->At JD 0 (Za UZ (Zf (decide (ks.length<=8)&&decide (n.sizes.length<=4)&&n.sizes.all Zh&&decide (0<=n.num)&&decide (n.num<=64)&&(n.ranks.isEmpty||decide (n.ranks.length=ks.length))&&(X8 n.ranks&&CY n.name.s)&&Yz n true true false true true))) QU 0 221 [(1,.ptr 0 0),(5,.pv (.int .i64 ((0:Nat):Int)))] [.obj (.box (ZY n ks))]:=fun F=>
    b1q n ks hw _ n.ranks.length 0 (by omega) (by rw[F,e,decide_eq_true (show ks.length<=8 by omega),decide_eq_true (show n.sizes.length<=4 by omega),decide_eq_true (show 0<=n.num by omega),decide_eq_true (show n.num<=64 by omega)];rfl)
   refine BS (fun z=>BS (fun A=>Zl ?_) fun A=> ?_) fun z=> ?_
   ·rw[List.length_map,List.length_map]at A
    rw[List.length_map]at z
    rw[V6,decide_eq_false (show ¬ n.ranks.length=0 by omega),decide_eq_false (show ¬ n.ranks.length=ks.length by omega)];simp
   ·rw[List.length_map,List.length_map]at A
    exact go (by rw[decide_eq_true (show n.ranks.length=ks.length by omega),Bool.or_true])
   ·rw[List.length_map]at z
    exact go (by rw[V6,decide_eq_true (show n.ranks.length=0 by omega),Bool.true_or])
 ·rw[kB7 g]
  refine ZO (fun h3=>ZO (fun m=>CQ hw (Zl ?_)) fun m=>Zl ?_) fun h3=>Zl ?_
  ·rw[List.length_map]at h3 m
   rw[decide_eq_true (show 1<=ks.length by omega),decide_eq_true (show ks.length<=16 by omega)];rfl
  ·rw[List.length_map]at m
   rw[decide_eq_false (show ¬ ks.length<=16 by omega),Bool.and_false];rfl
  ·rw[List.length_map]at h3
   rw[decide_eq_false (show ¬ 1<=ks.length by omega)];rfl
 ·rw[kB8 g]
  refine a0a (fun j=>d5e k (YV (fun e=>CQ hw (Zl ?_)) fun e=>Zl ?_)) fun j=>Zl ?_
  ·rw[e,decide_eq_true (by omega)];rfl
  ·rw[e,Bool.and_false];rfl
  ·rw[decide_eq_false (by omega)];rfl
 ·rw[kB9 g]
  refine a0a (fun j=>d5e k (YV (fun e=>CQ hw (Zl ?_)) fun e=>Zl ?_)) fun j=>Zl ?_
  ·rw[e,decide_eq_true (by omega)];rfl
  ·rw[e,Bool.and_false];rfl
  ·rw[decide_eq_false (by omega)];rfl
theorem f2i{n:Nd}{ks:List Tm}{β:Type}[Enc β]{F:Tm->β}{P:β->Prop}(a:tW (.mk n ks)=true)(h:P (F (.mk n ks))):preT (fun x:Tm×Unit=>tW x.1) (Dh n ks)=true∧ ∃ y:β,AV.pv (Zi (fun x:Tm×Unit=>F x.1) (Dh n ks))=AV.pv (enc y)∧P y:=
 ⟨Zc (Tm.mk n ks,()) (ZP n ks) a,Zb (Tm.mk n ks,()) (ZP n ks) h⟩
theorem c2m(N:Nat)(n:Nd)(ks:List Tm)(e:tW (.mk n ks)=true)(hd:Yc ks<N)(R:Bool): ∀ (d i:Nat),d+i=ks.length->R=(WC n ks.length&&(ks.drop i).all Z9) ->
  At (Sy N) 0 (Za G8 (Zf R)) Gt 0 20 [(1,.ptr 0 0),(3,.pv (.int .i64 i))] [.obj (.box (ZY n ks))]:=by
 intro d
 induction d with
 | zero=>
  intro i hi b
  rw[List.drop_eq_nil_of_le (by omega),List.all_nil,Bool.and_true]at b
  refine b3z N n ks i (ZU (XO (by omega)) (f2i e (Zl ?_)))
  rw[b];rfl
 | succ d ih=>
  intro i hi b
  have a:i<ks.length:=by omega
  have hkl:=(G5 e).1
  rw[List.drop_eq_getElem_cons a,List.all_cons]at b
  refine b3z N n ks i (ZT (Xq a) ⟨Zq a rfl,ZB a ⟨Xy _,Zc (ks[i],()) (Yd _) (TN e hd (List.getElem_mem a)),Zb (ks[i],()) (Yd _) (YY (fun h=>Zl ?_) fun h=> ?_)⟩⟩)
  ·have h:Z9 ks[i]=false:=h
   rw[b,h];simp
  ·have h:Z9 ks[i]=true:=h
   rw[next (by omega)]
   exact ih (i+1) (by omega) (by rw[b,h];rfl)
theorem d6c(N:Nat): ∀ x:Tm×Unit,(tW x.1&&decide (Z4 x.1<N+1))=true->Zd (Sy N) 0 (Za G8 (Zf (Z9 x.1))) Gt [] (Zx f0k (encL x)):=by
 rintro⟨⟨n,ks⟩,⟨⟩⟩ h
 simp only[Bool.and_eq_true,decide_eq_true_eq]at h
 have hd:Z4 (.mk n ks)<N+1:=h.2
 rw[Z4]at hd
 rw[<- ZP]
 exact f7k N n ks (c2m N n ks h.1 (by omega) _ ks.length 0 (by omega) (by show Z9 (.mk n ks)=_;rw[Z9,Ul];rfl))
set_option maxRecDepth 20000 in
theorem b0x: ∀ x:Tm×Unit,tW x.1=true->Zd a0c 0 (Za AO (Zf (Y7 x.1))) Fu [] (Zx c2h (encL x)):=by
 rintro⟨⟨n,ks⟩,⟨⟩⟩ hw
 have g : ∀ a b:Nat,(b:Int)=b->decide (a<=b)=decide ((a:Int)<=(b:Int)):=fun a b _=>decide_eq_decide.2 (by omega)
 have h:decide (Yb (.mk n ks)<=400)=decide (((Yb (.mk n ks):Nat):Int)<=400):=g _ 400 rfl
 have i:decide (Z4 (.mk n ks)<=40)=decide (((Z4 (.mk n ks):Nat):Int)<=40):=g _ 40 rfl
 have e:Y7 (.mk n ks)=(decide (((Yb (.mk n ks):Nat):Int)<=400)&&decide (((Z4 (.mk n ks):Nat):Int)<=40)&&Z9 (.mk n ks)):=by
  unfold Y7 Xb
  rw[Dy,h,i]
 rw[<- ZP]
 show Zd _ 0 (Za AO (Zf (Y7 (.mk n ks)))) _ _ _
 rw[e]
 refine d9l n ks ⟨Zc (Tm.mk n ks,()) (ZP n ks) hw,Zb (Tm.mk n ks,()) (ZP n ks) (ZO (fun h1=>⟨Zc (Tm.mk n ks,()) (ZP n ks) hw,Zb (Tm.mk n ks,()) (ZP n ks) (ZO (fun h2=>f2i hw (Zl ?_)) fun h2=>Zl ?_)⟩) fun h1=>Zl ?_)⟩
 ·have h1:((Yb (.mk n ks):Nat):Int)<=400:=h1
  have h2:((Z4 (.mk n ks):Nat):Int)<=40:=h2
  rw[decide_eq_true h1,decide_eq_true h2];rfl
 ·have h2 : ¬ ((Z4 (.mk n ks):Nat):Int)<=40:=h2
  rw[decide_eq_false h2,Bool.and_false];rfl
 ·have h1 : ¬ ((Yb (.mk n ks):Nat):Int)<=400:=h1
  rw[decide_eq_false h1];rfl
end Go.Pl
namespace Go.Pl
open Go.RowKit
open Enc (enc dec is)
open EncL (encL decL isL)
set_option maxRecDepth 100000
abbrev g1h(ps:List PV)(k:Bool->Prop):Prop:=ceP (fun(x:Str×Int×Unit)=>X5 (Prod.fst x) (Prod.fst (Prod.snd x))) ps k
abbrev f2k(ps:List PV)(k:List Int->Prop):Prop:=Ym (fun(x:List Int×Unit)=>decide (List.length (Prod.fst x)<=2000000)) (fun(x:List Int×Unit)=>Prod.fst x) ps k
abbrev g1s(ps:List PV)(k:Arr×Int->Prop):Prop:=Ym (fun(x:Str×List Int×List Int×Unit)=>decide (List.length (Prod.fst (Prod.snd x))<=2000000)&&decide (List.length (Prod.fst (Prod.snd (Prod.snd x)))<=2000000)) (fun(x:Str×List Int×List Int×Unit)=>Jh (Prod.fst x) (Prod.fst (Prod.snd x)) (Prod.fst (Prod.snd (Prod.snd x)))) ps k
abbrev c6r(N:Nat)(ps:List PV)(k:Str->Prop):Prop:=Ym (fun(x:Int×Unit)=>decide (Int.natAbs (Prod.fst x)<9223372036854775808)&&decide (Ac (Prod.fst x)<N)) (fun(x:Int×Unit)=>Zp (Prod.fst x)) ps k
abbrev g6g(ps:List PV)(k:Bool->Prop):Prop:=Ym (fun(x:Arr×Unit)=>VH (Prod.fst x)) (fun(x:Arr×Unit)=>WE (Prod.fst x)) ps k
abbrev d3s(ps:List PV)(k:Str->Prop):Prop:=Ym (fun(x:Int×Unit)=>decide (Int.natAbs (Prod.fst x)<9223372036854775808)) (fun(x:Int×Unit)=>Zp (Prod.fst x)) ps k
noncomputable def a4d:IC:=YI Proofs.Tryz.f169
def a0k:List IRes:=[(.tmp 2)]
abbrev d2k:Nat:=6
def b7h:ZC:=Yh []
theorem f0d{G:PV->Prop}(l:List Int)(h:(List.isEmpty (List.map enc l)||Enc.sz Int==1)=true∧((List.length ([]:List PV)==0&&0==0&&decide ((0+List.length (List.map enc l))*8<=1099511627776)&&decide (0+List.length (List.map enc l)<=1099511627776))=true∧((List.length (([]:List PV)++List.map enc l)==0+List.length (List.map enc l))=true∧(G ((.sl 1 false (List.drop 0 (List.take (0+List.length (List.map enc l)) (([]:List PV)++List.map enc l))))))))):Zd b7h 0 (Za a0k G) a4d [] (Zx 6 [enc l]):=Zd.tp (.lit (.req (.req (.req (.nil))))) h
noncomputable def b3u:IC:=YI Proofs.Tryz.f168
def b7d:List IRes:=[(.tmp 4)]
abbrev e7m:Nat:=23
def d0l:ZC:=Yh []
theorem f3n{G:PV->Prop}(e:List UInt8)(n:Int)(h:if (e==[(98:UInt8),(111:UInt8),(111:UInt8),(108:UInt8)])=true then if (n==0)=true then G ((.bool true))else(G ((.bool (n==1))))else(if (e==[(105:UInt8),(110:UInt8),(116:UInt8)])=true then if (decide (n ≥ (-2147483648:Int)))=true then G ((.bool (decide (n<=2147483647))))else(G ((.bool false)))else(G ((.bool false))))):Zd d0l 0 (Za b7d G) b3u [] (Zx 23 [.str e,.int .i64 n]):=Zd.tp (dm [] 43 0x222220220222004422200e4202220220034200c42) h
noncomputable def UX:IC:=YI Proofs.Tryz.f142
def UW:List IRes:=[(.cell true 3 6),(.tmp 7)]
abbrev a0t:Nat:=52
def Q8:ZC:=Yh [(167,.pure (preT (fun _:List Int×Unit=>true)) (Zi (fun x:List Int×Unit=>Y2 x.1))),(168,.pure (preT (fun _:Str×Int×Unit=>true)) (Zi (fun x:Str×Int×Unit=>X5 x.1 x.2.1))),(169,.pure (preT (fun x:List Int×Unit=>decide (x.1.length<=2000000))) (Zi (fun x:List Int×Unit=>x.1)))]
theorem e4s{G:PV->Prop}(e:List UInt8)(d x:List Int)(h:if (!e==[(105:UInt8),(110:UInt8),(116:UInt8)])=true then if (!e==[(98:UInt8),(111:UInt8),(111:UInt8),(108:UInt8)])=true then G ((.tup [(.agg [(.str []),(.sl 0 true []),(.sl 0 true [])]),(.int .i64 12)]))else((Go.Pl.preT (fun(x:List Int×Unit)=>true) [(.sl 1 false (List.map enc d))])=true∧(∃ b:Int×Int,AV.pv (Zi (fun(x:List Int×Unit)=>Y2 x.1) [(.sl 1 false (List.map enc d))])=AV.pv (enc b)∧(if (b.2 != 0)=true then G ((.tup [(.agg [(.str []),(.sl 0 true []),(.sl 0 true [])]),(.int .i64 b.2)]))else(if ((↑(List.length (List.map enc x)):Int) != b.1)=true then G ((.tup [(.agg [(.str []),(.sl 0 true []),(.sl 0 true [])]),(.int .i64 1)]))else(At Q8 0 (Za UW G) UX 0 52 [(0,(.pv (.str e))),(1,(.pv (.sl 1 false (List.map enc d)))),(2,(.pv (.sl 1 false (List.map enc x)))),(6,(.ptr 0 0)),(10,(.pv (.int .i64 0)))] [(.obj (.box [(.pv (.str [])),(.pv (.sl 0 true [])),(.pv (.sl 0 true []))]))])))))else((Go.Pl.preT (fun(x:List Int×Unit)=>true) [(.sl 1 false (List.map enc d))])=true∧(∃ a:Int×Int,AV.pv (Zi (fun(x:List Int×Unit)=>Y2 x.1) [(.sl 1 false (List.map enc d))])=AV.pv (enc a)∧(if (a.2 != 0)=true then G ((.tup [(.agg [(.str []),(.sl 0 true []),(.sl 0 true [])]),(.int .i64 a.2)]))else(if ((↑(List.length (List.map enc x)):Int) != a.1)=true then G ((.tup [(.agg [(.str []),(.sl 0 true []),(.sl 0 true [])]),(.int .i64 1)]))else(At Q8 0 (Za UW G) UX 0 52 [(0,(.pv (.str e))),(1,(.pv (.sl 1 false (List.map enc d)))),(2,(.pv (.sl 1 false (List.map enc x)))),(6,(.ptr 0 0)),(10,(.pv (.int .i64 0)))] [(.obj (.box [(.pv (.str [])),(.pv (.sl 0 true [])),(.pv (.sl 0 true []))]))])))))):Zd Q8 0 (Za UW G) UX [] (Zx 52 [.str e,enc d,enc x]):=Zd.tp (dm [dv (Int×Int)] 47 0x142000142512220000142000142510001422201742) h
theorem a1m{G:PV->Prop}(e:List UInt8)(d x:List Int)(i:Int)(h:if (Cn x i)=true then(Y1 x i 1 fun j=>(g1h [(.str e),(.int .i64 (PV.asInt (VD j)))] fun a=>(if (!a)=true then G ((.tup [(.agg [(.str []),(.sl 0 true []),(.sl 0 true [])]),(.int .i64 2)]))else(At Q8 0 (Za UW G) UX 0 52 [(0,(.pv (.str e))),(1,(.pv (.sl 1 false (List.map enc d)))),(2,(.pv (.sl 1 false (List.map enc x)))),(6,(.ptr 0 0)),(10,(.pv (.int .i64 (IntKind.wrap IntKind.i64 (i+1)))))] [(.obj (.box [(.pv (.str [])),(.pv (.sl 0 true [])),(.pv (.sl 0 true []))]))]))))else((f2k [(.sl 1 false (List.map enc d))] fun b=>((f2k [(.sl 1 false (List.map enc x))] fun g=>(G ((.tup [(.agg [(.str e),(.sl 1 false (List.map enc b)),(.sl 1 false (List.map enc g))]),(.int .i64 0)])))))))):At Q8 0 (Za UW G) UX 0 52 [(0,.pv (.str e)),(1,.pv (enc d)),(2,.pv (enc x)),(6,.ptr 0 0),(10,.pv (.int .i64 i))] [.obj (.box [.pv (.str []),.pv (.sl 0 true []),.pv (.sl 0 true [])])]:=At.tp (dm [dr Int,dv Bool,dv (List Int)] 23 0x717102000146225100c42) h
noncomputable def b7j:IC:=YI Proofs.Tryz.f114
def b6p:List IRes:=[(.tmp 2)]
abbrev e3x:Nat:=17
def d0t:ZC:=Yh [(142,.pure (preT (fun x:Str×List Int×List Int×Unit=>decide (x.2.1.length<=2000000)&&decide (x.2.2.1.length<=2000000))) (Zi (fun x:Str×List Int×List Int×Unit=>Jh x.1 x.2.1 x.2.2.1)))]
theorem f3u{G:PV->Prop}(a:Arr)(h:(g1s [(.str (Str.s (Arr.e a))),(.sl 1 false (List.map enc (Arr.d a))),(.sl 1 false (List.map enc (Arr.x a)))] fun b=>(G ((.bool (b.2==0)))))):Zd d0t 0 (Za b6p G) b7j [] (Zx 17 [enc a]):=Zd.tp (.req (FJ (Arr×Int) (.lit (.nil)))) h
noncomputable def b4c:IC:=YI Proofs.Tryz.f115
def b5a:List IRes:=[(.tmp 2)]
abbrev e5s:Nat:=24
def c8m(N:Nat):ZC:=Yh [(115,.pure (preT (fun x:Int×Unit=>(decide (x.1.natAbs<9223372036854775808))&&decide (Ac x.1<N))) (Zi (fun x:Int×Unit=>Zp x.1)))]
theorem f7z{G:PV->Prop}(N:Nat)(n:Int)(h:if (decide (n<0))=true then(c6r N [(.int .i64 (IntKind.wrap IntKind.i64 (-n)))] fun b=>(ZA [(45:UInt8)] (Str.s b)∧(G ((.str ([(45:UInt8)]++Str.s b))))))else((List.length [PV.int IntKind.u8 (IntKind.wrap IntKind.u8 (IntKind.wrap IntKind.i64 (48+Int.tmod n 10)))]==1&&List.all [PV.int IntKind.u8 (IntKind.wrap IntKind.u8 (IntKind.wrap IntKind.i64 (48+Int.tmod n 10)))] DJ&&1==1)=true∧(if (decide (n<10))=true then G ((.str (Y0 (List.drop 0 (List.take 1 [PV.int IntKind.u8 (IntKind.wrap IntKind.u8 (IntKind.wrap IntKind.i64 (48+Int.tmod n 10)))])))))else((c6r N [(.int .i64 (IntKind.wrap IntKind.i64 (Int.tdiv n 10)))] fun a=>(ZA (Str.s a) (Y0 (List.drop 0 (List.take 1 [PV.int IntKind.u8 (IntKind.wrap IntKind.u8 (IntKind.wrap IntKind.i64 (48+Int.tmod n 10)))])))∧(G ((.str (Str.s a++Y0 (List.drop 0 (List.take 1 [PV.int IntKind.u8 (IntKind.wrap IntKind.u8 (IntKind.wrap IntKind.i64 (48+Int.tmod n 10)))])))))))))))):Zd (c8m N) 0 (Za b5a G) b4c [] (Zx 24 [enc n]):=Zd.tp (dm [dv Str] 25 0x15120001421222015100442) h
noncomputable def WX:IC:=YI Proofs.Tryz.f80
def WW:List IRes:=[(.tmp 2),(.tmp 3)]
abbrev f0i:Nat:=52
def Uo:ZC:=Yh [(114,.pure (preT (fun x:Arr×Unit=>VH x.1)) (Zi (fun x:Arr×Unit=>WE x.1))),(115,.pure (preT (fun x:Int×Unit=>decide (x.1.natAbs<9223372036854775808))) (Zi (fun x:Int×Unit=>Zp x.1)))]
theorem f7x{G:PV->Prop}(a:Arr)(h:(g6g [(.agg [(.str (Str.s (Arr.e a))),(.sl 1 false (List.map enc (Arr.d a))),(.sl 1 false (List.map enc (Arr.x a)))])] fun b=>(if (!b)=true then G ((.tup [(.str []),(.int .i64 1)]))else(if (Str.s (Arr.e a)==[(98:UInt8),(111:UInt8),(111:UInt8),(108:UInt8)])=true then At Uo 0 (Za WW G) WX 0 52 [(1,(.ptr 0 0)),(4,(.pv (.str [(35:UInt8),(98:UInt8),(91:UInt8)]))),(5,(.pv (.int .i64 0)))] [(.obj (.box [(.pv (.str (Str.s (Arr.e a)))),(.pv (.sl 1 false (List.map enc (Arr.d a)))),(.pv (.sl 1 false (List.map enc (Arr.x a))))]))]else(At Uo 0 (Za WW G) WX 0 52 [(1,(.ptr 0 0)),(4,(.pv (.str [(35:UInt8),(91:UInt8)]))),(5,(.pv (.int .i64 0)))] [(.obj (.box [(.pv (.str (Str.s (Arr.e a)))),(.pv (.sl 1 false (List.map enc (Arr.d a)))),(.pv (.sl 1 false (List.map enc (Arr.x a))))]))]))))):Zd Uo 0 (Za WW G) WX [] (Zx 52 [enc a]):=Zd.tp (dm [dv Bool] 15 0x1420001451) h
theorem b5o{G:PV->Prop}(a:Arr)(o:List UInt8)(i:Int)(h:if (Cn (Arr.d a) i)=true then if (decide (i>0))=true then ZA o [(32:UInt8)]∧((Y1 (Arr.d a) i 1 fun k=>((d3s [(.int .i64 (PV.asInt (VD k)))] fun b=>(ZA (o++[(32:UInt8)]) (Str.s b)∧(At Uo 0 (Za WW G) WX 0 52 [(1,(.ptr 0 0)),(4,(.pv (.str (o++[(32:UInt8)]++Str.s b)))),(5,(.pv (.int .i64 (IntKind.wrap IntKind.i64 (i+1)))))] [(.obj (.box [(.pv (.str (Str.s (Arr.e a)))),(.pv (.sl 1 false (List.map enc (Arr.d a)))),(.pv (.sl 1 false (List.map enc (Arr.x a))))]))]))))))else((Y1 (Arr.d a) i 1 fun j=>((d3s [(.int .i64 (PV.asInt (VD j)))] fun g=>(ZA o (Str.s g)∧(At Uo 0 (Za WW G) WX 0 52 [(1,(.ptr 0 0)),(4,(.pv (.str (o++Str.s g)))),(5,(.pv (.int .i64 (IntKind.wrap IntKind.i64 (i+1)))))] [(.obj (.box [(.pv (.str (Str.s (Arr.e a)))),(.pv (.sl 1 false (List.map enc (Arr.d a)))),(.pv (.sl 1 false (List.map enc (Arr.x a))))]))]))))))else(ZA o [(58:UInt8)]∧(At Uo 0 (Za WW G) WX 1 52 [(1,(.ptr 0 0)),(4,(.pv (.str (o++[(58:UInt8)])))),(6,(.pv (.int .i64 0)))] [(.obj (.box [(.pv (.str (Str.s (Arr.e a)))),(.pv (.sl 1 false (List.map enc (Arr.d a)))),(.pv (.sl 1 false (List.map enc (Arr.x a))))]))]))):At Uo 0 (Za WW G) WX 0 52 [(1,.ptr 0 0),(4,.pv (.str o)),(5,.pv (.int .i64 i))] [.obj (.box [.pv (.str a.e.s),.pv (enc a.d),.pv (enc a.x)])]:=At.tp (dm [dr Int,dv Str] 30 0x1021612510216125110094201642) h
theorem b6d{G:PV->Prop}(a:Arr)(o:List UInt8)(i:Int)(h:if (Cn (Arr.x a) i)=true then(Y1 (Arr.x a) i 1 fun g=>((d3s [(.int .i64 (PV.asInt (VD g)))] fun b=>(ZA [(32:UInt8)] (Str.s b)∧(ZA o ([(32:UInt8)]++Str.s b)∧(At Uo 0 (Za WW G) WX 1 52 [(1,(.ptr 0 0)),(4,(.pv (.str (o++([(32:UInt8)]++Str.s b))))),(6,(.pv (.int .i64 (IntKind.wrap IntKind.i64 (i+1)))))] [(.obj (.box [(.pv (.str (Str.s (Arr.e a)))),(.pv (.sl 1 false (List.map enc (Arr.d a)))),(.pv (.sl 1 false (List.map enc (Arr.x a))))]))]))))))else(ZA o [(93:UInt8)]∧(G ((.tup [(.str (o++[(93:UInt8)])),(.int .i64 0)]))))):At Uo 0 (Za WW G) WX 1 52 [(1,.ptr 0 0),(4,.pv (.str o)),(6,.pv (.int .i64 i))] [.obj (.box [.pv (.str a.e.s),.pv (enc a.d),.pv (enc a.x)])]:=At.tp (dm [dr Int,dv Str] 17 0x102116125100942) h
noncomputable def GQ:IC:=YI Proofs.Tryz.f76
def GY:List IRes:=[(.tmp 2)]
abbrev e6f:Nat:=31
def BN(N:Nat):ZC:=Yh [(76,.pure (preT (fun x:Int×Unit=>(decide (x.1.natAbs<9223372036854775808))&&decide (Ac x.1<N))) (Zi (fun x:Int×Unit=>Zp x.1)))]
theorem f5x{G:PV->Prop}(N:Nat)(m:Int)(h:if (decide (m<0))=true then(c6r N [(.int .i64 (IntKind.wrap IntKind.i64 (-m)))] fun a=>(ZA [(45:UInt8)] (Str.s a)∧(G ((.str ([(45:UInt8)]++Str.s a))))))else((List.length [PV.int IntKind.u8 (IntKind.wrap IntKind.u8 (IntKind.wrap IntKind.i64 (48+Int.tmod m 10)))]==1&&List.all [PV.int IntKind.u8 (IntKind.wrap IntKind.u8 (IntKind.wrap IntKind.i64 (48+Int.tmod m 10)))] DJ&&1==1)=true∧(At (BN N) 0 (Za GY G) GQ 0 31 [(0,(.pv (.int .i64 (IntKind.wrap IntKind.i64 (Int.tdiv m 10))))),(3,(.pv (.str (Y0 (List.drop 0 (List.take 1 [PV.int IntKind.u8 (IntKind.wrap IntKind.u8 (IntKind.wrap IntKind.i64 (48+Int.tmod m 10)))]))))))] []))):Zd (BN N) 0 (Za GY G) GQ [] (Zx 31 [enc m]):=Zd.tp (dm [dv Str] 16 0x21222015100442) h
theorem b5x{G:PV->Prop}(N:Nat)(m:Int)(n:Int)(o:List UInt8)(h:if (decide (n>0))=true then(List.length [PV.int IntKind.u8 (IntKind.wrap IntKind.u8 (IntKind.wrap IntKind.i64 (48+Int.tmod n 10)))]==1&&List.all [PV.int IntKind.u8 (IntKind.wrap IntKind.u8 (IntKind.wrap IntKind.i64 (48+Int.tmod n 10)))] DJ&&1==1)=true∧(ZA (Y0 (List.drop 0 (List.take 1 [PV.int IntKind.u8 (IntKind.wrap IntKind.u8 (IntKind.wrap IntKind.i64 (48+Int.tmod n 10)))]))) o∧(At (BN N) 0 (Za GY G) GQ 0 31 [(0,(.pv (.int .i64 (IntKind.wrap IntKind.i64 (Int.tdiv n 10))))),(3,(.pv (.str (Y0 (List.drop 0 (List.take 1 [PV.int IntKind.u8 (IntKind.wrap IntKind.u8 (IntKind.wrap IntKind.i64 (48+Int.tmod n 10)))]))++o))))] []))else(G ((.str o)))):At (BN N) 0 (Za GY G) GQ 0 31 [(0,.pv (.int .i64 n)),(3,.pv (.str o))] []:=At.tp (dm [] 14 0x21122200742) h
end Go.Pl
namespace Go.Pl
open Go.RowKit
open Enc (enc dec is)
open EncL (encL decL isL)
theorem c5l: ∀ x:List Int×Unit,decide (x.1.length<=2000000)=true->Zd b7h 0 (Za a0k (Zf x.1)) a4d [] (Zx d2k (encL x)):=by
 rintro⟨l,⟨⟩⟩ h
 have hl:l.length<=2000000:=of_decide_eq_true h
 refine f0d l ⟨by simp[Enc.sz],by simp;omega,by simp,?_⟩
 rw[List.nil_append,List.drop_zero,List.take_of_length_le (by omega)]
 exact Zg (x:=l) rfl
theorem c7g: ∀ a:Str×Int×Unit,true=true->Zd d0l 0 (Za b7d (Zf (X5 a.1 a.2.1))) b3u [] (Zx e7m (encL a)):=by
 rintro⟨⟨e⟩,n,⟨⟩⟩ _
 refine f3n e n ?_
 simp only[beq_iff_eq,decide_eq_true_eq,Zf,b3o,a4a,true_and,X5,Xa,YM,ge_iff_le]
 by_cases h1:e=[105,110,116]
 ·subst h1
  rw[if_neg (by decide)]
  simp only[if_true]
  split <;> simp[*]
 ·by_cases h2:e=[98,111,111,108]
  ·subst h2
   simp only[if_true]
   split <;> simp[*]
  ·simp[h1,h2]
theorem b2m(e:List UInt8)(d x:List Int)(hd:d.length<=2000000)(b:x.length<=2000000)(r:Arr×Int): ∀ (m k:Nat),m+k=x.length->r=(if (x.drop k).all (X5 ⟨e⟩)then(⟨⟨e⟩,d,x⟩,0)else(⟨⟨[]⟩,[],[]⟩,2)) ->
  At Q8 0 (Za UW (Zf r)) UX 0 a0t [(0,.pv (.str e)),(1,.pv (enc d)),(2,.pv (enc x)),(6,.ptr 0 0),(10,.pv (.int .i64 k))] [.obj (.box [.pv (.str []),.pv (.sl 0 true []),.pv (.sl 0 true [])])]:=by
 intro m
 induction m with
 | zero=>
  intro k g hr
  refine a1m e d x k ?_
  rw[if_neg (by simp;omega)]
  rw[List.drop_of_length_le (by omega)]at hr
  subst hr
  refine⟨Zc (d,()) rfl (by simpa using hd),?_⟩
  refine Zb (d,()) rfl ?_
  refine⟨Zc (x,()) rfl (by simpa using b),?_⟩
  refine Zb (x,()) rfl ?_
  exact⟨by simp,by simp⟩
 | succ m ih=>
  intro k g hr
  have a:k<x.length:=by omega
  refine a1m e d x k ?_
  rw[if_pos (by simp;omega)]
  refine⟨by simp[Enc.sz];omega,x[k],by rw[X4 _ a],?_⟩
  refine Zb (⟨e⟩,x[k],()) rfl ?_
  rw[List.drop_eq_getElem_cons a,List.all_cons]at hr
  simp only[]
  cases h:X5 ⟨e⟩ x[k]with
  | true=>
   rw[if_neg (by simp),next (by omega)]
   rw[h,Bool.true_and]at hr
   exact ih (k+1) (by omega) hr
  | false=>
   rw[if_pos (by decide)]
   rw[h,Bool.false_and,if_neg (by simp)]at hr
   subst hr
   exact⟨by simp,by simp⟩
theorem c5o: ∀ a:Str×List Int×List Int×Unit,(decide (a.2.1.length<=2000000)&&decide (a.2.2.1.length<=2000000))=true->Zd Q8 0 (Za UW (Zf (Jh a.1 a.2.1 a.2.2.1))) UX [] (Zx a0t (encL a)):=by
 rintro⟨⟨e⟩,d,x,⟨⟩⟩ hp
 simp only[Bool.and_eq_true,decide_eq_true_eq]at hp
 refine e4s e d x ?_
 have h:=hp.1
 have i:=hp.2
 have j:=fun(b : ¬ (e≠Xa∧e≠YM)) (h1 : ¬ (Y2 d).2≠0) (h2 : ¬ (x.length:Int)≠(Y2 d).1)=>b2m e d x h i (Jh ⟨e⟩ d x) x.length 0 (by omega) (by simp only[Jh,b,h1,h2,if_false,List.drop_zero])
 simp only[preT,Zi,a1d,b3x,M4,a3n,f3b,RZ,d0n,b8f,e2n,SX,List.isEmpty_iff,Bool.and_true,beq_self_eq_true,Bool.or_true,Bool.true_and,decide_eq_true_eq,AV.pv.injEq,d7u,exists_eq_left',true_and,Enc.sz,List.length_map,Bool.not_eq_true',beq_eq_false_iff_ne,bne_iff_ne]
 have g:(if ¬ (Y2 d).2=0 then Zf (Jh ⟨e⟩ d x) ((.tup [(.agg [(.str []),(.sl 0 true []),(.sl 0 true [])]),(.int .i64 (Y2 d).2)]))else if ¬ (x.length:Int)=(Y2 d).1 then Zf (Jh ⟨e⟩ d x) ((.tup [(.agg [(.str []),(.sl 0 true []),(.sl 0 true [])]),(.int .i64 1)]))else At Q8 0 (Za UW (Zf (Jh ⟨e⟩ d x))) UX 0 52 [(0,(.pv (.str e))),(1,(.pv (.sl 1 false (List.map enc d)))),(2,(.pv (.sl 1 false (List.map enc x)))),(6,(.ptr 0 0)),(10,(.pv (.int .i64 0)))] [(.obj (.box [(.pv (.str [])),(.pv (.sl 0 true [])),(.pv (.sl 0 true []))]))])∨(e≠Xa∧e≠YM):=by
  by_cases b:e≠Xa∧e≠YM
  ·exact .inr b
  ·refine .inl ?_
   split
   ·rename_i h1
    exact⟨by simp,by simp[Jh,b,h1]⟩
   ·rename_i h1
    split
    ·rename_i h2
     exact⟨by simp,by simp only[Jh,ne_eq,h1,h2,not_false_eq_true,if_true,if_false];rw[if_neg b];simp⟩
    ·rename_i h2
     exact j b h1 h2
 by_cases h1:e=Xa
 ·rw[if_neg (by simp[h1,Xa])]
  exact g.resolve_right (by simp[h1])
 ·rw[if_pos (by simpa [Xa]using h1)]
  by_cases h2:e=YM
  ·rw[if_neg (by simp[h2,YM])]
   exact g.resolve_right (by simp[h2])
  ·rw[if_pos (by simpa [YM]using h2)]
   exact⟨by simp,by simp[Jh,h1,h2]⟩
theorem d8e: ∀ a:Arr×Unit,VH a.1=true->Zd d0t 0 (Za b6p (Zf (WE a.1))) b7j [] (Zx e3x (encL a)):=by
 rintro⟨a,⟨⟩⟩ hp
 refine f3u a ⟨Zc (a.e,a.d,a.x,()) rfl hp,Zb (a.e,a.d,a.x,()) rfl ?_⟩
 exact⟨rfl,rfl⟩
theorem b4t(m:Nat):IntKind.wrap .u8 (IntKind.wrap .i64 (48+Int.tmod (m:Int) 10))=((48+m % 10:Nat):Int):=by
 have a:Int.tmod (m:Int) 10=((m % 10:Nat):Int):=by rw[Int.tmod_eq_emod_of_nonneg (by omega)];omega
 rw[a,Vv (by omega) (by omega)]
 simp[IntKind.wrap,IntKind.bits,IntKind.signed]
 omega
theorem d7j(m:Nat):(List.length [PV.int IntKind.u8 (IntKind.wrap .u8 (IntKind.wrap .i64 (48+Int.tmod (m:Int) 10)))]==1&&List.all [PV.int IntKind.u8 (IntKind.wrap .u8 (IntKind.wrap .i64 (48+Int.tmod (m:Int) 10)))] DJ&&1==1)=true:=by
 rw[b4t]
 simp only[List.length_cons,List.length_nil,List.all_cons,List.all_nil,DJ,Bool.and_true,beq_self_eq_true,Bool.true_and,Bool.and_eq_true,decide_eq_true_eq,Nat.zero_add]
 omega
theorem d1w(m:Nat):Y0 (List.drop 0 (List.take 1 [PV.int IntKind.u8 (IntKind.wrap .u8 (IntKind.wrap .i64 (48+Int.tmod (m:Int) 10)))]))=[UInt8.ofNat (48+m % 10)]:=by
 rw[b4t];rfl
theorem a8d(m:Nat):Int.tdiv (m:Int) 10=((m / 10:Nat):Int):=by rw[Int.tdiv_eq_ediv_of_nonneg (by omega)];omega
theorem a7g{N:Nat}{k:Int}(h1:k.natAbs<9223372036854775808)(h2:Ac k<N):preT (fun x:Int×Unit=>decide (x.1.natAbs<9223372036854775808)&&decide (Ac x.1<N)) [.int .i64 k]=true:=
 Zc (k,()) rfl (by show(decide (k.natAbs<9223372036854775808)&&decide (Ac k<N))=true;rw[decide_eq_true h1,decide_eq_true h2];rfl)
theorem Rh{k:Int}(h1:k.natAbs<9223372036854775808):preT (fun x:Int×Unit=>decide (x.1.natAbs<9223372036854775808)) [.int .i64 k]=true:=
 Zc (k,()) rfl (decide_eq_true h1)
theorem d3o{n:Int}(hn:n<0):[(45:UInt8)]++(Zp (-n)).s=(Zp n).s:=by
 rw[YH (n:= -n) (by omega),Vi hn,Int.natAbs_neg];rfl
theorem Dz{k:Int}(h:k.natAbs<9223372036854775808):(Zp k).s.length<=21:=QK (n:=k) (by omega)
theorem d3q(N:Nat): ∀ a:Int×Unit,(decide (a.1.natAbs<9223372036854775808)&&decide (Ac a.1<N+1))=true->Zd (c8m N) 0 (Za b5a (Zf (Zp a.1))) b4c [] (Zx e5s (encL a)):=by
 rintro⟨n,⟨⟩⟩ h
 simp only[Bool.and_eq_true,decide_eq_true_eq]at h
 obtain⟨h1,h3⟩:=h
 unfold Ac at h3
 refine f7z N n (ZO (fun hn=> ?_) fun hn=> ?_)
 ·rw[Vv (by omega) (by omega)]
  have hl:=Dz (k:= -n) (by omega)
  refine⟨a7g (by omega) (by unfold Ac;rw[if_pos hn]at h3;rw[if_neg (by omega)];omega),Zb (-n,()) rfl ⟨decide_eq_true (by simp only[List.length_singleton];omega),?_⟩⟩
  refine Zg (x:=(⟨[(45:UInt8)]++(Zp (-n)).s⟩:Str)) ?_
  show(⟨[(45:UInt8)]++(Zp (-n)).s⟩:Str)=⟨(Zp n).s⟩
  rw[d3o hn]
 ·obtain⟨m,rfl⟩ : ∃ m:Nat,n=m:=⟨n.toNat,by omega⟩
  rw[if_neg (by omega)]at h3
  refine⟨d7j m,?_⟩
  rw[d1w,a8d,Vv (by omega) (by omega)]
  refine ZO (fun b=> ?_) fun b=> ?_
  ·have hm:m<10:=by omega
   refine Zg (x:=(⟨[UInt8.ofNat (48+m % 10)]⟩:Str)) ?_
   show(⟨[UInt8.ofNat (48+m % 10)]⟩:Str)=⟨(Zp (m:Int)).s⟩
   rw[YH (by omega),Int.natAbs_natCast,XA hm,Nat.mod_eq_of_lt hm]
  ·have l1:=Dz (k:=((m / 10:Nat):Int)) (by omega)
   refine⟨a7g (by omega) (by unfold Ac;rw[if_neg (by omega)];omega),Zb (((m / 10:Nat):Int),()) rfl ⟨decide_eq_true (by show(Zp ((m / 10:Nat):Int)).s.length+1<=_;omega),?_⟩⟩
   refine Zg (x:=(⟨(Zp ((m / 10:Nat):Int)).s++[UInt8.ofNat (48+m % 10)]⟩:Str)) ?_
   show(⟨(Zp ((m / 10:Nat):Int)).s++[UInt8.ofNat (48+m % 10)]⟩:Str)=⟨(Zp (m:Int)).s⟩
   rw[YH (by omega),YH (by omega),Int.natAbs_natCast,Int.natAbs_natCast,BA (u:=m) (by omega)]
theorem c2s(N:Nat)(k:Int)(R:Str): ∀ (d m:Nat) (o:List UInt8),m<10 ^ d->m<=9223372036854775807->o.length+d<=100->R=⟨(if m=0 then []else Lib.decDigits m)++o⟩ ->
  At (BN N) 0 (Za GY (Zf R)) GQ 0 31 [(0,.pv (.int .i64 (m:Nat))),(3,.pv (.str o))] []:=by
 intro d
 induction d with
 | zero=>
  intro m o hm hb ho b
  have hm:m=0:=by simpa using hm
  subst hm
  refine b5x N k _ o (ZU (by simp) ?_)
  refine Zg (x:=(⟨o⟩:Str)) ?_
  rw[b];rfl
 | succ d ih=>
  intro m o hm hb ho b
  refine b5x N k _ o (ZO (fun h=> ?_) fun h=> ?_)
  ·have a:m≠0:=by omega
   refine⟨d7j m,?_⟩
   rw[d1w,a8d]
   refine⟨decide_eq_true (by show 1+o.length<=_;omega),?_⟩
   have k:=ih (m / 10) ([UInt8.ofNat (48+m % 10)]++o) (by rw[Nat.pow_succ]at hm;omega) (by omega) (by rw[List.length_append];show 1+_+_<=_;omega) (by
    rw[b,if_neg a,<- List.append_assoc]
    congr 2
    by_cases h10:m<10
    ·rw[if_pos (by omega),XA h10,Nat.mod_eq_of_lt h10];rfl
    ·rw[if_neg (by omega),BA h10])
   rw[Vv (by omega) (by omega)]
   exact k
  ·have a:m=0:=by omega
   refine Zg (x:=(⟨o⟩:Str)) ?_
   rw[b,if_pos a];rfl
theorem c7w(N:Nat): ∀ a:Int×Unit,(decide (a.1.natAbs<9223372036854775808)&&decide (Ac a.1<N+1))=true->Zd (BN N) 0 (Za GY (Zf (Zp a.1))) GQ [] (Zx e6f (encL a)):=by
 rintro⟨n,⟨⟩⟩ h
 simp only[Bool.and_eq_true,decide_eq_true_eq]at h
 obtain⟨h1,h3⟩:=h
 unfold Ac at h3
 refine f5x N n (ZO (fun hn=> ?_) fun hn=> ?_)
 ·rw[Vv (by omega) (by omega)]
  have hl:=Dz (k:= -n) (by omega)
  refine⟨a7g (by omega) (by unfold Ac;rw[if_pos hn]at h3;rw[if_neg (by omega)];omega),Zb (-n,()) rfl ⟨decide_eq_true (by simp only[List.length_singleton];omega),?_⟩⟩
  refine Zg (x:=(⟨[(45:UInt8)]++(Zp (-n)).s⟩:Str)) ?_
  show(⟨[(45:UInt8)]++(Zp (-n)).s⟩:Str)=⟨(Zp n).s⟩
  rw[d3o hn]
 ·obtain⟨m,rfl⟩ : ∃ m:Nat,n=m:=⟨n.toNat,by omega⟩
  refine⟨d7j m,?_⟩
  rw[d1w,a8d,Vv (by omega) (by omega)]
  refine c2s N (m:Int) _ 20 (m / 10) _ (by omega) (by omega) (by show 1+20<=100;omega) ?_
  show(⟨(Zp (m:Int)).s⟩:Str)=_
  rw[YH (by omega),Int.natAbs_natCast]
  congr 1
  by_cases h10:m<10
  ·rw[if_pos (by omega),XA h10,Nat.mod_eq_of_lt h10];rfl
  ·rw[if_neg (by omega),BA h10]
theorem e3n(a:Arr)(G:PV->Prop)(g : ∀ n∈a.x,n.natAbs<9223372036854775808)(hl:a.x.length<=2000000): ∀ (d i:Nat) (o:List UInt8),d+i=a.x.length->o.length<=100000000+22*i ->
  G (.tup [.str (Yq o true (a.x.drop i)++[93]),.int .i64 0]) ->
  At Uo 0 (Za WW G) WX 1 52 [(1,.ptr 0 0),(4,.pv (.str o)),(6,.pv (.int .i64 i))] [.obj (.box [.pv (.str a.e.s),.pv (enc a.d),.pv (enc a.x)])]:=by
 intro d
 induction d with
 | zero=>
  intro i o hi ho h
  rw[List.drop_eq_nil_of_le (by omega)]at h
  exact b6d a o i (ZU (XO (by omega)) ⟨decide_eq_true (by show o.length+1<=_;omega),h⟩)
 | succ d ih=>
  intro i o hi ho h
  have b:i<a.x.length:=by omega
  have hn:=g _ (List.getElem_mem b)
  have hnl:=Ra true (i:=a.x[i]) (by omega)
  have hil:=Dz (k:=a.x[i]) hn
  rw[List.drop_eq_getElem_cons b]at h
  have k:=ih (i+1) (o++Uk true a.x[i]) (by omega) (by rw[List.length_append];omega) h
  refine b6d a o i (ZT (Xq b) ⟨Zq b rfl,ZB b ⟨Rh hn,Zb (a.x[i],()) rfl ⟨decide_eq_true (by show 1+(Zp a.x[i]).s.length<=_;omega),decide_eq_true (by show o.length+([32]++(Zp a.x[i]).s).length<=_;rw[List.length_append];show o.length+(1+_)<=_;omega),?_⟩⟩⟩)
  rw[next (by omega)]
  exact k
theorem f0g(a:Arr)(G:PV->Prop)(hd : ∀ n∈a.d,n.natAbs<9223372036854775808)(hl:a.d.length<=2000000)
  (g : ∀ o:List UInt8,o.length<=44000010->G (.tup [.str (Yq (o++[58]) true a.x++[93]),.int .i64 0])->At Uo 0 (Za WW G) WX 1 52 [(1,.ptr 0 0),(4,.pv (.str (o++[58]))),(6,.pv (.int .i64 (0:Nat)))] [.obj (.box [.pv (.str a.e.s),.pv (enc a.d),.pv (enc a.x)])]) : ∀ (d i:Nat) (o:List UInt8),d+i=a.d.length->o.length<=10+22*i ->
  G (.tup [.str (Yq (Yq o (decide (0<i)) (a.d.drop i)++[58]) true a.x++[93]),.int .i64 0]) ->
  At Uo 0 (Za WW G) WX 0 52 [(1,.ptr 0 0),(4,.pv (.str o)),(5,.pv (.int .i64 i))] [.obj (.box [.pv (.str a.e.s),.pv (enc a.d),.pv (enc a.x)])]:=by
 intro d
 induction d with
 | zero=>
  intro i o hi ho h
  rw[List.drop_eq_nil_of_le (by omega)]at h
  exact b5o a o i (ZU (XO (by omega)) ⟨decide_eq_true (by show o.length+1<=_;omega),g o (by omega) h⟩)
 | succ d ih=>
  intro i o hi ho h
  have b:i<a.d.length:=by omega
  have hn:=hd _ (List.getElem_mem b)
  have hnl:=Ra (decide (0<i)) (i:=a.d[i]) (by omega)
  have hil:=Dz (k:=a.d[i]) hn
  rw[List.drop_eq_getElem_cons b]at h
  have k:=ih (i+1) (o++Uk (decide (0<i)) a.d[i]) (by omega) (by rw[List.length_append];omega) (by rw[decide_eq_true (show 0<i+1 by omega)];exact h)
  refine b5o a o i (ZT (Xq b) (ZO (fun j=> ?_) fun j=> ?_))
  ·rw[decide_eq_true (show 0<i by omega)]at k
   refine⟨decide_eq_true (by show o.length+1<=_;omega),Zq b rfl,ZB b ⟨Rh hn,Zb (a.d[i],()) rfl ⟨decide_eq_true (by rw[List.length_append];show o.length+1+(Zp a.d[i]).s.length<=_;omega),?_⟩⟩⟩
   rw[next (by omega),List.append_assoc]
   exact k
  ·rw[decide_eq_false (show ¬ 0<i by omega)]at k
   refine⟨Zq b rfl,ZB b ⟨Rh hn,Zb (a.d[i],()) rfl ⟨decide_eq_true (by show o.length+(Zp a.d[i]).s.length<=_;omega),?_⟩⟩⟩
   rw[next (by omega)]
   exact k
theorem e1e: ∀ x:Arr×Unit,(VH x.1&&WE x.1)=true->Zd Uo 0 (Za WW (Zf (J8 x.1))) WX [] (Zx f0i (encL x)):=by
 rintro⟨a,⟨⟩⟩ h
 rw[Bool.and_eq_true]at h
 have hs:VH a=true:=h.1
 have i:WE a=true:=h.2
 have b:=hs
 unfold VH at b
 simp only[Bool.and_eq_true,decide_eq_true_eq]at b
 obtain⟨hd,j⟩:=Ea i
 have fin : ∀ o:List UInt8,(o=if a.e.s=YM then [35,98,91]else [35,91])->Zf (J8 a) (.tup [.str (Yq (Yq o (decide (0<0)) (a.d.drop 0)++[58]) true a.x++[93]),.int .i64 0]):=fun o ho=>by
  have e:Yq (Yq o (decide (0<0)) (a.d.drop 0)++[58]) true a.x++[93]=Sl a:=by
   rw[List.drop_zero,show decide (0<0)=false from rfl,Af,R8,ho]
   rfl
  rw[e]
  exact Zg (x:=((⟨Sl a⟩,0):Str×Int)) rfl
 have g : ∀ o:List UInt8,o.length<=10->Zf (J8 a) (.tup [.str (Yq (Yq o (decide (0<0)) (a.d.drop 0)++[58]) true a.x++[93]),.int .i64 0])->_:=fun o ho k=>
  f0g a (Zf (J8 a)) hd b.1 (fun o ho k=>e3n a (Zf (J8 a)) j b.2 a.x.length 0 (o++[58]) (by omega) (by rw[List.length_append];show _+1<=_;omega) k) a.d.length 0 o (by omega) (by omega) k
 refine f7x a ⟨Zc (a,()) rfl hs,Zb (a,()) rfl (YY (fun hn=> ?_) fun hn=>Zy (fun hb=> ?_) fun hb=> ?_)⟩
 ·have hn:WE a=false:=hn
  rw[i]at hn;cases hn
 ·exact g [35,98,91] (by decide) (fin _ (by rw[if_pos (show a.e.s=YM from hb)]))
 ·exact g [35,91] (by decide) (fin _ (by rw[if_neg (show ¬ a.e.s=YM from hb)]))
def Ay(o:List UInt8):Bool->List (List UInt8)->List UInt8
 | _,[]=>o
 | b,s::r=>Ay (o++(if b then []else [44,32])++s) false r
theorem Rm: ∀ (l:List (List UInt8)) (o:List UInt8),Ay o true l=o++Zv l
 | [],o=>by simp[Ay,Zv]
 | [s],o=>by simp[Ay,Zv]
 | s::t::r,o=>by
  have h:=Rm (t::r) (o++s++[44,32])
  rw[Ay]at h ⊢
  rw[Ay,Zv]
  ·simp only[Bool.false_eq_true,if_true,if_false,List.append_nil]at h ⊢
   rw[h]
   simp only[List.append_assoc]
  ·simp
def c0o(l:List (List UInt8)):Nat:=(l.map fun s=>s.length+2).sum
theorem c4x(s:List UInt8)(l:List (List UInt8)):c0o (s::l)=s.length+2+c0o l:=by unfold c0o;rw[List.map_cons,List.sum_cons]
theorem FX{N:Nat}{a:Tm}{P:Str->Prop}(h1:tW a=true∧Z9 a=true∧Z4 a<N)(h:P (Zt a)):preT (fun x:Tm×Unit=>tW x.1&&Z9 x.1&&decide (Z4 x.1<N)) (Kz a)=true∧ ∃ y:Str,AV.pv (Zi (fun x:Tm×Unit=>Zt x.1) (Kz a))=AV.pv (enc y)∧P y:=
 ⟨Zc (a,()) (Yd a) (Vf h1.1 h1.2.1 h1.2.2),Zb (a,()) (Yd a) h⟩
theorem QV{N:Nat}{a:Tm}{b:Bool}{P:Str->Prop}(h1:tW a=true∧Z9 a=true∧Z4 a<N)(h:P (Su b a)):preT (fun x:Tm×Bool×Unit=>tW x.1&&Z9 x.1&&decide (Z4 x.1<N)) (NG a b)=true∧ ∃ y:Str,AV.pv (Zi (fun x:Tm×Bool×Unit=>Su x.2.1 x.1) (NG a b))=AV.pv (enc y)∧P y:=
 ⟨Zc (a,b,()) (e0i a b) (Vf h1.1 h1.2.1 h1.2.2),Zb (a,b,()) (e0i a b) h⟩
theorem Ab{a:Tm}{P:Int->Prop}(h1:tW a=true)(h:P (Wh a)):preT (fun x:Tm×Unit=>tW x.1) (Kz a)=true∧ ∃ y:Int,AV.pv (Zi (fun x:Tm×Unit=>Wh x.1) (Kz a))=AV.pv (enc y)∧P y:=
 ⟨Zc (a,()) (Yd a) h1,Zb (a,()) (Yd a) h⟩
theorem Nk{n:Int}{P:Str->Prop}(h1:n.natAbs<9223372036854775808)(h:P (Zp n)):preT (fun x:Int×Unit=>decide (x.1.natAbs<9223372036854775808)) [.int .i64 n]=true∧ ∃ y:Str,AV.pv (Zi (fun x:Int×Unit=>Zp x.1) [.int .i64 n])=AV.pv (enc y)∧P y:=
 ⟨Rh h1,Zb (n,()) rfl h⟩
theorem TE{N:Nat}{ks:List Tm}{P:Str->Prop}(a:TxP N ks)(h:P (Yi (ks.map Zt))):preT (fun x:List Tm×Unit=>tsW x.1&&Wn x.1&&decide (Yc x.1<N)) [.sl 10 false (ks.map enc)]=true∧ ∃ y:Str,AV.pv (Zi (fun x:List Tm×Unit=>Yi (x.1.map Zt)) [.sl 10 false (ks.map enc)])=AV.pv (enc y)∧P y:=
 ⟨Zc (ks,()) rfl a.pre,Zb (ks,()) rfl h⟩
theorem d1q{s t:List UInt8}(h:s=t):Zf (⟨t⟩:Str) (.str s):=Zg (x:=(⟨s⟩:Str)) (by rw[h])
theorem a9a(N:Nat)(l:List Tm)(e:TxP N l)(R:Str): ∀ (d i:Nat) (o:List UInt8),d+i=l.length->o.length+c0o ((l.drop i).map ZN)<=1099511627000->R=⟨Ay o (decide (i=0)) ((l.drop i).map ZN)⟩ ->
  At (Jw N) 0 (Za QW (Zf R)) QA 0 23 [(0,.pv (enc l)),(3,.pv (.str o)),(4,.pv (.int .i64 i))] []:=by
 have hlen:l.length<=1048576:=Nat.le_trans (BH l) e.w
 intro d
 induction d with
 | zero=>
  intro i o hi ho b
  rw[List.drop_eq_nil_of_le (by omega)]at b
  rw[b]
  exact a5h N l o i (ZU (XO (by omega)) (d1q rfl))
 | succ d ih=>
  intro i o hi ho b
  have a:i<l.length:=by omega
  have g:=e.kid (List.getElem_mem a)
  rw[List.drop_eq_getElem_cons a,List.map_cons,c4x]at ho
  rw[List.drop_eq_getElem_cons a,List.map_cons,Ay]at b
  have k:=fun o'=>ih (i+1) o' (by omega)
  rw[decide_eq_false (show ¬ i+1=0 by omega)]at k
  refine a5h N l o i (ZT (Xq a) (ZO (fun h=>⟨Zj (by show o.length+2<=_;omega),Zq a rfl,ZB a ⟨Xy _,FX g ⟨Zj (by rw[List.length_append];show o.length+2+(ZN l[i]).length<=_;omega),?_⟩⟩⟩) fun h=>⟨Zq a rfl,ZB a ⟨Xy _,FX g ⟨Zj (by show o.length+(ZN l[i]).length<=_;omega),?_⟩⟩⟩))
  ·rw[next (by omega)]
   rw[decide_eq_false (show ¬ i=0 by omega)]at b
   exact k _ (by rw[List.length_append,List.length_append];show o.length+2+(ZN l[i]).length+_<=_;omega) b
  ·rw[next (by omega)]
   rw[decide_eq_true (show i=0 by omega)]at b
   exact k _ (by rw[List.length_append];show o.length+(ZN l[i]).length+_<=_;omega) (by rw[b,if_pos rfl,List.append_nil];rfl)
theorem TxP.sum{N:Nat}{ks:List Tm}(h:TxP N ks):c0o (ks.map ZN)<=1153433600:=by
 have h2:=Gw ks (by rw[Ul];exact List.all_eq_true.2 h.v)
 have h3:((ks.map ZN).map fun s=>s.length+2).sum<=((Yw ks).map fun x=>x.2.2.length+4).sum:=by
  rw[WH,Cx,Cx]
  exact C9 fun x _=>by show(ZN x).length+2<=(ZN x).length+4;omega
 have:=h.w
 unfold c0o
 omega
theorem c2b(N:Nat): ∀ x:List Tm×Unit,((tsW x.1&&Wn x.1)&&decide (Yc x.1<N))=true->Zd (Jw N) 0 (Za QW (Zf (Yi (x.1.map Zt)))) QA [] (Zx d3j (encL x)):=by
 rintro⟨l,⟨⟩⟩ h
 simp only[Bool.and_eq_true,decide_eq_true_eq,Ul,List.all_eq_true]at h
 have a:TxP N l:=⟨of_decide_eq_true h.1.1,h.1.2,h.2⟩
 have:=a.sum
 refine e9d N l (a9a N l a _ l.length 0 [] (by omega) (by rw[List.drop_zero];show 0+_<=_;omega) ?_)
 rw[List.drop_zero,show decide (0=0)=true from rfl,Rm,List.nil_append,<- VM]
theorem a6u(l:List Lin)(hl:l.length<=1048576)(h : ∀ x∈l,Zh x=true)(R:Str): ∀ (d i:Nat) (o:List UInt8),d+i=l.length->o.length+1002*d<=1099511627000->R=⟨Ay o (decide (i=0)) ((l.drop i).map ZE)⟩ ->
  At Qz 0 (Za Uw (Zf R)) Um 0 23 [(0,.pv (enc l)),(3,.pv (.str o)),(4,.pv (.int .i64 i))] []:=by
 intro d
 induction d with
 | zero=>
  intro i o hi ho b
  rw[List.drop_eq_nil_of_le (by omega)]at b
  rw[b]
  exact MS l o i (ZU (XO (by omega)) (d1q rfl))
 | succ d ih=>
  intro i o hi ho b
  have a:i<l.length:=by omega
  have e:=Us (h _ (List.getElem_mem a))
  have hpl:=Wx l[i]
  rw[List.drop_eq_getElem_cons a,List.map_cons,Ay]at b
  have k:=fun o'=>ih (i+1) o' (by omega)
  rw[decide_eq_false (show ¬ i+1=0 by omega)]at k
  refine MS l o i (ZT (Xq a) (ZO (fun g=>⟨Zj (by show o.length+2<=_;omega),Zq a rfl,ZB a ⟨Zc (l[i],()) rfl e,Zb (l[i],()) rfl ⟨Zj (by rw[List.length_append];show o.length+2+(ZE l[i]).length<=_;omega),?_⟩⟩⟩) fun g=>⟨Zq a rfl,ZB a ⟨Zc (l[i],()) rfl e,Zb (l[i],()) rfl ⟨Zj (by show o.length+(ZE l[i]).length<=_;omega),?_⟩⟩⟩))
  ·rw[next (by omega)]
   rw[decide_eq_false (show ¬ i=0 by omega)]at b
   exact k _ (by rw[List.length_append,List.length_append];show o.length+2+(ZE l[i]).length+_<=_;omega) b
  ·rw[next (by omega)]
   rw[decide_eq_true (show i=0 by omega)]at b
   exact k _ (by rw[List.length_append];show o.length+(ZE l[i]).length+_<=_;omega) (by rw[b,if_pos rfl,List.append_nil])
theorem a9h: ∀ x:List Lin×Unit,(decide (x.1.length<=1048576)&&x.1.all Zh)=true->Zd Qz 0 (Za Uw (Zf (Yi (x.1.map Yu)))) Um [] (Zx c4y (encL x)):=by
 rintro⟨l,⟨⟩⟩ h
 simp only[Bool.and_eq_true,decide_eq_true_eq,List.all_eq_true]at h
 refine d6g l (a6u l h.1 h.2 _ l.length 0 [] (by omega) (by show 0+_<=_;omega) ?_)
 rw[List.drop_zero,show decide (0=0)=true from rfl,Rm,List.nil_append,<- KY]
def rkO(o:List UInt8):Bool->List Int->List UInt8
 | _,[]=>o
 | b,n::r=>rkO (o++(if b then [64,40]else [44,32])++Kk n++(if r.isEmpty then [41]else [])) false r
theorem Hg(s t:List UInt8)(r:List (List UInt8)):Zv (s::t::r)=s++[44,32]++Zv (t::r):=rfl
theorem f1s: ∀ (l:List Int) (o:List UInt8),l≠[]->rkO o false l=o++[44,32]++Zv (l.map Kk)++[41]
 | [],_,h=>absurd rfl h
 | [n],o,_=>by simp[rkO,Zv]
 | n::m::r,o,_=>by
  rw[rkO,f1s (m::r) _ (by simp)]
  simp only[List.map_cons,List.isEmpty_cons,Bool.false_eq_true,if_false,List.append_nil,Hg,List.append_assoc]
theorem f5d(l:List Int)(o:List UInt8):rkO o true l=o++(if l=[]then []else [64,40]++Zv (l.map Kk)++[41]):=by
 cases l with
 | nil=>simp[rkO]
 | cons n r=>
  rw[rkO,if_neg (List.cons_ne_nil n r)]
  cases r with
  | nil=>simp[rkO,Zv]
  | cons m r=>
   rw[f1s _ _ (by simp)]
   simp only[List.map_cons,List.isEmpty_cons,Bool.false_eq_true,if_false,if_true,List.append_nil,Hg,List.append_assoc]
theorem a8u(N:Nat)(n:Nd)(ks:List Tm)(h:TxP N ks)(hr:n.ranks.length<=8)(l:X8 n.ranks=true)(R:Str): ∀ (d i:Nat) (o:List UInt8),d+i=n.ranks.length->o.length+30*d<=1000000->R=⟨rkO o (decide (i=0)) (n.ranks.drop i)++[40]++Zv (ks.map ZN)++[41]⟩ ->
  At (WA N) 0 (Za XI (Zf R)) X3 0 64 [(1,.ptr 0 0),(3,.pv (.str o)),(4,.pv (.int .i64 i))] [.obj (.box (ZY n ks))]:=by
 intro d
 induction d with
 | zero=>
  intro i o hi ho b
  rw[List.drop_eq_nil_of_le (by omega)]at b
  have hc:=h.com
  have g:=VM ks
  rw[<- g]at hc
  rw[b,<- g]
  refine a2l N n ks o i (ZU (XO (by omega)) ⟨Zj (by show o.length+1<=_;omega),TE h ⟨Zj (by rw[List.length_append];show o.length+1+_<=_;omega),Zj (by rw[List.length_append,List.length_append];show o.length+1+_+1<=_;omega),d1q rfl⟩⟩)
 | succ d ih=>
  intro i o hi ho b
  have a:i<n.ranks.length:=by omega
  have r:=List.all_eq_true.1 l _ (List.getElem_mem a)
  simp only[Bool.and_eq_true,decide_eq_true_eq]at r
  have e:n.ranks[i].natAbs<9223372036854775808:=by omega
  have hil:(Zp n.ranks[i]).s.length<=21:=Dz e
  rw[List.drop_eq_getElem_cons a,rkO]at b
  have k:=fun o'=>ih (i+1) o' (by omega)
  rw[decide_eq_false (show ¬ i+1=0 by omega)]at k
  have m:IntKind.i64.wrap ((↑(List.length (List.map (enc:Int->PV) n.ranks)):Int) - 1)=((n.ranks.length - 1:Nat):Int):=by rw[List.length_map,Vv (by omega) (by omega)];omega
  have q:(n.ranks.drop (i+1)).isEmpty=decide (i=n.ranks.length - 1):=by rw[V6,List.length_drop];exact decide_eq_decide.2 (by omega)
  rw[q]at b
  refine a2l N n ks o i (ZT (Xq a) ?_)
  rw[m]
  refine Zy (fun j=>⟨Zj (by show o.length+2<=_;omega),Zq a rfl,ZB a (Nk (n:=n.ranks[i]) e ⟨Zj (by rw[List.length_append];show o.length+2+_<=_;omega),Zy (fun h1=>⟨Zj (by rw[List.length_append,List.length_append];show o.length+2+_+1<=_;omega),?_⟩) fun h1=> ?_⟩)⟩) fun j=>⟨Zj (by show o.length+2<=_;omega),Zq a rfl,ZB a (Nk (n:=n.ranks[i]) e ⟨Zj (by rw[List.length_append];show o.length+2+_<=_;omega),Zy (fun h1=>⟨Zj (by rw[List.length_append,List.length_append];show o.length+2+_+1<=_;omega),?_⟩) fun h1=> ?_⟩)⟩
  ·rw[next (by omega)]
   rw[decide_eq_true (show i=0 by omega),decide_eq_true (show i=n.ranks.length - 1 by omega)]at b
   exact k _ (by rw[List.length_append,List.length_append,List.length_append];show o.length+2+_+1+_<=_;omega) b
  ·rw[next (by omega)]
   rw[decide_eq_true (show i=0 by omega),decide_eq_false (show ¬ i=n.ranks.length - 1 by omega)]at b
   exact k _ (by rw[List.length_append,List.length_append];show o.length+2+_+_<=_;omega) (by rw[b];simp only[Bool.false_eq_true,if_false,List.append_nil];rfl)
  ·rw[next (by omega)]
   rw[decide_eq_false (show ¬ i=0 by omega),decide_eq_true (show i=n.ranks.length - 1 by omega)]at b
   exact k _ (by rw[List.length_append,List.length_append,List.length_append];show o.length+2+_+1+_<=_;omega) b
  ·rw[next (by omega)]
   rw[decide_eq_false (show ¬ i=0 by omega),decide_eq_false (show ¬ i=n.ranks.length - 1 by omega)]at b
   exact k _ (by rw[List.length_append,List.length_append];show o.length+2+_+_<=_;omega) (by rw[b];simp only[Bool.false_eq_true,if_false,List.append_nil];rfl)
theorem c4w(N:Nat): ∀ x:Tm×Unit,(((tW x.1&&Z9 x.1)&&decide (x.1.nd.kind=6))&&decide (Yc x.1.ks<N))=true->Zd (WA N) 0 (Za XI (Zf (Kg x.1))) X3 [] (Zx e1m (encL x)):=by
 rintro⟨⟨n,ks⟩,⟨⟩⟩ h
 simp only[Bool.and_eq_true,decide_eq_true_eq]at h
 obtain⟨⟨⟨i,e⟩,g⟩,hd⟩:=h
 have g:n.kind=6:=g
 have i:tW (.mk n ks)=true:=i
 have e:=Qy e
 have j:UH ks<=1048576:=by have h1:J6 (.mk n ks)<=1048576:=of_decide_eq_true i;rw[J6]at h1;omega
 have z:TxP N ks:=⟨j,e.2,hd⟩
 have hc:XK n ks.length=true:=by
  have h1:=e.1
  unfold WC YJ at h1
  rw[g]at h1
  simp at h1
  exact h1.2.2
 obtain⟨c1,c2,c3,q,u,A⟩:=RH hc
 have l0:(Yi (n.sizes.map Yu)).s.length<=4008:=by
  rw[KY]
  have h1:=YU (n.sizes.map ZE)
  rw[List.map_map]at h1
  have h2:=Qx (f:=(fun s:List UInt8=>s.length+2) ∘ ZE) (c:=1002) (l:=n.sizes) fun x _=>by
   have:=Wx x
   show(ZE x).length+2<=_
   omega
  omega
 have l1:(Zp n.num).s.length<=21:=Dz (by omega)
 have k:=KY n.sizes
 rw[<- ZP]
 show Zd (WA N) 0 (Za XI (Zf (Kg (.mk n ks)))) _ _ _
 have a : ∀ o:List UInt8,o.length<=10000->o=n.name.s++(if n.sizes=[]then []else [91]++Zv (n.sizes.map ZE)++[93])++(if n.num=0 then []else [123]++Kk n.num++[125]) ->
   At (WA N) 0 (Za XI (Zf (Kg (.mk n ks)))) X3 0 64 [(1,.ptr 0 0),(3,.pv (.str o)),(4,.pv (.int .i64 ((0:Nat):Int)))] [.obj (.box (ZY n ks))]:=fun o ho m=>
  a8u N n ks z q A _ n.ranks.length 0 o (by omega) (by omega) (by
   rw[List.drop_zero,show decide (0=0)=true from rfl,f5d,m]
   show(⟨Uh n (ks.map ZN)⟩:Str)=_
   unfold Uh
   simp only[List.append_assoc])
 have r:(fun x:List Lin×Unit=>decide (x.1.length<=1048576)&&x.1.all Zh) (n.sizes,())=true:=by show(decide (n.sizes.length<=1048576)&&n.sizes.all Zh)=true;rw[decide_eq_true (by omega),u];rfl
 have b:n.num.natAbs<9223372036854775808:=by omega
 refine e5i N n ks (ZO (fun hs=> ?_) fun hs=> ?_)
 ·rw[VJ]at hs
  refine⟨Zc (n.sizes,()) rfl r,Zb (n.sizes,()) rfl ⟨Zj (by show 1+(Yi (n.sizes.map Yu)).s.length<=_;omega),Zj (by rw[List.length_append];show 1+(Yi (n.sizes.map Yu)).s.length+1<=_;omega),Zj (by show n.name.s.length+([91]++(Yi (n.sizes.map Yu)).s++[93]).length<=_;rw[List.length_append,List.length_append];show _+(1+_+1)<=_;omega),BS (fun hm=>Nk b ⟨Zj (by show 1+_<=_;omega),Zj (by rw[List.length_append];show 1+(Zp n.num).s.length+1<=_;omega),Zj (by show(n.name.s++([91]++(Yi (n.sizes.map Yu)).s++[93])).length+([123]++(Zp n.num).s++[125]).length<=_;rw[List.length_append,List.length_append,List.length_append,List.length_append,List.length_append];show _+(1+_+1)+(1+_+1)<=_;omega),?_⟩) fun hm=> ?_⟩⟩
  ·refine a _ ?_ ?_
   ·show(n.name.s++([91]++(Yi (n.sizes.map Yu)).s++[93])++([123]++(Zp n.num).s++[125])).length<=_
    rw[List.length_append,List.length_append,List.length_append,List.length_append,List.length_append,List.length_append];show _+(1+_+1)+(1+_+1)<=_;omega
   ·rw[if_neg hs,if_neg hm,<- k];rfl
  ·refine a _ ?_ ?_
   ·show(n.name.s++([91]++(Yi (n.sizes.map Yu)).s++[93])).length<=_
    rw[List.length_append,List.length_append,List.length_append];show _+(1+_+1)<=_;omega
   ·rw[if_neg hs,if_pos hm,<- k,List.append_nil]
 ·have hs:n.sizes=[]:=by
   cases hn:n.sizes with
   | nil=>rfl
   | cons x y=>exact absurd (by rw[hn];simp) hs
  refine BS (fun hm=>Nk b ⟨Zj (by show 1+_<=_;omega),Zj (by rw[List.length_append];show 1+(Zp n.num).s.length+1<=_;omega),Zj (by show n.name.s.length+([123]++(Zp n.num).s++[125]).length<=_;rw[List.length_append,List.length_append];show _+(1+_+1)<=_;omega),?_⟩) fun hm=> ?_
  ·refine a _ ?_ ?_
   ·show(n.name.s++([123]++(Zp n.num).s++[125])).length<=_
    rw[List.length_append,List.length_append,List.length_append];show _+(1+_+1)<=_;omega
   ·rw[if_pos hs,if_neg hm,List.append_nil];rfl
  ·refine a _ (by omega) ?_
   rw[if_pos hs,if_pos hm,List.append_nil,List.append_nil]
theorem g0x{r:OpR}(h:r∈XP):Vd ⟨r.s⟩ r.u=⟨⟨r.n⟩,r.l,true⟩:=by
 simp only[XP,List.mem_cons,List.not_mem_nil,or_false]at h
 rcases h with rfl|rfl|rfl|rfl|rfl|rfl|rfl|rfl|rfl|rfl|rfl|rfl|rfl|rfl|rfl <;> rfl
theorem Sv{n:Nd}{ks:List Tm}{r:OpR}(h:H5 n ks.length=some r):Cy (.mk n ks)=⟨⟨r.s⟩,r.l,r.u⟩:=by
 show(match H5 n ks.length with|none=>(⟨⟨[]⟩,0,false⟩:R3 Str Int Bool)|some r=>⟨⟨r.s⟩,r.l,r.u⟩)=_
 rw[h]
theorem Sr{n:Nd}{ks:List Tm}(h:H5 n ks.length=none):Cy (.mk n ks)=⟨⟨[]⟩,0,false⟩:=by
 show(match H5 n ks.length with|none=>(⟨⟨[]⟩,0,false⟩:R3 Str Int Bool)|some r=>⟨⟨r.s⟩,r.l,r.u⟩)=_
 rw[h]
theorem c4z: ∀ x:Tm×Unit,tW x.1=true->Zd FW 0 (Za Rx (Zf (Cy x.1))) a0d [] (Zx c7h (encL x)):=by
 rintro⟨⟨n,ks⟩,⟨⟩⟩ h
 have C:=ndB h
 have q1:=C.sizes
 have q2:=C.ranks
 rw[<- ZP]
 show Zd FW 0 (Za Rx (Zf (Cy (.mk n ks)))) _ _ _
 have j:H5 n ks.length=none->Zf (Cy (.mk n ks)) (.tup [.str [],.int .i64 0,.bool false]):=fun e=>Zg (x:=(⟨⟨[]⟩,0,false⟩:R3 Str Int Bool)) (Sr e).symm
 refine e4c n ks (Zb (n.name,()) rfl ?_)
 cases k:Bf n.name.s with
 | none=>
  have e:H5 n ks.length=none:=by unfold H5;simp[k]
  rw[show Jp (n.name,()).1=⟨⟨[]⟩,false,false⟩from by show Jp n.name=_;unfold Jp;rw[k]]
  exact BS (fun _=>j e) fun _=>ZT rfl (j e)
 | some r=>
  rw[show Jp (n.name,()).1=⟨⟨r.s⟩,r.u,true⟩from g5h k]
  have g : ¬ (n.kind=6∧ks.length=(if r.u then 1 else 2)∧n.sizes=[]∧n.num=0∧n.ranks=[])->H5 n ks.length=none:=fun h=>by unfold H5;simp only[k];rw[if_neg h]
  have q:(n.kind=6∧ks.length=(if r.u then 1 else 2)∧n.sizes=[]∧n.num=0∧n.ranks=[])->H5 n ks.length=some r:=fun h=>by unfold H5;simp only[k];rw[if_pos h]
  have hm:r∈XP:=List.mem_of_find?_eq_some k
  have D:=g0x hm
  simp only[List.length_map,P9 (show n.sizes.length+n.ranks.length<=4611686018427387904 by omega)]
  refine BS (fun m=>j (g fun x=>m x.1)) fun m=>ZU (by simp) (ZO (fun hs=>j (g fun x=> ?_)) fun hs=>BS (fun hm=>j (g fun x=>hm x.2.2.2.1)) fun hm=> ?_)
  ·rw[x.2.2.1,x.2.2.2.2]at hs
   simp at hs
  ·have B:n.sizes=[]:=List.length_eq_zero_iff.1 (by omega)
   have A:n.ranks=[]:=List.length_eq_zero_iff.1 (by omega)
   have fin:ks.length=(if r.u then 1 else 2)-> ∃ y:R3 Str Int Bool,AV.pv (Zi (fun x:Str×Bool×Unit=>Vd x.1 x.2.1) [.str (Str.s (R3.a (⟨⟨r.s⟩,r.u,true⟩:R3 Str Bool Bool))),.bool (R3.b (⟨⟨r.s⟩,r.u,true⟩:R3 Str Bool Bool))])=AV.pv (enc y)∧Zf (Cy (.mk n ks)) (.tup [.str (Str.s (R3.a (⟨⟨r.s⟩,r.u,true⟩:R3 Str Bool Bool))),.int .i64 (R3.b y),.bool (R3.b (⟨⟨r.s⟩,r.u,true⟩:R3 Str Bool Bool))]):=fun F=>
    Zb (⟨r.s⟩,r.u,()) rfl (by
     rw[show Vd ((⟨r.s⟩,r.u,()):Str×Bool×Unit).1 ((⟨r.s⟩,r.u,()):Str×Bool×Unit).2.1=⟨⟨r.n⟩,r.l,true⟩from D]
     exact Zg (x:=(⟨⟨r.s⟩,r.l,r.u⟩:R3 Str Int Bool)) (Sv (q ⟨m,F,B,hm,A⟩)).symm)
   refine BS (fun E=>YV (fun hu=>j (g fun x=> ?_)) fun hu=>BS (fun z=>YY (fun i=>j (g fun x=> ?_)) fun i=> ?_) fun z=>fin ?_) fun E=>BS (fun z=>YY (fun hu=>j (g fun x=> ?_)) fun hu=>fin ?_) fun z=> ?_
   ·have hu:r.u=true:=hu
    have:=x.2.1
    rw[hu,if_pos rfl]at this
    omega
   ·have hu:r.u=false:=hu
    have:=x.2.1
    rw[hu,if_neg (by decide)]at this
    omega
   ·have hu:r.u=false:=hu
    have i:r.u=true:=i
    rw[hu]at i;cases i
   ·have hu:r.u=false:=hu
    rw[hu,if_neg (by decide)];omega
   ·have hu:r.u=false:=hu
    have:=x.2.1
    rw[hu,if_neg (by decide)]at this
    omega
   ·have hu:r.u=true:=hu
    rw[hu,if_pos rfl];omega
   ·omega
theorem e0q: ∀ x:Tm×Unit,tW x.1=true->Zd b1n 0 (Za O8 (Zf (Wh x.1))) b7b [] (Zx e9e (encL x)):=by
 rintro⟨⟨n,ks⟩,⟨⟩⟩ h
 rw[<- ZP]
 show Zd b1n 0 (Za O8 (Zf (TC n ks.length))) _ _ _
 refine f5l n ks ⟨Zc (.mk n ks,()) (ZP n ks) h,Zb (.mk n ks,()) (ZP n ks) (Zy (fun b=>UN ?_) fun b=> ?_)⟩
 ·unfold TC;rw[if_pos b]
 ·cases ho:H5 n ks.length with
  | some r=>
   rw[show Cy ((Tm.mk n ks,()):Tm×Unit).1=⟨⟨r.s⟩,r.l,r.u⟩from Sv ho]
   have a:(r.s==[])=false:=by rw[Ce];exact decide_eq_false (f1o (Ta ho).1)
   exact ZT (by show(!(r.s==[]))=true;rw[a];rfl) (UN (b6s ho).symm)
  | none=>
   rw[show Cy ((Tm.mk n ks,()):Tm×Unit).1=⟨⟨[]⟩,0,false⟩from Sr ho]
   have e:TC n ks.length=if n.kind=2∧n.name.s=Xa∧n.num<0 then 6 else 7:=by unfold TC;rw[if_neg b,ho]
   rw[e]
   refine ZU (by decide) (Zy (fun h2=>Zy (fun h3=>ZO (fun g=>UN ?_) fun g=>UN ?_) fun h3=>UN ?_) fun h2=>UN ?_)
   ·rw[if_pos ⟨h2,h3,g⟩]
   ·rw[if_neg fun x=>g x.2.2]
   ·rw[if_neg fun x=>h3 x.2.1]
   ·rw[if_neg fun x=>h2 x.1]
theorem d7s(N:Nat): ∀ x:Tm×Bool×Unit,((tW x.1&&Z9 x.1)&&decide (Z4 x.1<N))=true->Zd (b0j N) 0 (Za O5 (Zf (Su x.2.1 x.1))) b8y [] (Zx e8j (encL x)):=by
 rintro⟨⟨n,ks⟩,b,⟨⟩⟩ h
 have a:=h
 simp only[Bool.and_eq_true,decide_eq_true_eq]at a
 have hl:(ZN (.mk n ks)).length<=1153433592:=Jn a.1.1 a.1.2
 have e:encL ((Tm.mk n ks,b,()):Tm×Bool×Unit)=Dh n ks++[.bool b]:=by rw[ZP];rfl
 rw[e]
 show Zd (b0j N) 0 (Za O5 (Zf (Su b (.mk n ks)))) _ _ _
 refine f4v N n ks b (YV (fun hb=>⟨Zc (.mk n ks,()) (ZP n ks) h,Zb (.mk n ks,()) (ZP n ks) ⟨Zj (by show 1+(ZN (.mk n ks)).length<=_;omega),Zj (by rw[List.length_append];show 1+(ZN (.mk n ks)).length+1<=_;omega),?_⟩⟩) fun hb=>⟨Zc (.mk n ks,()) (ZP n ks) h,Zb (.mk n ks,()) (ZP n ks) ?_⟩)
 ·exact d1q (by rw[hb];rfl)
 ·exact d1q (by rw[hb];rfl)
theorem c4m(N:Nat): ∀ x:Tm×Unit,((tW x.1&&Z9 x.1)&&decide (Z4 x.1<N+1))=true->Zd (Oy N) 0 (Za P8 (Zf (Zt x.1))) a0z [] (Zx d7g (encL x)):=by
 rintro⟨⟨n,ks⟩,⟨⟩⟩ h
 simp only[Bool.and_eq_true,decide_eq_true_eq]at h
 obtain⟨⟨E,z⟩,hd⟩:=h
 have E:tW (.mk n ks)=true:=E
 have z:Z9 (.mk n ks)=true:=z
 have hd:Z4 (.mk n ks)<N+1:=hd
 rw[Z4]at hd
 have Q:=Qy z
 have O:UH ks<=1048576:=by have h1:J6 (.mk n ks)<=1048576:=of_decide_eq_true E;rw[J6]at h1;omega
 have j:TxP N ks:=⟨O,Q.2,by omega⟩
 have y:=(ndB E).name
 have k:YJ n ks.length=true:=by
  have:=Q.1
  unfold WC at this
  simp only[Bool.and_eq_true]at this
  exact this.2
 have fin : ∀ s,s=Q0 n (Yw ks)->Zf (Zt (.mk n ks)) (.str s):=fun s hs=>Zg (x:=(⟨s⟩:Str)) (by rw[hs,Zt,ZN])
 rw[<- ZP]
 show Zd (Oy N) 0 (Za P8 (Zf (Zt (.mk n ks)))) _ _ _
 refine e6y N n ks ⟨Zc (.mk n ks,()) (ZP n ks) E,Zb (.mk n ks,()) (ZP n ks) ?_⟩
 generalize Zf (Zt (.mk n ks))=G at fin ⊢
 cases ho:H5 n ks.length with
 | some r=>
  obtain⟨hm,K⟩:=FQ ho
  have hr:=(Ta ho).2
  have L:(r.s==[])=false:=by rw[Ce];exact decide_eq_false (f1o (Ta ho).1)
  have D:(!(r.s==[]))=true:=by rw[L];rfl
  rw[show Cy ((Tm.mk n ks,()):Tm×Unit).1=⟨⟨r.s⟩,r.l,r.u⟩from Sv ho]
  cases hu:r.u with
  | false=>
   rw[hu]at K
   match ks,K with
   | [a,b],_=>
    have ha:=j.kid (show a∈[a,b] by simp)
    have hb:=j.kid (show b∈[a,b] by simp)
    have H:=j.len (show a∈[a,b] by simp)
    have T:=j.len (show b∈[a,b] by simp)
    have g : ∀ f,(Su f a).s.length<=1153433594:=fun f=>by have:=Qe f (ZN a);show(Ue f (ZN a)).length<=_;omega
    have F : ∀ f,(Su f b).s.length<=1153433594:=fun f=>by have:=Qe f (ZN b);show(Ue f (ZN b)).length<=_;omega
    have i : ∀ f:Bool,f=(decide (Wh a<r.l)||(decide (Wh a=3)&&decide (r.l=3)))->(Su f a).s++[32]++r.s++[32]++(Su (decide (Wh b<=r.l)) b).s=Q0 n (Yw [a,b]):=fun f M=>by
     simp only[Yw]
     rw[b4e ho,M]
     rfl
    refine ZT D (ZU (by simp) (ZT D ⟨rfl,a,rfl,Xy a,rfl,b,rfl,Xy b,Ab ha.1 (ZO (fun h1=> ?_) fun h1=>Ab ha.1 (Zy (fun h2=> ?_) fun h2=> ?_))⟩))
    ·have h1:Wh a<r.l:=h1
     refine QV ha ⟨Zz (g _) (show _<=8 by decide) (by omega),Zz (Zu (g _) (show _<=8 by decide)) hr (by omega),Zz (Zu (Zu (g _) (show _<=8 by decide)) hr) (show _<=8 by decide) (by omega),Ab hb.1 (QV hb ⟨Zz (Zu (Zu (Zu (g _) (show _<=8 by decide)) hr) (show _<=8 by decide)) (F _) (by omega),fin _ (i _ ?_)⟩)⟩
     rw[decide_eq_true h1];rfl
    ·have h1 : ¬ Wh a<r.l:=h1
     refine QV ha ⟨Zz (g _) (show _<=8 by decide) (by omega),Zz (Zu (g _) (show _<=8 by decide)) hr (by omega),Zz (Zu (Zu (g _) (show _<=8 by decide)) hr) (show _<=8 by decide) (by omega),Ab hb.1 (QV hb ⟨Zz (Zu (Zu (Zu (g _) (show _<=8 by decide)) hr) (show _<=8 by decide)) (F _) (by omega),fin _ (i _ ?_)⟩)⟩
     rw[decide_eq_false h1,h2];simp[beq_iff_eq];rfl
    ·have h1 : ¬ Wh a<r.l:=h1
     refine QV ha ⟨Zz (g _) (show _<=8 by decide) (by omega),Zz (Zu (g _) (show _<=8 by decide)) hr (by omega),Zz (Zu (Zu (g _) (show _<=8 by decide)) hr) (show _<=8 by decide) (by omega),Ab hb.1 (QV hb ⟨Zz (Zu (Zu (Zu (g _) (show _<=8 by decide)) hr) (show _<=8 by decide)) (F _) (by omega),fin _ (i _ ?_)⟩)⟩
     rw[decide_eq_false h1,decide_eq_false h2];rfl
  | true=>
   rw[hu]at K
   match ks,K with
   | [a],_=>
    have ha:=j.kid (show a∈[a] by simp)
    have H:=j.len (show a∈[a] by simp)
    have g : ∀ f,(Su f a).s.length<=1153433594:=fun f=>by have:=Qe f (ZN a);show(Ue f (ZN a)).length<=_;omega
    have i : ∀ f:Bool,f=(decide (Wh a<6)||(decide (r.s=[45])&&Sw a))->r.s++(Su f a).s=Q0 n (Yw [a]):=fun f M=>by
     simp only[Yw]
     rw[e0n ho,M]
     rfl
    refine ZT D (ZT rfl ⟨rfl,a,rfl,Xy a,Ab ha.1 ?_⟩)
    rw[g2l,g6c,g2u]
    have nn : ∀ {q:Bool},Sw a=q->Sw a=q:=fun h=>h
    refine ZO (fun C=> ?_) fun C=>Zy (fun m=>Zy (fun h2=>Zy (fun h3=> ?_) fun h3=> ?_) fun h2=> ?_) fun m=> ?_
    ·refine QV ha ⟨Zz hr (g _) (by omega),fin _ (i _ ?_)⟩
     rw[decide_eq_true C];rfl
    ·refine QV ha ⟨Zz hr (g _) (by omega),fin _ (i _ ?_)⟩
     have m:r.s=[45]:=m
     rw[decide_eq_false C,decide_eq_true m,Bool.false_or,Bool.true_and]
     unfold Sw
     rw[decide_eq_true h2,decide_eq_true (show a.nd.name.s=Xa from h3)];rfl
    ·refine QV ha ⟨Zz hr (g _) (by omega),fin _ (i _ ?_)⟩
     have m:r.s=[45]:=m
     rw[decide_eq_false C,decide_eq_true m,Bool.false_or,Bool.true_and]
     unfold Sw
     rw[decide_eq_true h2,decide_eq_false (show ¬ a.nd.name.s=Xa from h3)];rfl
    ·refine QV ha ⟨Zz hr (g _) (by omega),fin _ (i _ ?_)⟩
     have m:r.s=[45]:=m
     rw[decide_eq_false C,decide_eq_true m,Bool.false_or,Bool.true_and]
     unfold Sw
     rw[decide_eq_false h2];rfl
    ·refine QV ha ⟨Zz hr (g _) (by omega),fin _ (i _ ?_)⟩
     have m : ¬ r.s=[45]:=m
     rw[decide_eq_false C,decide_eq_false m];rfl
 | none=>
  rw[show Cy ((Tm.mk n ks,()):Tm×Unit).1=⟨⟨[]⟩,0,false⟩from Sr ho]
  have hn:Q0 n (Yw ks)=_:=MJ (by rw[WH,List.length_map];exact ho)
  have et:(Yw ks).map (·.2.2)=ks.map ZN:=by rw[WH,List.map_map];rfl
  rw[et]at hn
  rw[hn]at fin
  refine ZU (by decide) (ZU (by decide) (Zy (fun h=> ?_) fun V=>Zy (fun h=> ?_) fun h2=>Zy (fun h=> ?_) fun C=>Zy (fun h=> ?_) fun m=>Zy (fun h=> ?_) fun X=>Zy (fun h=> ?_) fun U=>Zy (fun h=> ?_) fun I=>Zy (fun h=> ?_) fun h3=> ?_))
  ·-- let
   have q:nameI n.name.s=true∧ks.length=2:=by
    have:=k
    unfold YJ at this
    simp[h]at this
    exact⟨this.1.1.1.2,this.1.2⟩
   obtain⟨a,b,rfl⟩:=TL q.2
   have ha:=j.kid (show a∈[a,b] by simp)
   have hb:=j.kid (show b∈[a,b] by simp)
   have H:(Zt a).s.length<=_:=j.len (show a∈[a,b] by simp)
   have T:(Zt b).s.length<=_:=j.len (show b∈[a,b] by simp)
   refine⟨Zz (show _<=8 by decide) y (by omega),Zz (Zu (show _<=8 by decide) y) (show _<=8 by decide) (by omega),rfl,a,rfl,Xy a,FX ha ⟨Zz (Zu (Zu (show _<=8 by decide) y) (show _<=8 by decide)) H (by omega),Zz (Zu (Zu (Zu (show _<=8 by decide) y) (show _<=8 by decide)) H) (show _<=8 by decide) (by omega),rfl,b,rfl,Xy b,FX hb ⟨Zz (Zu (Zu (Zu (Zu (show _<=8 by decide) y) (show _<=8 by decide)) H) (show _<=8 by decide)) T (by omega),fin _ ?_⟩⟩⟩
   simp[h,Yw,Zt]
  ·-- literals
   have q:UK n=true:=by
    have:=k
    unfold YJ at this
    simp[h]at this
    exact this.1.1.2
   have W:n.name.s=Xa->n.num.natAbs<9223372036854775808:=fun e=>by
    unfold UK at q
    rw[e,if_neg (by decide)]at q
    simp at q
    omega
   have S:Q0 n (Yw ks)=Sc n:=by rw[hn];simp[h]
   rw[hn]at S
   rw[S]at fin
   refine Zy (fun h3=>Nk (W h3) (fin _ ?_)) fun h3=>Zy (fun I=>fin _ ?_) fun I=>fin _ ?_
   ·unfold Sc;rw[if_pos (show n.name.s=Xa from h3)];rfl
   ·unfold Sc;rw[if_neg (show ¬ n.name.s=Xa from h3),if_pos I]
   ·unfold Sc;rw[if_neg (show ¬ n.name.s=Xa from h3),if_neg I]
  ·-- call
   refine⟨Zc (.mk n ks,()) (ZP n ks) ?_,Zb (.mk n ks,()) (ZP n ks) (fin _ (by simp[h,Kg,Tm.nd,Tm.ks]))⟩
   show(tW (.mk n ks)&&Z9 (.mk n ks)&&decide (n.kind=6)&&decide (Yc ks<N))=true
   rw[E,z,decide_eq_true h,decide_eq_true j.d];rfl
  ·-- pack
   have hc:=j.com
   have B:=VM ks
   rw[<- B]at hc
   refine TE j ⟨Zz (show _<=8 by decide) hc (by omega),Zz (Zu (show _<=8 by decide) hc) (show _<=8 by decide) (by omega),fin _ ?_⟩
   simp[h,B]
  ·-- fold
   have q:CY n.name.s=true∧ks.length=2:=by
    have:=k
    unfold YJ at this
    simp[h]at this
    exact⟨this.1.1.1.2,this.1.2⟩
   have hc:=j.com
   have B:=VM ks
   rw[<- B]at hc
   have A:=(VI q.1).2.2
   obtain⟨a,b,rfl⟩:=TL q.2
   refine⟨Zz (show _<=8 by decide) A (by omega),Zz (Zu (show _<=8 by decide) A) (show _<=8 by decide) (by omega),TE j ⟨Zz (Zu (Zu (show _<=8 by decide) A) (show _<=8 by decide)) hc (by omega),Zz (Zu (Zu (Zu (show _<=8 by decide) A) (show _<=8 by decide)) hc) (show _<=8 by decide) (by omega),fin _ ?_⟩⟩
   rw[B]
   simp[h,Hg]
  ·-- scan
   have q:CY n.name.s=true∧ks.length=1:=by
    have:=k
    unfold YJ at this
    simp[h]at this
    exact⟨this.1.1.1.2,this.1.2⟩
   have hc:=j.com
   have B:=VM ks
   rw[<- B]at hc
   have A:=(VI q.1).2.2
   obtain⟨a,rfl⟩:=List.length_eq_one_iff.1 q.2
   refine⟨Zz (show _<=8 by decide) A (by omega),Zz (Zu (show _<=8 by decide) A) (show _<=8 by decide) (by omega),TE j ⟨Zz (Zu (Zu (show _<=8 by decide) A) (show _<=8 by decide)) hc (by omega),Zz (Zu (Zu (Zu (show _<=8 by decide) A) (show _<=8 by decide)) hc) (show _<=8 by decide) (by omega),fin _ ?_⟩⟩
   rw[B]
   simp[h,Hg]
  ·-- sizes
   have q:n.sizes.length=1∧n.sizes.all Zh=true:=by
    have:=k
    unfold YJ at this
    simp[h]at this
    exact⟨this.1.1.2,by rw[List.all_eq_true];exact this.1.2⟩
   obtain⟨l,hs⟩:=List.length_eq_one_iff.1 q.1
   have P:Zh l=true:=by
    have:=q.2
    rw[hs,List.all_eq_true]at this
    exact this l (by simp)
   have J:=Wx l
   refine⟨by rw[hs];rfl,l,by rw[hs];rfl,Zc (l,()) rfl (Us P),Zb (l,()) rfl ⟨Zz (show _<=8 by decide) (show _<=1000 from J) (by omega),Zz (Zu (show _<=8 by decide) (show _<=1000 from J)) (show _<=8 by decide) (by omega),fin _ ?_⟩⟩
   simp[h,hs]
  ·-- arrays
   have q:WE (U6 n)=true:=by
    have:=k
    unfold YJ at this
    simp[h]at this
    exact this.2
   refine⟨Zc (U6 n,()) rfl ?_,Zb (U6 n,()) rfl (fin _ ?_)⟩
   ·show(VH (U6 n)&&WE (U6 n))=true
    rw[OX E,q];rfl
   ·simp[h,J8]
  ·-- variables
   have h1:n.kind=1:=by
    refine Classical.byContradiction fun h1=> ?_
    rw[kB0 h1 h2 h3 I V C m X U]at k
    cases k
   exact fin _ (by simp[h1])
theorem a2n(l:List Str)(s:Str):(Uv l s).length<=l.length+1:=by
 induction l with
 | nil=>simp[Uv]
 | cons a r ih=>
  rw[Uv]
  split
  ·rw[List.length_cons,List.length_cons];omega
  ·split <;> simp
theorem e8x(l:List Str)(s:Str):Uv l s≠[]:=by
 cases l with
 | nil=>simp[Uv]
 | cons a r=>
  rw[Uv]
  split
  ·simp
  ·split <;> simp
theorem d6s{l:List Str}{s x:Str}:x∈Uv l s ↔ x∈l∨x=s:=by
 induction l with
 | nil=>simp[Uv]
 | cons a r ih=>
  rw[Uv]
  split
  ·rw[List.mem_cons,ih,List.mem_cons,or_assoc]
  ·split
   ·rename_i h
    subst h
    simp only[List.mem_cons]
    exact⟨fun h=>.inl h,fun h=>h.elim id .inl⟩
   ·simp only[List.mem_cons]
    constructor
    ·rintro(h|h|h)
     ·exact .inr h
     ·exact .inl (.inl h)
     ·exact .inl (.inr h)
    ·rintro((h|h)|h)
     ·exact .inr (.inl h)
     ·exact .inr (.inr h)
     ·exact .inl h
theorem MX: ∀ (l m:List Str) (x:Str),x∈l.foldl Uv m ↔ x∈m∨x∈l
 | [],m,x=>by simp
 | s::l,m,x=>by
  rw[List.foldl_cons,MX l,d6s,List.mem_cons,or_assoc]
theorem AB(t:Tm)(x:Str):x∈JZ t ↔ x∈YX t:=by
 have h:=MX (YX t) [] x
 simp only[List.not_mem_nil,false_or]at h
 exact h
theorem c3e(t:Tm)(p:Str->Bool):(JZ t).all p=(Ui t).all p:=by
 rw[Da,Bool.eq_iff_iff,List.all_eq_true,List.all_eq_true]
 exact⟨fun h s hs=>h s ((AB t s).2 hs),fun h s hs=>h s ((AB t s).1 hs)⟩
theorem b8q(l:List Str)(s:List UInt8)(i:Nat)(h:i<=l.length):(PV.sl 1 false (List.drop 0 (List.take (0+List.length (List.drop 0 (List.take (Int.toNat (i:Int)) (List.map (enc:Str->PV) l)))+List.length (List.drop 0 (List.take 1 [PV.str s]))+List.length (List.drop (Int.toNat (i:Int)) (List.take (List.length (List.map (enc:Str->PV) l)) (List.map (enc:Str->PV) l)))) (([]:List PV)++List.drop 0 (List.take (Int.toNat (i:Int)) (List.map (enc:Str->PV) l))++List.drop 0 (List.take 1 [PV.str s])++List.drop (Int.toNat (i:Int)) (List.take (List.length (List.map (enc:Str->PV) l)) (List.map (enc:Str->PV) l))))))=enc (l.take i++(⟨s⟩:Str)::l.drop i):=by
 have e:(([]:List PV)++List.drop 0 (List.take (Int.toNat (i:Int)) (List.map (enc:Str->PV) l))++List.drop 0 (List.take 1 [PV.str s])++List.drop (Int.toNat (i:Int)) (List.take (List.length (List.map (enc:Str->PV) l)) (List.map (enc:Str->PV) l)))=(l.take i++(⟨s⟩:Str)::l.drop i).map enc:=by
  rw[Int.toNat_natCast,List.nil_append,List.drop_zero,List.take_length,List.map_append,List.map_cons,List.map_take,List.map_drop,List.append_assoc]
  rfl
 rw[e,List.drop_zero,List.take_of_length_le]
 ·rfl
 ·rw[<- e];simp only[List.length_append,List.length_nil];omega
theorem c0x(l:List Str)(s:List UInt8)(hl:l.length<=1048576): ∀ (d i:Nat),d+i=l.length->Uv l ⟨s⟩=l.take i++Uv (l.drop i) ⟨s⟩ ->
  At BU 0 (Za Gf (Zf (Uv l ⟨s⟩))) G6 0 45 [(0,.pv (enc l)),(1,.pv (.str s)),(5,.pv (.int .i64 i))] []:=by
 intro d
 induction d with
 | zero=>
  intro i hi k
  have hn : ¬ i<l.length:=by omega
  refine b7e l s i (ZU (XO hn) (ZU (XO hn) ⟨by first|(simp[Enc.sz];done)|(simp[Enc.sz];omega),by first|(simp[Enc.sz];done)|(simp[Enc.sz];omega),by first|(simp[Enc.sz];done)|(simp[Enc.sz];omega),by first|(simp[Enc.sz];done)|(simp[Enc.sz];omega),by first|(simp[Enc.sz];done)|(simp[Enc.sz];omega),by first|(simp[Enc.sz];done)|(simp[Enc.sz];omega),by first|(simp[Enc.sz];done)|(simp[Enc.sz];omega),by first|(simp[Enc.sz];done)|(simp[Enc.sz];omega),?_⟩))
  rw[b8q l s i (by omega)]
  refine Zg ?_
  rw[k,List.drop_eq_nil_of_le (show l.length<=i by omega)]
  rfl
 | succ d ih=>
  intro i hi k
  have a:i<l.length:=by omega
  have b:=k
  rw[List.drop_eq_getElem_cons a,Uv]at b
  have j:i<=l.length:=by omega
  refine b7e l s i (ZT (Xq a) ⟨Zq a rfl,ZB a (DW (fun hb=> ?_) fun hb=>ZT (Xq a) ⟨Zq a rfl,ZB a (Zy (fun g=> ?_) fun g=>⟨by first|(simp[Enc.sz];done)|(simp[Enc.sz];omega),by first|(simp[Enc.sz];done)|(simp[Enc.sz];omega),by first|(simp[Enc.sz];done)|(simp[Enc.sz];omega),by first|(simp[Enc.sz];done)|(simp[Enc.sz];omega),by first|(simp[Enc.sz];done)|(simp[Enc.sz];omega),by first|(simp[Enc.sz];done)|(simp[Enc.sz];omega),by first|(simp[Enc.sz];done)|(simp[Enc.sz];omega),by first|(simp[Enc.sz];done)|(simp[Enc.sz];omega),?_⟩)⟩)⟩)
  ·have hb:Op.bytesLess l[i].s s=true:=hb
   rw[X9]at hb
   rw[if_pos (of_decide_eq_true hb)]at b
   rw[next (by omega)]
   refine ih (i+1) (by omega) ?_
   rw[b,Qw a,List.append_assoc];rfl
  ·have hb : ¬ Op.bytesLess l[i].s s=true:=hb
   rw[X9]at hb
   have g:l[i].s=s:=g
   have e:l[i]=⟨s⟩:=by rw[<- g]
   rw[if_neg (fun h=>hb (decide_eq_true h)),if_pos e]at b
   refine Zg ?_
   rw[b,<- List.drop_eq_getElem_cons a,List.take_append_drop]
  ·have hb : ¬ Op.bytesLess l[i].s s=true:=hb
   rw[X9]at hb
   have g:l[i].s≠s:=g
   have e : ¬ l[i]=⟨s⟩:=fun h=>g (by rw[h])
   rw[if_neg (fun h=>hb (decide_eq_true h)),if_neg e]at b
   rw[b8q l s i j]
   refine Zg ?_
   rw[b,List.drop_eq_getElem_cons a]
theorem d4f: ∀ x:List Str×Str×Unit,decide (x.1.length<=1048576)=true->Zd BU 0 (Za Gf (Zf (Uv x.1 x.2.1))) G6 [] (Zx e5u (encL x)):=by
 rintro⟨l,⟨s⟩,⟨⟩⟩ h
 exact f9m l s (c0x l s (of_decide_eq_true h) l.length 0 (by omega) (by simp))
def slP:List Str->PV
 | []=>.sl 0 true []
 | a::r=>enc (a::r)
theorem f4o{o:List Str}(h:o≠[]):slP o=enc o:=by cases o with
 | nil=>exact absurd rfl h
 | cons a r=>rfl
theorem d3t(o:List Str):Zf o (slP o):=by cases o with
 | nil=>exact⟨rfl,rfl⟩
 | cons a r=>exact Zg rfl
theorem zsv(c:Coef):(decide (0+List.length [Sh.str]<=List.length (List.drop 0 (PV.cells (enc c))))&&Yj (List.drop 0 (PV.cells (enc c))) 0 [Sh.str])=true:=rfl
theorem f1g{G:PV->Prop}(n:Nd)(ks:List Tm)(y:List Tm)(o:List Str)(i:Nat)(h:if decide ((i:Int)<(y.length:Int))=true then At Z8 0 (Za ZQ G) ZV 1 56 [(3,.pv (slP o)),(4,.pv (enc y)),(5,.pv (.int .i64 i)),(6,.pv (.int .i64 ((0:Nat):Int)))] []else G (slP o)):
  At Z8 0 (Za ZQ G) ZV 0 56 [(3,.pv (slP o)),(4,.pv (enc y)),(5,.pv (.int .i64 i))] []:=by
 cases o with
 | nil=>exact c3r n ks y i (by rw[show(y.length:Int)=((List.map (enc:Tm->PV) y).length:Int)from by rw[List.length_map]]at h;exact h)
 | cons a r=>exact c1m n ks y (a::r) i (by rw[show(y.length:Int)=((List.map (enc:Tm->PV) y).length:Int)from by rw[List.length_map]]at h;exact h)
theorem f1n{G:PV->Prop}(n:Nd)(ks:List Tm)(y:List Tm)(o:List Str)(i k:Nat)(b:i<y.length)(h:if decide ((k:Int)<(y[i].nd.sizes.length:Int))=true then At Z8 0 (Za ZQ G) ZV 2 56 [(3,.pv (slP o)),(4,.pv (enc y)),(5,.pv (.int .i64 i)),(6,.pv (.int .i64 k)),(7,.pv (.int .i64 ((0:Nat):Int)))] []else At Z8 0 (Za ZQ G) ZV 0 56 [(3,.pv (slP o)),(4,.pv (enc y)),(5,.pv (.int .i64 (IntKind.i64.wrap ((i:Int)+1))))] []):
  At Z8 0 (Za ZQ G) ZV 1 56 [(3,.pv (slP o)),(4,.pv (enc y)),(5,.pv (.int .i64 i)),(6,.pv (.int .i64 k))] []:=by
 cases o with
 | nil=>
  refine c4f n ks y i k ⟨Zq b rfl,ZB b ⟨zs7 _,?_⟩⟩
  rw[zv7,List.length_map]
  exact h
 | cons a r=>
  refine c1u n ks y (a::r) i k ⟨Zq b rfl,ZB b ⟨zs7 _,?_⟩⟩
  rw[zv7,List.length_map]
  exact h
theorem f8i{G:PV->Prop}(n:Nd)(ks:List Tm)(y:List Tm)(o:List Str)(i k j:Nat)(b:i<y.length)(e:k<y[i].nd.sizes.length)(g : ¬ j<y[i].nd.sizes[k].t.length)(h:At Z8 0 (Za ZQ G) ZV 1 56 [(3,.pv (slP o)),(4,.pv (enc y)),(5,.pv (.int .i64 i)),(6,.pv (.int .i64 (IntKind.i64.wrap ((k:Int)+1))))] []):
  At Z8 0 (Za ZQ G) ZV 2 56 [(3,.pv (slP o)),(4,.pv (enc y)),(5,.pv (.int .i64 i)),(6,.pv (.int .i64 k)),(7,.pv (.int .i64 j))] []:=by
 have l:(decide (0<=(k:Int))&&decide (Int.toNat (k:Int)<List.length (List.map (enc:Lin->PV) y[i].nd.sizes))&&2==2)=true:=by simp[e]
 cases o with
 | nil=>
  refine FB n ks y i k j ⟨Zq b rfl,ZB b ⟨zs7 _,?_⟩⟩
  rw[zv7,X4 enc e]
  refine⟨l,b3f _,?_⟩
  rw[a6w,List.length_map]
  exact ZU (Yx g) h
 | cons a r=>
  refine Mj n ks y (a::r) i k j ⟨Zq b rfl,ZB b ⟨zs7 _,?_⟩⟩
  rw[zv7,X4 enc e]
  refine⟨l,b3f _,?_⟩
  rw[a6w,List.length_map]
  exact ZU (Yx g) h
theorem f8x{G:PV->Prop}(n:Nd)(ks:List Tm)(y:List Tm)(o:List Str)(i k j:Nat)(b:i<y.length)(g:k<y[i].nd.sizes.length)(e:j<y[i].nd.sizes[k].t.length)(ho:o.length<=1048576)(h:At Z8 0 (Za ZQ G) ZV 2 56 [(3,.pv (slP (Uv o y[i].nd.sizes[k].t[j].v))),(4,.pv (enc y)),(5,.pv (.int .i64 i)),(6,.pv (.int .i64 k)),(7,.pv (.int .i64 (IntKind.i64.wrap ((j:Int)+1))))] []):
  At Z8 0 (Za ZQ G) ZV 2 56 [(3,.pv (slP o)),(4,.pv (enc y)),(5,.pv (.int .i64 i)),(6,.pv (.int .i64 k)),(7,.pv (.int .i64 j))] []:=by
 have l:(decide (0<=(k:Int))&&decide (Int.toNat (k:Int)<List.length (List.map (enc:Lin->PV) y[i].nd.sizes))&&2==2)=true:=by simp[g]
 have m:(decide (0<=(j:Int))&&decide (Int.toNat (j:Int)<List.length (List.map (enc:Coef->PV) y[i].nd.sizes[k].t))&&2==2)=true:=by simp[e]
 rw[f4o (e8x _ _)]at h
 cases o with
 | nil=>
  refine FB n ks y i k j ⟨Zq b rfl,ZB b ⟨zs7 _,?_⟩⟩
  rw[zv7,X4 enc g]
  refine⟨l,b3f _,?_⟩
  rw[a6w,List.length_map]
  refine ZT (Yt e) ⟨Zq b rfl,ZB b ⟨zs7 _,?_⟩⟩
  rw[zv7,X4 enc g]
  refine⟨l,b3f _,?_⟩
  rw[a6w,X4 enc e]
  exact⟨m,zsv _,a7v ([],y[i].nd.sizes[k].t[j].v,()) rfl h⟩
 | cons a r=>
  refine Mj n ks y (a::r) i k j ⟨Zq b rfl,ZB b ⟨zs7 _,?_⟩⟩
  rw[zv7,X4 enc g]
  refine⟨l,b3f _,?_⟩
  rw[a6w,List.length_map]
  refine ZT (Yt e) ⟨Zq b rfl,ZB b ⟨zs7 _,?_⟩⟩
  rw[zv7,X4 enc g]
  refine⟨l,b3f _,?_⟩
  rw[a6w,X4 enc e]
  exact⟨m,zsv _,Zc (a::r,y[i].nd.sizes[k].t[j].v,()) rfl (decide_eq_true ho),Zb (a::r,y[i].nd.sizes[k].t[j].v,()) rfl h⟩
theorem g7p{G:PV->Prop}(n:Nd)(ks:List Tm)(y:List Tm)(i k E:Nat)(b:i<y.length)(h:k<y[i].nd.sizes.length)(hkl:y[i].nd.sizes[k].t.length<=1048576)(F:List Str)(g:F.length+E<=1048576->At Z8 0 (Za ZQ G) ZV 1 56 [(3,.pv (slP F)),(4,.pv (enc y)),(5,.pv (.int .i64 i)),(6,.pv (.int .i64 (IntKind.i64.wrap ((k:Int)+1))))] []): ∀ (d j:Nat) (o:List Str),d+j=y[i].nd.sizes[k].t.length->o.length+d+E<=1048576->F=((y[i].nd.sizes[k].t.drop j).map (·.v)).foldl Uv o ->
  At Z8 0 (Za ZQ G) ZV 2 56 [(3,.pv (slP o)),(4,.pv (enc y)),(5,.pv (.int .i64 i)),(6,.pv (.int .i64 k)),(7,.pv (.int .i64 j))] []:=by
 intro d
 induction d with
 | zero=>
  intro j o l ho a
  rw[List.drop_eq_nil_of_le (by omega)]at a
  have a:F=o:=a
  subst a
  exact f8i n ks y _ i k j b h (by omega) (g (by omega))
 | succ d ih=>
  intro j o l ho a
  have e:j<y[i].nd.sizes[k].t.length:=by omega
  rw[List.drop_eq_getElem_cons e,List.map_cons,List.foldl_cons]at a
  refine f8x n ks y o i k j b h e (by omega) ?_
  rw[next (by omega)]
  exact ih (j+1) _ (by omega) (by have:=a2n o y[i].nd.sizes[k].t[j].v;omega) a
theorem g8j{G:PV->Prop}(n:Nd)(ks:List Tm)(y:List Tm)(i E:Nat)(b:i<y.length)(hyl:y[i].nd.sizes.length<=1048576)(j : ∀ l∈y[i].nd.sizes,l.t.length<=1048576)(F:List Str)(g:F.length+E<=1048576->At Z8 0 (Za ZQ G) ZV 0 56 [(3,.pv (slP F)),(4,.pv (enc y)),(5,.pv (.int .i64 (IntKind.i64.wrap ((i:Int)+1))))] []): ∀ (d k:Nat) (o:List Str),d+k=y[i].nd.sizes.length->o.length+((y[i].nd.sizes.drop k).flatMap fun l=>l.t.map (·.v)).length+E<=1048576->F=((y[i].nd.sizes.drop k).flatMap fun l=>l.t.map (·.v)).foldl Uv o ->
  At Z8 0 (Za ZQ G) ZV 1 56 [(3,.pv (slP o)),(4,.pv (enc y)),(5,.pv (.int .i64 i)),(6,.pv (.int .i64 k))] []:=by
 intro d
 induction d with
 | zero=>
  intro k o m ho e
  rw[List.drop_eq_nil_of_le (by omega)]at e
  have e:F=o:=e
  subst e
  exact f1n n ks y _ i k b (ZU (Yx (by omega)) (g (by omega)))
 | succ d ih=>
  intro k o m ho e
  have a:k<y[i].nd.sizes.length:=by omega
  have h:=j _ (List.getElem_mem a)
  rw[List.drop_eq_getElem_cons a,List.flatMap_cons,List.foldl_append]at e
  rw[List.drop_eq_getElem_cons a,List.flatMap_cons,List.length_append,List.length_map]at ho
  refine f1n n ks y o i k b (ZT (Yt a) ?_)
  refine g7p n ks y i k (((y[i].nd.sizes.drop (k+1)).flatMap fun l=>l.t.map (·.v)).length+E) b a h _ (fun hb=> ?_) y[i].nd.sizes[k].t.length 0 o (by omega) (by omega) rfl
  rw[next (by omega)]
  exact ih (k+1) _ (by omega) (by rw[List.drop_zero]at hb ⊢;omega) (by rw[List.drop_zero];exact e)
theorem g7t(n:Nd)(ks:List Tm)(y:List Tm)(j : ∀ x∈y,tW x=true)(hyl:y.length<=1048576)(F:List Str): ∀ (d i:Nat) (o:List Str),d+i=y.length->o.length+((y.drop i).flatMap UJ).length<=1048576->F=((y.drop i).flatMap UJ).foldl Uv o ->
  At Z8 0 (Za ZQ (Zf F)) ZV 0 56 [(3,.pv (slP o)),(4,.pv (enc y)),(5,.pv (.int .i64 i))] []:=by
 intro d
 induction d with
 | zero=>
  intro i o h ho b
  rw[List.drop_eq_nil_of_le (by omega)]at b
  have b:F=o:=b
  subst b
  exact f1g n ks y _ i (ZU (Yx (by omega)) (d3t _))
 | succ d ih=>
  intro i o h ho b
  have a:i<y.length:=by omega
  have e:=j _ (List.getElem_mem a)
  have g:NdB y[i].nd 1048576:=by
   have h2:y[i] = .mk y[i].nd y[i].ks:=by cases y[i];rfl
   rw[h2]at e
   exact ndB e
  rw[List.drop_eq_getElem_cons a,List.flatMap_cons,List.foldl_append]at b
  rw[List.drop_eq_getElem_cons a,List.flatMap_cons,List.length_append]at ho
  refine f1g n ks y o i (ZT (Yt a) ?_)
  refine g8j n ks y i ((y.drop (i+1)).flatMap UJ).length a g.sizes g.lens _ (fun hb=> ?_) y[i].nd.sizes.length 0 o (by omega) (by rw[List.drop_zero];unfold UJ at ho ⊢;omega) rfl
  rw[next (by omega)]
  exact ih (i+1) _ (by omega) hb (by rw[List.drop_zero];exact b)
theorem c4v: ∀ x:Tm×Unit,tW x.1=true->Zd Z8 0 (Za ZQ (Zf (JZ x.1))) ZV [] (Zx d5p (encL x)):=by
 rintro⟨⟨n,ks⟩,⟨⟩⟩ h
 have h:tW (.mk n ks)=true:=h
 rw[<- ZP]
 show Zd Z8 0 (Za ZQ (Zf (JZ (.mk n ks)))) _ _ _
 have a:=H8 1 (.mk n ks)
 have h6:J6 (.mk n ks)<=1048576:=of_decide_eq_true h
 have h7:=Bz h
 have h8:=Be (.mk n ks)
 have h9:((Xb (.mk n ks)).flatMap UJ).length<=J6 (.mk n ks):=a
 refine e6a n ks ⟨Zc (.mk n ks,()) (ZP n ks) h,Zb (.mk n ks,()) (ZP n ks) ?_⟩
 exact g7t n ks (Xb (.mk n ks)) (fun x b=>b7r h b) (by omega) _ (Xb (.mk n ks)).length 0 [] (by omega) (by rw[List.drop_zero,List.length_nil];omega) (by rw[List.drop_zero];rfl)
theorem a3h(n:Nd)(ks:List Tm)(l:List Str)(hl:l.length<=9223372036854775806)(hs : ∀ s∈l,s.s.length<=1048576)(R:Bool): ∀ (d i:Nat),d+i=l.length->R=(l.drop i).all (fun s=>nameI s.s) ->
  At QB 0 (Za Ut (Zf R)) Qs 0 22 [(3,.pv (enc l)),(4,.pv (.int .i64 i))] []:=by
 intro d
 induction d with
 | zero=>
  intro i hi b
  rw[List.drop_eq_nil_of_le (by omega)]at b
  exact LC n ks l i (ZU (XO (by omega)) (Zl b.symm))
 | succ d ih=>
  intro i hi b
  have a:i<l.length:=by omega
  rw[List.drop_eq_getElem_cons a,List.all_cons]at b
  refine LC n ks l i (ZT (Xq a) ⟨Zq a rfl,ZB a (KH (s:=l[i].s) (hs _ (List.getElem_mem a)) (YY (fun h=>Zl ?_) fun h=> ?_))⟩)
  ·have h:nameI l[i].s=false:=h
   rw[b,h];rfl
  ·have h:nameI l[i].s=true:=h
   rw[next (by omega)]
   exact ih (i+1) (by omega) (by rw[b,h];rfl)
theorem LQ: ∀ (l m:List Str),(l.foldl Uv m).length<=m.length+l.length
 | [],m=>by simp
 | s::l,m=>by
  have h:=LQ l (Uv m s)
  have h2:=a2n m s
  rw[List.foldl_cons,List.length_cons]
  omega
theorem b1f: ∀ x:Tm×Unit,tW x.1=true->Zd QB 0 (Za Ut (Zf (YK x.1))) Qs [] (Zx c4i (encL x)):=by
 rintro⟨⟨n,ks⟩,⟨⟩⟩ h
 have h:tW (.mk n ks)=true:=h
 rw[<- ZP]
 show Zd QB 0 (Za Ut (Zf (YK (.mk n ks)))) _ _ _
 have e:YK (.mk n ks)=(Y7 (.mk n ks)&&(JZ (.mk n ks)).all fun s=>nameI s.s):=by unfold YK;rw[c3e]
 have hl:(JZ (.mk n ks)).length<=1048576:=by
  have g:=H8 1 (.mk n ks)
  have h6:J6 (.mk n ks)<=1048576:=of_decide_eq_true h
  have h9:((Xb (.mk n ks)).flatMap UJ).length<=J6 (.mk n ks):=g
  have b:=LQ ((Xb (.mk n ks)).flatMap UJ) []
  unfold JZ
  rw[List.length_nil]at b
  omega
 refine d9r n ks ⟨Zc (.mk n ks,()) (ZP n ks) h,Zb (.mk n ks,()) (ZP n ks) (YY (fun a=>Zl ?_) fun a=>⟨Zc (.mk n ks,()) (ZP n ks) h,Zb (.mk n ks,()) (ZP n ks) ?_⟩)⟩
 ·have a:Y7 (.mk n ks)=false:=a
  rw[e,a];rfl
 ·have a:Y7 (.mk n ks)=true:=a
  exact a3h n ks (JZ (.mk n ks)) (by omega) (fun s hs=>HZ h s ((AB _ _).1 hs)) _ (JZ (.mk n ks)).length 0 (by omega) (by rw[e,a,List.drop_zero,Bool.true_and])
end Go.Pl
namespace Go.Pl
open Go.RowKit
open Enc (enc dec is)
open EncL (encL decL isL)
set_option maxRecDepth 100000
abbrev d9k(N:Nat)(ps:List PV)(k:Str->Prop):Prop:=Ym (fun(x:Int×Unit)=>decide ((-1000000000:Int)<=Prod.fst x)&&decide (Prod.fst x<=1000000000)&&decide (Ac (Prod.fst x)<N)) (fun(x:Int×Unit)=>Zp (Prod.fst x)) ps k
abbrev g4g(ps:List PV)(k:Bool->Prop):Prop:=Ym (fun(x:Lin×Unit)=>XM (Prod.fst x)) (fun(x:Lin×Unit)=>Zh (Prod.fst x)) ps k
abbrev LX(ps:List PV)(k:Str->Prop):Prop:=Ym (fun(x:Int×Unit)=>decide ((-1000000000:Int)<=Prod.fst x)&&decide (Prod.fst x<=1000000000)) (fun(x:Int×Unit)=>Zp (Prod.fst x)) ps k
noncomputable def a6g:IC:=YI Proofs.Tryz.f113
def a5k:List IRes:=[(.tmp 2)]
abbrev d8w:Nat:=22
def b9i(N:Nat):ZC:=Yh [(113,.pure (preT (fun x:Int×Unit=>(decide (-1000000000<=x.1)&&decide (x.1<=1000000000))&&decide (Ac x.1<N))) (Zi (fun x:Int×Unit=>Zp x.1)))]
theorem e3z{G:PV->Prop}(N:Nat)(n:Int)(h:if (decide (n<0))=true then(d9k N [(.int .i64 (IntKind.wrap IntKind.i64 (-n)))] fun b=>(ZA [(45:UInt8)] (Str.s b)∧(G ((.str ([(45:UInt8)]++Str.s b))))))else(if (decide (n<10))=true then(decide (0<=n)&&decide (0<=IntKind.wrap IntKind.i64 (n+1))&&decide (Int.toNat n<=Int.toNat (IntKind.wrap IntKind.i64 (n+1)))&&decide (Int.toNat (IntKind.wrap IntKind.i64 (n+1))<=List.length [(48:UInt8),(49:UInt8),(50:UInt8),(51:UInt8),(52:UInt8),(53:UInt8),(54:UInt8),(55:UInt8),(56:UInt8),(57:UInt8)]))=true∧(G ((.str (List.drop (Int.toNat n) (List.take (Int.toNat (IntKind.wrap IntKind.i64 (n+1))) [(48:UInt8),(49:UInt8),(50:UInt8),(51:UInt8),(52:UInt8),(53:UInt8),(54:UInt8),(55:UInt8),(56:UInt8),(57:UInt8)])))))else((d9k N [(.int .i64 (IntKind.wrap IntKind.i64 (Int.tdiv n 10)))] fun a=>((d9k N [(.int .i64 (Int.tmod n 10))] fun e=>(ZA (Str.s a) (Str.s e)∧(G ((.str (Str.s a++Str.s e))))))))))):Zd (b9i N) 0 (Za a5k G) a6g [] (Zx 22 [enc n]):=Zd.tp (dm [dv Str] 26 0x151251201200342015100442) h
noncomputable def XC:IC:=YI Proofs.Tryz.f79
def XF:List IRes:=[(.tmp 2)]
abbrev c1n:Nat:=69
def Ws:ZC:=Yh [(112,.pure (preT (fun x:Lin×Unit=>XM x.1)) (Zi (fun x:Lin×Unit=>Zh x.1))),(113,.pure (preT (fun x:Int×Unit=>decide (-1000000000<=x.1)&&decide (x.1<=1000000000))) (Zi (fun x:Int×Unit=>Zp x.1)))]
theorem d4e{G:PV->Prop}(l:Lin)(h:(g4g [(.agg [(.int .i64 l.k),(.sl 2 false (List.map enc l.t))])] fun a=>(if (!a)=true then G ((.str []))else(At Ws 0 (Za XF G) XC 0 69 [(1,(.ptr 0 0)),(3,(.pv (.str []))),(4,(.pv (.int .i64 0)))] [(.obj (.box [(.pv (.int .i64 l.k)),(.pv (.sl 2 false (List.map enc l.t)))]))])))):Zd Ws 0 (Za XF G) XC [] (Zx 69 [enc l]):=Zd.tp (dm [dv Bool] 9 0x1451) h
theorem L6{G:PV->Prop}(l:Lin)(o:List UInt8)(i:Int)(h:if (decide (i<(↑(List.length (List.map enc l.t)):Int)))=true then(Y1 l.t i 2 fun a=>(if (decide (PV.asInt (Tu a)<0))=true then ZA o [(45:UInt8)]∧(if (decide (IntKind.wrap IntKind.i64 (-PV.asInt (Tu a))>1))=true then(LX [(.int .i64 (IntKind.wrap IntKind.i64 (-PV.asInt (Tu a))))] fun b=>(ZA (o++[(45:UInt8)]) (Str.s b)∧(ZA (o++[(45:UInt8)]++Str.s b) (PV.asStr (VD a))∧(At Ws 0 (Za XF G) XC 0 69 [(1,(.ptr 0 0)),(3,(.pv (.str (o++[(45:UInt8)]++Str.s b++PV.asStr (VD a))))),(4,(.pv (.int .i64 (IntKind.wrap IntKind.i64 (i+1)))))] [(.obj (.box [(.pv (.int .i64 l.k)),(.pv (.sl 2 false (List.map enc l.t)))]))]))))else(ZA (o++[(45:UInt8)]) (PV.asStr (VD a))∧(At Ws 0 (Za XF G) XC 0 69 [(1,(.ptr 0 0)),(3,(.pv (.str (o++[(45:UInt8)]++PV.asStr (VD a))))),(4,(.pv (.int .i64 (IntKind.wrap IntKind.i64 (i+1)))))] [(.obj (.box [(.pv (.int .i64 l.k)),(.pv (.sl 2 false (List.map enc l.t)))]))])))else(if (decide (i>0))=true then ZA o [(43:UInt8)]∧(if (decide (PV.asInt (Tu a)>1))=true then(LX [(.int .i64 (PV.asInt (Tu a)))] fun e=>(ZA (o++[(43:UInt8)]) (Str.s e)∧(ZA (o++[(43:UInt8)]++Str.s e) (PV.asStr (VD a))∧(At Ws 0 (Za XF G) XC 0 69 [(1,(.ptr 0 0)),(3,(.pv (.str (o++[(43:UInt8)]++Str.s e++PV.asStr (VD a))))),(4,(.pv (.int .i64 (IntKind.wrap IntKind.i64 (i+1)))))] [(.obj (.box [(.pv (.int .i64 l.k)),(.pv (.sl 2 false (List.map enc l.t)))]))]))))else(ZA (o++[(43:UInt8)]) (PV.asStr (VD a))∧(At Ws 0 (Za XF G) XC 0 69 [(1,(.ptr 0 0)),(3,(.pv (.str (o++[(43:UInt8)]++PV.asStr (VD a))))),(4,(.pv (.int .i64 (IntKind.wrap IntKind.i64 (i+1)))))] [(.obj (.box [(.pv (.int .i64 l.k)),(.pv (.sl 2 false (List.map enc l.t)))]))])))else(if (decide (PV.asInt (Tu a)>1))=true then(LX [(.int .i64 (PV.asInt (Tu a)))] fun g=>(ZA o (Str.s g)∧(ZA (o++Str.s g) (PV.asStr (VD a))∧(At Ws 0 (Za XF G) XC 0 69 [(1,(.ptr 0 0)),(3,(.pv (.str (o++Str.s g++PV.asStr (VD a))))),(4,(.pv (.int .i64 (IntKind.wrap IntKind.i64 (i+1)))))] [(.obj (.box [(.pv (.int .i64 l.k)),(.pv (.sl 2 false (List.map enc l.t)))]))]))))else(ZA o (PV.asStr (VD a))∧(At Ws 0 (Za XF G) XC 0 69 [(1,(.ptr 0 0)),(3,(.pv (.str (o++PV.asStr (VD a))))),(4,(.pv (.int .i64 (IntKind.wrap IntKind.i64 (i+1)))))] [(.obj (.box [(.pv (.int .i64 l.k)),(.pv (.sl 2 false (List.map enc l.t)))]))]))))))else(if ((↑(List.length (List.map enc l.t)):Int)==0)=true then(LX [(.int .i64 l.k)] fun q=>(G ((.str (Str.s q)))))else(if (decide (l.k>0))=true then ZA o [(43:UInt8)]∧(if (l.k != 0)=true then(LX [(.int .i64 l.k)] fun m=>(ZA (o++[(43:UInt8)]) (Str.s m)∧(G ((.str (o++[(43:UInt8)]++Str.s m))))))else(G ((.str (o++[(43:UInt8)])))))else(if (l.k != 0)=true then(LX [(.int .i64 l.k)] fun j=>(ZA o (Str.s j)∧(G ((.str (o++Str.s j))))))else(G ((.str o))))))):At Ws 0 (Za XF G) XC 0 69 [(1,.ptr 0 0),(3,.pv (.str o)),(4,.pv (.int .i64 i))] [.obj (.box [.pv (.int .i64 l.k),.pv (enc l.t)])]:=At.tp (dm [dr Coef,dv Str] 97 0x161004420016100442100b42061003420210211610064202102116100642100f4202102116100642100f4225103942) h
end Go.Pl
namespace Go.Pl
open Go.RowKit
open Enc (enc dec is)
open EncL (encL decL isL)
theorem H7{n:Int}(h:n.natAbs<=1000000000):(Zp n).s.length<=11:=by
 have:=TW 9 n.natAbs (by omega)
 by_cases hn:n<0
 ·rw[Vi hn,List.length_cons];omega
 ·rw[YH hn];omega
theorem e2i{m:Nat}(h:m<10):List.drop m (List.take (m+1) [(48:UInt8),(49:UInt8),(50:UInt8),(51:UInt8),(52:UInt8),(53:UInt8),(54:UInt8),(55:UInt8),(56:UInt8),(57:UInt8)])=[UInt8.ofNat (48+m)]:=by
 revert h
 revert m
 decide
theorem c4t(N:Nat): ∀ a:Int×Unit,((decide ((-1000000000:Int)<=a.1)&&decide (a.1<=1000000000))&&decide (Ac a.1<N+1))=true->Zd (b9i N) 0 (Za a5k (Zf (Zp a.1))) a6g [] (Zx d8w (encL a)):=by
 rintro⟨n,⟨⟩⟩ h
 simp only[Bool.and_eq_true,decide_eq_true_eq]at h
 obtain⟨⟨h1,h2⟩,h3⟩:=h
 unfold Ac at h3
 have e : ∀ k:Int,-1000000000<=k->k<=1000000000->Ac k<N->Go.Pl.preT (fun(x:Int×Unit)=>decide ((-1000000000:Int)<=Prod.fst x)&&decide (Prod.fst x<=1000000000)&&decide (Ac (Prod.fst x)<N)) [(.int .i64 k)]=true:=fun k a b c=>Zc (k,()) rfl (by rw[decide_eq_true a,decide_eq_true b,decide_eq_true c];rfl)
 refine e3z N n (ZO (fun hn=> ?_) fun hn=>ZO (fun i=> ?_) fun i=> ?_)
 ·rw[Vv (by omega) (by omega)]
  refine⟨e _ (by omega) (by omega) (by unfold Ac;rw[if_pos hn]at h3;rw[if_neg (by omega)];omega),Zb (-n,()) rfl ⟨?_,?_⟩⟩
  ·have:=H7 (n:= -n) (by omega)
   exact decide_eq_true (by simp only[List.length_singleton];omega)
  ·refine Zg (x:=(⟨[(45:UInt8)]++(Zp (-n)).s⟩:Str)) ?_
   show(⟨[(45:UInt8)]++(Zp (-n)).s⟩:Str)=⟨(Zp n).s⟩
   rw[YH (n:= -n) (by omega),Vi hn,Int.natAbs_neg];rfl
 ·obtain⟨m,rfl⟩ : ∃ m:Nat,n=m:=⟨n.toNat,by omega⟩
  have hm:m<10:=by omega
  rw[Vv (by omega) (by omega)]
  have g:((m:Int)+1).toNat=m+1:=by omega
  refine⟨?_,?_⟩
  ·rw[g,Int.toNat_natCast,decide_eq_true (show(0:Int)<=m by omega),decide_eq_true (show(0:Int)<=(m:Int)+1 by omega),decide_eq_true (show m<=m+1 by omega)]
   exact decide_eq_true (by simp only[List.length_cons,List.length_nil];omega)
  ·rw[g,Int.toNat_natCast,e2i hm]
   refine Zg (x:=(⟨[UInt8.ofNat (48+m)]⟩:Str)) ?_
   show(⟨[UInt8.ofNat (48+m)]⟩:Str)=⟨(Zp (m:Int)).s⟩
   rw[YH (by omega),Int.natAbs_natCast,XA hm]
 ·obtain⟨m,rfl⟩ : ∃ m:Nat,n=m:=⟨n.toNat,by omega⟩
  have g:Int.tdiv (m:Int) 10=((m / 10:Nat):Int):=by rw[Int.tdiv_eq_ediv_of_nonneg (by omega)];omega
  have q:Int.tmod (m:Int) 10=((m % 10:Nat):Int):=by rw[Int.tmod_eq_emod_of_nonneg (by omega)];omega
  rw[g,q,Vv (by omega) (by omega)]
  rw[if_neg (by omega)]at h3
  have j:Ac ((m / 10:Nat):Int)<N:=by unfold Ac;rw[if_neg (by omega)];omega
  have l:Ac ((m % 10:Nat):Int)<N:=by unfold Ac;rw[if_neg (by omega)];omega
  have l1:=H7 (n:=((m / 10:Nat):Int)) (by omega)
  have l2:=H7 (n:=((m % 10:Nat):Int)) (by omega)
  refine⟨e _ (by omega) (by omega) j,Zb (((m / 10:Nat):Int),()) rfl ⟨e _ (by omega) (by omega) l,Zb (((m % 10:Nat):Int),()) rfl ⟨decide_eq_true (by dsimp only;omega),?_⟩⟩⟩
  refine Zg (x:=(⟨(Zp ((m / 10:Nat):Int)).s++(Zp ((m % 10:Nat):Int)).s⟩:Str)) ?_
  show(⟨(Zp ((m / 10:Nat):Int)).s++(Zp ((m % 10:Nat):Int)).s⟩:Str)=⟨(Zp (m:Int)).s⟩
  rw[YH (by omega),YH (by omega),YH (by omega),Int.natAbs_natCast,Int.natAbs_natCast,Int.natAbs_natCast,BA (u:=m) (by omega),XA (u:=m % 10) (by omega)]
theorem c1v{o s:List UInt8}{n:Int}(hs:s≠[])(hn:n≠0)(h1:n.natAbs<=1000000)(h2:s.length<=30):(XT o n s).length<=o.length+40:=by
 have:=Pk (v:=s) h1 h2
 rw[TQ hs hn,List.length_append,List.length_append]
 have:(if n<0 then [45]else if o=[]then []else [43]:List UInt8).length<=1:=by split;exact Nat.le_refl _;split <;> simp
 omega
theorem a3o(l:Lin)(u:Zh l=true): ∀ (d i:Nat) (o:List UInt8),d+i=l.t.length->o=Sk (l.t.take i)->o.length<=40*i->(o=[] ↔ i=0) ->
  At Ws 0 (Za XF (Zf (⟨ZE l⟩:Str))) XC 0 69 [(1,.ptr 0 0),(3,.pv (.str o)),(4,.pv (.int .i64 i))] [.obj (.box [.pv (.int .i64 l.k),.pv (enc l.t)])]:=by
 have hk:=Ox u
 have hlen:=Uj u
 intro d
 induction d with
 | zero=>
  intro i o hi ho J C
  have hi:i=l.t.length:=by omega
  rw[List.take_of_length_le (by omega)]at ho
  have b : ∀ k:Int,k=l.k->Go.Pl.preT (fun(x:Int×Unit)=>decide ((-1000000000:Int)<=Prod.fst x)&&decide (Prod.fst x<=1000000000)) [(.int .i64 k)]=true:=fun k e=>Zc (k,()) rfl (by rw[decide_eq_true (show(-1000000000:Int)<=k by omega),decide_eq_true (show k<=1000000000 by omega)];rfl)
  have q:=H7 (n:=l.k) (by omega)
  have B:ZE l=if decide (l.k≠0)||decide (o=[])then XT o l.k []else o:=by
   unfold ZE
   rw[if_pos u,<- ho]
  refine L6 l o i (ZU (XO (by omega)) (DW (fun z=> ?_) fun z=> ?_))
  ·have z:i=0:=by
    simp only[List.length_map,beq_iff_eq]at z
    omega
   have a:=C.2 z
   refine⟨b _ rfl,Zb (l.k,()) rfl (Zg (x:=Zp l.k) ?_)⟩
   show(⟨(Zp l.k).s⟩:Str)=⟨ZE l⟩
   rw[B,decide_eq_true a,Bool.or_true,if_pos rfl,a]
   congr 1
   unfold XT
   rw[decide_eq_false (show ¬ ([]:List UInt8)≠[] by simp),Bool.and_false,Bool.false_and,if_neg (by simp),if_neg (by simp)]
   simp
  ·have r:i≠0:=by
    simp only[List.length_map,beq_iff_eq]at z
    omega
   have a:o≠[]:=fun e=>r (C.1 e)
   rw[decide_eq_false a,Bool.or_false]at B
   have hlo:o.length<=40*12:=by omega
   refine ZO (fun H=>⟨decide_eq_true (by simp only[List.length_singleton];omega),DW (fun hn=> ?_) fun hn=> ?_⟩) fun H=>DW (fun hn=> ?_) fun hn=> ?_
   ·refine⟨b _ rfl,Zb (l.k,()) rfl ⟨decide_eq_true (by simp only[List.length_append,List.length_singleton];omega),?_⟩⟩
    refine Zg (x:=(⟨o++[(43:UInt8)]++(Zp l.k).s⟩:Str)) ?_
    rw[B,decide_eq_true (by omega),if_pos rfl,OA,if_neg (by omega),if_neg a,YH (by omega)]
    unfold WB
    rw[if_pos rfl];simp
   ·have hz0:l.k=0:=by simpa using hn
    exact absurd H (by omega)
   ·have hn:l.k≠0:=by simpa using hn
    refine⟨b _ rfl,Zb (l.k,()) rfl ⟨decide_eq_true (by dsimp only;omega),?_⟩⟩
    refine Zg (x:=(⟨o++(Zp l.k).s⟩:Str)) ?_
    rw[B,decide_eq_true hn,if_pos rfl,OA,if_pos (by omega),Vi (by omega)]
    unfold WB
    rw[if_pos rfl];simp
   ·have hn:l.k=0:=by simpa using hn
    refine Zg (x:=(⟨o⟩:Str)) ?_
    rw[B,decide_eq_false (by simpa using hn),if_neg (by simp)]
 | succ d ih=>
  intro i o hi ho J C
  have m:i<l.t.length:=by omega
  have hm:=List.getElem_mem m
  obtain⟨E,F,v3,v4⟩:=WK u hm
  have hs:=(a0u u _ hm).2
  have y:l.t[i].v.s.length<=30:=Vh E
  have hpl:=c1v (o:=o) hs F (by omega) y
  have g:=TQ (o:=o) hs F
  have j : ∀ o',o'=XT o l.t[i].c l.t[i].v.s->At Ws 0 (Za XF (Zf (⟨ZE l⟩:Str))) XC 0 69 [(1,.ptr 0 0),(3,.pv (.str o')),(4,.pv (.int .i64 (IntKind.i64.wrap ((i:Int)+1))))] [.obj (.box [.pv (.int .i64 l.k),.pv (enc l.t)])]:=by
   intro o' e
   rw[next (by omega)]
   refine ih (i+1) o' (by omega) ?_ (by rw[e];omega) ⟨fun h=> ?_,fun h=>by omega⟩
   ·rw[e,ho,List.take_succ_eq_append_getElem m]
    unfold Sk
    rw[List.foldl_append];rfl
   ·rw[e,g]at h
    exact absurd (List.append_eq_nil_iff.1 (List.append_eq_nil_iff.1 h).2).2 (FT (.inr E))
  have hcn:=Pk (v:=l.t[i].v.s) (n:=l.t[i].c.natAbs) (by omega) y
  have b : ∀ k:Int,k.natAbs<=1000000->Go.Pl.preT (fun(x:Int×Unit)=>decide ((-1000000000:Int)<=Prod.fst x)&&decide (Prod.fst x<=1000000000)) [(.int .i64 k)]=true:=fun k e=>Zc (k,()) rfl (by rw[decide_eq_true (show(-1000000000:Int)<=k by omega),decide_eq_true (show k<=1000000000 by omega)];rfl)
  have q : ∀ k:Int,k.natAbs<=1000000->(Zp k).s.length<=11:=fun k e=>H7 (by omega)
  refine L6 l o i (ZT (Xq m) ⟨Zq m rfl,ZB m ?_⟩)
  refine ZO (fun hn=> ?_) fun hn=> ?_
  ·have hn:l.t[i].c<0:=hn
   have D:IntKind.i64.wrap (-l.t[i].c) = -l.t[i].c:=Vv (by omega) (by omega)
   refine⟨decide_eq_true (by simp only[List.length_singleton];omega),?_⟩
   show if decide (IntKind.i64.wrap (-l.t[i].c)>1)=true then _ else _
   refine ZO (fun h1=> ?_) fun h1=> ?_
   ·rw[D]at h1
    show Go.Pl.preT _ [(.int .i64 (IntKind.i64.wrap (-l.t[i].c)))]=true∧(∃ I:Str,AV.pv (Zi _ [(.int .i64 (IntKind.i64.wrap (-l.t[i].c)))])=AV.pv (enc I)∧_)
    rw[D]
    have A:=q (-l.t[i].c) (by omega)
    refine⟨b _ (by omega),Zb (-l.t[i].c,()) rfl ⟨decide_eq_true (by simp only[List.length_append,List.length_singleton];omega),decide_eq_true ?_,j _ ?_⟩⟩
    ·show(o++[(45:UInt8)]++(Zp (-l.t[i].c)).s).length+l.t[i].v.s.length<=_
     simp only[List.length_append,List.length_singleton];omega
    ·show o++[(45:UInt8)]++(Zp (-l.t[i].c)).s++l.t[i].v.s=_
     rw[g,if_pos hn,YH (by omega),Int.natAbs_neg]
     unfold WB
     rw[if_neg hs,if_pos (by omega)];simp
   ·rw[D]at h1
    refine⟨decide_eq_true ?_,j _ ?_⟩
    ·show(o++[(45:UInt8)]).length+l.t[i].v.s.length<=_
     simp only[List.length_append,List.length_singleton];omega
    ·show o++[(45:UInt8)]++l.t[i].v.s=_
     rw[g,if_pos hn]
     unfold WB
     rw[if_neg hs,if_neg (by omega)];simp
  ·have hn : ¬ l.t[i].c<0:=hn
   refine ZO (fun r=>⟨decide_eq_true (by simp only[List.length_singleton];omega),?_⟩) fun r=> ?_
   ·have a:o≠[]:=fun e=>by have:=C.1 e;omega
    show if decide (l.t[i].c>1)=true then _ else _
    refine ZO (fun h1=> ?_) fun h1=> ?_
    ·have A:=q l.t[i].c (by omega)
     refine⟨b l.t[i].c (by omega),Zb (l.t[i].c,()) rfl ⟨decide_eq_true (by simp only[List.length_append,List.length_singleton];omega),decide_eq_true ?_,j _ ?_⟩⟩
     ·show(o++[(43:UInt8)]++(Zp l.t[i].c).s).length+l.t[i].v.s.length<=_
      simp only[List.length_append,List.length_singleton];omega
     ·show o++[(43:UInt8)]++(Zp l.t[i].c).s++l.t[i].v.s=_
      rw[g,if_neg hn,if_neg a,YH (by omega)]
      unfold WB
      rw[if_neg hs,if_pos (by omega)];simp
    ·refine⟨decide_eq_true ?_,j _ ?_⟩
     ·show(o++[(43:UInt8)]).length+l.t[i].v.s.length<=_
      simp only[List.length_append,List.length_singleton];omega
     ·show o++[(43:UInt8)]++l.t[i].v.s=_
      rw[g,if_neg hn,if_neg a]
      unfold WB
      rw[if_neg hs,if_neg (by omega)];simp
   ·have a:o=[]:=C.2 (by omega)
    show if decide (l.t[i].c>1)=true then _ else _
    refine ZO (fun h1=> ?_) fun h1=> ?_
    ·have A:=q l.t[i].c (by omega)
     refine⟨b l.t[i].c (by omega),Zb (l.t[i].c,()) rfl ⟨decide_eq_true (by dsimp only;omega),decide_eq_true ?_,j _ ?_⟩⟩
     ·show(o++(Zp l.t[i].c).s).length+l.t[i].v.s.length<=_
      simp only[List.length_append];omega
     ·show o++(Zp l.t[i].c).s++l.t[i].v.s=_
      rw[g,if_neg hn,if_pos a,YH (by omega)]
      unfold WB
      rw[if_neg hs,if_pos (by omega)];simp
    ·refine⟨decide_eq_true ?_,j _ ?_⟩
     ·show o.length+l.t[i].v.s.length<=_
      omega
     ·show o++l.t[i].v.s=_
      rw[g,if_neg hn,if_pos a]
      unfold WB
      rw[if_neg hs,if_neg (by omega)];simp
theorem b2b: ∀ x:Lin×Unit,Wi x.1=true->Zd Ws 0 (Za XF (Zf (⟨ZE x.1⟩:Str))) XC [] (Zx c1n (encL x)):=by
 rintro⟨l,⟨⟩⟩ h
 have b:XM l=true:=by
  unfold Wi at h
  rw[Bool.and_eq_true]at h;exact h.1
 refine d4e l ⟨Zc (l,()) rfl b,Zb (l,()) rfl (YY (fun a=> ?_) fun a=> ?_)⟩
 ·refine Zg (x:=(⟨[]⟩:Str)) ?_
  have a:Zh l=false:=a
  show(⟨[]⟩:Str)=⟨ZE l⟩
  unfold ZE
  rw[if_neg (by simp[a])]
 ·exact a3o l a l.t.length 0 [] rfl rfl (by simp) (by simp)
end Go.Pl
namespace Go.Pl
open Go.RowKit
open Enc (enc dec is)
def a4e(t:TyS):List AV:=[.pv (.str t.elem.s),.pv (.str t.row.s),.pv (.sl 2 false (t.dims.map enc))]
def FN(d:Df):List AV:=[.pv (.str d.name.s),.pv (.int .i64 d.line),.pv (.sl 5 false (d.ps.map enc)),.pv (.bool d.given),.pv (.str d.res.elem.s),.pv (.str d.res.row.s),.pv (.sl 2 false (d.res.dims.map enc)),.pv (.int .i64 d.n.kind),.pv (.int .i64 d.n.line),.pv (.str d.n.name.s),.pv (.int .i64 d.n.num),.pv (.str d.n.elem.s),.pv (.sl 1 false (d.n.dims.map enc)),.pv (.sl 1 false (d.n.data.map enc)),.pv (.sl 2 false (d.n.sizes.map enc)),.pv (.sl 1 false (d.n.ranks.map enc)),.pv (.sl 10 false (d.ks.map enc))]
def Dc(m:Mdu):List AV:=[.pv (.str m.name.s),.pv (.sl 1 false (m.im.map enc)),.pv (.sl 1 false (m.ex.map enc)),.pv (.sl 17 false (m.ds.map enc))]
def bdA(n:Nd)(ks:List Tm)(m:Int):List PV:=[.agg [.int .i64 n.kind,.int .i64 n.line,.str n.name.s,.int .i64 n.num,.str n.elem.s,.sl 1 false (n.dims.map enc),.sl 1 false (n.data.map enc),.sl 2 false (n.sizes.map enc),.sl 1 false (n.ranks.map enc),.sl 10 false (ks.map enc)],.int .i64 m]
theorem d0b(d:Df)(m:Int):bdA d.n d.ks m=EncL.encL (d.body,m,()):=by
 show _=[enc (Tm.mk d.n d.ks),enc m]
 rw[Yl]
 rfl
end Go.Pl
namespace Go.Pl
open Go.RowKit
open Enc (enc dec is)
open EncL (encL decL isL)
set_option maxRecDepth 100000
abbrev g4r(ps:List PV)(k:Bool->Prop):Prop:=Ym (fun(x:Str×Unit)=>decide (List.length (Str.s (Prod.fst x))<=1048576)) (fun(x:Str×Unit)=>evB (Str.s (Prod.fst x))) ps k
abbrev g6t(ps:List PV)(k:Bool->Prop):Prop:=Ym (fun(x:Lin×Unit)=>XM (Prod.fst x)) (fun(x:Lin×Unit)=>Zh (Prod.fst x)) ps k
abbrev g6i(ps:List PV)(k:Bool->Prop):Prop:=ceP (fun(x:Str×Unit)=>nameB (Prod.fst x)) ps k
abbrev f2q(ps:List PV)(k:Bool->Prop):Prop:=Ym (fun(x:Sp×Unit)=>Nw (Prod.fst x)) (fun(x:Sp×Unit)=>KU (Sp.row (Prod.fst x)) (Sp.dims (Prod.fst x))) ps k
abbrev f3d(ps:List PV)(k:Str->Prop):Prop:=Ym (fun(x:Lin×Unit)=>Wi (Prod.fst x)) (fun(x:Lin×Unit)=>Str.mk (ZE (Prod.fst x))) ps k
abbrev g5p(ps:List PV)(k:Bool->Prop):Prop:=Ym (fun(x:Str×Unit)=>decide (List.length (Str.s (Prod.fst x))<=1048576)) (fun(x:Str×Unit)=>Mw (Str.s (Prod.fst x))) ps k
abbrev f2j(ps:List PV)(k:Bool->Prop):Prop:=Ym (fun(x:TyS×Unit)=>yW (Prod.fst x)) (fun(x:TyS×Unit)=>Q5 (Prod.fst x)) ps k
abbrev g2e(ps:List PV)(k:Str×Int->Prop):Prop:=Ym (fun(x:Sp×Unit)=>Nw (Prod.fst x)) (fun(x:Sp×Unit)=>Nu (Sp.row (Prod.fst x)) (Sp.dims (Prod.fst x))) ps k
abbrev PR(ps:List PV)(k:Bool->Prop):Prop:=Ym (fun(x:Str×Unit)=>decide (List.length (Str.s (Prod.fst x))<=1048576)) (fun(x:Str×Unit)=>nameI (Str.s (Prod.fst x))) ps k
abbrev g3f(ps:List PV)(k:Bool->Prop):Prop:=Ym (fun(x:TyS×Unit)=>yW (Prod.fst x)) (fun(x:TyS×Unit)=>Y8 (Prod.fst x)) ps k
abbrev c9z(ps:List PV)(k:Bool->Prop):Prop:=Ym (fun(x:Bool×TyS×Unit)=>yW (Prod.fst (Prod.snd x))) (fun(x:Bool×TyS×Unit)=>Yy (Prod.fst x) (Prod.fst (Prod.snd x))) ps k
abbrev f5e(ps:List PV)(k:Bool->Prop):Prop:=Ym (fun(x:Tm×Unit)=>tW (Prod.fst x)) (fun(x:Tm×Unit)=>YK (Prod.fst x)) ps k
abbrev g0q(ps:List PV)(k:Str×Int->Prop):Prop:=Ym (fun(x:TyS×Unit)=>yW (Prod.fst x)) (fun(x:TyS×Unit)=>Jc (Prod.fst x)) ps k
abbrev a9l(ps:List PV)(k:Str->Prop):Prop:=Ym (fun(x:TyS×Unit)=>yW (Prod.fst x)) (fun(x:TyS×Unit)=>Prod.fst (Jc (Prod.fst x))) ps k
abbrev d6t(ps:List PV)(k:Str->Prop):Prop:=Ym (fun(x:Tm×Unit)=>tW (Prod.fst x)&&Z9 (Prod.fst x)) (fun(x:Tm×Unit)=>Zt (Prod.fst x)) ps k
abbrev c7t(ps:List PV)(k:Bool->Prop):Prop:=Ym (fun(x:Df×Unit)=>dW (Prod.fst x)) (fun(x:Df×Unit)=>ZK (Prod.fst x)) ps k
abbrev d1y(ps:List PV)(k:Str->Prop):Prop:=Ym (fun(x:Df×Unit)=>dW (Prod.fst x)&&ZK (Prod.fst x)) (fun(x:Df×Unit)=>UQ (Prod.fst x)) ps k
abbrev c9v(ps:List PV)(k:Bool->Prop):Prop:=Ym (fun(x:List Str×Unit)=>Xh (Prod.fst x)) (fun(x:List Str×Unit)=>List.all (Prod.fst x) fun(s:Str)=>nameI (Str.s s)) ps k
abbrev e2e(ps:List PV)(k:Str->Prop):Prop:=Ym (fun(x:Str×List Str×Unit)=>decide (List.length (Str.s (Prod.fst x))<=30)&&decide (Str.s (Prod.fst x)≠[])&&decide (List.length (Prod.fst (Prod.snd x))<=60)&&List.all (Prod.fst (Prod.snd x)) fun(s:Str)=>nameI (Str.s s)) (fun(x:Str×List Str×Unit)=>Str.mk (Qo (Kn (Str.s (Prod.fst x)) (Prod.fst (Prod.snd x))))) ps k
abbrev f4p(ps:List PV)(k:Bool->Prop):Prop:=Ym (fun(x:Tm×Int×Unit)=>tW (Prod.fst x)) (fun(x:Tm×Int×Unit)=>KI (Prod.fst x) (Prod.fst (Prod.snd x))) ps k
abbrev f6g(ps:List PV)(k:Bool->Prop):Prop:=Ym (fun(x:Mdu×Unit)=>mW (Prod.fst x)) (fun(x:Mdu×Unit)=>La (Prod.fst x)) ps k
abbrev e0v(ps:List PV)(k:Str×Int->Prop):Prop:=Ym (fun(x:Mdu×Unit)=>mW (Prod.fst x)) (fun(x:Mdu×Unit)=>JL (Prod.fst x)) ps k
abbrev d9u(ps:List PV)(k:Str×Int->Prop):Prop:=Ym (fun(x:Df×Unit)=>dW (Prod.fst x)) (fun(x:Df×Unit)=>DC (Prod.fst x)) ps k
noncomputable def QG:IC:=YI Proofs.Tryz.f161
def QO:List IRes:=[(.tmp 2)]
abbrev d2y:Nat:=38
def JV:ZC:=Yh []
theorem b6c{G:PV->Prop}(s:List UInt8)(h:At JV 0 (Za QO G) QG 0 38 [(0,(.pv (.str s))),(3,(.pv (.int .i64 1)))] []):Zd JV 0 (Za QO G) QG [] (Zx 38 [.str s]):=Zd.tp (.nil) h
theorem Rs{G:PV->Prop}(s:List UInt8)(i:Int)(h:if (decide (i<(↑(List.length s):Int)))=true then(decide (0<=i)&&decide (Int.toNat i<List.length s))=true∧(if (decide ((↑(UInt8.toNat (List.getD s (Int.toNat i) (0:UInt8))):Int)<48))=true then G ((.bool false))else((decide (0<=i)&&decide (Int.toNat i<List.length s))=true∧(if (decide ((↑(UInt8.toNat (List.getD s (Int.toNat i) (0:UInt8))):Int)>57))=true then G ((.bool false))else(At JV 0 (Za QO G) QG 0 38 [(0,(.pv (.str s))),(3,(.pv (.int .i64 (IntKind.wrap IntKind.i64 (i+1)))))] []))))else(if (decide ((↑(List.length s):Int) ≥ 1))=true then if (decide ((↑(List.length s):Int)<=30))=true then(decide (0<=0)&&decide (Int.toNat 0<List.length s))=true∧(if (decide ((↑(UInt8.toNat (List.getD s (Int.toNat 0) (0:UInt8))):Int) ≥ 65))=true then(decide (0<=0)&&decide (Int.toNat 0<List.length s))=true∧(G ((.bool (decide ((↑(UInt8.toNat (List.getD s (Int.toNat 0) (0:UInt8))):Int)<=90)))))else(G ((.bool false))))else(G ((.bool false)))else(G ((.bool false))))):At JV 0 (Za QO G) QG 0 38 [(0,.pv (.str s)),(3,.pv (.int .i64 i))] []:=At.tp (dm [] 83 0x222222222220222222202220222120064222120134222202342020001422212202222200642101942) h
noncomputable def a6n:IC:=YI Proofs.Tryz.f137
def a2v:List IRes:=[(.tmp 2)]
abbrev d8l:Nat:=13
def b8a:ZC:=Yh [(161,.pure (preT (fun x:Str×Unit=>decide (x.1.s.length<=1048576))) (Zi (fun x:Str×Unit=>evB x.1.s)))]
theorem e5o{G:PV->Prop}(s:List UInt8)(h:if (s==[(105:UInt8),(110:UInt8),(116:UInt8)])=true then G ((.bool true))else(if (s==[(98:UInt8),(111:UInt8),(111:UInt8),(108:UInt8)])=true then G ((.bool true))else((g4r [(.str s)] fun a=>(G ((.bool a))))))):Zd b8a 0 (Za a2v G) a6n [] (Zx 13 [.str s]):=Zd.tp (dm [dv Bool] 27 0x2512022003422202222200642) h
noncomputable def KC:IC:=YI Proofs.Tryz.f138
def KP:List IRes:=[(.tmp 2)]
abbrev e1y:Nat:=32
def Gp:ZC:=Yh [(112,.pure (preT (fun x:Lin×Unit=>XM x.1)) (Zi (fun x:Lin×Unit=>Zh x.1))),(141,.pure (preT (fun _:Str×Unit=>true)) (Zi (fun x:Str×Unit=>nameB x.1)))]
theorem e4v{G:PV->Prop}(r:Str)(l:List Lin)(h:At Gp 0 (Za KP G) KC 0 32 [(1,(.ptr 0 0)),(3,(.pv (.int .i64 0)))] [(.obj (.box [(.pv (.str (Str.s r))),(.pv (.sl 2 false (List.map enc l)))]))]):Zd Gp 0 (Za KP G) KC [] (Zx 32 [.agg [enc r,enc l]]):=Zd.tp (.nil) h
theorem a1f{G:PV->Prop}(r:Str)(l:List Lin)(i:Int)(h:if (Cn l i)=true then(Y1 l i 2 fun b=>((g6t [(enc b)] fun a=>(if (!a)=true then G ((.bool false))else(At Gp 0 (Za KP G) KC 0 32 [(1,(.ptr 0 0)),(3,(.pv (.int .i64 (IntKind.wrap IntKind.i64 (i+1)))))] [(.obj (.box [(.pv (.str (Str.s r))),(.pv (.sl 2 false (List.map enc l)))]))])))))else(if (decide ((↑(List.length (List.map enc l)):Int)<=6))=true then if (Str.s r==[])=true then G ((.bool true))else(g6i [(.str (Str.s r))] fun e=>(G ((.bool e))))else(G ((.bool false))))):At Gp 0 (Za KP G) KC 0 32 [(1,.ptr 0 0),(3,.pv (.int .i64 i))] [.obj (.box [.pv (enc r),.pv (enc l)])]:=At.tp (dm [dr Lin,dv Bool] 51 0x2222202226222022222006422220164202000146125100c42) h
noncomputable def UI:IC:=YI Proofs.Tryz.f108
def V7:List IRes:=[(.tmp 2),(.tmp 3)]
abbrev d0k:Nat:=37
def Qc:ZC:=Yh [(138,.pure (preT (fun x:Sp×Unit=>Nw x.1)) (Zi (fun x:Sp×Unit=>KU x.1.row x.1.dims))),(79,.pure (preT (fun x:Lin×Unit=>Wi x.1)) (Zi (fun x:Lin×Unit=>(⟨ZE x.1⟩:Str))))]
theorem f0p{G:PV->Prop}(r:Str)(l:List Lin)(h:(f2q [(enc (Sp.mk r l))] fun a=>(if (!a)=true then G ((.tup [(.str []),(.int .i64 1)]))else(if (!Str.s r==[])=true then ZA (Str.s r) [(46:UInt8),(46:UInt8)]∧(At Qc 0 (Za V7 G) UI 0 37 [(1,(.ptr 0 0)),(4,(.pv (.str (Str.s r++[(46:UInt8),(46:UInt8)])))),(5,(.pv (.int .i64 0)))] [(.obj (.box [(.pv (.str (Str.s r))),(.pv (.sl 2 false (List.map enc l)))]))])else(At Qc 0 (Za V7 G) UI 0 37 [(1,(.ptr 0 0)),(4,(.pv (.str []))),(5,(.pv (.int .i64 0)))] [(.obj (.box [(.pv (.str (Str.s r))),(.pv (.sl 2 false (List.map enc l)))]))]))))):Zd Qc 0 (Za V7 G) UI [] (Zx 37 [.agg [enc r,enc l]]):=Zd.tp (dm [dv Bool] 16 0x1002420001451) h
theorem a7a{G:PV->Prop}(r:Str)(l:List Lin)(o:List UInt8)(i:Int)(h:if (Cn l i)=true then if (!o==[])=true then ZA o [(44:UInt8),(32:UInt8)]∧((Y1 l i 2 fun g=>((f3d [(enc g)] fun a=>(ZA (o++[(44:UInt8),(32:UInt8)]) (Str.s a)∧(At Qc 0 (Za V7 G) UI 0 37 [(1,(.ptr 0 0)),(4,(.pv (.str (o++[(44:UInt8),(32:UInt8)]++Str.s a)))),(5,(.pv (.int .i64 (IntKind.wrap IntKind.i64 (i+1)))))] [(.obj (.box [(.pv (.str (Str.s r))),(.pv (.sl 2 false (List.map enc l)))]))]))))))else((Y1 l i 2 fun e=>((f3d [(enc e)] fun b=>(ZA o (Str.s b)∧(At Qc 0 (Za V7 G) UI 0 37 [(1,(.ptr 0 0)),(4,(.pv (.str (o++Str.s b)))),(5,(.pv (.int .i64 (IntKind.wrap IntKind.i64 (i+1)))))] [(.obj (.box [(.pv (.str (Str.s r))),(.pv (.sl 2 false (List.map enc l)))]))]))))))else(ZA [(91:UInt8)] o∧(ZA ([(91:UInt8)]++o) [(93:UInt8)]∧(G ((.tup [(.str ([(91:UInt8)]++o++[(93:UInt8)])),(.int .i64 0)])))))):At Qc 0 (Za V7 G) UI 0 37 [(1,.ptr 0 0),(4,.pv (.str o)),(5,.pv (.int .i64 i))] [.obj (.box [.pv (enc r),.pv (enc l)])]:=At.tp (dm [dr Lin,dv Str] 31 0x11021612510216125110094201642) h
noncomputable def a3s:IC:=YI Proofs.Tryz.f105
def a3u:List IRes:=[(.tmp 2)]
abbrev d5o:Nat:=11
def b9f:ZC:=Yh [(137,.pure (preT (fun x:Str×Unit=>decide (x.1.s.length<=1048576))) (Zi (fun x:Str×Unit=>Mw x.1.s))),(138,.pure (preT (fun x:Sp×Unit=>Nw x.1)) (Zi (fun x:Sp×Unit=>KU x.1.row x.1.dims)))]
theorem e9t{G:PV->Prop}(t:TyS)(h:(g5p [(.str (Str.s (TyS.elem t)))] fun b=>(if (b)=true then(f2q [(enc (Sp.mk (TyS.row t) (TyS.dims t)))] fun a=>(G ((.bool a))))else(G ((.bool false)))))):Zd b9f 0 (Za a3u G) a3s [] (Zx 11 [.agg [enc t.elem,enc t.row,enc t.dims]]):=Zd.tp (dm [dv Bool] 17 0x222025122006451) h
noncomputable def a5y:IC:=YI Proofs.Tryz.f72
def Ro:List IRes:=[(.tmp 2),(.tmp 3)]
abbrev d4w:Nat:=21
def Oe:ZC:=Yh [(105,.pure (preT (fun x:TyS×Unit=>yW x.1)) (Zi (fun x:TyS×Unit=>Q5 x.1))),(108,.pure (preT (fun x:Sp×Unit=>Nw x.1)) (Zi (fun x:Sp×Unit=>Nu x.1.row x.1.dims)))]
theorem e5b{G:PV->Prop}(t:TyS)(h:(f2j [(enc t)] fun b=>(if (!b)=true then G ((.tup [(.str []),(.int .i64 1)]))else((g2e [(enc (Sp.mk (TyS.row t) (TyS.dims t)))] fun a=>(if (Str.s a.1==[(91:UInt8),(93:UInt8)])=true then ZA ([]:List UInt8) (Str.s (TyS.elem t))∧(G ((.tup [(.str (([]:List UInt8)++Str.s (TyS.elem t))),(.int .i64 0)])))else(ZA (Str.s a.1) (Str.s (TyS.elem t))∧(G ((.tup [(.str (Str.s a.1++Str.s (TyS.elem t))),(.int .i64 0)])))))))))):Zd Oe 0 (Za Ro G) a5y [] (Zx 21 [.agg [enc t.elem,enc t.row,enc t.dims]]):=Zd.tp (dm [dv Bool,dv (Str×Int)] 19 0x10100242610001451) h
noncomputable def XB:IC:=YI Proofs.Tryz.f69
def Xj:List IRes:=[(.tmp 2)]
abbrev c3g:Nat:=64
def XU:ZC:=Yh [(105,.pure (preT (fun x:TyS×Unit=>yW x.1)) (Zi (fun x:TyS×Unit=>Q5 x.1))),(20,.pure (preT (fun x:Str×Unit=>decide (x.1.s.length<=1048576))) (Zi (fun x:Str×Unit=>nameI x.1.s)))]
abbrev EJ(a:PV->Prop)(XY:TyS):Prop:=(At XU 0 (Za Xj a) XB 0 64 [(1,(.ptr 0 0)),(3,(.pv (.int .i64 0)))] [(.obj (.box (a4e XY)))])
theorem d2o{G:PV->Prop}(t:TyS)(h:(f2j [(enc t)] fun b=>(if (!b)=true then G ((.bool false))else(if (!Str.s (TyS.elem t)==[(105:UInt8),(110:UInt8),(116:UInt8)])=true then if (!Str.s (TyS.elem t)==[(98:UInt8),(111:UInt8),(111:UInt8),(108:UInt8)])=true then G ((.bool false))else(if (!Str.s (TyS.row t)==[])=true then(PR [(.str (Str.s (TyS.row t)))] fun a=>(if (!a)=true then G ((.bool false))else(EJ G t)))else(EJ G t))else(if (!Str.s (TyS.row t)==[])=true then(PR [(.str (Str.s (TyS.row t)))] fun e=>(if (!e)=true then G ((.bool false))else(EJ G t)))else(EJ G t)))))):Zd XU 0 (Za Xj G) XB [] (Zx 64 [.agg [enc t.elem,enc t.row,enc t.dims]]):=Zd.tp (dm [dv Bool] 119 0x2222222200001422225122200f42222222222202222222200001422225122200f422222022222220084222222033422220222222222222200e451) h
theorem Ld{G:PV->Prop}(t:TyS)(i k:Int)(h:(Y1 (TyS.dims t) i 2 fun b=>(if (decide (k<(↑(List.length (PV.asXs (List.getD (List.drop 1 (PV.cells (enc b))) 0 default))):Int)))=true then(Y1 (TyS.dims t) i 2 fun a=>((decide (0<=k)&&decide (Int.toNat k<List.length (PV.asXs (List.getD (List.drop 1 (PV.cells (enc a))) 0 default)))&&2==2)=true∧((decide (0+List.length [Sh.str]<=List.length (List.drop 0 (PV.cells (List.getD (PV.asXs (List.getD (List.drop 1 (PV.cells (enc a))) 0 default)) (Int.toNat k) default))))&&Yj (List.drop 0 (PV.cells (List.getD (PV.asXs (List.getD (List.drop 1 (PV.cells (enc a))) 0 default)) (Int.toNat k) default))) 0 [Sh.str])=true∧((PR [(.str (PV.asStr (List.getD (List.drop 0 (PV.cells (List.getD (PV.asXs (List.getD (List.drop 1 (PV.cells (enc a))) 0 default)) (Int.toNat k) default))) 0 default)))] fun e=>(if (!e)=true then G ((.bool false))else(At XU 0 (Za Xj G) XB 1 64 [(1,(.ptr 0 0)),(3,(.pv (.int .i64 i))),(4,(.pv (.int .i64 (IntKind.wrap IntKind.i64 (k+1)))))] [(.obj (.box (a4e t)))])))))))else(At XU 0 (Za Xj G) XB 0 64 [(1,(.ptr 0 0)),(3,(.pv (.int .i64 (IntKind.wrap IntKind.i64 (i+1)))))] [(.obj (.box (a4e t)))])))):At XU 0 (Za Xj G) XB 1 64 [(1,.ptr 0 0),(3,.pv (.int .i64 i)),(4,.pv (.int .i64 k))] [.obj (.box [.pv (enc t.elem),.pv (enc t.row),.pv (enc t.dims)])]:=At.tp (dm [dr Lin,dv Bool] 26 0x202000146113125100f42251) h
theorem Fp{G:PV->Prop}(t:TyS)(i:Int)(h:if (Cn (TyS.dims t) i)=true then At XU 0 (Za Xj G) XB 1 64 [(1,(.ptr 0 0)),(3,(.pv (.int .i64 i))),(4,(.pv (.int .i64 0)))] [(.obj (.box (a4e t)))]else(G ((.bool true)))):At XU 0 (Za Xj G) XB 0 64 [(1,.ptr 0 0),(3,.pv (.int .i64 i))] [.obj (.box [.pv (enc t.elem),.pv (enc t.row),.pv (enc t.dims)])]:=At.tp (dm [] 8 0x142) h
noncomputable def Lb:IC:=YI Proofs.Tryz.f43
def LP:List IRes:=[(.tmp 4)]
abbrev b9n:Nat:=24
def a3j:ZC:=Yh [(69,.pure (preT (fun x:TyS×Unit=>yW x.1)) (Zi (fun x:TyS×Unit=>Y8 x.1)))]
theorem d2g{G:PV->Prop}(b:Bool)(t:TyS)(h:if (b)=true then(g3f [(enc t)] fun a=>(G ((.bool a))))else(if (Str.s (TyS.elem t)==[])=true then if (Str.s (TyS.row t)==[])=true then G ((.bool ((↑(List.length (List.map enc (TyS.dims t))):Int)==0)))else(G ((.bool false)))else(G ((.bool false))))):Zd a3j 0 (Za LP G) Lb [] (Zx 24 [.bool b,.agg [enc t.elem,enc t.row,enc t.dims]]):=Zd.tp (dm [dv Bool] 46 0x22222222220222220222222007422222016420510034) h
noncomputable def KR:IC:=YI Proofs.Tryz.f23
def KG:List IRes:=[(.tmp 2)]
abbrev d0v:Nat:=56
def GL:ZC:=Yh [(20,.pure (preT (fun x:Str×Unit=>decide (x.1.s.length<=1048576))) (Zi (fun x:Str×Unit=>nameI x.1.s))),(43,.pure (preT (fun x:Bool×TyS×Unit=>yW x.2.1)) (Zi (fun x:Bool×TyS×Unit=>Yy x.1 x.2.1))),(44,.pure (preT (fun x:Tm×Unit=>tW x.1)) (Zi (fun x:Tm×Unit=>YK x.1)))]
theorem e7z{G:PV->Prop}(d:Df)(h:At GL 0 (Za KG G) KR 0 56 [(1,(.ptr 0 0)),(3,(.pv (.int .i64 0)))] [(.obj (.box (FN d)))]):Zd GL 0 (Za KG G) KR [] (Zx 56 [.agg [enc d.name,enc d.line,enc d.ps,enc d.given,enc d.res.elem,enc d.res.row,enc d.res.dims,enc d.n.kind,enc d.n.line,enc d.n.name,enc d.n.num,enc d.n.elem,enc d.n.dims,enc d.n.data,enc d.n.sizes,enc d.n.ranks,enc d.ks]]):=Zd.tp (.nil) h
theorem a3r{G:PV->Prop}(d:Df)(i:Int)(h:if (Cn (Df.ps d) i)=true then(Y1 (Df.ps d) i 5 fun l=>((PR [(.str (Str.s (Pm.name l)))] fun e=>(if (!e)=true then G ((.bool false))else((Y1 (Df.ps d) i 5 fun g=>((Y1 (Df.ps d) i 5 fun m=>((c9z [(.bool (Pm.given g)),(enc (Pm.ty m))] fun j=>(if (!j)=true then G ((.bool false))else(At GL 0 (Za KG G) KR 0 56 [(1,(.ptr 0 0)),(3,(.pv (.int .i64 (IntKind.wrap IntKind.i64 (i+1)))))] [(.obj (.box (FN d)))]))))))))))))else((PR [(.str (Str.s (Df.name d)))] fun b=>(if (b)=true then if (decide ((↑(List.length (List.map enc (Df.ps d))):Int)<=8))=true then(c9z [(.bool (Df.given d)),(enc (Df.res d))] fun a=>(if (a)=true then(f5e (Dh (Df.n d) (Df.ks d)) fun k=>(G ((.bool k))))else(G ((.bool false)))))else(G ((.bool false)))else(G ((.bool false))))))):At GL 0 (Za KG G) KR 0 56 [(1,.ptr 0 0),(3,.pv (.int .i64 i))] [.obj (.box [.pv (enc d.name),.pv (enc d.line),.pv (enc d.ps),.pv (enc d.given),.pv (enc d.res.elem),.pv (enc d.res.row),.pv (enc d.res.dims),.pv (enc d.n.kind),.pv (enc d.n.line),.pv (enc d.n.name),.pv (enc d.n.num),.pv (enc d.n.elem),.pv (enc d.n.dims),.pv (enc d.n.data),.pv (enc d.n.sizes),.pv (enc d.n.ranks),.pv (enc d.ks)])]:=At.tp (dm [dr Pm,dv Bool] 121 0x22222222222222022222222202220261220064261222201542222202846102000142261222251222222251222022222222222222201046125103642) h
noncomputable def d2s:IC:=YI Proofs.Tryz.f45
def d1j:List IRes:=[(.tmp 2)]
abbrev f7f:Nat:=11
def f1h:ZC:=Yh [(72,.pure (preT (fun x:TyS×Unit=>yW x.1)) (Zi (fun x:TyS×Unit=>Jc x.1)))]
theorem g4e{G:PV->Prop}(t:TyS)(h:(g0q [(enc t)] fun a=>(G ((.str (Str.s a.1)))))):Zd f1h 0 (Za d1j G) d2s [] (Zx 11 [.agg [enc t.elem,enc t.row,enc t.dims]]):=Zd.tp (.req (FJ (Str×Int) (.nil))) h
noncomputable def Qk:IC:=YI Proofs.Tryz.f24
def Qm:List IRes:=[(.tmp 2)]
abbrev e4k:Nat:=60
def JH:ZC:=Yh [(45,.pure (preT (fun x:TyS×Unit=>yW x.1)) (Zi (fun x:TyS×Unit=>(Jc x.1).1))),(46,.pure (preT (fun x:Tm×Unit=>tW x.1&&Z9 x.1)) (Zi (fun x:Tm×Unit=>Zt x.1)))]
theorem f7l{G:PV->Prop}(d:Df)(h:ZA [(100:UInt8),(101:UInt8),(102:UInt8),(32:UInt8)] (Str.s (Df.name d))∧(ZA ([(100:UInt8),(101:UInt8),(102:UInt8),(32:UInt8)]++Str.s (Df.name d)) [(40:UInt8)]∧(At JH 0 (Za Qm G) Qk 0 60 [(1,(.ptr 0 0)),(3,(.pv (.str ([(100:UInt8),(101:UInt8),(102:UInt8),(32:UInt8)]++Str.s (Df.name d)++[(40:UInt8)])))),(4,(.pv (.int .i64 0)))] [(.obj (.box (FN d)))]))):Zd JH 0 (Za Qm G) Qk [] (Zx 60 [.agg [enc d.name,enc d.line,enc d.ps,enc d.given,enc d.res.elem,enc d.res.row,enc d.res.dims,enc d.n.kind,enc d.n.line,enc d.n.name,enc d.n.num,enc d.n.elem,enc d.n.dims,enc d.n.data,enc d.n.sizes,enc d.n.ranks,enc d.ks]]):=Zd.tp (.req (.req (.nil))) h
theorem b4q{G:PV->Prop}(d:Df)(o:List UInt8)(i:Int)(h:if (Cn (Df.ps d) i)=true then if (decide (i>0))=true then ZA o [(44:UInt8),(32:UInt8)]∧((Y1 (Df.ps d) i 5 fun g=>(ZA (o++[(44:UInt8),(32:UInt8)]) (Str.s (Pm.name g))∧((Y1 (Df.ps d) i 5 fun r=>(if (Pm.given r)=true then(Y1 (Df.ps d) i 5 fun u=>((a9l [(enc (Pm.ty u))] fun j=>(ZA [(58:UInt8),(32:UInt8)] (Str.s j)∧(ZA (o++[(44:UInt8),(32:UInt8)]++Str.s (Pm.name g)) ([(58:UInt8),(32:UInt8)]++Str.s j)∧(At JH 0 (Za Qm G) Qk 0 60 [(1,(.ptr 0 0)),(3,(.pv (.str (o++[(44:UInt8),(32:UInt8)]++Str.s (Pm.name g)++([(58:UInt8),(32:UInt8)]++Str.s j))))),(4,(.pv (.int .i64 (IntKind.wrap IntKind.i64 (i+1)))))] [(.obj (.box (FN d)))]))))))else(At JH 0 (Za Qm G) Qk 0 60 [(1,(.ptr 0 0)),(3,(.pv (.str (o++[(44:UInt8),(32:UInt8)]++Str.s (Pm.name g))))),(4,(.pv (.int .i64 (IntKind.wrap IntKind.i64 (i+1)))))] [(.obj (.box (FN d)))])))))))else((Y1 (Df.ps d) i 5 fun e=>(ZA o (Str.s (Pm.name e))∧((Y1 (Df.ps d) i 5 fun q=>(if (Pm.given q)=true then(Y1 (Df.ps d) i 5 fun m=>((a9l [(enc (Pm.ty m))] fun k=>(ZA [(58:UInt8),(32:UInt8)] (Str.s k)∧(ZA (o++Str.s (Pm.name e)) ([(58:UInt8),(32:UInt8)]++Str.s k)∧(At JH 0 (Za Qm G) Qk 0 60 [(1,(.ptr 0 0)),(3,(.pv (.str (o++Str.s (Pm.name e)++([(58:UInt8),(32:UInt8)]++Str.s k))))),(4,(.pv (.int .i64 (IntKind.wrap IntKind.i64 (i+1)))))] [(.obj (.box (FN d)))]))))))else(At JH 0 (Za Qm G) Qk 0 60 [(1,(.ptr 0 0)),(3,(.pv (.str (o++Str.s (Pm.name e))))),(4,(.pv (.int .i64 (IntKind.wrap IntKind.i64 (i+1)))))] [(.obj (.box (FN d)))])))))))else(ZA o [(41:UInt8)]∧(if (Df.given d)=true then(a9l [(enc (Df.res d))] fun a=>(ZA [(58:UInt8),(32:UInt8)] (Str.s a)∧(ZA (o++[(41:UInt8)]) ([(58:UInt8),(32:UInt8)]++Str.s a)∧(ZA (o++[(41:UInt8)]++([(58:UInt8),(32:UInt8)]++Str.s a)) [(32:UInt8),(61:UInt8),(32:UInt8)]∧((d6t (Dh (Df.n d) (Df.ks d)) fun l=>(ZA (o++[(41:UInt8)]++([(58:UInt8),(32:UInt8)]++Str.s a)++[(32:UInt8),(61:UInt8),(32:UInt8)]) (Str.s l)∧(G ((.str (o++[(41:UInt8)]++([(58:UInt8),(32:UInt8)]++Str.s a)++[(32:UInt8),(61:UInt8),(32:UInt8)]++Str.s l)))))))))))else(ZA (o++[(41:UInt8)]) [(32:UInt8),(61:UInt8),(32:UInt8)]∧((d6t (Dh (Df.n d) (Df.ks d)) fun b=>(ZA (o++[(41:UInt8)]++[(32:UInt8),(61:UInt8),(32:UInt8)]) (Str.s b)∧(G ((.str (o++[(41:UInt8)]++[(32:UInt8),(61:UInt8),(32:UInt8)]++Str.s b))))))))))):At JH 0 (Za Qm G) Qk 0 60 [(1,.ptr 0 0),(3,.pv (.str o)),(4,.pv (.int .i64 i))] [.obj (.box [.pv (enc d.name),.pv (enc d.line),.pv (enc d.ps),.pv (enc d.given),.pv (enc d.res.elem),.pv (enc d.res.row),.pv (enc d.res.dims),.pv (enc d.n.kind),.pv (enc d.n.line),.pv (enc d.n.name),.pv (enc d.n.num),.pv (enc d.n.elem),.pv (enc d.n.dims),.pv (enc d.n.data),.pv (enc d.n.sizes),.pv (enc d.n.ranks),.pv (enc d.ks)])]:=At.tp (dm [dr Pm,dv Str] 75 0x1611016111161009410202116125100942511251020211612510094251125110174203242) h
noncomputable def b7v:IC:=YI Proofs.Tryz.f11
def FO:List IRes:=[(.tmp 2),(.tmp 3)]
abbrev e2p:Nat:=14
def b0m:ZC:=Yh [(23,.pure (preT (fun x:Df×Unit=>dW x.1)) (Zi (fun x:Df×Unit=>ZK x.1))),(24,.pure (preT (fun x:Df×Unit=>dW x.1&&ZK x.1)) (Zi (fun x:Df×Unit=>UQ x.1)))]
theorem g0c{G:PV->Prop}(d:Df)(h:(c7t [(enc d)] fun b=>(if (!b)=true then G ((.tup [(.str []),(.int .i64 1)]))else((d1y [(enc d)] fun a=>(if (decide ((↑(List.length (Str.s a)):Int)>20000))=true then G ((.tup [(.str []),(.int .i64 3)]))else(G ((.tup [(.str (Str.s a)),(.int .i64 0)]))))))))):Zd b0m 0 (Za FO G) b7v [] (Zx 14 [.agg [enc d.name,enc d.line,enc d.ps,enc d.given,enc d.res.elem,enc d.res.row,enc d.res.dims,enc d.n.kind,enc d.n.line,enc d.n.name,enc d.n.num,enc d.n.elem,enc d.n.dims,enc d.n.data,enc d.n.sizes,enc d.n.ranks,enc d.ks]]):=Zd.tp (dm [dv Bool,dv Str] 17 0x142610001451) h
noncomputable def VE:IC:=YI Proofs.Tryz.f22
def VF:List IRes:=[(.tmp 4)]
abbrev c2u:Nat:=34
def UV:ZC:=Yh []
abbrev b0g(a:List Str):Nat×AV:=(1,(.pv (.sl 1 false (List.map enc a))))
theorem e2j{G:PV->Prop}(w:List UInt8)(l:List Str)(h:At UV 0 (Za VF G) VE 0 34 [(0,(.pv (.str w))),(b0g l),(5,(.pv (.str []))),(6,(.pv (.int .i64 0)))] []):Zd UV 0 (Za VF G) VE [] (Zx 34 [.str w,enc l]):=Zd.tp (.nil) h
theorem Gy{G:PV->Prop}(w:List UInt8)(l:List Str)(o:List UInt8)(i:Int)(h:if (Cn l i)=true then if (i==0)=true then ZA w [(32:UInt8)]∧((Y1 l i 1 fun b=>(ZA (w++[(32:UInt8)]) (Str.s b)∧(At UV 0 (Za VF G) VE 0 34 [(0,(.pv (.str w))),(b0g l),(5,(.pv (.str (w++[(32:UInt8)]++Str.s b)))),(6,(.pv (.int .i64 (IntKind.wrap IntKind.i64 (i+1)))))] []))))else((Y1 l i 1 fun a=>(ZA [(44:UInt8),(32:UInt8)] (Str.s a)∧(ZA o ([(44:UInt8),(32:UInt8)]++Str.s a)∧(At UV 0 (Za VF G) VE 0 34 [(0,(.pv (.str w))),(b0g l),(5,(.pv (.str (o++([(44:UInt8),(32:UInt8)]++Str.s a))))),(6,(.pv (.int .i64 (IntKind.wrap IntKind.i64 (i+1)))))] [])))))else(if (!o==[])=true then ZA o [(10:UInt8)]∧(G ((.str (o++[(10:UInt8)]))))else(G ((.str o))))):At UV 0 (Za VF G) VE 0 34 [(0,.pv (.str w)),(1,.pv (enc l)),(5,.pv (.str o)),(6,.pv (.int .i64 i))] []:=At.tp (dm [dr Str] 33 0x100242021125102125110074201342) h
noncomputable def Qv:IC:=YI Proofs.Tryz.f21
def Qt:List IRes:=[(.tmp 2)]
abbrev c0w:Nat:=16
def K4:ZC:=Yh [(20,.pure (preT (fun x:Str×Unit=>decide (x.1.s.length<=1048576))) (Zi (fun x:Str×Unit=>nameI x.1.s)))]
theorem d2j{G:PV->Prop}(l:List Str)(h:At K4 0 (Za Qt G) Qv 0 16 [(0,(.pv (.sl 1 false (List.map enc l)))),(3,(.pv (.int .i64 0)))] []):Zd K4 0 (Za Qt G) Qv [] (Zx 16 [enc l]):=Zd.tp (.nil) h
theorem M0{G:PV->Prop}(l:List Str)(i:Int)(h:if (Cn l i)=true then(Y1 l i 1 fun b=>((PR [(.str (Str.s b))] fun a=>(if (!a)=true then G ((.bool false))else(At K4 0 (Za Qt G) Qv 0 16 [(0,(.pv (.sl 1 false (List.map enc l)))),(3,(.pv (.int .i64 (IntKind.wrap IntKind.i64 (i+1)))))] [])))))else(G ((.bool true)))):At K4 0 (Za Qt G) Qv 0 16 [(0,.pv (enc l)),(3,.pv (.int .i64 i))] []:=At.tp (dm [dr Str,dv Bool] 19 0x2000146125100c42) h
noncomputable def UA:IC:=YI Proofs.Tryz.f8
def Ub:List IRes:=[(.tmp 2),(.tmp 3)]
abbrev e3a:Nat:=87
def QE:ZC:=Yh [(20,.pure (preT (fun x:Str×Unit=>decide (x.1.s.length<=1048576))) (Zi (fun x:Str×Unit=>nameI x.1.s))),(21,.pure (preT (fun x:List Str×Unit=>Xh x.1)) (Zi (fun x:List Str×Unit=>x.1.all fun s:Str=>nameI s.s))),(22,.pure (preT (fun x:Str×List Str×Unit=>decide (x.1.s.length<=30)&&decide (x.1.s≠[])&&decide (x.2.1.length<=60)&&x.2.1.all fun s:Str=>nameI s.s)) (Zi (fun x:Str×List Str×Unit=>(⟨Qo (Kn x.1.s x.2.1)⟩:Str)))),(23,.pure (preT (fun x:Df×Unit=>dW x.1)) (Zi (fun x:Df×Unit=>ZK x.1))),(24,.pure (preT (fun x:Df×Unit=>dW x.1&&ZK x.1)) (Zi (fun x:Df×Unit=>UQ x.1)))]
theorem f9x{G:PV->Prop}(m:Mdu)(h:(PR [(.str (Str.s (Mdu.name m)))] fun g=>(if (!g)=true then G ((.tup [(.str []),(.int .i64 1)]))else((c9v [(.sl 1 false (List.map enc (Mdu.im m)))] fun e=>(if (!e)=true then G ((.tup [(.str []),(.int .i64 1)]))else((c9v [(.sl 1 false (List.map enc (Mdu.ex m)))] fun i=>(if (!i)=true then G ((.tup [(.str []),(.int .i64 1)]))else(if (decide ((↑(List.length (List.map enc (Mdu.im m))):Int)>20))=true then G ((.tup [(.str []),(.int .i64 1)]))else(if (decide ((↑(List.length (List.map enc (Mdu.ex m))):Int)>60))=true then G ((.tup [(.str []),(.int .i64 1)]))else(if (decide ((↑(List.length (List.map enc (Mdu.ds m))):Int)>60))=true then G ((.tup [(.str []),(.int .i64 1)]))else(ZA [(109:UInt8),(111:UInt8),(100:UInt8),(117:UInt8),(108:UInt8),(101:UInt8),(32:UInt8)] (Str.s (Mdu.name m))∧(ZA ([(109:UInt8),(111:UInt8),(100:UInt8),(117:UInt8),(108:UInt8),(101:UInt8),(32:UInt8)]++Str.s (Mdu.name m)) [(10:UInt8)]∧((e2e [(.str [(105:UInt8),(109:UInt8),(112:UInt8),(111:UInt8),(114:UInt8),(116:UInt8)]),(.sl 1 false (List.map enc (Mdu.im m)))] fun a=>(ZA ([(109:UInt8),(111:UInt8),(100:UInt8),(117:UInt8),(108:UInt8),(101:UInt8),(32:UInt8)]++Str.s (Mdu.name m)++[(10:UInt8)]) (Str.s a)∧((e2e [(.str [(101:UInt8),(120:UInt8),(112:UInt8),(111:UInt8),(114:UInt8),(116:UInt8)]),(.sl 1 false (List.map enc (Mdu.ex m)))] fun b=>(ZA ([(109:UInt8),(111:UInt8),(100:UInt8),(117:UInt8),(108:UInt8),(101:UInt8),(32:UInt8)]++Str.s (Mdu.name m)++[(10:UInt8)]++Str.s a) (Str.s b)∧(At QE 0 (Za Ub G) UA 0 87 [(1,(.ptr 0 0)),(4,(.pv (.str ([(109:UInt8),(111:UInt8),(100:UInt8),(117:UInt8),(108:UInt8),(101:UInt8),(32:UInt8)]++Str.s (Mdu.name m)++[(10:UInt8)]++Str.s a++Str.s b)))),(5,(.pv (.int .i64 0)))] [(.obj (.box (Dc m)))]))))))))))))))))))))):Zd QE 0 (Za Ub G) UA [] (Zx 87 [.agg [enc m.name,enc m.im,enc m.ex,enc m.ds]]):=Zd.tp (dm [dv Bool,dv Str] 144 0x1611611100014222220222220064222220222222222200b4222220222222222222222010422512202222222222222222222201542251220222222222222222222222222201a451) h
theorem b8j{G:PV->Prop}(m:Mdu)(o:List UInt8)(i:Int)(h:if (Cn (Mdu.ds m) i)=true then(Y1 (Mdu.ds m) i 17 fun b=>((d1y [(enc b)] fun a=>(ZA (Str.s a) [(10:UInt8)]∧(ZA o (Str.s a++[(10:UInt8)])∧(At QE 0 (Za Ub G) UA 1 87 [(1,(.ptr 0 0)),(4,(.pv (.str (o++(Str.s a++[(10:UInt8)]))))),(6,(.pv (.int .i64 (IntKind.wrap IntKind.i64 (i+1)))))] [(.obj (.box (Dc m)))]))))))else(if (decide ((↑(List.length o):Int)>20000))=true then G ((.tup [(.str []),(.int .i64 3)]))else(G ((.tup [(.str o),(.int .i64 0)]))))):At QE 0 (Za Ub G) UA 1 87 [(1,.ptr 0 0),(4,.pv (.str o)),(6,.pv (.int .i64 i))] [.obj (.box [.pv (enc m.name),.pv (enc m.im),.pv (enc m.ex),.pv (enc m.ds)])]:=At.tp (dm [dr Df,dv Str] 22 0x14202116125100942) h
theorem b9k{G:PV->Prop}(m:Mdu)(o:List UInt8)(i:Int)(h:if (Cn (Mdu.ds m) i)=true then(Y1 (Mdu.ds m) i 17 fun b=>((c7t [(enc b)] fun a=>(if (!a)=true then G ((.tup [(.str []),(.int .i64 1)]))else(At QE 0 (Za Ub G) UA 0 87 [(1,(.ptr 0 0)),(4,(.pv (.str o))),(5,(.pv (.int .i64 (IntKind.wrap IntKind.i64 (i+1)))))] [(.obj (.box (Dc m)))])))))else(At QE 0 (Za Ub G) UA 1 87 [(1,(.ptr 0 0)),(4,(.pv (.str o))),(6,(.pv (.int .i64 0)))] [(.obj (.box (Dc m)))])):At QE 0 (Za Ub G) UA 0 87 [(1,.ptr 0 0),(4,.pv (.str o)),(5,.pv (.int .i64 i))] [.obj (.box [.pv (enc m.name),.pv (enc m.im),.pv (enc m.ex),.pv (enc m.ds)])]:=At.tp (dm [dr Df,dv Bool] 19 0x2000146125100c42) h
noncomputable def WG:IC:=YI Proofs.Tryz.f9
def WI:List IRes:=[(.tmp 2)]
abbrev d5c:Nat:=81
def VU:ZC:=Yh [(25,.pure (preT (fun x:Tm×Int×Unit=>tW x.1)) (Zi (fun x:Tm×Int×Unit=>KI x.1 x.2.1)))]
theorem e5l{G:PV->Prop}(m:Mdu)(h:At VU 0 (Za WI G) WG 0 81 [(1,(.ptr 0 0)),(3,(.pv (.int .i64 0)))] [(.obj (.box (Dc m)))]):Zd VU 0 (Za WI G) WG [] (Zx 81 [.agg [enc m.name,enc m.im,enc m.ex,enc m.ds]]):=Zd.tp (.nil) h
theorem a5x{G:PV->Prop}(m:Mdu)(i k:Int)(h:(Y1 (Mdu.ds m) i 17 fun b=>(if (decide (k<(↑(List.length (PV.asXs (List.getD (List.drop 2 (PV.cells (enc b))) 0 default))):Int)))=true then(Y1 (Mdu.ds m) i 17 fun a=>((decide (0<=k)&&decide (Int.toNat k<List.length (PV.asXs (List.getD (List.drop 2 (PV.cells (enc a))) 0 default)))&&5==5)=true∧((decide (0+List.length [Sh.sl 2]<=List.length (List.drop 1 (List.drop 1 (List.drop 2 (PV.cells (List.getD (PV.asXs (List.getD (List.drop 2 (PV.cells (enc a))) 0 default)) (Int.toNat k) default))))))&&Yj (List.drop 1 (List.drop 1 (List.drop 2 (PV.cells (List.getD (PV.asXs (List.getD (List.drop 2 (PV.cells (enc a))) 0 default)) (Int.toNat k) default))))) 0 [Sh.sl 2])=true∧(if (decide ((↑(List.length (PV.asXs (List.getD (List.drop 1 (List.drop 1 (List.drop 2 (PV.cells (List.getD (PV.asXs (List.getD (List.drop 2 (PV.cells (enc a))) 0 default)) (Int.toNat k) default))))) 0 default))):Int)>8))=true then G ((.bool false))else(At VU 0 (Za WI G) WG 1 81 [(1,(.ptr 0 0)),(3,(.pv (.int .i64 i))),(4,(.pv (.int .i64 (IntKind.wrap IntKind.i64 (k+1)))))] [(.obj (.box (Dc m)))])))))else(At VU 0 (Za WI G) WG 0 81 [(1,(.ptr 0 0)),(3,(.pv (.int .i64 (IntKind.wrap IntKind.i64 (i+1)))))] [(.obj (.box (Dc m)))])))):At VU 0 (Za WI G) WG 1 81 [(1,.ptr 0 0),(3,.pv (.int .i64 i)),(4,.pv (.int .i64 k))] [.obj (.box [.pv (enc m.name),.pv (enc m.im),.pv (enc m.ex),.pv (enc m.ds)])]:=At.tp (dm [dr Df] 25 0x20200014213125100e42251) h
theorem a0p{G:PV->Prop}(m:Mdu)(i:Int)(h:if (Cn (Mdu.ds m) i)=true then(Y1 (Mdu.ds m) i 17 fun a=>((f4p (bdA (Df.n a) (Df.ks a) 30) fun b=>(if (!b)=true then G ((.bool false))else((Y1 (Mdu.ds m) i 17 fun g=>(if (decide ((↑(List.length (PV.asXs (List.getD (List.drop 2 (PV.cells (enc g))) 0 default))):Int)>10))=true then G ((.bool false))else((Y1 (Mdu.ds m) i 17 fun e=>(if (decide ((↑(List.length (Str.s (Df.name e))):Int)>40))=true then G ((.bool false))else(At VU 0 (Za WI G) WG 1 81 [(1,(.ptr 0 0)),(3,(.pv (.int .i64 i))),(4,(.pv (.int .i64 0)))] [(.obj (.box (Dc m)))])))))))))))else(if (decide ((↑(List.length (List.map enc (Mdu.ds m))):Int)<=5))=true then if (decide ((↑(List.length (List.map enc (Mdu.im m))):Int)<=25))=true then G ((.bool (decide ((↑(List.length (List.map enc (Mdu.ex m))):Int)<=65))))else(G ((.bool false)))else(G ((.bool false))))):At VU 0 (Za WI G) WG 0 81 [(1,.ptr 0 0),(3,.pv (.int .i64 i))] [.obj (.box [.pv (enc m.name),.pv (enc m.im),.pv (enc m.ex),.pv (enc m.ds)])]:=At.tp (dm [dr Df,dv Bool] 113 0x2222222220222202222200642222201442000014222222251222022222222200a4222222251222022222222222222222201346125104842) h
noncomputable def Gb:IC:=YI Proofs.Tryz.f4
def GK:List IRes:=[(.tmp 2)]
abbrev f0f:Nat:=68
def Aw:ZC:=Yh [(5,.pure (preT (fun _:Unit=>true)) (Zi (fun _:Unit=>true))),(9,.pure (preT (fun x:Mdu×Unit=>mW x.1)) (Zi (fun x:Mdu×Unit=>La x.1))),(7,.pure (preT (fun x:Mdu×Unit=>mW x.1)) (Zi (fun x:Mdu×Unit=>JL x.1))),(8,.pure (preT (fun x:Mdu×Unit=>mW x.1)) (Zi (fun x:Mdu×Unit=>JL x.1))),(10,.pure (preT (fun x:Df×Unit=>dW x.1)) (Zi (fun x:Df×Unit=>DC x.1))),(11,.pure (preT (fun x:Df×Unit=>dW x.1)) (Zi (fun x:Df×Unit=>DC x.1)))]
theorem f9f{G:PV->Prop}(m:Mdu)(h:Tt (fun(x:Unit)=>true) [] fun g:Bool=>if (!g)=true then G ((.bool false))else((f6g [(enc m)] fun e=>(if (!e)=true then G ((.bool true))else((e0v [(enc m)] fun b=>((e0v [(enc m)] fun a=>(At Aw 0 (Za GK G) Gb 0 68 [(1,(.ptr 0 0)),(3,(.pv (.str (Str.s b.1)))),(4,(.pv (.int .i64 b.2))),(5,(.pv (.str (Str.s a.1)))),(6,(.pv (.int .i64 a.2))),(7,(.pv (.int .i64 0)))] [(.obj (.box (Dc m)))]))))))))):Zd Aw 0 (Za GK G) Gb [] (Zx 68 [.agg [enc m.name,enc m.im,enc m.ex,enc m.ds]]):=Zd.tp (dm [dv Bool,dv (Str×Int)] 20 0x616100014510001452) h
theorem b6o{G:PV->Prop}(m:Mdu)(a b:List UInt8)(e f i:Int)(h:if (Cn (Mdu.ds m) i)=true then(Y1 (Mdu.ds m) i 17 fun k=>((d9u [(enc k)] fun g=>((Y1 (Mdu.ds m) i 17 fun l=>((d9u [(enc l)] fun j=>(if (!Str.s g.1==Str.s j.1)=true then G ((.bool false))else(if (g.2 != j.2)=true then G ((.bool false))else(At Aw 0 (Za GK G) Gb 0 68 [(1,(.ptr 0 0)),(3,(.pv (.str a))),(4,(.pv (.int .i64 e))),(5,(.pv (.str b))),(6,(.pv (.int .i64 f))),(7,(.pv (.int .i64 (IntKind.wrap IntKind.i64 (i+1)))))] [(.obj (.box (Dc m)))]))))))))))else(if (a==b)=true then G ((.bool (e==f)))else(G ((.bool false))))):At Aw 0 (Za GK G) Gb 0 68 [(1,.ptr 0 0),(3,.pv (.str a)),(4,.pv (.int .i64 e)),(5,.pv (.str b)),(6,.pv (.int .i64 f)),(7,.pv (.int .i64 i))] [.obj (.box [.pv (enc m.name),.pv (enc m.im),.pv (enc m.ex),.pv (enc m.ds)])]:=At.tp (dm [dr Df,dv (Str×Int)] 51 0x2220222200542020001422220222200542612516125101f42) h
end Go.Pl
