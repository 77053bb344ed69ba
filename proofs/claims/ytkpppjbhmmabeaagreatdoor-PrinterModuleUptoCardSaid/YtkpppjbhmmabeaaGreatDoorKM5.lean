/-
  Texts of mine that belong together (packed by pack.py), for every input: GQc, GQa, QQa, GQb, QQb, QQc, GTx, QTx, QTy, QTz, TyMb, GQe.
-/
import Derived.Test.YtkpppjbhmmabeaaGreatDoorChecked
import Derived.Test.YtkpppjbhmmabeaaGreatDoorKM2
import Derived.Test.YtkpppjbhmmabeaaGreatDoorKM3
import Derived.Test.YtkpppjbhmmabeaaGreatDoorKM4
import Derived.KernelRfl
set_option linter.unusedVariables false
set_option linter.unusedSimpArgs false
namespace Go.Pl
open Go.RowKit
open Enc (enc dec is)
open EncL (encL decL isL)
set_option maxRecDepth 100000
abbrev g5o(ps:List PV)(k:List Tm->Prop):Prop:=Ym (fun(x:Tm×Unit)=>tW (Prod.fst x)) (fun(x:Tm×Unit)=>Xb (Prod.fst x)) ps k
abbrev g6q(ps:List PV)(k:List Str->Prop):Prop:=ceP (fun(x:List Str×Str×Unit)=>Ul (Prod.fst x) (Prod.fst (Prod.snd x))) ps k
abbrev g4x(ps:List PV)(k:List Str->Prop):Prop:=Ym (fun(x:List Str×Str×Unit)=>decide (List.length (Prod.fst x)<=1048576)) (fun(x:List Str×Str×Unit)=>Ul (Prod.fst x) (Prod.fst (Prod.snd x))) ps k
abbrev b4p(ps:List PV)(k:R3 Str Int Bool->Prop):Prop:=ceP (fun(x:Str×Bool×Unit)=>Va (Prod.fst x) (Prod.fst (Prod.snd x))) ps k
abbrev f3b(ps:List PV)(k:R3 Str Int Bool->Prop):Prop:=Ym (fun(x:Tm×Unit)=>tW (Prod.fst x)) (fun(x:Tm×Unit)=>CK (Prod.fst x)) ps k
abbrev SX(N:Nat)(ps:List PV)(k:Str->Prop):Prop:=Ym (fun(x:Tm×Unit)=>tW (Prod.fst x)&&Ya (Prod.fst x)&&decide (Z4 (Prod.fst x)<N)) (fun(x:Tm×Unit)=>Zt (Prod.fst x)) ps k
abbrev b3r(ps:List PV)(k:Str->Prop):Prop:=Ym (fun(x:Lin×Unit)=>Wn (Prod.fst x)) (fun(x:Lin×Unit)=>Str.mk (ZE (Prod.fst x))) ps k
abbrev g5m(ps:List PV)(k:Str->Prop):Prop:=Ym (fun(x:List Lin×Unit)=>decide (List.length (Prod.fst x)<=1048576)&&List.all (Prod.fst x) Zh) (fun(x:List Lin×Unit)=>Yi (List.map Yu (Prod.fst x))) ps k
abbrev Ld(ps:List PV)(k:Str->Prop):Prop:=Ym (fun(x:Int×Unit)=>decide (Int.natAbs (Prod.fst x)<9223372036854775808)) (fun(x:Int×Unit)=>Zq (Prod.fst x)) ps k
abbrev PG(N:Nat)(ps:List PV)(k:Str->Prop):Prop:=Ym (fun(x:List Tm×Unit)=>tsW (Prod.fst x)&&Ws (Prod.fst x)&&decide (Yc (Prod.fst x)<N)) (fun(x:List Tm×Unit)=>Yi (List.map Zt (Prod.fst x))) ps k
abbrev QU(ps:List PV)(k:Int->Prop):Prop:=Ym (fun(x:Tm×Unit)=>tW (Prod.fst x)) (fun(x:Tm×Unit)=>X8 (Prod.fst x)) ps k
abbrev WS(N:Nat)(ps:List PV)(k:Str->Prop):Prop:=Ym (fun(x:Tm×Bool×Unit)=>tW (Prod.fst x)&&Ya (Prod.fst x)&&decide (Z4 (Prod.fst x)<N)) (fun(x:Tm×Bool×Unit)=>Ay (Prod.fst (Prod.snd x)) (Prod.fst x)) ps k
abbrev d9n(N:Nat)(ps:List PV)(k:Str->Prop):Prop:=Ym (fun(x:Tm×Unit)=>tW (Prod.fst x)&&Ya (Prod.fst x)&&decide (Nd.kind (Tm.nd (Prod.fst x))=6)&&decide (Yc (Tm.ks (Prod.fst x))<N)) (fun(x:Tm×Unit)=>Q6 (Prod.fst x)) ps k
abbrev e1u(ps:List PV)(k:Str×Int->Prop):Prop:=Ym (fun(x:Arr×Unit)=>VH (Prod.fst x)&&WE (Prod.fst x)) (fun(x:Arr×Unit)=>J7 (Prod.fst x)) ps k
abbrev f6v(ps:List PV)(k:Bool->Prop):Prop:=Ym (fun(x:Tm×Unit)=>tW (Prod.fst x)) (fun(x:Tm×Unit)=>Y6 (Prod.fst x)) ps k
abbrev f8l(ps:List PV)(k:List Str->Prop):Prop:=Ym (fun(x:Tm×Unit)=>tW (Prod.fst x)) (fun(x:Tm×Unit)=>J4 (Prod.fst x)) ps k
abbrev f8f(ps:List PV)(k:Bool->Prop):Prop:=Ym (fun(x:Str×Unit)=>decide (List.length (Str.s (Prod.fst x))<=1048576)) (fun(x:Str×Unit)=>nameI (Str.s (Prod.fst x))) ps k
noncomputable def G6:IC:=YI Proofs.Tryz.f107
def GI:List IRes:=[(.tmp 4)]
abbrev e6p:Nat:=45
def Ac:ZC:=Yh []
theorem g0o{G:PV->Prop}(l:List Str)(s:List UInt8)(h:At Ac 0 (Za GI G) G6 0 45 [(0,(.pv (.sl 1 false (List.map enc l)))),(1,(.pv (.str s))),(5,(.pv (.int .i64 0)))] []):Zd Ac 0 (Za GI G) G6 [] (Zx 45 [enc l,.str s]):=Zd.tp (.nil) h
abbrev OX(a:Int)(XU:List Str):Bool:=(List.isEmpty (List.drop 0 (List.take (Int.toNat a) (List.map enc XU)))||Enc.sz Str==1)
theorem b5v{G:PV->Prop}(l:List Str)(s:List UInt8)(i:Int)(h:if (Cm l i)=true then(Y1 l i 1 fun b=>(if (Op.bytesLess (PV.asStr (Vy b)) s)=true then At Ac 0 (Za GI G) G6 0 45 [(0,(.pv (.sl 1 false (List.map enc l)))),(1,(.pv (.str s))),(5,(.pv (.int .i64 (IntKind.wrap IntKind.i64 (i+1)))))] []else(if (Cm l i)=true then(Y1 l i 1 fun e=>(if (PV.asStr (Vy e)==s)=true then G ((.sl 1 false (List.map enc l)))else((true&&decide (0<=i)&&(List.isEmpty (List.map enc l)||Enc.sz Str==1)&&decide (0<=Int.toNat i)&&decide (Int.toNat i<=List.length (List.map enc l)))=true∧((OX i l)=true∧((List.length ([]:List PV)==0&&0==0&&decide ((0+List.length (List.drop 0 (List.take (Int.toNat i) (List.map enc l))))*16<=1099511627776)&&decide (0+List.length (List.drop 0 (List.take (Int.toNat i) (List.map enc l)))<=1099511627776))=true∧((List.length (([]:List PV)++List.drop 0 (List.take (Int.toNat i) (List.map enc l)))==0+List.length (List.drop 0 (List.take (Int.toNat i) (List.map enc l)))&&0+List.length (List.drop 0 (List.take (Int.toNat i) (List.map enc l)))==0+List.length (List.drop 0 (List.take (Int.toNat i) (List.map enc l)))&&decide ((0+List.length (List.drop 0 (List.take (Int.toNat i) (List.map enc l)))+List.length (List.drop 0 (List.take 1 [PV.str s])))*16<=1099511627776)&&decide (0+List.length (List.drop 0 (List.take (Int.toNat i) (List.map enc l)))+List.length (List.drop 0 (List.take 1 [PV.str s]))<=1099511627776))=true∧((decide (0<=i)&&true&&(List.isEmpty (List.map enc l)||Enc.sz Str==1)&&decide (Int.toNat i<=List.length (List.map enc l))&&decide (List.length (List.map enc l)<=List.length (List.map enc l)))=true∧((List.isEmpty (List.drop (Int.toNat i) (List.take (List.length (List.map enc l)) (List.map enc l)))||Enc.sz Str==1)=true∧((List.length (([]:List PV)++List.drop 0 (List.take (Int.toNat i) (List.map enc l))++List.drop 0 (List.take 1 [PV.str s]))==0+List.length (List.drop 0 (List.take (Int.toNat i) (List.map enc l)))+List.length (List.drop 0 (List.take 1 [PV.str s]))&&0+List.length (List.drop 0 (List.take (Int.toNat i) (List.map enc l)))+List.length (List.drop 0 (List.take 1 [PV.str s]))==0+List.length (List.drop 0 (List.take (Int.toNat i) (List.map enc l)))+List.length (List.drop 0 (List.take 1 [PV.str s]))&&decide ((0+List.length (List.drop 0 (List.take (Int.toNat i) (List.map enc l)))+List.length (List.drop 0 (List.take 1 [PV.str s]))+List.length (List.drop (Int.toNat i) (List.take (List.length (List.map enc l)) (List.map enc l))))*16<=1099511627776)&&decide (0+List.length (List.drop 0 (List.take (Int.toNat i) (List.map enc l)))+List.length (List.drop 0 (List.take 1 [PV.str s]))+List.length (List.drop (Int.toNat i) (List.take (List.length (List.map enc l)) (List.map enc l)))<=1099511627776))=true∧((List.length (([]:List PV)++List.drop 0 (List.take (Int.toNat i) (List.map enc l))++List.drop 0 (List.take 1 [PV.str s])++List.drop (Int.toNat i) (List.take (List.length (List.map enc l)) (List.map enc l)))==0+List.length (List.drop 0 (List.take (Int.toNat i) (List.map enc l)))+List.length (List.drop 0 (List.take 1 [PV.str s]))+List.length (List.drop (Int.toNat i) (List.take (List.length (List.map enc l)) (List.map enc l))))=true∧(G ((.sl 1 false (List.drop 0 (List.take (0+List.length (List.drop 0 (List.take (Int.toNat i) (List.map enc l)))+List.length (List.drop 0 (List.take 1 [PV.str s]))+List.length (List.drop (Int.toNat i) (List.take (List.length (List.map enc l)) (List.map enc l)))) (([]:List PV)++List.drop 0 (List.take (Int.toNat i) (List.map enc l))++List.drop 0 (List.take 1 [PV.str s])++List.drop (Int.toNat i) (List.take (List.length (List.map enc l)) (List.map enc l))))))))))))))))))else((true&&decide (0<=i)&&(List.isEmpty (List.map enc l)||Enc.sz Str==1)&&decide (0<=Int.toNat i)&&decide (Int.toNat i<=List.length (List.map enc l)))=true∧((OX i l)=true∧((List.length ([]:List PV)==0&&0==0&&decide ((0+List.length (List.drop 0 (List.take (Int.toNat i) (List.map enc l))))*16<=1099511627776)&&decide (0+List.length (List.drop 0 (List.take (Int.toNat i) (List.map enc l)))<=1099511627776))=true∧((List.length (([]:List PV)++List.drop 0 (List.take (Int.toNat i) (List.map enc l)))==0+List.length (List.drop 0 (List.take (Int.toNat i) (List.map enc l)))&&0+List.length (List.drop 0 (List.take (Int.toNat i) (List.map enc l)))==0+List.length (List.drop 0 (List.take (Int.toNat i) (List.map enc l)))&&decide ((0+List.length (List.drop 0 (List.take (Int.toNat i) (List.map enc l)))+List.length (List.drop 0 (List.take 1 [PV.str s])))*16<=1099511627776)&&decide (0+List.length (List.drop 0 (List.take (Int.toNat i) (List.map enc l)))+List.length (List.drop 0 (List.take 1 [PV.str s]))<=1099511627776))=true∧((decide (0<=i)&&true&&(List.isEmpty (List.map enc l)||Enc.sz Str==1)&&decide (Int.toNat i<=List.length (List.map enc l))&&decide (List.length (List.map enc l)<=List.length (List.map enc l)))=true∧((List.isEmpty (List.drop (Int.toNat i) (List.take (List.length (List.map enc l)) (List.map enc l)))||Enc.sz Str==1)=true∧((List.length (([]:List PV)++List.drop 0 (List.take (Int.toNat i) (List.map enc l))++List.drop 0 (List.take 1 [PV.str s]))==0+List.length (List.drop 0 (List.take (Int.toNat i) (List.map enc l)))+List.length (List.drop 0 (List.take 1 [PV.str s]))&&0+List.length (List.drop 0 (List.take (Int.toNat i) (List.map enc l)))+List.length (List.drop 0 (List.take 1 [PV.str s]))==0+List.length (List.drop 0 (List.take (Int.toNat i) (List.map enc l)))+List.length (List.drop 0 (List.take 1 [PV.str s]))&&decide ((0+List.length (List.drop 0 (List.take (Int.toNat i) (List.map enc l)))+List.length (List.drop 0 (List.take 1 [PV.str s]))+List.length (List.drop (Int.toNat i) (List.take (List.length (List.map enc l)) (List.map enc l))))*16<=1099511627776)&&decide (0+List.length (List.drop 0 (List.take (Int.toNat i) (List.map enc l)))+List.length (List.drop 0 (List.take 1 [PV.str s]))+List.length (List.drop (Int.toNat i) (List.take (List.length (List.map enc l)) (List.map enc l)))<=1099511627776))=true∧((List.length (([]:List PV)++List.drop 0 (List.take (Int.toNat i) (List.map enc l))++List.drop 0 (List.take 1 [PV.str s])++List.drop (Int.toNat i) (List.take (List.length (List.map enc l)) (List.map enc l)))==0+List.length (List.drop 0 (List.take (Int.toNat i) (List.map enc l)))+List.length (List.drop 0 (List.take 1 [PV.str s]))+List.length (List.drop (Int.toNat i) (List.take (List.length (List.map enc l)) (List.map enc l))))=true∧(G ((.sl 1 false (List.drop 0 (List.take (0+List.length (List.drop 0 (List.take (Int.toNat i) (List.map enc l)))+List.length (List.drop 0 (List.take 1 [PV.str s]))+List.length (List.drop (Int.toNat i) (List.take (List.length (List.map enc l)) (List.map enc l)))) (([]:List PV)++List.drop 0 (List.take (Int.toNat i) (List.map enc l))++List.drop 0 (List.take 1 [PV.str s])++List.drop (Int.toNat i) (List.take (List.length (List.map enc l)) (List.map enc l)))))))))))))))))))else(if (Cm l i)=true then(Y1 l i 1 fun a=>(if (PV.asStr (Vy a)==s)=true then G ((.sl 1 false (List.map enc l)))else((true&&decide (0<=i)&&(List.isEmpty (List.map enc l)||Enc.sz Str==1)&&decide (0<=Int.toNat i)&&decide (Int.toNat i<=List.length (List.map enc l)))=true∧((OX i l)=true∧((List.length ([]:List PV)==0&&0==0&&decide ((0+List.length (List.drop 0 (List.take (Int.toNat i) (List.map enc l))))*16<=1099511627776)&&decide (0+List.length (List.drop 0 (List.take (Int.toNat i) (List.map enc l)))<=1099511627776))=true∧((List.length (([]:List PV)++List.drop 0 (List.take (Int.toNat i) (List.map enc l)))==0+List.length (List.drop 0 (List.take (Int.toNat i) (List.map enc l)))&&0+List.length (List.drop 0 (List.take (Int.toNat i) (List.map enc l)))==0+List.length (List.drop 0 (List.take (Int.toNat i) (List.map enc l)))&&decide ((0+List.length (List.drop 0 (List.take (Int.toNat i) (List.map enc l)))+List.length (List.drop 0 (List.take 1 [PV.str s])))*16<=1099511627776)&&decide (0+List.length (List.drop 0 (List.take (Int.toNat i) (List.map enc l)))+List.length (List.drop 0 (List.take 1 [PV.str s]))<=1099511627776))=true∧((decide (0<=i)&&true&&(List.isEmpty (List.map enc l)||Enc.sz Str==1)&&decide (Int.toNat i<=List.length (List.map enc l))&&decide (List.length (List.map enc l)<=List.length (List.map enc l)))=true∧((List.isEmpty (List.drop (Int.toNat i) (List.take (List.length (List.map enc l)) (List.map enc l)))||Enc.sz Str==1)=true∧((List.length (([]:List PV)++List.drop 0 (List.take (Int.toNat i) (List.map enc l))++List.drop 0 (List.take 1 [PV.str s]))==0+List.length (List.drop 0 (List.take (Int.toNat i) (List.map enc l)))+List.length (List.drop 0 (List.take 1 [PV.str s]))&&0+List.length (List.drop 0 (List.take (Int.toNat i) (List.map enc l)))+List.length (List.drop 0 (List.take 1 [PV.str s]))==0+List.length (List.drop 0 (List.take (Int.toNat i) (List.map enc l)))+List.length (List.drop 0 (List.take 1 [PV.str s]))&&decide ((0+List.length (List.drop 0 (List.take (Int.toNat i) (List.map enc l)))+List.length (List.drop 0 (List.take 1 [PV.str s]))+List.length (List.drop (Int.toNat i) (List.take (List.length (List.map enc l)) (List.map enc l))))*16<=1099511627776)&&decide (0+List.length (List.drop 0 (List.take (Int.toNat i) (List.map enc l)))+List.length (List.drop 0 (List.take 1 [PV.str s]))+List.length (List.drop (Int.toNat i) (List.take (List.length (List.map enc l)) (List.map enc l)))<=1099511627776))=true∧((List.length (([]:List PV)++List.drop 0 (List.take (Int.toNat i) (List.map enc l))++List.drop 0 (List.take 1 [PV.str s])++List.drop (Int.toNat i) (List.take (List.length (List.map enc l)) (List.map enc l)))==0+List.length (List.drop 0 (List.take (Int.toNat i) (List.map enc l)))+List.length (List.drop 0 (List.take 1 [PV.str s]))+List.length (List.drop (Int.toNat i) (List.take (List.length (List.map enc l)) (List.map enc l))))=true∧(G ((.sl 1 false (List.drop 0 (List.take (0+List.length (List.drop 0 (List.take (Int.toNat i) (List.map enc l)))+List.length (List.drop 0 (List.take 1 [PV.str s]))+List.length (List.drop (Int.toNat i) (List.take (List.length (List.map enc l)) (List.map enc l)))) (([]:List PV)++List.drop 0 (List.take (Int.toNat i) (List.map enc l))++List.drop 0 (List.take 1 [PV.str s])++List.drop (Int.toNat i) (List.take (List.length (List.map enc l)) (List.map enc l))))))))))))))))))else((true&&decide (0<=i)&&(List.isEmpty (List.map enc l)||Enc.sz Str==1)&&decide (0<=Int.toNat i)&&decide (Int.toNat i<=List.length (List.map enc l)))=true∧((OX i l)=true∧((List.length ([]:List PV)==0&&0==0&&decide ((0+List.length (List.drop 0 (List.take (Int.toNat i) (List.map enc l))))*16<=1099511627776)&&decide (0+List.length (List.drop 0 (List.take (Int.toNat i) (List.map enc l)))<=1099511627776))=true∧((List.length (([]:List PV)++List.drop 0 (List.take (Int.toNat i) (List.map enc l)))==0+List.length (List.drop 0 (List.take (Int.toNat i) (List.map enc l)))&&0+List.length (List.drop 0 (List.take (Int.toNat i) (List.map enc l)))==0+List.length (List.drop 0 (List.take (Int.toNat i) (List.map enc l)))&&decide ((0+List.length (List.drop 0 (List.take (Int.toNat i) (List.map enc l)))+List.length (List.drop 0 (List.take 1 [PV.str s])))*16<=1099511627776)&&decide (0+List.length (List.drop 0 (List.take (Int.toNat i) (List.map enc l)))+List.length (List.drop 0 (List.take 1 [PV.str s]))<=1099511627776))=true∧((decide (0<=i)&&true&&(List.isEmpty (List.map enc l)||Enc.sz Str==1)&&decide (Int.toNat i<=List.length (List.map enc l))&&decide (List.length (List.map enc l)<=List.length (List.map enc l)))=true∧((List.isEmpty (List.drop (Int.toNat i) (List.take (List.length (List.map enc l)) (List.map enc l)))||Enc.sz Str==1)=true∧((List.length (([]:List PV)++List.drop 0 (List.take (Int.toNat i) (List.map enc l))++List.drop 0 (List.take 1 [PV.str s]))==0+List.length (List.drop 0 (List.take (Int.toNat i) (List.map enc l)))+List.length (List.drop 0 (List.take 1 [PV.str s]))&&0+List.length (List.drop 0 (List.take (Int.toNat i) (List.map enc l)))+List.length (List.drop 0 (List.take 1 [PV.str s]))==0+List.length (List.drop 0 (List.take (Int.toNat i) (List.map enc l)))+List.length (List.drop 0 (List.take 1 [PV.str s]))&&decide ((0+List.length (List.drop 0 (List.take (Int.toNat i) (List.map enc l)))+List.length (List.drop 0 (List.take 1 [PV.str s]))+List.length (List.drop (Int.toNat i) (List.take (List.length (List.map enc l)) (List.map enc l))))*16<=1099511627776)&&decide (0+List.length (List.drop 0 (List.take (Int.toNat i) (List.map enc l)))+List.length (List.drop 0 (List.take 1 [PV.str s]))+List.length (List.drop (Int.toNat i) (List.take (List.length (List.map enc l)) (List.map enc l)))<=1099511627776))=true∧((List.length (([]:List PV)++List.drop 0 (List.take (Int.toNat i) (List.map enc l))++List.drop 0 (List.take 1 [PV.str s])++List.drop (Int.toNat i) (List.take (List.length (List.map enc l)) (List.map enc l)))==0+List.length (List.drop 0 (List.take (Int.toNat i) (List.map enc l)))+List.length (List.drop 0 (List.take 1 [PV.str s]))+List.length (List.drop (Int.toNat i) (List.take (List.length (List.map enc l)) (List.map enc l))))=true∧(G ((.sl 1 false (List.drop 0 (List.take (0+List.length (List.drop 0 (List.take (Int.toNat i) (List.map enc l)))+List.length (List.drop 0 (List.take 1 [PV.str s]))+List.length (List.drop (Int.toNat i) (List.take (List.length (List.map enc l)) (List.map enc l)))) (([]:List PV)++List.drop 0 (List.take (Int.toNat i) (List.map enc l))++List.drop 0 (List.take 1 [PV.str s])++List.drop (Int.toNat i) (List.take (List.length (List.map enc l)) (List.map enc l)))))))))))))))))):At Ac 0 (Za GI G) G6 0 45 [(0,.pv (enc l)),(1,.pv (.str s)),(5,.pv (.int .i64 i))] []:=At.tp (dm [dr Str] 131 0x11111221112222222201111122111200014222222512201b422222222011111221112222222201111122111200014222222512201b42020024222222512204342) h
noncomputable def ZV:IC:=YI Proofs.Tryz.f71
def ZQ:List IRes:=[(.tmp 2)]
abbrev d4d:Nat:=56
def Z7:ZC:=Yh [(49,.pure (preT (fun x:Tm×Unit=>tW x.1)) (Zi (fun x:Tm×Unit=>Xb x.1))),(107,.pure (preT (fun x:List Str×Str×Unit=>decide (x.1.length<=1048576))) (Zi (fun x:List Str×Str×Unit=>Ul x.1 x.2.1)))]
theorem e9b{G:PV->Prop}(n:Nd)(ks:List Tm)(h:(g5o (Dc n ks) fun a=>(At Z7 0 (Za ZQ G) ZV 0 56 [(3,(.pv (.sl 0 true []))),(4,(.pv (.sl 10 false (List.map enc a)))),(5,(.pv (.int .i64 0)))] []))):Zd Z7 0 (Za ZQ G) ZV [] (Zx 56 [.agg [enc n.kind,enc n.line,enc n.name,enc n.num,enc n.elem,enc n.dims,enc n.data,enc n.sizes,enc n.ranks,enc ks]]):=Zd.tp (.req (Oe (List Tm) (.nil))) h
abbrev Kq(a:List Tm):Nat×AV:=(4,(.pv (.sl 10 false (List.map enc a))))
theorem c3p{G:PV->Prop}(n:Nd)(ks:List Tm)(y:List Tm)(i:Int)(h:if (Cm y i)=true then At Z7 0 (Za ZQ G) ZV 1 56 [(3,(.pv (.sl 0 true []))),(Kq y),(5,(.pv (.int .i64 i))),(6,(.pv (.int .i64 0)))] []else(G ((.sl 0 true [])))):At Z7 0 (Za ZQ G) ZV 0 56 [(3,.pv (.sl 0 true [])),(4,.pv (enc y)),(5,.pv (.int .i64 i))] []:=At.tp (dm [] 8 0x142) h
abbrev R9(a:List Str):Nat×AV:=(3,(.pv (.sl 1 false (List.map enc a))))
theorem c5b{G:PV->Prop}(n:Nd)(ks:List Tm)(y:List Tm)(o:List Str)(i:Int)(h:if (Cm y i)=true then At Z7 0 (Za ZQ G) ZV 1 56 [(R9 o),(Kq y),(5,(.pv (.int .i64 i))),(6,(.pv (.int .i64 0)))] []else(G ((.sl 1 false (List.map enc o))))):At Z7 0 (Za ZQ G) ZV 0 56 [(3,.pv (enc o)),(4,.pv (enc y)),(5,.pv (.int .i64 i))] []:=At.tp (dm [] 8 0x142) h
theorem c4y{G:PV->Prop}(n:Nd)(ks:List Tm)(y:List Tm)(i k:Int)(h:(Y1 y i 10 fun a=>((decide (0+List.length [Sh.sl 2]<=List.length (List.drop 7 (PV.cells (enc a))))&&Yk (List.drop 7 (PV.cells (enc a))) 0 [Sh.sl 2])=true∧(if (decide (k<(↑(List.length (PV.asXs (List.getD (List.drop 7 (PV.cells (enc a))) 0 default))):Int)))=true then At Z7 0 (Za ZQ G) ZV 2 56 [(3,(.pv (.sl 0 true []))),(Kq y),(5,(.pv (.int .i64 i))),(6,(.pv (.int .i64 k))),(7,(.pv (.int .i64 0)))] []else(At Z7 0 (Za ZQ G) ZV 0 56 [(3,(.pv (.sl 0 true []))),(Kq y),(5,(.pv (.int .i64 (IntKind.wrap IntKind.i64 (i+1)))))] []))))):At Z7 0 (Za ZQ G) ZV 1 56 [(3,.pv (.sl 0 true [])),(4,.pv (enc y)),(5,.pv (.int .i64 i)),(6,.pv (.int .i64 k))] []:=At.tp (dm [dr Tm] 12 0x2000142151) h
theorem c0e{G:PV->Prop}(n:Nd)(ks:List Tm)(y:List Tm)(o:List Str)(i k:Int)(h:(Y1 y i 10 fun a=>((decide (0+List.length [Sh.sl 2]<=List.length (List.drop 7 (PV.cells (enc a))))&&Yk (List.drop 7 (PV.cells (enc a))) 0 [Sh.sl 2])=true∧(if (decide (k<(↑(List.length (PV.asXs (List.getD (List.drop 7 (PV.cells (enc a))) 0 default))):Int)))=true then At Z7 0 (Za ZQ G) ZV 2 56 [(R9 o),(Kq y),(5,(.pv (.int .i64 i))),(6,(.pv (.int .i64 k))),(7,(.pv (.int .i64 0)))] []else(At Z7 0 (Za ZQ G) ZV 0 56 [(R9 o),(Kq y),(5,(.pv (.int .i64 (IntKind.wrap IntKind.i64 (i+1)))))] []))))):At Z7 0 (Za ZQ G) ZV 1 56 [(3,.pv (enc o)),(4,.pv (enc y)),(5,.pv (.int .i64 i)),(6,.pv (.int .i64 k))] []:=At.tp (dm [dr Tm] 12 0x2000142151) h
theorem Mt{G:PV->Prop}(n:Nd)(ks:List Tm)(y:List Tm)(i k j:Int)(h:(Y1 y i 10 fun b=>((decide (0+List.length [Sh.sl 2]<=List.length (List.drop 7 (PV.cells (enc b))))&&Yk (List.drop 7 (PV.cells (enc b))) 0 [Sh.sl 2])=true∧((decide (0<=k)&&decide (Int.toNat k<List.length (PV.asXs (List.getD (List.drop 7 (PV.cells (enc b))) 0 default)))&&2==2)=true∧((decide (0+List.length [Sh.sl 2]<=List.length (List.drop 1 (PV.cells (List.getD (PV.asXs (List.getD (List.drop 7 (PV.cells (enc b))) 0 default)) (Int.toNat k) default))))&&Yk (List.drop 1 (PV.cells (List.getD (PV.asXs (List.getD (List.drop 7 (PV.cells (enc b))) 0 default)) (Int.toNat k) default))) 0 [Sh.sl 2])=true∧(if (decide (j<(↑(List.length (PV.asXs (List.getD (List.drop 1 (PV.cells (List.getD (PV.asXs (List.getD (List.drop 7 (PV.cells (enc b))) 0 default)) (Int.toNat k) default))) 0 default))):Int)))=true then(Y1 y i 10 fun a=>((decide (0+List.length [Sh.sl 2]<=List.length (List.drop 7 (PV.cells (enc a))))&&Yk (List.drop 7 (PV.cells (enc a))) 0 [Sh.sl 2])=true∧((decide (0<=k)&&decide (Int.toNat k<List.length (PV.asXs (List.getD (List.drop 7 (PV.cells (enc a))) 0 default)))&&2==2)=true∧((decide (0+List.length [Sh.sl 2]<=List.length (List.drop 1 (PV.cells (List.getD (PV.asXs (List.getD (List.drop 7 (PV.cells (enc a))) 0 default)) (Int.toNat k) default))))&&Yk (List.drop 1 (PV.cells (List.getD (PV.asXs (List.getD (List.drop 7 (PV.cells (enc a))) 0 default)) (Int.toNat k) default))) 0 [Sh.sl 2])=true∧((decide (0<=j)&&decide (Int.toNat j<List.length (PV.asXs (List.getD (List.drop 1 (PV.cells (List.getD (PV.asXs (List.getD (List.drop 7 (PV.cells (enc a))) 0 default)) (Int.toNat k) default))) 0 default)))&&2==2)=true∧((decide (0+List.length [Sh.str]<=List.length (List.drop 0 (PV.cells (List.getD (PV.asXs (List.getD (List.drop 1 (PV.cells (List.getD (PV.asXs (List.getD (List.drop 7 (PV.cells (enc a))) 0 default)) (Int.toNat k) default))) 0 default)) (Int.toNat j) default))))&&Yk (List.drop 0 (PV.cells (List.getD (PV.asXs (List.getD (List.drop 1 (PV.cells (List.getD (PV.asXs (List.getD (List.drop 7 (PV.cells (enc a))) 0 default)) (Int.toNat k) default))) 0 default)) (Int.toNat j) default))) 0 [Sh.str])=true∧(g6q [(.sl 0 true []),(.str (PV.asStr (List.getD (List.drop 0 (PV.cells (List.getD (PV.asXs (List.getD (List.drop 1 (PV.cells (List.getD (PV.asXs (List.getD (List.drop 7 (PV.cells (enc a))) 0 default)) (Int.toNat k) default))) 0 default)) (Int.toNat j) default))) 0 default)))] fun e=>(At Z7 0 (Za ZQ G) ZV 2 56 [(3,(.pv (.sl 1 false (List.map enc e)))),(Kq y),(5,(.pv (.int .i64 i))),(6,(.pv (.int .i64 k))),(7,(.pv (.int .i64 (IntKind.wrap IntKind.i64 (j+1)))))] []))))))))else(At Z7 0 (Za ZQ G) ZV 1 56 [(3,(.pv (.sl 0 true []))),(Kq y),(5,(.pv (.int .i64 i))),(6,(.pv (.int .i64 (IntKind.wrap IntKind.i64 (k+1)))))] []))))))):At Z7 0 (Za ZQ G) ZV 2 56 [(3,.pv (.sl 0 true [])),(4,.pv (enc y)),(5,.pv (.int .i64 i)),(6,.pv (.int .i64 k)),(7,.pv (.int .i64 j))] []:=At.tp (dm [dr Tm,dv (List Str)] 27 0x2026213113115100d42131151) h
theorem ML{G:PV->Prop}(n:Nd)(ks:List Tm)(y:List Tm)(o:List Str)(i k j:Int)(h:(Y1 y i 10 fun b=>((decide (0+List.length [Sh.sl 2]<=List.length (List.drop 7 (PV.cells (enc b))))&&Yk (List.drop 7 (PV.cells (enc b))) 0 [Sh.sl 2])=true∧((decide (0<=k)&&decide (Int.toNat k<List.length (PV.asXs (List.getD (List.drop 7 (PV.cells (enc b))) 0 default)))&&2==2)=true∧((decide (0+List.length [Sh.sl 2]<=List.length (List.drop 1 (PV.cells (List.getD (PV.asXs (List.getD (List.drop 7 (PV.cells (enc b))) 0 default)) (Int.toNat k) default))))&&Yk (List.drop 1 (PV.cells (List.getD (PV.asXs (List.getD (List.drop 7 (PV.cells (enc b))) 0 default)) (Int.toNat k) default))) 0 [Sh.sl 2])=true∧(if (decide (j<(↑(List.length (PV.asXs (List.getD (List.drop 1 (PV.cells (List.getD (PV.asXs (List.getD (List.drop 7 (PV.cells (enc b))) 0 default)) (Int.toNat k) default))) 0 default))):Int)))=true then(Y1 y i 10 fun a=>((decide (0+List.length [Sh.sl 2]<=List.length (List.drop 7 (PV.cells (enc a))))&&Yk (List.drop 7 (PV.cells (enc a))) 0 [Sh.sl 2])=true∧((decide (0<=k)&&decide (Int.toNat k<List.length (PV.asXs (List.getD (List.drop 7 (PV.cells (enc a))) 0 default)))&&2==2)=true∧((decide (0+List.length [Sh.sl 2]<=List.length (List.drop 1 (PV.cells (List.getD (PV.asXs (List.getD (List.drop 7 (PV.cells (enc a))) 0 default)) (Int.toNat k) default))))&&Yk (List.drop 1 (PV.cells (List.getD (PV.asXs (List.getD (List.drop 7 (PV.cells (enc a))) 0 default)) (Int.toNat k) default))) 0 [Sh.sl 2])=true∧((decide (0<=j)&&decide (Int.toNat j<List.length (PV.asXs (List.getD (List.drop 1 (PV.cells (List.getD (PV.asXs (List.getD (List.drop 7 (PV.cells (enc a))) 0 default)) (Int.toNat k) default))) 0 default)))&&2==2)=true∧((decide (0+List.length [Sh.str]<=List.length (List.drop 0 (PV.cells (List.getD (PV.asXs (List.getD (List.drop 1 (PV.cells (List.getD (PV.asXs (List.getD (List.drop 7 (PV.cells (enc a))) 0 default)) (Int.toNat k) default))) 0 default)) (Int.toNat j) default))))&&Yk (List.drop 0 (PV.cells (List.getD (PV.asXs (List.getD (List.drop 1 (PV.cells (List.getD (PV.asXs (List.getD (List.drop 7 (PV.cells (enc a))) 0 default)) (Int.toNat k) default))) 0 default)) (Int.toNat j) default))) 0 [Sh.str])=true∧((g4x [(.sl 1 false (List.map enc o)),(.str (PV.asStr (List.getD (List.drop 0 (PV.cells (List.getD (PV.asXs (List.getD (List.drop 1 (PV.cells (List.getD (PV.asXs (List.getD (List.drop 7 (PV.cells (enc a))) 0 default)) (Int.toNat k) default))) 0 default)) (Int.toNat j) default))) 0 default)))] fun e=>(At Z7 0 (Za ZQ G) ZV 2 56 [(3,(.pv (.sl 1 false (List.map enc e)))),(Kq y),(5,(.pv (.int .i64 i))),(6,(.pv (.int .i64 k))),(7,(.pv (.int .i64 (IntKind.wrap IntKind.i64 (j+1)))))] [])))))))))else(At Z7 0 (Za ZQ G) ZV 1 56 [(R9 o),(Kq y),(5,(.pv (.int .i64 i))),(6,(.pv (.int .i64 (IntKind.wrap IntKind.i64 (k+1)))))] []))))))):At Z7 0 (Za ZQ G) ZV 2 56 [(3,.pv (enc o)),(4,.pv (enc y)),(5,.pv (.int .i64 i)),(6,.pv (.int .i64 k)),(7,.pv (.int .i64 j))] []:=At.tp (dm [dr Tm,dv (List Str)] 27 0x2026113113115100d42131151) h
noncomputable def a5r:IC:=YI Proofs.Tryz.f73
def Pi:List IRes:=[(.tmp 2),(.tmp 3),(.tmp 4)]
abbrev c8o:Nat:=69
def Eg:ZC:=Yh [(109,.pure (preT (fun _:Str×Unit=>true)) (Zi (fun x:Str×Unit=>JU x.1))),(110,.pure (preT (fun _:Str×Bool×Unit=>true)) (Zi (fun x:Str×Bool×Unit=>Va x.1 x.2.1)))]
theorem e5x{G:PV->Prop}(n:Nd)(ks:List Tm)(h:Ty (fun(x:Str×Unit)=>JU x.1) [(.str (Str.s (Nd.name n)))] fun e:R3 Str Bool Bool=>if (Nd.kind n != 6)=true then G ((.tup [(.str []),(.int .i64 0),(.bool false)]))else(if (!R3.c e)=true then G ((.tup [(.str []),(.int .i64 0),(.bool false)]))else(if (decide (IntKind.wrap IntKind.i64 ((↑(List.length (List.map enc (Nd.sizes n))):Int)+(↑(List.length (List.map enc (Nd.ranks n))):Int))>0))=true then G ((.tup [(.str []),(.int .i64 0),(.bool false)]))else(if (Nd.num n != 0)=true then G ((.tup [(.str []),(.int .i64 0),(.bool false)]))else(if ((↑(List.length (List.map enc ks)):Int) != 1)=true then if (R3.b e)=true then G ((.tup [(.str []),(.int .i64 0),(.bool false)]))else(if ((↑(List.length (List.map enc ks)):Int) != 2)=true then if (!R3.b e)=true then G ((.tup [(.str []),(.int .i64 0),(.bool false)]))else(b4p [(.str (Str.s (R3.a e))),(.bool (R3.b e))] fun j=>(G ((.tup [(.str (Str.s (R3.a e))),(.int .i64 (R3.b j)),(.bool (R3.b e))]))))else(b4p [(.str (Str.s (R3.a e))),(.bool (R3.b e))] fun g=>(G ((.tup [(.str (Str.s (R3.a e))),(.int .i64 (R3.b g)),(.bool (R3.b e))])))))else(if ((↑(List.length (List.map enc ks)):Int) != 2)=true then if (!R3.b e)=true then G ((.tup [(.str []),(.int .i64 0),(.bool false)]))else(b4p [(.str (Str.s (R3.a e))),(.bool (R3.b e))] fun i=>(G ((.tup [(.str (Str.s (R3.a e))),(.int .i64 (R3.b i)),(.bool (R3.b e))]))))else(b4p [(.str (Str.s (R3.a e))),(.bool (R3.b e))] fun k=>(G ((.tup [(.str (Str.s (R3.a e))),(.int .i64 (R3.b k)),(.bool (R3.b e))])))))))))):Zd Eg 0 (Za Pi G) a5r [] (Zx 69 [.agg [enc n.kind,enc n.line,enc n.name,enc n.num,enc n.elem,enc n.dims,enc n.data,enc n.sizes,enc n.ranks,enc ks]]):=Zd.tp (dm [dv (R3 Str Bool Bool),dv (R3 Str Int Bool)] 215 0x622222206200014222200c42222222220622222206200014222200c42222202222222008422202c42222202222222222222200f42222022222222222222222201342222222222022222222222222222222222222201c422022222222222222222222222222222201f4252) h
noncomputable def b4d:IC:=YI Proofs.Tryz.f75
def FX:List IRes:=[(.tmp 2)]
abbrev e3u:Nat:=34
def b2b:ZC:=Yh [(73,.pure (preT (fun x:Tm×Unit=>tW x.1)) (Zi (fun x:Tm×Unit=>CK x.1)))]
theorem g0f{G:PV->Prop}(n:Nd)(ks:List Tm)(h:(f3b (Dc n ks) fun e=>(if (Nd.kind n==5)=true then G ((.int .i64 0))else(if (!Str.s (R3.a e)==[])=true then G ((.int .i64 (R3.b e)))else(if (Nd.kind n==2)=true then if (Str.s (Nd.name n)==[(105:UInt8),(110:UInt8),(116:UInt8)])=true then if (decide (Nd.num n<0))=true then G ((.int .i64 6))else(G ((.int .i64 7)))else(G ((.int .i64 7)))else(G ((.int .i64 7)))))))):Zd b2b 0 (Za FX G) b4d [] (Zx 34 [.agg [enc n.kind,enc n.line,enc n.name,enc n.num,enc n.elem,enc n.dims,enc n.data,enc n.sizes,enc n.ranks,enc ks]]):=Zd.tp (dm [dv (R3 Str Int Bool)] 52 0x2222222202222000014222200a422220174200014200014251) h
noncomputable def b8e:IC:=YI Proofs.Tryz.f74
def FM:List IRes:=[(.tmp 4)]
abbrev e8s:Nat:=12
def b0v(N:Nat):ZC:=Yh [(46,.pure (preT (fun x:Tm×Unit=>(tW x.1&&Ya x.1)&&decide (Z4 x.1<N))) (Zi (fun x:Tm×Unit=>Zt x.1)))]
theorem f4l{G:PV->Prop}(N:Nat)(n:Nd)(ks:List Tm)(b:Bool)(h:if (b)=true then(SX N (Dc n ks) fun a=>(Zz [(40:UInt8)] (Str.s a)∧(Zz ([(40:UInt8)]++Str.s a) [(41:UInt8)]∧(G ((.str ([(40:UInt8)]++Str.s a++[(41:UInt8)])))))))else((SX N (Dc n ks) fun e=>(G ((.str (Str.s e))))))):Zd (b0v N) 0 (Za FM G) b8e [] (Zx 12 [.agg [enc n.kind,enc n.line,enc n.name,enc n.num,enc n.elem,enc n.dims,enc n.data,enc n.sizes,enc n.ranks,enc ks],.bool b]):=Zd.tp (dm [dv Str] 13 0x51011510054) h
noncomputable def QJ:IC:=YI Proofs.Tryz.f78
def QE:List IRes:=[(.tmp 2)]
abbrev d1g:Nat:=23
def JS(N:Nat):ZC:=Yh [(46,.pure (preT (fun x:Tm×Unit=>(tW x.1&&Ya x.1)&&decide (Z4 x.1<N))) (Zi (fun x:Tm×Unit=>Zt x.1)))]
abbrev a8f(a:List Tm):Nat×AV:=(0,(.pv (.sl 10 false (List.map enc a))))
theorem e7n{G:PV->Prop}(N:Nat)(l:List Tm)(h:At (JS N) 0 (Za QE G) QJ 0 23 [(a8f l),(3,(.pv (.str []))),(4,(.pv (.int .i64 0)))] []):Zd (JS N) 0 (Za QE G) QJ [] (Zx 23 [enc l]):=Zd.tp (.nil) h
theorem a3o{G:PV->Prop}(N:Nat)(l:List Tm)(o:List UInt8)(i:Int)(h:if (Cm l i)=true then if (decide (i>0))=true then Zz o [(44:UInt8),(32:UInt8)]∧((Y1 l i 10 fun e=>(BK e=true∧((SX N (Kz e) fun g=>(Zz (o++[(44:UInt8),(32:UInt8)]) (Str.s g)∧(At (JS N) 0 (Za QE G) QJ 0 23 [(a8f l),(3,(.pv (.str (o++[(44:UInt8),(32:UInt8)]++Str.s g)))),(4,(.pv (.int .i64 (IntKind.wrap IntKind.i64 (i+1)))))] [])))))))else((Y1 l i 10 fun a=>(BK a=true∧((SX N (Kz a) fun b=>(Zz o (Str.s b)∧(At (JS N) 0 (Za QE G) QJ 0 23 [(a8f l),(3,(.pv (.str (o++Str.s b)))),(4,(.pv (.int .i64 (IntKind.wrap IntKind.i64 (i+1)))))] [])))))))else(G ((.str o)))):At (JS N) 0 (Za QE G) QJ 0 23 [(0,.pv (enc l)),(3,.pv (.str o)),(4,.pv (.int .i64 i))] []:=At.tp (dm [dr Tm,dv Str] 29 0x21611510216115110094201642) h
noncomputable def Uv:IC:=YI Proofs.Tryz.f111
def Ut:List IRes:=[(.tmp 2)]
abbrev c0o:Nat:=23
def QC:ZC:=Yh [(79,.pure (preT (fun x:Lin×Unit=>Wn x.1)) (Zi (fun x:Lin×Unit=>(⟨ZE x.1⟩:Str))))]
abbrev b2a(a:List Lin):Nat×AV:=(0,(.pv (.sl 2 false (List.map enc a))))
theorem d7j{G:PV->Prop}(l:List Lin)(h:At QC 0 (Za Ut G) Uv 0 23 [(b2a l),(3,(.pv (.str []))),(4,(.pv (.int .i64 0)))] []):Zd QC 0 (Za Ut G) Uv [] (Zx 23 [enc l]):=Zd.tp (.nil) h
theorem LQ{G:PV->Prop}(l:List Lin)(o:List UInt8)(i:Int)(h:if (Cm l i)=true then if (decide (i>0))=true then Zz o [(44:UInt8),(32:UInt8)]∧((Y1 l i 2 fun e=>((b3r [(.agg [(.int .i64 (PV.asInt (Vy e))),(.sl 2 false (PV.asXs (Tv e)))])] fun g=>(Zz (o++[(44:UInt8),(32:UInt8)]) (Str.s g)∧(At QC 0 (Za Ut G) Uv 0 23 [(b2a l),(3,(.pv (.str (o++[(44:UInt8),(32:UInt8)]++Str.s g)))),(4,(.pv (.int .i64 (IntKind.wrap IntKind.i64 (i+1)))))] []))))))else((Y1 l i 2 fun a=>((b3r [(.agg [(.int .i64 (PV.asInt (Vy a))),(.sl 2 false (PV.asXs (Tv a)))])] fun b=>(Zz o (Str.s b)∧(At QC 0 (Za Ut G) Uv 0 23 [(b2a l),(3,(.pv (.str (o++Str.s b)))),(4,(.pv (.int .i64 (IntKind.wrap IntKind.i64 (i+1)))))] []))))))else(G ((.str o)))):At QC 0 (Za Ut G) Uv 0 23 [(0,.pv (enc l)),(3,.pv (.str o)),(4,.pv (.int .i64 i))] []:=At.tp (dm [dr Lin,dv Str] 29 0x21612510216125110094201642) h
noncomputable def XY:IC:=YI Proofs.Tryz.f77
def XN:List IRes:=[(.tmp 2)]
abbrev d0k:Nat:=64
def WB(N:Nat):ZC:=Yh [(111,.pure (preT (fun x:List Lin×Unit=>decide (x.1.length<=1048576)&&x.1.all Zh)) (Zi (fun x:List Lin×Unit=>Yi (x.1.map Yu)))),(76,.pure (preT (fun x:Int×Unit=>decide (x.1.natAbs<9223372036854775808))) (Zi (fun x:Int×Unit=>Zq x.1))),(78,.pure (preT (fun x:List Tm×Unit=>(tsW x.1&&Ws x.1)&&decide (Yc x.1<N))) (Zi (fun x:List Tm×Unit=>Yi (x.1.map Zt))))]
theorem e4h{G:PV->Prop}(N:Nat)(n:Nd)(ks:List Tm)(h:if (decide ((↑(List.length (List.map enc (Nd.sizes n))):Int)>0))=true then(g5m [(.sl 2 false (List.map enc (Nd.sizes n)))] fun a=>(Zz [(91:UInt8)] (Str.s a)∧(Zz ([(91:UInt8)]++Str.s a) [(93:UInt8)]∧(Zz (Str.s (Nd.name n)) ([(91:UInt8)]++Str.s a++[(93:UInt8)])∧(if (Nd.num n != 0)=true then(Ld [(.int .i64 (Nd.num n))] fun e=>(Zz [(123:UInt8)] (Str.s e)∧(Zz ([(123:UInt8)]++Str.s e) [(125:UInt8)]∧(Zz (Str.s (Nd.name n)++([(91:UInt8)]++Str.s a++[(93:UInt8)])) ([(123:UInt8)]++Str.s e++[(125:UInt8)])∧(At (WB N) 0 (Za XN G) XY 0 64 [(1,(.ptr 0 0)),(3,(.pv (.str (Str.s (Nd.name n)++([(91:UInt8)]++Str.s a++[(93:UInt8)])++([(123:UInt8)]++Str.s e++[(125:UInt8)]))))),(4,(.pv (.int .i64 0)))] [(.obj (.box (ZY n ks)))])))))else(At (WB N) 0 (Za XN G) XY 0 64 [(1,(.ptr 0 0)),(3,(.pv (.str (Str.s (Nd.name n)++([(91:UInt8)]++Str.s a++[(93:UInt8)]))))),(4,(.pv (.int .i64 0)))] [(.obj (.box (ZY n ks)))]))))))else(if (Nd.num n != 0)=true then(Ld [(.int .i64 (Nd.num n))] fun b=>(Zz [(123:UInt8)] (Str.s b)∧(Zz ([(123:UInt8)]++Str.s b) [(125:UInt8)]∧(Zz (Str.s (Nd.name n)) ([(123:UInt8)]++Str.s b++[(125:UInt8)])∧(At (WB N) 0 (Za XN G) XY 0 64 [(1,(.ptr 0 0)),(3,(.pv (.str (Str.s (Nd.name n)++([(123:UInt8)]++Str.s b++[(125:UInt8)]))))),(4,(.pv (.int .i64 0)))] [(.obj (.box (ZY n ks)))])))))else(At (WB N) 0 (Za XN G) XY 0 64 [(1,(.ptr 0 0)),(3,(.pv (.str (Str.s (Nd.name n))))),(4,(.pv (.int .i64 0)))] [(.obj (.box (ZY n ks)))]))):Zd (WB N) 0 (Za XN G) XY [] (Zx 64 [.agg [enc n.kind,enc n.line,enc n.name,enc n.num,enc n.elem,enc n.dims,enc n.data,enc n.sizes,enc n.ranks,enc ks]]):=Zd.tp (dm [dv Str] 35 0x11151006420011151006421115101142) h
theorem a0f{G:PV->Prop}(N:Nat)(n:Nd)(ks:List Tm)(o:List UInt8)(i:Int)(h:if (Cm (Nd.ranks n) i)=true then if (i==0)=true then Zz o [(64:UInt8),(40:UInt8)]∧((Y1 (Nd.ranks n) i 1 fun j=>((Ld [(.int .i64 (PV.asInt (Vy j)))] fun b=>(Zz (o++[(64:UInt8),(40:UInt8)]) (Str.s b)∧(if (i==IntKind.wrap IntKind.i64 ((↑(List.length (List.map enc (Nd.ranks n))):Int) - 1))=true then Zz (o++[(64:UInt8),(40:UInt8)]++Str.s b) [(41:UInt8)]∧(At (WB N) 0 (Za XN G) XY 0 64 [(1,(.ptr 0 0)),(3,(.pv (.str (o++[(64:UInt8),(40:UInt8)]++Str.s b++[(41:UInt8)])))),(4,(.pv (.int .i64 (IntKind.wrap IntKind.i64 (i+1)))))] [(.obj (.box (ZY n ks)))])else(At (WB N) 0 (Za XN G) XY 0 64 [(1,(.ptr 0 0)),(3,(.pv (.str (o++[(64:UInt8),(40:UInt8)]++Str.s b)))),(4,(.pv (.int .i64 (IntKind.wrap IntKind.i64 (i+1)))))] [(.obj (.box (ZY n ks)))])))))))else(Zz o [(44:UInt8),(32:UInt8)]∧((Y1 (Nd.ranks n) i 1 fun g=>((Ld [(.int .i64 (PV.asInt (Vy g)))] fun a=>(Zz (o++[(44:UInt8),(32:UInt8)]) (Str.s a)∧(if (i==IntKind.wrap IntKind.i64 ((↑(List.length (List.map enc (Nd.ranks n))):Int) - 1))=true then Zz (o++[(44:UInt8),(32:UInt8)]++Str.s a) [(41:UInt8)]∧(At (WB N) 0 (Za XN G) XY 0 64 [(1,(.ptr 0 0)),(3,(.pv (.str (o++[(44:UInt8),(32:UInt8)]++Str.s a++[(41:UInt8)])))),(4,(.pv (.int .i64 (IntKind.wrap IntKind.i64 (i+1)))))] [(.obj (.box (ZY n ks)))])else(At (WB N) 0 (Za XN G) XY 0 64 [(1,(.ptr 0 0)),(3,(.pv (.str (o++[(44:UInt8),(32:UInt8)]++Str.s a)))),(4,(.pv (.int .i64 (IntKind.wrap IntKind.i64 (i+1)))))] [(.obj (.box (ZY n ks)))]))))))))else(Zz o [(40:UInt8)]∧((PG N [(.sl 10 false (List.map enc ks))] fun e=>(Zz (o++[(40:UInt8)]) (Str.s e)∧(Zz (o++[(40:UInt8)]++Str.s e) [(41:UInt8)]∧(G ((.str (o++[(40:UInt8)]++Str.s e++[(41:UInt8)])))))))))):At (WB N) 0 (Za XN G) XY 0 64 [(1,.ptr 0 0),(3,.pv (.str o)),(4,.pv (.int .i64 i))] [.obj (.box [.pv (enc n.kind),.pv (enc n.line),.pv (enc n.name),.pv (enc n.num),.pv (enc n.elem),.pv (enc n.dims),.pv (enc n.data),.pv (enc n.sizes),.pv (enc n.ranks),.pv (enc ks)])]:=At.tp (dm [dr Int,dv Str] 53 0x116110202100342216125110202100342216125110124202942) h
noncomputable def a5n:IC:=YI Proofs.Tryz.f46
def Pb:List IRes:=[(.tmp 2)]
abbrev e1e:Nat:=173
def O8(N:Nat):ZC:=Yh [(73,.pure (preT (fun x:Tm×Unit=>tW x.1)) (Zi (fun x:Tm×Unit=>CK x.1))),(75,.pure (preT (fun x:Tm×Unit=>tW x.1)) (Zi (fun x:Tm×Unit=>X8 x.1))),(74,.pure (preT (fun x:Tm×Bool×Unit=>(tW x.1&&Ya x.1)&&decide (Z4 x.1<N))) (Zi (fun x:Tm×Bool×Unit=>Ay x.2.1 x.1))),(46,.pure (preT (fun x:Tm×Unit=>(tW x.1&&Ya x.1)&&decide (Z4 x.1<N))) (Zi (fun x:Tm×Unit=>Zt x.1))),(76,.pure (preT (fun x:Int×Unit=>decide (x.1.natAbs<9223372036854775808))) (Zi (fun x:Int×Unit=>Zq x.1))),(77,.pure (preT (fun x:Tm×Unit=>(tW x.1&&Ya x.1&&decide (x.1.nd.kind=6))&&decide (Yc x.1.ks<N))) (Zi (fun x:Tm×Unit=>Q6 x.1))),(78,.pure (preT (fun x:List Tm×Unit=>(tsW x.1&&Ws x.1)&&decide (Yc x.1<N))) (Zi (fun x:List Tm×Unit=>Yi (x.1.map Zt)))),(79,.pure (preT (fun x:Lin×Unit=>Wn x.1)) (Zi (fun x:Lin×Unit=>(⟨ZE x.1⟩:Str)))),(80,.pure (preT (fun x:Arr×Unit=>VH x.1&&WE x.1)) (Zi (fun x:Arr×Unit=>J7 x.1)))]
abbrev d1p(a:Nd)(XU:PV->Prop):Prop:=(if (Nd.num a==1)=true then XU ((.str [(116:UInt8),(114:UInt8),(117:UInt8),(101:UInt8)]))else(XU ((.str [(102:UInt8),(97:UInt8),(108:UInt8),(115:UInt8),(101:UInt8)]))))
theorem e8n{G:PV->Prop}(N:Nat)(n:Nd)(ks:List Tm)(h:(f3b (Dc n ks) fun e=>(if (!Str.s (R3.a e)==[])=true then if (R3.c e)=true then(Y1 ks 0 10 fun u=>(BK u=true∧((QU (Kz u) fun y2=>(if (decide (y2<6))=true then(WS N (N8 u true) fun y3=>(Zz (Str.s (R3.a e)) (Str.s y3)∧(G ((.str (Str.s (R3.a e)++Str.s y3))))))else(if (Str.s (R3.a e)==[(45:UInt8)])=true then if (PV.asInt (Vy u)==2)=true then if (PV.asStr (List.getD (PV.cells (enc u)) (0+1+1) default)==[(105:UInt8),(110:UInt8),(116:UInt8)])=true then(WS N (N8 u (decide (PV.asInt (List.getD (PV.cells (enc u)) (0+1+1+1) default) ≥ 0))) fun y4=>(Zz (Str.s (R3.a e)) (Str.s y4)∧(G ((.str (Str.s (R3.a e)++Str.s y4))))))else((WS N (N8 u false) fun y5=>(Zz (Str.s (R3.a e)) (Str.s y5)∧(G ((.str (Str.s (R3.a e)++Str.s y5)))))))else((WS N (N8 u false) fun y6=>(Zz (Str.s (R3.a e)) (Str.s y6)∧(G ((.str (Str.s (R3.a e)++Str.s y6)))))))else((WS N (N8 u false) fun y7=>(Zz (Str.s (R3.a e)) (Str.s y7)∧(G ((.str (Str.s (R3.a e)++Str.s y7)))))))))))))else(if (!Str.s (R3.a e)==[])=true then(Y1 ks 0 10 fun K=>(BK K=true∧((Y1 ks 1 10 fun D=>(BK D=true∧((QU (Kz K) fun y10=>(if (decide (y10<R3.b e))=true then(WS N (N8 K true) fun l=>(Zz (Str.s l) [(32:UInt8)]∧(Zz (Str.s l++[(32:UInt8)]) (Str.s (R3.a e))∧(Zz (Str.s l++[(32:UInt8)]++Str.s (R3.a e)) [(32:UInt8)]∧((QU (Kz D) fun y12=>((WS N (N8 D (decide (y12<=R3.b e))) fun y13=>(Zz (Str.s l++[(32:UInt8)]++Str.s (R3.a e)++[(32:UInt8)]) (Str.s y13)∧(G ((.str (Str.s l++[(32:UInt8)]++Str.s (R3.a e)++[(32:UInt8)]++Str.s y13)))))))))))))else((QU (Kz K) fun y14=>(if (y14==3)=true then(WS N (N8 K (R3.b e==3)) fun j=>(Zz (Str.s j) [(32:UInt8)]∧(Zz (Str.s j++[(32:UInt8)]) (Str.s (R3.a e))∧(Zz (Str.s j++[(32:UInt8)]++Str.s (R3.a e)) [(32:UInt8)]∧((QU (Kz D) fun y16=>((WS N (N8 D (decide (y16<=R3.b e))) fun V=>(Zz (Str.s j++[(32:UInt8)]++Str.s (R3.a e)++[(32:UInt8)]) (Str.s V)∧(G ((.str (Str.s j++[(32:UInt8)]++Str.s (R3.a e)++[(32:UInt8)]++Str.s V)))))))))))))else((WS N (N8 K false) fun k=>(Zz (Str.s k) [(32:UInt8)]∧(Zz (Str.s k++[(32:UInt8)]) (Str.s (R3.a e))∧(Zz (Str.s k++[(32:UInt8)]++Str.s (R3.a e)) [(32:UInt8)]∧((QU (Kz D) fun y19=>((WS N (N8 D (decide (y19<=R3.b e))) fun M=>(Zz (Str.s k++[(32:UInt8)]++Str.s (R3.a e)++[(32:UInt8)]) (Str.s M)∧(G ((.str (Str.s k++[(32:UInt8)]++Str.s (R3.a e)++[(32:UInt8)]++Str.s M)))))))))))))))))))))))))else(if (Nd.kind n==5)=true then Zz [(108:UInt8),(101:UInt8),(116:UInt8),(32:UInt8)] (Str.s (Nd.name n))∧(Zz ([(108:UInt8),(101:UInt8),(116:UInt8),(32:UInt8)]++Str.s (Nd.name n)) [(32:UInt8),(61:UInt8),(32:UInt8)]∧((Y1 ks 0 10 fun O=>(BK O=true∧((SX N (Kz O) fun y=>(Zz ([(108:UInt8),(101:UInt8),(116:UInt8),(32:UInt8)]++Str.s (Nd.name n)++[(32:UInt8),(61:UInt8),(32:UInt8)]) (Str.s y)∧(Zz ([(108:UInt8),(101:UInt8),(116:UInt8),(32:UInt8)]++Str.s (Nd.name n)++[(32:UInt8),(61:UInt8),(32:UInt8)]++Str.s y) [(32:UInt8),(105:UInt8),(110:UInt8),(32:UInt8)]∧((Y1 ks 1 10 fun Q=>(BK Q=true∧((SX N (Kz Q) fun U=>(Zz ([(108:UInt8),(101:UInt8),(116:UInt8),(32:UInt8)]++Str.s (Nd.name n)++[(32:UInt8),(61:UInt8),(32:UInt8)]++Str.s y++[(32:UInt8),(105:UInt8),(110:UInt8),(32:UInt8)]) (Str.s U)∧(G ((.str ([(108:UInt8),(101:UInt8),(116:UInt8),(32:UInt8)]++Str.s (Nd.name n)++[(32:UInt8),(61:UInt8),(32:UInt8)]++Str.s y++[(32:UInt8),(105:UInt8),(110:UInt8),(32:UInt8)]++Str.s U))))))))))))))))))else(if (Nd.kind n==2)=true then if (Str.s (Nd.name n)==[(105:UInt8),(110:UInt8),(116:UInt8)])=true then(Ld [(.int .i64 (Nd.num n))] fun y25=>(G ((.str (Str.s y25)))))else(d1p n G)else(if (Nd.kind n==6)=true then(d9n N (Dc n ks) fun y26=>(G ((.str (Str.s y26)))))else(if (Nd.kind n==7)=true then(PG N [(.sl 10 false (List.map enc ks))] fun E=>(Zz [(91:UInt8)] (Str.s E)∧(Zz ([(91:UInt8)]++Str.s E) [(93:UInt8)]∧(G ((.str ([(91:UInt8)]++Str.s E++[(93:UInt8)])))))))else(if (Nd.kind n==8)=true then Zz [(102:UInt8),(111:UInt8),(108:UInt8),(100:UInt8),(40:UInt8)] (Str.s (Nd.name n))∧(Zz ([(102:UInt8),(111:UInt8),(108:UInt8),(100:UInt8),(40:UInt8)]++Str.s (Nd.name n)) [(44:UInt8),(32:UInt8)]∧((PG N [(.sl 10 false (List.map enc ks))] fun J=>(Zz ([(102:UInt8),(111:UInt8),(108:UInt8),(100:UInt8),(40:UInt8)]++Str.s (Nd.name n)++[(44:UInt8),(32:UInt8)]) (Str.s J)∧(Zz ([(102:UInt8),(111:UInt8),(108:UInt8),(100:UInt8),(40:UInt8)]++Str.s (Nd.name n)++[(44:UInt8),(32:UInt8)]++Str.s J) [(41:UInt8)]∧(G ((.str ([(102:UInt8),(111:UInt8),(108:UInt8),(100:UInt8),(40:UInt8)]++Str.s (Nd.name n)++[(44:UInt8),(32:UInt8)]++Str.s J++[(41:UInt8)])))))))))else(if (Nd.kind n==9)=true then Zz [(115:UInt8),(99:UInt8),(97:UInt8),(110:UInt8),(40:UInt8)] (Str.s (Nd.name n))∧(Zz ([(115:UInt8),(99:UInt8),(97:UInt8),(110:UInt8),(40:UInt8)]++Str.s (Nd.name n)) [(44:UInt8),(32:UInt8)]∧((PG N [(.sl 10 false (List.map enc ks))] fun F=>(Zz ([(115:UInt8),(99:UInt8),(97:UInt8),(110:UInt8),(40:UInt8)]++Str.s (Nd.name n)++[(44:UInt8),(32:UInt8)]) (Str.s F)∧(Zz ([(115:UInt8),(99:UInt8),(97:UInt8),(110:UInt8),(40:UInt8)]++Str.s (Nd.name n)++[(44:UInt8),(32:UInt8)]++Str.s F) [(41:UInt8)]∧(G ((.str ([(115:UInt8),(99:UInt8),(97:UInt8),(110:UInt8),(40:UInt8)]++Str.s (Nd.name n)++[(44:UInt8),(32:UInt8)]++Str.s F++[(41:UInt8)])))))))))else(if (Nd.kind n==4)=true then(Y1 (Nd.sizes n) 0 2 fun L=>((b3r [(.agg [(.int .i64 (PV.asInt (Vy L))),(.sl 2 false (PV.asXs (Tv L)))])] fun B=>(Zz [(115:UInt8),(105:UInt8),(122:UInt8),(101:UInt8),(91:UInt8)] (Str.s B)∧(Zz ([(115:UInt8),(105:UInt8),(122:UInt8),(101:UInt8),(91:UInt8)]++Str.s B) [(93:UInt8)]∧(G ((.str ([(115:UInt8),(105:UInt8),(122:UInt8),(101:UInt8),(91:UInt8)]++Str.s B++[(93:UInt8)])))))))))else(if (Nd.kind n==3)=true then(e1u [(.agg [(.str (Str.s (Nd.elem n))),(.sl 1 false (List.map enc (Nd.dims n))),(.sl 1 false (List.map enc (Nd.data n)))])] fun y32=>(G ((.str (Str.s y32.1)))))else(G ((.str (Str.s (Nd.name n))))))))))))))else(if (!Str.s (R3.a e)==[])=true then(Y1 ks 0 10 fun i=>(BK i=true∧((Y1 ks 1 10 fun g=>(BK g=true∧((QU (Kz i) fun y35=>(if (decide (y35<R3.b e))=true then(WS N (N8 i true) fun q=>(Zz (Str.s q) [(32:UInt8)]∧(Zz (Str.s q++[(32:UInt8)]) (Str.s (R3.a e))∧(Zz (Str.s q++[(32:UInt8)]++Str.s (R3.a e)) [(32:UInt8)]∧((QU (Kz g) fun y37=>((WS N (N8 g (decide (y37<=R3.b e))) fun S=>(Zz (Str.s q++[(32:UInt8)]++Str.s (R3.a e)++[(32:UInt8)]) (Str.s S)∧(G ((.str (Str.s q++[(32:UInt8)]++Str.s (R3.a e)++[(32:UInt8)]++Str.s S)))))))))))))else((QU (Kz i) fun y39=>(if (y39==3)=true then(WS N (N8 i (R3.b e==3)) fun r=>(Zz (Str.s r) [(32:UInt8)]∧(Zz (Str.s r++[(32:UInt8)]) (Str.s (R3.a e))∧(Zz (Str.s r++[(32:UInt8)]++Str.s (R3.a e)) [(32:UInt8)]∧((QU (Kz g) fun y41=>((WS N (N8 g (decide (y41<=R3.b e))) fun Z=>(Zz (Str.s r++[(32:UInt8)]++Str.s (R3.a e)++[(32:UInt8)]) (Str.s Z)∧(G ((.str (Str.s r++[(32:UInt8)]++Str.s (R3.a e)++[(32:UInt8)]++Str.s Z)))))))))))))else((WS N (N8 i false) fun m=>(Zz (Str.s m) [(32:UInt8)]∧(Zz (Str.s m++[(32:UInt8)]) (Str.s (R3.a e))∧(Zz (Str.s m++[(32:UInt8)]++Str.s (R3.a e)) [(32:UInt8)]∧((QU (Kz g) fun y44=>((WS N (N8 g (decide (y44<=R3.b e))) fun T=>(Zz (Str.s m++[(32:UInt8)]++Str.s (R3.a e)++[(32:UInt8)]) (Str.s T)∧(G ((.str (Str.s m++[(32:UInt8)]++Str.s (R3.a e)++[(32:UInt8)]++Str.s T)))))))))))))))))))))))))else(if (Nd.kind n==5)=true then Zz [(108:UInt8),(101:UInt8),(116:UInt8),(32:UInt8)] (Str.s (Nd.name n))∧(Zz ([(108:UInt8),(101:UInt8),(116:UInt8),(32:UInt8)]++Str.s (Nd.name n)) [(32:UInt8),(61:UInt8),(32:UInt8)]∧((Y1 ks 0 10 fun Y=>(BK Y=true∧((SX N (Kz Y) fun z=>(Zz ([(108:UInt8),(101:UInt8),(116:UInt8),(32:UInt8)]++Str.s (Nd.name n)++[(32:UInt8),(61:UInt8),(32:UInt8)]) (Str.s z)∧(Zz ([(108:UInt8),(101:UInt8),(116:UInt8),(32:UInt8)]++Str.s (Nd.name n)++[(32:UInt8),(61:UInt8),(32:UInt8)]++Str.s z) [(32:UInt8),(105:UInt8),(110:UInt8),(32:UInt8)]∧((Y1 ks 1 10 fun P=>(BK P=true∧((SX N (Kz P) fun W=>(Zz ([(108:UInt8),(101:UInt8),(116:UInt8),(32:UInt8)]++Str.s (Nd.name n)++[(32:UInt8),(61:UInt8),(32:UInt8)]++Str.s z++[(32:UInt8),(105:UInt8),(110:UInt8),(32:UInt8)]) (Str.s W)∧(G ((.str ([(108:UInt8),(101:UInt8),(116:UInt8),(32:UInt8)]++Str.s (Nd.name n)++[(32:UInt8),(61:UInt8),(32:UInt8)]++Str.s z++[(32:UInt8),(105:UInt8),(110:UInt8),(32:UInt8)]++Str.s W))))))))))))))))))else(if (Nd.kind n==2)=true then if (Str.s (Nd.name n)==[(105:UInt8),(110:UInt8),(116:UInt8)])=true then(Ld [(.int .i64 (Nd.num n))] fun y50=>(G ((.str (Str.s y50)))))else(d1p n G)else(if (Nd.kind n==6)=true then(d9n N (Dc n ks) fun y51=>(G ((.str (Str.s y51)))))else(if (Nd.kind n==7)=true then(PG N [(.sl 10 false (List.map enc ks))] fun I=>(Zz [(91:UInt8)] (Str.s I)∧(Zz ([(91:UInt8)]++Str.s I) [(93:UInt8)]∧(G ((.str ([(91:UInt8)]++Str.s I++[(93:UInt8)])))))))else(if (Nd.kind n==8)=true then Zz [(102:UInt8),(111:UInt8),(108:UInt8),(100:UInt8),(40:UInt8)] (Str.s (Nd.name n))∧(Zz ([(102:UInt8),(111:UInt8),(108:UInt8),(100:UInt8),(40:UInt8)]++Str.s (Nd.name n)) [(44:UInt8),(32:UInt8)]∧((PG N [(.sl 10 false (List.map enc ks))] fun H=>(Zz ([(102:UInt8),(111:UInt8),(108:UInt8),(100:UInt8),(40:UInt8)]++Str.s (Nd.name n)++[(44:UInt8),(32:UInt8)]) (Str.s H)∧(Zz ([(102:UInt8),(111:UInt8),(108:UInt8),(100:UInt8),(40:UInt8)]++Str.s (Nd.name n)++[(44:UInt8),(32:UInt8)]++Str.s H) [(41:UInt8)]∧(G ((.str ([(102:UInt8),(111:UInt8),(108:UInt8),(100:UInt8),(40:UInt8)]++Str.s (Nd.name n)++[(44:UInt8),(32:UInt8)]++Str.s H++[(41:UInt8)])))))))))else(if (Nd.kind n==9)=true then Zz [(115:UInt8),(99:UInt8),(97:UInt8),(110:UInt8),(40:UInt8)] (Str.s (Nd.name n))∧(Zz ([(115:UInt8),(99:UInt8),(97:UInt8),(110:UInt8),(40:UInt8)]++Str.s (Nd.name n)) [(44:UInt8),(32:UInt8)]∧((PG N [(.sl 10 false (List.map enc ks))] fun C=>(Zz ([(115:UInt8),(99:UInt8),(97:UInt8),(110:UInt8),(40:UInt8)]++Str.s (Nd.name n)++[(44:UInt8),(32:UInt8)]) (Str.s C)∧(Zz ([(115:UInt8),(99:UInt8),(97:UInt8),(110:UInt8),(40:UInt8)]++Str.s (Nd.name n)++[(44:UInt8),(32:UInt8)]++Str.s C) [(41:UInt8)]∧(G ((.str ([(115:UInt8),(99:UInt8),(97:UInt8),(110:UInt8),(40:UInt8)]++Str.s (Nd.name n)++[(44:UInt8),(32:UInt8)]++Str.s C++[(41:UInt8)])))))))))else(if (Nd.kind n==4)=true then(Y1 (Nd.sizes n) 0 2 fun X=>((b3r [(.agg [(.int .i64 (PV.asInt (Vy X))),(.sl 2 false (PV.asXs (Tv X)))])] fun A=>(Zz [(115:UInt8),(105:UInt8),(122:UInt8),(101:UInt8),(91:UInt8)] (Str.s A)∧(Zz ([(115:UInt8),(105:UInt8),(122:UInt8),(101:UInt8),(91:UInt8)]++Str.s A) [(93:UInt8)]∧(G ((.str ([(115:UInt8),(105:UInt8),(122:UInt8),(101:UInt8),(91:UInt8)]++Str.s A++[(93:UInt8)])))))))))else(if (Nd.kind n==3)=true then(e1u [(.agg [(.str (Str.s (Nd.elem n))),(.sl 1 false (List.map enc (Nd.dims n))),(.sl 1 false (List.map enc (Nd.data n)))])] fun y57=>(G ((.str (Str.s y57.1)))))else(G ((.str (Str.s (Nd.name n))))))))))))))))):Zd (O8 N) 0 (Za Pb G) a5n [] (Zx 173 [.agg [enc n.kind,enc n.line,enc n.name,enc n.num,enc n.elem,enc n.dims,enc n.data,enc n.sizes,enc n.ranks,enc ks]]):=Zd.tp (dm [dv (R3 Str Int Bool),dr Tm,dv Int,dv Str,dr Lin,dv (Str×Int)] 485 0xa100342011812910084201181110074201181110074201181005420810034200001420810034200f420181161118116111010420181271111812222018127111181222220114222712018127111181222220114271161161049422200a100342011812910084201181110074201181110074201181005420810034200001420810034200f42018116111811611101042018127111181222201812711118122222011422271201812711118122222011427116116104942018122222222222222222018122222222222018122222018122222200a422222201d4222222036422201812222222200c4271161068421244251) h
noncomputable def Qr:IC:=YI Proofs.Tryz.f44
def Uq:List IRes:=[(.tmp 2)]
abbrev b9x:Nat:=22
def QI:ZC:=Yh [(70,.pure (preT (fun x:Tm×Unit=>tW x.1)) (Zi (fun x:Tm×Unit=>Y6 x.1))),(71,.pure (preT (fun x:Tm×Unit=>tW x.1)) (Zi (fun x:Tm×Unit=>J4 x.1))),(20,.pure (preT (fun x:Str×Unit=>decide (x.1.s.length<=1048576))) (Zi (fun x:Str×Unit=>nameI x.1.s)))]
theorem c6h{G:PV->Prop}(n:Nd)(ks:List Tm)(h:(f6v (Dc n ks) fun a=>(if (!a)=true then G ((.bool false))else((f8l (Dc n ks) fun b=>(At QI 0 (Za Uq G) Qr 0 22 [(3,(.pv (.sl 1 false (List.map enc b)))),(4,(.pv (.int .i64 0)))] [])))))):Zd QI 0 (Za Uq G) Qr [] (Zx 22 [.agg [enc n.kind,enc n.line,enc n.name,enc n.num,enc n.elem,enc n.dims,enc n.data,enc n.sizes,enc n.ranks,enc ks]]):=Zd.tp (dm [dv Bool,dv (List Str)] 11 0x610001451) h
theorem Mx{G:PV->Prop}(n:Nd)(ks:List Tm)(l:List Str)(i:Int)(h:if (Cm l i)=true then(Y1 l i 1 fun a=>((f8f [(.str (PV.asStr (Vy a)))] fun b=>(if (!b)=true then G ((.bool false))else(At QI 0 (Za Uq G) Qr 0 22 [(R9 l),(4,(.pv (.int .i64 (IntKind.wrap IntKind.i64 (i+1)))))] [])))))else(G ((.bool true)))):At QI 0 (Za Uq G) Qr 0 22 [(3,.pv (enc l)),(4,.pv (.int .i64 i))] []:=At.tp (dm [dr Str,dv Bool] 19 0x2000146125100c42) h
end Go.Pl
namespace Go.Pl
open Go.RowKit
open Enc (enc dec is)
open EncL (encL decL isL)
set_option maxRecDepth 100000
abbrev g2y(ps:List PV)(k:Bool->Prop):Prop:=Ym (fun(x:UInt8×Unit)=>true) (fun(x:UInt8×Unit)=>lowB (Prod.fst x)) ps k
abbrev g3s(ps:List PV)(k:Bool->Prop):Prop:=Ym (fun(x:UInt8×Unit)=>true) (fun(x:UInt8×Unit)=>digB (Prod.fst x)) ps k
abbrev a0r(ps:List PV)(k:Bool->Prop):Prop:=Ym (fun(x:Str×Unit)=>decide (List.length (Str.s (Prod.fst x))<=1048576)) (fun(x:Str×Unit)=>nameI (Str.s (Prod.fst x))) ps k
abbrev g1r(ps:List PV)(k:Bool->Prop):Prop:=Ym (fun(x:Str×Unit)=>decide (List.length (Str.s (Prod.fst x))<=1048576)) (fun(x:Str×Unit)=>fullI (Str.s (Prod.fst x))) ps k
abbrev g4m(ps:List PV)(k:Bool->Prop):Prop:=Ym (fun(x:Lin×Unit)=>XK (Prod.fst x)) (fun(x:Lin×Unit)=>Zh (Prod.fst x)) ps k
abbrev QN(ps:List PV)(k:Bool->Prop):Prop:=Ym (fun(x:Tm×Bool×Bool×Bool×Bool×Bool×Unit)=>tW (Prod.fst x)) (fun(x:Tm×Bool×Bool×Bool×Bool×Bool×Unit)=>Yx (Tm.nd (Prod.fst x)) (Prod.fst (Prod.snd x)) (Prod.fst (Prod.snd (Prod.snd x))) (Prod.fst (Prod.snd (Prod.snd (Prod.snd x)))) (Prod.fst (Prod.snd (Prod.snd (Prod.snd (Prod.snd x))))) (Prod.fst (Prod.snd (Prod.snd (Prod.snd (Prod.snd (Prod.snd x))))))) ps k
abbrev g4i(ps:List PV)(k:Bool->Prop):Prop:=Ym (fun(x:Arr×Unit)=>VH (Prod.fst x)) (fun(x:Arr×Unit)=>WE (Prod.fst x)) ps k
abbrev f2y(ps:List PV)(k:Bool->Prop):Prop:=Ym (fun(x:List Lin×Unit)=>decide (List.length (Prod.fst x)<=1048576)&&List.all (Prod.fst x) XK) (fun(x:List Lin×Unit)=>List.all (Prod.fst x) Zh) ps k
abbrev e0j(ps:List PV)(k:Bool->Prop):Prop:=Ym (fun(x:Str×Unit)=>decide (List.length (Str.s (Prod.fst x))<=1048576)) (fun(x:Str×Unit)=>Bq (Str.s (Prod.fst x))) ps k
abbrev g2g(N:Nat)(ps:List PV)(k:Bool->Prop):Prop:=Ym (fun(x:Tm×Unit)=>tW (Prod.fst x)&&decide (Z4 (Prod.fst x)<N)) (fun(x:Tm×Unit)=>Ya (Prod.fst x)) ps k
abbrev f6z(ps:List PV)(k:Bool->Prop):Prop:=Ym (fun(x:Tm×Unit)=>tW (Prod.fst x)) (fun(x:Tm×Unit)=>H5 (Prod.fst x)) ps k
abbrev f6r(ps:List PV)(k:Int->Prop):Prop:=Ym (fun(x:Tm×Unit)=>tW (Prod.fst x)) (fun(x:Tm×Unit)=>(↑(Yb (Prod.fst x)):Int)) ps k
abbrev f3w(ps:List PV)(k:Int->Prop):Prop:=Ym (fun(x:Tm×Unit)=>tW (Prod.fst x)) (fun(x:Tm×Unit)=>(↑(Z4 (Prod.fst x)):Int)) ps k
abbrev f6m(ps:List PV)(k:Bool->Prop):Prop:=Ym (fun(x:Tm×Unit)=>tW (Prod.fst x)) (fun(x:Tm×Unit)=>Ya (Prod.fst x)) ps k
abbrev YW(ps:List PV)(k:R3 Str Int Bool->Prop):Prop:=ceP (fun(x:Str×Bool×Unit)=>Va (Prod.fst x) (Prod.fst (Prod.snd x))) ps k
noncomputable def Lv:IC:=Ra
def LH:List IRes:=[(.tmp 2)]
abbrev c5f:Nat:=9
def a2w:ZC:=Yh []
theorem c9l{G:PV->Prop}(c:UInt8)(h:if (decide ((↑(UInt8.toNat c):Int) ≥ 97))=true then G ((.bool (decide ((↑(UInt8.toNat c):Int)<=122))))else(G ((.bool false)))):Zd a2w 0 (Za LH G) Lv [] (Zx 9 [enc c]):=Zd.tp (dm [] 13 0x22022200442) h
noncomputable def Fu:IC:=TU
def LG:List IRes:=[(.tmp 2)]
abbrev c1u:Nat:=9
def a1c:ZC:=Yh []
theorem d5s{G:PV->Prop}(c:UInt8)(h:if (decide ((↑(UInt8.toNat c):Int) ≥ 48))=true then G ((.bool (decide ((↑(UInt8.toNat c):Int)<=57))))else(G ((.bool false)))):Zd a1c 0 (Za LG G) Fu [] (Zx 9 [enc c]):=Zd.tp (dm [] 13 0x22022200442) h
noncomputable def b4r:IC:=Em
def b8a:List IRes:=[(.tmp 2)]
abbrev e4n:Nat:=19
def c6e:ZC:=Yh []
theorem f7j{G:PV->Prop}(s:List UInt8)(h:if (s==[(98:UInt8),(111:UInt8),(111:UInt8),(108:UInt8)])=true then G ((.bool true))else(if (s==[(100:UInt8),(101:UInt8),(102:UInt8)])=true then G ((.bool true))else(if (s==[(101:UInt8),(120:UInt8),(112:UInt8),(111:UInt8),(114:UInt8),(116:UInt8)])=true then G ((.bool true))else(if (s==[(102:UInt8),(97:UInt8),(108:UInt8),(115:UInt8),(101:UInt8)])=true then G ((.bool true))else(if (s==[(102:UInt8),(111:UInt8),(108:UInt8),(100:UInt8)])=true then G ((.bool true))else(if (s==[(105:UInt8),(109:UInt8),(112:UInt8),(111:UInt8),(114:UInt8),(116:UInt8)])=true then G ((.bool true))else(if (s==[(105:UInt8),(110:UInt8)])=true then G ((.bool true))else(if (s==[(105:UInt8),(110:UInt8),(116:UInt8)])=true then G ((.bool true))else(if (s==[(108:UInt8),(101:UInt8),(116:UInt8)])=true then G ((.bool true))else(if (s==[(109:UInt8),(111:UInt8),(100:UInt8),(117:UInt8),(108:UInt8),(101:UInt8)])=true then G ((.bool true))else(if (s==[(115:UInt8),(99:UInt8),(97:UInt8),(110:UInt8)])=true then G ((.bool true))else(if (s==[(115:UInt8),(105:UInt8),(122:UInt8),(101:UInt8)])=true then G ((.bool true))else(if (s==[(116:UInt8),(114:UInt8),(117:UInt8),(101:UInt8)])=true then G ((.bool true))else(if (s==[(119:UInt8),(104:UInt8),(101:UInt8),(114:UInt8),(101:UInt8)])=true then G ((.bool true))else(G ((.bool false))))))))))))))))):Zd c6e 0 (Za b8a G) b4r [] (Zx 19 [.str s]):=Zd.tp (dm [] 99 0x1420200242020024202002420200242020024202002420200242020024202002420200242020024202002420200242) h
noncomputable def UQ:IC:=YI Proofs.Tryz.f20
def UZ:List IRes:=[(.tmp 2)]
abbrev c8e:Nat:=39
def Ki:ZC:=Yh [(40,.pure (preT (fun _:UInt8×Unit=>true)) (Zi (fun x:UInt8×Unit=>lowB x.1))),(41,.pure (preT (fun _:UInt8×Unit=>true)) (Zi (fun x:UInt8×Unit=>digB x.1))),(42,.pure (preT (fun _:Str×Unit=>true)) (Zi (fun x:Str×Unit=>Q0.contains x.1.s)))]
theorem e5j{G:PV->Prop}(s:List UInt8)(h:At Ki 0 (Za UZ G) UQ 0 39 [(0,(.pv (.str s))),(3,(.pv (.int .i64 0)))] []):Zd Ki 0 (Za UZ G) UQ [] (Zx 39 [.str s]):=Zd.tp (.nil) h
abbrev FU(a:Int)(XU:List UInt8):Bool:=(decide (0<=a)&&decide (Int.toNat a<List.length XU))
theorem Co{G:PV->Prop}(s:List UInt8)(i:Int)(h:if (decide (i<(↑(List.length s):Int)))=true then(FU i s)=true∧((g2y [(.int IntKind.u8 (↑(UInt8.toNat (List.getD s (Int.toNat i) (0:UInt8))):Int))] fun b=>(if (!b)=true then if (i==0)=true then G ((.bool false))else((FU i s)=true∧((g3s [(.int IntKind.u8 (↑(UInt8.toNat (List.getD s (Int.toNat i) (0:UInt8))):Int))] fun e=>(if (!e)=true then G ((.bool false))else(At Ki 0 (Za UZ G) UQ 0 39 [(0,(.pv (.str s))),(3,(.pv (.int .i64 (IntKind.wrap IntKind.i64 (i+1)))))] [])))))else(At Ki 0 (Za UZ G) UQ 0 39 [(0,(.pv (.str s))),(3,(.pv (.int .i64 (IntKind.wrap IntKind.i64 (i+1)))))] []))))else(if (decide ((↑(List.length s):Int) ≥ 1))=true then if (decide ((↑(List.length s):Int)<=30))=true then Ty (fun(x:Str×Unit)=>List.contains Q0 (Str.s x.1)) [(.str s)] fun a:Bool=>G ((.bool !a))else(G ((.bool false)))else(G ((.bool false))))):At Ki 0 (Za UZ G) UQ 0 39 [(0,.pv (.str s)),(3,.pv (.int .i64 i))] []:=At.tp (dm [dv Bool] 84 0x2222222022202252200642222012420222222020001422225121220222222220094222021451102f42) h
noncomputable def KH:IC:=YI Proofs.Tryz.f200
def KL:List IRes:=[(.tmp 2)]
abbrev d0a:Nat:=25
def GQ:ZC:=Yh [(20,.pure (preT (fun x:Str×Unit=>decide (x.1.s.length<=1048576))) (Zi (fun x:Str×Unit=>nameI x.1.s)))]
theorem e7b{G:PV->Prop}(s:List UInt8)(h:At GQ 0 (Za KL G) KH 0 25 [(0,(.pv (.str s))),(3,(.pv (.int .i64 0)))] []):Zd GQ 0 (Za KL G) KH [] (Zx 25 [.str s]):=Zd.tp (.nil) h
theorem a6i{G:PV->Prop}(s:List UInt8)(i:Int)(h:if (decide (i<(↑(List.length s):Int)))=true then(FU i s)=true∧(if ((↑(UInt8.toNat (List.getD s (Int.toNat i) (0:UInt8))):Int)==46)=true then(true&&decide (0<=i)&&decide (0<=Int.toNat i)&&decide (Int.toNat i<=List.length s))=true∧((a0r [(.str (List.drop 0 (List.take (Int.toNat i) s)))] fun a=>(if (a)=true then(decide (0<=IntKind.wrap IntKind.i64 (i+1))&&true&&decide (Int.toNat (IntKind.wrap IntKind.i64 (i+1))<=List.length s)&&decide (List.length s<=List.length s))=true∧((a0r [(.str (List.drop (Int.toNat (IntKind.wrap IntKind.i64 (i+1))) (List.take (List.length s) s)))] fun b=>(G ((.bool b)))))else(G ((.bool false))))))else(At GQ 0 (Za KL G) KH 0 25 [(0,(.pv (.str s))),(3,(.pv (.int .i64 (IntKind.wrap IntKind.i64 (i+1)))))] []))else(G ((.bool false)))):At GQ 0 (Za KL G) KH 0 25 [(0,.pv (.str s)),(3,.pv (.int .i64 i))] []:=At.tp (dm [dv Bool] 38 0x2022222025121222200a451101742101f42) h
noncomputable def b6p:IC:=YI Proofs.Tryz.f164
def b8x:List IRes:=[(.tmp 2)]
abbrev e2o:Nat:=9
def d2e:ZC:=Yh [(20,.pure (preT (fun x:Str×Unit=>decide (x.1.s.length<=1048576))) (Zi (fun x:Str×Unit=>nameI x.1.s))),(200,.pure (preT (fun x:Str×Unit=>decide (x.1.s.length<=1048576))) (Zi (fun x:Str×Unit=>fullI x.1.s)))]
theorem f7f{G:PV->Prop}(s:List UInt8)(h:(a0r [(.str s)] fun a=>(if (a)=true then G ((.bool true))else((g1r [(.str s)] fun b=>(G ((.bool b)))))))):Zd d2e 0 (Za b8x G) b6p [] (Zx 9 [.str s]):=Zd.tp (dm [dv Bool] 15 0x2512022003451) h
noncomputable def MZ:IC:=YI Proofs.Tryz.f162
def GH:List IRes:=[(.tmp 12)]
abbrev c4r:Nat:=66
def a3l:ZC:=Yh []
theorem d9b{G:PV->Prop}(n:Nd)(ks:List Tm)(a b c d e:Bool)(h:if (a)=true then if (b)=true then if (c)=true then if (d)=true then if (e)=true then G ((.bool true))else(G ((.bool ((↑(List.length (List.map enc (Nd.ranks n))):Int)==0))))else(if ((↑(List.length (List.map enc (Nd.sizes n))):Int)==0)=true then if (e)=true then G ((.bool true))else(G ((.bool ((↑(List.length (List.map enc (Nd.ranks n))):Int)==0))))else(G ((.bool false))))else(if (Str.s (Nd.elem n)==[])=true then if (IntKind.wrap IntKind.i64 ((↑(List.length (List.map enc (Nd.dims n))):Int)+(↑(List.length (List.map enc (Nd.data n))):Int))==0)=true then if (d)=true then if (e)=true then G ((.bool true))else(G ((.bool ((↑(List.length (List.map enc (Nd.ranks n))):Int)==0))))else(if ((↑(List.length (List.map enc (Nd.sizes n))):Int)==0)=true then if (e)=true then G ((.bool true))else(G ((.bool ((↑(List.length (List.map enc (Nd.ranks n))):Int)==0))))else(G ((.bool false))))else(G ((.bool false)))else(G ((.bool false))))else(if (Nd.num n==0)=true then if (c)=true then if (d)=true then if (e)=true then G ((.bool true))else(G ((.bool ((↑(List.length (List.map enc (Nd.ranks n))):Int)==0))))else(if ((↑(List.length (List.map enc (Nd.sizes n))):Int)==0)=true then if (e)=true then G ((.bool true))else(G ((.bool ((↑(List.length (List.map enc (Nd.ranks n))):Int)==0))))else(G ((.bool false))))else(if (Str.s (Nd.elem n)==[])=true then if (IntKind.wrap IntKind.i64 ((↑(List.length (List.map enc (Nd.dims n))):Int)+(↑(List.length (List.map enc (Nd.data n))):Int))==0)=true then if (d)=true then if (e)=true then G ((.bool true))else(G ((.bool ((↑(List.length (List.map enc (Nd.ranks n))):Int)==0))))else(if ((↑(List.length (List.map enc (Nd.sizes n))):Int)==0)=true then if (e)=true then G ((.bool true))else(G ((.bool ((↑(List.length (List.map enc (Nd.ranks n))):Int)==0))))else(G ((.bool false))))else(G ((.bool false)))else(G ((.bool false))))else(G ((.bool false))))else(if (Str.s (Nd.name n)==[])=true then if (b)=true then if (c)=true then if (d)=true then if (e)=true then G ((.bool true))else(G ((.bool ((↑(List.length (List.map enc (Nd.ranks n))):Int)==0))))else(if ((↑(List.length (List.map enc (Nd.sizes n))):Int)==0)=true then if (e)=true then G ((.bool true))else(G ((.bool ((↑(List.length (List.map enc (Nd.ranks n))):Int)==0))))else(G ((.bool false))))else(if (Str.s (Nd.elem n)==[])=true then if (IntKind.wrap IntKind.i64 ((↑(List.length (List.map enc (Nd.dims n))):Int)+(↑(List.length (List.map enc (Nd.data n))):Int))==0)=true then if (d)=true then if (e)=true then G ((.bool true))else(G ((.bool ((↑(List.length (List.map enc (Nd.ranks n))):Int)==0))))else(if ((↑(List.length (List.map enc (Nd.sizes n))):Int)==0)=true then if (e)=true then G ((.bool true))else(G ((.bool ((↑(List.length (List.map enc (Nd.ranks n))):Int)==0))))else(G ((.bool false))))else(G ((.bool false)))else(G ((.bool false))))else(if (Nd.num n==0)=true then if (c)=true then if (d)=true then if (e)=true then G ((.bool true))else(G ((.bool ((↑(List.length (List.map enc (Nd.ranks n))):Int)==0))))else(if ((↑(List.length (List.map enc (Nd.sizes n))):Int)==0)=true then if (e)=true then G ((.bool true))else(G ((.bool ((↑(List.length (List.map enc (Nd.ranks n))):Int)==0))))else(G ((.bool false))))else(if (Str.s (Nd.elem n)==[])=true then if (IntKind.wrap IntKind.i64 ((↑(List.length (List.map enc (Nd.dims n))):Int)+(↑(List.length (List.map enc (Nd.data n))):Int))==0)=true then if (d)=true then if (e)=true then G ((.bool true))else(G ((.bool ((↑(List.length (List.map enc (Nd.ranks n))):Int)==0))))else(if ((↑(List.length (List.map enc (Nd.sizes n))):Int)==0)=true then if (e)=true then G ((.bool true))else(G ((.bool ((↑(List.length (List.map enc (Nd.ranks n))):Int)==0))))else(G ((.bool false))))else(G ((.bool false)))else(G ((.bool false))))else(G ((.bool false))))else(G ((.bool false))))):Zd a3l 0 (Za GH G) MZ [] (Zx 66 [.agg [enc n.kind,enc n.line,enc n.name,enc n.num,enc n.elem,enc n.dims,enc n.data,enc n.sizes,enc n.ranks,enc ks],.bool a,.bool b,.bool c,.bool d,.bool e]):=Zd.tp (dm [] 931 0x22222222222222202222222222202222222222222222222222022222220222022222220222222007420144222222202222222022222200742222222201b420434222222222222222205f4222220222022222220222222007420144222222202222222022222200742222222201b4222222222204c420d0422222202222222222222222222222022222220222022222220222222007420144222222202222222022222200742222222201b420434222222222222222205f4222220222022222220222222007420144222222202222222022222200742222222201b4222222222204c422222220d6421c14222202222222222202222222222222222222222022222220222022222220222222007420144222222202222222022222200742222222201b420434222222222222222205f4222220222022222220222222007420144222222202222222022222200742222222201b4222222222204c420d0422222202222222222222222222222022222220222022222220222222007420144222222202222222022222200742222222201b420434222222222222222205f4222220222022222220222222007420144222222202222222022222200742222222201b4222222222204c422222220d64222221c54) h
noncomputable def Gf:IC:=YI Proofs.Tryz.f163
def GV:List IRes:=[(.tmp 2)]
abbrev e8d:Nat:=16
def Sa:ZC:=Yh [(112,.pure (preT (fun x:Lin×Unit=>XK x.1)) (Zi (fun x:Lin×Unit=>Zh x.1)))]
theorem g0p{G:PV->Prop}(l:List Lin)(h:At Sa 0 (Za GV G) Gf 0 16 [(0,(.pv (.sl 2 false (List.map enc l)))),(3,(.pv (.int .i64 0)))] []):Zd Sa 0 (Za GV G) Gf [] (Zx 16 [enc l]):=Zd.tp (.nil) h
theorem b3v{G:PV->Prop}(l:List Lin)(i:Int)(h:if (Cm l i)=true then(Y1 l i 2 fun a=>((g4m [(.agg [(.int .i64 (PV.asInt (Vy a))),(.sl 2 false (PV.asXs (Tv a)))])] fun b=>(if (!b)=true then G ((.bool false))else(At Sa 0 (Za GV G) Gf 0 16 [(0,(.pv (.sl 2 false (List.map enc l)))),(3,(.pv (.int .i64 (IntKind.wrap IntKind.i64 (i+1)))))] [])))))else(G ((.bool true)))):At Sa 0 (Za GV G) Gf 0 16 [(0,.pv (enc l)),(3,.pv (.int .i64 i))] []:=At.tp (dm [dr Lin,dv Bool] 19 0x2000146125100c42) h
noncomputable def QK:IC:=YI Proofs.Tryz.f139
def UH:List IRes:=[(.tmp 2)]
abbrev d5o:Nat:=221
def JC:ZC:=Yh [(20,.pure (preT (fun x:Str×Unit=>decide (x.1.s.length<=1048576))) (Zi (fun x:Str×Unit=>nameI x.1.s))),(162,.pure (preT (fun x:Tm×Bool×Bool×Bool×Bool×Bool×Unit=>tW x.1)) (Zi (fun x:Tm×Bool×Bool×Bool×Bool×Bool×Unit=>Yx x.1.nd x.2.1 x.2.2.1 x.2.2.2.1 x.2.2.2.2.1 x.2.2.2.2.2.1))),(164,.pure (preT (fun x:Str×Unit=>decide (x.1.s.length<=1048576))) (Zi (fun x:Str×Unit=>Bq x.1.s))),(163,.pure (preT (fun x:List Lin×Unit=>decide (x.1.length<=1048576)&&x.1.all XK)) (Zi (fun x:List Lin×Unit=>x.1.all Zh))),(114,.pure (preT (fun x:Arr×Unit=>VH x.1)) (Zi (fun x:Arr×Unit=>WE x.1)))]
abbrev b7k(b:PV->Prop)(XU:Nd)(a:List Tm):Prop:=(At JC 0 (Za UH b) QK 0 221 [(1,(.ptr 0 0)),(5,(.pv (.int .i64 0)))] [(.obj (.box (ZY XU a)))])
theorem e5u{G:PV->Prop}(n:Nd)(ks:List Tm)(h:if (decide (Nd.line n<0))=true then G ((.bool false))else(if (decide (Nd.line n>10000))=true then G ((.bool false))else(if (Nd.kind n==1)=true then if ((↑(List.length (List.map enc ks)):Int)==0)=true then(a0r [(.str (Str.s (Nd.name n)))] fun H=>(if (H)=true then(QN (Je n ks true false false false false) fun z=>(G ((.bool z))))else(G ((.bool false)))))else(G ((.bool false)))else(if (Nd.kind n==2)=true then if (Str.s (Nd.name n)==[(105:UInt8),(110:UInt8),(116:UInt8)])=true then if (decide (Nd.num n ≥ (-2147483648:Int)))=true then if (decide (Nd.num n<=2147483647))=true then if ((↑(List.length (List.map enc ks)):Int)==0)=true then(QN (Je n ks true true false false false) fun B=>(G ((.bool B))))else(G ((.bool false)))else(if (Str.s (Nd.name n)==[(98:UInt8),(111:UInt8),(111:UInt8),(108:UInt8)])=true then if (Nd.num n==0)=true then if ((↑(List.length (List.map enc ks)):Int)==0)=true then(QN (Je n ks true true false false false) fun C=>(G ((.bool C))))else(G ((.bool false)))else(if ((↑(List.length (List.map enc ks)):Int)==0)=true then if (Nd.num n==1)=true then(QN (Je n ks true true false false false) fun A=>(G ((.bool A))))else(G ((.bool false)))else(G ((.bool false))))else(if ((↑(List.length (List.map enc ks)):Int)==0)=true then G ((.bool false))else(G ((.bool false)))))else(if (Str.s (Nd.name n)==[(98:UInt8),(111:UInt8),(111:UInt8),(108:UInt8)])=true then if (Nd.num n==0)=true then if ((↑(List.length (List.map enc ks)):Int)==0)=true then(QN (Je n ks true true false false false) fun F=>(G ((.bool F))))else(G ((.bool false)))else(if ((↑(List.length (List.map enc ks)):Int)==0)=true then if (Nd.num n==1)=true then(QN (Je n ks true true false false false) fun u=>(G ((.bool u))))else(G ((.bool false)))else(G ((.bool false))))else(if ((↑(List.length (List.map enc ks)):Int)==0)=true then G ((.bool false))else(G ((.bool false)))))else(if (Str.s (Nd.name n)==[(98:UInt8),(111:UInt8),(111:UInt8),(108:UInt8)])=true then if (Nd.num n==0)=true then if ((↑(List.length (List.map enc ks)):Int)==0)=true then(QN (Je n ks true true false false false) fun y=>(G ((.bool y))))else(G ((.bool false)))else(if ((↑(List.length (List.map enc ks)):Int)==0)=true then if (Nd.num n==1)=true then(QN (Je n ks true true false false false) fun E=>(G ((.bool E))))else(G ((.bool false)))else(G ((.bool false))))else(if ((↑(List.length (List.map enc ks)):Int)==0)=true then G ((.bool false))else(G ((.bool false)))))else(if (Nd.kind n==3)=true then if ((↑(List.length (List.map enc ks)):Int)==0)=true then(g4i [(.agg [(.str (Str.s (Nd.elem n))),(.sl 1 false (List.map enc (Nd.dims n))),(.sl 1 false (List.map enc (Nd.data n)))])] fun D=>(if (D)=true then(QN (Je n ks false false true false false) fun e=>(G ((.bool e))))else(G ((.bool false)))))else(G ((.bool false)))else(if (Nd.kind n==4)=true then if ((↑(List.length (List.map enc ks)):Int)==0)=true then if ((↑(List.length (List.map enc (Nd.sizes n))):Int)==1)=true then(f2y [(.sl 2 false (List.map enc (Nd.sizes n)))] fun k=>(if (k)=true then(QN (Je n ks false false false true false) fun l=>(G ((.bool l))))else(G ((.bool false)))))else(G ((.bool false)))else(G ((.bool false)))else(if (Nd.kind n==5)=true then if ((↑(List.length (List.map enc ks)):Int)==2)=true then(a0r [(.str (Str.s (Nd.name n)))] fun q=>(if (q)=true then(QN (Je n ks true false false false false) fun m=>(G ((.bool m))))else(G ((.bool false)))))else(G ((.bool false)))else(if (Nd.kind n==6)=true then if (decide ((↑(List.length (List.map enc ks)):Int)>8))=true then G ((.bool false))else(if (decide ((↑(List.length (List.map enc (Nd.sizes n))):Int)>4))=true then G ((.bool false))else((f2y [(.sl 2 false (List.map enc (Nd.sizes n)))] fun i=>(if (!i)=true then G ((.bool false))else(if (decide (Nd.num n<0))=true then G ((.bool false))else(if (decide (Nd.num n>64))=true then G ((.bool false))else(if ((↑(List.length (List.map enc (Nd.ranks n))):Int) != 0)=true then if ((↑(List.length (List.map enc (Nd.ranks n))):Int) != (↑(List.length (List.map enc ks)):Int))=true then G ((.bool false))else(b7k G n ks)else(b7k G n ks))))))))else(if (Nd.kind n==7)=true then if (decide ((↑(List.length (List.map enc ks)):Int) ≥ 1))=true then if (decide ((↑(List.length (List.map enc ks)):Int)<=16))=true then(QN (Je n ks false false false false false) fun a=>(G ((.bool a))))else(G ((.bool false)))else(G ((.bool false)))else(if (Nd.kind n==8)=true then if ((↑(List.length (List.map enc ks)):Int)==2)=true then(e0j [(.str (Str.s (Nd.name n)))] fun r=>(if (r)=true then(QN (Je n ks true false false false false) fun j=>(G ((.bool j))))else(G ((.bool false)))))else(G ((.bool false)))else(if (Nd.kind n==9)=true then if ((↑(List.length (List.map enc ks)):Int)==1)=true then(e0j [(.str (Str.s (Nd.name n)))] fun g=>(if (g)=true then(QN (Je n ks true false false false false) fun b=>(G ((.bool b))))else(G ((.bool false)))))else(G ((.bool false)))else(G ((.bool false)))))))))))))):Zd JC 0 (Za UH G) QK [] (Zx 221 [.agg [enc n.kind,enc n.line,enc n.name,enc n.num,enc n.elem,enc n.dims,enc n.data,enc n.sizes,enc n.ranks,enc ks]]):=Zd.tp (dm [dv Bool] 776 0x222222022025120054251220114201d420222222022025120054251220114201d4202222202202512005422200f4201a420222222220000142222222200e422222022222220084222202222222222200c42222022222222222222201042251220222222222222222222220154222220222222222222222222222222201a4209b420222222022025120054251220114201d4202222222222202222220220251200542512201142222202142032420222222022025120054251220114201d42022220222200542222222202222022025120054200d42222222220222202512220074222222220184222203f4222222222222022220222200542222222202222022025120054200d42222222220222202512220074222222220184222203f422222222022220222200542222222202222022025120054200d42222222220222202512220074222222220184222203f4222202222025122200742222220164222207b422220e44214e420222222022025120054251220114201d420001422220222200542) h
theorem a6a{G:PV->Prop}(n:Nd)(ks:List Tm)(i:Int)(h:if (Cm (Nd.ranks n) i)=true then(Y1 (Nd.ranks n) i 1 fun e=>(if (decide (PV.asInt (Vy e)<0))=true then G ((.bool false))else((Y1 (Nd.ranks n) i 1 fun g=>(if (decide (PV.asInt (Vy g)>6))=true then G ((.bool false))else(At JC 0 (Za UH G) QK 0 221 [(1,(.ptr 0 0)),(5,(.pv (.int .i64 (IntKind.wrap IntKind.i64 (i+1)))))] [(.obj (.box (ZY n ks)))]))))))else((e0j [(.str (Str.s (Nd.name n)))] fun a=>(if (a)=true then(QN (Je n ks true true false true true) fun b=>(G ((.bool b))))else(G ((.bool false))))))):At JC 0 (Za UH G) QK 0 221 [(1,.ptr 0 0),(5,.pv (.int .i64 i))] [.obj (.box [.pv (enc n.kind),.pv (enc n.line),.pv (enc n.name),.pv (enc n.num),.pv (enc n.elem),.pv (enc n.dims),.pv (enc n.data),.pv (enc n.sizes),.pv (enc n.ranks),.pv (enc ks)])]:=At.tp (dm [dr Int,dv Bool] 53 0x220261200546102000142222251222022222220084225102142) h
noncomputable def GZ:IC:=YI Proofs.Tryz.f106
def G5:List IRes:=[(.tmp 2)]
abbrev e4c:Nat:=20
def Sl(N:Nat):ZC:=Yh [(106,.pure (preT (fun x:Tm×Unit=>tW x.1&&decide (Z4 x.1<N))) (Zi (fun x:Tm×Unit=>Ya x.1))),(139,.pure (preT (fun x:Tm×Unit=>tW x.1)) (Zi (fun x:Tm×Unit=>H5 x.1)))]
theorem f7y{G:PV->Prop}(N:Nat)(n:Nd)(ks:List Tm)(h:At (Sl N) 0 (Za G5 G) GZ 0 20 [(1,(.ptr 0 0)),(3,(.pv (.int .i64 0)))] [(.obj (.box (ZY n ks)))]):Zd (Sl N) 0 (Za G5 G) GZ [] (Zx 20 [.agg [enc n.kind,enc n.line,enc n.name,enc n.num,enc n.elem,enc n.dims,enc n.data,enc n.sizes,enc n.ranks,enc ks]]):=Zd.tp (.nil) h
theorem b4l{G:PV->Prop}(N:Nat)(n:Nd)(ks:List Tm)(i:Int)(h:if (Cm ks i)=true then(Y1 ks i 10 fun a=>(BK a=true∧((g2g N (Kz a) fun e=>(if (!e)=true then G ((.bool false))else(At (Sl N) 0 (Za G5 G) GZ 0 20 [(1,(.ptr 0 0)),(3,(.pv (.int .i64 (IntKind.wrap IntKind.i64 (i+1)))))] [(.obj (.box (ZY n ks)))]))))))else((f6z (Dc n ks) fun b=>(G ((.bool b)))))):At (Sl N) 0 (Za G5 G) GZ 0 20 [(1,.ptr 0 0),(3,.pv (.int .i64 i))] [.obj (.box [.pv (enc n.kind),.pv (enc n.line),.pv (enc n.name),.pv (enc n.num),.pv (enc n.elem),.pv (enc n.dims),.pv (enc n.data),.pv (enc n.sizes),.pv (enc n.ranks),.pv (enc ks)])]:=At.tp (dm [dr Tm,dv Bool] 21 0x6102000146115100c42) h
noncomputable def Lh:IC:=YI Proofs.Tryz.f70
def Ai:List IRes:=[(.tmp 2)]
abbrev c1o:Nat:=15
def a3q:ZC:=Yh [(48,.pure (preT (fun x:Tm×Unit=>tW x.1)) (Zi (fun x:Tm×Unit=>(Yb x.1:Int)))),(47,.pure (preT (fun x:Tm×Unit=>tW x.1)) (Zi (fun x:Tm×Unit=>(Z4 x.1:Int)))),(106,.pure (preT (fun x:Tm×Unit=>tW x.1)) (Zi (fun x:Tm×Unit=>Ya x.1)))]
theorem d7r{G:PV->Prop}(n:Nd)(ks:List Tm)(h:(f6r (Dc n ks) fun b=>(if (decide (b<=400))=true then(f3w (Dc n ks) fun e=>(if (decide (e<=40))=true then(f6m (Dc n ks) fun a=>(G ((.bool a))))else(G ((.bool false)))))else(G ((.bool false)))))):Zd a3q 0 (Za Ai G) Lh [] (Zx 15 [.agg [enc n.kind,enc n.line,enc n.name,enc n.num,enc n.elem,enc n.dims,enc n.data,enc n.sizes,enc n.ranks,enc ks]]):=Zd.tp (dm [dv Int,dv Bool] 33 0x2222220220261200542225120124251) h
noncomputable def b5d:IC:=YI Proofs.Tryz.f110
def b6c:List IRes:=[(.tmp 4),(.tmp 5),(.tmp 6)]
abbrev e8p:Nat:=40
def e1m:ZC:=Yh []
theorem f8z{G:PV->Prop}(s:List UInt8)(u:Bool)(h:if (u)=true then if (s==[(45:UInt8)])=true then G ((.tup [(.str [(110:UInt8),(101:UInt8),(103:UInt8)]),(.int .i64 6),(.bool true)]))else(if (s==[(33:UInt8)])=true then G ((.tup [(.str [(110:UInt8),(111:UInt8),(116:UInt8)]),(.int .i64 6),(.bool true)]))else(G ((.tup [(.str []),(.int .i64 0),(.bool false)]))))else(if (s==[(124:UInt8),(124:UInt8)])=true then G ((.tup [(.str [(111:UInt8),(114:UInt8)]),(.int .i64 1),(.bool true)]))else(if (s==[(38:UInt8),(38:UInt8)])=true then G ((.tup [(.str [(97:UInt8),(110:UInt8),(100:UInt8)]),(.int .i64 2),(.bool true)]))else(if (s==[(61:UInt8),(61:UInt8)])=true then G ((.tup [(.str [(101:UInt8),(113:UInt8)]),(.int .i64 3),(.bool true)]))else(if (s==[(33:UInt8),(61:UInt8)])=true then G ((.tup [(.str [(110:UInt8),(101:UInt8)]),(.int .i64 3),(.bool true)]))else(if (s==[(60:UInt8)])=true then G ((.tup [(.str [(108:UInt8),(116:UInt8)]),(.int .i64 3),(.bool true)]))else(if (s==[(60:UInt8),(61:UInt8)])=true then G ((.tup [(.str [(108:UInt8),(101:UInt8)]),(.int .i64 3),(.bool true)]))else(if (s==[(62:UInt8)])=true then G ((.tup [(.str [(103:UInt8),(116:UInt8)]),(.int .i64 3),(.bool true)]))else(if (s==[(62:UInt8),(61:UInt8)])=true then G ((.tup [(.str [(103:UInt8),(101:UInt8)]),(.int .i64 3),(.bool true)]))else(if (s==[(43:UInt8)])=true then G ((.tup [(.str [(97:UInt8),(100:UInt8),(100:UInt8)]),(.int .i64 4),(.bool true)]))else(if (s==[(45:UInt8)])=true then G ((.tup [(.str [(115:UInt8),(117:UInt8),(98:UInt8)]),(.int .i64 4),(.bool true)]))else(if (s==[(42:UInt8)])=true then G ((.tup [(.str [(109:UInt8),(117:UInt8),(108:UInt8)]),(.int .i64 5),(.bool true)]))else(if (s==[(47:UInt8)])=true then G ((.tup [(.str [(100:UInt8),(105:UInt8),(118:UInt8)]),(.int .i64 5),(.bool true)]))else(if (s==[(37:UInt8)])=true then G ((.tup [(.str [(109:UInt8),(111:UInt8),(100:UInt8)]),(.int .i64 5),(.bool true)]))else(G ((.tup [(.str []),(.int .i64 0),(.bool false)]))))))))))))))))):Zd e1m 0 (Za b6c G) b5d [] (Zx 40 [.str s,.bool u]):=Zd.tp (dm [] 97 0x142000142000142000142000142000142000142000142000142000142000142000142000142000014200014200d4) h
noncomputable def Ye:IC:=YI Proofs.Tryz.f109
def Yf:List IRes:=[(.tmp 2),(.tmp 3),(.tmp 4)]
abbrev e6c:Nat:=58
def YH:ZC:=Yh [(110,.pure (preT (fun _:Str×Bool×Unit=>true)) (Zi (fun x:Str×Bool×Unit=>Va x.1 x.2.1)))]
theorem f9m{G:PV->Prop}(s:List UInt8)(h:At YH 0 (Za Yf G) Ye 0 58 [(0,(.pv (.str s))),(5,(.row 0 14 0 14)),(6,(.pv (.int .i64 0)))] [(.obj (.row false 9 1 ZM))]):Zd YH 0 (Za Yf G) Ye [] (Zx 58 [.str s]):=Zd.tp (.lit (.nil)) h
abbrev OI(a:PV->Prop)(XU:List UInt8):Prop:=(At YH 0 (Za Yf a) Ye 0 58 [(0,(.pv (.str XU))),(5,(.row 0 14 0 14)),(6,(.pv (.int .i64 1)))] [(.obj (.row false 9 1 ZM))])
theorem d4o{G:PV->Prop}(s:List UInt8)(h:Ty (fun(x:Str×Bool×Unit)=>Va x.1 x.2.1) [(.str (PV.asStr (List.getD (PV.cells (List.getD ZM (0+Int.toNat 0) default)) 0 default))),(.bool false)] fun e:R3 Str Int Bool=>if (R3.c e)=true then if (Str.s (R3.a e)==s)=true then G ((.tup [(.str (PV.asStr (List.getD (PV.cells (List.getD ZM (0+Int.toNat 0) default)) 0 default))),(.bool false),(.bool true)]))else(YW [(.str (PV.asStr (List.getD (PV.cells (List.getD ZM (0+Int.toNat 0) default)) 0 default))),(.bool true)] fun g=>(if (R3.c g)=true then if (Str.s (R3.a g)==s)=true then G ((.tup [(.str (PV.asStr (List.getD (PV.cells (List.getD ZM (0+Int.toNat 0) default)) 0 default))),(.bool true),(.bool true)]))else(OI G s)else(OI G s)))else(YW [(.str (PV.asStr (List.getD (PV.cells (List.getD ZM (0+Int.toNat 0) default)) 0 default))),(.bool true)] fun b=>(if (R3.c b)=true then if (Str.s (R3.a b)==s)=true then G ((.tup [(.str (PV.asStr (List.getD (PV.cells (List.getD ZM (0+Int.toNat 0) default)) 0 default))),(.bool true),(.bool true)]))else(OI G s)else(OI G s)))):At YH 0 (Za Yf G) Ye 0 58 [(0,.pv (.str s)),(5,.row 0 14 0 14),(6,.pv (.int .i64 0))] [.obj (.row false 9 1 ZM)]:=At.tp (dm [dv (R3 Str Int Bool)] 92 0x2222202022320054222200f4522232222202222202022320054222200f4522232022320054222202c452223222) h
abbrev OP(a:PV->Prop)(XU:List UInt8):Prop:=(At YH 0 (Za Yf a) Ye 0 58 [(0,(.pv (.str XU))),(5,(.row 0 14 0 14)),(6,(.pv (.int .i64 2)))] [(.obj (.row false 9 1 ZM))])
theorem d5b{G:PV->Prop}(s:List UInt8)(h:Ty (fun(x:Str×Bool×Unit)=>Va x.1 x.2.1) [(.str (PV.asStr (List.getD (PV.cells (List.getD ZM (0+Int.toNat 1) default)) 0 default))),(.bool false)] fun e:R3 Str Int Bool=>if (R3.c e)=true then if (Str.s (R3.a e)==s)=true then G ((.tup [(.str (PV.asStr (List.getD (PV.cells (List.getD ZM (0+Int.toNat 1) default)) 0 default))),(.bool false),(.bool true)]))else(YW [(.str (PV.asStr (List.getD (PV.cells (List.getD ZM (0+Int.toNat 1) default)) 0 default))),(.bool true)] fun g=>(if (R3.c g)=true then if (Str.s (R3.a g)==s)=true then G ((.tup [(.str (PV.asStr (List.getD (PV.cells (List.getD ZM (0+Int.toNat 1) default)) 0 default))),(.bool true),(.bool true)]))else(OP G s)else(OP G s)))else(YW [(.str (PV.asStr (List.getD (PV.cells (List.getD ZM (0+Int.toNat 1) default)) 0 default))),(.bool true)] fun b=>(if (R3.c b)=true then if (Str.s (R3.a b)==s)=true then G ((.tup [(.str (PV.asStr (List.getD (PV.cells (List.getD ZM (0+Int.toNat 1) default)) 0 default))),(.bool true),(.bool true)]))else(OP G s)else(OP G s)))):At YH 0 (Za Yf G) Ye 0 58 [(0,.pv (.str s)),(5,.row 0 14 0 14),(6,.pv (.int .i64 1))] [.obj (.row false 9 1 ZM)]:=At.tp (dm [dv (R3 Str Int Bool)] 92 0x2222202022320054222200f4522232222202222202022320054222200f4522232022320054222202c452223222) h
abbrev EJ(a:PV->Prop)(XU:List UInt8):Prop:=(At YH 0 (Za Yf a) Ye 0 58 [(0,(.pv (.str XU))),(5,(.row 0 14 0 14)),(6,(.pv (.int .i64 3)))] [(.obj (.row false 9 1 ZM))])
theorem c6i{G:PV->Prop}(s:List UInt8)(h:Ty (fun(x:Str×Bool×Unit)=>Va x.1 x.2.1) [(.str (PV.asStr (List.getD (PV.cells (List.getD ZM (0+Int.toNat 2) default)) 0 default))),(.bool false)] fun e:R3 Str Int Bool=>if (R3.c e)=true then if (Str.s (R3.a e)==s)=true then G ((.tup [(.str (PV.asStr (List.getD (PV.cells (List.getD ZM (0+Int.toNat 2) default)) 0 default))),(.bool false),(.bool true)]))else(YW [(.str (PV.asStr (List.getD (PV.cells (List.getD ZM (0+Int.toNat 2) default)) 0 default))),(.bool true)] fun g=>(if (R3.c g)=true then if (Str.s (R3.a g)==s)=true then G ((.tup [(.str (PV.asStr (List.getD (PV.cells (List.getD ZM (0+Int.toNat 2) default)) 0 default))),(.bool true),(.bool true)]))else(EJ G s)else(EJ G s)))else(YW [(.str (PV.asStr (List.getD (PV.cells (List.getD ZM (0+Int.toNat 2) default)) 0 default))),(.bool true)] fun b=>(if (R3.c b)=true then if (Str.s (R3.a b)==s)=true then G ((.tup [(.str (PV.asStr (List.getD (PV.cells (List.getD ZM (0+Int.toNat 2) default)) 0 default))),(.bool true),(.bool true)]))else(EJ G s)else(EJ G s)))):At YH 0 (Za Yf G) Ye 0 58 [(0,.pv (.str s)),(5,.row 0 14 0 14),(6,.pv (.int .i64 2))] [.obj (.row false 9 1 ZM)]:=At.tp (dm [dv (R3 Str Int Bool)] 92 0x2222202022320054222200f4522232222202222202022320054222200f4522232022320054222202c452223222) h
abbrev Oc(a:PV->Prop)(XU:List UInt8):Prop:=(At YH 0 (Za Yf a) Ye 0 58 [(0,(.pv (.str XU))),(5,(.row 0 14 0 14)),(6,(.pv (.int .i64 4)))] [(.obj (.row false 9 1 ZM))])
theorem e0f{G:PV->Prop}(s:List UInt8)(h:Ty (fun(x:Str×Bool×Unit)=>Va x.1 x.2.1) [(.str (PV.asStr (List.getD (PV.cells (List.getD ZM (0+Int.toNat 3) default)) 0 default))),(.bool false)] fun e:R3 Str Int Bool=>if (R3.c e)=true then if (Str.s (R3.a e)==s)=true then G ((.tup [(.str (PV.asStr (List.getD (PV.cells (List.getD ZM (0+Int.toNat 3) default)) 0 default))),(.bool false),(.bool true)]))else(YW [(.str (PV.asStr (List.getD (PV.cells (List.getD ZM (0+Int.toNat 3) default)) 0 default))),(.bool true)] fun g=>(if (R3.c g)=true then if (Str.s (R3.a g)==s)=true then G ((.tup [(.str (PV.asStr (List.getD (PV.cells (List.getD ZM (0+Int.toNat 3) default)) 0 default))),(.bool true),(.bool true)]))else(Oc G s)else(Oc G s)))else(YW [(.str (PV.asStr (List.getD (PV.cells (List.getD ZM (0+Int.toNat 3) default)) 0 default))),(.bool true)] fun b=>(if (R3.c b)=true then if (Str.s (R3.a b)==s)=true then G ((.tup [(.str (PV.asStr (List.getD (PV.cells (List.getD ZM (0+Int.toNat 3) default)) 0 default))),(.bool true),(.bool true)]))else(Oc G s)else(Oc G s)))):At YH 0 (Za Yf G) Ye 0 58 [(0,.pv (.str s)),(5,.row 0 14 0 14),(6,.pv (.int .i64 3))] [.obj (.row false 9 1 ZM)]:=At.tp (dm [dv (R3 Str Int Bool)] 92 0x2222202022320054222200f4522232222202222202022320054222200f4522232022320054222202c452223222) h
abbrev TR(a:PV->Prop)(XU:List UInt8):Prop:=(At YH 0 (Za Yf a) Ye 0 58 [(0,(.pv (.str XU))),(5,(.row 0 14 0 14)),(6,(.pv (.int .i64 5)))] [(.obj (.row false 9 1 ZM))])
theorem d4w{G:PV->Prop}(s:List UInt8)(h:Ty (fun(x:Str×Bool×Unit)=>Va x.1 x.2.1) [(.str (PV.asStr (List.getD (PV.cells (List.getD ZM (0+Int.toNat 4) default)) 0 default))),(.bool false)] fun e:R3 Str Int Bool=>if (R3.c e)=true then if (Str.s (R3.a e)==s)=true then G ((.tup [(.str (PV.asStr (List.getD (PV.cells (List.getD ZM (0+Int.toNat 4) default)) 0 default))),(.bool false),(.bool true)]))else(YW [(.str (PV.asStr (List.getD (PV.cells (List.getD ZM (0+Int.toNat 4) default)) 0 default))),(.bool true)] fun g=>(if (R3.c g)=true then if (Str.s (R3.a g)==s)=true then G ((.tup [(.str (PV.asStr (List.getD (PV.cells (List.getD ZM (0+Int.toNat 4) default)) 0 default))),(.bool true),(.bool true)]))else(TR G s)else(TR G s)))else(YW [(.str (PV.asStr (List.getD (PV.cells (List.getD ZM (0+Int.toNat 4) default)) 0 default))),(.bool true)] fun b=>(if (R3.c b)=true then if (Str.s (R3.a b)==s)=true then G ((.tup [(.str (PV.asStr (List.getD (PV.cells (List.getD ZM (0+Int.toNat 4) default)) 0 default))),(.bool true),(.bool true)]))else(TR G s)else(TR G s)))):At YH 0 (Za Yf G) Ye 0 58 [(0,.pv (.str s)),(5,.row 0 14 0 14),(6,.pv (.int .i64 4))] [.obj (.row false 9 1 ZM)]:=At.tp (dm [dv (R3 Str Int Bool)] 92 0x2222202022320054222200f4522232222202222202022320054222200f4522232022320054222202c452223222) h
abbrev TV(a:PV->Prop)(XU:List UInt8):Prop:=(At YH 0 (Za Yf a) Ye 0 58 [(0,(.pv (.str XU))),(5,(.row 0 14 0 14)),(6,(.pv (.int .i64 6)))] [(.obj (.row false 9 1 ZM))])
theorem d2p{G:PV->Prop}(s:List UInt8)(h:Ty (fun(x:Str×Bool×Unit)=>Va x.1 x.2.1) [(.str (PV.asStr (List.getD (PV.cells (List.getD ZM (0+Int.toNat 5) default)) 0 default))),(.bool false)] fun e:R3 Str Int Bool=>if (R3.c e)=true then if (Str.s (R3.a e)==s)=true then G ((.tup [(.str (PV.asStr (List.getD (PV.cells (List.getD ZM (0+Int.toNat 5) default)) 0 default))),(.bool false),(.bool true)]))else(YW [(.str (PV.asStr (List.getD (PV.cells (List.getD ZM (0+Int.toNat 5) default)) 0 default))),(.bool true)] fun g=>(if (R3.c g)=true then if (Str.s (R3.a g)==s)=true then G ((.tup [(.str (PV.asStr (List.getD (PV.cells (List.getD ZM (0+Int.toNat 5) default)) 0 default))),(.bool true),(.bool true)]))else(TV G s)else(TV G s)))else(YW [(.str (PV.asStr (List.getD (PV.cells (List.getD ZM (0+Int.toNat 5) default)) 0 default))),(.bool true)] fun b=>(if (R3.c b)=true then if (Str.s (R3.a b)==s)=true then G ((.tup [(.str (PV.asStr (List.getD (PV.cells (List.getD ZM (0+Int.toNat 5) default)) 0 default))),(.bool true),(.bool true)]))else(TV G s)else(TV G s)))):At YH 0 (Za Yf G) Ye 0 58 [(0,.pv (.str s)),(5,.row 0 14 0 14),(6,.pv (.int .i64 5))] [.obj (.row false 9 1 ZM)]:=At.tp (dm [dv (R3 Str Int Bool)] 92 0x2222202022320054222200f4522232222202222202022320054222200f4522232022320054222202c452223222) h
abbrev TI(a:PV->Prop)(XU:List UInt8):Prop:=(At YH 0 (Za Yf a) Ye 0 58 [(0,(.pv (.str XU))),(5,(.row 0 14 0 14)),(6,(.pv (.int .i64 7)))] [(.obj (.row false 9 1 ZM))])
theorem c9f{G:PV->Prop}(s:List UInt8)(h:Ty (fun(x:Str×Bool×Unit)=>Va x.1 x.2.1) [(.str (PV.asStr (List.getD (PV.cells (List.getD ZM (0+Int.toNat 6) default)) 0 default))),(.bool false)] fun e:R3 Str Int Bool=>if (R3.c e)=true then if (Str.s (R3.a e)==s)=true then G ((.tup [(.str (PV.asStr (List.getD (PV.cells (List.getD ZM (0+Int.toNat 6) default)) 0 default))),(.bool false),(.bool true)]))else(YW [(.str (PV.asStr (List.getD (PV.cells (List.getD ZM (0+Int.toNat 6) default)) 0 default))),(.bool true)] fun g=>(if (R3.c g)=true then if (Str.s (R3.a g)==s)=true then G ((.tup [(.str (PV.asStr (List.getD (PV.cells (List.getD ZM (0+Int.toNat 6) default)) 0 default))),(.bool true),(.bool true)]))else(TI G s)else(TI G s)))else(YW [(.str (PV.asStr (List.getD (PV.cells (List.getD ZM (0+Int.toNat 6) default)) 0 default))),(.bool true)] fun b=>(if (R3.c b)=true then if (Str.s (R3.a b)==s)=true then G ((.tup [(.str (PV.asStr (List.getD (PV.cells (List.getD ZM (0+Int.toNat 6) default)) 0 default))),(.bool true),(.bool true)]))else(TI G s)else(TI G s)))):At YH 0 (Za Yf G) Ye 0 58 [(0,.pv (.str s)),(5,.row 0 14 0 14),(6,.pv (.int .i64 6))] [.obj (.row false 9 1 ZM)]:=At.tp (dm [dv (R3 Str Int Bool)] 92 0x2222202022320054222200f4522232222202222202022320054222200f4522232022320054222202c452223222) h
abbrev TZ(a:PV->Prop)(XU:List UInt8):Prop:=(At YH 0 (Za Yf a) Ye 0 58 [(0,(.pv (.str XU))),(5,(.row 0 14 0 14)),(6,(.pv (.int .i64 8)))] [(.obj (.row false 9 1 ZM))])
theorem e0k{G:PV->Prop}(s:List UInt8)(h:Ty (fun(x:Str×Bool×Unit)=>Va x.1 x.2.1) [(.str (PV.asStr (List.getD (PV.cells (List.getD ZM (0+Int.toNat 7) default)) 0 default))),(.bool false)] fun e:R3 Str Int Bool=>if (R3.c e)=true then if (Str.s (R3.a e)==s)=true then G ((.tup [(.str (PV.asStr (List.getD (PV.cells (List.getD ZM (0+Int.toNat 7) default)) 0 default))),(.bool false),(.bool true)]))else(YW [(.str (PV.asStr (List.getD (PV.cells (List.getD ZM (0+Int.toNat 7) default)) 0 default))),(.bool true)] fun g=>(if (R3.c g)=true then if (Str.s (R3.a g)==s)=true then G ((.tup [(.str (PV.asStr (List.getD (PV.cells (List.getD ZM (0+Int.toNat 7) default)) 0 default))),(.bool true),(.bool true)]))else(TZ G s)else(TZ G s)))else(YW [(.str (PV.asStr (List.getD (PV.cells (List.getD ZM (0+Int.toNat 7) default)) 0 default))),(.bool true)] fun b=>(if (R3.c b)=true then if (Str.s (R3.a b)==s)=true then G ((.tup [(.str (PV.asStr (List.getD (PV.cells (List.getD ZM (0+Int.toNat 7) default)) 0 default))),(.bool true),(.bool true)]))else(TZ G s)else(TZ G s)))):At YH 0 (Za Yf G) Ye 0 58 [(0,.pv (.str s)),(5,.row 0 14 0 14),(6,.pv (.int .i64 7))] [.obj (.row false 9 1 ZM)]:=At.tp (dm [dv (R3 Str Int Bool)] 92 0x2222202022320054222200f4522232222202222202022320054222200f4522232022320054222202c452223222) h
abbrev Rc(a:PV->Prop)(XU:List UInt8):Prop:=(At YH 0 (Za Yf a) Ye 0 58 [(0,(.pv (.str XU))),(5,(.row 0 14 0 14)),(6,(.pv (.int .i64 9)))] [(.obj (.row false 9 1 ZM))])
theorem e2f{G:PV->Prop}(s:List UInt8)(h:Ty (fun(x:Str×Bool×Unit)=>Va x.1 x.2.1) [(.str (PV.asStr (List.getD (PV.cells (List.getD ZM (0+Int.toNat 8) default)) 0 default))),(.bool false)] fun e:R3 Str Int Bool=>if (R3.c e)=true then if (Str.s (R3.a e)==s)=true then G ((.tup [(.str (PV.asStr (List.getD (PV.cells (List.getD ZM (0+Int.toNat 8) default)) 0 default))),(.bool false),(.bool true)]))else(YW [(.str (PV.asStr (List.getD (PV.cells (List.getD ZM (0+Int.toNat 8) default)) 0 default))),(.bool true)] fun g=>(if (R3.c g)=true then if (Str.s (R3.a g)==s)=true then G ((.tup [(.str (PV.asStr (List.getD (PV.cells (List.getD ZM (0+Int.toNat 8) default)) 0 default))),(.bool true),(.bool true)]))else(Rc G s)else(Rc G s)))else(YW [(.str (PV.asStr (List.getD (PV.cells (List.getD ZM (0+Int.toNat 8) default)) 0 default))),(.bool true)] fun b=>(if (R3.c b)=true then if (Str.s (R3.a b)==s)=true then G ((.tup [(.str (PV.asStr (List.getD (PV.cells (List.getD ZM (0+Int.toNat 8) default)) 0 default))),(.bool true),(.bool true)]))else(Rc G s)else(Rc G s)))):At YH 0 (Za Yf G) Ye 0 58 [(0,.pv (.str s)),(5,.row 0 14 0 14),(6,.pv (.int .i64 8))] [.obj (.row false 9 1 ZM)]:=At.tp (dm [dv (R3 Str Int Bool)] 92 0x2222202022320054222200f4522232222202222202022320054222200f4522232022320054222202c452223222) h
abbrev Ei(a:PV->Prop)(XU:List UInt8):Prop:=(At YH 0 (Za Yf a) Ye 0 58 [(0,(.pv (.str XU))),(5,(.row 0 14 0 14)),(6,(.pv (.int .i64 10)))] [(.obj (.row false 9 1 ZM))])
theorem d6z{G:PV->Prop}(s:List UInt8)(h:Ty (fun(x:Str×Bool×Unit)=>Va x.1 x.2.1) [(.str (PV.asStr (List.getD (PV.cells (List.getD ZM (0+Int.toNat 9) default)) 0 default))),(.bool false)] fun e:R3 Str Int Bool=>if (R3.c e)=true then if (Str.s (R3.a e)==s)=true then G ((.tup [(.str (PV.asStr (List.getD (PV.cells (List.getD ZM (0+Int.toNat 9) default)) 0 default))),(.bool false),(.bool true)]))else(YW [(.str (PV.asStr (List.getD (PV.cells (List.getD ZM (0+Int.toNat 9) default)) 0 default))),(.bool true)] fun g=>(if (R3.c g)=true then if (Str.s (R3.a g)==s)=true then G ((.tup [(.str (PV.asStr (List.getD (PV.cells (List.getD ZM (0+Int.toNat 9) default)) 0 default))),(.bool true),(.bool true)]))else(Ei G s)else(Ei G s)))else(YW [(.str (PV.asStr (List.getD (PV.cells (List.getD ZM (0+Int.toNat 9) default)) 0 default))),(.bool true)] fun b=>(if (R3.c b)=true then if (Str.s (R3.a b)==s)=true then G ((.tup [(.str (PV.asStr (List.getD (PV.cells (List.getD ZM (0+Int.toNat 9) default)) 0 default))),(.bool true),(.bool true)]))else(Ei G s)else(Ei G s)))):At YH 0 (Za Yf G) Ye 0 58 [(0,.pv (.str s)),(5,.row 0 14 0 14),(6,.pv (.int .i64 9))] [.obj (.row false 9 1 ZM)]:=At.tp (dm [dv (R3 Str Int Bool)] 92 0x2222202022320054222200f4522232222202222202022320054222200f4522232022320054222202c452223222) h
abbrev FY(a:PV->Prop)(XU:List UInt8):Prop:=(At YH 0 (Za Yf a) Ye 0 58 [(0,(.pv (.str XU))),(5,(.row 0 14 0 14)),(6,(.pv (.int .i64 11)))] [(.obj (.row false 9 1 ZM))])
theorem c9s{G:PV->Prop}(s:List UInt8)(h:Ty (fun(x:Str×Bool×Unit)=>Va x.1 x.2.1) [(.str (PV.asStr (List.getD (PV.cells (List.getD ZM (0+Int.toNat 10) default)) 0 default))),(.bool false)] fun e:R3 Str Int Bool=>if (R3.c e)=true then if (Str.s (R3.a e)==s)=true then G ((.tup [(.str (PV.asStr (List.getD (PV.cells (List.getD ZM (0+Int.toNat 10) default)) 0 default))),(.bool false),(.bool true)]))else(YW [(.str (PV.asStr (List.getD (PV.cells (List.getD ZM (0+Int.toNat 10) default)) 0 default))),(.bool true)] fun g=>(if (R3.c g)=true then if (Str.s (R3.a g)==s)=true then G ((.tup [(.str (PV.asStr (List.getD (PV.cells (List.getD ZM (0+Int.toNat 10) default)) 0 default))),(.bool true),(.bool true)]))else(FY G s)else(FY G s)))else(YW [(.str (PV.asStr (List.getD (PV.cells (List.getD ZM (0+Int.toNat 10) default)) 0 default))),(.bool true)] fun b=>(if (R3.c b)=true then if (Str.s (R3.a b)==s)=true then G ((.tup [(.str (PV.asStr (List.getD (PV.cells (List.getD ZM (0+Int.toNat 10) default)) 0 default))),(.bool true),(.bool true)]))else(FY G s)else(FY G s)))):At YH 0 (Za Yf G) Ye 0 58 [(0,.pv (.str s)),(5,.row 0 14 0 14),(6,.pv (.int .i64 10))] [.obj (.row false 9 1 ZM)]:=At.tp (dm [dv (R3 Str Int Bool)] 92 0x2222202022320054222200f4522232222202222202022320054222200f4522232022320054222202c452223222) h
abbrev En(a:PV->Prop)(XU:List UInt8):Prop:=(At YH 0 (Za Yf a) Ye 0 58 [(0,(.pv (.str XU))),(5,(.row 0 14 0 14)),(6,(.pv (.int .i64 12)))] [(.obj (.row false 9 1 ZM))])
theorem c9a{G:PV->Prop}(s:List UInt8)(h:Ty (fun(x:Str×Bool×Unit)=>Va x.1 x.2.1) [(.str (PV.asStr (List.getD (PV.cells (List.getD ZM (0+Int.toNat 11) default)) 0 default))),(.bool false)] fun e:R3 Str Int Bool=>if (R3.c e)=true then if (Str.s (R3.a e)==s)=true then G ((.tup [(.str (PV.asStr (List.getD (PV.cells (List.getD ZM (0+Int.toNat 11) default)) 0 default))),(.bool false),(.bool true)]))else(YW [(.str (PV.asStr (List.getD (PV.cells (List.getD ZM (0+Int.toNat 11) default)) 0 default))),(.bool true)] fun g=>(if (R3.c g)=true then if (Str.s (R3.a g)==s)=true then G ((.tup [(.str (PV.asStr (List.getD (PV.cells (List.getD ZM (0+Int.toNat 11) default)) 0 default))),(.bool true),(.bool true)]))else(En G s)else(En G s)))else(YW [(.str (PV.asStr (List.getD (PV.cells (List.getD ZM (0+Int.toNat 11) default)) 0 default))),(.bool true)] fun b=>(if (R3.c b)=true then if (Str.s (R3.a b)==s)=true then G ((.tup [(.str (PV.asStr (List.getD (PV.cells (List.getD ZM (0+Int.toNat 11) default)) 0 default))),(.bool true),(.bool true)]))else(En G s)else(En G s)))):At YH 0 (Za Yf G) Ye 0 58 [(0,.pv (.str s)),(5,.row 0 14 0 14),(6,.pv (.int .i64 11))] [.obj (.row false 9 1 ZM)]:=At.tp (dm [dv (R3 Str Int Bool)] 92 0x2222202022320054222200f4522232222202222202022320054222200f4522232022320054222202c452223222) h
abbrev FH(a:PV->Prop)(XU:List UInt8):Prop:=(At YH 0 (Za Yf a) Ye 0 58 [(0,(.pv (.str XU))),(5,(.row 0 14 0 14)),(6,(.pv (.int .i64 13)))] [(.obj (.row false 9 1 ZM))])
theorem d8g{G:PV->Prop}(s:List UInt8)(h:Ty (fun(x:Str×Bool×Unit)=>Va x.1 x.2.1) [(.str (PV.asStr (List.getD (PV.cells (List.getD ZM (0+Int.toNat 12) default)) 0 default))),(.bool false)] fun e:R3 Str Int Bool=>if (R3.c e)=true then if (Str.s (R3.a e)==s)=true then G ((.tup [(.str (PV.asStr (List.getD (PV.cells (List.getD ZM (0+Int.toNat 12) default)) 0 default))),(.bool false),(.bool true)]))else(YW [(.str (PV.asStr (List.getD (PV.cells (List.getD ZM (0+Int.toNat 12) default)) 0 default))),(.bool true)] fun g=>(if (R3.c g)=true then if (Str.s (R3.a g)==s)=true then G ((.tup [(.str (PV.asStr (List.getD (PV.cells (List.getD ZM (0+Int.toNat 12) default)) 0 default))),(.bool true),(.bool true)]))else(FH G s)else(FH G s)))else(YW [(.str (PV.asStr (List.getD (PV.cells (List.getD ZM (0+Int.toNat 12) default)) 0 default))),(.bool true)] fun b=>(if (R3.c b)=true then if (Str.s (R3.a b)==s)=true then G ((.tup [(.str (PV.asStr (List.getD (PV.cells (List.getD ZM (0+Int.toNat 12) default)) 0 default))),(.bool true),(.bool true)]))else(FH G s)else(FH G s)))):At YH 0 (Za Yf G) Ye 0 58 [(0,.pv (.str s)),(5,.row 0 14 0 14),(6,.pv (.int .i64 12))] [.obj (.row false 9 1 ZM)]:=At.tp (dm [dv (R3 Str Int Bool)] 92 0x2222202022320054222200f4522232222202222202022320054222200f4522232022320054222202c452223222) h
abbrev EB(a:PV->Prop)(XU:List UInt8):Prop:=(At YH 0 (Za Yf a) Ye 0 58 [(0,(.pv (.str XU))),(5,(.row 0 14 0 14)),(6,(.pv (.int .i64 14)))] [(.obj (.row false 9 1 ZM))])
theorem d3g{G:PV->Prop}(s:List UInt8)(h:Ty (fun(x:Str×Bool×Unit)=>Va x.1 x.2.1) [(.str (PV.asStr (List.getD (PV.cells (List.getD ZM (0+Int.toNat 13) default)) 0 default))),(.bool false)] fun e:R3 Str Int Bool=>if (R3.c e)=true then if (Str.s (R3.a e)==s)=true then G ((.tup [(.str (PV.asStr (List.getD (PV.cells (List.getD ZM (0+Int.toNat 13) default)) 0 default))),(.bool false),(.bool true)]))else(YW [(.str (PV.asStr (List.getD (PV.cells (List.getD ZM (0+Int.toNat 13) default)) 0 default))),(.bool true)] fun g=>(if (R3.c g)=true then if (Str.s (R3.a g)==s)=true then G ((.tup [(.str (PV.asStr (List.getD (PV.cells (List.getD ZM (0+Int.toNat 13) default)) 0 default))),(.bool true),(.bool true)]))else(EB G s)else(EB G s)))else(YW [(.str (PV.asStr (List.getD (PV.cells (List.getD ZM (0+Int.toNat 13) default)) 0 default))),(.bool true)] fun b=>(if (R3.c b)=true then if (Str.s (R3.a b)==s)=true then G ((.tup [(.str (PV.asStr (List.getD (PV.cells (List.getD ZM (0+Int.toNat 13) default)) 0 default))),(.bool true),(.bool true)]))else(EB G s)else(EB G s)))):At YH 0 (Za Yf G) Ye 0 58 [(0,.pv (.str s)),(5,.row 0 14 0 14),(6,.pv (.int .i64 13))] [.obj (.row false 9 1 ZM)]:=At.tp (dm [dv (R3 Str Int Bool)] 92 0x2222202022320054222200f4522232222202222202022320054222200f4522232022320054222202c452223222) h
theorem e1n{G:PV->Prop}(s:List UInt8)(h:G ((.tup [(.str []),(.bool false),(.bool false)]))):At YH 0 (Za Yf G) Ye 0 58 [(0,.pv (.str s)),(5,.row 0 14 0 14),(6,.pv (.int .i64 14))] [.obj (.row false 9 1 ZM)]:=At.tp (.lit (.lit (.nil))) h
end Go.Pl
namespace Go.Pl
open Go.RowKit
open Enc (enc dec is)
open EncL (encL decL isL)
theorem a7e: ∀ x:UInt8×Unit,(fun _:UInt8×Unit=>true) x=true->Zd a2w 0 (Za LH (Zf (lowB x.1))) Lv [] (Zx c5f (encL x)):=by
 rintro⟨c,⟨⟩⟩ _
 refine c9l c (Cc (fun h=>Zl ?_) fun h=>Zl ?_)
 ·have h:(97:Int)<=c.toNat:=by simpa using h
  have h1:(97:UInt8)<=c:=by rw[UInt8.le_iff_toNat_le];exact Int.ofNat_le.1 h
  unfold lowB
  rw[decide_eq_true h1,Bool.true_and]
  exact decide_eq_decide.2 ⟨fun h=>UInt8.le_iff_toNat_le.2 (Int.ofNat_le.1 h),fun h=>Int.ofNat_le.2 (UInt8.le_iff_toNat_le.1 h)⟩
 ·have h : ¬ (97:Int)<=c.toNat:=by simpa using h
  have h1 : ¬ (97:UInt8)<=c:=by rw[UInt8.le_iff_toNat_le];exact fun k=>h (Int.ofNat_le.2 k)
  unfold lowB
  rw[decide_eq_false h1]
  rfl
theorem a7z: ∀ x:UInt8×Unit,(fun _:UInt8×Unit=>true) x=true->Zd a1c 0 (Za LG (Zf (digB x.1))) Fu [] (Zx c1u (encL x)):=by
 rintro⟨c,⟨⟩⟩ _
 refine d5s c (Cc (fun h=>Zl ?_) fun h=>Zl ?_)
 ·have h:(48:Int)<=c.toNat:=by simpa using h
  have h1:(48:UInt8)<=c:=by rw[UInt8.le_iff_toNat_le];exact Int.ofNat_le.1 h
  unfold digB
  rw[decide_eq_true h1,Bool.true_and]
  exact decide_eq_decide.2 ⟨fun h=>UInt8.le_iff_toNat_le.2 (Int.ofNat_le.1 h),fun h=>Int.ofNat_le.2 (UInt8.le_iff_toNat_le.1 h)⟩
 ·have h : ¬ (48:Int)<=c.toNat:=by simpa using h
  have h1 : ¬ (48:UInt8)<=c:=by rw[UInt8.le_iff_toNat_le];exact fun k=>h (Int.ofNat_le.2 k)
  unfold digB
  rw[decide_eq_false h1]
  rfl
theorem d9m: ∀ x:Str×Unit,(fun _:Str×Unit=>true) x=true->Zd c6e 0 (Za b8a (Zf (Q0.contains x.1.s))) b4r [] (Zx e4n (encL x)):=by
 rintro⟨⟨s⟩,⟨⟩⟩ _
 refine f7j s ?_
 iterate 14 (refine ZA (fun h=>Zl (by subst h;rfl)) fun h=> ?_)
 refine Zl ?_
 show false=Q0.contains s
 rw[eq_comm,<- Bool.not_eq_true,List.contains_iff_mem]
 simp only[Q0,List.mem_cons,List.not_mem_nil,or_false,not_or]
 refine⟨?_,?_,?_,?_,?_,?_,?_,?_,?_,?_,?_,?_,?_,?_⟩ <;> assumption
theorem d9g{c:UInt8}{F:UInt8->Bool}{ps:List PV}{P:Bool->Prop}(e:ps=encL (c,()))(h:P (F c)):preT (fun x:UInt8×Unit=>true) ps=true∧ ∃ y:Bool,AV.pv (Zi (fun x:UInt8×Unit=>F x.1) ps)=AV.pv (enc y)∧P y:=⟨Zc (c,()) e rfl,Zb (c,()) e h⟩
theorem b2i(s:List UInt8)(hl:s.length<=1048576)(h1:1<=s.length)(R:Bool): ∀ (d i:Nat),d+i=s.length->1<=i->R=((s.drop i).all E5&&(decide (s.length<=30)&& !Q0.contains s)) ->
  At Ki 0 (Za UZ (Zf R)) UQ 0 39 [(0,.pv (.str s)),(3,.pv (.int .i64 i))] []:=by
 intro d
 induction d with
 | zero=>
  intro i hi g b
  rw[List.drop_eq_nil_of_le (by omega),List.all_nil,Bool.true_and]at b
  refine Co s i (ZU (Yv (by omega)) (ZT (decide_eq_true (by omega)) (ZO (fun h=>Zb (⟨s⟩,()) rfl (Zl ?_)) fun h=>Zl ?_)))
  ·rw[b,decide_eq_true (show s.length<=30 by omega)];rfl
  ·rw[b,decide_eq_false (show ¬ s.length<=30 by omega)];rfl
 | succ d ih=>
  intro i hi g b
  have a:i<s.length:=by omega
  have e:(decide (0<=(i:Int))&&decide (Int.toNat (i:Int)<List.length s))=true:=by simp[a]
  rw[List.drop_eq_getElem_cons a,List.all_cons]at b
  have k:=fun h=>ih (i+1) (by omega) (by omega) h
  refine Co s i (ZT (Yq a) ⟨e,d9g (P6 a) (YY (fun hs=>ZU (by simp;omega) ⟨e,d9g (P6 a) (YY (fun hd=>Zl ?_) fun hd=> ?_)⟩) fun hs=> ?_)⟩)
  ·rw[b];unfold E5;rw[hs,hd];rfl
  ·rw[next (by omega)]
   exact k (by rw[b];unfold E5;rw[hd];rfl)
  ·rw[next (by omega)]
   exact k (by rw[b];unfold E5;rw[hs,Bool.or_true,Bool.true_and])
theorem b9n: ∀ x:Str×Unit,decide (x.1.s.length<=1048576)=true->Zd Ki 0 (Za UZ (Zf (nameI x.1.s))) UQ [] (Zx c8e (encL x)):=by
 rintro⟨⟨s⟩,⟨⟩⟩ h
 have e:s.length<=1048576:=of_decide_eq_true h
 refine e5j s ?_
 show At Ki 0 (Za UZ (Zf (nameI s))) UQ 0 39 [(0,.pv (.str s)),(3,.pv (.int .i64 ((0:Nat):Int)))] []
 cases s with
 | nil=>exact Co [] 0 (ZU (by simp) (ZU (by simp) (Zl rfl)))
 | cons c r=>
  have a:0<(c::r).length:=by simp
  have b:(decide (0<=((0:Nat):Int))&&decide (Int.toNat ((0:Nat):Int)<List.length (c::r)))=true:=by simp
  refine Co (c::r) (0:Nat) (ZT (Yq a) ⟨b,d9g (P6 a) (YY (fun hs=>ZT (by simp) (Zl ?_)) fun hs=> ?_)⟩)
  ·have hs:lowB c=false:=hs
   show false=(lowB c&&r.all E5&&decide (r.length<=29)&& !Q0.contains (c::r))
   rw[hs];rfl
  ·have hs:lowB c=true:=hs
   rw[next (by omega)]
   refine b2i (c::r) e (by simp) _ r.length 1 (by rw[List.length_cons]) (by omega) ?_
   show(lowB c&&r.all E5&&decide (r.length<=29)&& !Q0.contains (c::r))=(r.all E5&&(decide (r.length+1<=30)&& !Q0.contains (c::r)))
   rw[hs,Bool.true_and,Bool.and_assoc,show decide (r.length<=29)=decide (r.length+1<=30)from decide_eq_decide.2 (by omega)]
theorem KZ{s:List UInt8}{P:Bool->Prop}(a:s.length<=1048576)(h:P (nameI s)):preT (fun x:Str×Unit=>decide (x.1.s.length<=1048576)) [.str s]=true∧ ∃ y:Bool,AV.pv (Zi (fun x:Str×Unit=>nameI x.1.s) [.str s])=AV.pv (enc y)∧P y:=⟨Zc (⟨s⟩,()) rfl (decide_eq_true a),Zb (⟨s⟩,()) rfl h⟩
theorem g5h{s:List UInt8}{P:Bool->Prop}(a:s.length<=1048576)(h:P (fullI s)):preT (fun x:Str×Unit=>decide (x.1.s.length<=1048576)) [.str s]=true∧ ∃ y:Bool,AV.pv (Zi (fun x:Str×Unit=>fullI x.1.s) [.str s])=AV.pv (enc y)∧P y:=⟨Zc (⟨s⟩,()) rfl (decide_eq_true a),Zb (⟨s⟩,()) rfl h⟩
theorem c7v{s:List UInt8}{P:Bool->Prop}(a:s.length<=1048576)(h:P (Bq s)):preT (fun x:Str×Unit=>decide (x.1.s.length<=1048576)) [.str s]=true∧ ∃ y:Bool,AV.pv (Zi (fun x:Str×Unit=>Bq x.1.s) [.str s])=AV.pv (enc y)∧P y:=⟨Zc (⟨s⟩,()) rfl (decide_eq_true a),Zb (⟨s⟩,()) rfl h⟩
theorem g7r{s:List UInt8}{i:Nat}(h:i<s.length)(ha : ∀ x∈s.take i,(x != 46)=true)(hb:s[i]=46):fullI s=(nameI (s.take i)&&nameI (s.drop (i+1))):=by
 have e:s=s.take i++s[i]::s.drop (i+1):=by rw[<- List.drop_eq_getElem_cons h,List.take_append_drop]
 have a:(s.takeWhile fun c=>c != 46)=s.take i:=by
  have h2:((s.take i++s[i]::s.drop (i+1)).takeWhile fun c=>c != 46)=s.take i:=by
   rw[List.takeWhile_append_of_pos ha,hb,List.takeWhile_cons,if_neg (by decide),List.append_nil]
  rw[<- e]at h2
  exact h2
 have b:(s.dropWhile fun c=>c != 46)=s[i]::s.drop (i+1):=by
  have h2:((s.take i++s[i]::s.drop (i+1)).dropWhile fun c=>c != 46)=s[i]::s.drop (i+1):=by
   rw[List.dropWhile_append_of_pos ha,hb,List.dropWhile_cons,if_neg (by decide)]
  rw[<- e]at h2
  exact h2
 unfold fullI
 rw[a,b]
theorem g8c{s:List UInt8}(ha : ∀ x∈s,(x != 46)=true):fullI s=false:=by
 have a:(s.dropWhile fun c=>c != 46)=[]:=by
  have h2:((s++[]).dropWhile fun c=>c != 46)=[]:=by rw[List.dropWhile_append_of_pos ha];rfl
  rwa [List.append_nil]at h2
 unfold fullI
 rw[a]
theorem b0e(s:List UInt8)(hl:s.length<=1048576): ∀ (d i:Nat),d+i=s.length->(∀ x∈s.take i,(x != 46)=true) ->
  At GQ 0 (Za KL (Zf (fullI s))) KH 0 25 [(0,.pv (.str s)),(3,.pv (.int .i64 i))] []:=by
 intro d
 induction d with
 | zero=>
  intro i hi ha
  rw[List.take_of_length_le (by omega)]at ha
  exact a6i s i (ZU (Yv (by omega)) (Zl (g8c ha).symm))
 | succ d ih=>
  intro i hi ha
  have a:i<s.length:=by omega
  have g:(decide (0<=(i:Int))&&decide (Int.toNat (i:Int)<List.length s))=true:=by simp[a]
  have j:s.getD (Int.toNat (i:Int)) 0=s[i]:=by rw[Int.toNat_natCast,List.getD_eq_getElem?_getD,List.getElem?_eq_getElem a];rfl
  refine a6i s i (ZT (Yq a) ⟨g,ZA (fun h=> ?_) fun h=> ?_⟩)
  ·rw[j]at h
   have hb:s[i]=46:=UInt8.toNat_inj.1 (by show s[i].toNat=46;omega)
   have e:=g7r a ha hb
   rw[Int.toNat_natCast,List.drop_zero,next (by omega),Int.toNat_natCast,List.take_of_length_le (Nat.le_refl s.length)]
   refine⟨by simp;omega,KZ (s:=s.take i) (by rw[List.length_take];omega) (YV (fun h1=>⟨by simp;omega,KZ (s:=s.drop (i+1)) (by rw[List.length_drop];omega) (Zl ?_)⟩) fun h1=>Zl ?_)⟩
   ·have h1:nameI (s.take i)=true:=h1
    rw[e,h1];rfl
   ·have h1:nameI (s.take i)=false:=h1
    rw[e,h1];rfl
  ·rw[j]at h
   rw[next (by omega)]
   refine ih (i+1) (by omega) fun x b=> ?_
   rw[Qv a,List.mem_append]at b
   rcases b with b|b
   ·exact ha x b
   ·rw[List.mem_singleton]at b
    subst b
    have:s[i]≠46:=fun e=>h (by rw[e];rfl)
    simpa using this
theorem b9w: ∀ x:Str×Unit,decide (x.1.s.length<=1048576)=true->Zd GQ 0 (Za KL (Zf (fullI x.1.s))) KH [] (Zx d0a (encL x)):=by
 rintro⟨⟨s⟩,⟨⟩⟩ h
 exact e7b s (b0e s (of_decide_eq_true h) s.length 0 (by omega) (by simp))
theorem c5u: ∀ x:Str×Unit,decide (x.1.s.length<=1048576)=true->Zd d2e 0 (Za b8x (Zf (Bq x.1.s))) b6p [] (Zx e2o (encL x)):=by
 rintro⟨⟨s⟩,⟨⟩⟩ h
 have a:s.length<=1048576:=of_decide_eq_true h
 refine f7f s (KZ a (YV (fun h1=>Zl ?_) fun h1=>g5h a (Zl ?_)))
 ·have h1:nameI s=true:=h1
  show true=(nameI s||fullI s)
  rw[h1];rfl
 ·have h1:nameI s=false:=h1
  show fullI s=(nameI s||fullI s)
  rw[h1];rfl
theorem g8l{n:Nat}:((n:Int)==0)=decide (n=0):=by rw[Bool.eq_iff_iff];simp
theorem b3k: ∀ x:Tm×Bool×Bool×Bool×Bool×Bool×Unit,tW x.1=true->Zd a3l 0 (Za GH (Zf (Yx x.1.nd x.2.1 x.2.2.1 x.2.2.2.1 x.2.2.2.2.1 x.2.2.2.2.2.1))) MZ [] (Zx c4r (encL x)):=by
 rintro⟨⟨n,ks⟩,a,b,c,d,e,⟨⟩⟩ hw
 have g:=ndB hw
 have h1:=g.dims
 have h2:=g.data
 rw[<- Eu]
 have hb:Yx n a b c d e=((a||decide (n.name.s=[]))&&(b||decide (n.num=0))&&(c||(decide (n.elem.s=[])&&decide (n.dims.length+n.data.length=0)))&&(d||decide (n.sizes.length=0))&&(e||decide (n.ranks.length=0))):=rfl
 show Zd _ 0 (Za GH (Zf (Yx n a b c d e))) _ _ _
 rw[hb]
 have hb:Yx n a b c d e=((a||decide (n.name.s=[]))&&(b||decide (n.num=0))&&(c||(decide (n.elem.s=[])&&decide (n.dims.length+n.data.length=0)))&&(d||decide (n.sizes.length=0))&&(e||decide (n.ranks.length=0))):=rfl
 show Zd _ 0 (Za GH (Zf (Yx n a b c d e))) _ _ _
 rw[hb]
 refine d9b n ks a b c d e ?_
 simp only[List.length_map,RF (show n.dims.length+n.data.length<=4611686018427387904 by omega),g8l]
 generalize decide (n.dims.length+n.data.length=0)=X
 generalize decide (n.sizes.length=0)=Y
 generalize decide (n.ranks.length=0)=Z
 clear hb h1 h2 g hw
 repeat' (first|refine ZA (fun _=> ?_) fun _=> ?_|refine YV (fun _=> ?_) fun _=> ?_|refine Zl ?_)
 all_goals simp_all
theorem c5g(l:List Lin)(hl:l.length<=1048576)(ho : ∀ x∈l,XK x=true)(R:Bool): ∀ (d i:Nat),d+i=l.length->R=(l.drop i).all Zh ->
  At Sa 0 (Za GV (Zf R)) Gf 0 16 [(0,.pv (enc l)),(3,.pv (.int .i64 i))] []:=by
 intro d
 induction d with
 | zero=>
  intro i hi b
  rw[List.drop_eq_nil_of_le (by omega)]at b
  exact b3v l i (ZU (XR (by omega)) (Zl b.symm))
 | succ d ih=>
  intro i hi b
  have a:i<l.length:=by omega
  rw[List.drop_eq_getElem_cons a,List.all_cons]at b
  refine b3v l i (ZT (Xv a) ⟨Zp a rfl,ZB a ⟨Zc (l[i],()) rfl (ho _ (List.getElem_mem a)),Zb (l[i],()) rfl (YY (fun h=>Zl ?_) fun h=> ?_)⟩⟩)
  ·have h:Zh l[i]=false:=h
   rw[b,h];rfl
  ·have h:Zh l[i]=true:=h
   rw[next (by omega)]
   exact ih (i+1) (by omega) (by rw[b,h];rfl)
theorem d3m: ∀ x:List Lin×Unit,(decide (x.1.length<=1048576)&&x.1.all XK)=true->Zd Sa 0 (Za GV (Zf (x.1.all Zh))) Gf [] (Zx e8d (encL x)):=by
 rintro⟨l,⟨⟩⟩ h
 simp only[Bool.and_eq_true,decide_eq_true_eq,List.all_eq_true]at h
 exact g0p l (c5g l h.1 h.2 _ l.length 0 (by omega) rfl)
theorem d3l: ∀ x:Str×Bool×Unit,true=true->Zd e1m 0 (Za b6c (Zf (Va x.1 x.2.1))) b5d [] (Zx e8p (encL x)):=by
 rintro⟨⟨s⟩,u,⟨⟩⟩ _
 refine f8z s u (YV (fun hu=> ?_) fun hu=> ?_)
 ·subst hu
  iterate 2 (refine ZA (fun h=>by subst h;exact⟨rfl,rfl⟩) fun h=> ?_)
  refine Zg (x:=(⟨⟨[]⟩,0,false⟩:R3 Str Int Bool)) ?_
  have e:b3f s true=none:=by
   unfold b3f
   rw[List.find?_eq_none]
   intro x a
   simp only[XM,List.mem_cons,List.not_mem_nil,or_false]at a
   rcases a with rfl|rfl|rfl|rfl|rfl|rfl|rfl|rfl|rfl|rfl|rfl|rfl|rfl|rfl|rfl <;> simp <;> intro e <;> simp_all
  show _=Va ⟨s⟩ true
  unfold Va
  rw[show b3f (⟨s⟩:Str).s true=none from e]
 ·subst hu
  iterate 13 (refine ZA (fun h=>by subst h;exact⟨rfl,rfl⟩) fun h=> ?_)
  refine Zg (x:=(⟨⟨[]⟩,0,false⟩:R3 Str Int Bool)) ?_
  have e:b3f s false=none:=by
   unfold b3f
   rw[List.find?_eq_none]
   intro x a
   simp only[XM,List.mem_cons,List.not_mem_nil,or_false]at a
   rcases a with rfl|rfl|rfl|rfl|rfl|rfl|rfl|rfl|rfl|rfl|rfl|rfl|rfl|rfl|rfl <;> simp <;> intro e <;> simp_all
  show _=Va ⟨s⟩ false
  unfold Va
  rw[show b3f (⟨s⟩:Str).s false=none from e]
theorem g3y{n:List UInt8}{r:OpR}(h:CR n=some r):JU ⟨n⟩=⟨⟨r.s⟩,r.u,true⟩:=by unfold JU;rw[show CR (⟨n⟩:Str).s=some r from h]
theorem c9i: ∀ x:Str×Unit,true=true->Zd YH 0 (Za Yf (Zf (JU x.1))) Ye [] (Zx e6c (encL x)):=by
 rintro⟨⟨s⟩,⟨⟩⟩ _
 refine f9m s ?_
 refine d4o s (Zb (⟨[124,124]⟩,false,()) rfl ?_)
 refine ZT rfl (ZA (fun h=>by subst h;exact⟨rfl,rfl⟩) fun B=>Zb (⟨[124,124]⟩,true,()) rfl ?_)
 refine ZU (by decide) ?_
 refine d5b s (Zb (⟨[38,38]⟩,false,()) rfl ?_)
 refine ZT rfl (ZA (fun h=>by subst h;exact⟨rfl,rfl⟩) fun b1=>Zb (⟨[38,38]⟩,true,()) rfl ?_)
 refine ZU (by decide) ?_
 refine c6i s (Zb (⟨[61,61]⟩,false,()) rfl ?_)
 refine ZT rfl (ZA (fun h=>by subst h;exact⟨rfl,rfl⟩) fun z=>Zb (⟨[61,61]⟩,true,()) rfl ?_)
 refine ZU (by decide) ?_
 refine e0f s (Zb (⟨[33,61]⟩,false,()) rfl ?_)
 refine ZT rfl (ZA (fun h=>by subst h;exact⟨rfl,rfl⟩) fun l=>Zb (⟨[33,61]⟩,true,()) rfl ?_)
 refine ZU (by decide) ?_
 refine d4w s (Zb (⟨[60]⟩,false,()) rfl ?_)
 refine ZT rfl (ZA (fun h=>by subst h;exact⟨rfl,rfl⟩) fun r=>Zb (⟨[60]⟩,true,()) rfl ?_)
 refine ZU (by decide) ?_
 refine d2p s (Zb (⟨[60,61]⟩,false,()) rfl ?_)
 refine ZT rfl (ZA (fun h=>by subst h;exact⟨rfl,rfl⟩) fun q=>Zb (⟨[60,61]⟩,true,()) rfl ?_)
 refine ZU (by decide) ?_
 refine c9f s (Zb (⟨[62]⟩,false,()) rfl ?_)
 refine ZT rfl (ZA (fun h=>by subst h;exact⟨rfl,rfl⟩) fun y=>Zb (⟨[62]⟩,true,()) rfl ?_)
 refine ZU (by decide) ?_
 refine e0k s (Zb (⟨[62,61]⟩,false,()) rfl ?_)
 refine ZT rfl (ZA (fun h=>by subst h;exact⟨rfl,rfl⟩) fun k=>Zb (⟨[62,61]⟩,true,()) rfl ?_)
 refine ZU (by decide) ?_
 refine e2f s (Zb (⟨[43]⟩,false,()) rfl ?_)
 refine ZT rfl (ZA (fun h=>by subst h;exact⟨rfl,rfl⟩) fun m=>Zb (⟨[43]⟩,true,()) rfl ?_)
 refine ZU (by decide) ?_
 refine d6z s (Zb (⟨[45]⟩,false,()) rfl ?_)
 refine ZT rfl (ZA (fun h=>by subst h;exact⟨rfl,rfl⟩) fun A=>Zb (⟨[45]⟩,true,()) rfl ?_)
 refine ZT rfl (ZA (fun h=>by subst h;exact⟨rfl,rfl⟩) fun u=> ?_)
 refine c9s s (Zb (⟨[42]⟩,false,()) rfl ?_)
 refine ZT rfl (ZA (fun h=>by subst h;exact⟨rfl,rfl⟩) fun g=>Zb (⟨[42]⟩,true,()) rfl ?_)
 refine ZU (by decide) ?_
 refine c9a s (Zb (⟨[47]⟩,false,()) rfl ?_)
 refine ZT rfl (ZA (fun h=>by subst h;exact⟨rfl,rfl⟩) fun i=>Zb (⟨[47]⟩,true,()) rfl ?_)
 refine ZU (by decide) ?_
 refine d8g s (Zb (⟨[37]⟩,false,()) rfl ?_)
 refine ZT rfl (ZA (fun h=>by subst h;exact⟨rfl,rfl⟩) fun a=>Zb (⟨[37]⟩,true,()) rfl ?_)
 refine ZU (by decide) ?_
 refine d3g s (Zb (⟨[33]⟩,false,()) rfl ?_)
 refine ZU (by decide) (Zb (⟨[33]⟩,true,()) rfl ?_)
 refine ZT rfl (ZA (fun h=>by subst h;exact⟨rfl,rfl⟩) fun b=> ?_)
 refine e1n s (Zg (x:=(⟨⟨[]⟩,false,false⟩:R3 Str Bool Bool)) ?_)
 have e:CR s=none:=by
  unfold CR
  rw[List.find?_eq_none]
  intro x j
  simp only[XM,List.mem_cons,List.not_mem_nil,or_false]at j
  rcases j with rfl|rfl|rfl|rfl|rfl|rfl|rfl|rfl|rfl|rfl|rfl|rfl|rfl|rfl|rfl
  ·exact fun e=>B (eq_of_beq e)
  ·exact fun e=>b1 (eq_of_beq e)
  ·exact fun e=>z (eq_of_beq e)
  ·exact fun e=>l (eq_of_beq e)
  ·exact fun e=>r (eq_of_beq e)
  ·exact fun e=>q (eq_of_beq e)
  ·exact fun e=>y (eq_of_beq e)
  ·exact fun e=>k (eq_of_beq e)
  ·exact fun e=>m (eq_of_beq e)
  ·exact fun e=>A (eq_of_beq e)
  ·exact fun e=>g (eq_of_beq e)
  ·exact fun e=>i (eq_of_beq e)
  ·exact fun e=>a (eq_of_beq e)
  ·exact fun e=>u (eq_of_beq e)
  ·exact fun e=>b (eq_of_beq e)
 show _=JU ⟨s⟩
 unfold JU
 rw[show CR (⟨s⟩:Str).s=none from e]
theorem Ql(n:Nd):P8 n=(decide (n.elem.s=[])&&decide (n.dims.length+n.data.length=0)):=by
 unfold P8
 have a:decide (n.elem=⟨[]⟩)=decide (n.elem.s=[]):=decide_eq_decide.2 ⟨fun h=>by rw[h],fun h=>by cases hn:n.elem;rw[hn]at h;simp only at h;rw[h]⟩
 rw[a,Bool.and_assoc]
 congr 1
 cases n.dims <;> cases n.data <;> simp
theorem Jh(n:Nd):decide (n.name=⟨[]⟩)=decide (n.name.s=[]):=decide_eq_decide.2 ⟨fun h=>by rw[h],fun h=>by cases hn:n.name;rw[hn]at h;simp only at h;rw[h]⟩
theorem VQ{α:Type}(l:List α):l.isEmpty=decide (l.length=0):=by cases l <;> simp
theorem Qj(n:Nd):Rt n=(decide (n.sizes.length=0)&&decide (n.ranks.length=0)):=by unfold Rt;rw[VQ,VQ]
def Dh(n:Nd):Bool:=(decide (n.name.s=Xa)&&decide (n.num ≥ -2147483648)&&decide (n.num<=2147483647))||(decide (n.name.s=YN)&&(decide (n.num=0)||decide (n.num=1)))
theorem Qe(n:Nd):UK n=Dh n:=by
 unfold UK Dh
 rw[show decide (n.num<=2147483647)=decide (n.num<2147483648)from decide_eq_decide.2 (by omega)]
 by_cases h:n.name.s=YN
 ·rw[if_pos h,h]
  simp[Xa,YN]
 ·rw[if_neg h,decide_eq_false h]
  simp
theorem lQ1{n:Nd}(h1:n.name.s=[105,110,116])(h2:n.num ≥ -2147483648)(h3:n.num<=2147483647):Dh n=true:=by unfold Dh;rw[decide_eq_true (show n.name.s=Xa from h1),decide_eq_true h2,decide_eq_true h3];rfl
theorem lQ2{n:Nd}(h1:n.name.s=[98,111,111,108])(h2:n.num=0):Dh n=true:=by unfold Dh;rw[decide_eq_true (show n.name.s=YN from h1),decide_eq_true h2];simp
theorem lQ3{n:Nd}(h1:n.name.s=[98,111,111,108])(h2:n.num=1):Dh n=true:=by unfold Dh;rw[decide_eq_true (show n.name.s=YN from h1),decide_eq_true h2];simp
theorem lQ0{n:Nd}(h1 : ¬ (n.name.s=[105,110,116]∧n.num ≥ -2147483648∧n.num<=2147483647))(h2:n.name.s=[98,111,111,108]->n.num≠0∧n.num≠1):Dh n=false:=by
 rw[<- Bool.not_eq_true]
 intro h
 unfold Dh at h
 simp only[Bool.or_eq_true,Bool.and_eq_true,decide_eq_true_eq]at h
 rcases h with h|h
 ·exact h1 ⟨h.1.1,h.1.2,h.2⟩
 ·have:=h2 h.1
  rcases h.2 with h|h
  ·exact this.1 h
  ·exact this.2 h
theorem kB1{n:Nd}{k:Nat}(h:n.kind=1):YJ n k=(decide (k=0)&&nameI n.name.s&&Yx n true false false false false):=by
 unfold YJ Yx
 simp only[h,Ql,Jh,Qj,VQ,Qe,Bool.true_or,Bool.false_or,Bool.true_and,Bool.and_true,if_true,if_false,Int.reduceEq]
 ac_rfl
theorem kB2{n:Nd}{k:Nat}(h:n.kind=2):YJ n k=(decide (k=0)&&Dh n&&Yx n true true false false false):=by
 unfold YJ Yx
 simp only[h,Ql,Jh,Qj,VQ,Qe,Bool.true_or,Bool.false_or,Bool.true_and,Bool.and_true,if_true,if_false,Int.reduceEq]
 ac_rfl
theorem kB3{n:Nd}{k:Nat}(h:n.kind=3):YJ n k=(decide (k=0)&&WE (U1 n)&&Yx n false false true false false):=by
 unfold YJ Yx
 simp only[h,Ql,Jh,Qj,VQ,Qe,Bool.true_or,Bool.false_or,Bool.true_and,Bool.and_true,if_true,if_false,Int.reduceEq]
 ac_rfl
theorem kB4{n:Nd}{k:Nat}(h:n.kind=4):YJ n k=(decide (k=0)&&decide (n.sizes.length=1)&&n.sizes.all Zh&&Yx n false false false true false):=by
 unfold YJ Yx
 simp only[h,Ql,Jh,Qj,VQ,Qe,Bool.true_or,Bool.false_or,Bool.true_and,Bool.and_true,if_true,if_false,Int.reduceEq]
 ac_rfl
theorem kB5{n:Nd}{k:Nat}(h:n.kind=5):YJ n k=(decide (k=2)&&nameI n.name.s&&Yx n true false false false false):=by
 unfold YJ Yx
 simp only[h,Ql,Jh,Qj,VQ,Qe,Bool.true_or,Bool.false_or,Bool.true_and,Bool.and_true,if_true,if_false,Int.reduceEq]
 ac_rfl
theorem kB6{n:Nd}{k:Nat}(h:n.kind=6):YJ n k=(XI n k&&Yx n true true false true true):=by
 unfold YJ Yx
 simp only[h,Ql,Jh,Qj,VQ,Qe,Bool.true_or,Bool.false_or,Bool.true_and,Bool.and_true,if_true,if_false,Int.reduceEq]
 ac_rfl
theorem kB7{n:Nd}{k:Nat}(h:n.kind=7):YJ n k=(decide (1<=k)&&decide (k<=16)&&Yx n false false false false false):=by
 unfold YJ Yx
 simp only[h,Ql,Jh,Qj,VQ,Qe,Bool.true_or,Bool.false_or,Bool.true_and,Bool.and_true,if_true,if_false,Int.reduceEq]
 ac_rfl
theorem kB8{n:Nd}{k:Nat}(h:n.kind=8):YJ n k=(decide (k=2)&&Bq n.name.s&&Yx n true false false false false):=by
 unfold YJ Yx
 simp only[h,Ql,Jh,Qj,VQ,Qe,Bool.true_or,Bool.false_or,Bool.true_and,Bool.and_true,if_true,if_false,Int.reduceEq]
 ac_rfl
theorem kB9{n:Nd}{k:Nat}(h:n.kind=9):YJ n k=(decide (k=1)&&Bq n.name.s&&Yx n true false false false false):=by
 unfold YJ Yx
 simp only[h,Ql,Jh,Qj,VQ,Qe,Bool.true_or,Bool.false_or,Bool.true_and,Bool.and_true,if_true,if_false,Int.reduceEq]
 ac_rfl
theorem kB0{n:Nd}{k:Nat}(h1:n.kind≠1)(h2:n.kind≠2)(h3:n.kind≠3)(b:n.kind≠4)(e:n.kind≠5)(g:n.kind≠6)(i:n.kind≠7)(a:n.kind≠8)(h:n.kind≠9):YJ n k=false:=by
 unfold YJ
 rw[if_neg h1,if_neg h2,if_neg h3,if_neg b,if_neg e,if_neg g,if_neg i,if_neg a,if_neg h]
theorem a3f{α:Type}[Enc α]{l:List α}{c:Int}{P Q:Prop}(h1:(l.length:Int)=c->P)(h2:(l.length:Int)≠c->Q):if ((↑(List.length (List.map (enc:α->PV) l)):Int)==c)=true then P else Q:=by
 rw[List.length_map];exact ZA h1 h2
theorem BC{n:Nd}{ks:List Tm}{a b c d e:Bool}{P:Bool->Prop}(g:tW (.mk n ks)=true)(h:P (Yx n a b c d e)):preT (fun x:Tm×Bool×Bool×Bool×Bool×Bool×Unit=>tW x.1) (Je n ks a b c d e)=true∧ ∃ y:Bool,AV.pv (Zi (fun x:Tm×Bool×Bool×Bool×Bool×Bool×Unit=>Yx x.1.nd x.2.1 x.2.2.1 x.2.2.2.1 x.2.2.2.2.1 x.2.2.2.2.2.1) (Je n ks a b c d e))=AV.pv (enc y)∧P y:=
 ⟨Zc (Tm.mk n ks,a,b,c,d,e,()) (Eu n ks a b c d e) g,Zb (Tm.mk n ks,a,b,c,d,e,()) (Eu n ks a b c d e) h⟩
theorem e1r{l:List Lin}{P:Bool->Prop}(a:l.length<=1048576)(h1 : ∀ x∈l,XK x=true)(h:P (l.all Zh)):preT (fun x:List Lin×Unit=>decide (x.1.length<=1048576)&&x.1.all XK) [.sl 2 false (l.map enc)]=true∧ ∃ y:Bool,AV.pv (Zi (fun x:List Lin×Unit=>x.1.all Zh) [.sl 2 false (l.map enc)])=AV.pv (enc y)∧P y:=
 ⟨Zc (l,()) rfl (by show(decide (l.length<=1048576)&&l.all XK)=true;rw[decide_eq_true a,List.all_eq_true.2 h1];rfl),Zb (l,()) rfl h⟩
theorem g2w{n:Nd}{P:Bool->Prop}(a:VH (U1 n)=true)(h:P (WE (U1 n))):preT (fun x:Arr×Unit=>VH x.1) [.agg [.str n.elem.s,.sl 1 false (n.dims.map enc),.sl 1 false (n.data.map enc)]]=true∧ ∃ y:Bool,AV.pv (Zi (fun x:Arr×Unit=>WE x.1) [.agg [.str n.elem.s,.sl 1 false (n.dims.map enc),.sl 1 false (n.data.map enc)]])=AV.pv (enc y)∧P y:=
 ⟨Zc (U1 n,()) rfl a,Zb (U1 n,()) rfl h⟩
theorem b2n(n:Nd)(ks:List Tm)(j:tW (.mk n ks)=true)(R:Bool): ∀ (d i:Nat),d+i=n.ranks.length->R=(Wd (n.ranks.drop i)&&Bq n.name.s&&Yx n true true false true true) ->
  At JC 0 (Za UH (Zf R)) QK 0 221 [(1,.ptr 0 0),(5,.pv (.int .i64 i))] [.obj (.box (ZY n ks))]:=by
 have g:=ndB j
 have hr:=g.ranks
 have e:=g.name
 intro d
 induction d with
 | zero=>
  intro i hi b
  rw[List.drop_eq_nil_of_le (by omega)]at b
  have b:R=(Bq n.name.s&&Yx n true true false true true):=b
  refine a6a n ks i (ZU (XR (by omega)) (c7v e (YV (fun h=>BC j (Zl ?_)) fun h=>Zl ?_)))
  ·rw[b,h];rfl
  ·rw[b,h];rfl
 | succ d ih=>
  intro i hi b
  have a:i<n.ranks.length:=by omega
  rw[List.drop_eq_getElem_cons a]at b
  have hc:Wd (n.ranks[i]::n.ranks.drop (i+1))=((decide (0<=n.ranks[i])&&decide (n.ranks[i]<=6))&&Wd (n.ranks.drop (i+1))):=rfl
  rw[hc]at b
  refine a6a n ks i (ZT (Xv a) ⟨Zp a rfl,ZB a (ZO (fun h=>Zl ?_) fun h=>⟨Zp a rfl,ZB a (ZO (fun h2=>Zl ?_) fun h2=> ?_)⟩)⟩)
  ·have h:n.ranks[i]<0:=h
   rw[b,decide_eq_false (by omega)];rfl
  ·have h2:n.ranks[i]>6:=h2
   rw[b,decide_eq_false (show ¬ n.ranks[i]<=6 by omega),Bool.and_false];rfl
  ·have h : ¬ n.ranks[i]<0:=h
   have h2 : ¬ n.ranks[i]>6:=h2
   rw[next (by omega)]
   exact ih (i+1) (by omega) (by rw[b,decide_eq_true (by omega),decide_eq_true (show n.ranks[i]<=6 by omega)];rfl)
theorem c4t: ∀ x:Tm×Unit,tW x.1=true->Zd JC 0 (Za UH (Zf (H5 x.1))) QK [] (Zx d5o (encL x)):=by
 rintro⟨⟨n,ks⟩,⟨⟩⟩ hw
 have y:=ndB hw
 have k:=y.name
 have hkl:=(G7 hw).1
 have u : ∀ l∈n.sizes,XK l=true:=fun l B=>decide_eq_true (by have:=y.lens l B;omega)
 rw[<- ZP]
 show Zd _ 0 (Za UH (Zf (WC n ks.length))) _ _ _
 refine e5u n ks (ZO (fun h=>Zl ?_) fun h1=>ZO (fun h=>Zl ?_) fun h2=> ?_)
 ·unfold WC;rw[decide_eq_false (by omega)];rfl
 ·unfold WC;rw[decide_eq_false (show ¬ n.line<=10000 by omega),Bool.and_false];rfl
 have hn:WC n ks.length=YJ n ks.length:=by unfold WC;rw[decide_eq_true (by omega),decide_eq_true (by omega)];rfl
 rw[hn]
 refine ZA (fun g=> ?_) fun D=>ZA (fun g=> ?_) fun E=>ZA (fun g=> ?_) fun H=>ZA (fun g=> ?_) fun N=>ZA (fun g=> ?_) fun L=>ZA (fun g=> ?_) fun O=>ZA (fun g=> ?_) fun F=>ZA (fun g=> ?_) fun C=>ZA (fun g=> ?_) fun M=>Zl (kB0 D E H N L O F C M).symm
 ·rw[kB1 g]
  refine a3f (fun j=>KZ k (YV (fun e=>BC hw (Zl ?_)) fun e=>Zl ?_)) fun j=>Zl ?_
  ·rw[e,decide_eq_true (by omega)];rfl
  ·rw[e,Bool.and_false];rfl
  ·rw[decide_eq_false (by omega)];rfl
 ·rw[kB2 g]
  have i:Dh n=true->(ks.length:Int)=0->Yx n true true false false false=(decide (ks.length=0)&&Dh n&&Yx n true true false false false):=fun a b=>by rw[a,decide_eq_true (show ks.length=0 by omega)];rfl
  have r:Dh n=false->false=(decide (ks.length=0)&&Dh n&&Yx n true true false false false):=fun a=>by rw[a,Bool.and_false];rfl
  have m:(ks.length:Int)≠0->false=(decide (ks.length=0)&&Dh n&&Yx n true true false false false):=fun a=>by rw[decide_eq_false (show ¬ ks.length=0 by omega)];rfl
  repeat' (first|refine a3f (fun _=> ?_) fun _=> ?_|refine ZA (fun _=> ?_) fun _=> ?_|refine ZO (fun _=> ?_) fun _=> ?_|refine BC hw (Zl ?_)|refine Zl ?_)
  all_goals first
   | exact m ‹_›
   | exact i (lQ1 ‹_› ‹_› ‹_›) ‹_›
   | exact i (lQ2 ‹_› ‹_›) ‹_›
   | exact i (lQ3 ‹_› ‹_›) ‹_›
   | exact r (lQ0 (fun h=>by first|exact absurd h.1 ‹_› | exact absurd h.2.1 ‹_› | exact absurd h.2.2 ‹_›) (fun a=>by first|exact absurd a ‹_› | exact⟨‹_›,‹_›⟩))
 ·rw[kB3 g]
  refine a3f (fun j=>g2w (Ew hw) (YV (fun e=>BC hw (Zl ?_)) fun e=>Zl ?_)) fun j=>Zl ?_
  ·rw[e,decide_eq_true (by omega)];rfl
  ·rw[e,Bool.and_false];rfl
  ·rw[decide_eq_false (by omega)];rfl
 ·rw[kB4 g]
  refine a3f (fun j=>a3f (fun h3=>e1r y.sizes u (YV (fun e=>BC hw (Zl ?_)) fun e=>Zl ?_)) fun h3=>Zl ?_) fun j=>Zl ?_
  ·rw[e,decide_eq_true (show ks.length=0 by omega),decide_eq_true (show n.sizes.length=1 by omega)];rfl
  ·rw[e,Bool.and_false];rfl
  ·rw[decide_eq_false (show ¬ n.sizes.length=1 by omega),Bool.and_false];rfl
  ·rw[decide_eq_false (show ¬ ks.length=0 by omega)];rfl
 ·rw[kB5 g]
  refine a3f (fun j=>KZ k (YV (fun e=>BC hw (Zl ?_)) fun e=>Zl ?_)) fun j=>Zl ?_
  ·rw[e,decide_eq_true (by omega)];rfl
  ·rw[e,Bool.and_false];rfl
  ·rw[decide_eq_false (by omega)];rfl
 ·rw[kB6 g]
  have hc:XI n ks.length=(decide (ks.length<=8)&&decide (n.sizes.length<=4)&&n.sizes.all Zh&&decide (0<=n.num)&&decide (n.num<=64)&&(n.ranks.isEmpty||decide (n.ranks.length=ks.length))&&(Wd n.ranks&&Bq n.name.s)):=by unfold XI;ac_rfl
  rw[hc]
  refine ZO (fun h3=>Zl ?_) fun h3=>ZO (fun q=>Zl ?_) fun q=>e1r y.sizes u (YY (fun e=>Zl ?_) fun e=>ZO (fun K=>Zl ?_) fun K=>ZO (fun J=>Zl ?_) fun J=> ?_)
  ·rw[List.length_map]at h3
   rw[decide_eq_false (show ¬ ks.length<=8 by omega)];simp
  ·rw[List.length_map]at q
   rw[decide_eq_false (show ¬ n.sizes.length<=4 by omega)];simp
  ·rw[e];simp
  ·rw[decide_eq_false (show ¬ 0<=n.num by omega)];simp
  ·rw[decide_eq_false (show ¬ n.num<=64 by omega)];simp
  ·rw[List.length_map]at h3 q
   have go:(n.ranks.isEmpty||decide (n.ranks.length=ks.length))=true->At JC 0 (Za UH (Zf (decide (ks.length<=8)&&decide (n.sizes.length<=4)&&n.sizes.all Zh&&decide (0<=n.num)&&decide (n.num<=64)&&(n.ranks.isEmpty||decide (n.ranks.length=ks.length))&&(Wd n.ranks&&Bq n.name.s)&&Yx n true true false true true))) QK 0 221 [(1,.ptr 0 0),(5,.pv (.int .i64 ((0:Nat):Int)))] [.obj (.box (ZY n ks))]:=fun I=>
    b2n n ks hw _ n.ranks.length 0 (by omega) (by rw[I,e,decide_eq_true (show ks.length<=8 by omega),decide_eq_true (show n.sizes.length<=4 by omega),decide_eq_true (show 0<=n.num by omega),decide_eq_true (show n.num<=64 by omega)];rfl)
   refine Aq (fun A=>Aq (fun z=>Zl ?_) fun z=> ?_) fun A=> ?_
   ·rw[List.length_map,List.length_map]at z
    rw[List.length_map]at A
    rw[VQ,decide_eq_false (show ¬ n.ranks.length=0 by omega),decide_eq_false (show ¬ n.ranks.length=ks.length by omega)];simp
   ·rw[List.length_map,List.length_map]at z
    exact go (by rw[decide_eq_true (show n.ranks.length=ks.length by omega),Bool.or_true])
   ·rw[List.length_map]at A
    exact go (by rw[VQ,decide_eq_true (show n.ranks.length=0 by omega),Bool.true_or])
 ·rw[kB7 g]
  refine ZO (fun h3=>ZO (fun q=>BC hw (Zl ?_)) fun q=>Zl ?_) fun h3=>Zl ?_
  ·rw[List.length_map]at h3 q
   rw[decide_eq_true (show 1<=ks.length by omega),decide_eq_true (show ks.length<=16 by omega)];rfl
  ·rw[List.length_map]at q
   rw[decide_eq_false (show ¬ ks.length<=16 by omega),Bool.and_false];rfl
  ·rw[List.length_map]at h3
   rw[decide_eq_false (show ¬ 1<=ks.length by omega)];rfl
 ·rw[kB8 g]
  refine a3f (fun j=>c7v k (YV (fun e=>BC hw (Zl ?_)) fun e=>Zl ?_)) fun j=>Zl ?_
  ·rw[e,decide_eq_true (by omega)];rfl
  ·rw[e,Bool.and_false];rfl
  ·rw[decide_eq_false (by omega)];rfl
 ·rw[kB9 g]
  refine a3f (fun j=>c7v k (YV (fun e=>BC hw (Zl ?_)) fun e=>Zl ?_)) fun j=>Zl ?_
  ·rw[e,decide_eq_true (by omega)];rfl
  ·rw[e,Bool.and_false];rfl
  ·rw[decide_eq_false (by omega)];rfl
theorem f1w{n:Nd}{ks:List Tm}{β:Type}[Enc β]{F:Tm->β}{P:β->Prop}(a:tW (.mk n ks)=true)(h:P (F (.mk n ks))):preT (fun x:Tm×Unit=>tW x.1) (Dc n ks)=true∧ ∃ y:β,AV.pv (Zi (fun x:Tm×Unit=>F x.1) (Dc n ks))=AV.pv (enc y)∧P y:=
 ⟨Zc (Tm.mk n ks,()) (ZP n ks) a,Zb (Tm.mk n ks,()) (ZP n ks) h⟩
theorem c4m(N:Nat)(n:Nd)(ks:List Tm)(e:tW (.mk n ks)=true)(hd:Yc ks<N)(R:Bool): ∀ (d i:Nat),d+i=ks.length->R=(WC n ks.length&&(ks.drop i).all Ya) ->
  At (Sl N) 0 (Za G5 (Zf R)) GZ 0 20 [(1,.ptr 0 0),(3,.pv (.int .i64 i))] [.obj (.box (ZY n ks))]:=by
 intro d
 induction d with
 | zero=>
  intro i hi b
  rw[List.drop_eq_nil_of_le (by omega),List.all_nil,Bool.and_true]at b
  refine b4l N n ks i (ZU (XR (by omega)) (f1w e (Zl ?_)))
  rw[b];rfl
 | succ d ih=>
  intro i hi b
  have a:i<ks.length:=by omega
  have hkl:=(G7 e).1
  rw[List.drop_eq_getElem_cons a,List.all_cons]at b
  refine b4l N n ks i (ZT (Xv a) ⟨Zp a rfl,ZB a ⟨Xz _,Zc (ks[i],()) (Yd _) (TG e hd (List.getElem_mem a)),Zb (ks[i],()) (Yd _) (YY (fun h=>Zl ?_) fun h=> ?_)⟩⟩)
  ·have h:Ya ks[i]=false:=h
   rw[b,h];simp
  ·have h:Ya ks[i]=true:=h
   rw[next (by omega)]
   exact ih (i+1) (by omega) (by rw[b,h];rfl)
theorem d4h(N:Nat): ∀ x:Tm×Unit,(tW x.1&&decide (Z4 x.1<N+1))=true->Zd (Sl N) 0 (Za G5 (Zf (Ya x.1))) GZ [] (Zx e4c (encL x)):=by
 rintro⟨⟨n,ks⟩,⟨⟩⟩ h
 simp only[Bool.and_eq_true,decide_eq_true_eq]at h
 have hd:Z4 (.mk n ks)<N+1:=h.2
 rw[Z4]at hd
 rw[<- ZP]
 exact f7y N n ks (c4m N n ks h.1 (by omega) _ ks.length 0 (by omega) (by show Ya (.mk n ks)=_;rw[Ya,Um];rfl))
set_option maxRecDepth 20000 in
theorem a9l: ∀ x:Tm×Unit,tW x.1=true->Zd a3q 0 (Za Ai (Zf (Y6 x.1))) Lh [] (Zx c1o (encL x)):=by
 rintro⟨⟨n,ks⟩,⟨⟩⟩ hw
 have g : ∀ a b:Nat,(b:Int)=b->decide (a<=b)=decide ((a:Int)<=(b:Int)):=fun a b _=>decide_eq_decide.2 (by omega)
 have h:decide (Yb (.mk n ks)<=400)=decide (((Yb (.mk n ks):Nat):Int)<=400):=g _ 400 rfl
 have i:decide (Z4 (.mk n ks)<=40)=decide (((Z4 (.mk n ks):Nat):Int)<=40):=g _ 40 rfl
 have e:Y6 (.mk n ks)=(decide (((Yb (.mk n ks):Nat):Int)<=400)&&decide (((Z4 (.mk n ks):Nat):Int)<=40)&&Ya (.mk n ks)):=by
  unfold Y6 Xb
  rw[DN,h,i]
 rw[<- ZP]
 show Zd _ 0 (Za Ai (Zf (Y6 (.mk n ks)))) _ _ _
 rw[e]
 refine d7r n ks ⟨Zc (Tm.mk n ks,()) (ZP n ks) hw,Zb (Tm.mk n ks,()) (ZP n ks) (ZO (fun h1=>⟨Zc (Tm.mk n ks,()) (ZP n ks) hw,Zb (Tm.mk n ks,()) (ZP n ks) (ZO (fun h2=>f1w hw (Zl ?_)) fun h2=>Zl ?_)⟩) fun h1=>Zl ?_)⟩
 ·have h1:((Yb (.mk n ks):Nat):Int)<=400:=h1
  have h2:((Z4 (.mk n ks):Nat):Int)<=40:=h2
  rw[decide_eq_true h1,decide_eq_true h2];rfl
 ·have h2 : ¬ ((Z4 (.mk n ks):Nat):Int)<=40:=h2
  rw[decide_eq_false h2,Bool.and_false];rfl
 ·have h1 : ¬ ((Yb (.mk n ks):Nat):Int)<=400:=h1
  rw[decide_eq_false h1];rfl
end Go.Pl
namespace Go.Pl
open Go.RowKit
open Enc (enc dec is)
open EncL (encL decL isL)
set_option maxRecDepth 100000
abbrev g2b(ps:List PV)(k:Bool->Prop):Prop:=ceP (fun(x:Str×Int×Unit)=>X5 (Prod.fst x) (Prod.fst (Prod.snd x))) ps k
abbrev f1n(ps:List PV)(k:List Int->Prop):Prop:=Ym (fun(x:List Int×Unit)=>decide (List.length (Prod.fst x)<=2000000)) (fun(x:List Int×Unit)=>Prod.fst x) ps k
abbrev g1s(ps:List PV)(k:Arr×Int->Prop):Prop:=Ym (fun(x:Str×List Int×List Int×Unit)=>decide (List.length (Prod.fst (Prod.snd x))<=2000000)&&decide (List.length (Prod.fst (Prod.snd (Prod.snd x)))<=2000000)) (fun(x:Str×List Int×List Int×Unit)=>JA (Prod.fst x) (Prod.fst (Prod.snd x)) (Prod.fst (Prod.snd (Prod.snd x)))) ps k
abbrev c5v(N:Nat)(ps:List PV)(k:Str->Prop):Prop:=Ym (fun(x:Int×Unit)=>decide (Int.natAbs (Prod.fst x)<9223372036854775808)&&decide (Ao (Prod.fst x)<N)) (fun(x:Int×Unit)=>Zq (Prod.fst x)) ps k
abbrev g1j(ps:List PV)(k:Bool->Prop):Prop:=Ym (fun(x:Arr×Unit)=>VH (Prod.fst x)) (fun(x:Arr×Unit)=>WE (Prod.fst x)) ps k
abbrev d0u(ps:List PV)(k:Str->Prop):Prop:=Ym (fun(x:Int×Unit)=>decide (Int.natAbs (Prod.fst x)<9223372036854775808)) (fun(x:Int×Unit)=>Zq (Prod.fst x)) ps k
noncomputable def a2g:IC:=YI Proofs.Tryz.f169
def a6t:List IRes:=[(.tmp 2)]
abbrev e0z:Nat:=6
def b8d:ZC:=Yh []
theorem f0h{G:PV->Prop}(l:List Int)(h:(List.isEmpty (List.map enc l)||Enc.sz Int==1)=true∧((List.length ([]:List PV)==0&&0==0&&decide ((0+List.length (List.map enc l))*8<=1099511627776)&&decide (0+List.length (List.map enc l)<=1099511627776))=true∧((List.length (([]:List PV)++List.map enc l)==0+List.length (List.map enc l))=true∧(G ((.sl 1 false (List.drop 0 (List.take (0+List.length (List.map enc l)) (([]:List PV)++List.map enc l))))))))):Zd b8d 0 (Za a6t G) a2g [] (Zx 6 [enc l]):=Zd.tp (.lit (.req (.req (.req (.nil))))) h
noncomputable def b3s:IC:=YI Proofs.Tryz.f168
def b5j:List IRes:=[(.tmp 4)]
abbrev f0v:Nat:=23
def d2j:ZC:=Yh []
theorem f3i{G:PV->Prop}(e:List UInt8)(n:Int)(h:if (e==[(98:UInt8),(111:UInt8),(111:UInt8),(108:UInt8)])=true then if (n==0)=true then G ((.bool true))else(G ((.bool (n==1))))else(if (e==[(105:UInt8),(110:UInt8),(116:UInt8)])=true then if (decide (n ≥ (-2147483648:Int)))=true then G ((.bool (decide (n<=2147483647))))else(G ((.bool false)))else(G ((.bool false))))):Zd d2j 0 (Za b5j G) b3s [] (Zx 23 [.str e,.int .i64 n]):=Zd.tp (dm [] 43 0x222220220222004422200e4202220220034200c42) h
noncomputable def UM:IC:=YI Proofs.Tryz.f142
def UU:List IRes:=[(.cell true 3 6),(.tmp 7)]
abbrev a4b:Nat:=52
def Q8:ZC:=Yh [(167,.pure (preT (fun _:List Int×Unit=>true)) (Zi (fun x:List Int×Unit=>Y2 x.1))),(168,.pure (preT (fun _:Str×Int×Unit=>true)) (Zi (fun x:Str×Int×Unit=>X5 x.1 x.2.1))),(169,.pure (preT (fun x:List Int×Unit=>decide (x.1.length<=2000000))) (Zi (fun x:List Int×Unit=>x.1)))]
theorem e3f{G:PV->Prop}(e:List UInt8)(d x:List Int)(h:if (!e==[(105:UInt8),(110:UInt8),(116:UInt8)])=true then if (!e==[(98:UInt8),(111:UInt8),(111:UInt8),(108:UInt8)])=true then G ((.tup [(.agg [(.str []),(.sl 0 true []),(.sl 0 true [])]),(.int .i64 12)]))else((Go.Pl.preT (fun(x:List Int×Unit)=>true) [(.sl 1 false (List.map enc d))])=true∧(∃ a:Int×Int,AV.pv (Zi (fun(x:List Int×Unit)=>Y2 x.1) [(.sl 1 false (List.map enc d))])=AV.pv (enc a)∧(if (a.2 != 0)=true then G ((.tup [(.agg [(.str []),(.sl 0 true []),(.sl 0 true [])]),(.int .i64 a.2)]))else(if ((↑(List.length (List.map enc x)):Int) != a.1)=true then G ((.tup [(.agg [(.str []),(.sl 0 true []),(.sl 0 true [])]),(.int .i64 1)]))else(At Q8 0 (Za UU G) UM 0 52 [(0,(.pv (.str e))),(1,(.pv (.sl 1 false (List.map enc d)))),(2,(.pv (.sl 1 false (List.map enc x)))),(6,(.ptr 0 0)),(10,(.pv (.int .i64 0)))] [(.obj (.box [(.pv (.str [])),(.pv (.sl 0 true [])),(.pv (.sl 0 true []))]))])))))else((Go.Pl.preT (fun(x:List Int×Unit)=>true) [(.sl 1 false (List.map enc d))])=true∧(∃ b:Int×Int,AV.pv (Zi (fun(x:List Int×Unit)=>Y2 x.1) [(.sl 1 false (List.map enc d))])=AV.pv (enc b)∧(if (b.2 != 0)=true then G ((.tup [(.agg [(.str []),(.sl 0 true []),(.sl 0 true [])]),(.int .i64 b.2)]))else(if ((↑(List.length (List.map enc x)):Int) != b.1)=true then G ((.tup [(.agg [(.str []),(.sl 0 true []),(.sl 0 true [])]),(.int .i64 1)]))else(At Q8 0 (Za UU G) UM 0 52 [(0,(.pv (.str e))),(1,(.pv (.sl 1 false (List.map enc d)))),(2,(.pv (.sl 1 false (List.map enc x)))),(6,(.ptr 0 0)),(10,(.pv (.int .i64 0)))] [(.obj (.box [(.pv (.str [])),(.pv (.sl 0 true [])),(.pv (.sl 0 true []))]))])))))):Zd Q8 0 (Za UU G) UM [] (Zx 52 [.str e,enc d,enc x]):=Zd.tp (dm [dv (Int×Int)] 47 0x142000142512220000142000142510001422201742) h
theorem a5o{G:PV->Prop}(e:List UInt8)(d x:List Int)(i:Int)(h:if (Cm x i)=true then(Y1 x i 1 fun g=>(g2b [(.str e),(.int .i64 (PV.asInt (Vy g)))] fun j=>(if (!j)=true then G ((.tup [(.agg [(.str []),(.sl 0 true []),(.sl 0 true [])]),(.int .i64 2)]))else(At Q8 0 (Za UU G) UM 0 52 [(0,(.pv (.str e))),(1,(.pv (.sl 1 false (List.map enc d)))),(2,(.pv (.sl 1 false (List.map enc x)))),(6,(.ptr 0 0)),(10,(.pv (.int .i64 (IntKind.wrap IntKind.i64 (i+1)))))] [(.obj (.box [(.pv (.str [])),(.pv (.sl 0 true [])),(.pv (.sl 0 true []))]))]))))else((f1n [(.sl 1 false (List.map enc d))] fun a=>((f1n [(.sl 1 false (List.map enc x))] fun b=>(G ((.tup [(.agg [(.str e),(.sl 1 false (List.map enc a)),(.sl 1 false (List.map enc b))]),(.int .i64 0)])))))))):At Q8 0 (Za UU G) UM 0 52 [(0,.pv (.str e)),(1,.pv (enc d)),(2,.pv (enc x)),(6,.ptr 0 0),(10,.pv (.int .i64 i))] [.obj (.box [.pv (.str []),.pv (.sl 0 true []),.pv (.sl 0 true [])])]:=At.tp (dm [dr Int,dv Bool,dv (List Int)] 23 0x717102000146225100c42) h
noncomputable def b5i:IC:=YI Proofs.Tryz.f114
def b7e:List IRes:=[(.tmp 2)]
abbrev e4p:Nat:=17
def e2g:ZC:=Yh [(142,.pure (preT (fun x:Str×List Int×List Int×Unit=>decide (x.2.1.length<=2000000)&&decide (x.2.2.1.length<=2000000))) (Zi (fun x:Str×List Int×List Int×Unit=>JA x.1 x.2.1 x.2.2.1)))]
theorem f9p{G:PV->Prop}(a:Arr)(h:(g1s [(.str (Str.s (Arr.e a))),(.sl 1 false (List.map enc (Arr.d a))),(.sl 1 false (List.map enc (Arr.x a)))] fun b=>(G ((.bool (b.2==0)))))):Zd e2g 0 (Za b7e G) b5i [] (Zx 17 [enc a]):=Zd.tp (.req (Oe (Arr×Int) (.lit (.nil)))) h
noncomputable def b5m:IC:=YI Proofs.Tryz.f115
def b3y:List IRes:=[(.tmp 2)]
abbrev e8e:Nat:=24
def e1l(N:Nat):ZC:=Yh [(115,.pure (preT (fun x:Int×Unit=>(decide (x.1.natAbs<9223372036854775808))&&decide (Ao x.1<N))) (Zi (fun x:Int×Unit=>Zq x.1)))]
theorem f7t{G:PV->Prop}(N:Nat)(n:Int)(h:if (decide (n<0))=true then(c5v N [(.int .i64 (IntKind.wrap IntKind.i64 (-n)))] fun a=>(Zz [(45:UInt8)] (Str.s a)∧(G ((.str ([(45:UInt8)]++Str.s a))))))else((List.length [PV.int IntKind.u8 (IntKind.wrap IntKind.u8 (IntKind.wrap IntKind.i64 (48+Int.tmod n 10)))]==1&&List.all [PV.int IntKind.u8 (IntKind.wrap IntKind.u8 (IntKind.wrap IntKind.i64 (48+Int.tmod n 10)))] DC&&1==1)=true∧(if (decide (n<10))=true then G ((.str (Y0 (List.drop 0 (List.take 1 [PV.int IntKind.u8 (IntKind.wrap IntKind.u8 (IntKind.wrap IntKind.i64 (48+Int.tmod n 10)))])))))else((c5v N [(.int .i64 (IntKind.wrap IntKind.i64 (Int.tdiv n 10)))] fun b=>(Zz (Str.s b) (Y0 (List.drop 0 (List.take 1 [PV.int IntKind.u8 (IntKind.wrap IntKind.u8 (IntKind.wrap IntKind.i64 (48+Int.tmod n 10)))])))∧(G ((.str (Str.s b++Y0 (List.drop 0 (List.take 1 [PV.int IntKind.u8 (IntKind.wrap IntKind.u8 (IntKind.wrap IntKind.i64 (48+Int.tmod n 10)))])))))))))))):Zd (e1l N) 0 (Za b3y G) b5m [] (Zx 24 [enc n]):=Zd.tp (dm [dv Str] 25 0x15120001421222015100442) h
noncomputable def WY:IC:=YI Proofs.Tryz.f80
def WX:List IRes:=[(.tmp 2),(.tmp 3)]
abbrev e2q:Nat:=52
def Uo:ZC:=Yh [(114,.pure (preT (fun x:Arr×Unit=>VH x.1)) (Zi (fun x:Arr×Unit=>WE x.1))),(115,.pure (preT (fun x:Int×Unit=>decide (x.1.natAbs<9223372036854775808))) (Zi (fun x:Int×Unit=>Zq x.1)))]
theorem f9b{G:PV->Prop}(a:Arr)(h:(g1j [(.agg [(.str (Str.s (Arr.e a))),(.sl 1 false (List.map enc (Arr.d a))),(.sl 1 false (List.map enc (Arr.x a)))])] fun b=>(if (!b)=true then G ((.tup [(.str []),(.int .i64 1)]))else(if (Str.s (Arr.e a)==[(98:UInt8),(111:UInt8),(111:UInt8),(108:UInt8)])=true then At Uo 0 (Za WX G) WY 0 52 [(1,(.ptr 0 0)),(4,(.pv (.str [(35:UInt8),(98:UInt8),(91:UInt8)]))),(5,(.pv (.int .i64 0)))] [(.obj (.box [(.pv (.str (Str.s (Arr.e a)))),(.pv (.sl 1 false (List.map enc (Arr.d a)))),(.pv (.sl 1 false (List.map enc (Arr.x a))))]))]else(At Uo 0 (Za WX G) WY 0 52 [(1,(.ptr 0 0)),(4,(.pv (.str [(35:UInt8),(91:UInt8)]))),(5,(.pv (.int .i64 0)))] [(.obj (.box [(.pv (.str (Str.s (Arr.e a)))),(.pv (.sl 1 false (List.map enc (Arr.d a)))),(.pv (.sl 1 false (List.map enc (Arr.x a))))]))]))))):Zd Uo 0 (Za WX G) WY [] (Zx 52 [enc a]):=Zd.tp (dm [dv Bool] 15 0x1420001451) h
theorem b4j{G:PV->Prop}(a:Arr)(o:List UInt8)(i:Int)(h:if (Cm (Arr.d a) i)=true then if (decide (i>0))=true then Zz o [(32:UInt8)]∧((Y1 (Arr.d a) i 1 fun k=>((d0u [(.int .i64 (PV.asInt (Vy k)))] fun g=>(Zz (o++[(32:UInt8)]) (Str.s g)∧(At Uo 0 (Za WX G) WY 0 52 [(1,(.ptr 0 0)),(4,(.pv (.str (o++[(32:UInt8)]++Str.s g)))),(5,(.pv (.int .i64 (IntKind.wrap IntKind.i64 (i+1)))))] [(.obj (.box [(.pv (.str (Str.s (Arr.e a)))),(.pv (.sl 1 false (List.map enc (Arr.d a)))),(.pv (.sl 1 false (List.map enc (Arr.x a))))]))]))))))else((Y1 (Arr.d a) i 1 fun j=>((d0u [(.int .i64 (PV.asInt (Vy j)))] fun b=>(Zz o (Str.s b)∧(At Uo 0 (Za WX G) WY 0 52 [(1,(.ptr 0 0)),(4,(.pv (.str (o++Str.s b)))),(5,(.pv (.int .i64 (IntKind.wrap IntKind.i64 (i+1)))))] [(.obj (.box [(.pv (.str (Str.s (Arr.e a)))),(.pv (.sl 1 false (List.map enc (Arr.d a)))),(.pv (.sl 1 false (List.map enc (Arr.x a))))]))]))))))else(Zz o [(58:UInt8)]∧(At Uo 0 (Za WX G) WY 1 52 [(1,(.ptr 0 0)),(4,(.pv (.str (o++[(58:UInt8)])))),(6,(.pv (.int .i64 0)))] [(.obj (.box [(.pv (.str (Str.s (Arr.e a)))),(.pv (.sl 1 false (List.map enc (Arr.d a)))),(.pv (.sl 1 false (List.map enc (Arr.x a))))]))]))):At Uo 0 (Za WX G) WY 0 52 [(1,.ptr 0 0),(4,.pv (.str o)),(5,.pv (.int .i64 i))] [.obj (.box [.pv (.str a.e.s),.pv (enc a.d),.pv (enc a.x)])]:=At.tp (dm [dr Int,dv Str] 30 0x1021612510216125110094201642) h
theorem b6q{G:PV->Prop}(a:Arr)(o:List UInt8)(i:Int)(h:if (Cm (Arr.x a) i)=true then(Y1 (Arr.x a) i 1 fun g=>((d0u [(.int .i64 (PV.asInt (Vy g)))] fun b=>(Zz [(32:UInt8)] (Str.s b)∧(Zz o ([(32:UInt8)]++Str.s b)∧(At Uo 0 (Za WX G) WY 1 52 [(1,(.ptr 0 0)),(4,(.pv (.str (o++([(32:UInt8)]++Str.s b))))),(6,(.pv (.int .i64 (IntKind.wrap IntKind.i64 (i+1)))))] [(.obj (.box [(.pv (.str (Str.s (Arr.e a)))),(.pv (.sl 1 false (List.map enc (Arr.d a)))),(.pv (.sl 1 false (List.map enc (Arr.x a))))]))]))))))else(Zz o [(93:UInt8)]∧(G ((.tup [(.str (o++[(93:UInt8)])),(.int .i64 0)]))))):At Uo 0 (Za WX G) WY 1 52 [(1,.ptr 0 0),(4,.pv (.str o)),(6,.pv (.int .i64 i))] [.obj (.box [.pv (.str a.e.s),.pv (enc a.d),.pv (enc a.x)])]:=At.tp (dm [dr Int,dv Str] 17 0x102116125100942) h
noncomputable def Ga:IC:=YI Proofs.Tryz.f76
def Da:List IRes:=[(.tmp 2)]
abbrev e9f:Nat:=31
def Af(N:Nat):ZC:=Yh [(76,.pure (preT (fun x:Int×Unit=>(decide (x.1.natAbs<9223372036854775808))&&decide (Ao x.1<N))) (Zi (fun x:Int×Unit=>Zq x.1)))]
theorem g0e{G:PV->Prop}(N:Nat)(m:Int)(h:if (decide (m<0))=true then(c5v N [(.int .i64 (IntKind.wrap IntKind.i64 (-m)))] fun a=>(Zz [(45:UInt8)] (Str.s a)∧(G ((.str ([(45:UInt8)]++Str.s a))))))else((List.length [PV.int IntKind.u8 (IntKind.wrap IntKind.u8 (IntKind.wrap IntKind.i64 (48+Int.tmod m 10)))]==1&&List.all [PV.int IntKind.u8 (IntKind.wrap IntKind.u8 (IntKind.wrap IntKind.i64 (48+Int.tmod m 10)))] DC&&1==1)=true∧(At (Af N) 0 (Za Da G) Ga 0 31 [(0,(.pv (.int .i64 (IntKind.wrap IntKind.i64 (Int.tdiv m 10))))),(3,(.pv (.str (Y0 (List.drop 0 (List.take 1 [PV.int IntKind.u8 (IntKind.wrap IntKind.u8 (IntKind.wrap IntKind.i64 (48+Int.tmod m 10)))]))))))] []))):Zd (Af N) 0 (Za Da G) Ga [] (Zx 31 [enc m]):=Zd.tp (dm [dv Str] 16 0x21222015100442) h
theorem b6b{G:PV->Prop}(N:Nat)(m:Int)(n:Int)(o:List UInt8)(h:if (decide (n>0))=true then(List.length [PV.int IntKind.u8 (IntKind.wrap IntKind.u8 (IntKind.wrap IntKind.i64 (48+Int.tmod n 10)))]==1&&List.all [PV.int IntKind.u8 (IntKind.wrap IntKind.u8 (IntKind.wrap IntKind.i64 (48+Int.tmod n 10)))] DC&&1==1)=true∧(Zz (Y0 (List.drop 0 (List.take 1 [PV.int IntKind.u8 (IntKind.wrap IntKind.u8 (IntKind.wrap IntKind.i64 (48+Int.tmod n 10)))]))) o∧(At (Af N) 0 (Za Da G) Ga 0 31 [(0,(.pv (.int .i64 (IntKind.wrap IntKind.i64 (Int.tdiv n 10))))),(3,(.pv (.str (Y0 (List.drop 0 (List.take 1 [PV.int IntKind.u8 (IntKind.wrap IntKind.u8 (IntKind.wrap IntKind.i64 (48+Int.tmod n 10)))]))++o))))] []))else(G ((.str o)))):At (Af N) 0 (Za Da G) Ga 0 31 [(0,.pv (.int .i64 n)),(3,.pv (.str o))] []:=At.tp (dm [] 14 0x21122200742) h
end Go.Pl
namespace Go.Pl
open Go.RowKit
open Enc (enc dec is)
open EncL (encL decL isL)
theorem b9o: ∀ x:List Int×Unit,decide (x.1.length<=2000000)=true->Zd b8d 0 (Za a6t (Zf x.1)) a2g [] (Zx e0z (encL x)):=by
 rintro⟨l,⟨⟩⟩ h
 have hl:l.length<=2000000:=of_decide_eq_true h
 refine f0h l ⟨by simp[Enc.sz],by simp;omega,by simp,?_⟩
 rw[List.nil_append,List.drop_zero,List.take_of_length_le (by omega)]
 exact Zg (x:=l) rfl
theorem d5e: ∀ a:Str×Int×Unit,true=true->Zd d2j 0 (Za b5j (Zf (X5 a.1 a.2.1))) b3s [] (Zx f0v (encL a)):=by
 rintro⟨⟨e⟩,n,⟨⟩⟩ _
 refine f3i e n ?_
 simp only[beq_iff_eq,decide_eq_true_eq,Zf,b9g,a2u,true_and,X5,Xa,YN,ge_iff_le]
 by_cases h1:e=[105,110,116]
 ·subst h1
  rw[if_neg (by decide)]
  simp only[if_true]
  split <;> simp[*]
 ·by_cases h2:e=[98,111,111,108]
  ·subst h2
   simp only[if_true]
   split <;> simp[*]
  ·simp[h1,h2]
theorem a9d(e:List UInt8)(d x:List Int)(hd:d.length<=2000000)(g:x.length<=2000000)(r:Arr×Int): ∀ (m k:Nat),m+k=x.length->r=(if (x.drop k).all (X5 ⟨e⟩)then(⟨⟨e⟩,d,x⟩,0)else(⟨⟨[]⟩,[],[]⟩,2)) ->
  At Q8 0 (Za UU (Zf r)) UM 0 a4b [(0,.pv (.str e)),(1,.pv (enc d)),(2,.pv (enc x)),(6,.ptr 0 0),(10,.pv (.int .i64 k))] [.obj (.box [.pv (.str []),.pv (.sl 0 true []),.pv (.sl 0 true [])])]:=by
 intro m
 induction m with
 | zero=>
  intro k b hr
  refine a5o e d x k ?_
  rw[if_neg (by simp;omega)]
  rw[List.drop_of_length_le (by omega)]at hr
  subst hr
  refine⟨Zc (d,()) rfl (by simpa using hd),?_⟩
  refine Zb (d,()) rfl ?_
  refine⟨Zc (x,()) rfl (by simpa using g),?_⟩
  refine Zb (x,()) rfl ?_
  exact⟨by simp,by simp⟩
 | succ m ih=>
  intro k b hr
  have a:k<x.length:=by omega
  refine a5o e d x k ?_
  rw[if_pos (by simp;omega)]
  refine⟨by simp[Enc.sz];omega,x[k],by rw[XZ _ a],?_⟩
  refine Zb (⟨e⟩,x[k],()) rfl ?_
  rw[List.drop_eq_getElem_cons a,List.all_cons]at hr
  simp only[]
  cases h:X5 ⟨e⟩ x[k]with
  | true=>
   rw[if_neg (by simp),next (by omega)]
   rw[h,Bool.true_and]at hr
   exact ih (k+1) (by omega) hr
  | false=>
   rw[if_pos (by decide)]
   rw[h,Bool.false_and,if_neg (by simp)]at hr
   subst hr
   exact⟨by simp,by simp⟩
theorem c0f: ∀ a:Str×List Int×List Int×Unit,(decide (a.2.1.length<=2000000)&&decide (a.2.2.1.length<=2000000))=true->Zd Q8 0 (Za UU (Zf (JA a.1 a.2.1 a.2.2.1))) UM [] (Zx a4b (encL a)):=by
 rintro⟨⟨e⟩,d,x,⟨⟩⟩ hp
 simp only[Bool.and_eq_true,decide_eq_true_eq]at hp
 refine e3f e d x ?_
 have h:=hp.1
 have i:=hp.2
 have j:=fun(b : ¬ (e≠Xa∧e≠YN)) (h1 : ¬ (Y2 d).2≠0) (h2 : ¬ (x.length:Int)≠(Y2 d).1)=>a9d e d x h i (JA ⟨e⟩ d x) x.length 0 (by omega) (by simp only[JA,b,h1,h2,if_false,List.drop_zero])
 simp only[preT,Zi,a5w,b7v,LM,a2f,f3e,Pp,c9k,b8j,d8n,Td,List.isEmpty_iff,Bool.and_true,beq_self_eq_true,Bool.or_true,Bool.true_and,decide_eq_true_eq,AV.pv.injEq,d5m,exists_eq_left',true_and,Enc.sz,List.length_map,Bool.not_eq_true',beq_eq_false_iff_ne,bne_iff_ne]
 have g:(if ¬ (Y2 d).2=0 then Zf (JA ⟨e⟩ d x) ((.tup [(.agg [(.str []),(.sl 0 true []),(.sl 0 true [])]),(.int .i64 (Y2 d).2)]))else if ¬ (x.length:Int)=(Y2 d).1 then Zf (JA ⟨e⟩ d x) ((.tup [(.agg [(.str []),(.sl 0 true []),(.sl 0 true [])]),(.int .i64 1)]))else At Q8 0 (Za UU (Zf (JA ⟨e⟩ d x))) UM 0 52 [(0,(.pv (.str e))),(1,(.pv (.sl 1 false (List.map enc d)))),(2,(.pv (.sl 1 false (List.map enc x)))),(6,(.ptr 0 0)),(10,(.pv (.int .i64 0)))] [(.obj (.box [(.pv (.str [])),(.pv (.sl 0 true [])),(.pv (.sl 0 true []))]))])∨(e≠Xa∧e≠YN):=by
  by_cases b:e≠Xa∧e≠YN
  ·exact .inr b
  ·refine .inl ?_
   split
   ·rename_i h1
    exact⟨by simp,by simp[JA,b,h1]⟩
   ·rename_i h1
    split
    ·rename_i h2
     exact⟨by simp,by simp only[JA,ne_eq,h1,h2,not_false_eq_true,if_true,if_false];rw[if_neg b];simp⟩
    ·rename_i h2
     exact j b h1 h2
 by_cases h1:e=Xa
 ·rw[if_neg (by simp[h1,Xa])]
  exact g.resolve_right (by simp[h1])
 ·rw[if_pos (by simpa [Xa]using h1)]
  by_cases h2:e=YN
  ·rw[if_neg (by simp[h2,YN])]
   exact g.resolve_right (by simp[h2])
  ·rw[if_pos (by simpa [YN]using h2)]
   exact⟨by simp,by simp[JA,h1,h2]⟩
theorem d7d: ∀ a:Arr×Unit,VH a.1=true->Zd e2g 0 (Za b7e (Zf (WE a.1))) b5i [] (Zx e4p (encL a)):=by
 rintro⟨a,⟨⟩⟩ hp
 refine f9p a ⟨Zc (a.e,a.d,a.x,()) rfl hp,Zb (a.e,a.d,a.x,()) rfl ?_⟩
 exact⟨rfl,rfl⟩
theorem b5x(m:Nat):IntKind.wrap .u8 (IntKind.wrap .i64 (48+Int.tmod (m:Int) 10))=((48+m % 10:Nat):Int):=by
 have a:Int.tmod (m:Int) 10=((m % 10:Nat):Int):=by rw[Int.tmod_eq_emod_of_nonneg (by omega)];omega
 rw[a,Vu (by omega) (by omega)]
 simp[IntKind.wrap,IntKind.bits,IntKind.signed]
 omega
theorem c7x(m:Nat):(List.length [PV.int IntKind.u8 (IntKind.wrap .u8 (IntKind.wrap .i64 (48+Int.tmod (m:Int) 10)))]==1&&List.all [PV.int IntKind.u8 (IntKind.wrap .u8 (IntKind.wrap .i64 (48+Int.tmod (m:Int) 10)))] DC&&1==1)=true:=by
 rw[b5x]
 simp only[List.length_cons,List.length_nil,List.all_cons,List.all_nil,DC,Bool.and_true,beq_self_eq_true,Bool.true_and,Bool.and_eq_true,decide_eq_true_eq,Nat.zero_add]
 omega
theorem d8q(m:Nat):Y0 (List.drop 0 (List.take 1 [PV.int IntKind.u8 (IntKind.wrap .u8 (IntKind.wrap .i64 (48+Int.tmod (m:Int) 10)))]))=[UInt8.ofNat (48+m % 10)]:=by
 rw[b5x];rfl
theorem b2m(m:Nat):Int.tdiv (m:Int) 10=((m / 10:Nat):Int):=by rw[Int.tdiv_eq_ediv_of_nonneg (by omega)];omega
theorem b1m{N:Nat}{k:Int}(h1:k.natAbs<9223372036854775808)(h2:Ao k<N):preT (fun x:Int×Unit=>decide (x.1.natAbs<9223372036854775808)&&decide (Ao x.1<N)) [.int .i64 k]=true:=
 Zc (k,()) rfl (by show(decide (k.natAbs<9223372036854775808)&&decide (Ao k<N))=true;rw[decide_eq_true h1,decide_eq_true h2];rfl)
theorem Rj{k:Int}(h1:k.natAbs<9223372036854775808):preT (fun x:Int×Unit=>decide (x.1.natAbs<9223372036854775808)) [.int .i64 k]=true:=
 Zc (k,()) rfl (decide_eq_true h1)
theorem e0c{n:Int}(hn:n<0):[(45:UInt8)]++(Zq (-n)).s=(Zq n).s:=by
 rw[YF (n:= -n) (by omega),Vi hn,Int.natAbs_neg];rfl
theorem Dz{k:Int}(h:k.natAbs<9223372036854775808):(Zq k).s.length<=21:=QP (n:=k) (by omega)
theorem d1j(N:Nat): ∀ a:Int×Unit,(decide (a.1.natAbs<9223372036854775808)&&decide (Ao a.1<N+1))=true->Zd (e1l N) 0 (Za b3y (Zf (Zq a.1))) b5m [] (Zx e8e (encL a)):=by
 rintro⟨n,⟨⟩⟩ h
 simp only[Bool.and_eq_true,decide_eq_true_eq]at h
 obtain⟨h1,h3⟩:=h
 unfold Ao at h3
 refine f7t N n (ZO (fun hn=> ?_) fun hn=> ?_)
 ·rw[Vu (by omega) (by omega)]
  have hl:=Dz (k:= -n) (by omega)
  refine⟨b1m (by omega) (by unfold Ao;rw[if_pos hn]at h3;rw[if_neg (by omega)];omega),Zb (-n,()) rfl ⟨decide_eq_true (by simp only[List.length_singleton];omega),?_⟩⟩
  refine Zg (x:=(⟨[(45:UInt8)]++(Zq (-n)).s⟩:Str)) ?_
  show(⟨[(45:UInt8)]++(Zq (-n)).s⟩:Str)=⟨(Zq n).s⟩
  rw[e0c hn]
 ·obtain⟨m,rfl⟩ : ∃ m:Nat,n=m:=⟨n.toNat,by omega⟩
  rw[if_neg (by omega)]at h3
  refine⟨c7x m,?_⟩
  rw[d8q,b2m,Vu (by omega) (by omega)]
  refine ZO (fun b=> ?_) fun b=> ?_
  ·have hm:m<10:=by omega
   refine Zg (x:=(⟨[UInt8.ofNat (48+m % 10)]⟩:Str)) ?_
   show(⟨[UInt8.ofNat (48+m % 10)]⟩:Str)=⟨(Zq (m:Int)).s⟩
   rw[YF (by omega),Int.natAbs_natCast,XA hm,Nat.mod_eq_of_lt hm]
  ·have l1:=Dz (k:=((m / 10:Nat):Int)) (by omega)
   refine⟨b1m (by omega) (by unfold Ao;rw[if_neg (by omega)];omega),Zb (((m / 10:Nat):Int),()) rfl ⟨decide_eq_true (by show(Zq ((m / 10:Nat):Int)).s.length+1<=_;omega),?_⟩⟩
   refine Zg (x:=(⟨(Zq ((m / 10:Nat):Int)).s++[UInt8.ofNat (48+m % 10)]⟩:Str)) ?_
   show(⟨(Zq ((m / 10:Nat):Int)).s++[UInt8.ofNat (48+m % 10)]⟩:Str)=⟨(Zq (m:Int)).s⟩
   rw[YF (by omega),YF (by omega),Int.natAbs_natCast,Int.natAbs_natCast,C9 (u:=m) (by omega)]
theorem c1t(N:Nat)(k:Int)(R:Str): ∀ (d m:Nat) (o:List UInt8),m<10 ^ d->m<=9223372036854775807->o.length+d<=100->R=⟨(if m=0 then []else Lib.decDigits m)++o⟩ ->
  At (Af N) 0 (Za Da (Zf R)) Ga 0 31 [(0,.pv (.int .i64 (m:Nat))),(3,.pv (.str o))] []:=by
 intro d
 induction d with
 | zero=>
  intro m o hm hb ho b
  have hm:m=0:=by simpa using hm
  subst hm
  refine b6b N k _ o (ZU (by simp) ?_)
  refine Zg (x:=(⟨o⟩:Str)) ?_
  rw[b];rfl
 | succ d ih=>
  intro m o hm hb ho b
  refine b6b N k _ o (ZO (fun h=> ?_) fun h=> ?_)
  ·have a:m≠0:=by omega
   refine⟨c7x m,?_⟩
   rw[d8q,b2m]
   refine⟨decide_eq_true (by show 1+o.length<=_;omega),?_⟩
   have k:=ih (m / 10) ([UInt8.ofNat (48+m % 10)]++o) (by rw[Nat.pow_succ]at hm;omega) (by omega) (by rw[List.length_append];show 1+_+_<=_;omega) (by
    rw[b,if_neg a,<- List.append_assoc]
    congr 2
    by_cases h10:m<10
    ·rw[if_pos (by omega),XA h10,Nat.mod_eq_of_lt h10];rfl
    ·rw[if_neg (by omega),C9 h10])
   rw[Vu (by omega) (by omega)]
   exact k
  ·have a:m=0:=by omega
   refine Zg (x:=(⟨o⟩:Str)) ?_
   rw[b,if_pos a];rfl
theorem d4z(N:Nat): ∀ a:Int×Unit,(decide (a.1.natAbs<9223372036854775808)&&decide (Ao a.1<N+1))=true->Zd (Af N) 0 (Za Da (Zf (Zq a.1))) Ga [] (Zx e9f (encL a)):=by
 rintro⟨n,⟨⟩⟩ h
 simp only[Bool.and_eq_true,decide_eq_true_eq]at h
 obtain⟨h1,h3⟩:=h
 unfold Ao at h3
 refine g0e N n (ZO (fun hn=> ?_) fun hn=> ?_)
 ·rw[Vu (by omega) (by omega)]
  have hl:=Dz (k:= -n) (by omega)
  refine⟨b1m (by omega) (by unfold Ao;rw[if_pos hn]at h3;rw[if_neg (by omega)];omega),Zb (-n,()) rfl ⟨decide_eq_true (by simp only[List.length_singleton];omega),?_⟩⟩
  refine Zg (x:=(⟨[(45:UInt8)]++(Zq (-n)).s⟩:Str)) ?_
  show(⟨[(45:UInt8)]++(Zq (-n)).s⟩:Str)=⟨(Zq n).s⟩
  rw[e0c hn]
 ·obtain⟨m,rfl⟩ : ∃ m:Nat,n=m:=⟨n.toNat,by omega⟩
  refine⟨c7x m,?_⟩
  rw[d8q,b2m,Vu (by omega) (by omega)]
  refine c1t N (m:Int) _ 20 (m / 10) _ (by omega) (by omega) (by show 1+20<=100;omega) ?_
  show(⟨(Zq (m:Int)).s⟩:Str)=_
  rw[YF (by omega),Int.natAbs_natCast]
  congr 1
  by_cases h10:m<10
  ·rw[if_pos (by omega),XA h10,Nat.mod_eq_of_lt h10];rfl
  ·rw[if_neg (by omega),C9 h10]
theorem e7i(a:Arr)(G:PV->Prop)(g : ∀ n∈a.x,n.natAbs<9223372036854775808)(hl:a.x.length<=2000000): ∀ (d i:Nat) (o:List UInt8),d+i=a.x.length->o.length<=100000000+22*i ->
  G (.tup [.str (Yr o true (a.x.drop i)++[93]),.int .i64 0]) ->
  At Uo 0 (Za WX G) WY 1 52 [(1,.ptr 0 0),(4,.pv (.str o)),(6,.pv (.int .i64 i))] [.obj (.box [.pv (.str a.e.s),.pv (enc a.d),.pv (enc a.x)])]:=by
 intro d
 induction d with
 | zero=>
  intro i o hi ho h
  rw[List.drop_eq_nil_of_le (by omega)]at h
  exact b6q a o i (ZU (XR (by omega)) ⟨decide_eq_true (by show o.length+1<=_;omega),h⟩)
 | succ d ih=>
  intro i o hi ho h
  have b:i<a.x.length:=by omega
  have hn:=g _ (List.getElem_mem b)
  have hnl:=TF true (i:=a.x[i]) (by omega)
  have hil:=Dz (k:=a.x[i]) hn
  rw[List.drop_eq_getElem_cons b]at h
  have k:=ih (i+1) (o++Ur true a.x[i]) (by omega) (by rw[List.length_append];omega) h
  refine b6q a o i (ZT (Xv b) ⟨Zp b rfl,ZB b ⟨Rj hn,Zb (a.x[i],()) rfl ⟨decide_eq_true (by show 1+(Zq a.x[i]).s.length<=_;omega),decide_eq_true (by show o.length+([32]++(Zq a.x[i]).s).length<=_;rw[List.length_append];show o.length+(1+_)<=_;omega),?_⟩⟩⟩)
  rw[next (by omega)]
  exact k
theorem e9g(a:Arr)(G:PV->Prop)(hd : ∀ n∈a.d,n.natAbs<9223372036854775808)(hl:a.d.length<=2000000)
  (g : ∀ o:List UInt8,o.length<=44000010->G (.tup [.str (Yr (o++[58]) true a.x++[93]),.int .i64 0])->At Uo 0 (Za WX G) WY 1 52 [(1,.ptr 0 0),(4,.pv (.str (o++[58]))),(6,.pv (.int .i64 (0:Nat)))] [.obj (.box [.pv (.str a.e.s),.pv (enc a.d),.pv (enc a.x)])]) : ∀ (d i:Nat) (o:List UInt8),d+i=a.d.length->o.length<=10+22*i ->
  G (.tup [.str (Yr (Yr o (decide (0<i)) (a.d.drop i)++[58]) true a.x++[93]),.int .i64 0]) ->
  At Uo 0 (Za WX G) WY 0 52 [(1,.ptr 0 0),(4,.pv (.str o)),(5,.pv (.int .i64 i))] [.obj (.box [.pv (.str a.e.s),.pv (enc a.d),.pv (enc a.x)])]:=by
 intro d
 induction d with
 | zero=>
  intro i o hi ho h
  rw[List.drop_eq_nil_of_le (by omega)]at h
  exact b4j a o i (ZU (XR (by omega)) ⟨decide_eq_true (by show o.length+1<=_;omega),g o (by omega) h⟩)
 | succ d ih=>
  intro i o hi ho h
  have b:i<a.d.length:=by omega
  have hn:=hd _ (List.getElem_mem b)
  have hnl:=TF (decide (0<i)) (i:=a.d[i]) (by omega)
  have hil:=Dz (k:=a.d[i]) hn
  rw[List.drop_eq_getElem_cons b]at h
  have k:=ih (i+1) (o++Ur (decide (0<i)) a.d[i]) (by omega) (by rw[List.length_append];omega) (by rw[decide_eq_true (show 0<i+1 by omega)];exact h)
  refine b4j a o i (ZT (Xv b) (ZO (fun j=> ?_) fun j=> ?_))
  ·rw[decide_eq_true (show 0<i by omega)]at k
   refine⟨decide_eq_true (by show o.length+1<=_;omega),Zp b rfl,ZB b ⟨Rj hn,Zb (a.d[i],()) rfl ⟨decide_eq_true (by rw[List.length_append];show o.length+1+(Zq a.d[i]).s.length<=_;omega),?_⟩⟩⟩
   rw[next (by omega),List.append_assoc]
   exact k
  ·rw[decide_eq_false (show ¬ 0<i by omega)]at k
   refine⟨Zp b rfl,ZB b ⟨Rj hn,Zb (a.d[i],()) rfl ⟨decide_eq_true (by show o.length+(Zq a.d[i]).s.length<=_;omega),?_⟩⟩⟩
   rw[next (by omega)]
   exact k
theorem d8a: ∀ x:Arr×Unit,(VH x.1&&WE x.1)=true->Zd Uo 0 (Za WX (Zf (J7 x.1))) WY [] (Zx e2q (encL x)):=by
 rintro⟨a,⟨⟩⟩ h
 rw[Bool.and_eq_true]at h
 have hs:VH a=true:=h.1
 have i:WE a=true:=h.2
 have b:=hs
 unfold VH at b
 simp only[Bool.and_eq_true,decide_eq_true_eq]at b
 obtain⟨hd,j⟩:=O3 i
 have fin : ∀ o:List UInt8,(o=if a.e.s=YN then [35,98,91]else [35,91])->Zf (J7 a) (.tup [.str (Yr (Yr o (decide (0<0)) (a.d.drop 0)++[58]) true a.x++[93]),.int .i64 0]):=fun o ho=>by
  have e:Yr (Yr o (decide (0<0)) (a.d.drop 0)++[58]) true a.x++[93]=BS a:=by
   rw[List.drop_zero,show decide (0<0)=false from rfl,AR,Nc,ho]
   rfl
  rw[e]
  exact Zg (x:=((⟨BS a⟩,0):Str×Int)) rfl
 have g : ∀ o:List UInt8,o.length<=10->Zf (J7 a) (.tup [.str (Yr (Yr o (decide (0<0)) (a.d.drop 0)++[58]) true a.x++[93]),.int .i64 0])->_:=fun o ho k=>
  e9g a (Zf (J7 a)) hd b.1 (fun o ho k=>e7i a (Zf (J7 a)) j b.2 a.x.length 0 (o++[58]) (by omega) (by rw[List.length_append];show _+1<=_;omega) k) a.d.length 0 o (by omega) (by omega) k
 refine f9b a ⟨Zc (a,()) rfl hs,Zb (a,()) rfl (YY (fun hn=> ?_) fun hn=>ZA (fun hb=> ?_) fun hb=> ?_)⟩
 ·have hn:WE a=false:=hn
  rw[i]at hn;cases hn
 ·exact g [35,98,91] (by decide) (fin _ (by rw[if_pos (show a.e.s=YN from hb)]))
 ·exact g [35,91] (by decide) (fin _ (by rw[if_neg (show ¬ a.e.s=YN from hb)]))
def AP(o:List UInt8):Bool->List (List UInt8)->List UInt8
 | _,[]=>o
 | b,s::r=>AP (o++(if b then []else [44,32])++s) false r
theorem Rk: ∀ (l:List (List UInt8)) (o:List UInt8),AP o true l=o++Zu l
 | [],o=>by simp[AP,Zu]
 | [s],o=>by simp[AP,Zu]
 | s::t::r,o=>by
  have h:=Rk (t::r) (o++s++[44,32])
  rw[AP]at h ⊢
  rw[AP,Zu]
  ·simp only[Bool.false_eq_true,if_true,if_false,List.append_nil]at h ⊢
   rw[h]
   simp only[List.append_assoc]
  ·simp
def c0x(l:List (List UInt8)):Nat:=(l.map fun s=>s.length+2).sum
theorem c5q(s:List UInt8)(l:List (List UInt8)):c0x (s::l)=s.length+2+c0x l:=by unfold c0x;rw[List.map_cons,List.sum_cons]
theorem Oq{N:Nat}{a:Tm}{P:Str->Prop}(h1:tW a=true∧Ya a=true∧Z4 a<N)(h:P (Zt a)):preT (fun x:Tm×Unit=>tW x.1&&Ya x.1&&decide (Z4 x.1<N)) (Kz a)=true∧ ∃ y:Str,AV.pv (Zi (fun x:Tm×Unit=>Zt x.1) (Kz a))=AV.pv (enc y)∧P y:=
 ⟨Zc (a,()) (Yd a) (Vf h1.1 h1.2.1 h1.2.2),Zb (a,()) (Yd a) h⟩
theorem Qx{N:Nat}{a:Tm}{b:Bool}{P:Str->Prop}(h1:tW a=true∧Ya a=true∧Z4 a<N)(h:P (Ay b a)):preT (fun x:Tm×Bool×Unit=>tW x.1&&Ya x.1&&decide (Z4 x.1<N)) (N8 a b)=true∧ ∃ y:Str,AV.pv (Zi (fun x:Tm×Bool×Unit=>Ay x.2.1 x.1) (N8 a b))=AV.pv (enc y)∧P y:=
 ⟨Zc (a,b,()) (d7u a b) (Vf h1.1 h1.2.1 h1.2.2),Zb (a,b,()) (d7u a b) h⟩
theorem Az{a:Tm}{P:Int->Prop}(h1:tW a=true)(h:P (X8 a)):preT (fun x:Tm×Unit=>tW x.1) (Kz a)=true∧ ∃ y:Int,AV.pv (Zi (fun x:Tm×Unit=>X8 x.1) (Kz a))=AV.pv (enc y)∧P y:=
 ⟨Zc (a,()) (Yd a) h1,Zb (a,()) (Yd a) h⟩
theorem RD{n:Int}{P:Str->Prop}(h1:n.natAbs<9223372036854775808)(h:P (Zq n)):preT (fun x:Int×Unit=>decide (x.1.natAbs<9223372036854775808)) [.int .i64 n]=true∧ ∃ y:Str,AV.pv (Zi (fun x:Int×Unit=>Zq x.1) [.int .i64 n])=AV.pv (enc y)∧P y:=
 ⟨Rj h1,Zb (n,()) rfl h⟩
theorem TJ{N:Nat}{ks:List Tm}{P:Str->Prop}(a:TxP N ks)(h:P (Yi (ks.map Zt))):preT (fun x:List Tm×Unit=>tsW x.1&&Ws x.1&&decide (Yc x.1<N)) [.sl 10 false (ks.map enc)]=true∧ ∃ y:Str,AV.pv (Zi (fun x:List Tm×Unit=>Yi (x.1.map Zt)) [.sl 10 false (ks.map enc)])=AV.pv (enc y)∧P y:=
 ⟨Zc (ks,()) rfl a.pre,Zb (ks,()) rfl h⟩
theorem d8r{s t:List UInt8}(h:s=t):Zf (⟨t⟩:Str) (.str s):=Zg (x:=(⟨s⟩:Str)) (by rw[h])
theorem a7p(N:Nat)(l:List Tm)(g:TxP N l)(R:Str): ∀ (d i:Nat) (o:List UInt8),d+i=l.length->o.length+c0x ((l.drop i).map ZN)<=1099511627000->R=⟨AP o (decide (i=0)) ((l.drop i).map ZN)⟩ ->
  At (JS N) 0 (Za QE (Zf R)) QJ 0 23 [(0,.pv (enc l)),(3,.pv (.str o)),(4,.pv (.int .i64 i))] []:=by
 have hlen:l.length<=1048576:=Nat.le_trans (Bo l) g.w
 intro d
 induction d with
 | zero=>
  intro i o hi ho b
  rw[List.drop_eq_nil_of_le (by omega)]at b
  rw[b]
  exact a3o N l o i (ZU (XR (by omega)) (d8r rfl))
 | succ d ih=>
  intro i o hi ho b
  have a:i<l.length:=by omega
  have e:=g.kid (List.getElem_mem a)
  rw[List.drop_eq_getElem_cons a,List.map_cons,c5q]at ho
  rw[List.drop_eq_getElem_cons a,List.map_cons,AP]at b
  have k:=fun o'=>ih (i+1) o' (by omega)
  rw[decide_eq_false (show ¬ i+1=0 by omega)]at k
  refine a3o N l o i (ZT (Xv a) (ZO (fun h=>⟨Zj (by show o.length+2<=_;omega),Zp a rfl,ZB a ⟨Xz _,Oq e ⟨Zj (by rw[List.length_append];show o.length+2+(ZN l[i]).length<=_;omega),?_⟩⟩⟩) fun h=>⟨Zp a rfl,ZB a ⟨Xz _,Oq e ⟨Zj (by show o.length+(ZN l[i]).length<=_;omega),?_⟩⟩⟩))
  ·rw[next (by omega)]
   rw[decide_eq_false (show ¬ i=0 by omega)]at b
   exact k _ (by rw[List.length_append,List.length_append];show o.length+2+(ZN l[i]).length+_<=_;omega) b
  ·rw[next (by omega)]
   rw[decide_eq_true (show i=0 by omega)]at b
   exact k _ (by rw[List.length_append];show o.length+(ZN l[i]).length+_<=_;omega) (by rw[b,if_pos rfl,List.append_nil];rfl)
theorem TxP.sum{N:Nat}{ks:List Tm}(h:TxP N ks):c0x (ks.map ZN)<=1153433600:=by
 have h2:=Db ks (by rw[Um];exact List.all_eq_true.2 h.v)
 have h3:((ks.map ZN).map fun s=>s.length+2).sum<=((Yy ks).map fun x=>x.2.2.length+4).sum:=by
  rw[WM,BG,BG]
  exact BD fun x _=>by show(ZN x).length+2<=(ZN x).length+4;omega
 have:=h.w
 unfold c0x
 omega
theorem c4s(N:Nat): ∀ x:List Tm×Unit,((tsW x.1&&Ws x.1)&&decide (Yc x.1<N))=true->Zd (JS N) 0 (Za QE (Zf (Yi (x.1.map Zt)))) QJ [] (Zx d1g (encL x)):=by
 rintro⟨l,⟨⟩⟩ h
 simp only[Bool.and_eq_true,decide_eq_true_eq,Um,List.all_eq_true]at h
 have a:TxP N l:=⟨of_decide_eq_true h.1.1,h.1.2,h.2⟩
 have:=a.sum
 refine e7n N l (a7p N l a _ l.length 0 [] (by omega) (by rw[List.drop_zero];show 0+_<=_;omega) ?_)
 rw[List.drop_zero,show decide (0=0)=true from rfl,Rk,List.nil_append,<- VZ]
theorem a5l(l:List Lin)(hl:l.length<=1048576)(h : ∀ x∈l,Zh x=true)(R:Str): ∀ (d i:Nat) (o:List UInt8),d+i=l.length->o.length+1002*d<=1099511627000->R=⟨AP o (decide (i=0)) ((l.drop i).map ZE)⟩ ->
  At QC 0 (Za Ut (Zf R)) Uv 0 23 [(0,.pv (enc l)),(3,.pv (.str o)),(4,.pv (.int .i64 i))] []:=by
 intro d
 induction d with
 | zero=>
  intro i o hi ho b
  rw[List.drop_eq_nil_of_le (by omega)]at b
  rw[b]
  exact LQ l o i (ZU (XR (by omega)) (d8r rfl))
 | succ d ih=>
  intro i o hi ho b
  have a:i<l.length:=by omega
  have e:=Uu (h _ (List.getElem_mem a))
  have hpl:=Wt l[i]
  rw[List.drop_eq_getElem_cons a,List.map_cons,AP]at b
  have k:=fun o'=>ih (i+1) o' (by omega)
  rw[decide_eq_false (show ¬ i+1=0 by omega)]at k
  refine LQ l o i (ZT (Xv a) (ZO (fun g=>⟨Zj (by show o.length+2<=_;omega),Zp a rfl,ZB a ⟨Zc (l[i],()) rfl e,Zb (l[i],()) rfl ⟨Zj (by rw[List.length_append];show o.length+2+(ZE l[i]).length<=_;omega),?_⟩⟩⟩) fun g=>⟨Zp a rfl,ZB a ⟨Zc (l[i],()) rfl e,Zb (l[i],()) rfl ⟨Zj (by show o.length+(ZE l[i]).length<=_;omega),?_⟩⟩⟩))
  ·rw[next (by omega)]
   rw[decide_eq_false (show ¬ i=0 by omega)]at b
   exact k _ (by rw[List.length_append,List.length_append];show o.length+2+(ZE l[i]).length+_<=_;omega) b
  ·rw[next (by omega)]
   rw[decide_eq_true (show i=0 by omega)]at b
   exact k _ (by rw[List.length_append];show o.length+(ZE l[i]).length+_<=_;omega) (by rw[b,if_pos rfl,List.append_nil])
theorem b0j: ∀ x:List Lin×Unit,(decide (x.1.length<=1048576)&&x.1.all Zh)=true->Zd QC 0 (Za Ut (Zf (Yi (x.1.map Yu)))) Uv [] (Zx c0o (encL x)):=by
 rintro⟨l,⟨⟩⟩ h
 simp only[Bool.and_eq_true,decide_eq_true_eq,List.all_eq_true]at h
 refine d7j l (a5l l h.1 h.2 _ l.length 0 [] (by omega) (by show 0+_<=_;omega) ?_)
 rw[List.drop_zero,show decide (0=0)=true from rfl,Rk,List.nil_append,<- KD]
def rkO(o:List UInt8):Bool->List Int->List UInt8
 | _,[]=>o
 | b,n::r=>rkO (o++(if b then [64,40]else [44,32])++Kl n++(if r.isEmpty then [41]else [])) false r
theorem Hu(s t:List UInt8)(r:List (List UInt8)):Zu (s::t::r)=s++[44,32]++Zu (t::r):=rfl
theorem f2n: ∀ (l:List Int) (o:List UInt8),l≠[]->rkO o false l=o++[44,32]++Zu (l.map Kl)++[41]
 | [],_,h=>absurd rfl h
 | [n],o,_=>by simp[rkO,Zu]
 | n::m::r,o,_=>by
  rw[rkO,f2n (m::r) _ (by simp)]
  simp only[List.map_cons,List.isEmpty_cons,Bool.false_eq_true,if_false,List.append_nil,Hu,List.append_assoc]
theorem f6b(l:List Int)(o:List UInt8):rkO o true l=o++(if l=[]then []else [64,40]++Zu (l.map Kl)++[41]):=by
 cases l with
 | nil=>simp[rkO]
 | cons n r=>
  rw[rkO,if_neg (List.cons_ne_nil n r)]
  cases r with
  | nil=>simp[rkO,Zu]
  | cons m r=>
   rw[f2n _ _ (by simp)]
   simp only[List.map_cons,List.isEmpty_cons,Bool.false_eq_true,if_false,if_true,List.append_nil,Hu,List.append_assoc]
theorem b0r(N:Nat)(n:Nd)(ks:List Tm)(h:TxP N ks)(hr:n.ranks.length<=8)(j:Wd n.ranks=true)(R:Str): ∀ (d i:Nat) (o:List UInt8),d+i=n.ranks.length->o.length+30*d<=1000000->R=⟨rkO o (decide (i=0)) (n.ranks.drop i)++[40]++Zu (ks.map ZN)++[41]⟩ ->
  At (WB N) 0 (Za XN (Zf R)) XY 0 64 [(1,.ptr 0 0),(3,.pv (.str o)),(4,.pv (.int .i64 i))] [.obj (.box (ZY n ks))]:=by
 intro d
 induction d with
 | zero=>
  intro i o hi ho b
  rw[List.drop_eq_nil_of_le (by omega)]at b
  have hc:=h.com
  have g:=VZ ks
  rw[<- g]at hc
  rw[b,<- g]
  refine a0f N n ks o i (ZU (XR (by omega)) ⟨Zj (by show o.length+1<=_;omega),TJ h ⟨Zj (by rw[List.length_append];show o.length+1+_<=_;omega),Zj (by rw[List.length_append,List.length_append];show o.length+1+_+1<=_;omega),d8r rfl⟩⟩)
 | succ d ih=>
  intro i o hi ho b
  have a:i<n.ranks.length:=by omega
  have m:=List.all_eq_true.1 j _ (List.getElem_mem a)
  simp only[Bool.and_eq_true,decide_eq_true_eq]at m
  have e:n.ranks[i].natAbs<9223372036854775808:=by omega
  have hil:(Zq n.ranks[i]).s.length<=21:=Dz e
  rw[List.drop_eq_getElem_cons a,rkO]at b
  have k:=fun o'=>ih (i+1) o' (by omega)
  rw[decide_eq_false (show ¬ i+1=0 by omega)]at k
  have q:IntKind.i64.wrap ((↑(List.length (List.map (enc:Int->PV) n.ranks)):Int) - 1)=((n.ranks.length - 1:Nat):Int):=by rw[List.length_map,Vu (by omega) (by omega)];omega
  have r:(n.ranks.drop (i+1)).isEmpty=decide (i=n.ranks.length - 1):=by rw[VQ,List.length_drop];exact decide_eq_decide.2 (by omega)
  rw[r]at b
  refine a0f N n ks o i (ZT (Xv a) ?_)
  rw[q]
  refine ZA (fun l=>⟨Zj (by show o.length+2<=_;omega),Zp a rfl,ZB a (RD (n:=n.ranks[i]) e ⟨Zj (by rw[List.length_append];show o.length+2+_<=_;omega),ZA (fun h1=>⟨Zj (by rw[List.length_append,List.length_append];show o.length+2+_+1<=_;omega),?_⟩) fun h1=> ?_⟩)⟩) fun l=>⟨Zj (by show o.length+2<=_;omega),Zp a rfl,ZB a (RD (n:=n.ranks[i]) e ⟨Zj (by rw[List.length_append];show o.length+2+_<=_;omega),ZA (fun h1=>⟨Zj (by rw[List.length_append,List.length_append];show o.length+2+_+1<=_;omega),?_⟩) fun h1=> ?_⟩)⟩
  ·rw[next (by omega)]
   rw[decide_eq_true (show i=0 by omega),decide_eq_true (show i=n.ranks.length - 1 by omega)]at b
   exact k _ (by rw[List.length_append,List.length_append,List.length_append];show o.length+2+_+1+_<=_;omega) b
  ·rw[next (by omega)]
   rw[decide_eq_true (show i=0 by omega),decide_eq_false (show ¬ i=n.ranks.length - 1 by omega)]at b
   exact k _ (by rw[List.length_append,List.length_append];show o.length+2+_+_<=_;omega) (by rw[b];simp only[Bool.false_eq_true,if_false,List.append_nil];rfl)
  ·rw[next (by omega)]
   rw[decide_eq_false (show ¬ i=0 by omega),decide_eq_true (show i=n.ranks.length - 1 by omega)]at b
   exact k _ (by rw[List.length_append,List.length_append,List.length_append];show o.length+2+_+1+_<=_;omega) b
  ·rw[next (by omega)]
   rw[decide_eq_false (show ¬ i=0 by omega),decide_eq_false (show ¬ i=n.ranks.length - 1 by omega)]at b
   exact k _ (by rw[List.length_append,List.length_append];show o.length+2+_+_<=_;omega) (by rw[b];simp only[Bool.false_eq_true,if_false,List.append_nil];rfl)
theorem c0y(N:Nat): ∀ x:Tm×Unit,(((tW x.1&&Ya x.1)&&decide (x.1.nd.kind=6))&&decide (Yc x.1.ks<N))=true->Zd (WB N) 0 (Za XN (Zf (Q6 x.1))) XY [] (Zx d0k (encL x)):=by
 rintro⟨⟨n,ks⟩,⟨⟩⟩ h
 simp only[Bool.and_eq_true,decide_eq_true_eq]at h
 obtain⟨⟨⟨j,e⟩,g⟩,hd⟩:=h
 have g:n.kind=6:=g
 have j:tW (.mk n ks)=true:=j
 have e:=Qy e
 have i:UI ks<=1048576:=by have h1:J8 (.mk n ks)<=1048576:=of_decide_eq_true j;rw[J8]at h1;omega
 have z:TxP N ks:=⟨i,e.2,hd⟩
 have hc:XI n ks.length=true:=by
  have h1:=e.1
  unfold WC YJ at h1
  rw[g]at h1
  simp at h1
  exact h1.2.2
 obtain⟨c1,c2,c3,A,m,r⟩:=Nh hc
 have l0:(Yi (n.sizes.map Yu)).s.length<=4008:=by
  rw[KD]
  have h1:=YU (n.sizes.map ZE)
  rw[List.map_map]at h1
  have h2:=QW (f:=(fun s:List UInt8=>s.length+2) ∘ ZE) (c:=1002) (l:=n.sizes) fun x _=>by
   have:=Wt x
   show(ZE x).length+2<=_
   omega
  omega
 have l1:(Zq n.num).s.length<=21:=Dz (by omega)
 have k:=KD n.sizes
 rw[<- ZP]
 show Zd (WB N) 0 (Za XN (Zf (Q6 (.mk n ks)))) _ _ _
 have a : ∀ o:List UInt8,o.length<=10000->o=n.name.s++(if n.sizes=[]then []else [91]++Zu (n.sizes.map ZE)++[93])++(if n.num=0 then []else [123]++Kl n.num++[125]) ->
   At (WB N) 0 (Za XN (Zf (Q6 (.mk n ks)))) XY 0 64 [(1,.ptr 0 0),(3,.pv (.str o)),(4,.pv (.int .i64 ((0:Nat):Int)))] [.obj (.box (ZY n ks))]:=fun o ho q=>
  b0r N n ks z A r _ n.ranks.length 0 o (by omega) (by omega) (by
   rw[List.drop_zero,show decide (0=0)=true from rfl,f6b,q]
   show(⟨Ui n (ks.map ZN)⟩:Str)=_
   unfold Ui
   simp only[List.append_assoc])
 have u:(fun x:List Lin×Unit=>decide (x.1.length<=1048576)&&x.1.all Zh) (n.sizes,())=true:=by show(decide (n.sizes.length<=1048576)&&n.sizes.all Zh)=true;rw[decide_eq_true (by omega),m];rfl
 have b:n.num.natAbs<9223372036854775808:=by omega
 refine e4h N n ks (ZO (fun hs=> ?_) fun hs=> ?_)
 ·rw[VO]at hs
  refine⟨Zc (n.sizes,()) rfl u,Zb (n.sizes,()) rfl ⟨Zj (by show 1+(Yi (n.sizes.map Yu)).s.length<=_;omega),Zj (by rw[List.length_append];show 1+(Yi (n.sizes.map Yu)).s.length+1<=_;omega),Zj (by show n.name.s.length+([91]++(Yi (n.sizes.map Yu)).s++[93]).length<=_;rw[List.length_append,List.length_append];show _+(1+_+1)<=_;omega),Aq (fun hm=>RD b ⟨Zj (by show 1+_<=_;omega),Zj (by rw[List.length_append];show 1+(Zq n.num).s.length+1<=_;omega),Zj (by show(n.name.s++([91]++(Yi (n.sizes.map Yu)).s++[93])).length+([123]++(Zq n.num).s++[125]).length<=_;rw[List.length_append,List.length_append,List.length_append,List.length_append,List.length_append];show _+(1+_+1)+(1+_+1)<=_;omega),?_⟩) fun hm=> ?_⟩⟩
  ·refine a _ ?_ ?_
   ·show(n.name.s++([91]++(Yi (n.sizes.map Yu)).s++[93])++([123]++(Zq n.num).s++[125])).length<=_
    rw[List.length_append,List.length_append,List.length_append,List.length_append,List.length_append,List.length_append];show _+(1+_+1)+(1+_+1)<=_;omega
   ·rw[if_neg hs,if_neg hm,<- k];rfl
  ·refine a _ ?_ ?_
   ·show(n.name.s++([91]++(Yi (n.sizes.map Yu)).s++[93])).length<=_
    rw[List.length_append,List.length_append,List.length_append];show _+(1+_+1)<=_;omega
   ·rw[if_neg hs,if_pos hm,<- k,List.append_nil]
 ·have hs:n.sizes=[]:=by
   cases hn:n.sizes with
   | nil=>rfl
   | cons x y=>exact absurd (by rw[hn];simp) hs
  refine Aq (fun hm=>RD b ⟨Zj (by show 1+_<=_;omega),Zj (by rw[List.length_append];show 1+(Zq n.num).s.length+1<=_;omega),Zj (by show n.name.s.length+([123]++(Zq n.num).s++[125]).length<=_;rw[List.length_append,List.length_append];show _+(1+_+1)<=_;omega),?_⟩) fun hm=> ?_
  ·refine a _ ?_ ?_
   ·show(n.name.s++([123]++(Zq n.num).s++[125])).length<=_
    rw[List.length_append,List.length_append,List.length_append];show _+(1+_+1)<=_;omega
   ·rw[if_pos hs,if_neg hm,List.append_nil];rfl
  ·refine a _ (by omega) ?_
   rw[if_pos hs,if_pos hm,List.append_nil,List.append_nil]
theorem f4t{r:OpR}(h:r∈XM):Va ⟨r.s⟩ r.u=⟨⟨r.n⟩,r.l,true⟩:=by
 simp only[XM,List.mem_cons,List.not_mem_nil,or_false]at h
 rcases h with rfl|rfl|rfl|rfl|rfl|rfl|rfl|rfl|rfl|rfl|rfl|rfl|rfl|rfl|rfl <;> rfl
theorem BP{n:Nd}{ks:List Tm}{r:OpR}(h:Hw n ks.length=some r):CK (.mk n ks)=⟨⟨r.s⟩,r.l,r.u⟩:=by
 show(match Hw n ks.length with|none=>(⟨⟨[]⟩,0,false⟩:R3 Str Int Bool)|some r=>⟨⟨r.s⟩,r.l,r.u⟩)=_
 rw[h]
theorem Sq{n:Nd}{ks:List Tm}(h:Hw n ks.length=none):CK (.mk n ks)=⟨⟨[]⟩,0,false⟩:=by
 show(match Hw n ks.length with|none=>(⟨⟨[]⟩,0,false⟩:R3 Str Int Bool)|some r=>⟨⟨r.s⟩,r.l,r.u⟩)=_
 rw[h]
theorem b9s: ∀ x:Tm×Unit,tW x.1=true->Zd Eg 0 (Za Pi (Zf (CK x.1))) a5r [] (Zx c8o (encL x)):=by
 rintro⟨⟨n,ks⟩,⟨⟩⟩ h
 have C:=ndB h
 have q1:=C.sizes
 have q2:=C.ranks
 rw[<- ZP]
 show Zd Eg 0 (Za Pi (Zf (CK (.mk n ks)))) _ _ _
 have j:Hw n ks.length=none->Zf (CK (.mk n ks)) (.tup [.str [],.int .i64 0,.bool false]):=fun e=>Zg (x:=(⟨⟨[]⟩,0,false⟩:R3 Str Int Bool)) (Sq e).symm
 refine e5x n ks (Zb (n.name,()) rfl ?_)
 cases k:CR n.name.s with
 | none=>
  have e:Hw n ks.length=none:=by unfold Hw;simp[k]
  rw[show JU (n.name,()).1=⟨⟨[]⟩,false,false⟩from by show JU n.name=_;unfold JU;rw[k]]
  exact Aq (fun _=>j e) fun _=>ZT rfl (j e)
 | some r=>
  rw[show JU (n.name,()).1=⟨⟨r.s⟩,r.u,true⟩from g3y k]
  have g : ¬ (n.kind=6∧ks.length=(if r.u then 1 else 2)∧n.sizes=[]∧n.num=0∧n.ranks=[])->Hw n ks.length=none:=fun h=>by unfold Hw;simp only[k];rw[if_neg h]
  have z:(n.kind=6∧ks.length=(if r.u then 1 else 2)∧n.sizes=[]∧n.num=0∧n.ranks=[])->Hw n ks.length=some r:=fun h=>by unfold Hw;simp only[k];rw[if_pos h]
  have hm:r∈XM:=List.mem_of_find?_eq_some k
  have F:=f4t hm
  simp only[List.length_map,RF (show n.sizes.length+n.ranks.length<=4611686018427387904 by omega)]
  refine Aq (fun m=>j (g fun x=>m x.1)) fun m=>ZU (by simp) (ZO (fun hs=>j (g fun x=> ?_)) fun hs=>Aq (fun hm=>j (g fun x=>hm x.2.2.2.1)) fun hm=> ?_)
  ·rw[x.2.2.1,x.2.2.2.2]at hs
   simp at hs
  ·have q:n.sizes=[]:=List.length_eq_zero_iff.1 (by omega)
   have A:n.ranks=[]:=List.length_eq_zero_iff.1 (by omega)
   have fin:ks.length=(if r.u then 1 else 2)-> ∃ y:R3 Str Int Bool,AV.pv (Zi (fun x:Str×Bool×Unit=>Va x.1 x.2.1) [.str (Str.s (R3.a (⟨⟨r.s⟩,r.u,true⟩:R3 Str Bool Bool))),.bool (R3.b (⟨⟨r.s⟩,r.u,true⟩:R3 Str Bool Bool))])=AV.pv (enc y)∧Zf (CK (.mk n ks)) (.tup [.str (Str.s (R3.a (⟨⟨r.s⟩,r.u,true⟩:R3 Str Bool Bool))),.int .i64 (R3.b y),.bool (R3.b (⟨⟨r.s⟩,r.u,true⟩:R3 Str Bool Bool))]):=fun D=>
    Zb (⟨r.s⟩,r.u,()) rfl (by
     rw[show Va ((⟨r.s⟩,r.u,()):Str×Bool×Unit).1 ((⟨r.s⟩,r.u,()):Str×Bool×Unit).2.1=⟨⟨r.n⟩,r.l,true⟩from F]
     exact Zg (x:=(⟨⟨r.s⟩,r.l,r.u⟩:R3 Str Int Bool)) (BP (z ⟨m,D,q,hm,A⟩)).symm)
   refine Aq (fun E=>YV (fun hu=>j (g fun x=> ?_)) fun hu=>Aq (fun B=>YY (fun i=>j (g fun x=> ?_)) fun i=> ?_) fun B=>fin ?_) fun E=>Aq (fun B=>YY (fun hu=>j (g fun x=> ?_)) fun hu=>fin ?_) fun B=> ?_
   ·have hu:r.u=true:=hu
    have:=x.2.1
    rw[hu,if_pos rfl]at this
    omega
   ·have hu:r.u=false:=hu
    have:=x.2.1
    rw[hu,if_neg (by decide)]at this
    omega
   ·have hu:r.u=false:=hu
    have i:r.u=true:=i
    rw[hu]at i;cases i
   ·have hu:r.u=false:=hu
    rw[hu,if_neg (by decide)];omega
   ·have hu:r.u=false:=hu
    have:=x.2.1
    rw[hu,if_neg (by decide)]at this
    omega
   ·have hu:r.u=true:=hu
    rw[hu,if_pos rfl];omega
   ·omega
theorem d0y: ∀ x:Tm×Unit,tW x.1=true->Zd b2b 0 (Za FX (Zf (X8 x.1))) b4d [] (Zx e3u (encL x)):=by
 rintro⟨⟨n,ks⟩,⟨⟩⟩ h
 rw[<- ZP]
 show Zd b2b 0 (Za FX (Zf (TC n ks.length))) _ _ _
 refine g0f n ks ⟨Zc (.mk n ks,()) (ZP n ks) h,Zb (.mk n ks,()) (ZP n ks) (ZA (fun g=>UR ?_) fun g=> ?_)⟩
 ·unfold TC;rw[if_pos g]
 ·cases ho:Hw n ks.length with
  | some r=>
   rw[show CK ((Tm.mk n ks,()):Tm×Unit).1=⟨⟨r.s⟩,r.l,r.u⟩from BP ho]
   have b:(r.s==[])=false:=by rw[Ca];exact decide_eq_false (f2m (S9 ho).1)
   exact ZT (by show(!(r.s==[]))=true;rw[b];rfl) (UR (b8c ho).symm)
  | none=>
   rw[show CK ((Tm.mk n ks,()):Tm×Unit).1=⟨⟨[]⟩,0,false⟩from Sq ho]
   have e:TC n ks.length=if n.kind=2∧n.name.s=Xa∧n.num<0 then 6 else 7:=by unfold TC;rw[if_neg g,ho]
   rw[e]
   refine ZU (by decide) (ZA (fun h2=>ZA (fun h3=>ZO (fun a=>UR ?_) fun a=>UR ?_) fun h3=>UR ?_) fun h2=>UR ?_)
   ·rw[if_pos ⟨h2,h3,a⟩]
   ·rw[if_neg fun x=>a x.2.2]
   ·rw[if_neg fun x=>h3 x.2.1]
   ·rw[if_neg fun x=>h2 x.1]
theorem e1o(N:Nat): ∀ x:Tm×Bool×Unit,((tW x.1&&Ya x.1)&&decide (Z4 x.1<N))=true->Zd (b0v N) 0 (Za FM (Zf (Ay x.2.1 x.1))) b8e [] (Zx e8s (encL x)):=by
 rintro⟨⟨n,ks⟩,b,⟨⟩⟩ h
 have a:=h
 simp only[Bool.and_eq_true,decide_eq_true_eq]at a
 have hl:(ZN (.mk n ks)).length<=1153433592:=JM a.1.1 a.1.2
 have e:encL ((Tm.mk n ks,b,()):Tm×Bool×Unit)=Dc n ks++[.bool b]:=by rw[ZP];rfl
 rw[e]
 show Zd (b0v N) 0 (Za FM (Zf (Ay b (.mk n ks)))) _ _ _
 refine f4l N n ks b (YV (fun hb=>⟨Zc (.mk n ks,()) (ZP n ks) h,Zb (.mk n ks,()) (ZP n ks) ⟨Zj (by show 1+(ZN (.mk n ks)).length<=_;omega),Zj (by rw[List.length_append];show 1+(ZN (.mk n ks)).length+1<=_;omega),?_⟩⟩) fun hb=>⟨Zc (.mk n ks,()) (ZP n ks) h,Zb (.mk n ks,()) (ZP n ks) ?_⟩)
 ·exact d8r (by rw[hb];rfl)
 ·exact d8r (by rw[hb];rfl)
theorem c0u(N:Nat): ∀ x:Tm×Unit,((tW x.1&&Ya x.1)&&decide (Z4 x.1<N+1))=true->Zd (O8 N) 0 (Za Pb (Zf (Zt x.1))) a5n [] (Zx e1e (encL x)):=by
 rintro⟨⟨n,ks⟩,⟨⟩⟩ h
 simp only[Bool.and_eq_true,decide_eq_true_eq]at h
 obtain⟨⟨E,A⟩,hd⟩:=h
 have E:tW (.mk n ks)=true:=E
 have A:Ya (.mk n ks)=true:=A
 have hd:Z4 (.mk n ks)<N+1:=hd
 rw[Z4]at hd
 have T:=Qy A
 have M:UI ks<=1048576:=by have h1:J8 (.mk n ks)<=1048576:=of_decide_eq_true E;rw[J8]at h1;omega
 have k:TxP N ks:=⟨M,T.2,by omega⟩
 have y:=(ndB E).name
 have j:YJ n ks.length=true:=by
  have:=T.1
  unfold WC at this
  simp only[Bool.and_eq_true]at this
  exact this.2
 have fin : ∀ s,s=Q4 n (Yy ks)->Zf (Zt (.mk n ks)) (.str s):=fun s hs=>Zg (x:=(⟨s⟩:Str)) (by rw[hs,Zt,ZN])
 rw[<- ZP]
 show Zd (O8 N) 0 (Za Pb (Zf (Zt (.mk n ks)))) _ _ _
 refine e8n N n ks ⟨Zc (.mk n ks,()) (ZP n ks) E,Zb (.mk n ks,()) (ZP n ks) ?_⟩
 generalize Zf (Zt (.mk n ks))=G at fin ⊢
 cases ho:Hw n ks.length with
 | some r=>
  obtain⟨hm,K⟩:=ES ho
  have hr:=(S9 ho).2
  have L:(r.s==[])=false:=by rw[Ca];exact decide_eq_false (f2m (S9 ho).1)
  have F:(!(r.s==[]))=true:=by rw[L];rfl
  rw[show CK ((Tm.mk n ks,()):Tm×Unit).1=⟨⟨r.s⟩,r.l,r.u⟩from BP ho]
  cases hu:r.u with
  | false=>
   rw[hu]at K
   match ks,K with
   | [a,b],_=>
    have ha:=k.kid (show a∈[a,b] by simp)
    have hb:=k.kid (show b∈[a,b] by simp)
    have I:=k.len (show a∈[a,b] by simp)
    have S:=k.len (show b∈[a,b] by simp)
    have g : ∀ f,(Ay f a).s.length<=1153433594:=fun f=>by have:=Qb f (ZN a);show(Ue f (ZN a)).length<=_;omega
    have D : ∀ f,(Ay f b).s.length<=1153433594:=fun f=>by have:=Qb f (ZN b);show(Ue f (ZN b)).length<=_;omega
    have i : ∀ f:Bool,f=(decide (X8 a<r.l)||(decide (X8 a=3)&&decide (r.l=3)))->(Ay f a).s++[32]++r.s++[32]++(Ay (decide (X8 b<=r.l)) b).s=Q4 n (Yy [a,b]):=fun f P=>by
     simp only[Yy]
     rw[b9a ho,P]
     rfl
    refine ZT F (ZU (by simp) (ZT F ⟨rfl,a,rfl,Xz a,rfl,b,rfl,Xz b,Az ha.1 (ZO (fun h1=> ?_) fun h1=>Az ha.1 (ZA (fun h2=> ?_) fun h2=> ?_))⟩))
    ·have h1:X8 a<r.l:=h1
     refine Qx ha ⟨Zy (g _) (show _<=8 by decide) (by omega),Zy (Zv (g _) (show _<=8 by decide)) hr (by omega),Zy (Zv (Zv (g _) (show _<=8 by decide)) hr) (show _<=8 by decide) (by omega),Az hb.1 (Qx hb ⟨Zy (Zv (Zv (Zv (g _) (show _<=8 by decide)) hr) (show _<=8 by decide)) (D _) (by omega),fin _ (i _ ?_)⟩)⟩
     rw[decide_eq_true h1];rfl
    ·have h1 : ¬ X8 a<r.l:=h1
     refine Qx ha ⟨Zy (g _) (show _<=8 by decide) (by omega),Zy (Zv (g _) (show _<=8 by decide)) hr (by omega),Zy (Zv (Zv (g _) (show _<=8 by decide)) hr) (show _<=8 by decide) (by omega),Az hb.1 (Qx hb ⟨Zy (Zv (Zv (Zv (g _) (show _<=8 by decide)) hr) (show _<=8 by decide)) (D _) (by omega),fin _ (i _ ?_)⟩)⟩
     rw[decide_eq_false h1,h2];simp[beq_iff_eq];rfl
    ·have h1 : ¬ X8 a<r.l:=h1
     refine Qx ha ⟨Zy (g _) (show _<=8 by decide) (by omega),Zy (Zv (g _) (show _<=8 by decide)) hr (by omega),Zy (Zv (Zv (g _) (show _<=8 by decide)) hr) (show _<=8 by decide) (by omega),Az hb.1 (Qx hb ⟨Zy (Zv (Zv (Zv (g _) (show _<=8 by decide)) hr) (show _<=8 by decide)) (D _) (by omega),fin _ (i _ ?_)⟩)⟩
     rw[decide_eq_false h1,decide_eq_false h2];rfl
  | true=>
   rw[hu]at K
   match ks,K with
   | [a],_=>
    have ha:=k.kid (show a∈[a] by simp)
    have I:=k.len (show a∈[a] by simp)
    have g : ∀ f,(Ay f a).s.length<=1153433594:=fun f=>by have:=Qb f (ZN a);show(Ue f (ZN a)).length<=_;omega
    have i : ∀ f:Bool,f=(decide (X8 a<6)||(decide (r.s=[45])&&BQ a))->r.s++(Ay f a).s=Q4 n (Yy [a]):=fun f P=>by
     simp only[Yy]
     rw[c9e ho,P]
     rfl
    refine ZT F (ZT rfl ⟨rfl,a,rfl,Xz a,Az ha.1 ?_⟩)
    rw[g4e,g1z,g2j]
    have nn : ∀ {q:Bool},BQ a=q->BQ a=q:=fun h=>h
    refine ZO (fun C=> ?_) fun C=>ZA (fun m=>ZA (fun h2=>ZA (fun h3=> ?_) fun h3=> ?_) fun h2=> ?_) fun m=> ?_
    ·refine Qx ha ⟨Zy hr (g _) (by omega),fin _ (i _ ?_)⟩
     rw[decide_eq_true C];rfl
    ·refine Qx ha ⟨Zy hr (g _) (by omega),fin _ (i _ ?_)⟩
     have m:r.s=[45]:=m
     rw[decide_eq_false C,decide_eq_true m,Bool.false_or,Bool.true_and]
     unfold BQ
     rw[decide_eq_true h2,decide_eq_true (show a.nd.name.s=Xa from h3)];rfl
    ·refine Qx ha ⟨Zy hr (g _) (by omega),fin _ (i _ ?_)⟩
     have m:r.s=[45]:=m
     rw[decide_eq_false C,decide_eq_true m,Bool.false_or,Bool.true_and]
     unfold BQ
     rw[decide_eq_true h2,decide_eq_false (show ¬ a.nd.name.s=Xa from h3)];rfl
    ·refine Qx ha ⟨Zy hr (g _) (by omega),fin _ (i _ ?_)⟩
     have m:r.s=[45]:=m
     rw[decide_eq_false C,decide_eq_true m,Bool.false_or,Bool.true_and]
     unfold BQ
     rw[decide_eq_false h2];rfl
    ·refine Qx ha ⟨Zy hr (g _) (by omega),fin _ (i _ ?_)⟩
     have m : ¬ r.s=[45]:=m
     rw[decide_eq_false C,decide_eq_false m];rfl
 | none=>
  rw[show CK ((Tm.mk n ks,()):Tm×Unit).1=⟨⟨[]⟩,0,false⟩from Sq ho]
  have hn:Q4 n (Yy ks)=_:=MV (by rw[WM,List.length_map];exact ho)
  have et:(Yy ks).map (·.2.2)=ks.map ZN:=by rw[WM,List.map_map];rfl
  rw[et]at hn
  rw[hn]at fin
  refine ZU (by decide) (ZU (by decide) (ZA (fun h=> ?_) fun X=>ZA (fun h=> ?_) fun h2=>ZA (fun h=> ?_) fun C=>ZA (fun h=> ?_) fun m=>ZA (fun h=> ?_) fun V=>ZA (fun h=> ?_) fun U=>ZA (fun h=> ?_) fun J=>ZA (fun h=> ?_) fun h3=> ?_))
  ·-- let
   have q:nameI n.name.s=true∧ks.length=2:=by
    have:=j
    unfold YJ at this
    simp[h]at this
    exact⟨this.1.1.1.2,this.1.2⟩
   obtain⟨a,b,rfl⟩:=Ri q.2
   have ha:=k.kid (show a∈[a,b] by simp)
   have hb:=k.kid (show b∈[a,b] by simp)
   have I:(Zt a).s.length<=_:=k.len (show a∈[a,b] by simp)
   have S:(Zt b).s.length<=_:=k.len (show b∈[a,b] by simp)
   refine⟨Zy (show _<=8 by decide) y (by omega),Zy (Zv (show _<=8 by decide) y) (show _<=8 by decide) (by omega),rfl,a,rfl,Xz a,Oq ha ⟨Zy (Zv (Zv (show _<=8 by decide) y) (show _<=8 by decide)) I (by omega),Zy (Zv (Zv (Zv (show _<=8 by decide) y) (show _<=8 by decide)) I) (show _<=8 by decide) (by omega),rfl,b,rfl,Xz b,Oq hb ⟨Zy (Zv (Zv (Zv (Zv (show _<=8 by decide) y) (show _<=8 by decide)) I) (show _<=8 by decide)) S (by omega),fin _ ?_⟩⟩⟩
   simp[h,Yy,Zt]
  ·-- literals
   have q:UK n=true:=by
    have:=j
    unfold YJ at this
    simp[h]at this
    exact this.1.1.2
   have W:n.name.s=Xa->n.num.natAbs<9223372036854775808:=fun e=>by
    unfold UK at q
    rw[e,if_neg (by decide)]at q
    simp at q
    omega
   have Q:Q4 n (Yy ks)=BO n:=by rw[hn];simp[h]
   rw[hn]at Q
   rw[Q]at fin
   refine ZA (fun h3=>RD (W h3) (fin _ ?_)) fun h3=>ZA (fun J=>fin _ ?_) fun J=>fin _ ?_
   ·unfold BO;rw[if_pos (show n.name.s=Xa from h3)];rfl
   ·unfold BO;rw[if_neg (show ¬ n.name.s=Xa from h3),if_pos J]
   ·unfold BO;rw[if_neg (show ¬ n.name.s=Xa from h3),if_neg J]
  ·-- call
   refine⟨Zc (.mk n ks,()) (ZP n ks) ?_,Zb (.mk n ks,()) (ZP n ks) (fin _ (by simp[h,Q6,Tm.nd,Tm.ks]))⟩
   show(tW (.mk n ks)&&Ya (.mk n ks)&&decide (n.kind=6)&&decide (Yc ks<N))=true
   rw[E,A,decide_eq_true h,decide_eq_true k.d];rfl
  ·-- pack
   have hc:=k.com
   have B:=VZ ks
   rw[<- B]at hc
   refine TJ k ⟨Zy (show _<=8 by decide) hc (by omega),Zy (Zv (show _<=8 by decide) hc) (show _<=8 by decide) (by omega),fin _ ?_⟩
   simp[h,B]
  ·-- fold
   have q:Bq n.name.s=true∧ks.length=2:=by
    have:=j
    unfold YJ at this
    simp[h]at this
    exact⟨this.1.1.1.2,this.1.2⟩
   have hc:=k.com
   have B:=VZ ks
   rw[<- B]at hc
   have z:=(VJ q.1).2.2
   obtain⟨a,b,rfl⟩:=Ri q.2
   refine⟨Zy (show _<=8 by decide) z (by omega),Zy (Zv (show _<=8 by decide) z) (show _<=8 by decide) (by omega),TJ k ⟨Zy (Zv (Zv (show _<=8 by decide) z) (show _<=8 by decide)) hc (by omega),Zy (Zv (Zv (Zv (show _<=8 by decide) z) (show _<=8 by decide)) hc) (show _<=8 by decide) (by omega),fin _ ?_⟩⟩
   rw[B]
   simp[h,Hu]
  ·-- scan
   have q:Bq n.name.s=true∧ks.length=1:=by
    have:=j
    unfold YJ at this
    simp[h]at this
    exact⟨this.1.1.1.2,this.1.2⟩
   have hc:=k.com
   have B:=VZ ks
   rw[<- B]at hc
   have z:=(VJ q.1).2.2
   obtain⟨a,rfl⟩:=List.length_eq_one_iff.1 q.2
   refine⟨Zy (show _<=8 by decide) z (by omega),Zy (Zv (show _<=8 by decide) z) (show _<=8 by decide) (by omega),TJ k ⟨Zy (Zv (Zv (show _<=8 by decide) z) (show _<=8 by decide)) hc (by omega),Zy (Zv (Zv (Zv (show _<=8 by decide) z) (show _<=8 by decide)) hc) (show _<=8 by decide) (by omega),fin _ ?_⟩⟩
   rw[B]
   simp[h,Hu]
  ·-- sizes
   have q:n.sizes.length=1∧n.sizes.all Zh=true:=by
    have:=j
    unfold YJ at this
    simp[h]at this
    exact⟨this.1.1.2,by rw[List.all_eq_true];exact this.1.2⟩
   obtain⟨l,hs⟩:=List.length_eq_one_iff.1 q.1
   have O:Zh l=true:=by
    have:=q.2
    rw[hs,List.all_eq_true]at this
    exact this l (by simp)
   have H:=Wt l
   refine⟨by rw[hs];rfl,l,by rw[hs];rfl,Zc (l,()) rfl (Uu O),Zb (l,()) rfl ⟨Zy (show _<=8 by decide) (show _<=1000 from H) (by omega),Zy (Zv (show _<=8 by decide) (show _<=1000 from H)) (show _<=8 by decide) (by omega),fin _ ?_⟩⟩
   simp[h,hs]
  ·-- arrays
   have q:WE (U1 n)=true:=by
    have:=j
    unfold YJ at this
    simp[h]at this
    exact this.2
   refine⟨Zc (U1 n,()) rfl ?_,Zb (U1 n,()) rfl (fin _ ?_)⟩
   ·show(VH (U1 n)&&WE (U1 n))=true
    rw[Ew E,q];rfl
   ·simp[h,J7]
  ·-- variables
   have h1:n.kind=1:=by
    refine Classical.byContradiction fun h1=> ?_
    rw[kB0 h1 h2 h3 J X C m V U]at j
    cases j
   exact fin _ (by simp[h1])
theorem a1o(l:List Str)(s:Str):(Ul l s).length<=l.length+1:=by
 induction l with
 | nil=>simp[Ul]
 | cons a r ih=>
  rw[Ul]
  split
  ·rw[List.length_cons,List.length_cons];omega
  ·split <;> simp
theorem e4k(l:List Str)(s:Str):Ul l s≠[]:=by
 cases l with
 | nil=>simp[Ul]
 | cons a r=>
  rw[Ul]
  split
  ·simp
  ·split <;> simp
theorem c7l{l:List Str}{s x:Str}:x∈Ul l s ↔ x∈l∨x=s:=by
 induction l with
 | nil=>simp[Ul]
 | cons a r ih=>
  rw[Ul]
  split
  ·rw[List.mem_cons,ih,List.mem_cons,or_assoc]
  ·split
   ·rename_i h
    subst h
    simp only[List.mem_cons]
    exact⟨fun h=>.inl h,fun h=>h.elim id .inl⟩
   ·simp only[List.mem_cons]
    constructor
    ·rintro(h|h|h)
     ·exact .inr h
     ·exact .inl (.inl h)
     ·exact .inl (.inr h)
    ·rintro((h|h)|h)
     ·exact .inr (.inl h)
     ·exact .inr (.inr h)
     ·exact .inl h
theorem MH: ∀ (l m:List Str) (x:Str),x∈l.foldl Ul m ↔ x∈m∨x∈l
 | [],m,x=>by simp
 | s::l,m,x=>by
  rw[List.foldl_cons,MH l,c7l,List.mem_cons,or_assoc]
theorem Sr(t:Tm)(x:Str):x∈J4 t ↔ x∈YX t:=by
 have h:=MH (YX t) [] x
 simp only[List.not_mem_nil,false_or]at h
 exact h
theorem c2g(t:Tm)(p:Str->Bool):(J4 t).all p=(Uh t).all p:=by
 rw[GG,Bool.eq_iff_iff,List.all_eq_true,List.all_eq_true]
 exact⟨fun h s hs=>h s ((Sr t s).2 hs),fun h s hs=>h s ((Sr t s).1 hs)⟩
theorem b5c(l:List Str)(s:List UInt8)(i:Nat)(h:i<=l.length):(PV.sl 1 false (List.drop 0 (List.take (0+List.length (List.drop 0 (List.take (Int.toNat (i:Int)) (List.map (enc:Str->PV) l)))+List.length (List.drop 0 (List.take 1 [PV.str s]))+List.length (List.drop (Int.toNat (i:Int)) (List.take (List.length (List.map (enc:Str->PV) l)) (List.map (enc:Str->PV) l)))) (([]:List PV)++List.drop 0 (List.take (Int.toNat (i:Int)) (List.map (enc:Str->PV) l))++List.drop 0 (List.take 1 [PV.str s])++List.drop (Int.toNat (i:Int)) (List.take (List.length (List.map (enc:Str->PV) l)) (List.map (enc:Str->PV) l))))))=enc (l.take i++(⟨s⟩:Str)::l.drop i):=by
 have e:(([]:List PV)++List.drop 0 (List.take (Int.toNat (i:Int)) (List.map (enc:Str->PV) l))++List.drop 0 (List.take 1 [PV.str s])++List.drop (Int.toNat (i:Int)) (List.take (List.length (List.map (enc:Str->PV) l)) (List.map (enc:Str->PV) l)))=(l.take i++(⟨s⟩:Str)::l.drop i).map enc:=by
  rw[Int.toNat_natCast,List.nil_append,List.drop_zero,List.take_length,List.map_append,List.map_cons,List.map_take,List.map_drop,List.append_assoc]
  rfl
 rw[e,List.drop_zero,List.take_of_length_le]
 ·rfl
 ·rw[<- e];simp only[List.length_append,List.length_nil];omega
theorem c3l(l:List Str)(s:List UInt8)(hl:l.length<=1048576): ∀ (d i:Nat),d+i=l.length->Ul l ⟨s⟩=l.take i++Ul (l.drop i) ⟨s⟩ ->
  At Ac 0 (Za GI (Zf (Ul l ⟨s⟩))) G6 0 45 [(0,.pv (enc l)),(1,.pv (.str s)),(5,.pv (.int .i64 i))] []:=by
 intro d
 induction d with
 | zero=>
  intro i hi k
  have hn : ¬ i<l.length:=by omega
  refine b5v l s i (ZU (XR hn) (ZU (XR hn) ⟨by first|(simp[Enc.sz];done)|(simp[Enc.sz];omega),by first|(simp[Enc.sz];done)|(simp[Enc.sz];omega),by first|(simp[Enc.sz];done)|(simp[Enc.sz];omega),by first|(simp[Enc.sz];done)|(simp[Enc.sz];omega),by first|(simp[Enc.sz];done)|(simp[Enc.sz];omega),by first|(simp[Enc.sz];done)|(simp[Enc.sz];omega),by first|(simp[Enc.sz];done)|(simp[Enc.sz];omega),by first|(simp[Enc.sz];done)|(simp[Enc.sz];omega),?_⟩))
  rw[b5c l s i (by omega)]
  refine Zg ?_
  rw[k,List.drop_eq_nil_of_le (show l.length<=i by omega)]
  rfl
 | succ d ih=>
  intro i hi k
  have a:i<l.length:=by omega
  have b:=k
  rw[List.drop_eq_getElem_cons a,Ul]at b
  have j:i<=l.length:=by omega
  refine b5v l s i (ZT (Xv a) ⟨Zp a rfl,ZB a (Cc (fun hb=> ?_) fun hb=>ZT (Xv a) ⟨Zp a rfl,ZB a (ZA (fun g=> ?_) fun g=>⟨by first|(simp[Enc.sz];done)|(simp[Enc.sz];omega),by first|(simp[Enc.sz];done)|(simp[Enc.sz];omega),by first|(simp[Enc.sz];done)|(simp[Enc.sz];omega),by first|(simp[Enc.sz];done)|(simp[Enc.sz];omega),by first|(simp[Enc.sz];done)|(simp[Enc.sz];omega),by first|(simp[Enc.sz];done)|(simp[Enc.sz];omega),by first|(simp[Enc.sz];done)|(simp[Enc.sz];omega),by first|(simp[Enc.sz];done)|(simp[Enc.sz];omega),?_⟩)⟩)⟩)
  ·have hb:Op.bytesLess l[i].s s=true:=hb
   rw[We]at hb
   rw[if_pos (of_decide_eq_true hb)]at b
   rw[next (by omega)]
   refine ih (i+1) (by omega) ?_
   rw[b,Qv a,List.append_assoc];rfl
  ·have hb : ¬ Op.bytesLess l[i].s s=true:=hb
   rw[We]at hb
   have g:l[i].s=s:=g
   have e:l[i]=⟨s⟩:=by rw[<- g]
   rw[if_neg (fun h=>hb (decide_eq_true h)),if_pos e]at b
   refine Zg ?_
   rw[b,<- List.drop_eq_getElem_cons a,List.take_append_drop]
  ·have hb : ¬ Op.bytesLess l[i].s s=true:=hb
   rw[We]at hb
   have g:l[i].s≠s:=g
   have e : ¬ l[i]=⟨s⟩:=fun h=>g (by rw[h])
   rw[if_neg (fun h=>hb (decide_eq_true h)),if_neg e]at b
   rw[b5c l s i j]
   refine Zg ?_
   rw[b,List.drop_eq_getElem_cons a]
theorem d9z: ∀ x:List Str×Str×Unit,decide (x.1.length<=1048576)=true->Zd Ac 0 (Za GI (Zf (Ul x.1 x.2.1))) G6 [] (Zx e6p (encL x)):=by
 rintro⟨l,⟨s⟩,⟨⟩⟩ h
 exact g0o l s (c3l l s (of_decide_eq_true h) l.length 0 (by omega) (by simp))
def slP:List Str->PV
 | []=>.sl 0 true []
 | a::r=>enc (a::r)
theorem f7h{o:List Str}(h:o≠[]):slP o=enc o:=by cases o with
 | nil=>exact absurd rfl h
 | cons a r=>rfl
theorem d1x(o:List Str):Zf o (slP o):=by cases o with
 | nil=>exact⟨rfl,rfl⟩
 | cons a r=>exact Zg rfl
theorem zsv(c:Coef):(decide (0+List.length [Sh.str]<=List.length (List.drop 0 (PV.cells (enc c))))&&Yk (List.drop 0 (PV.cells (enc c))) 0 [Sh.str])=true:=rfl
theorem f1t{G:PV->Prop}(n:Nd)(ks:List Tm)(y:List Tm)(o:List Str)(i:Nat)(h:if decide ((i:Int)<(y.length:Int))=true then At Z7 0 (Za ZQ G) ZV 1 56 [(3,.pv (slP o)),(4,.pv (enc y)),(5,.pv (.int .i64 i)),(6,.pv (.int .i64 ((0:Nat):Int)))] []else G (slP o)):
  At Z7 0 (Za ZQ G) ZV 0 56 [(3,.pv (slP o)),(4,.pv (enc y)),(5,.pv (.int .i64 i))] []:=by
 cases o with
 | nil=>exact c3p n ks y i (by rw[List.length_map];exact h)
 | cons a r=>exact c5b n ks y (a::r) i (by rw[List.length_map];exact h)
theorem f1b{G:PV->Prop}(n:Nd)(ks:List Tm)(y:List Tm)(o:List Str)(i k:Nat)(b:i<y.length)(h:if decide ((k:Int)<(y[i].nd.sizes.length:Int))=true then At Z7 0 (Za ZQ G) ZV 2 56 [(3,.pv (slP o)),(4,.pv (enc y)),(5,.pv (.int .i64 i)),(6,.pv (.int .i64 k)),(7,.pv (.int .i64 ((0:Nat):Int)))] []else At Z7 0 (Za ZQ G) ZV 0 56 [(3,.pv (slP o)),(4,.pv (enc y)),(5,.pv (.int .i64 (IntKind.i64.wrap ((i:Int)+1))))] []):
  At Z7 0 (Za ZQ G) ZV 1 56 [(3,.pv (slP o)),(4,.pv (enc y)),(5,.pv (.int .i64 i)),(6,.pv (.int .i64 k))] []:=by
 cases o with
 | nil=>
  refine c4y n ks y i k ⟨Zp b rfl,ZB b ⟨zs7 _,?_⟩⟩
  rw[zv7,List.length_map]
  exact h
 | cons a r=>
  refine c0e n ks y (a::r) i k ⟨Zp b rfl,ZB b ⟨zs7 _,?_⟩⟩
  rw[zv7,List.length_map]
  exact h
theorem f5m{G:PV->Prop}(n:Nd)(ks:List Tm)(y:List Tm)(o:List Str)(i k j:Nat)(b:i<y.length)(e:k<y[i].nd.sizes.length)(g : ¬ j<y[i].nd.sizes[k].t.length)(h:At Z7 0 (Za ZQ G) ZV 1 56 [(3,.pv (slP o)),(4,.pv (enc y)),(5,.pv (.int .i64 i)),(6,.pv (.int .i64 (IntKind.i64.wrap ((k:Int)+1))))] []):
  At Z7 0 (Za ZQ G) ZV 2 56 [(3,.pv (slP o)),(4,.pv (enc y)),(5,.pv (.int .i64 i)),(6,.pv (.int .i64 k)),(7,.pv (.int .i64 j))] []:=by
 have l:(decide (0<=(k:Int))&&decide (Int.toNat (k:Int)<List.length (List.map (enc:Lin->PV) y[i].nd.sizes))&&2==2)=true:=by simp[e]
 cases o with
 | nil=>
  refine Mt n ks y i k j ⟨Zp b rfl,ZB b ⟨zs7 _,?_⟩⟩
  rw[zv7,XZ enc e]
  refine⟨l,b0c _,?_⟩
  rw[NV,List.length_map]
  exact ZU (Yv g) h
 | cons a r=>
  refine ML n ks y (a::r) i k j ⟨Zp b rfl,ZB b ⟨zs7 _,?_⟩⟩
  rw[zv7,XZ enc e]
  refine⟨l,b0c _,?_⟩
  rw[NV,List.length_map]
  exact ZU (Yv g) h
theorem f4e{G:PV->Prop}(n:Nd)(ks:List Tm)(y:List Tm)(o:List Str)(i k j:Nat)(b:i<y.length)(e:k<y[i].nd.sizes.length)(g:j<y[i].nd.sizes[k].t.length)(ho:o.length<=1048576)(h:At Z7 0 (Za ZQ G) ZV 2 56 [(3,.pv (slP (Ul o y[i].nd.sizes[k].t[j].v))),(4,.pv (enc y)),(5,.pv (.int .i64 i)),(6,.pv (.int .i64 k)),(7,.pv (.int .i64 (IntKind.i64.wrap ((j:Int)+1))))] []):
  At Z7 0 (Za ZQ G) ZV 2 56 [(3,.pv (slP o)),(4,.pv (enc y)),(5,.pv (.int .i64 i)),(6,.pv (.int .i64 k)),(7,.pv (.int .i64 j))] []:=by
 have l:(decide (0<=(k:Int))&&decide (Int.toNat (k:Int)<List.length (List.map (enc:Lin->PV) y[i].nd.sizes))&&2==2)=true:=by simp[e]
 have m:(decide (0<=(j:Int))&&decide (Int.toNat (j:Int)<List.length (List.map (enc:Coef->PV) y[i].nd.sizes[k].t))&&2==2)=true:=by simp[g]
 rw[f7h (e4k _ _)]at h
 cases o with
 | nil=>
  refine Mt n ks y i k j ⟨Zp b rfl,ZB b ⟨zs7 _,?_⟩⟩
  rw[zv7,XZ enc e]
  refine⟨l,b0c _,?_⟩
  rw[NV,List.length_map]
  refine ZT (Yq g) ⟨Zp b rfl,ZB b ⟨zs7 _,?_⟩⟩
  rw[zv7,XZ enc e]
  refine⟨l,b0c _,?_⟩
  rw[NV,XZ enc g]
  exact⟨m,zsv _,b2c ([],y[i].nd.sizes[k].t[j].v,()) rfl h⟩
 | cons a r=>
  refine ML n ks y (a::r) i k j ⟨Zp b rfl,ZB b ⟨zs7 _,?_⟩⟩
  rw[zv7,XZ enc e]
  refine⟨l,b0c _,?_⟩
  rw[NV,List.length_map]
  refine ZT (Yq g) ⟨Zp b rfl,ZB b ⟨zs7 _,?_⟩⟩
  rw[zv7,XZ enc e]
  refine⟨l,b0c _,?_⟩
  rw[NV,XZ enc g]
  exact⟨m,zsv _,Zc (a::r,y[i].nd.sizes[k].t[j].v,()) rfl (decide_eq_true ho),Zb (a::r,y[i].nd.sizes[k].t[j].v,()) rfl h⟩
theorem g8j{G:PV->Prop}(n:Nd)(ks:List Tm)(y:List Tm)(i k E:Nat)(b:i<y.length)(h:k<y[i].nd.sizes.length)(hkl:y[i].nd.sizes[k].t.length<=1048576)(F:List Str)(g:F.length+E<=1048576->At Z7 0 (Za ZQ G) ZV 1 56 [(3,.pv (slP F)),(4,.pv (enc y)),(5,.pv (.int .i64 i)),(6,.pv (.int .i64 (IntKind.i64.wrap ((k:Int)+1))))] []): ∀ (d j:Nat) (o:List Str),d+j=y[i].nd.sizes[k].t.length->o.length+d+E<=1048576->F=((y[i].nd.sizes[k].t.drop j).map (·.v)).foldl Ul o ->
  At Z7 0 (Za ZQ G) ZV 2 56 [(3,.pv (slP o)),(4,.pv (enc y)),(5,.pv (.int .i64 i)),(6,.pv (.int .i64 k)),(7,.pv (.int .i64 j))] []:=by
 intro d
 induction d with
 | zero=>
  intro j o l ho a
  rw[List.drop_eq_nil_of_le (by omega)]at a
  have a:F=o:=a
  subst a
  exact f5m n ks y _ i k j b h (by omega) (g (by omega))
 | succ d ih=>
  intro j o l ho a
  have e:j<y[i].nd.sizes[k].t.length:=by omega
  rw[List.drop_eq_getElem_cons e,List.map_cons,List.foldl_cons]at a
  refine f4e n ks y o i k j b h e (by omega) ?_
  rw[next (by omega)]
  exact ih (j+1) _ (by omega) (by have:=a1o o y[i].nd.sizes[k].t[j].v;omega) a
theorem g7l{G:PV->Prop}(n:Nd)(ks:List Tm)(y:List Tm)(i E:Nat)(b:i<y.length)(hyl:y[i].nd.sizes.length<=1048576)(h : ∀ l∈y[i].nd.sizes,l.t.length<=1048576)(F:List Str)(g:F.length+E<=1048576->At Z7 0 (Za ZQ G) ZV 0 56 [(3,.pv (slP F)),(4,.pv (enc y)),(5,.pv (.int .i64 (IntKind.i64.wrap ((i:Int)+1))))] []): ∀ (d k:Nat) (o:List Str),d+k=y[i].nd.sizes.length->o.length+((y[i].nd.sizes.drop k).flatMap fun l=>l.t.map (·.v)).length+E<=1048576->F=((y[i].nd.sizes.drop k).flatMap fun l=>l.t.map (·.v)).foldl Ul o ->
  At Z7 0 (Za ZQ G) ZV 1 56 [(3,.pv (slP o)),(4,.pv (enc y)),(5,.pv (.int .i64 i)),(6,.pv (.int .i64 k))] []:=by
 intro d
 induction d with
 | zero=>
  intro k o m ho e
  rw[List.drop_eq_nil_of_le (by omega)]at e
  have e:F=o:=e
  subst e
  exact f1b n ks y _ i k b (ZU (Yv (by omega)) (g (by omega)))
 | succ d ih=>
  intro k o m ho e
  have a:k<y[i].nd.sizes.length:=by omega
  have j:=h _ (List.getElem_mem a)
  rw[List.drop_eq_getElem_cons a,List.flatMap_cons,List.foldl_append]at e
  rw[List.drop_eq_getElem_cons a,List.flatMap_cons,List.length_append,List.length_map]at ho
  refine f1b n ks y o i k b (ZT (Yq a) ?_)
  refine g8j n ks y i k (((y[i].nd.sizes.drop (k+1)).flatMap fun l=>l.t.map (·.v)).length+E) b a j _ (fun hb=> ?_) y[i].nd.sizes[k].t.length 0 o (by omega) (by omega) rfl
  rw[next (by omega)]
  exact ih (k+1) _ (by omega) (by rw[List.drop_zero]at hb ⊢;omega) (by rw[List.drop_zero];exact e)
theorem g7u(n:Nd)(ks:List Tm)(y:List Tm)(j : ∀ x∈y,tW x=true)(hyl:y.length<=1048576)(F:List Str): ∀ (d i:Nat) (o:List Str),d+i=y.length->o.length+((y.drop i).flatMap UY).length<=1048576->F=((y.drop i).flatMap UY).foldl Ul o ->
  At Z7 0 (Za ZQ (Zf F)) ZV 0 56 [(3,.pv (slP o)),(4,.pv (enc y)),(5,.pv (.int .i64 i))] []:=by
 intro d
 induction d with
 | zero=>
  intro i o h ho b
  rw[List.drop_eq_nil_of_le (by omega)]at b
  have b:F=o:=b
  subst b
  exact f1t n ks y _ i (ZU (Yv (by omega)) (d1x _))
 | succ d ih=>
  intro i o h ho b
  have a:i<y.length:=by omega
  have e:=j _ (List.getElem_mem a)
  have g:NdB y[i].nd 1048576:=by
   have h2:y[i] = .mk y[i].nd y[i].ks:=by cases y[i];rfl
   rw[h2]at e
   exact ndB e
  rw[List.drop_eq_getElem_cons a,List.flatMap_cons,List.foldl_append]at b
  rw[List.drop_eq_getElem_cons a,List.flatMap_cons,List.length_append]at ho
  refine f1t n ks y o i (ZT (Yq a) ?_)
  refine g7l n ks y i ((y.drop (i+1)).flatMap UY).length a g.sizes g.lens _ (fun hb=> ?_) y[i].nd.sizes.length 0 o (by omega) (by rw[List.drop_zero];unfold UY at ho ⊢;omega) rfl
  rw[next (by omega)]
  exact ih (i+1) _ (by omega) hb (by rw[List.drop_zero];exact b)
theorem c5t: ∀ x:Tm×Unit,tW x.1=true->Zd Z7 0 (Za ZQ (Zf (J4 x.1))) ZV [] (Zx d4d (encL x)):=by
 rintro⟨⟨n,ks⟩,⟨⟩⟩ h
 have h:tW (.mk n ks)=true:=h
 rw[<- ZP]
 show Zd Z7 0 (Za ZQ (Zf (J4 (.mk n ks)))) _ _ _
 have b:=Hz 1 (.mk n ks)
 have h6:J8 (.mk n ks)<=1048576:=of_decide_eq_true h
 have h7:=BB h
 have h8:=Bw (.mk n ks)
 have h9:((Xb (.mk n ks)).flatMap UY).length<=J8 (.mk n ks):=b
 refine e9b n ks ⟨Zc (.mk n ks,()) (ZP n ks) h,Zb (.mk n ks,()) (ZP n ks) ?_⟩
 exact g7u n ks (Xb (.mk n ks)) (fun x a=>b4w h a) (by omega) _ (Xb (.mk n ks)).length 0 [] (by omega) (by rw[List.drop_zero,List.length_nil];omega) (by rw[List.drop_zero];rfl)
theorem a2d(n:Nd)(ks:List Tm)(l:List Str)(hl:l.length<=9223372036854775806)(hs : ∀ s∈l,s.s.length<=1048576)(R:Bool): ∀ (d i:Nat),d+i=l.length->R=(l.drop i).all (fun s=>nameI s.s) ->
  At QI 0 (Za Uq (Zf R)) Qr 0 22 [(3,.pv (enc l)),(4,.pv (.int .i64 i))] []:=by
 intro d
 induction d with
 | zero=>
  intro i hi b
  rw[List.drop_eq_nil_of_le (by omega)]at b
  exact Mx n ks l i (ZU (XR (by omega)) (Zl b.symm))
 | succ d ih=>
  intro i hi b
  have a:i<l.length:=by omega
  rw[List.drop_eq_getElem_cons a,List.all_cons]at b
  refine Mx n ks l i (ZT (Xv a) ⟨Zp a rfl,ZB a (KZ (s:=l[i].s) (hs _ (List.getElem_mem a)) (YY (fun h=>Zl ?_) fun h=> ?_))⟩)
  ·have h:nameI l[i].s=false:=h
   rw[b,h];rfl
  ·have h:nameI l[i].s=true:=h
   rw[next (by omega)]
   exact ih (i+1) (by omega) (by rw[b,h];rfl)
theorem Mo: ∀ (l m:List Str),(l.foldl Ul m).length<=m.length+l.length
 | [],m=>by simp
 | s::l,m=>by
  have h:=Mo l (Ul m s)
  have h2:=a1o m s
  rw[List.foldl_cons,List.length_cons]
  omega
theorem b1g: ∀ x:Tm×Unit,tW x.1=true->Zd QI 0 (Za Uq (Zf (YK x.1))) Qr [] (Zx b9x (encL x)):=by
 rintro⟨⟨n,ks⟩,⟨⟩⟩ h
 have h:tW (.mk n ks)=true:=h
 rw[<- ZP]
 show Zd QI 0 (Za Uq (Zf (YK (.mk n ks)))) _ _ _
 have e:YK (.mk n ks)=(Y6 (.mk n ks)&&(J4 (.mk n ks)).all fun s=>nameI s.s):=by unfold YK;rw[c2g]
 have hl:(J4 (.mk n ks)).length<=1048576:=by
  have g:=Hz 1 (.mk n ks)
  have h6:J8 (.mk n ks)<=1048576:=of_decide_eq_true h
  have h9:((Xb (.mk n ks)).flatMap UY).length<=J8 (.mk n ks):=g
  have b:=Mo ((Xb (.mk n ks)).flatMap UY) []
  unfold J4
  rw[List.length_nil]at b
  omega
 refine c6h n ks ⟨Zc (.mk n ks,()) (ZP n ks) h,Zb (.mk n ks,()) (ZP n ks) (YY (fun a=>Zl ?_) fun a=>⟨Zc (.mk n ks,()) (ZP n ks) h,Zb (.mk n ks,()) (ZP n ks) ?_⟩)⟩
 ·have a:Y6 (.mk n ks)=false:=a
  rw[e,a];rfl
 ·have a:Y6 (.mk n ks)=true:=a
  exact a2d n ks (J4 (.mk n ks)) (by omega) (fun s hs=>Hg h s ((Sr _ _).1 hs)) _ (J4 (.mk n ks)).length 0 (by omega) (by rw[e,a,List.drop_zero,Bool.true_and])
end Go.Pl
namespace Go.Pl
open Go.RowKit
open Enc (enc dec is)
open EncL (encL decL isL)
set_option maxRecDepth 100000
abbrev c6p(N:Nat)(ps:List PV)(k:Str->Prop):Prop:=Ym (fun(x:Int×Unit)=>decide ((-1000000000:Int)<=Prod.fst x)&&decide (Prod.fst x<=1000000000)&&decide (Ao (Prod.fst x)<N)) (fun(x:Int×Unit)=>Zq (Prod.fst x)) ps k
abbrev g2u(ps:List PV)(k:Bool->Prop):Prop:=Ym (fun(x:Lin×Unit)=>XK (Prod.fst x)) (fun(x:Lin×Unit)=>Zh (Prod.fst x)) ps k
abbrev Mm(ps:List PV)(k:Str->Prop):Prop:=Ym (fun(x:Int×Unit)=>decide ((-1000000000:Int)<=Prod.fst x)&&decide (Prod.fst x<=1000000000)) (fun(x:Int×Unit)=>Zq (Prod.fst x)) ps k
noncomputable def a4k:IC:=YI Proofs.Tryz.f113
def a0d:List IRes:=[(.tmp 2)]
abbrev d6h:Nat:=22
def b5n(N:Nat):ZC:=Yh [(113,.pure (preT (fun x:Int×Unit=>(decide (-1000000000<=x.1)&&decide (x.1<=1000000000))&&decide (Ao x.1<N))) (Zi (fun x:Int×Unit=>Zq x.1)))]
theorem f0k{G:PV->Prop}(N:Nat)(n:Int)(h:if (decide (n<0))=true then(c6p N [(.int .i64 (IntKind.wrap IntKind.i64 (-n)))] fun b=>(Zz [(45:UInt8)] (Str.s b)∧(G ((.str ([(45:UInt8)]++Str.s b))))))else(if (decide (n<10))=true then(decide (0<=n)&&decide (0<=IntKind.wrap IntKind.i64 (n+1))&&decide (Int.toNat n<=Int.toNat (IntKind.wrap IntKind.i64 (n+1)))&&decide (Int.toNat (IntKind.wrap IntKind.i64 (n+1))<=List.length [(48:UInt8),(49:UInt8),(50:UInt8),(51:UInt8),(52:UInt8),(53:UInt8),(54:UInt8),(55:UInt8),(56:UInt8),(57:UInt8)]))=true∧(G ((.str (List.drop (Int.toNat n) (List.take (Int.toNat (IntKind.wrap IntKind.i64 (n+1))) [(48:UInt8),(49:UInt8),(50:UInt8),(51:UInt8),(52:UInt8),(53:UInt8),(54:UInt8),(55:UInt8),(56:UInt8),(57:UInt8)])))))else((c6p N [(.int .i64 (IntKind.wrap IntKind.i64 (Int.tdiv n 10)))] fun e=>((c6p N [(.int .i64 (Int.tmod n 10))] fun a=>(Zz (Str.s e) (Str.s a)∧(G ((.str (Str.s e++Str.s a))))))))))):Zd (b5n N) 0 (Za a0d G) a4k [] (Zx 22 [enc n]):=Zd.tp (dm [dv Str] 26 0x151251201200342015100442) h
noncomputable def XF:IC:=YI Proofs.Tryz.f79
def XB:List IRes:=[(.tmp 2)]
abbrev c4e:Nat:=69
def Wp:ZC:=Yh [(112,.pure (preT (fun x:Lin×Unit=>XK x.1)) (Zi (fun x:Lin×Unit=>Zh x.1))),(113,.pure (preT (fun x:Int×Unit=>decide (-1000000000<=x.1)&&decide (x.1<=1000000000))) (Zi (fun x:Int×Unit=>Zq x.1)))]
theorem d7f{G:PV->Prop}(l:Lin)(h:(g2u [(.agg [(.int .i64 l.k),(.sl 2 false (List.map enc l.t))])] fun a=>(if (!a)=true then G ((.str []))else(At Wp 0 (Za XB G) XF 0 69 [(1,(.ptr 0 0)),(3,(.pv (.str []))),(4,(.pv (.int .i64 0)))] [(.obj (.box [(.pv (.int .i64 l.k)),(.pv (.sl 2 false (List.map enc l.t)))]))])))):Zd Wp 0 (Za XB G) XF [] (Zx 69 [enc l]):=Zd.tp (dm [dv Bool] 9 0x1451) h
theorem Mr{G:PV->Prop}(l:Lin)(o:List UInt8)(i:Int)(h:if (decide (i<(↑(List.length (List.map enc l.t)):Int)))=true then(Y1 l.t i 2 fun a=>(if (decide (PV.asInt (Tv a)<0))=true then Zz o [(45:UInt8)]∧(if (decide (IntKind.wrap IntKind.i64 (-PV.asInt (Tv a))>1))=true then(Mm [(.int .i64 (IntKind.wrap IntKind.i64 (-PV.asInt (Tv a))))] fun g=>(Zz (o++[(45:UInt8)]) (Str.s g)∧(Zz (o++[(45:UInt8)]++Str.s g) (PV.asStr (Vy a))∧(At Wp 0 (Za XB G) XF 0 69 [(1,(.ptr 0 0)),(3,(.pv (.str (o++[(45:UInt8)]++Str.s g++PV.asStr (Vy a))))),(4,(.pv (.int .i64 (IntKind.wrap IntKind.i64 (i+1)))))] [(.obj (.box [(.pv (.int .i64 l.k)),(.pv (.sl 2 false (List.map enc l.t)))]))]))))else(Zz (o++[(45:UInt8)]) (PV.asStr (Vy a))∧(At Wp 0 (Za XB G) XF 0 69 [(1,(.ptr 0 0)),(3,(.pv (.str (o++[(45:UInt8)]++PV.asStr (Vy a))))),(4,(.pv (.int .i64 (IntKind.wrap IntKind.i64 (i+1)))))] [(.obj (.box [(.pv (.int .i64 l.k)),(.pv (.sl 2 false (List.map enc l.t)))]))])))else(if (decide (i>0))=true then Zz o [(43:UInt8)]∧(if (decide (PV.asInt (Tv a)>1))=true then(Mm [(.int .i64 (PV.asInt (Tv a)))] fun b=>(Zz (o++[(43:UInt8)]) (Str.s b)∧(Zz (o++[(43:UInt8)]++Str.s b) (PV.asStr (Vy a))∧(At Wp 0 (Za XB G) XF 0 69 [(1,(.ptr 0 0)),(3,(.pv (.str (o++[(43:UInt8)]++Str.s b++PV.asStr (Vy a))))),(4,(.pv (.int .i64 (IntKind.wrap IntKind.i64 (i+1)))))] [(.obj (.box [(.pv (.int .i64 l.k)),(.pv (.sl 2 false (List.map enc l.t)))]))]))))else(Zz (o++[(43:UInt8)]) (PV.asStr (Vy a))∧(At Wp 0 (Za XB G) XF 0 69 [(1,(.ptr 0 0)),(3,(.pv (.str (o++[(43:UInt8)]++PV.asStr (Vy a))))),(4,(.pv (.int .i64 (IntKind.wrap IntKind.i64 (i+1)))))] [(.obj (.box [(.pv (.int .i64 l.k)),(.pv (.sl 2 false (List.map enc l.t)))]))])))else(if (decide (PV.asInt (Tv a)>1))=true then(Mm [(.int .i64 (PV.asInt (Tv a)))] fun e=>(Zz o (Str.s e)∧(Zz (o++Str.s e) (PV.asStr (Vy a))∧(At Wp 0 (Za XB G) XF 0 69 [(1,(.ptr 0 0)),(3,(.pv (.str (o++Str.s e++PV.asStr (Vy a))))),(4,(.pv (.int .i64 (IntKind.wrap IntKind.i64 (i+1)))))] [(.obj (.box [(.pv (.int .i64 l.k)),(.pv (.sl 2 false (List.map enc l.t)))]))]))))else(Zz o (PV.asStr (Vy a))∧(At Wp 0 (Za XB G) XF 0 69 [(1,(.ptr 0 0)),(3,(.pv (.str (o++PV.asStr (Vy a))))),(4,(.pv (.int .i64 (IntKind.wrap IntKind.i64 (i+1)))))] [(.obj (.box [(.pv (.int .i64 l.k)),(.pv (.sl 2 false (List.map enc l.t)))]))]))))))else(if ((↑(List.length (List.map enc l.t)):Int)==0)=true then(Mm [(.int .i64 l.k)] fun q=>(G ((.str (Str.s q)))))else(if (decide (l.k>0))=true then Zz o [(43:UInt8)]∧(if (l.k != 0)=true then(Mm [(.int .i64 l.k)] fun m=>(Zz (o++[(43:UInt8)]) (Str.s m)∧(G ((.str (o++[(43:UInt8)]++Str.s m))))))else(G ((.str (o++[(43:UInt8)])))))else(if (l.k != 0)=true then(Mm [(.int .i64 l.k)] fun j=>(Zz o (Str.s j)∧(G ((.str (o++Str.s j))))))else(G ((.str o))))))):At Wp 0 (Za XB G) XF 0 69 [(1,.ptr 0 0),(3,.pv (.str o)),(4,.pv (.int .i64 i))] [.obj (.box [.pv (.int .i64 l.k),.pv (enc l.t)])]:=At.tp (dm [dr Coef,dv Str] 97 0x161004420016100442100b42061003420210211610064202102116100642100f4202102116100642100f4225103942) h
end Go.Pl
namespace Go.Pl
open Go.RowKit
open Enc (enc dec is)
open EncL (encL decL isL)
theorem H7{n:Int}(h:n.natAbs<=1000000000):(Zq n).s.length<=11:=by
 have:=Rm 9 n.natAbs (by omega)
 by_cases hn:n<0
 ·rw[Vi hn,List.length_cons];omega
 ·rw[YF hn];omega
theorem c7k{m:Nat}(h:m<10):List.drop m (List.take (m+1) [(48:UInt8),(49:UInt8),(50:UInt8),(51:UInt8),(52:UInt8),(53:UInt8),(54:UInt8),(55:UInt8),(56:UInt8),(57:UInt8)])=[UInt8.ofNat (48+m)]:=by
 revert h
 revert m
 decide
theorem c2d(N:Nat): ∀ a:Int×Unit,((decide ((-1000000000:Int)<=a.1)&&decide (a.1<=1000000000))&&decide (Ao a.1<N+1))=true->Zd (b5n N) 0 (Za a0d (Zf (Zq a.1))) a4k [] (Zx d6h (encL a)):=by
 rintro⟨n,⟨⟩⟩ h
 simp only[Bool.and_eq_true,decide_eq_true_eq]at h
 obtain⟨⟨h1,h2⟩,h3⟩:=h
 unfold Ao at h3
 have e : ∀ k:Int,-1000000000<=k->k<=1000000000->Ao k<N->Go.Pl.preT (fun(x:Int×Unit)=>decide ((-1000000000:Int)<=Prod.fst x)&&decide (Prod.fst x<=1000000000)&&decide (Ao (Prod.fst x)<N)) [(.int .i64 k)]=true:=fun k a b c=>Zc (k,()) rfl (by rw[decide_eq_true a,decide_eq_true b,decide_eq_true c];rfl)
 refine f0k N n (ZO (fun hn=> ?_) fun hn=>ZO (fun i=> ?_) fun i=> ?_)
 ·rw[Vu (by omega) (by omega)]
  refine⟨e _ (by omega) (by omega) (by unfold Ao;rw[if_pos hn]at h3;rw[if_neg (by omega)];omega),Zb (-n,()) rfl ⟨?_,?_⟩⟩
  ·have:=H7 (n:= -n) (by omega)
   exact decide_eq_true (by simp only[List.length_singleton];omega)
  ·refine Zg (x:=(⟨[(45:UInt8)]++(Zq (-n)).s⟩:Str)) ?_
   show(⟨[(45:UInt8)]++(Zq (-n)).s⟩:Str)=⟨(Zq n).s⟩
   rw[YF (n:= -n) (by omega),Vi hn,Int.natAbs_neg];rfl
 ·obtain⟨m,rfl⟩ : ∃ m:Nat,n=m:=⟨n.toNat,by omega⟩
  have hm:m<10:=by omega
  rw[Vu (by omega) (by omega)]
  have g:((m:Int)+1).toNat=m+1:=by omega
  refine⟨?_,?_⟩
  ·rw[g,Int.toNat_natCast,decide_eq_true (show(0:Int)<=m by omega),decide_eq_true (show(0:Int)<=(m:Int)+1 by omega),decide_eq_true (show m<=m+1 by omega)]
   exact decide_eq_true (by simp only[List.length_cons,List.length_nil];omega)
  ·rw[g,Int.toNat_natCast,c7k hm]
   refine Zg (x:=(⟨[UInt8.ofNat (48+m)]⟩:Str)) ?_
   show(⟨[UInt8.ofNat (48+m)]⟩:Str)=⟨(Zq (m:Int)).s⟩
   rw[YF (by omega),Int.natAbs_natCast,XA hm]
 ·obtain⟨m,rfl⟩ : ∃ m:Nat,n=m:=⟨n.toNat,by omega⟩
  have g:Int.tdiv (m:Int) 10=((m / 10:Nat):Int):=by rw[Int.tdiv_eq_ediv_of_nonneg (by omega)];omega
  have l:Int.tmod (m:Int) 10=((m % 10:Nat):Int):=by rw[Int.tmod_eq_emod_of_nonneg (by omega)];omega
  rw[g,l,Vu (by omega) (by omega)]
  rw[if_neg (by omega)]at h3
  have q:Ao ((m / 10:Nat):Int)<N:=by unfold Ao;rw[if_neg (by omega)];omega
  have j:Ao ((m % 10:Nat):Int)<N:=by unfold Ao;rw[if_neg (by omega)];omega
  have l1:=H7 (n:=((m / 10:Nat):Int)) (by omega)
  have l2:=H7 (n:=((m % 10:Nat):Int)) (by omega)
  refine⟨e _ (by omega) (by omega) q,Zb (((m / 10:Nat):Int),()) rfl ⟨e _ (by omega) (by omega) j,Zb (((m % 10:Nat):Int),()) rfl ⟨decide_eq_true (by dsimp only;omega),?_⟩⟩⟩
  refine Zg (x:=(⟨(Zq ((m / 10:Nat):Int)).s++(Zq ((m % 10:Nat):Int)).s⟩:Str)) ?_
  show(⟨(Zq ((m / 10:Nat):Int)).s++(Zq ((m % 10:Nat):Int)).s⟩:Str)=⟨(Zq (m:Int)).s⟩
  rw[YF (by omega),YF (by omega),YF (by omega),Int.natAbs_natCast,Int.natAbs_natCast,Int.natAbs_natCast,C9 (u:=m) (by omega),XA (u:=m % 10) (by omega)]
theorem c4a{o s:List UInt8}{n:Int}(hs:s≠[])(hn:n≠0)(h1:n.natAbs<=1000000)(h2:s.length<=30):(XT o n s).length<=o.length+40:=by
 have:=PO (v:=s) h1 h2
 rw[Rb hs hn,List.length_append,List.length_append]
 have:(if n<0 then [45]else if o=[]then []else [43]:List UInt8).length<=1:=by split;exact Nat.le_refl _;split <;> simp
 omega
theorem a6q(l:Lin)(C:Zh l=true): ∀ (d i:Nat) (o:List UInt8),d+i=l.t.length->o=AZ (l.t.take i)->o.length<=40*i->(o=[] ↔ i=0) ->
  At Wp 0 (Za XB (Zf (⟨ZE l⟩:Str))) XF 0 69 [(1,.ptr 0 0),(3,.pv (.str o)),(4,.pv (.int .i64 i))] [.obj (.box [.pv (.int .i64 l.k),.pv (enc l.t)])]:=by
 have hk:=Oz C
 have hlen:=Uj C
 intro d
 induction d with
 | zero=>
  intro i o hi ho I y
  have hi:i=l.t.length:=by omega
  rw[List.take_of_length_le (by omega)]at ho
  have g : ∀ k:Int,k=l.k->Go.Pl.preT (fun(x:Int×Unit)=>decide ((-1000000000:Int)<=Prod.fst x)&&decide (Prod.fst x<=1000000000)) [(.int .i64 k)]=true:=fun k e=>Zc (k,()) rfl (by rw[decide_eq_true (show(-1000000000:Int)<=k by omega),decide_eq_true (show k<=1000000000 by omega)];rfl)
  have q:=H7 (n:=l.k) (by omega)
  have z:ZE l=if decide (l.k≠0)||decide (o=[])then XT o l.k []else o:=by
   unfold ZE
   rw[if_pos C,<- ho]
  refine Mr l o i (ZU (XR (by omega)) (Cc (fun u=> ?_) fun u=> ?_))
  ·have u:i=0:=by
    simp only[List.length_map,beq_iff_eq]at u
    omega
   have a:=y.2 u
   refine⟨g _ rfl,Zb (l.k,()) rfl (Zg (x:=Zq l.k) ?_)⟩
   show(⟨(Zq l.k).s⟩:Str)=⟨ZE l⟩
   rw[z,decide_eq_true a,Bool.or_true,if_pos rfl,a]
   congr 1
   unfold XT
   rw[decide_eq_false (show ¬ ([]:List UInt8)≠[] by simp),Bool.and_false,Bool.false_and,if_neg (by simp),if_neg (by simp)]
   simp
  ·have r:i≠0:=by
    simp only[List.length_map,beq_iff_eq]at u
    omega
   have a:o≠[]:=fun e=>r (y.1 e)
   rw[decide_eq_false a,Bool.or_false]at z
   have hlo:o.length<=40*12:=by omega
   refine ZO (fun H=>⟨decide_eq_true (by simp only[List.length_singleton];omega),Cc (fun hn=> ?_) fun hn=> ?_⟩) fun H=>Cc (fun hn=> ?_) fun hn=> ?_
   ·refine⟨g _ rfl,Zb (l.k,()) rfl ⟨decide_eq_true (by simp only[List.length_append,List.length_singleton];omega),?_⟩⟩
    refine Zg (x:=(⟨o++[(43:UInt8)]++(Zq l.k).s⟩:Str)) ?_
    rw[z,decide_eq_true (by omega),if_pos rfl,FJ,if_neg (by omega),if_neg a,YF (by omega)]
    unfold WA
    rw[if_pos rfl];simp
   ·have hz0:l.k=0:=by simpa using hn
    exact absurd H (by omega)
   ·have hn:l.k≠0:=by simpa using hn
    refine⟨g _ rfl,Zb (l.k,()) rfl ⟨decide_eq_true (by dsimp only;omega),?_⟩⟩
    refine Zg (x:=(⟨o++(Zq l.k).s⟩:Str)) ?_
    rw[z,decide_eq_true hn,if_pos rfl,FJ,if_pos (by omega),Vi (by omega)]
    unfold WA
    rw[if_pos rfl];simp
   ·have hn:l.k=0:=by simpa using hn
    refine Zg (x:=(⟨o⟩:Str)) ?_
    rw[z,decide_eq_false (by simpa using hn),if_neg (by simp)]
 | succ d ih=>
  intro i o hi ho I y
  have m:i<l.t.length:=by omega
  have hm:=List.getElem_mem m
  obtain⟨F,E,v3,v4⟩:=WK C hm
  have hs:=(a6m C _ hm).2
  have B:l.t[i].v.s.length<=30:=Vg F
  have hpl:=c4a (o:=o) hs E (by omega) B
  have b:=Rb (o:=o) hs E
  have j : ∀ o',o'=XT o l.t[i].c l.t[i].v.s->At Wp 0 (Za XB (Zf (⟨ZE l⟩:Str))) XF 0 69 [(1,.ptr 0 0),(3,.pv (.str o')),(4,.pv (.int .i64 (IntKind.i64.wrap ((i:Int)+1))))] [.obj (.box [.pv (.int .i64 l.k),.pv (enc l.t)])]:=by
   intro o' e
   rw[next (by omega)]
   refine ih (i+1) o' (by omega) ?_ (by rw[e];omega) ⟨fun h=> ?_,fun h=>by omega⟩
   ·rw[e,ho,List.take_succ_eq_append_getElem m]
    unfold AZ
    rw[List.foldl_append];rfl
   ·rw[e,b]at h
    exact absurd (List.append_eq_nil_iff.1 (List.append_eq_nil_iff.1 h).2).2 (Eo (.inr F))
  have hcn:=PO (v:=l.t[i].v.s) (n:=l.t[i].c.natAbs) (by omega) B
  have g : ∀ k:Int,k.natAbs<=1000000->Go.Pl.preT (fun(x:Int×Unit)=>decide ((-1000000000:Int)<=Prod.fst x)&&decide (Prod.fst x<=1000000000)) [(.int .i64 k)]=true:=fun k e=>Zc (k,()) rfl (by rw[decide_eq_true (show(-1000000000:Int)<=k by omega),decide_eq_true (show k<=1000000000 by omega)];rfl)
  have q : ∀ k:Int,k.natAbs<=1000000->(Zq k).s.length<=11:=fun k e=>H7 (by omega)
  refine Mr l o i (ZT (Xv m) ⟨Zp m rfl,ZB m ?_⟩)
  refine ZO (fun hn=> ?_) fun hn=> ?_
  ·have hn:l.t[i].c<0:=hn
   have D:IntKind.i64.wrap (-l.t[i].c) = -l.t[i].c:=Vu (by omega) (by omega)
   refine⟨decide_eq_true (by simp only[List.length_singleton];omega),?_⟩
   show if decide (IntKind.i64.wrap (-l.t[i].c)>1)=true then _ else _
   refine ZO (fun h1=> ?_) fun h1=> ?_
   ·rw[D]at h1
    show Go.Pl.preT _ [(.int .i64 (IntKind.i64.wrap (-l.t[i].c)))]=true∧(∃ J:Str,AV.pv (Zi _ [(.int .i64 (IntKind.i64.wrap (-l.t[i].c)))])=AV.pv (enc J)∧_)
    rw[D]
    have A:=q (-l.t[i].c) (by omega)
    refine⟨g _ (by omega),Zb (-l.t[i].c,()) rfl ⟨decide_eq_true (by simp only[List.length_append,List.length_singleton];omega),decide_eq_true ?_,j _ ?_⟩⟩
    ·show(o++[(45:UInt8)]++(Zq (-l.t[i].c)).s).length+l.t[i].v.s.length<=_
     simp only[List.length_append,List.length_singleton];omega
    ·show o++[(45:UInt8)]++(Zq (-l.t[i].c)).s++l.t[i].v.s=_
     rw[b,if_pos hn,YF (by omega),Int.natAbs_neg]
     unfold WA
     rw[if_neg hs,if_pos (by omega)];simp
   ·rw[D]at h1
    refine⟨decide_eq_true ?_,j _ ?_⟩
    ·show(o++[(45:UInt8)]).length+l.t[i].v.s.length<=_
     simp only[List.length_append,List.length_singleton];omega
    ·show o++[(45:UInt8)]++l.t[i].v.s=_
     rw[b,if_pos hn]
     unfold WA
     rw[if_neg hs,if_neg (by omega)];simp
  ·have hn : ¬ l.t[i].c<0:=hn
   refine ZO (fun r=>⟨decide_eq_true (by simp only[List.length_singleton];omega),?_⟩) fun r=> ?_
   ·have a:o≠[]:=fun e=>by have:=y.1 e;omega
    show if decide (l.t[i].c>1)=true then _ else _
    refine ZO (fun h1=> ?_) fun h1=> ?_
    ·have A:=q l.t[i].c (by omega)
     refine⟨g l.t[i].c (by omega),Zb (l.t[i].c,()) rfl ⟨decide_eq_true (by simp only[List.length_append,List.length_singleton];omega),decide_eq_true ?_,j _ ?_⟩⟩
     ·show(o++[(43:UInt8)]++(Zq l.t[i].c).s).length+l.t[i].v.s.length<=_
      simp only[List.length_append,List.length_singleton];omega
     ·show o++[(43:UInt8)]++(Zq l.t[i].c).s++l.t[i].v.s=_
      rw[b,if_neg hn,if_neg a,YF (by omega)]
      unfold WA
      rw[if_neg hs,if_pos (by omega)];simp
    ·refine⟨decide_eq_true ?_,j _ ?_⟩
     ·show(o++[(43:UInt8)]).length+l.t[i].v.s.length<=_
      simp only[List.length_append,List.length_singleton];omega
     ·show o++[(43:UInt8)]++l.t[i].v.s=_
      rw[b,if_neg hn,if_neg a]
      unfold WA
      rw[if_neg hs,if_neg (by omega)];simp
   ·have a:o=[]:=y.2 (by omega)
    show if decide (l.t[i].c>1)=true then _ else _
    refine ZO (fun h1=> ?_) fun h1=> ?_
    ·have A:=q l.t[i].c (by omega)
     refine⟨g l.t[i].c (by omega),Zb (l.t[i].c,()) rfl ⟨decide_eq_true (by dsimp only;omega),decide_eq_true ?_,j _ ?_⟩⟩
     ·show(o++(Zq l.t[i].c).s).length+l.t[i].v.s.length<=_
      simp only[List.length_append];omega
     ·show o++(Zq l.t[i].c).s++l.t[i].v.s=_
      rw[b,if_neg hn,if_pos a,YF (by omega)]
      unfold WA
      rw[if_neg hs,if_pos (by omega)];simp
    ·refine⟨decide_eq_true ?_,j _ ?_⟩
     ·show o.length+l.t[i].v.s.length<=_
      omega
     ·show o++l.t[i].v.s=_
      rw[b,if_neg hn,if_pos a]
      unfold WA
      rw[if_neg hs,if_neg (by omega)];simp
theorem b0t: ∀ x:Lin×Unit,Wn x.1=true->Zd Wp 0 (Za XB (Zf (⟨ZE x.1⟩:Str))) XF [] (Zx c4e (encL x)):=by
 rintro⟨l,⟨⟩⟩ h
 have b:XK l=true:=by
  unfold Wn at h
  rw[Bool.and_eq_true]at h;exact h.1
 refine d7f l ⟨Zc (l,()) rfl b,Zb (l,()) rfl (YY (fun a=> ?_) fun a=> ?_)⟩
 ·refine Zg (x:=(⟨[]⟩:Str)) ?_
  have a:Zh l=false:=a
  show(⟨[]⟩:Str)=⟨ZE l⟩
  unfold ZE
  rw[if_neg (by simp[a])]
 ·exact a6q l a l.t.length 0 [] rfl rfl (by simp) (by simp)
end Go.Pl
namespace Go.Pl
open Go.RowKit
open Enc (enc dec is)
def a3z(t:TyS):List AV:=[.pv (.str t.elem.s),.pv (.str t.row.s),.pv (.sl 2 false (t.dims.map enc))]
def Ee(d:Df):List AV:=[.pv (.str d.name.s),.pv (.int .i64 d.line),.pv (.sl 5 false (d.ps.map enc)),.pv (.bool d.given),.pv (.str d.res.elem.s),.pv (.str d.res.row.s),.pv (.sl 2 false (d.res.dims.map enc)),.pv (.int .i64 d.n.kind),.pv (.int .i64 d.n.line),.pv (.str d.n.name.s),.pv (.int .i64 d.n.num),.pv (.str d.n.elem.s),.pv (.sl 1 false (d.n.dims.map enc)),.pv (.sl 1 false (d.n.data.map enc)),.pv (.sl 2 false (d.n.sizes.map enc)),.pv (.sl 1 false (d.n.ranks.map enc)),.pv (.sl 10 false (d.ks.map enc))]
def Di(m:Mdu):List AV:=[.pv (.str m.name.s),.pv (.sl 1 false (m.im.map enc)),.pv (.sl 1 false (m.ex.map enc)),.pv (.sl 17 false (m.ds.map enc))]
def bdA(n:Nd)(ks:List Tm)(m:Int):List PV:=[.agg [.int .i64 n.kind,.int .i64 n.line,.str n.name.s,.int .i64 n.num,.str n.elem.s,.sl 1 false (n.dims.map enc),.sl 1 false (n.data.map enc),.sl 2 false (n.sizes.map enc),.sl 1 false (n.ranks.map enc),.sl 10 false (ks.map enc)],.int .i64 m]
theorem d2g(d:Df)(m:Int):bdA d.n d.ks m=EncL.encL (d.body,m,()):=by
 show _=[enc (Tm.mk d.n d.ks),enc m]
 rw[Yl]
 rfl
end Go.Pl
namespace Go.Pl
open Go.RowKit
open Enc (enc dec is)
open EncL (encL decL isL)
set_option maxRecDepth 100000
abbrev g6f(ps:List PV)(k:Bool->Prop):Prop:=Ym (fun(x:Str×Unit)=>decide (List.length (Str.s (Prod.fst x))<=1048576)) (fun(x:Str×Unit)=>evB (Str.s (Prod.fst x))) ps k
abbrev g3o(ps:List PV)(k:Bool->Prop):Prop:=Ym (fun(x:Lin×Unit)=>XK (Prod.fst x)) (fun(x:Lin×Unit)=>Zh (Prod.fst x)) ps k
abbrev g3a(ps:List PV)(k:Bool->Prop):Prop:=ceP (fun(x:Str×Unit)=>nameB (Prod.fst x)) ps k
abbrev f2j(ps:List PV)(k:Bool->Prop):Prop:=Ym (fun(x:Sp×Unit)=>Nw (Prod.fst x)) (fun(x:Sp×Unit)=>KI (Sp.row (Prod.fst x)) (Sp.dims (Prod.fst x))) ps k
abbrev f1z(ps:List PV)(k:Str->Prop):Prop:=Ym (fun(x:Lin×Unit)=>Wn (Prod.fst x)) (fun(x:Lin×Unit)=>Str.mk (ZE (Prod.fst x))) ps k
abbrev g1t(ps:List PV)(k:Bool->Prop):Prop:=Ym (fun(x:Str×Unit)=>decide (List.length (Str.s (Prod.fst x))<=1048576)) (fun(x:Str×Unit)=>MW (Str.s (Prod.fst x))) ps k
abbrev f2s(ps:List PV)(k:Bool->Prop):Prop:=Ym (fun(x:TyS×Unit)=>yW (Prod.fst x)) (fun(x:TyS×Unit)=>Q5 (Prod.fst x)) ps k
abbrev g3e(ps:List PV)(k:Str×Int->Prop):Prop:=Ym (fun(x:Sp×Unit)=>Nw (Prod.fst x)) (fun(x:Sp×Unit)=>Nv (Sp.row (Prod.fst x)) (Sp.dims (Prod.fst x))) ps k
abbrev Ro(ps:List PV)(k:Bool->Prop):Prop:=Ym (fun(x:Str×Unit)=>decide (List.length (Str.s (Prod.fst x))<=1048576)) (fun(x:Str×Unit)=>nameI (Str.s (Prod.fst x))) ps k
abbrev g6j(ps:List PV)(k:Bool->Prop):Prop:=Ym (fun(x:TyS×Unit)=>yW (Prod.fst x)) (fun(x:TyS×Unit)=>Y5 (Prod.fst x)) ps k
abbrev d7i(ps:List PV)(k:Bool->Prop):Prop:=Ym (fun(x:Bool×TyS×Unit)=>yW (Prod.fst (Prod.snd x))) (fun(x:Bool×TyS×Unit)=>Yz (Prod.fst x) (Prod.fst (Prod.snd x))) ps k
abbrev f4v(ps:List PV)(k:Bool->Prop):Prop:=Ym (fun(x:Tm×Unit)=>tW (Prod.fst x)) (fun(x:Tm×Unit)=>YK (Prod.fst x)) ps k
abbrev f4f(ps:List PV)(k:Str×Int->Prop):Prop:=Ym (fun(x:TyS×Unit)=>yW (Prod.fst x)) (fun(x:TyS×Unit)=>Jc (Prod.fst x)) ps k
abbrev b3d(ps:List PV)(k:Str->Prop):Prop:=Ym (fun(x:TyS×Unit)=>yW (Prod.fst x)) (fun(x:TyS×Unit)=>Prod.fst (Jc (Prod.fst x))) ps k
abbrev e0q(ps:List PV)(k:Str->Prop):Prop:=Ym (fun(x:Tm×Unit)=>tW (Prod.fst x)&&Ya (Prod.fst x)) (fun(x:Tm×Unit)=>Zt (Prod.fst x)) ps k
abbrev d6u(ps:List PV)(k:Bool->Prop):Prop:=Ym (fun(x:Df×Unit)=>dW (Prod.fst x)) (fun(x:Df×Unit)=>ZK (Prod.fst x)) ps k
abbrev d0q(ps:List PV)(k:Str->Prop):Prop:=Ym (fun(x:Df×Unit)=>dW (Prod.fst x)&&ZK (Prod.fst x)) (fun(x:Df×Unit)=>UO (Prod.fst x)) ps k
abbrev c9u(ps:List PV)(k:Bool->Prop):Prop:=Ym (fun(x:List Str×Unit)=>Xi (Prod.fst x)) (fun(x:List Str×Unit)=>List.all (Prod.fst x) fun(s:Str)=>nameI (Str.s s)) ps k
abbrev d1n(ps:List PV)(k:Str->Prop):Prop:=Ym (fun(x:Str×List Str×Unit)=>decide (List.length (Str.s (Prod.fst x))<=30)&&decide (Str.s (Prod.fst x)≠[])&&decide (List.length (Prod.fst (Prod.snd x))<=60)&&List.all (Prod.fst (Prod.snd x)) fun(s:Str)=>nameI (Str.s s)) (fun(x:Str×List Str×Unit)=>Str.mk (Qh (Kv (Str.s (Prod.fst x)) (Prod.fst (Prod.snd x))))) ps k
abbrev f9q(ps:List PV)(k:Bool->Prop):Prop:=Ym (fun(x:Tm×Int×Unit)=>tW (Prod.fst x)) (fun(x:Tm×Int×Unit)=>K5 (Prod.fst x) (Prod.fst (Prod.snd x))) ps k
abbrev f3l(ps:List PV)(k:Bool->Prop):Prop:=Ym (fun(x:Mdu×Unit)=>mW (Prod.fst x)) (fun(x:Mdu×Unit)=>MG (Prod.fst x)) ps k
abbrev c6m(ps:List PV)(k:Str×Int->Prop):Prop:=Ym (fun(x:Mdu×Unit)=>mW (Prod.fst x)) (fun(x:Mdu×Unit)=>Jo (Prod.fst x)) ps k
abbrev d4m(ps:List PV)(k:Str×Int->Prop):Prop:=Ym (fun(x:Df×Unit)=>dW (Prod.fst x)) (fun(x:Df×Unit)=>Cf (Prod.fst x)) ps k
noncomputable def QH:IC:=YI Proofs.Tryz.f161
def Qz:List IRes:=[(.tmp 2)]
abbrev d9i:Nat:=38
def JD:ZC:=Yh []
theorem b9f{G:PV->Prop}(s:List UInt8)(h:At JD 0 (Za Qz G) QH 0 38 [(0,(.pv (.str s))),(3,(.pv (.int .i64 1)))] []):Zd JD 0 (Za Qz G) QH [] (Zx 38 [.str s]):=Zd.tp (.nil) h
theorem Pz{G:PV->Prop}(s:List UInt8)(i:Int)(h:if (decide (i<(↑(List.length s):Int)))=true then(decide (0<=i)&&decide (Int.toNat i<List.length s))=true∧(if (decide ((↑(UInt8.toNat (List.getD s (Int.toNat i) (0:UInt8))):Int)<48))=true then G ((.bool false))else((decide (0<=i)&&decide (Int.toNat i<List.length s))=true∧(if (decide ((↑(UInt8.toNat (List.getD s (Int.toNat i) (0:UInt8))):Int)>57))=true then G ((.bool false))else(At JD 0 (Za Qz G) QH 0 38 [(0,(.pv (.str s))),(3,(.pv (.int .i64 (IntKind.wrap IntKind.i64 (i+1)))))] []))))else(if (decide ((↑(List.length s):Int) ≥ 1))=true then if (decide ((↑(List.length s):Int)<=30))=true then(decide (0<=0)&&decide (Int.toNat 0<List.length s))=true∧(if (decide ((↑(UInt8.toNat (List.getD s (Int.toNat 0) (0:UInt8))):Int) ≥ 65))=true then(decide (0<=0)&&decide (Int.toNat 0<List.length s))=true∧(G ((.bool (decide ((↑(UInt8.toNat (List.getD s (Int.toNat 0) (0:UInt8))):Int)<=90)))))else(G ((.bool false))))else(G ((.bool false)))else(G ((.bool false))))):At JD 0 (Za Qz G) QH 0 38 [(0,.pv (.str s)),(3,.pv (.int .i64 i))] []:=At.tp (dm [] 83 0x222222222220222222202220222120064222120134222202342020001422212202222200642101942) h
noncomputable def a0s:IC:=YI Proofs.Tryz.f137
def a6f:List IRes:=[(.tmp 2)]
abbrev d7h:Nat:=13
def b9i:ZC:=Yh [(161,.pure (preT (fun x:Str×Unit=>decide (x.1.s.length<=1048576))) (Zi (fun x:Str×Unit=>evB x.1.s)))]
theorem f0b{G:PV->Prop}(s:List UInt8)(h:if (s==[(105:UInt8),(110:UInt8),(116:UInt8)])=true then G ((.bool true))else(if (s==[(98:UInt8),(111:UInt8),(111:UInt8),(108:UInt8)])=true then G ((.bool true))else((g6f [(.str s)] fun a=>(G ((.bool a))))))):Zd b9i 0 (Za a6f G) a0s [] (Zx 13 [.str s]):=Zd.tp (dm [dv Bool] 27 0x2512022003422202222200642) h
noncomputable def KU:IC:=YI Proofs.Tryz.f138
def Ja:List IRes:=[(.tmp 2)]
abbrev e0x:Nat:=32
def Gz:ZC:=Yh [(112,.pure (preT (fun x:Lin×Unit=>XK x.1)) (Zi (fun x:Lin×Unit=>Zh x.1))),(141,.pure (preT (fun _:Str×Unit=>true)) (Zi (fun x:Str×Unit=>nameB x.1)))]
theorem e7s{G:PV->Prop}(r:Str)(l:List Lin)(h:At Gz 0 (Za Ja G) KU 0 32 [(1,(.ptr 0 0)),(3,(.pv (.int .i64 0)))] [(.obj (.box [(.pv (.str (Str.s r))),(.pv (.sl 2 false (List.map enc l)))]))]):Zd Gz 0 (Za Ja G) KU [] (Zx 32 [.agg [enc r,enc l]]):=Zd.tp (.nil) h
theorem a3t{G:PV->Prop}(r:Str)(l:List Lin)(i:Int)(h:if (Cm l i)=true then(Y1 l i 2 fun b=>((g3o [(enc b)] fun e=>(if (!e)=true then G ((.bool false))else(At Gz 0 (Za Ja G) KU 0 32 [(1,(.ptr 0 0)),(3,(.pv (.int .i64 (IntKind.wrap IntKind.i64 (i+1)))))] [(.obj (.box [(.pv (.str (Str.s r))),(.pv (.sl 2 false (List.map enc l)))]))])))))else(if (decide ((↑(List.length (List.map enc l)):Int)<=6))=true then if (Str.s r==[])=true then G ((.bool true))else(g3a [(.str (Str.s r))] fun a=>(G ((.bool a))))else(G ((.bool false))))):At Gz 0 (Za Ja G) KU 0 32 [(1,.ptr 0 0),(3,.pv (.int .i64 i))] [.obj (.box [.pv (enc r),.pv (enc l)])]:=At.tp (dm [dr Lin,dv Bool] 51 0x2222202226222022222006422220164202000146125100c42) h
noncomputable def UW:IC:=YI Proofs.Tryz.f108
def VU:List IRes:=[(.tmp 2),(.tmp 3)]
abbrev d7y:Nat:=37
def Qc:ZC:=Yh [(138,.pure (preT (fun x:Sp×Unit=>Nw x.1)) (Zi (fun x:Sp×Unit=>KI x.1.row x.1.dims))),(79,.pure (preT (fun x:Lin×Unit=>Wn x.1)) (Zi (fun x:Lin×Unit=>(⟨ZE x.1⟩:Str))))]
theorem e3m{G:PV->Prop}(r:Str)(l:List Lin)(h:(f2j [(enc (Sp.mk r l))] fun a=>(if (!a)=true then G ((.tup [(.str []),(.int .i64 1)]))else(if (!Str.s r==[])=true then Zz (Str.s r) [(46:UInt8),(46:UInt8)]∧(At Qc 0 (Za VU G) UW 0 37 [(1,(.ptr 0 0)),(4,(.pv (.str (Str.s r++[(46:UInt8),(46:UInt8)])))),(5,(.pv (.int .i64 0)))] [(.obj (.box [(.pv (.str (Str.s r))),(.pv (.sl 2 false (List.map enc l)))]))])else(At Qc 0 (Za VU G) UW 0 37 [(1,(.ptr 0 0)),(4,(.pv (.str []))),(5,(.pv (.int .i64 0)))] [(.obj (.box [(.pv (.str (Str.s r))),(.pv (.sl 2 false (List.map enc l)))]))]))))):Zd Qc 0 (Za VU G) UW [] (Zx 37 [.agg [enc r,enc l]]):=Zd.tp (dm [dv Bool] 16 0x1002420001451) h
theorem a4g{G:PV->Prop}(r:Str)(l:List Lin)(o:List UInt8)(i:Int)(h:if (Cm l i)=true then if (!o==[])=true then Zz o [(44:UInt8),(32:UInt8)]∧((Y1 l i 2 fun g=>((f1z [(enc g)] fun b=>(Zz (o++[(44:UInt8),(32:UInt8)]) (Str.s b)∧(At Qc 0 (Za VU G) UW 0 37 [(1,(.ptr 0 0)),(4,(.pv (.str (o++[(44:UInt8),(32:UInt8)]++Str.s b)))),(5,(.pv (.int .i64 (IntKind.wrap IntKind.i64 (i+1)))))] [(.obj (.box [(.pv (.str (Str.s r))),(.pv (.sl 2 false (List.map enc l)))]))]))))))else((Y1 l i 2 fun e=>((f1z [(enc e)] fun a=>(Zz o (Str.s a)∧(At Qc 0 (Za VU G) UW 0 37 [(1,(.ptr 0 0)),(4,(.pv (.str (o++Str.s a)))),(5,(.pv (.int .i64 (IntKind.wrap IntKind.i64 (i+1)))))] [(.obj (.box [(.pv (.str (Str.s r))),(.pv (.sl 2 false (List.map enc l)))]))]))))))else(Zz [(91:UInt8)] o∧(Zz ([(91:UInt8)]++o) [(93:UInt8)]∧(G ((.tup [(.str ([(91:UInt8)]++o++[(93:UInt8)])),(.int .i64 0)])))))):At Qc 0 (Za VU G) UW 0 37 [(1,.ptr 0 0),(4,.pv (.str o)),(5,.pv (.int .i64 i))] [.obj (.box [.pv (enc r),.pv (enc l)])]:=At.tp (dm [dr Lin,dv Str] 31 0x11021612510216125110094201642) h
noncomputable def a2p:IC:=YI Proofs.Tryz.f105
def a6p:List IRes:=[(.tmp 2)]
abbrev d3z:Nat:=11
def b8i:ZC:=Yh [(137,.pure (preT (fun x:Str×Unit=>decide (x.1.s.length<=1048576))) (Zi (fun x:Str×Unit=>MW x.1.s))),(138,.pure (preT (fun x:Sp×Unit=>Nw x.1)) (Zi (fun x:Sp×Unit=>KI x.1.row x.1.dims)))]
theorem e3x{G:PV->Prop}(t:TyS)(h:(g1t [(.str (Str.s (TyS.elem t)))] fun a=>(if (a)=true then(f2j [(enc (Sp.mk (TyS.row t) (TyS.dims t)))] fun b=>(G ((.bool b))))else(G ((.bool false)))))):Zd b8i 0 (Za a6p G) a2p [] (Zx 11 [.agg [enc t.elem,enc t.row,enc t.dims]]):=Zd.tp (dm [dv Bool] 17 0x222025122006451) h
noncomputable def a5a:IC:=YI Proofs.Tryz.f72
def PM:List IRes:=[(.tmp 2),(.tmp 3)]
abbrev d7a:Nat:=21
def Ev:ZC:=Yh [(105,.pure (preT (fun x:TyS×Unit=>yW x.1)) (Zi (fun x:TyS×Unit=>Q5 x.1))),(108,.pure (preT (fun x:Sp×Unit=>Nw x.1)) (Zi (fun x:Sp×Unit=>Nv x.1.row x.1.dims)))]
theorem e4e{G:PV->Prop}(t:TyS)(h:(f2s [(enc t)] fun b=>(if (!b)=true then G ((.tup [(.str []),(.int .i64 1)]))else((g3e [(enc (Sp.mk (TyS.row t) (TyS.dims t)))] fun a=>(if (Str.s a.1==[(91:UInt8),(93:UInt8)])=true then Zz ([]:List UInt8) (Str.s (TyS.elem t))∧(G ((.tup [(.str (([]:List UInt8)++Str.s (TyS.elem t))),(.int .i64 0)])))else(Zz (Str.s a.1) (Str.s (TyS.elem t))∧(G ((.tup [(.str (Str.s a.1++Str.s (TyS.elem t))),(.int .i64 0)])))))))))):Zd Ev 0 (Za PM G) a5a [] (Zx 21 [.agg [enc t.elem,enc t.row,enc t.dims]]):=Zd.tp (dm [dv Bool,dv (Str×Int)] 19 0x10100242610001451) h
noncomputable def XD:IC:=YI Proofs.Tryz.f69
def Xj:List IRes:=[(.tmp 2)]
abbrev c1l:Nat:=64
def X3:ZC:=Yh [(105,.pure (preT (fun x:TyS×Unit=>yW x.1)) (Zi (fun x:TyS×Unit=>Q5 x.1))),(20,.pure (preT (fun x:Str×Unit=>decide (x.1.s.length<=1048576))) (Zi (fun x:Str×Unit=>nameI x.1.s)))]
abbrev OZ(a:PV->Prop)(XU:TyS):Prop:=(At X3 0 (Za Xj a) XD 0 64 [(1,(.ptr 0 0)),(3,(.pv (.int .i64 0)))] [(.obj (.box (a3z XU)))])
theorem c8p{G:PV->Prop}(t:TyS)(h:(f2s [(enc t)] fun b=>(if (!b)=true then G ((.bool false))else(if (!Str.s (TyS.elem t)==[(105:UInt8),(110:UInt8),(116:UInt8)])=true then if (!Str.s (TyS.elem t)==[(98:UInt8),(111:UInt8),(111:UInt8),(108:UInt8)])=true then G ((.bool false))else(if (!Str.s (TyS.row t)==[])=true then(Ro [(.str (Str.s (TyS.row t)))] fun e=>(if (!e)=true then G ((.bool false))else(OZ G t)))else(OZ G t))else(if (!Str.s (TyS.row t)==[])=true then(Ro [(.str (Str.s (TyS.row t)))] fun a=>(if (!a)=true then G ((.bool false))else(OZ G t)))else(OZ G t)))))):Zd X3 0 (Za Xj G) XD [] (Zx 64 [.agg [enc t.elem,enc t.row,enc t.dims]]):=Zd.tp (dm [dv Bool] 119 0x2222222200001422225122200f42222222222202222222200001422225122200f422222022222220084222222033422220222222222222200e451) h
theorem LA{G:PV->Prop}(t:TyS)(i k:Int)(h:(Y1 (TyS.dims t) i 2 fun e=>(if (decide (k<(↑(List.length (XU e)):Int)))=true then(Y1 (TyS.dims t) i 2 fun a=>((decide (0<=k)&&decide (Int.toNat k<List.length (XU a))&&2==2)=true∧((decide (0+List.length [Sh.str]<=List.length (List.drop 0 (PV.cells (gx' a k))))&&Yk (List.drop 0 (PV.cells (gx' a k))) 0 [Sh.str])=true∧((Ro [(.str (PV.asStr (List.getD (List.drop 0 (PV.cells (gx' a k))) 0 default)))] fun b=>(if (!b)=true then G ((.bool false))else(At X3 0 (Za Xj G) XD 1 64 [(1,(.ptr 0 0)),(3,(.pv (.int .i64 i))),(4,(.pv (.int .i64 (IntKind.wrap IntKind.i64 (k+1)))))] [(.obj (.box (a3z t)))])))))))else(At X3 0 (Za Xj G) XD 0 64 [(1,(.ptr 0 0)),(3,(.pv (.int .i64 (IntKind.wrap IntKind.i64 (i+1)))))] [(.obj (.box (a3z t)))])))):At X3 0 (Za Xj G) XD 1 64 [(1,.ptr 0 0),(3,.pv (.int .i64 i)),(4,.pv (.int .i64 k))] [.obj (.box [.pv (enc t.elem),.pv (enc t.row),.pv (enc t.dims)])]:=At.tp (dm [dr Lin,dv Bool] 26 0x202000146113125100f42251) h
theorem N9{G:PV->Prop}(t:TyS)(i:Int)(h:if (Cm (TyS.dims t) i)=true then At X3 0 (Za Xj G) XD 1 64 [(1,(.ptr 0 0)),(3,(.pv (.int .i64 i))),(4,(.pv (.int .i64 0)))] [(.obj (.box (a3z t)))]else(G ((.bool true)))):At X3 0 (Za Xj G) XD 0 64 [(1,.ptr 0 0),(3,.pv (.int .i64 i))] [.obj (.box [.pv (enc t.elem),.pv (enc t.row),.pv (enc t.dims)])]:=At.tp (dm [] 8 0x142) h
noncomputable def LJ:IC:=YI Proofs.Tryz.f43
def LU:List IRes:=[(.tmp 4)]
abbrev c4u:Nat:=24
def a5q:ZC:=Yh [(69,.pure (preT (fun x:TyS×Unit=>yW x.1)) (Zi (fun x:TyS×Unit=>Y5 x.1)))]
theorem d7s{G:PV->Prop}(b:Bool)(t:TyS)(h:if (b)=true then(g6j [(enc t)] fun a=>(G ((.bool a))))else(if (Str.s (TyS.elem t)==[])=true then if (Str.s (TyS.row t)==[])=true then G ((.bool ((↑(List.length (List.map enc (TyS.dims t))):Int)==0)))else(G ((.bool false)))else(G ((.bool false))))):Zd a5q 0 (Za LU G) LJ [] (Zx 24 [.bool b,.agg [enc t.elem,enc t.row,enc t.dims]]):=Zd.tp (dm [dv Bool] 46 0x22222222220222220222222007422222016420510034) h
noncomputable def KX:IC:=YI Proofs.Tryz.f23
def K6:List IRes:=[(.tmp 2)]
abbrev d9y:Nat:=56
def Gg:ZC:=Yh [(20,.pure (preT (fun x:Str×Unit=>decide (x.1.s.length<=1048576))) (Zi (fun x:Str×Unit=>nameI x.1.s))),(43,.pure (preT (fun x:Bool×TyS×Unit=>yW x.2.1)) (Zi (fun x:Bool×TyS×Unit=>Yz x.1 x.2.1))),(44,.pure (preT (fun x:Tm×Unit=>tW x.1)) (Zi (fun x:Tm×Unit=>YK x.1)))]
theorem e3n{G:PV->Prop}(d:Df)(h:At Gg 0 (Za K6 G) KX 0 56 [(1,(.ptr 0 0)),(3,(.pv (.int .i64 0)))] [(.obj (.box (Ee d)))]):Zd Gg 0 (Za K6 G) KX [] (Zx 56 [.agg [enc d.name,enc d.line,enc d.ps,enc d.given,enc d.res.elem,enc d.res.row,enc d.res.dims,enc d.n.kind,enc d.n.line,enc d.n.name,enc d.n.num,enc d.n.elem,enc d.n.dims,enc d.n.data,enc d.n.sizes,enc d.n.ranks,enc d.ks]]):=Zd.tp (.nil) h
theorem a6u{G:PV->Prop}(d:Df)(i:Int)(h:if (Cm (Df.ps d) i)=true then(Y1 (Df.ps d) i 5 fun k=>((Ro [(.str (Str.s (Pm.name k)))] fun l=>(if (!l)=true then G ((.bool false))else((Y1 (Df.ps d) i 5 fun a=>((Y1 (Df.ps d) i 5 fun e=>((d7i [(.bool (Pm.given a)),(enc (Pm.ty e))] fun m=>(if (!m)=true then G ((.bool false))else(At Gg 0 (Za K6 G) KX 0 56 [(1,(.ptr 0 0)),(3,(.pv (.int .i64 (IntKind.wrap IntKind.i64 (i+1)))))] [(.obj (.box (Ee d)))]))))))))))))else((Ro [(.str (Str.s (Df.name d)))] fun j=>(if (j)=true then if (decide ((↑(List.length (List.map enc (Df.ps d))):Int)<=8))=true then(d7i [(.bool (Df.given d)),(enc (Df.res d))] fun b=>(if (b)=true then(f4v (Dc (Df.n d) (Df.ks d)) fun g=>(G ((.bool g))))else(G ((.bool false)))))else(G ((.bool false)))else(G ((.bool false))))))):At Gg 0 (Za K6 G) KX 0 56 [(1,.ptr 0 0),(3,.pv (.int .i64 i))] [.obj (.box [.pv (enc d.name),.pv (enc d.line),.pv (enc d.ps),.pv (enc d.given),.pv (enc d.res.elem),.pv (enc d.res.row),.pv (enc d.res.dims),.pv (enc d.n.kind),.pv (enc d.n.line),.pv (enc d.n.name),.pv (enc d.n.num),.pv (enc d.n.elem),.pv (enc d.n.dims),.pv (enc d.n.data),.pv (enc d.n.sizes),.pv (enc d.n.ranks),.pv (enc d.ks)])]:=At.tp (dm [dr Pm,dv Bool] 121 0x22222222222222022222222202220261220064261222201542222202846102000142261222251222222251222022222222222222201046125103642) h
noncomputable def c9w:IC:=YI Proofs.Tryz.f45
def d4y:List IRes:=[(.tmp 2)]
abbrev f8s:Nat:=11
def f1v:ZC:=Yh [(72,.pure (preT (fun x:TyS×Unit=>yW x.1)) (Zi (fun x:TyS×Unit=>Jc x.1)))]
theorem g1p{G:PV->Prop}(t:TyS)(h:(f4f [(enc t)] fun a=>(G ((.str (Str.s a.1)))))):Zd f1v 0 (Za d4y G) c9w [] (Zx 11 [.agg [enc t.elem,enc t.row,enc t.dims]]):=Zd.tp (.req (Oe (Str×Int) (.nil))) h
noncomputable def Qa:IC:=YI Proofs.Tryz.f24
def Qp:List IRes:=[(.tmp 2)]
abbrev e9v:Nat:=60
def JL:ZC:=Yh [(45,.pure (preT (fun x:TyS×Unit=>yW x.1)) (Zi (fun x:TyS×Unit=>(Jc x.1).1))),(46,.pure (preT (fun x:Tm×Unit=>tW x.1&&Ya x.1)) (Zi (fun x:Tm×Unit=>Zt x.1)))]
theorem f4y{G:PV->Prop}(d:Df)(h:Zz [(100:UInt8),(101:UInt8),(102:UInt8),(32:UInt8)] (Str.s (Df.name d))∧(Zz ([(100:UInt8),(101:UInt8),(102:UInt8),(32:UInt8)]++Str.s (Df.name d)) [(40:UInt8)]∧(At JL 0 (Za Qp G) Qa 0 60 [(1,(.ptr 0 0)),(3,(.pv (.str ([(100:UInt8),(101:UInt8),(102:UInt8),(32:UInt8)]++Str.s (Df.name d)++[(40:UInt8)])))),(4,(.pv (.int .i64 0)))] [(.obj (.box (Ee d)))]))):Zd JL 0 (Za Qp G) Qa [] (Zx 60 [.agg [enc d.name,enc d.line,enc d.ps,enc d.given,enc d.res.elem,enc d.res.row,enc d.res.dims,enc d.n.kind,enc d.n.line,enc d.n.name,enc d.n.num,enc d.n.elem,enc d.n.dims,enc d.n.data,enc d.n.sizes,enc d.n.ranks,enc d.ks]]):=Zd.tp (.req (.req (.nil))) h
theorem b8m{G:PV->Prop}(d:Df)(o:List UInt8)(i:Int)(h:if (Cm (Df.ps d) i)=true then if (decide (i>0))=true then Zz o [(44:UInt8),(32:UInt8)]∧((Y1 (Df.ps d) i 5 fun e=>(Zz (o++[(44:UInt8),(32:UInt8)]) (Str.s (Pm.name e))∧((Y1 (Df.ps d) i 5 fun u=>(if (Pm.given u)=true then(Y1 (Df.ps d) i 5 fun m=>((b3d [(enc (Pm.ty m))] fun j=>(Zz [(58:UInt8),(32:UInt8)] (Str.s j)∧(Zz (o++[(44:UInt8),(32:UInt8)]++Str.s (Pm.name e)) ([(58:UInt8),(32:UInt8)]++Str.s j)∧(At JL 0 (Za Qp G) Qa 0 60 [(1,(.ptr 0 0)),(3,(.pv (.str (o++[(44:UInt8),(32:UInt8)]++Str.s (Pm.name e)++([(58:UInt8),(32:UInt8)]++Str.s j))))),(4,(.pv (.int .i64 (IntKind.wrap IntKind.i64 (i+1)))))] [(.obj (.box (Ee d)))]))))))else(At JL 0 (Za Qp G) Qa 0 60 [(1,(.ptr 0 0)),(3,(.pv (.str (o++[(44:UInt8),(32:UInt8)]++Str.s (Pm.name e))))),(4,(.pv (.int .i64 (IntKind.wrap IntKind.i64 (i+1)))))] [(.obj (.box (Ee d)))])))))))else((Y1 (Df.ps d) i 5 fun g=>(Zz o (Str.s (Pm.name g))∧((Y1 (Df.ps d) i 5 fun r=>(if (Pm.given r)=true then(Y1 (Df.ps d) i 5 fun q=>((b3d [(enc (Pm.ty q))] fun k=>(Zz [(58:UInt8),(32:UInt8)] (Str.s k)∧(Zz (o++Str.s (Pm.name g)) ([(58:UInt8),(32:UInt8)]++Str.s k)∧(At JL 0 (Za Qp G) Qa 0 60 [(1,(.ptr 0 0)),(3,(.pv (.str (o++Str.s (Pm.name g)++([(58:UInt8),(32:UInt8)]++Str.s k))))),(4,(.pv (.int .i64 (IntKind.wrap IntKind.i64 (i+1)))))] [(.obj (.box (Ee d)))]))))))else(At JL 0 (Za Qp G) Qa 0 60 [(1,(.ptr 0 0)),(3,(.pv (.str (o++Str.s (Pm.name g))))),(4,(.pv (.int .i64 (IntKind.wrap IntKind.i64 (i+1)))))] [(.obj (.box (Ee d)))])))))))else(Zz o [(41:UInt8)]∧(if (Df.given d)=true then(b3d [(enc (Df.res d))] fun b=>(Zz [(58:UInt8),(32:UInt8)] (Str.s b)∧(Zz (o++[(41:UInt8)]) ([(58:UInt8),(32:UInt8)]++Str.s b)∧(Zz (o++[(41:UInt8)]++([(58:UInt8),(32:UInt8)]++Str.s b)) [(32:UInt8),(61:UInt8),(32:UInt8)]∧((e0q (Dc (Df.n d) (Df.ks d)) fun l=>(Zz (o++[(41:UInt8)]++([(58:UInt8),(32:UInt8)]++Str.s b)++[(32:UInt8),(61:UInt8),(32:UInt8)]) (Str.s l)∧(G ((.str (o++[(41:UInt8)]++([(58:UInt8),(32:UInt8)]++Str.s b)++[(32:UInt8),(61:UInt8),(32:UInt8)]++Str.s l)))))))))))else(Zz (o++[(41:UInt8)]) [(32:UInt8),(61:UInt8),(32:UInt8)]∧((e0q (Dc (Df.n d) (Df.ks d)) fun a=>(Zz (o++[(41:UInt8)]++[(32:UInt8),(61:UInt8),(32:UInt8)]) (Str.s a)∧(G ((.str (o++[(41:UInt8)]++[(32:UInt8),(61:UInt8),(32:UInt8)]++Str.s a))))))))))):At JL 0 (Za Qp G) Qa 0 60 [(1,.ptr 0 0),(3,.pv (.str o)),(4,.pv (.int .i64 i))] [.obj (.box [.pv (enc d.name),.pv (enc d.line),.pv (enc d.ps),.pv (enc d.given),.pv (enc d.res.elem),.pv (enc d.res.row),.pv (enc d.res.dims),.pv (enc d.n.kind),.pv (enc d.n.line),.pv (enc d.n.name),.pv (enc d.n.num),.pv (enc d.n.elem),.pv (enc d.n.dims),.pv (enc d.n.data),.pv (enc d.n.sizes),.pv (enc d.n.ranks),.pv (enc d.ks)])]:=At.tp (dm [dr Pm,dv Str] 75 0x1611016111161009410202116125100942511251020211612510094251125110174203242) h
noncomputable def b6o:IC:=YI Proofs.Tryz.f11
def OD:List IRes:=[(.tmp 2),(.tmp 3)]
abbrev e5b:Nat:=14
def a8p:ZC:=Yh [(23,.pure (preT (fun x:Df×Unit=>dW x.1)) (Zi (fun x:Df×Unit=>ZK x.1))),(24,.pure (preT (fun x:Df×Unit=>dW x.1&&ZK x.1)) (Zi (fun x:Df×Unit=>UO x.1)))]
theorem f3p{G:PV->Prop}(d:Df)(h:(d6u [(enc d)] fun b=>(if (!b)=true then G ((.tup [(.str []),(.int .i64 1)]))else((d0q [(enc d)] fun a=>(if (decide ((↑(List.length (Str.s a)):Int)>20000))=true then G ((.tup [(.str []),(.int .i64 3)]))else(G ((.tup [(.str (Str.s a)),(.int .i64 0)]))))))))):Zd a8p 0 (Za OD G) b6o [] (Zx 14 [.agg [enc d.name,enc d.line,enc d.ps,enc d.given,enc d.res.elem,enc d.res.row,enc d.res.dims,enc d.n.kind,enc d.n.line,enc d.n.name,enc d.n.num,enc d.n.elem,enc d.n.dims,enc d.n.data,enc d.n.sizes,enc d.n.ranks,enc d.ks]]):=Zd.tp (dm [dv Bool,dv Str] 17 0x142610001451) h
noncomputable def VC:IC:=YI Proofs.Tryz.f22
def VD:List IRes:=[(.tmp 4)]
abbrev c1r:Nat:=34
def UX:ZC:=Yh []
abbrev a7f(a:List Str):Nat×AV:=(1,(.pv (.sl 1 false (List.map enc a))))
theorem e2c{G:PV->Prop}(w:List UInt8)(l:List Str)(h:At UX 0 (Za VD G) VC 0 34 [(0,(.pv (.str w))),(a7f l),(5,(.pv (.str []))),(6,(.pv (.int .i64 0)))] []):Zd UX 0 (Za VD G) VC [] (Zx 34 [.str w,enc l]):=Zd.tp (.nil) h
theorem GJ{G:PV->Prop}(w:List UInt8)(l:List Str)(o:List UInt8)(i:Int)(h:if (Cm l i)=true then if (i==0)=true then Zz w [(32:UInt8)]∧((Y1 l i 1 fun b=>(Zz (w++[(32:UInt8)]) (Str.s b)∧(At UX 0 (Za VD G) VC 0 34 [(0,(.pv (.str w))),(a7f l),(5,(.pv (.str (w++[(32:UInt8)]++Str.s b)))),(6,(.pv (.int .i64 (IntKind.wrap IntKind.i64 (i+1)))))] []))))else((Y1 l i 1 fun a=>(Zz [(44:UInt8),(32:UInt8)] (Str.s a)∧(Zz o ([(44:UInt8),(32:UInt8)]++Str.s a)∧(At UX 0 (Za VD G) VC 0 34 [(0,(.pv (.str w))),(a7f l),(5,(.pv (.str (o++([(44:UInt8),(32:UInt8)]++Str.s a))))),(6,(.pv (.int .i64 (IntKind.wrap IntKind.i64 (i+1)))))] [])))))else(if (!o==[])=true then Zz o [(10:UInt8)]∧(G ((.str (o++[(10:UInt8)]))))else(G ((.str o))))):At UX 0 (Za VD G) VC 0 34 [(0,.pv (.str w)),(1,.pv (enc l)),(5,.pv (.str o)),(6,.pv (.int .i64 i))] []:=At.tp (dm [dr Str] 33 0x100242021125102125110074201342) h
noncomputable def Qs:IC:=YI Proofs.Tryz.f21
def Qt:List IRes:=[(.tmp 2)]
abbrev c4z:Nat:=16
def KE:ZC:=Yh [(20,.pure (preT (fun x:Str×Unit=>decide (x.1.s.length<=1048576))) (Zi (fun x:Str×Unit=>nameI x.1.s)))]
theorem d3b{G:PV->Prop}(l:List Str)(h:At KE 0 (Za Qt G) Qs 0 16 [(0,(.pv (.sl 1 false (List.map enc l)))),(3,(.pv (.int .i64 0)))] []):Zd KE 0 (Za Qt G) Qs [] (Zx 16 [enc l]):=Zd.tp (.nil) h
theorem LY{G:PV->Prop}(l:List Str)(i:Int)(h:if (Cm l i)=true then(Y1 l i 1 fun a=>((Ro [(.str (Str.s a))] fun b=>(if (!b)=true then G ((.bool false))else(At KE 0 (Za Qt G) Qs 0 16 [(0,(.pv (.sl 1 false (List.map enc l)))),(3,(.pv (.int .i64 (IntKind.wrap IntKind.i64 (i+1)))))] [])))))else(G ((.bool true)))):At KE 0 (Za Qt G) Qs 0 16 [(0,.pv (enc l)),(3,.pv (.int .i64 i))] []:=At.tp (dm [dr Str,dv Bool] 19 0x2000146125100c42) h
noncomputable def UE:IC:=YI Proofs.Tryz.f8
def Ua:List IRes:=[(.tmp 2),(.tmp 3)]
abbrev f0m:Nat:=87
def QR:ZC:=Yh [(20,.pure (preT (fun x:Str×Unit=>decide (x.1.s.length<=1048576))) (Zi (fun x:Str×Unit=>nameI x.1.s))),(21,.pure (preT (fun x:List Str×Unit=>Xi x.1)) (Zi (fun x:List Str×Unit=>x.1.all fun s:Str=>nameI s.s))),(22,.pure (preT (fun x:Str×List Str×Unit=>decide (x.1.s.length<=30)&&decide (x.1.s≠[])&&decide (x.2.1.length<=60)&&x.2.1.all fun s:Str=>nameI s.s)) (Zi (fun x:Str×List Str×Unit=>(⟨Qh (Kv x.1.s x.2.1)⟩:Str)))),(23,.pure (preT (fun x:Df×Unit=>dW x.1)) (Zi (fun x:Df×Unit=>ZK x.1))),(24,.pure (preT (fun x:Df×Unit=>dW x.1&&ZK x.1)) (Zi (fun x:Df×Unit=>UO x.1)))]
theorem f7i{G:PV->Prop}(m:Mdu)(h:(Ro [(.str (Str.s (Mdu.name m)))] fun g=>(if (!g)=true then G ((.tup [(.str []),(.int .i64 1)]))else((c9u [(.sl 1 false (List.map enc (Mdu.im m)))] fun i=>(if (!i)=true then G ((.tup [(.str []),(.int .i64 1)]))else((c9u [(.sl 1 false (List.map enc (Mdu.ex m)))] fun e=>(if (!e)=true then G ((.tup [(.str []),(.int .i64 1)]))else(if (decide ((↑(List.length (List.map enc (Mdu.im m))):Int)>20))=true then G ((.tup [(.str []),(.int .i64 1)]))else(if (decide ((↑(List.length (List.map enc (Mdu.ex m))):Int)>60))=true then G ((.tup [(.str []),(.int .i64 1)]))else(if (decide ((↑(List.length (List.map enc (Mdu.ds m))):Int)>60))=true then G ((.tup [(.str []),(.int .i64 1)]))else(Zz [(109:UInt8),(111:UInt8),(100:UInt8),(117:UInt8),(108:UInt8),(101:UInt8),(32:UInt8)] (Str.s (Mdu.name m))∧(Zz ([(109:UInt8),(111:UInt8),(100:UInt8),(117:UInt8),(108:UInt8),(101:UInt8),(32:UInt8)]++Str.s (Mdu.name m)) [(10:UInt8)]∧((d1n [(.str [(105:UInt8),(109:UInt8),(112:UInt8),(111:UInt8),(114:UInt8),(116:UInt8)]),(.sl 1 false (List.map enc (Mdu.im m)))] fun a=>(Zz ([(109:UInt8),(111:UInt8),(100:UInt8),(117:UInt8),(108:UInt8),(101:UInt8),(32:UInt8)]++Str.s (Mdu.name m)++[(10:UInt8)]) (Str.s a)∧((d1n [(.str [(101:UInt8),(120:UInt8),(112:UInt8),(111:UInt8),(114:UInt8),(116:UInt8)]),(.sl 1 false (List.map enc (Mdu.ex m)))] fun b=>(Zz ([(109:UInt8),(111:UInt8),(100:UInt8),(117:UInt8),(108:UInt8),(101:UInt8),(32:UInt8)]++Str.s (Mdu.name m)++[(10:UInt8)]++Str.s a) (Str.s b)∧(At QR 0 (Za Ua G) UE 0 87 [(1,(.ptr 0 0)),(4,(.pv (.str ([(109:UInt8),(111:UInt8),(100:UInt8),(117:UInt8),(108:UInt8),(101:UInt8),(32:UInt8)]++Str.s (Mdu.name m)++[(10:UInt8)]++Str.s a++Str.s b)))),(5,(.pv (.int .i64 0)))] [(.obj (.box (Di m)))]))))))))))))))))))))):Zd QR 0 (Za Ua G) UE [] (Zx 87 [.agg [enc m.name,enc m.im,enc m.ex,enc m.ds]]):=Zd.tp (dm [dv Bool,dv Str] 144 0x1611611100014222220222220064222220222222222200b4222220222222222222222010422512202222222222222222222201542251220222222222222222222222222201a451) h
theorem b8u{G:PV->Prop}(m:Mdu)(o:List UInt8)(i:Int)(h:if (Cm (Mdu.ds m) i)=true then(Y1 (Mdu.ds m) i 17 fun b=>((d0q [(enc b)] fun a=>(Zz (Str.s a) [(10:UInt8)]∧(Zz o (Str.s a++[(10:UInt8)])∧(At QR 0 (Za Ua G) UE 1 87 [(1,(.ptr 0 0)),(4,(.pv (.str (o++(Str.s a++[(10:UInt8)]))))),(6,(.pv (.int .i64 (IntKind.wrap IntKind.i64 (i+1)))))] [(.obj (.box (Di m)))]))))))else(if (decide ((↑(List.length o):Int)>20000))=true then G ((.tup [(.str []),(.int .i64 3)]))else(G ((.tup [(.str o),(.int .i64 0)]))))):At QR 0 (Za Ua G) UE 1 87 [(1,.ptr 0 0),(4,.pv (.str o)),(6,.pv (.int .i64 i))] [.obj (.box [.pv (enc m.name),.pv (enc m.im),.pv (enc m.ex),.pv (enc m.ds)])]:=At.tp (dm [dr Df,dv Str] 22 0x14202116125100942) h
theorem b7s{G:PV->Prop}(m:Mdu)(o:List UInt8)(i:Int)(h:if (Cm (Mdu.ds m) i)=true then(Y1 (Mdu.ds m) i 17 fun a=>((d6u [(enc a)] fun b=>(if (!b)=true then G ((.tup [(.str []),(.int .i64 1)]))else(At QR 0 (Za Ua G) UE 0 87 [(1,(.ptr 0 0)),(4,(.pv (.str o))),(5,(.pv (.int .i64 (IntKind.wrap IntKind.i64 (i+1)))))] [(.obj (.box (Di m)))])))))else(At QR 0 (Za Ua G) UE 1 87 [(1,(.ptr 0 0)),(4,(.pv (.str o))),(6,(.pv (.int .i64 0)))] [(.obj (.box (Di m)))])):At QR 0 (Za Ua G) UE 0 87 [(1,.ptr 0 0),(4,.pv (.str o)),(5,.pv (.int .i64 i))] [.obj (.box [.pv (enc m.name),.pv (enc m.im),.pv (enc m.ex),.pv (enc m.ds)])]:=At.tp (dm [dr Df,dv Bool] 19 0x2000146125100c42) h
noncomputable def WP:IC:=YI Proofs.Tryz.f9
def WF:List IRes:=[(.tmp 2)]
abbrev d1a:Nat:=81
def V6:ZC:=Yh [(25,.pure (preT (fun x:Tm×Int×Unit=>tW x.1)) (Zi (fun x:Tm×Int×Unit=>K5 x.1 x.2.1)))]
theorem e5g{G:PV->Prop}(m:Mdu)(h:At V6 0 (Za WF G) WP 0 81 [(1,(.ptr 0 0)),(3,(.pv (.int .i64 0)))] [(.obj (.box (Di m)))]):Zd V6 0 (Za WF G) WP [] (Zx 81 [.agg [enc m.name,enc m.im,enc m.ex,enc m.ds]]):=Zd.tp (.nil) h
theorem a3v{G:PV->Prop}(m:Mdu)(i k:Int)(h:(Y1 (Mdu.ds m) i 17 fun b=>(if (decide (k<(↑(List.length (PV.asXs (List.getD (List.drop 2 (PV.cells (enc b))) 0 default))):Int)))=true then(Y1 (Mdu.ds m) i 17 fun a=>((decide (0<=k)&&decide (Int.toNat k<List.length (PV.asXs (List.getD (List.drop 2 (PV.cells (enc a))) 0 default)))&&5==5)=true∧((decide (0+List.length [Sh.sl 2]<=List.length (List.drop 1 (List.drop 1 (List.drop 2 (PV.cells (List.getD (PV.asXs (List.getD (List.drop 2 (PV.cells (enc a))) 0 default)) (Int.toNat k) default))))))&&Yk (List.drop 1 (List.drop 1 (List.drop 2 (PV.cells (List.getD (PV.asXs (List.getD (List.drop 2 (PV.cells (enc a))) 0 default)) (Int.toNat k) default))))) 0 [Sh.sl 2])=true∧(if (decide ((↑(List.length (PV.asXs (List.getD (List.drop 1 (List.drop 1 (List.drop 2 (PV.cells (List.getD (PV.asXs (List.getD (List.drop 2 (PV.cells (enc a))) 0 default)) (Int.toNat k) default))))) 0 default))):Int)>8))=true then G ((.bool false))else(At V6 0 (Za WF G) WP 1 81 [(1,(.ptr 0 0)),(3,(.pv (.int .i64 i))),(4,(.pv (.int .i64 (IntKind.wrap IntKind.i64 (k+1)))))] [(.obj (.box (Di m)))])))))else(At V6 0 (Za WF G) WP 0 81 [(1,(.ptr 0 0)),(3,(.pv (.int .i64 (IntKind.wrap IntKind.i64 (i+1)))))] [(.obj (.box (Di m)))])))):At V6 0 (Za WF G) WP 1 81 [(1,.ptr 0 0),(3,.pv (.int .i64 i)),(4,.pv (.int .i64 k))] [.obj (.box [.pv (enc m.name),.pv (enc m.im),.pv (enc m.ex),.pv (enc m.ds)])]:=At.tp (dm [dr Df] 25 0x20200014213125100e42251) h
theorem a1f{G:PV->Prop}(m:Mdu)(i:Int)(h:if (Cm (Mdu.ds m) i)=true then(Y1 (Mdu.ds m) i 17 fun a=>((f9q (bdA (Df.n a) (Df.ks a) 30) fun e=>(if (!e)=true then G ((.bool false))else((Y1 (Mdu.ds m) i 17 fun b=>(if (decide ((↑(List.length (PV.asXs (List.getD (List.drop 2 (PV.cells (enc b))) 0 default))):Int)>10))=true then G ((.bool false))else((Y1 (Mdu.ds m) i 17 fun g=>(if (decide ((↑(List.length (Str.s (Df.name g))):Int)>40))=true then G ((.bool false))else(At V6 0 (Za WF G) WP 1 81 [(1,(.ptr 0 0)),(3,(.pv (.int .i64 i))),(4,(.pv (.int .i64 0)))] [(.obj (.box (Di m)))])))))))))))else(if (decide ((↑(List.length (List.map enc (Mdu.ds m))):Int)<=5))=true then if (decide ((↑(List.length (List.map enc (Mdu.im m))):Int)<=25))=true then G ((.bool (decide ((↑(List.length (List.map enc (Mdu.ex m))):Int)<=65))))else(G ((.bool false)))else(G ((.bool false))))):At V6 0 (Za WF G) WP 0 81 [(1,.ptr 0 0),(3,.pv (.int .i64 i))] [.obj (.box [.pv (enc m.name),.pv (enc m.im),.pv (enc m.ex),.pv (enc m.ds)])]:=At.tp (dm [dr Df,dv Bool] 113 0x2222222220222202222200642222201442000014222222251222022222222200a4222222251222022222222222222222201346125104842) h
noncomputable def G8:IC:=YI Proofs.Tryz.f4
def Gq:List IRes:=[(.tmp 2)]
abbrev e5i:Nat:=68
def Ab:ZC:=Yh [(5,.pure (preT (fun _:Unit=>true)) (Zi (fun _:Unit=>true))),(9,.pure (preT (fun x:Mdu×Unit=>mW x.1)) (Zi (fun x:Mdu×Unit=>MG x.1))),(7,.pure (preT (fun x:Mdu×Unit=>mW x.1)) (Zi (fun x:Mdu×Unit=>Jo x.1))),(8,.pure (preT (fun x:Mdu×Unit=>mW x.1)) (Zi (fun x:Mdu×Unit=>Jo x.1))),(10,.pure (preT (fun x:Df×Unit=>dW x.1)) (Zi (fun x:Df×Unit=>Cf x.1))),(11,.pure (preT (fun x:Df×Unit=>dW x.1)) (Zi (fun x:Df×Unit=>Cf x.1)))]
theorem g1e{G:PV->Prop}(m:Mdu)(h:Ty (fun(x:Unit)=>true) [] fun e:Bool=>if (!e)=true then G ((.bool false))else((f3l [(enc m)] fun g=>(if (!g)=true then G ((.bool true))else((c6m [(enc m)] fun a=>((c6m [(enc m)] fun b=>(At Ab 0 (Za Gq G) G8 0 68 [(1,(.ptr 0 0)),(3,(.pv (.str (Str.s a.1)))),(4,(.pv (.int .i64 a.2))),(5,(.pv (.str (Str.s b.1)))),(6,(.pv (.int .i64 b.2))),(7,(.pv (.int .i64 0)))] [(.obj (.box (Di m)))]))))))))):Zd Ab 0 (Za Gq G) G8 [] (Zx 68 [.agg [enc m.name,enc m.im,enc m.ex,enc m.ds]]):=Zd.tp (dm [dv Bool,dv (Str×Int)] 20 0x616100014510001452) h
theorem b9k{G:PV->Prop}(m:Mdu)(a b:List UInt8)(e f i:Int)(h:if (Cm (Mdu.ds m) i)=true then(Y1 (Mdu.ds m) i 17 fun l=>((d4m [(enc l)] fun j=>((Y1 (Mdu.ds m) i 17 fun k=>((d4m [(enc k)] fun g=>(if (!Str.s j.1==Str.s g.1)=true then G ((.bool false))else(if (j.2 != g.2)=true then G ((.bool false))else(At Ab 0 (Za Gq G) G8 0 68 [(1,(.ptr 0 0)),(3,(.pv (.str a))),(4,(.pv (.int .i64 e))),(5,(.pv (.str b))),(6,(.pv (.int .i64 f))),(7,(.pv (.int .i64 (IntKind.wrap IntKind.i64 (i+1)))))] [(.obj (.box (Di m)))]))))))))))else(if (a==b)=true then G ((.bool (e==f)))else(G ((.bool false))))):At Ab 0 (Za Gq G) G8 0 68 [(1,.ptr 0 0),(3,.pv (.str a)),(4,.pv (.int .i64 e)),(5,.pv (.str b)),(6,.pv (.int .i64 f)),(7,.pv (.int .i64 i))] [.obj (.box [.pv (enc m.name),.pv (enc m.im),.pv (enc m.ex),.pv (enc m.ds)])]:=At.tp (dm [dr Df,dv (Str×Int)] 51 0x2220222200542020001422220222200542612516125101f42) h
end Go.Pl
