/-
  Texts of mine that belong together (packed by pack.py), for every input: GJl, QJl, QJm, TyJa, TyJb, TyJd, TyJw, GJw, GJc, GJb, GJa, QJa, TyJc, QJb, TyJe, TyJf, TyJg, TyJh, QJn, VwX, TyAk, VwN, QJw.
-/
import Derived.Test.YtapeiomhajfpgaaGreatDoorChecked
import Derived.Test.YtapeiomhajfpgaaGreatDoorKZ2
import Derived.Test.YtapeiomhajfpgaaGreatDoorKZ3
import Derived.Test.YtapeiomhajfpgaaGreatDoorKZ4
import Derived.KernelRfl
set_option linter.unusedVariables false
set_option linter.unusedSimpArgs false
namespace Go.Pl
open Go.RowKit
open Enc (enc dec is)
open EncL (encL decL isL)
set_option maxRecDepth 100000
abbrev a3q(ps:List PV)(k:Bool->Prop):Prop:=Um (fun(x:UInt8×Unit)=>true) (fun(x:UInt8×Unit)=>digB (Prod.fst x)) ps k
abbrev d1r(ps:List PV)(k:Bool->Prop):Prop:=Um (fun(x:UInt8×Unit)=>true) (fun(x:UInt8×Unit)=>lowB (Prod.fst x)) ps k
abbrev e4y(ps:List PV)(k:Str->Prop):Prop:=Um (fun(x:Str×Unit)=>decide (List.length (Str.s (Prod.fst x))<=1048576)) (fun(x:Str×Unit)=>Prod.snd (Zl Zg (Str.s (Prod.fst x)))) ps k
abbrev d1t(ps:List PV)(k:Bool->Prop):Prop:=ceP (fun(x:Str×Unit)=>List.contains Wu (Str.s (Prod.fst x))) ps k
abbrev d1q(ps:List PV)(k:Bool->Prop):Prop:=Um (fun(x:Str×Unit)=>decide (List.length (Str.s (Prod.fst x))<=1048576)) (fun(x:Str×Unit)=>nameI (Str.s (Prod.fst x))) ps k
abbrev d2v(ps:List PV)(k:Int×Bool->Prop):Prop:=Um (fun(x:Str×Unit)=>decide (List.length (Str.s (Prod.fst x))<=1048576)) (fun(x:Str×Unit)=>Yx (Prod.fst x)) ps k
abbrev b3t(ps:List PV)(k:Int->Prop):Prop:=Um (fun(x:Str×Int×Unit)=>decide (List.length (Str.s (Prod.fst x))<=1048576)&&(decide (0<=Prod.fst (Prod.snd x))&&decide (Prod.fst (Prod.snd x)<=(↑(List.length (Str.s (Prod.fst x))):Int)))) (fun(x:Str×Int×Unit)=>(↑(ZF (List.length (Str.s (Prod.fst x))+1) (Str.s (Prod.fst x)) (Int.toNat (Prod.fst (Prod.snd x)))):Int)) ps k
abbrev d2r(ps:List PV)(k:Tok->Prop):Prop:=Um (fun(x:Str×Unit)=>decide (List.length (Str.s (Prod.fst x))<=1048576)&& !List.isEmpty (Str.s (Prod.fst x))) (fun(x:Str×Unit)=>Tok.mk (Prod.fst (ZB (Prod.fst x))) (Prod.snd (ZB (Prod.fst x))) 0 0) ps k
noncomputable def JF:IC:=XG Proofs.Tryz.f139
def JU:List IRes:=[(.tmp 2),(.tmp 3)]
abbrev e0g:Nat:=46
noncomputable def BV:ZC:=YG [(136,.pure (preT (fun _:UInt8×Unit=>true)) (Zm (fun x:UInt8×Unit=>digB x.1)))]
theorem e4s{G:PV->Prop}(s:List UInt8)(h:At BV 0 (Za JU G) JF 0 46 [(0,(.pv (.str s))),(4,(.pv (.int .i64 0))),(5,(.pv (.int .i64 0)))] []):Zb BV 0 (Za JU G) JF [] (Yh 46 [.str s]):=Zb.tp (.nil) h
theorem c3x{G:PV->Prop}(s:List UInt8)(n:Int)(i:Nat)(h:if (decide ((↑i:Int)<(↑(List.length s):Int)))=true then(decide (0<=(↑i:Int))&&decide (Int.toNat (↑i:Int)<List.length s))=true∧((a3q [(.int IntKind.u8 (↑(UInt8.toNat (List.getD s (Int.toNat (↑i:Int)) (0:UInt8))):Int))] fun a=>(if (!a)=true then G ((.tup [(.int .i64 0),(.bool false)]))else(if (decide ((↑i:Int)>9))=true then G ((.tup [(.int .i64 0),(.bool false)]))else((decide (0<=(↑i:Int))&&decide (Int.toNat (↑i:Int)<List.length s))=true∧(At BV 0 (Za JU G) JF 0 46 [(0,(.pv (.str s))),(4,(.pv (.int .i64 (IntKind.wrap IntKind.i64 (IntKind.wrap IntKind.i64 (10*n)+IntKind.wrap IntKind.i64 (IntKind.wrap IntKind.u8 ((↑(UInt8.toNat (List.getD s (Int.toNat (↑i:Int)) (0:UInt8))):Int) - 48))))))),(5,(.pv (.int .i64 (IntKind.wrap IntKind.i64 ((↑i:Int)+1)))))] []))))))else(if (s==[])=true then G ((.tup [(.int .i64 0),(.bool false)]))else(if (decide ((↑(List.length s):Int)>1))=true then(decide (0<=0)&&decide (Int.toNat 0<List.length s))=true∧(if ((↑(UInt8.toNat (List.getD s (Int.toNat 0) (0:UInt8))):Int)==48)=true then G ((.tup [(.int .i64 0),(.bool false)]))else(if (decide (n>2147483648))=true then G ((.tup [(.int .i64 0),(.bool false)]))else(G ((.tup [(.int .i64 n),(.bool true)])))))else(if (decide (n>2147483648))=true then G ((.tup [(.int .i64 0),(.bool false)]))else(G ((.tup [(.int .i64 n),(.bool true)]))))))):At BV 0 (Za JU G) JF 0 46 [(0,.pv (.str s)),(4,.pv (.int .i64 n)),(5,.pv (.int .i64 (i:Int)))] []:=At.tp (dm [dv Bool] 93 0x1422222222200001422202220044222221201842222022222222200a42022212000142220222004451101942) h
noncomputable def JV:IC:=XG Proofs.Tryz.f140
def JK:List IRes:=[(.tmp 2)]
abbrev d9p:Nat:=38
noncomputable def BB:ZC:=YG []
theorem e5e{G:PV->Prop}(s:List UInt8)(h:At BB 0 (Za JK G) JV 0 38 [(0,(.pv (.str s))),(3,(.row 0 28 0 28)),(4,(.pv (.int .i64 0)))] [(.obj (.row false 9 1 [(.str [(46:UInt8),(46:UInt8)]),(.str [(61:UInt8),(61:UInt8)]),(.str [(33:UInt8),(61:UInt8)]),(.str [(60:UInt8),(61:UInt8)]),(.str [(62:UInt8),(61:UInt8)]),(.str [(45:UInt8),(62:UInt8)]),(.str [(38:UInt8),(38:UInt8)]),(.str [(124:UInt8),(124:UInt8)]),(.str [(40:UInt8)]),(.str [(41:UInt8)]),(.str [(91:UInt8)]),(.str [(93:UInt8)]),(.str [(123:UInt8)]),(.str [(125:UInt8)]),(.str [(44:UInt8)]),(.str [(58:UInt8)]),(.str [(46:UInt8)]),(.str [(64:UInt8)]),(.str [(35:UInt8)]),(.str [(61:UInt8)]),(.str [(60:UInt8)]),(.str [(62:UInt8)]),(.str [(43:UInt8)]),(.str [(45:UInt8)]),(.str [(42:UInt8)]),(.str [(47:UInt8)]),(.str [(37:UInt8)]),(.str [(33:UInt8)])]))]):Zb BB 0 (Za JK G) JV [] (Yh 38 [.str s]):=Zb.tp (.lit (.nil)) h
theorem b5c{G:PV->Prop}(s:List UInt8)(i:Nat)(h:if (decide ((↑i:Int)<(↑(28 - 0):Int)))=true then(decide (0<=(↑i:Int))&&decide (0+Int.toNat (↑i:Int)<28)&&List.length (List.map enc Yf)==28)=true∧((List.length (List.map enc Yf)==28&&decide (0+Int.toNat (↑i:Int)<List.length (List.map enc Yf)))=true∧((decide (0+List.length [Sh.str]<=List.length (PV.cells (List.getD (List.map enc Yf) (0+Int.toNat (↑i:Int)) default)))&&X6 (PV.cells (List.getD (List.map enc Yf) (0+Int.toNat (↑i:Int)) default)) 0 [Sh.str])=true∧(if (decide ((↑(List.length s):Int) ≥ (↑(List.length (PV.asStr (List.getD (PV.cells (List.getD (List.map enc Yf) (0+Int.toNat (↑i:Int)) default)) 0 default))):Int)))=true then(decide (0<=(↑i:Int))&&decide (0+Int.toNat (↑i:Int)<28)&&List.length (List.map enc Yf)==28)=true∧((List.length (List.map enc Yf)==28&&decide (0+Int.toNat (↑i:Int)<List.length (List.map enc Yf)))=true∧((decide (0+List.length [Sh.str]<=List.length (PV.cells (List.getD (List.map enc Yf) (0+Int.toNat (↑i:Int)) default)))&&X6 (PV.cells (List.getD (List.map enc Yf) (0+Int.toNat (↑i:Int)) default)) 0 [Sh.str])=true∧((true&&decide (0<=(↑(List.length (PV.asStr (List.getD (PV.cells (List.getD (List.map enc Yf) (0+Int.toNat (↑i:Int)) default)) 0 default))):Int))&&decide (0<=Int.toNat (↑(List.length (PV.asStr (List.getD (PV.cells (List.getD (List.map enc Yf) (0+Int.toNat (↑i:Int)) default)) 0 default))):Int))&&decide (Int.toNat (↑(List.length (PV.asStr (List.getD (PV.cells (List.getD (List.map enc Yf) (0+Int.toNat (↑i:Int)) default)) 0 default))):Int)<=List.length s))=true∧((decide (0<=(↑i:Int))&&decide (0+Int.toNat (↑i:Int)<28)&&List.length (List.map enc Yf)==28)=true∧((List.length (List.map enc Yf)==28&&decide (0+Int.toNat (↑i:Int)<List.length (List.map enc Yf)))=true∧((decide (0+List.length [Sh.str]<=List.length (PV.cells (List.getD (List.map enc Yf) (0+Int.toNat (↑i:Int)) default)))&&X6 (PV.cells (List.getD (List.map enc Yf) (0+Int.toNat (↑i:Int)) default)) 0 [Sh.str])=true∧(if (List.drop 0 (List.take (Int.toNat (↑(List.length (PV.asStr (List.getD (PV.cells (List.getD (List.map enc Yf) (0+Int.toNat (↑i:Int)) default)) 0 default))):Int)) s)==PV.asStr (List.getD (PV.cells (List.getD (List.map enc Yf) (0+Int.toNat (↑i:Int)) default)) 0 default))=true then(decide (0<=(↑i:Int))&&decide (0+Int.toNat (↑i:Int)<28)&&List.length (List.map enc Yf)==28)=true∧((List.length (List.map enc Yf)==28&&decide (0+Int.toNat (↑i:Int)<List.length (List.map enc Yf)))=true∧((decide (0+List.length [Sh.str]<=List.length (PV.cells (List.getD (List.map enc Yf) (0+Int.toNat (↑i:Int)) default)))&&X6 (PV.cells (List.getD (List.map enc Yf) (0+Int.toNat (↑i:Int)) default)) 0 [Sh.str])=true∧(G ((.str (PV.asStr (List.getD (PV.cells (List.getD (List.map enc Yf) (0+Int.toNat (↑i:Int)) default)) 0 default)))))))else(At BB 0 (Za JK G) JV 0 38 [(0,(.pv (.str s))),(3,(.row 0 28 0 28)),(4,(.pv (.int .i64 (IntKind.wrap IntKind.i64 ((↑i:Int)+1)))))] [(.obj (.row false 9 1 (List.map enc Yf)))]))))))))else(At BB 0 (Za JK G) JV 0 38 [(0,(.pv (.str s))),(3,(.row 0 28 0 28)),(4,(.pv (.int .i64 (IntKind.wrap IntKind.i64 ((↑i:Int)+1)))))] [(.obj (.row false 9 1 (List.map enc Yf)))]))))else(G ((.str [])))):At BB 0 (Za JK G) JV 0 38 [(0,.pv (.str s)),(3,.row 0 28 0 28),(4,.pv (.int .i64 (i:Int)))] [.obj (.row false 9 1 (List.map enc Yf))]:=At.tp (dm [] 64 0x2222222222222202011310054222112312221221123122202142113103942) h
noncomputable def VU:IC:=XG Proofs.Tryz.f94
def V3:List IRes:=[(.cell true 4 2)]
abbrev d4a:Nat:=80
noncomputable def Q8:ZC:=YG [(135,.pure (preT (fun _:UInt8×Unit=>true)) (Zm (fun x:UInt8×Unit=>lowB x.1))),(136,.pure (preT (fun _:UInt8×Unit=>true)) (Zm (fun x:UInt8×Unit=>digB x.1))),(137,.pure (preT (fun _:Str×Unit=>true)) (Zm (fun x:Str×Unit=>Wu.contains x.1.s))),(138,.pure (preT (fun x:Str×Unit=>decide (x.1.s.length<=1048576))) (Zm (fun x:Str×Unit=>nameI x.1.s))),(139,.pure (preT (fun x:Str×Unit=>decide (x.1.s.length<=1048576))) (Zm (fun x:Str×Unit=>Yx x.1))),(140,.pure (preT (fun x:Str×Unit=>decide (x.1.s.length<=1048576))) (Zm (fun x:Str×Unit=>(Zl Zg x.1.s).2)))]
theorem e0p{G:PV->Prop}(s:List UInt8)(h:(decide (0<=0)&&decide (Int.toNat 0<List.length s))=true∧((d1r [(.int IntKind.u8 (↑(UInt8.toNat (List.getD s (Int.toNat 0) (0:UInt8))):Int))] fun b=>(if (b)=true then At Q8 0 (Za V3 G) VU 0 80 [(0,(.pv (.str s))),(2,(.ptr 0 0)),(3,(.pv (.int .i64 0)))] [(.obj (.box [(.pv (.int .i64 0)),(.pv (.str [])),(.pv (.int .i64 0)),(.pv (.int .i64 0))]))]else((decide (0<=0)&&decide (Int.toNat 0<List.length s))=true∧((a3q [(.int IntKind.u8 (↑(UInt8.toNat (List.getD s (Int.toNat 0) (0:UInt8))):Int))] fun e=>(if (e)=true then At Q8 0 (Za V3 G) VU 1 80 [(0,(.pv (.str s))),(2,(.ptr 0 0)),(3,(.pv (.int .i64 0)))] [(.obj (.box [(.pv (.int .i64 0)),(.pv (.str [])),(.pv (.int .i64 0)),(.pv (.int .i64 0))]))]else((e4y [(.str s)] fun a=>(if (!Str.s a==[])=true then G ((.agg [(.int .i64 4),(.str (Str.s a)),(.int .i64 0),(.int .i64 0)]))else(G ((.agg [(.int .i64 0),(.str []),(.int .i64 0),(.int .i64 0)])))))))))))))):Zb Q8 0 (Za V3 G) VU [] (Yh 80 [.str s]):=Zb.tp (dm [dv Bool,dv Str] 26 0x142610001451100014511) h
theorem b5e{G:PV->Prop}(s:List UInt8)(k:Nat)(h:if (decide ((↑k:Int)<(↑(List.length s):Int)))=true then(decide (0<=(↑k:Int))&&decide (Int.toNat (↑k:Int)<List.length s))=true∧((d1r [(.int IntKind.u8 (↑(UInt8.toNat (List.getD s (Int.toNat (↑k:Int)) (0:UInt8))):Int))] fun g=>(if (g)=true then At Q8 0 (Za V3 G) VU 0 80 [(0,(.pv (.str s))),(2,(.ptr 0 0)),(3,(.pv (.int .i64 (IntKind.wrap IntKind.i64 ((↑k:Int)+1)))))] [(.obj (.box [(.pv (.int .i64 0)),(.pv (.str [])),(.pv (.int .i64 0)),(.pv (.int .i64 0))]))]else((decide (0<=(↑k:Int))&&decide (Int.toNat (↑k:Int)<List.length s))=true∧((a3q [(.int IntKind.u8 (↑(UInt8.toNat (List.getD s (Int.toNat (↑k:Int)) (0:UInt8))):Int))] fun j=>(if (j)=true then At Q8 0 (Za V3 G) VU 0 80 [(0,(.pv (.str s))),(2,(.ptr 0 0)),(3,(.pv (.int .i64 (IntKind.wrap IntKind.i64 ((↑k:Int)+1)))))] [(.obj (.box [(.pv (.int .i64 0)),(.pv (.str [])),(.pv (.int .i64 0)),(.pv (.int .i64 0))]))]else((true&&decide (0<=(↑k:Int))&&decide (0<=Int.toNat (↑k:Int))&&decide (Int.toNat (↑k:Int)<=List.length s))=true∧(d1t [(.str (List.drop 0 (List.take (Int.toNat (↑k:Int)) s)))] fun b=>(if (b)=true then(true&&decide (0<=(↑k:Int))&&decide (0<=Int.toNat (↑k:Int))&&decide (Int.toNat (↑k:Int)<=List.length s))=true∧(G ((.agg [(.int .i64 2),(.str (List.drop 0 (List.take (Int.toNat (↑k:Int)) s))),(.int .i64 0),(.int .i64 0)])))else((true&&decide (0<=(↑k:Int))&&decide (0<=Int.toNat (↑k:Int))&&decide (Int.toNat (↑k:Int)<=List.length s))=true∧((d1q [(.str (List.drop 0 (List.take (Int.toNat (↑k:Int)) s)))] fun l=>(if (l)=true then(true&&decide (0<=(↑k:Int))&&decide (0<=Int.toNat (↑k:Int))&&decide (Int.toNat (↑k:Int)<=List.length s))=true∧(G ((.agg [(.int .i64 1),(.str (List.drop 0 (List.take (Int.toNat (↑k:Int)) s))),(.int .i64 0),(.int .i64 0)])))else(G ((.agg [(.int .i64 0),(.str []),(.int .i64 0),(.int .i64 0)])))))))))))))))))else((true&&decide (0<=(↑k:Int))&&decide (0<=Int.toNat (↑k:Int))&&decide (Int.toNat (↑k:Int)<=List.length s))=true∧(d1t [(.str (List.drop 0 (List.take (Int.toNat (↑k:Int)) s)))] fun e=>(if (e)=true then(true&&decide (0<=(↑k:Int))&&decide (0<=Int.toNat (↑k:Int))&&decide (Int.toNat (↑k:Int)<=List.length s))=true∧(G ((.agg [(.int .i64 2),(.str (List.drop 0 (List.take (Int.toNat (↑k:Int)) s))),(.int .i64 0),(.int .i64 0)])))else((true&&decide (0<=(↑k:Int))&&decide (0<=Int.toNat (↑k:Int))&&decide (Int.toNat (↑k:Int)<=List.length s))=true∧((d1q [(.str (List.drop 0 (List.take (Int.toNat (↑k:Int)) s)))] fun a=>(if (a)=true then(true&&decide (0<=(↑k:Int))&&decide (0<=Int.toNat (↑k:Int))&&decide (Int.toNat (↑k:Int)<=List.length s))=true∧(G ((.agg [(.int .i64 1),(.str (List.drop 0 (List.take (Int.toNat (↑k:Int)) s))),(.int .i64 0),(.int .i64 0)])))else(G ((.agg [(.int .i64 0),(.str []),(.int .i64 0),(.int .i64 0)]))))))))))):At Q8 0 (Za V3 G) VU 0 80 [(0,.pv (.str s)),(2,.ptr 0 0),(3,.pv (.int .i64 (k:Int)))] [.obj (.box [.pv (.int .i64 0),.pv (.str []),.pv (.int .i64 0),.pv (.int .i64 0)])]:=At.tp (dm [dv Bool] 86 0x10024511010024521222222200100245110100245210200242225121220222222220094251212203642) h
theorem c2t{G:PV->Prop}(s:List UInt8)(k:Nat)(h:if (decide ((↑k:Int)<(↑(List.length s):Int)))=true then(decide (0<=(↑k:Int))&&decide (Int.toNat (↑k:Int)<List.length s))=true∧((a3q [(.int IntKind.u8 (↑(UInt8.toNat (List.getD s (Int.toNat (↑k:Int)) (0:UInt8))):Int))] fun a=>(if (a)=true then At Q8 0 (Za V3 G) VU 1 80 [(0,(.pv (.str s))),(2,(.ptr 0 0)),(3,(.pv (.int .i64 (IntKind.wrap IntKind.i64 ((↑k:Int)+1)))))] [(.obj (.box [(.pv (.int .i64 0)),(.pv (.str [])),(.pv (.int .i64 0)),(.pv (.int .i64 0))]))]else((true&&decide (0<=(↑k:Int))&&decide (0<=Int.toNat (↑k:Int))&&decide (Int.toNat (↑k:Int)<=List.length s))=true∧((d2v [(.str (List.drop 0 (List.take (Int.toNat (↑k:Int)) s)))] fun e=>(if e.2=true then(true&&decide (0<=(↑k:Int))&&decide (0<=Int.toNat (↑k:Int))&&decide (Int.toNat (↑k:Int)<=List.length s))=true∧(G ((.agg [(.int .i64 3),(.str (List.drop 0 (List.take (Int.toNat (↑k:Int)) s))),(.int .i64 0),(.int .i64 0)])))else(G ((.agg [(.int .i64 0),(.str []),(.int .i64 0),(.int .i64 0)]))))))))))else((true&&decide (0<=(↑k:Int))&&decide (0<=Int.toNat (↑k:Int))&&decide (Int.toNat (↑k:Int)<=List.length s))=true∧((d2v [(.str (List.drop 0 (List.take (Int.toNat (↑k:Int)) s)))] fun b=>(if b.2=true then(true&&decide (0<=(↑k:Int))&&decide (0<=Int.toNat (↑k:Int))&&decide (Int.toNat (↑k:Int)<=List.length s))=true∧(G ((.agg [(.int .i64 3),(.str (List.drop 0 (List.take (Int.toNat (↑k:Int)) s))),(.int .i64 0),(.int .i64 0)])))else(G ((.agg [(.int .i64 0),(.str []),(.int .i64 0),(.int .i64 0)])))))))):At Q8 0 (Za V3 G) VU 1 80 [(0,.pv (.str s)),(2,.ptr 0 0),(3,.pv (.int .i64 (k:Int)))] [.obj (.box [.pv (.int .i64 0),.pv (.str []),.pv (.int .i64 0),.pv (.int .i64 0)])]:=At.tp (dm [dv Bool,dv (Int×Bool)] 44 0x10024611222220010024611020024251212201742) h
noncomputable def XV:IC:=XG Proofs.Tryz.f93
def XO:List IRes:=[(.tmp 4)]
abbrev d6h:Nat:=61
noncomputable def Vf:ZC:=YG []
theorem e1t{G:PV->Prop}(s:List UInt8)(a:Int)(h:At Vf 0 (Za XO G) XV 0 61 [(0,(.pv (.str s))),(1,(.pv (.int .i64 a)))] []):Zb Vf 0 (Za XO G) XV [] (Yh 61 [.str s,.int .i64 a]):=Zb.tp (.nil) h
theorem b8s{G:PV->Prop}(s:List UInt8)(a:Int)(i:Nat)(h:if (decide ((↑i:Int)<(↑(List.length s):Int)))=true then(decide (0<=(↑i:Int))&&decide (Int.toNat (↑i:Int)<List.length s))=true∧(if ((↑(UInt8.toNat (List.getD s (Int.toNat (↑i:Int)) (0:UInt8))):Int)==32)=true then At Vf 0 (Za XO G) XV 0 61 [(0,(.pv (.str s))),(1,(.pv (.int .i64 (IntKind.wrap IntKind.i64 ((↑i:Int)+1)))))] []else((decide (0<=(↑i:Int))&&decide (Int.toNat (↑i:Int)<List.length s))=true∧(if ((↑(UInt8.toNat (List.getD s (Int.toNat (↑i:Int)) (0:UInt8))):Int)==9)=true then At Vf 0 (Za XO G) XV 0 61 [(0,(.pv (.str s))),(1,(.pv (.int .i64 (IntKind.wrap IntKind.i64 ((↑i:Int)+1)))))] []else((decide (0<=(↑i:Int))&&decide (Int.toNat (↑i:Int)<List.length s))=true∧(if ((↑(UInt8.toNat (List.getD s (Int.toNat (↑i:Int)) (0:UInt8))):Int)==10)=true then At Vf 0 (Za XO G) XV 0 61 [(0,(.pv (.str s))),(1,(.pv (.int .i64 (IntKind.wrap IntKind.i64 ((↑i:Int)+1)))))] []else((decide (0<=(↑i:Int))&&decide (Int.toNat (↑i:Int)<List.length s))=true∧(if ((↑(UInt8.toNat (List.getD s (Int.toNat (↑i:Int)) (0:UInt8))):Int)==47)=true then if (decide (IntKind.wrap IntKind.i64 ((↑i:Int)+1)<(↑(List.length s):Int)))=true then(decide (0<=IntKind.wrap IntKind.i64 ((↑i:Int)+1))&&decide (Int.toNat (IntKind.wrap IntKind.i64 ((↑i:Int)+1))<List.length s))=true∧(if ((↑(UInt8.toNat (List.getD s (Int.toNat (IntKind.wrap IntKind.i64 ((↑i:Int)+1))) (0:UInt8))):Int)==47)=true then At Vf 0 (Za XO G) XV 1 61 [(0,(.pv (.str s))),(1,(.pv (.int .i64 (↑i:Int))))] []else(G ((.int .i64 (↑i:Int)))))else(G ((.int .i64 (↑i:Int))))else(G ((.int .i64 (↑i:Int)))))))))))else(G ((.int .i64 (↑i:Int))))):At Vf 0 (Za XO G) XV 0 61 [(0,.pv (.str s)),(1,.pv (.int .i64 (i:Int)))] []:=At.tp (dm [] 105 0x22222222222202222220000142221222200e422222220204210200242221220222222007422212202222222222200c42106242) h
theorem OY{G:PV->Prop}(s:List UInt8)(a:Int)(i:Nat)(h:if (decide ((↑i:Int)<(↑(List.length s):Int)))=true then(decide (0<=(↑i:Int))&&decide (Int.toNat (↑i:Int)<List.length s))=true∧(if ((↑(UInt8.toNat (List.getD s (Int.toNat (↑i:Int)) (0:UInt8))):Int) != 10)=true then At Vf 0 (Za XO G) XV 1 61 [(0,(.pv (.str s))),(1,(.pv (.int .i64 (IntKind.wrap IntKind.i64 ((↑i:Int)+1)))))] []else(At Vf 0 (Za XO G) XV 0 61 [(0,(.pv (.str s))),(1,(.pv (.int .i64 (↑i:Int))))] []))else(At Vf 0 (Za XO G) XV 0 61 [(0,(.pv (.str s))),(1,(.pv (.int .i64 (↑i:Int))))] [])):At Vf 0 (Za XO G) XV 1 61 [(0,.pv (.str s)),(1,.pv (.int .i64 (i:Int)))] []:=At.tp (dm [] 25 0x22222002002422212200d42) h
noncomputable def Y6:IC:=XG Proofs.Tryz.f53
def Y5:List IRes:=[(.tmp 2),(.tmp 3),(.tmp 4)]
abbrev b3f:Nat:=59
noncomputable def Wp:ZC:=YG [(93,.pure (preT (fun x:Str×Int×Unit=>decide (x.1.s.length<=1048576)&&(decide (0<=x.2.1)&&decide (x.2.1<=x.1.s.length)))) (Zm (fun x:Str×Int×Unit=>((ZF (x.1.s.length+1) x.1.s x.2.1.toNat:Nat):Int)))),(94,.pure (preT (fun x:Str×Unit=>decide (x.1.s.length<=1048576)&& !x.1.s.isEmpty)) (Zm (fun x:Str×Unit=>(⟨(ZB x.1).1,(ZB x.1).2,0,0⟩:Tok))))]
theorem e3v{G:PV->Prop}(s:List UInt8)(h:if (decide ((↑(List.length s):Int)>20000))=true then G ((.tup [(.sl 0 true []),(.int .i64 0),(.int .i64 3)]))else((b3t [(.str s),(.int .i64 0)] fun a=>(At Wp 0 (Za Y5 G) Y6 0 59 [(0,(.pv (.str s))),(5,(.pv (.sl 0 true []))),(6,(.pv (.int .i64 1))),(7,(.pv (.int .i64 0))),(8,(.pv (.int .i64 a)))] [])))):Zb Wp 0 (Za Y5 G) Y6 [] (Yh 59 [.str s]):=Zb.tp (dm [dv Int] 10 0x51000142) h
theorem a3f{G:PV->Prop}(s:List UInt8)(ln fr a:Int)(h:if (decide (a<(↑(List.length s):Int)))=true then(decide (0<=a)&&true&&decide (Int.toNat a<=List.length s)&&decide (List.length s<=List.length s))=true∧((d2r [(.str (List.drop (Int.toNat a) (List.take (List.length s) s)))] fun b=>(if (Tok.k b==0)=true then G ((.tup [(.sl 0 true []),(.int .i64 a),(.int .i64 6)]))else(At Wp 0 (Za Y5 G) Y6 1 59 [(0,(.pv (.str s))),(5,(.pv (.sl 0 true []))),(6,(.pv (.int .i64 ln))),(7,(.pv (.int .i64 fr))),(8,(.pv (.int .i64 a))),(9,(.ptr 0 0))] [(.obj (.box [(.pv (.int .i64 (Tok.k b))),(.pv (.str (Str.s (Tok.t b)))),(.pv (.int .i64 (Tok.ln b))),(.pv (.int .i64 (Tok.o b)))]))]))))else(G ((.tup [(.sl 0 true []),(.int .i64 0),(.int .i64 0)])))):At Wp 0 (Za Y5 G) Y6 0 59 [(0,.pv (.str s)),(5,.pv (.sl 0 true [])),(6,.pv (.int .i64 ln)),(7,.pv (.int .i64 fr)),(8,.pv (.int .i64 a))] []:=At.tp (dm [dv Tok] 19 0x2200014251100c42) h
theorem a5h{G:PV->Prop}(s:List UInt8)(ln fr a:Int)(o:List Tok)(L:Nat)(h:if (decide (a<(↑(List.length s):Int)))=true then(decide (0<=a)&&true&&decide (Int.toNat a<=List.length s)&&decide (List.length s<=List.length s))=true∧((d2r [(.str (List.drop (Int.toNat a) (List.take (List.length s) s)))] fun b=>(if (Tok.k b==0)=true then G ((.tup [(.sl 0 true []),(.int .i64 a),(.int .i64 6)]))else(if ((↑(L - 0):Int)==4000)=true then G ((.tup [(.sl 0 true []),(.int .i64 a),(.int .i64 3)]))else(At Wp 0 (Za Y5 G) Y6 1 59 [(0,(.pv (.str s))),(5,(.row 0 L 0 L)),(6,(.pv (.int .i64 ln))),(7,(.pv (.int .i64 fr))),(8,(.pv (.int .i64 a))),(9,(.ptr 1 0))] [(.obj (.row false 83 4 (List.map enc o))),(.obj (.box [(.pv (.int .i64 (Tok.k b))),(.pv (.str (Str.s (Tok.t b)))),(.pv (.int .i64 (Tok.ln b))),(.pv (.int .i64 (Tok.o b)))]))])))))else((List.length (List.map enc o)==L)=true∧(G ((.tup [(.sl 4 false (List.drop 0 (List.take L (List.map enc o)))),(.int .i64 0),(.int .i64 0)]))))):At Wp 0 (Za Y5 G) Y6 0 59 [(0,.pv (.str s)),(5,.row 0 L 0 L),(6,.pv (.int .i64 ln)),(7,.pv (.int .i64 fr)),(8,.pv (.int .i64 a))] [.obj (.row false 83 4 (o.map enc))]:=At.tp (dm [dv Tok] 24 0x1000014200014251101042) h
theorem a6n{G:PV->Prop}(s:List UInt8)(ln fr a:Int)(t:Tok)(h:if (decide (fr<a))=true then(decide (0<=fr)&&decide (Int.toNat fr<List.length s))=true∧(if ((↑(UInt8.toNat (List.getD s (Int.toNat fr) (0:UInt8))):Int)==10)=true then At Wp 0 (Za Y5 G) Y6 1 59 [(0,(.pv (.str s))),(5,(.pv (.sl 0 true []))),(6,(.pv (.int .i64 (IntKind.wrap IntKind.i64 (ln+1))))),(7,(.pv (.int .i64 (IntKind.wrap IntKind.i64 (fr+1))))),(8,(.pv (.int .i64 a))),(9,(.ptr 0 0))] [(.obj (.box [(.pv (.int .i64 (Tok.k t))),(.pv (.str (Str.s (Tok.t t)))),(.pv (.int .i64 (Tok.ln t))),(.pv (.int .i64 (Tok.o t)))]))]else(At Wp 0 (Za Y5 G) Y6 1 59 [(0,(.pv (.str s))),(5,(.pv (.sl 0 true []))),(6,(.pv (.int .i64 ln))),(7,(.pv (.int .i64 (IntKind.wrap IntKind.i64 (fr+1))))),(8,(.pv (.int .i64 a))),(9,(.ptr 0 0))] [(.obj (.box [(.pv (.int .i64 (Tok.k t))),(.pv (.str (Str.s (Tok.t t)))),(.pv (.int .i64 (Tok.ln t))),(.pv (.int .i64 (Tok.o t)))]))]))else((b3t [(.str s),(.int .i64 (IntKind.wrap IntKind.i64 (a+(↑(List.length (Str.s (Tok.t t))):Int))))] fun b=>(At Wp 0 (Za Y5 G) Y6 0 59 [(0,(.pv (.str s))),(5,(.row 0 1 0 1)),(6,(.pv (.int .i64 ln))),(7,(.pv (.int .i64 fr))),(8,(.pv (.int .i64 b)))] [(.obj (.row false 83 4 [(.agg [(.int .i64 (Tok.k t)),(.str (Str.s (Tok.t t))),(.int .i64 ln),(.int .i64 a)])]))])))):At Wp 0 (Za Y5 G) Y6 1 59 [(0,.pv (.str s)),(5,.pv (.sl 0 true [])),(6,.pv (.int .i64 ln)),(7,.pv (.int .i64 fr)),(8,.pv (.int .i64 a)),(9,.ptr 0 0)] [.obj (.box [.pv (enc t.k),.pv (enc t.t),.pv (enc t.ln),.pv (enc t.o)])]:=At.tp (dm [dv Int] 26 0x512222220202200342100b42) h
theorem a5k{G:PV->Prop}(s:List UInt8)(ln fr a:Int)(t:Tok)(o:List Tok)(L:Nat)(h:if (decide (fr<a))=true then(decide (0<=fr)&&decide (Int.toNat fr<List.length s))=true∧(if ((↑(UInt8.toNat (List.getD s (Int.toNat fr) (0:UInt8))):Int)==10)=true then At Wp 0 (Za Y5 G) Y6 1 59 [(0,(.pv (.str s))),(5,(.row 0 L 0 L)),(6,(.pv (.int .i64 (IntKind.wrap IntKind.i64 (ln+1))))),(7,(.pv (.int .i64 (IntKind.wrap IntKind.i64 (fr+1))))),(8,(.pv (.int .i64 a))),(9,(.ptr 1 0))] [(.obj (.row false 83 4 (List.map enc o))),(.obj (.box [(.pv (.int .i64 (Tok.k t))),(.pv (.str (Str.s (Tok.t t)))),(.pv (.int .i64 (Tok.ln t))),(.pv (.int .i64 (Tok.o t)))]))]else(At Wp 0 (Za Y5 G) Y6 1 59 [(0,(.pv (.str s))),(5,(.row 0 L 0 L)),(6,(.pv (.int .i64 ln))),(7,(.pv (.int .i64 (IntKind.wrap IntKind.i64 (fr+1))))),(8,(.pv (.int .i64 a))),(9,(.ptr 1 0))] [(.obj (.row false 83 4 (List.map enc o))),(.obj (.box [(.pv (.int .i64 (Tok.k t))),(.pv (.str (Str.s (Tok.t t)))),(.pv (.int .i64 (Tok.ln t))),(.pv (.int .i64 (Tok.o t)))]))]))else((List.length (List.map enc o)==L&&L==L&&decide ((L+List.length (List.drop 0 (List.take 1 [PV.agg [enc (Tok.k t),enc (Tok.t t),PV.int .i64 ln,PV.int .i64 a]])))*40<=1099511627776)&&decide (L+List.length (List.drop 0 (List.take 1 [PV.agg [enc (Tok.k t),enc (Tok.t t),PV.int .i64 ln,PV.int .i64 a]]))<=1099511627776))=true∧((b3t [(.str s),(.int .i64 (IntKind.wrap IntKind.i64 (a+(↑(List.length (Str.s (Tok.t t))):Int))))] fun b=>(At Wp 0 (Za Y5 G) Y6 0 59 [(0,(.pv (.str s))),(5,(.row 0 (L+List.length (List.drop 0 (List.take 1 [PV.agg [enc (Tok.k t),enc (Tok.t t),PV.int .i64 ln,PV.int .i64 a]]))) 0 (L+List.length (List.drop 0 (List.take 1 [PV.agg [enc (Tok.k t),enc (Tok.t t),PV.int .i64 ln,PV.int .i64 a]]))))),(6,(.pv (.int .i64 ln))),(7,(.pv (.int .i64 fr))),(8,(.pv (.int .i64 b)))] [(.obj (.row false 83 4 (List.map enc o++List.drop 0 (List.take 1 [PV.agg [enc (Tok.k t),enc (Tok.t t),PV.int .i64 ln,PV.int .i64 a]]))))]))))):At Wp 0 (Za Y5 G) Y6 1 59 [(0,.pv (.str s)),(5,.row 0 L 0 L),(6,.pv (.int .i64 ln)),(7,.pv (.int .i64 fr)),(8,.pv (.int .i64 a)),(9,.ptr 1 0)] [.obj (.row false 83 4 (o.map enc)),.obj (.box [.pv (enc t.k),.pv (enc t.t),.pv (enc t.ln),.pv (enc t.o)])]:=At.tp (dm [dv Int] 24 0x5121220202200342100b42) h
theorem Tv{n:Int}{b:Bool}:Zk ((n,b):Int×Bool) (.tup [.int .i64 n,.bool b]):=⟨rfl,rfl⟩
theorem WY{s:List UInt8}{i:Nat}(h:i<s.length):(decide (0<=(i:Int))&&decide (Int.toNat (i:Int)<List.length s))=true:=by simp;omega
theorem Wz{s:List UInt8}{k:Nat}(h:k<=s.length):(true&&decide (0<=(k:Int))&&decide (0<=Int.toNat (k:Int))&&decide (Int.toNat (k:Int)<=List.length s))=true:=by simp;omega
theorem Nf(s:List UInt8)(k:Nat):List.drop 0 (List.take (Int.toNat (k:Int)) s)=s.take k:=by rw[List.drop_zero,Int.toNat_natCast]
theorem a3s: ∀ (d:List UInt8) (n:Int) (k:Nat),0<=n->n<10 ^ k->d.all digB=true->0<=d.foldl (fun n c=>10*n+((c.toNat:Int) - 48)) n∧d.foldl (fun n c=>10*n+((c.toNat:Int) - 48)) n<10 ^ (k+d.length)
 | [],n,k,a,h1,_=>⟨a,h1⟩
 | c::d,n,k,a,h1,h=>by
  rw[List.all_cons,Bool.and_eq_true]at h
  have hc:=h.1
  unfold digB at hc
  simp only[Bool.and_eq_true,decide_eq_true_eq]at hc
  have c1:48<=c.toNat:=hc.1
  have c2:c.toNat<=57:=hc.2
  rw[List.foldl_cons,List.length_cons,show k+(d.length+1)=(k+1)+d.length by omega]
  refine a3s d _ (k+1) (by omega) ?_ h.2
  rw[Int.pow_succ]
  generalize (10:Int) ^ k=P at *
  omega
theorem d9f(d:List UInt8)(h:d.all digB=true):0<=VI d∧VI d<10 ^ d.length:=by
 have:=a3s d 0 0 (by decide) (by decide) h
 rw[Nat.zero_add]at this
 exact this
theorem c2d{s:List UInt8}(hd:s.all digB=true)(q:s.length<=10)(hs:s.length<=1048576):At BV 0 (Za JU (Zk (Yx ⟨s⟩))) JF 0 46 [(0,.pv (.str s)),(4,.pv (.int .i64 (VI s))),(5,.pv (.int .i64 (s.length:Int)))] []:=by
 have g : ∀ b,UA s=b->Yx ⟨s⟩=if b then(VI s,true)else(0,false):=fun b h=>by unfold Yx;rw[h]
 refine c3x s _ _ (Y1 (XQ (by omega)) (Z7 (fun a=> ?_) fun a=> ?_))
 ·have a:s=[]:=a
  subst a
  exact Tv
 ·have a:s≠[]:=a
  have hp:0<s.length:=List.length_pos_iff.2 a
  have l:s.isEmpty=false:=by cases s with|nil=>exact absurd rfl a|cons _ _=>rfl
  have big : ∀ (b:Bool),(decide (s.head? = some 48)&&decide (1<s.length))=b->b=false->if decide (VI s>2147483648)=true then Zk (Yx ⟨s⟩) (.tup [.int .i64 0,.bool false])else Zk (Yx ⟨s⟩) (.tup [.int .i64 (VI s),.bool true]):=fun b hb k=>by
   refine Y4 (fun h3=> ?_) fun h3=> ?_
   ·rw[g false (by unfold UA;rw[decide_eq_false (show ¬ VI s<=2147483648 by omega),Bool.and_false])]
    exact Tv
   ·rw[g true (by unfold UA;rw[l,decide_eq_true q,hd,hb,k,decide_eq_true (show VI s<=2147483648 by omega)];rfl)]
    exact Tv
  refine Y4 (fun h1=>⟨by simp;omega,Z7 (fun h2=> ?_) fun h2=> ?_⟩) fun h1=> ?_
  ·have j:s.head? = some 48:=by
    cases s with
    | nil=>exact absurd rfl a
    | cons c r=>
     have h2:(c.toNat:Int)=48:=h2
     have:c=48:=UInt8.toNat_inj.1 (by show c.toNat=48;omega)
     rw[this];rfl
   rw[g false (by unfold UA;rw[decide_eq_true j,decide_eq_true (show 1<s.length by omega)];simp)]
   exact Tv
  ·have j:s.head? ≠ some 48:=by
    cases s with
    | nil=>exact absurd rfl a
    | cons c r=>
     have h2:(c.toNat:Int)≠48:=h2
     intro e
     have e:c=48:=by simpa using e
     rw[e]at h2
     exact h2 rfl
   exact big _ rfl (by rw[decide_eq_false j];rfl)
  ·exact big _ rfl (by rw[decide_eq_false (show ¬ 1<s.length by omega),Bool.and_false])
theorem b9y(s:List UInt8)(hs:s.length<=1048576): ∀ (m i:Nat),i+m=s.length->i<=10->(s.take i).all digB=true->At BV 0 (Za JU (Zk (Yx ⟨s⟩))) JF 0 46 [(0,.pv (.str s)),(4,.pv (.int .i64 (VI (s.take i)))),(5,.pv (.int .i64 (i:Int)))] []:=by
 intro m
 induction m with
 | zero=>
  intro i hi b hd
  have e:i=s.length:=by omega
  subst e
  rw[List.take_length]at hd ⊢
  exact c2d hd b hs
 | succ m ih=>
  intro i hi b hd
  have a:i<s.length:=by omega
  have k:s.getD (Int.toNat (i:Int)) 0=s[i]:=by rw[Int.toNat_natCast,List.getD_eq_getElem?_getD,List.getElem?_eq_getElem a];rfl
  refine c3x s _ i (YP (Xp a) ⟨WY a,?_⟩)
  rw[k]
  refine⟨Zf (s[i],()) rfl rfl,Zc (s[i],()) rfl (YN (fun h1=> ?_) fun h1=>Y4 (fun h2=> ?_) fun h2=>⟨WY a,?_⟩)⟩
  ·have h1:digB s[i]=false:=h1
   have j:UA s=false:=by
    have:s.all digB=false:=by
     rw[List.all_eq_false]
     exact⟨s[i],List.getElem_mem a,by rw[h1];decide⟩
    unfold UA
    rw[this];simp
   rw[show Yx ⟨s⟩=(0,false) by unfold Yx;rw[j];rfl]
   exact Tv
  ·have j:UA s=false:=by
    unfold UA
    rw[decide_eq_false (show ¬ s.length<=10 by omega)];simp
   rw[show Yx ⟨s⟩=(0,false) by unfold Yx;rw[j];rfl]
   exact Tv
  ·have h1:digB s[i]=true:=h1
   have h:(s.take (i+1)).all digB=true:=by
    rw[List.take_add_one,List.getElem?_eq_getElem a,List.all_append,hd]
    show(true&&(digB s[i]&&true))=true
    rw[h1];rfl
   have hn:=d9f _ hd
   have g:(s.take i).length=i:=by rw[List.length_take];omega
   rw[g]at hn
   have hp:(10:Int) ^ i<=10 ^ 10:=by
    have:(10:Nat) ^ i<=10 ^ 10:=Nat.pow_le_pow_right (by omega) b
    exact_mod_cast this
   have hp2:(10:Int) ^ 10=10000000000:=by decide
   have c1:48<=s[i].toNat:=by
    unfold digB at h1
    simp only[Bool.and_eq_true,decide_eq_true_eq]at h1
    exact h1.1
   have c2:s[i].toNat<=57:=by
    unfold digB at h1
    simp only[Bool.and_eq_true,decide_eq_true_eq]at h1
    exact h1.2
   have q:VI (s.take (i+1))=10*VI (s.take i)+((s[i].toNat:Int) - 48):=by
    rw[List.take_add_one,List.getElem?_eq_getElem a]
    show VI (s.take i++[s[i]])=_
    unfold VI
    rw[List.foldl_append]
    rfl
   have l:IntKind.wrap IntKind.u8 ((s[i].toNat:Int) - 48)=(s[i].toNat:Int) - 48:=by
    show((s[i].toNat:Int) - 48) % 256=_
    omega
   rw[l,Xi (n:=(s[i].toNat:Int) - 48) (by omega) (by omega),Xi (n:=10*VI (s.take i)) (by omega) (by omega),Xi (n:=10*VI (s.take i)+((s[i].toNat:Int) - 48)) (by omega) (by omega),<- q,next (by omega)]
   exact ih (i+1) (by omega) (by omega) h
theorem c6b: ∀ a:Str×Unit,decide (a.1.s.length<=1048576)=true->Zb BV 0 (Za JU (Zk (Yx a.1))) JF [] (Yh e0g (encL a)):=by
 rintro⟨⟨s⟩,⟨⟩⟩ h
 have hs:s.length<=1048576:=of_decide_eq_true h
 exact e4s s (b9y s hs s.length 0 (by omega) (by omega) rfl)
theorem EL:Zg.length=28:=rfl
theorem d3t{i:Nat}(h:i<28):List.getD (List.map (enc:Str->PV) Yf) (0+Int.toNat (i:Int)) default = .str (Zg[i]'(by rw[EL];exact h)):=by
 rw[Nat.zero_add,Int.toNat_natCast,List.getD_eq_getElem?_getD]
 unfold Yf
 rw[List.map_map,List.getElem?_map,List.getElem?_eq_getElem (by rw[EL];exact h)]
 rfl
theorem c0j(s:List UInt8)(hs:s.length<=1048576): ∀ (m i:Nat),i+m=28->At BB 0 (Za JK (Zk (Zl (Zg.drop i) s).2)) JV 0 38 [(0,.pv (.str s)),(3,.row 0 28 0 28),(4,.pv (.int .i64 (i:Int)))] [.obj (.row false 9 1 (List.map enc Yf))]:=by
 intro m
 induction m with
 | zero=>
  intro i hi
  have e:i=28:=by omega
  subst e
  exact b5c s 28 (Y1 (by decide) (Dj rfl))
 | succ m ih=>
  intro i hi
  have b:i<28:=by omega
  have j:i<Zg.length:=by rw[EL];exact b
  have k:Zg.drop i=Zg[i]::Zg.drop (i+1):=List.drop_eq_getElem_cons j
  have h:(decide (0<=(i:Int))&&decide (0+Int.toNat (i:Int)<28)&&List.length (List.map (enc:Str->PV) Yf)==28)=true:=by
   rw[decide_eq_true (show(0:Int)<=(i:Int) by omega),decide_eq_true (show 0+Int.toNat (i:Int)<28 by omega)]
   rfl
  have g:(List.length (List.map (enc:Str->PV) Yf)==28&&decide (0+Int.toNat (i:Int)<List.length (List.map (enc:Str->PV) Yf)))=true:=by
   rw[decide_eq_true (show 0+Int.toNat (i:Int)<List.length (List.map (enc:Str->PV) Yf) by show 0+Int.toNat (i:Int)<28;omega)]
   rfl
  have a:=ih (i+1) (by omega)
  rw[k,Zl,c8a]
  refine b5c s i ?_
  rw[d3t b,next (by omega)]
  generalize Zg[i]=w
  refine YP (by simp;omega) ⟨h,g,rfl,?_⟩
  have l:PV.asStr (List.getD (PV.cells (.str w)) 0 default)=w:=rfl
  rw[l]
  refine Y4 (fun h1=>⟨h,g,rfl,by simp;omega,h,g,rfl,?_⟩) fun h1=> ?_
  ·rw[decide_eq_true (show w.length<=s.length by omega),Bool.true_and,Int.toNat_natCast,List.drop_zero]
   refine ZW (fun h2=> ?_) fun h2=> ?_
   ·rw[h2]
    exact⟨h,g,rfl,Dj rfl⟩
   ·rw[h2]
    exact a
  ·rw[decide_eq_false (show ¬ w.length<=s.length by omega),Bool.false_and]
   exact a
theorem c8u: ∀ a:Str×Unit,decide (a.1.s.length<=1048576)=true->Zb BB 0 (Za JK (Zk (Zl Zg a.1.s).2)) JV [] (Yh d9p (encL a)):=by
 rintro⟨⟨s⟩,⟨⟩⟩ h
 exact e5e s (c0j s (of_decide_eq_true h) 28 0 rfl)
theorem Q3{k:Int}{w:List UInt8}:Zk (⟨k,⟨w⟩,0,0⟩:Tok) (.agg [.int .i64 k,.str w,.int .i64 0,.int .i64 0]):=d5y ⟨k,⟨w⟩,0,0⟩
def LP(w:List UInt8):Tok:=if Wu.contains w then⟨2,⟨w⟩,0,0⟩else if nameI w then⟨1,⟨w⟩,0,0⟩else⟨0,⟨[]⟩,0,0⟩
def Fz(w:List UInt8):Tok:=if (Yx ⟨w⟩).2 then⟨3,⟨w⟩,0,0⟩else⟨0,⟨[]⟩,0,0⟩
theorem e4c(s:List UInt8)(hs:s.length<=1048576)(R:Tok)(r:R=LP (Yr ⟨s⟩ true).s): ∀ (m k:Nat),k+m=s.length->(∀ c∈s.take k,(digB c||(true&&lowB c))=true)->At Q8 0 (Za V3 (Zk R)) VU 0 80 [(0,.pv (.str s)),(2,.ptr 0 0),(3,.pv (.int .i64 (k:Int)))] [.obj (.box [.pv (.int .i64 0),.pv (.str []),.pv (.int .i64 0),.pv (.int .i64 0)])]:=by
 have leaf : ∀ k:Nat,k<=s.length->(∀ c∈s.take k,(digB c||(true&&lowB c))=true)->(k=s.length∨(digB (s.getD k 0)||(true&&lowB (s.getD k 0)))=false)->R=LP (s.take k):=fun k j hc u=>by
  rw[r]
  congr 1
  exact(JL (p:=fun c=>digB c||(true&&lowB c)) j hc u).symm
 intro m
 induction m with
 | zero=>
  intro k j hc
  have e:k=s.length:=by omega
  have g:=leaf k (by omega) hc (Or.inl e)
  have a:(s.take k).length<=1048576:=by rw[List.length_take];omega
  refine b5e s k (Y1 (XQ (by omega)) ⟨Wz (by omega),?_⟩)
  rw[Nf]
  unfold LP at g
  generalize s.take k=w at g a
  subst g
  refine Zc ((⟨w⟩:Str),()) rfl (ZW (fun h1=>⟨Wz (by omega),?_⟩) fun h1=>⟨Wz (by omega),Zf ((⟨w⟩:Str),()) rfl (decide_eq_true a),Zc ((⟨w⟩:Str),()) rfl (ZW (fun h2=>⟨Wz (by omega),?_⟩) fun h2=> ?_)⟩)
  ·rw[if_pos h1];exact Q3
  ·have h1:Wu.contains w=false:=h1
   have h2:nameI w=true:=h2
   rw[h1,h2];exact Q3
  ·have h1:Wu.contains w=false:=h1
   have h2:nameI w=false:=h2
   rw[h1,h2];exact Q3
 | succ m ih=>
  intro k j hc
  have b:k<s.length:=by omega
  have q:s.getD (Int.toNat (k:Int)) 0=s[k]:=by rw[Int.toNat_natCast,List.getD_eq_getElem?_getD,List.getElem?_eq_getElem b];rfl
  have l:s.getD k 0=s[k]:=by rw[List.getD_eq_getElem?_getD,List.getElem?_eq_getElem b];rfl
  have go:(digB s[k]||(true&&lowB s[k]))=true->At Q8 0 (Za V3 (Zk R)) VU 0 80 [(0,.pv (.str s)),(2,.ptr 0 0),(3,.pv (.int .i64 (IntKind.i64.wrap ((k:Int)+1))))] [.obj (.box [.pv (.int .i64 0),.pv (.str []),.pv (.int .i64 0),.pv (.int .i64 0)])]:=fun y=>by
   rw[next (by omega)]
   refine ih (k+1) (by omega) fun c h=> ?_
   rw[List.take_add_one,List.getElem?_eq_getElem b]at h
   rcases List.mem_append.1 h with h|h
   ·exact hc c h
   ·obtain rfl:c=s[k]:=by simpa using h
    exact y
  refine b5e s k (YP (Xp b) ⟨WY b,?_⟩)
  rw[q]
  refine⟨Zf (s[k],()) rfl rfl,Zc (s[k],()) rfl (ZW (fun h1=> ?_) fun h1=>⟨WY b,Zf (s[k],()) rfl rfl,Zc (s[k],()) rfl (ZW (fun h2=> ?_) fun h2=>⟨Wz (by omega),?_⟩)⟩)⟩
  ·have h1:lowB s[k]=true:=h1
   exact go (by rw[h1];simp)
  ·have h2:digB s[k]=true:=h2
   exact go (by rw[h2];rfl)
  ·have h1:lowB s[k]=false:=h1
   have h2:digB s[k]=false:=h2
   have g:=leaf k (by omega) hc (Or.inr (by rw[l,h1,h2];rfl))
   have a:(s.take k).length<=1048576:=by rw[List.length_take];omega
   rw[Nf]
   unfold LP at g
   generalize s.take k=w at g a
   subst g
   refine Zc ((⟨w⟩:Str),()) rfl (ZW (fun h1=>⟨Wz (by omega),?_⟩) fun h1=>⟨Wz (by omega),Zf ((⟨w⟩:Str),()) rfl (decide_eq_true a),Zc ((⟨w⟩:Str),()) rfl (ZW (fun h2=>⟨Wz (by omega),?_⟩) fun h2=> ?_)⟩)
   ·rw[if_pos h1];exact Q3
   ·have h1:Wu.contains w=false:=h1
    have h2:nameI w=true:=h2
    rw[h1,h2];exact Q3
   ·have h1:Wu.contains w=false:=h1
    have h2:nameI w=false:=h2
    rw[h1,h2];exact Q3
theorem e4x(s:List UInt8)(hs:s.length<=1048576)(R:Tok)(r:R=Fz (Yr ⟨s⟩ false).s): ∀ (m k:Nat),k+m=s.length->(∀ c∈s.take k,(digB c||(false&&lowB c))=true)->At Q8 0 (Za V3 (Zk R)) VU 1 80 [(0,.pv (.str s)),(2,.ptr 0 0),(3,.pv (.int .i64 (k:Int)))] [.obj (.box [.pv (.int .i64 0),.pv (.str []),.pv (.int .i64 0),.pv (.int .i64 0)])]:=by
 have leaf : ∀ k:Nat,k<=s.length->(∀ c∈s.take k,(digB c||(false&&lowB c))=true)->(k=s.length∨(digB (s.getD k 0)||(false&&lowB (s.getD k 0)))=false)->R=Fz (s.take k):=fun k j hc u=>by
  rw[r]
  congr 1
  exact(JL (p:=fun c=>digB c||(false&&lowB c)) j hc u).symm
 intro m
 induction m with
 | zero=>
  intro k j hc
  have e:k=s.length:=by omega
  have g:=leaf k (by omega) hc (Or.inl e)
  have a:(s.take k).length<=1048576:=by rw[List.length_take];omega
  refine c2t s k (Y1 (XQ (by omega)) ⟨Wz (by omega),?_⟩)
  rw[Nf]
  unfold Fz at g
  generalize s.take k=w at g a
  subst g
  refine⟨Zf ((⟨w⟩:Str),()) rfl (decide_eq_true a),Zc ((⟨w⟩:Str),()) rfl (ZW (fun h2=>⟨Wz (by omega),?_⟩) fun h2=> ?_)⟩
  ·have h2:(Yx ⟨w⟩).2=true:=h2
   rw[h2];exact Q3
  ·have h2:(Yx ⟨w⟩).2=false:=h2
   rw[h2];exact Q3
 | succ m ih=>
  intro k j hc
  have b:k<s.length:=by omega
  have q:s.getD (Int.toNat (k:Int)) 0=s[k]:=by rw[Int.toNat_natCast,List.getD_eq_getElem?_getD,List.getElem?_eq_getElem b];rfl
  have l:s.getD k 0=s[k]:=by rw[List.getD_eq_getElem?_getD,List.getElem?_eq_getElem b];rfl
  refine c2t s k (YP (Xp b) ⟨WY b,?_⟩)
  rw[q]
  refine⟨Zf (s[k],()) rfl rfl,Zc (s[k],()) rfl (ZW (fun h1=> ?_) fun h1=>⟨Wz (by omega),?_⟩)⟩
  ·have h1:digB s[k]=true:=h1
   rw[next (by omega)]
   refine ih (k+1) (by omega) fun c h=> ?_
   rw[List.take_add_one,List.getElem?_eq_getElem b]at h
   rcases List.mem_append.1 h with h|h
   ·exact hc c h
   ·obtain rfl:c=s[k]:=by simpa using h
    rw[h1];rfl
  ·have h1:digB s[k]=false:=h1
   have g:=leaf k (by omega) hc (Or.inr (by rw[l,h1];rfl))
   have a:(s.take k).length<=1048576:=by rw[List.length_take];omega
   rw[Nf]
   unfold Fz at g
   generalize s.take k=w at g a
   subst g
   refine⟨Zf ((⟨w⟩:Str),()) rfl (decide_eq_true a),Zc ((⟨w⟩:Str),()) rfl (ZW (fun h2=>⟨Wz (by omega),?_⟩) fun h2=> ?_)⟩
   ·have h2:(Yx ⟨w⟩).2=true:=h2
    rw[h2];exact Q3
   ·have h2:(Yx ⟨w⟩).2=false:=h2
    rw[h2];exact Q3
def nxT(s:Str):Tok:=⟨(ZB s).1,(ZB s).2,0,0⟩
theorem Cy: ∀ (l:List (List UInt8)) (s:List UInt8),(∀ w∈l,w≠[])->Zl l s=(0,⟨[]⟩)∨((Zl l s).1=4∧(Zl l s).2.s≠[])
 | [],s,_=>Or.inl rfl
 | x::l,s,h=>by
  rw[Zl]
  split
  ·exact Or.inr ⟨rfl,h x (List.mem_cons_self ..)⟩
  ·exact Cy l s fun w a=>h w (List.mem_cons_of_mem _ a)
theorem c6x: ∀ a:Str×Unit,(decide (a.1.s.length<=1048576)&& !a.1.s.isEmpty)=true->Zb Q8 0 (Za V3 (Zk (nxT a.1))) VU [] (Yh d4a (encL a)):=by
 rintro⟨⟨s⟩,⟨⟩⟩ h
 obtain⟨hs,g⟩:s.length<=1048576∧s.isEmpty=false:=by simpa using h
 cases s with
 | nil=>cases g
 | cons c r=>
  have b:(decide ((0:Int)<=0)&&decide (Int.toNat 0<List.length (c::r)))=true:=by simp
  refine e0p (c::r) ⟨b,Zf (c,()) rfl rfl,Zc (c,()) rfl (ZW (fun h1=> ?_) fun h1=>⟨b,Zf (c,()) rfl rfl,Zc (c,()) rfl (ZW (fun h2=> ?_) fun h2=>⟨Zf ((⟨c::r⟩:Str),()) rfl (decide_eq_true hs),Zc ((⟨c::r⟩:Str),()) rfl (YN (fun h3=> ?_) fun h3=> ?_)⟩)⟩)⟩
  ·have h1:lowB c=true:=h1
   refine e4c (c::r) hs _ ?_ (c::r).length 0 (by omega) (by simp)
   show nxT ⟨c::r⟩=_
   unfold nxT ZB LP
   dsimp only
   rw[if_pos h1]
   generalize (Yr ⟨c::r⟩ true)=w
   cases Wu.contains w.s with
   | true=>rfl
   | false=>
    cases nameI w.s <;> rfl
  ·have h1:lowB c=false:=h1
   have h2:digB c=true:=h2
   refine e4x (c::r) hs _ ?_ (c::r).length 0 (by omega) (by simp)
   show nxT ⟨c::r⟩=_
   unfold nxT ZB Fz
   dsimp only
   rw[h1,h2,if_neg (by decide),if_pos rfl]
   generalize (Yr ⟨c::r⟩ false)=w
   cases (Yx w).2 <;> rfl
  ·have h1:lowB c=false:=h1
   have h2:digB c=false:=h2
   have h3:((Zl Zg (c::r)).2.s==[])=false:=h3
   have e:nxT ⟨c::r⟩=⟨(Zl Zg (c::r)).1,(Zl Zg (c::r)).2,0,0⟩:=by
    unfold nxT ZB
    dsimp only
    rw[h1,h2,if_neg (by decide),if_neg (by decide)]
   rw[show nxT ((⟨c::r⟩:Str),()).1=nxT ⟨c::r⟩from rfl,e]
   rcases Cy Zg (c::r) (by decide)with q|q
   ·rw[q]at h3;cases h3
   ·rw[q.1];exact Q3
  ·have h1:lowB c=false:=h1
   have h2:digB c=false:=h2
   have h3:((Zl Zg (c::r)).2.s==[])=true:=h3
   have e:nxT ⟨c::r⟩=⟨(Zl Zg (c::r)).1,(Zl Zg (c::r)).2,0,0⟩:=by
    unfold nxT ZB
    dsimp only
    rw[h1,h2,if_neg (by decide),if_neg (by decide)]
   rw[show nxT ((⟨c::r⟩:Str),()).1=nxT ⟨c::r⟩from rfl,e]
   rcases Cy Zg (c::r) (by decide)with q|q
   ·rw[q];exact Q3
   ·exact absurd (by simpa using h3) q.2
theorem KA{c:UInt8}{n:Nat}(hn:n<256)(h:(c.toNat:Int)=(n:Int)):c=UInt8.ofNat n:=by
 refine UInt8.toNat_inj.1 ?_
 rw[UInt8.toNat_ofNat_of_lt' hn]
 omega
theorem b0j{f:Nat}{s:List UInt8}{i:Nat}(h:s.length<=i):ZF f s i=i:=by
 cases f with
 | zero=>rfl
 | succ f=>rw[ZF,if_pos h]
theorem c3n{f:Nat}{s:List UInt8}{i:Nat}(h:i<s.length)(hc:s.getD i 0=32∨s.getD i 0=9∨s.getD i 0=10):ZF (f+1) s i=ZF f s (i+1):=by rw[ZF,if_neg (by omega),if_pos hc]
theorem C9{f:Nat}{s:List UInt8}{i:Nat}(h:i<s.length)(hc : ¬ (s.getD i 0=32∨s.getD i 0=9∨s.getD i 0=10))(a:List.isPrefixOf [47,47] (s.drop i)=false):ZF (f+1) s i=i:=by rw[ZF,if_neg (by omega),if_neg hc,if_neg (by rw[a];decide)]
def Hy(f:Nat)(s:List UInt8)(j:Nat):Nat:=if Lib.indexByte (s.drop j) 10<0 then s.length else ZF f s (j+(Lib.indexByte (s.drop j) 10).toNat)
theorem a9a{f:Nat}{s:List UInt8}{i:Nat}(h:i<s.length)(hc : ¬ (s.getD i 0=32∨s.getD i 0=9∨s.getD i 0=10))(a:List.isPrefixOf [47,47] (s.drop i)=true):ZF (f+1) s i=Hy f s i:=by rw[ZF,if_neg (by omega),if_neg hc,if_pos a];rfl
theorem c1v{f:Nat}{s:List UInt8}{j:Nat}(h:s.length<=j):Hy f s j=s.length:=by
 unfold Hy
 rw[List.drop_eq_nil_of_le h,Lib.indexByte,if_pos (by decide)]
theorem d0a{f:Nat}{s:List UInt8}{j:Nat}(h:j<s.length)(hc:s[j]=10):Hy f s j=ZF f s j:=by
 unfold Hy
 have e:Lib.indexByte (s.drop j) 10=0:=by
  rw[List.drop_eq_getElem_cons h,Lib.indexByte,hc]
  rfl
 rw[e,if_neg (by decide)]
 rfl
theorem a2q{f:Nat}{s:List UInt8}{j:Nat}(h:j<s.length)(hc:s[j]≠10):Hy f s j=Hy f s (j+1):=by
 unfold Hy
 have e:Lib.indexByte (s.drop j) 10=if (Lib.indexByte (s.drop (j+1)) 10 == -1)=true then -1 else Lib.indexByte (s.drop (j+1)) 10+1:=by
  rw[List.drop_eq_getElem_cons h,Lib.indexByte,if_neg (by simpa using hc)]
 rw[e]
 have hb:=Oc 10 (s.drop (j+1))
 rcases hb with hb|hb
 ·rw[hb]
  rfl
 ·have hn : ¬ (Lib.indexByte (s.drop (j+1)) 10 == -1)=true:=by simp;omega
  rw[if_neg hn,if_neg (show ¬ Lib.indexByte (s.drop (j+1)) 10+1<0 by omega),if_neg (show ¬ Lib.indexByte (s.drop (j+1)) 10<0 by omega)]
  congr 1
  omega
theorem Gm{s:List UInt8}{i:Nat}:List.isPrefixOf [47,47] (s.drop i)=(decide (i+1<s.length)&&(s.getD i 0==47&&s.getD (i+1) 0==47)):=by
 by_cases h1:i<s.length
 ·rw[List.drop_eq_getElem_cons h1]
  have g:s.getD i 0=s[i]:=by rw[List.getD_eq_getElem?_getD,List.getElem?_eq_getElem h1];rfl
  by_cases h2:i+1<s.length
  ·have e:s.getD (i+1) 0=s[i+1]:=by rw[List.getD_eq_getElem?_getD,List.getElem?_eq_getElem h2];rfl
   rw[List.drop_eq_getElem_cons h2,g,e,decide_eq_true h2,Bool.true_and]
   show(47==s[i]&&(47==s[i+1]&&true))=_
   rw[Bool.and_true,Bool.beq_comm (a:=(47:UInt8)) (b:=s[i]),Bool.beq_comm (a:=(47:UInt8)) (b:=s[i+1])]
  ·rw[List.drop_eq_nil_of_le (by omega),decide_eq_false h2,Bool.false_and]
   show(47==s[i]&&false)=false
   simp
 ·rw[List.drop_eq_nil_of_le (by omega),decide_eq_false (by omega)]
  rfl
theorem c1c(s:List UInt8)(hs:s.length<=1048576)(v:Int): ∀ (f:Nat),(∀ i:Nat,i<=s.length->s.length<i+f->At Vf 0 (Za XO (Zk ((ZF f s i:Nat):Int))) XV 0 61 [(0,.pv (.str s)),(1,.pv (.int .i64 (i:Int)))] [])∧(∀ m j:Nat,j+m=s.length->s.length<j+f->At Vf 0 (Za XO (Zk ((Hy f s j:Nat):Int))) XV 1 61 [(0,.pv (.str s)),(1,.pv (.int .i64 (j:Int)))] []):=by
 intro f
 have outer_end : ∀ R:Int,R=(s.length:Int)->At Vf 0 (Za XO (Zk R)) XV 0 61 [(0,.pv (.str s)),(1,.pv (.int .i64 (s.length:Int)))] []:=fun R A=>b8s s v s.length (Y1 (XQ (by omega)) (Wq A.symm))
 induction f with
 | zero=>
  refine⟨fun i hi h=>by omega,fun m=> ?_⟩
  intro j z h
  omega
 | succ f ih=>
  have g : ∀ i:Nat,i<=s.length->s.length<i+(f+1)->At Vf 0 (Za XO (Zk ((ZF (f+1) s i:Nat):Int))) XV 0 61 [(0,.pv (.str s)),(1,.pv (.int .i64 (i:Int)))] []:=fun i hi h=>by
   by_cases b:i<s.length
   ·have u:s.getD (Int.toNat (i:Int)) 0=s.getD i 0:=by rw[Int.toNat_natCast]
    have go:(s.getD i 0=32∨s.getD i 0=9∨s.getD i 0=10)->At Vf 0 (Za XO (Zk ((ZF (f+1) s i:Nat):Int))) XV 0 61 [(0,.pv (.str s)),(1,.pv (.int .i64 (IntKind.i64.wrap ((i:Int)+1))))] []:=fun hc=>by
     rw[next (by omega),c3n b hc]
     exact ih.1 (i+1) (by omega) (by omega)
    refine b8s s v i (YP (Xp b) ⟨WY b,?_⟩)
    rw[u]
    refine Z7 (fun h1=>go (Or.inl (KA (n:=32) (by decide) h1))) fun h1=>⟨WY b,Z7 (fun h2=>go (Or.inr (Or.inl (KA (n:=9) (by decide) h2)))) fun h2=>⟨WY b,Z7 (fun h3=>go (Or.inr (Or.inr (KA (n:=10) (by decide) h3)))) fun h3=>⟨WY b,?_⟩⟩⟩
    have hc : ¬ (s.getD i 0=32∨s.getD i 0=9∨s.getD i 0=10):=by
     rintro(q|q|q)
     ·rw[q]at h1;exact h1 rfl
     ·rw[q]at h2;exact h2 rfl
     ·rw[q]at h3;exact h3 rfl
    refine Z7 (fun k=> ?_) fun k=> ?_
    ·have k:s.getD i 0=47:=KA (n:=47) (by omega) k
     rw[next (by omega)]
     by_cases h5:i+1<s.length
     ·refine YP (Xp h5) ⟨WY h5,Z7 (fun l=> ?_) fun l=> ?_⟩
      ·rw[Int.toNat_natCast]at l
       have l:s.getD (i+1) 0=47:=KA (n:=47) (by omega) l
       rw[a9a b hc (by rw[Gm,decide_eq_true h5,k,l];rfl)]
       -- the comment's first sign is no end of a line
       have B:s.getD i 0=s[i]:=by rw[List.getD_eq_getElem?_getD,List.getElem?_eq_getElem b];rfl
       have y:s[i]≠10:=by rw[<- B,k];decide
       rw[a2q b y]
       refine OY s v i (YP (Xp b) ⟨WY b,Nl (fun r=> ?_) fun r=> ?_⟩)
       ·rw[next (by omega)]
        exact ih.2 (s.length - (i+1)) (i+1) (by omega) (by omega)
       ·rw[Int.toNat_natCast,k]at r
        exact absurd (show(47:Int)=10 from r) (by decide)
      ·rw[Int.toNat_natCast]at l
       have l:s.getD (i+1) 0≠47:=fun e=>by rw[e]at l;exact l rfl
       rw[C9 b hc (by rw[Gm,beq_false_of_ne l];simp)]
       exact Wq rfl
     ·rw[C9 b hc (by rw[Gm,decide_eq_false h5];rfl)]
      exact Y1 (XQ h5) (Wq rfl)
    ·have k:s.getD i 0≠47:=fun e=>by rw[e]at k;exact k rfl
     rw[C9 b hc (by rw[Gm,beq_false_of_ne k];simp)]
     exact Wq rfl
   ·have e:i=s.length:=by omega
    subst e
    exact outer_end _ (by rw[b0j (Nat.le_refl _)])
  refine⟨g,?_⟩
  intro m
  induction m with
  | zero=>
   intro j z h
   have e:j=s.length:=by omega
   subst e
   refine OY s v s.length (Y1 (XQ (by omega)) (outer_end _ ?_))
   rw[c1v (Nat.le_refl _)]
  | succ m ihm=>
   intro j z h
   have b:j<s.length:=by omega
   have u:s.getD (Int.toNat (j:Int)) 0=s[j]:=by rw[Int.toNat_natCast,List.getD_eq_getElem?_getD,List.getElem?_eq_getElem b];rfl
   refine OY s v j (YP (Xp b) ⟨WY b,?_⟩)
   rw[u]
   refine Nl (fun r=> ?_) fun r=> ?_
   ·rw[next (by omega),a2q b (fun e=>by rw[e]at r;exact r rfl)]
    exact ihm (j+1) (by omega) (by omega)
   ·rw[d0a b (KA (n:=10) (by omega) r)]
    exact g j (by omega) (by omega)
theorem c8s: ∀ a:Str×Int×Unit,(decide (a.1.s.length<=1048576)&&(decide (0<=a.2.1)&&decide (a.2.1<=a.1.s.length)))=true->Zb Vf 0 (Za XO (Zk ((ZF (a.1.s.length+1) a.1.s a.2.1.toNat:Nat):Int))) XV [] (Yh d6h (encL a)):=by
 rintro⟨⟨s⟩,v,⟨⟩⟩ h
 obtain⟨hs,h1,h2⟩:s.length<=1048576∧0<=v∧v<=s.length:=by simpa using h
 obtain⟨i,rfl⟩ : ∃ n:Nat,v=n:=⟨v.toNat,by omega⟩
 refine e1t s (i:Int) ?_
 show At Vf 0 (Za XO (Zk ((ZF (s.length+1) s (Int.toNat (i:Int)):Nat):Int))) XV 0 61 _ _
 rw[Int.toNat_natCast]
 exact(c1c s hs i (s.length+1)).1 i (by omega) (by omega)
theorem a3l(s:List UInt8)(a b:Nat):Qx s a b<=b - a:=by
 unfold Qx
 refine Nat.le_trans List.count_le_length ?_
 rw[List.length_take]
 omega
theorem Ty{l:List Tok}{a c:Int}{p:PV}(h:Zk l p):Zk (⟨l,a,c⟩:R3 (List Tok) Int Int) (.tup [p,.int .i64 a,.int .i64 c]):=by
 refine⟨?_,?_⟩
 ·show(is (List Tok) p&&true&&true)=true
  rw[h.1];rfl
 ·show(⟨dec p,a,c⟩:R3 (List Tok) Int Int)=_
  rw[h.2]
theorem b5y(o:List Tok)(k ln a:Int)(w:Str):List.map (enc:Tok->PV) o++List.drop 0 (List.take 1 [PV.agg [enc k,enc w,.int .i64 ln,.int .i64 a]])=(o++[(⟨k,w,ln,a⟩:Tok)]).map enc:=by rw[List.map_append];rfl
theorem d4c{s:List UInt8}(hs:s.length<=20000){a:Nat}(ha:a<s.length){t:Tok}{o:List Tok}{L:Nat}(u:L=o.length)(hL2:L<4000)(hk:t.t.s.length+a<=s.length){ln':Int}{F:PV->Prop}
  (K:At Wp 0 (Za Y5 F) Y6 0 59 [(0,.pv (.str s)),(5,.row 0 (L+1) 0 (L+1)),(6,.pv (.int .i64 ln')),(7,.pv (.int .i64 (a:Int))),(8,.pv (.int .i64 ((ZF (s.length+1) s (a+t.t.s.length):Nat):Int)))] [.obj (.row false 83 4 ((o++[(⟨t.k,t.t,ln',(a:Int)⟩:Tok)]).map enc))]) :
  ∀ (m fr:Nat) (ln:Int),fr+m=a->0<=ln->ln<=1+fr->ln'=ln+(Qx s fr a:Nat) ->
  At Wp 0 (Za Y5 F) Y6 1 59 [(0,.pv (.str s)),(5,.row 0 L 0 L),(6,.pv (.int .i64 ln)),(7,.pv (.int .i64 (fr:Int))),(8,.pv (.int .i64 (a:Int))),(9,.ptr 1 0)] [.obj (.row false 83 4 (o.map enc)),.obj (.box [.pv (enc t.k),.pv (enc t.t),.pv (enc t.ln),.pv (enc t.o)])]:=by
 intro m
 induction m with
 | zero=>
  intro fr ln h l h1 h2
  have e:fr=a:=by omega
  subst e
  rw[MP]at h2
  have r:ln'=ln:=by simpa using h2
  subst r
  refine a5k s ln' fr fr t o L (Y1 (by simp) ⟨by simp[u];omega,?_⟩)
  have hb:=Na (s:=s) (a:=fr+t.t.s.length) (by omega)
  have y:IntKind.i64.wrap ((fr:Int)+(t.t.s.length:Int))=((fr+t.t.s.length:Nat):Int):=by rw[Xi (by omega) (by omega)];omega
  rw[y,b5y]
  refine⟨Zf ((⟨s⟩:Str),((fr+t.t.s.length:Nat):Int),()) rfl ?_,Zc ((⟨s⟩:Str),((fr+t.t.s.length:Nat):Int),()) rfl ?_⟩
  ·show(decide (s.length<=1048576)&&(decide ((0:Int)<=((fr+t.t.s.length:Nat):Int))&&decide (((fr+t.t.s.length:Nat):Int)<=(s.length:Int))))=true
   rw[decide_eq_true (show s.length<=1048576 by omega),decide_eq_true (show(0:Int)<=((fr+t.t.s.length:Nat):Int) by omega),decide_eq_true (show((fr+t.t.s.length:Nat):Int)<=(s.length:Int) by omega)]
   rfl
  ·exact K
 | succ m ih=>
  intro fr ln h l h1 h2
  have g:fr<s.length:=by omega
  have q:s.getD (Int.toNat (fr:Int)) 0=s[fr]:=by rw[Int.toNat_natCast,List.getD_eq_getElem?_getD,List.getElem?_eq_getElem g];rfl
  have j:=Pq (s:=s) (a:=fr) (b:=fr+1) (c:=a) (by omega) (by omega)
  rw[a3x g]at j
  refine a5k s ln fr a t o L (YP (by simp;omega) ⟨WY g,?_⟩)
  rw[q,next (by omega)]
  refine Z7 (fun h3=> ?_) fun h3=> ?_
  ·rw[if_pos (show s[fr]=10 from KA (n:=10) (by decide) h3)]at j
   rw[Xi (by omega) (by omega)]
   exact ih (fr+1) (ln+1) (by omega) (by omega) (by omega) (by rw[h2,j];push_cast;omega)
  ·rw[if_neg (fun e=>by rw[e]at h3;exact h3 rfl)]at j
   exact ih (fr+1) ln (by omega) l (by omega) (by rw[h2,j,Nat.zero_add])
theorem d7p{s:List UInt8}(hs:s.length<=20000){a:Nat}(ha:a<s.length){t:Tok}(hk:t.t.s.length+a<=s.length){ln':Int}{F:PV->Prop}
  (K:At Wp 0 (Za Y5 F) Y6 0 59 [(0,.pv (.str s)),(5,.row 0 1 0 1),(6,.pv (.int .i64 ln')),(7,.pv (.int .i64 (a:Int))),(8,.pv (.int .i64 ((ZF (s.length+1) s (a+t.t.s.length):Nat):Int)))] [.obj (.row false 83 4 ([(⟨t.k,t.t,ln',(a:Int)⟩:Tok)].map enc))]) :
  ∀ (m fr:Nat) (ln:Int),fr+m=a->0<=ln->ln<=1+fr->ln'=ln+(Qx s fr a:Nat) ->
  At Wp 0 (Za Y5 F) Y6 1 59 [(0,.pv (.str s)),(5,.pv (.sl 0 true [])),(6,.pv (.int .i64 ln)),(7,.pv (.int .i64 (fr:Int))),(8,.pv (.int .i64 (a:Int))),(9,.ptr 0 0)] [.obj (.box [.pv (enc t.k),.pv (enc t.t),.pv (enc t.ln),.pv (enc t.o)])]:=by
 intro m
 induction m with
 | zero=>
  intro fr ln h l h1 h2
  have e:fr=a:=by omega
  subst e
  rw[MP]at h2
  have r:ln'=ln:=by simpa using h2
  subst r
  refine a6n s ln' fr fr t (Y1 (by simp) ?_)
  have u:IntKind.i64.wrap ((fr:Int)+(t.t.s.length:Int))=((fr+t.t.s.length:Nat):Int):=by rw[Xi (by omega) (by omega)];omega
  rw[u]
  refine⟨Zf ((⟨s⟩:Str),((fr+t.t.s.length:Nat):Int),()) rfl ?_,Zc ((⟨s⟩:Str),((fr+t.t.s.length:Nat):Int),()) rfl ?_⟩
  ·show(decide (s.length<=1048576)&&(decide ((0:Int)<=((fr+t.t.s.length:Nat):Int))&&decide (((fr+t.t.s.length:Nat):Int)<=(s.length:Int))))=true
   rw[decide_eq_true (show s.length<=1048576 by omega),decide_eq_true (show(0:Int)<=((fr+t.t.s.length:Nat):Int) by omega),decide_eq_true (show((fr+t.t.s.length:Nat):Int)<=(s.length:Int) by omega)]
   rfl
  ·exact K
 | succ m ih=>
  intro fr ln h l h1 h2
  have g:fr<s.length:=by omega
  have q:s.getD (Int.toNat (fr:Int)) 0=s[fr]:=by rw[Int.toNat_natCast,List.getD_eq_getElem?_getD,List.getElem?_eq_getElem g];rfl
  have j:=Pq (s:=s) (a:=fr) (b:=fr+1) (c:=a) (by omega) (by omega)
  rw[a3x g]at j
  refine a6n s ln fr a t (YP (by simp;omega) ⟨WY g,?_⟩)
  rw[q,next (by omega)]
  refine Z7 (fun h3=> ?_) fun h3=> ?_
  ·rw[if_pos (show s[fr]=10 from KA (n:=10) (by decide) h3)]at j
   rw[Xi (by omega) (by omega)]
   exact ih (fr+1) (ln+1) (by omega) (by omega) (by omega) (by rw[h2,j];push_cast;omega)
  ·rw[if_neg (fun e=>by rw[e]at h3;exact h3 rfl)]at j
   exact ih (fr+1) ln (by omega) l (by omega) (by rw[h2,j,Nat.zero_add])
theorem Ar{s:List UInt8}(h:(ZB ⟨s⟩).1≠0):0<(ZB ⟨s⟩).2.s.length:=by
 cases s with
 | nil=>exact absurd rfl h
 | cons c r=>
  unfold ZB at h ⊢
  dsimp only at h ⊢
  have run : ∀ b,(digB c||(b&&lowB c))=true->0<(Yr ⟨c::r⟩ b).s.length:=fun b hb=>by
   unfold Yr
   dsimp only
   rw[List.takeWhile_cons,if_pos hb]
   simp
  split
  ·rename_i h1
   rw[if_pos h1]at h
   have hr:=run true (by rw[h1];simp)
   split
   ·exact hr
   ·rename_i q
    rw[if_neg q]at h
    split
    ·exact hr
    ·rename_i a
     rw[if_neg a]at h
     exact absurd rfl h
  ·rename_i h1
   rw[if_neg h1]at h
   split
   ·rename_i h2
    rw[if_pos h2]at h
    have hr:=run false (by rw[h2];rfl)
    split
    ·exact hr
    ·rename_i q
     rw[if_neg q]at h
     exact absurd rfl h
   ·rename_i h2
    rw[if_neg h2]at h
    rcases Cy Zg (c::r) (by decide)with q|q
    ·rw[q]at h;exact absurd rfl h
    ·exact List.length_pos_iff.2 q.2
theorem d6m{s:List UInt8}(hs:s.length<=20000)(R:R3 (List Tok) Int Int): ∀ (f i fr a:Nat) (ln:Int) (o:List Tok) (L:Nat),i<=s.length->fr<=i->Qx s fr i=0->a=ZF (s.length+1) s i->s.length<i+f->0<=ln->ln<=1+fr->L=o.length->L<=4000->R=Gn f s i ln o ->
  At Wp 0 (Za Y5 (Zk R)) Y6 0 59 [(0,.pv (.str s)),(5,.row 0 L 0 L),(6,.pv (.int .i64 ln)),(7,.pv (.int .i64 (fr:Int))),(8,.pv (.int .i64 (a:Int)))] [.obj (.row false 83 4 (o.map enc))]:=by
 intro f
 induction f with
 | zero=>intro i fr a ln o L hi _ _ _ h;omega
 | succ f ih=>
  intro i fr a ln o L hi k hc ha hf q h1 g hL2 b
  have hb:=Na hi
  rw[<- ha]at hb
  have l:=Pq (s:=s) k hb.1
  rw[hc,Nat.zero_add]at l
  rw[b8g hi ha,<- l]at b
  unfold b8n at b
  by_cases hlt:a<s.length
  ·have u:List.drop (Int.toNat (a:Int)) (List.take (List.length s) s)=s.drop a:=by rw[Int.toNat_natCast,List.take_length]
   have j:(s.drop a).isEmpty=false:=by
    cases e:s.drop a with
    | nil=>rw[List.drop_eq_nil_iff]at e;omega
    | cons _ _=>rfl
   rw[if_neg (by omega)]at b
   refine a5h s ln fr a o L (YP (Xp hlt) ⟨by simp;omega,?_⟩)
   rw[u]
   refine⟨Zf ((⟨s.drop a⟩:Str),()) rfl ?_,Zc ((⟨s.drop a⟩:Str),()) rfl (Z7 (fun h2=> ?_) fun h2=>Z7 (fun h3=> ?_) fun h3=> ?_)⟩
   ·show(decide ((s.drop a).length<=1048576)&& !(s.drop a).isEmpty)=true
    rw[j,decide_eq_true (show(s.drop a).length<=1048576 by rw[List.length_drop];omega)]
    rfl
   ·have h2:(ZB ⟨s.drop a⟩).1=0:=h2
    rw[if_pos h2]at b
    rw[b]
    exact Ty U9
   ·have h2:(ZB ⟨s.drop a⟩).1≠0:=h2
    have h3:o.length=4000:=by
     have h3:((L - 0:Nat):Int)=4000:=h3
     omega
    rw[if_neg h2,if_pos h3]at b
    rw[b]
    exact Ty U9
   ·have h2:(ZB ⟨s.drop a⟩).1≠0:=h2
    have h3:o.length≠4000:=by
     have h3 : ¬ ((L - 0:Nat):Int)=4000:=h3
     omega
    rw[if_neg h2,if_neg h3]at b
    have r:(ZB ⟨s.drop a⟩).2.s.length+a<=s.length:=by
     have:=KO ⟨s.drop a⟩
     rw[List.length_drop]at this
     omega
    have hp:=Ar h2
    have hcl:=a3l s fr a
    refine d4c hs hlt (t:=⟨(ZB ⟨s.drop a⟩).1,(ZB ⟨s.drop a⟩).2,0,0⟩) g (by omega) r (ln':=ln+(Qx s fr a:Nat)) ?_ (a - fr) fr ln (by omega) q h1 rfl
    exact ih (a+(ZB ⟨s.drop a⟩).2.s.length) a _ _ _ _ (by omega) (by omega) a5z rfl (by omega) (by omega) (by omega) (by rw[g];simp) (by omega) b
  ·rw[if_pos (by omega)]at b
   refine a5h s ln fr a o L (Y1 (XQ hlt) ⟨by simp[g],?_⟩)
   rw[b,e2q o g]
   exact Ty (e1u o rfl)
theorem c6w: ∀ a:Str×Unit,decide (a.1.s.length<=1048576)=true->Zb Wp 0 (Za Y5 (Zk (Wj a.1))) Y6 [] (Yh b3f (encL a)):=by
 rintro⟨⟨s⟩,⟨⟩⟩ h
 have hs0:s.length<=1048576:=of_decide_eq_true h
 show Zb Wp 0 (Za Y5 (Zk (Wj ⟨s⟩))) Y6 [] (Yh b3f [.str s])
 unfold Wj
 refine e3v s (Y4 (fun h1=> ?_) fun h1=> ?_)
 ·rw[if_pos (show 20000<s.length by omega)]
  exact Ty U9
 ·rw[if_neg (show ¬ 20000<s.length by omega)]
  have hs:s.length<=20000:=by omega
  refine⟨Zf ((⟨s⟩:Str),(0:Int),()) rfl ?_,Zc ((⟨s⟩:Str),(0:Int),()) rfl ?_⟩
  ·show(decide (s.length<=1048576)&&(decide ((0:Int)<=0)&&decide ((0:Int)<=(s.length:Int))))=true
   rw[h,decide_eq_true (show(0:Int)<=(s.length:Int) by omega)]
   rfl
  ·show At Wp 0 (Za Y5 (Zk (Gn (s.length+1) s 0 1 []))) Y6 0 59 [(0,.pv (.str s)),(5,.pv (.sl 0 true [])),(6,.pv (.int .i64 1)),(7,.pv (.int .i64 0)),(8,.pv (.int .i64 ((ZF (s.length+1) s 0:Nat):Int)))] []
   have hb:=Na (s:=s) (a:=0) (Nat.zero_le _)
   rw[b8g (Nat.zero_le _) rfl]
   generalize ZF (s.length+1) s 0=a at hb ⊢
   by_cases hlt:a<s.length
   ·have j:List.drop (Int.toNat (a:Int)) (List.take (List.length s) s)=s.drop a:=by rw[Int.toNat_natCast,List.take_length]
    have b:(s.drop a).isEmpty=false:=by
     cases e:s.drop a with
     | nil=>rw[List.drop_eq_nil_iff]at e;omega
     | cons _ _=>rfl
    unfold b8n
    rw[if_neg (show ¬ a=s.length by omega)]
    refine a3f s 1 0 a (YP (Xp hlt) ⟨by simp;omega,?_⟩)
    rw[j]
    refine⟨Zf ((⟨s.drop a⟩:Str),()) rfl ?_,Zc ((⟨s.drop a⟩:Str),()) rfl (Z7 (fun h2=> ?_) fun h2=> ?_)⟩
    ·show(decide ((s.drop a).length<=1048576)&& !(s.drop a).isEmpty)=true
     rw[b,decide_eq_true (show(s.drop a).length<=1048576 by rw[List.length_drop];omega)]
     rfl
    ·have h2:(ZB ⟨s.drop a⟩).1=0:=h2
     rw[if_pos h2]
     exact Ty U9
    ·have h2:(ZB ⟨s.drop a⟩).1≠0:=h2
     rw[if_neg h2,if_neg (show ¬ ([]:List Tok).length=4000 by decide)]
     have g:(ZB ⟨s.drop a⟩).2.s.length+a<=s.length:=by
      have:=KO ⟨s.drop a⟩
      rw[List.length_drop]at this
      omega
     have hp:=Ar h2
     have hcl:=a3l s 0 a
     refine d7p hs hlt (t:=⟨(ZB ⟨s.drop a⟩).1,(ZB ⟨s.drop a⟩).2,0,0⟩) g (ln':=1+(Qx s 0 a:Nat)) ?_ (a - 0) 0 1 (by omega) (by omega) (by omega) rfl
     exact d6m hs _ s.length (a+(ZB ⟨s.drop a⟩).2.s.length) a _ _ _ _ (by omega) (by omega) a5z rfl (by omega) (by omega) (by omega) rfl (by omega) rfl
   ·unfold b8n
    rw[if_pos (show a=s.length by omega)]
    exact a3f s 1 0 a (Y1 (XQ hlt) (Ty U9))
def Yd(s:RS):Bool:=decide (s.l.length<=4000)&&(decide (s.i<=s.l.length)&&s.l.all e4r)
def RS.tok(s:RS)(k:Nat):Tok:=s.l.getD (s.i+k) ⟨0,⟨[]⟩,0,0⟩
def RS.is(s:RS)(w:Str):Bool:= !s.bad&&(decide (s.i<s.l.length)&&(decide ((s.tok 0).t=w)&&(decide ((s.tok 0).k=2)||decide ((s.tok 0).k=4))))
def RS.step(s:RS):RS:=⟨s.l,s.i+1,s.bad,s.wide⟩
def RS.fail(s:RS):RS:=⟨s.l,s.i,true,s.wide⟩
def RS.wid(s:RS):RS:=⟨s.l,s.i,s.bad,true⟩
def RS.take(s:RS)(w:Str):Bool×RS:=if s.is w then(true,s.step)else(false,s)
def RS.need(s:RS)(w:Str):RS:=if s.is w then s.step else s.fail
def RS.kind(s:RS)(k:Int):Bool:= !s.bad&&(decide (s.i<s.l.length)&&decide ((s.tok 0).k=k))
def RS.line(s:RS):Int:=if s.i<s.l.length then(s.tok 0).ln else 0
def RS.name(s:RS):Str×RS:=if s.kind 1 then((s.tok 0).t,s.step)else(⟨[]⟩,s.fail)
def moreR{α:Type}(one:RS->α×RS):Nat->RS->List α->List α×RS
 | 0,s,o=>(o,s)
 | n+1,s,o=>if s.is ⟨[44]⟩then moreR one n (one s.step).2 (o++[(one s.step).1])else(o,s)
def Q0{α:Type}(one:RS->α×RS)(s:RS):List α×RS:=moreR one (s.l.length+1) (one s).2 [(one s).1]
def RS.num(s:RS)(m:Int):Int×RS:=if s.kind 3 then(if (Yx (s.tok 0).t).1<=m then((Yx (s.tok 0).t).1,s.step)else(0,s.fail))else(0,s.fail)
def RS.chk(s:RS)(x:Lin×Int):Lin×RS:=if !s.bad&&(decide (x.2≠0) || !Zd x.1)then(⟨0,[]⟩,s.wid)else(x.1,s)
def RS.itemN(s:RS)(c:Int):Lin×RS:=s.name.2.chk (YL (Ui s.name.1) c)
def RS.item(s:RS):Lin×RS:=
 if s.kind 3 then(if (s.num 2147483648).2.kind 1 then(s.num 2147483648).2.itemN (s.num 2147483648).1 else(s.num 2147483648).2.chk (⟨(s.num 2147483648).1,[]⟩,0))
 else s.itemN 1
def sgM:Bool->Int
 | true=> -1
 | false=>1
def sizL:Nat->RS->Lin->Bool->Lin×RS
 | 0,s,l,m=>(l,s)
 | n+1,s,l,m=>
  if s.item.2.bad then(⟨0,[]⟩,s.item.2)
  else
   let b:=s.item.2.chk (Zi l s.item.1 (sgM m))
   if b.2.is ⟨[43]⟩then sizL n b.2.step b.1 false
   else if b.2.is ⟨[45]⟩then sizL n b.2.step b.1 true
   else b
def RS.size(s:RS):Lin×RS:=sizL (s.l.length+1) (s.take ⟨[45]⟩).2 ⟨0,[]⟩ (s.take ⟨[45]⟩).1
def RS.isRow(s:RS):Bool:=s.kind 1&&(decide (s.i+1<s.l.length)&&decide ((s.tok 1).t=⟨[46,46]⟩))
def RS.dims(s:RS)(w:Str):List Lin×RS:=if s.is w then Q0 RS.size s.step else([],s)
def RS.elem(s:RS):Str×RS:=if s.is ⟨U7⟩then(⟨U7⟩,s.step)else if s.is ⟨WL⟩then(⟨WL⟩,s.step)else(⟨[]⟩,s.fail)
def RS.func(s:RS):Str×RS:=if s.name.2.is ⟨[46]⟩then(⟨s.name.1.s++([46]++s.name.2.step.name.1.s)⟩,s.name.2.step.name.2)else(s.name.1,s.name.2)
def RS.oper(s:RS)(lev:Int):Str×Bool:=if s.kind 4 then((MV (s.tok 0).t false).a,(MV (s.tok 0).t false).c&&decide ((MV (s.tok 0).t false).b=lev))else(⟨[]⟩,false)
def numsR:Nat->RS->List Int->List Int×RS
 | 0,s,o=>(o,s)
 | n+1,s,o=>if s.kind 3 then numsR n (s.num 2147483648).2 (o++[(s.num 2147483648).1])else(o,s)
def datR:Nat->RS->List Int->List Int×RS
 | 0,s,o=>(o,s)
 | n+1,s,o=>
  if s.kind 3||s.is ⟨[45]⟩then(if s.is ⟨[45]⟩then datR n (s.step.num 2147483648).2 (o++[IntKind.i64.wrap (-(s.step.num 2147483648).1)])else datR n (s.num 2147483648).2 (o++[(s.num 2147483648).1]))
  else(o,s)
def RS.con0(s:RS):RS:=(if s.kind 1 then s.step else s).need ⟨[91]⟩
def RS.con1(s:RS):List Int×RS:=numsR (s.l.length+1) s.con0 []
def RS.con2(s:RS):List Int×RS:=datR (s.l.length+1) (s.con1.2.need ⟨[58]⟩) []
def RS.con(s:RS)(ln:Int):Tm×RS:=
 if s.kind 1&&decide ((s.tok 0).t≠⟨[98]⟩)then(.mk {ndK 3 ln with elem:=⟨U7⟩} [],s.fail)
 else(.mk {ndK 3 ln with elem:=⟨if s.kind 1 then WL else U7⟩,dims:=s.con1.1,data:=s.con2.1} [],s.con2.2.need ⟨[93]⟩)
def RS.sizesN(s:RS):List Lin×RS:=if s.is ⟨[91]⟩then((Q0 RS.size s.step).1,(Q0 RS.size s.step).2.need ⟨[93]⟩)else([],s)
def RS.frameN(s:RS):Int×RS:=if s.is ⟨[123]⟩then((s.step.num 2147483648).1,(s.step.num 2147483648).2.need ⟨[125]⟩)else(0,s)
def RS.numM(s:RS):Int×RS:=s.num 2147483648
def RS.ranksN(s:RS):List Int×RS:=if s.is ⟨[64]⟩then((Q0 RS.numM (s.step.need ⟨[40]⟩)).1,(Q0 RS.numM (s.step.need ⟨[40]⟩)).2.need ⟨[41]⟩)else([],s)
def listR(ex:RS->Tm×RS)(w:Str)(s:RS):List Tm×RS:=((Q0 ex s).1,(Q0 ex s).2.need w)
def kidsR(ex:RS->Tm×RS)(s:RS):List Tm×RS:=if (s.need ⟨[40]⟩).is ⟨[41]⟩then([],(s.need ⟨[40]⟩).step)else listR ex ⟨[41]⟩ (s.need ⟨[40]⟩)
def RS.plain(s:RS)(n:Str):Bool:=(!s.bad&&decide ((s.l.getD (s.i - 1) ⟨0,⟨[]⟩,0,0⟩).t=n))&&(!(s.is ⟨[91]⟩)&&(!(s.is ⟨[123]⟩)&&(!(s.is ⟨[64]⟩)&& !(s.is ⟨[40]⟩))))
def callR0(ex:RS->Tm×RS)(ln:Int)(n:Str)(s:RS):Tm×RS:=
 (.mk {nd0 with kind:=6,line:=ln,name:=n,num:=s.sizesN.2.frameN.1,sizes:=s.sizesN.1,ranks:=s.sizesN.2.frameN.2.ranksN.1} (kidsR ex s.sizesN.2.frameN.2.ranksN.2).1,(kidsR ex s.sizesN.2.frameN.2.ranksN.2).2)
def callRR(ex:RS->Tm×RS)(ln:Int)(s:RS):Tm×RS:=if s.func.2.plain s.func.1 then(.mk (Sj 1 ln s.func.1) [],s.func.2)else callR0 ex ln s.func.1 s.func.2
def foldK(ex:RS->Tm×RS):Nat->RS->List Tm->List Tm×RS
 | 0,s,o=>(o,s)
 | k+1,s,o=>if s.bad then(o,s)else foldK ex k (ex (s.need ⟨[44]⟩)).2 (o++[(ex (s.need ⟨[44]⟩)).1])
def loopR(ex:RS->Tm×RS)(ln:Int)(s:RS):Tm×RS:=
 if s.is ⟨[102,111,108,100]⟩then
  let a:=(s.step.need ⟨[40]⟩).func
  let b:=foldK ex 2 a.2 []
  (.mk (Sj 8 ln a.1) b.1,b.2.need ⟨[41]⟩)
 else
  let a:=((s.need ⟨[115,99,97,110]⟩).need ⟨[40]⟩).func
  let b:=foldK ex 1 a.2 []
  (.mk (Sj 9 ln a.1) b.1,b.2.need ⟨[41]⟩)
def sizeR0(ln:Int)(s:RS):Tm×RS:=(.mk {ndK 4 ln with sizes:=[(s.need ⟨[91]⟩).size.1]} [],(s.need ⟨[91]⟩).size.2.need ⟨[93]⟩)
def primR(ex:RS->Tm×RS)(s:RS):Tm×RS:=
 let ln:=s.line
 if s.kind 3 then(.mk {Sj 2 ln ⟨U7⟩with num:=(s.num 2147483647).1} [],(s.num 2147483647).2)
 else if s.is ⟨[116,114,117,101]⟩then(.mk {Sj 2 ln ⟨WL⟩with num:=1} [],s.step)
 else if s.is ⟨[102,97,108,115,101]⟩then(.mk (Sj 2 ln ⟨WL⟩) [],s.step)
 else if s.kind 1 then callRR ex ln s
 else if s.is ⟨[40]⟩then((ex s.step).1,(ex s.step).2.need ⟨[41]⟩)
 else if s.is ⟨[91]⟩then(.mk (ndK 7 ln) (listR ex ⟨[93]⟩ s.step).1,(listR ex ⟨[93]⟩ s.step).2)
 else if s.is ⟨[35]⟩then s.step.con ln
 else if s.is ⟨[115,105,122,101]⟩then sizeR0 ln s.step
 else loopR ex ln s
def unaR(ex un:RS->Tm×RS)(s:RS):Tm×RS:=
 let ln:=s.line
 if s.is ⟨[45]⟩then
  if s.step.kind 3 then(.mk {Sj 2 ln ⟨U7⟩with num:=IntKind.i64.wrap (-(s.step.num 2147483648).1)} [],(s.step.num 2147483648).2)
  else(.mk (Sj 6 ln ⟨[110,101,103]⟩) [(un s.step).1],(un s.step).2)
 else if s.is ⟨[33]⟩then(.mk (Sj 6 ln ⟨[110,111,116]⟩) [(un s.step).1],(un s.step).2)
 else primR ex s
def opR(fr:RS->Tm×RS)(lev ln:Int):Nat->RS->Tm->Tm×RS
 | 0,s,l=>(l,s)
 | n+1,s,l=>
  if (s.oper lev).2 then opR fr lev ln n (if ((fr s.step).2.oper lev).2&&decide (lev=3)then(fr s.step).2.fail else(fr s.step).2) (.mk (Sj 6 ln (s.oper lev).1) [l,(fr s.step).1])
  else(l,s)
def fromR(un:RS->Tm×RS):Nat->RS->Tm×RS
 | 0,s=>un s
 | d+1,s=>opR (fromR un d) (5 - (d:Int)) s.line (s.l.length+1) (fromR un d s).2 (fromR un d s).1
def exR(ex un:RS->Tm×RS)(s:RS):Tm×RS:=
 if s.is ⟨[108,101,116]⟩then
  let ln:=s.line
  let a:=s.step.name
  let b:=ex (a.2.need ⟨[61]⟩)
  let c:=ex (b.2.need ⟨[105,110]⟩)
  (.mk (Sj 5 ln a.1) [b.1,c.1],c.2)
 else fromR un 5 s
def Ah:Nat->(RS->Tm×RS)×(RS->Tm×RS)
 | 0=>(fun s=>(.mk nd0 [],s),fun s=>(.mk nd0 [],s))
 | N+1=>(exR (Ah N).1 (unaR (Ah N).1 (Ah N).2),unaR (Ah N).1 (Ah N).2)
def c4g(N:Nat):RS->Tm×RS:=(Ah N).1
def unR(N:Nat):RS->Tm×RS:=(Ah N).2
theorem a9h(N:Nat)(s:RS):c4g (N+1) s=exR (c4g N) (unR (N+1)) s:=rfl
theorem b2d(N:Nat)(s:RS):unR (N+1) s=unaR (c4g N) (unR N) s:=rfl
def rgS(s:List UInt8):RS:=⟨(Wj ⟨s⟩).a,0,false,false⟩
def RS.endR(s:RS)(z:Int):Int×Int:=if !s.bad&&decide (s.i=s.l.length)then(0,0)else if s.i<s.l.length then((s.tok 0).o,6)else(z,6)
def QR(s:Str):R3 Lin Int Int:=
 if (Wj s).c≠0 then⟨⟨0,[]⟩,(Wj s).b,(Wj s).c⟩
 else if ((rgS s.s).size.2.endR s.s.length).2≠0 then⟨⟨0,[]⟩,((rgS s.s).size.2.endR s.s.length).1,((rgS s.s).size.2.endR s.s.length).2⟩
 else if (rgS s.s).size.2.wide then⟨⟨0,[]⟩,0,3⟩
 else⟨(rgS s.s).size.1,0,0⟩
def RS.names(s:RS):List Str×RS:=Q0 RS.name s
section
theorem JI{s:RS}{k:Nat}(h:s.i+k<s.l.length):s.tok k=s.l[s.i+k]:=by
 unfold RS.tok
 rw[List.getD_eq_getElem?_getD,List.getElem?_eq_getElem h]
 rfl
theorem YU{s:RS}{w:Str}(h:s.is w=true):s.i<s.l.length:=by
 unfold RS.is at h
 simp only[Bool.and_eq_true,decide_eq_true_eq]at h
 exact h.2.1
theorem d0g{s:RS}{w:Str}(h:s.is w=true):s.bad=false:=by
 unfold RS.is at h
 simp only[Bool.and_eq_true,Bool.not_eq_true']at h
 exact h.1
theorem VR{s:RS}{k:Int}(h:s.kind k=true):s.i<s.l.length:=by
 unfold RS.kind at h
 simp only[Bool.and_eq_true,decide_eq_true_eq]at h
 exact h.2.1
structure RGe (s t:RS):Prop where
 l:t.l=s.l
 le:s.i<=t.i
 hi:t.i<=t.l.length
theorem RGe.refl{s:RS}(h:s.i<=s.l.length):RGe s s:=⟨rfl,Nat.le_refl _,h⟩
theorem RGe.trans{s t u:RS}(h:RGe s t)(k:RGe t u):RGe s u:=⟨k.l.trans h.l,Nat.le_trans h.le k.le,k.hi⟩
theorem VA{s:RS}(h:Yd s=true):s.l.length<=4000∧s.i<=s.l.length:=by
 unfold Yd at h
 simp only[Bool.and_eq_true,decide_eq_true_eq]at h
 exact⟨h.1,h.2.1⟩
theorem c4e{s:RS}(h:Yd s=true): ∀ t∈s.l,t.t.s.length<=65536:=fun t ht=>by
 unfold Yd at h
 simp only[Bool.and_eq_true]at h
 exact of_decide_eq_true (List.all_eq_true.1 h.2.2 t ht)
theorem a2r{s:RS}(h:Yd s=true)(k:Nat):(s.tok k).t.s.length<=65536:=by
 rcases Nat.lt_or_ge (s.i+k) s.l.length with h1|h1
 ·rw[JI h1]
  exact c4e h _ (List.getElem_mem h1)
 ·unfold RS.tok
  rw[List.getD_eq_getElem?_getD,List.getElem?_eq_none h1]
  simp
theorem RGe.ok{s t:RS}(h:RGe s t)(k:Yd s=true):Yd t=true:=by
 have h1:=VA k
 have h2:=h.hi
 unfold Yd at k ⊢
 simp only[Bool.and_eq_true]at k
 rw[decide_eq_true h2,h.l,k.1,k.2.2]
 rfl
theorem RGe.fail{s:RS}(h:s.i<=s.l.length):RGe s s.fail:=⟨rfl,Nat.le_refl _,h⟩
theorem RGe.wid{s:RS}(h:s.i<=s.l.length):RGe s s.wid:=⟨rfl,Nat.le_refl _,h⟩
theorem RGe.step{s:RS}(h:s.i<s.l.length):RGe s s.step:=⟨rfl,Nat.le_succ _,h⟩
theorem RGe.take{s:RS}{w:Str}(h:s.i<=s.l.length):RGe s (s.take w).2:=by
 unfold RS.take
 split
 ·exact RGe.step (YU ‹_›)
 ·exact RGe.refl h
theorem RGe.need{s:RS}{w:Str}(h:s.i<=s.l.length):RGe s (s.need w):=by
 unfold RS.need
 split
 ·exact RGe.step (YU ‹_›)
 ·exact RGe.fail h
theorem RGe.name{s:RS}(h:s.i<=s.l.length):RGe s s.name.2:=by
 unfold RS.name
 split
 ·exact RGe.step (VR ‹_›)
 ·exact RGe.fail h
theorem RGe.num{s:RS}{m:Int}(h:s.i<=s.l.length):RGe s (s.num m).2:=by
 unfold RS.num
 split
 ·split
  ·exact RGe.step (VR ‹_›)
  ·exact RGe.fail h
 ·exact RGe.fail h
theorem RGe.chk{s:RS}{x:Lin×Int}(h:s.i<=s.l.length):RGe s (s.chk x).2:=by
 unfold RS.chk
 split
 ·exact RGe.wid h
 ·exact RGe.refl h
theorem RGe.itemN{s:RS}{c:Int}(h:s.i<=s.l.length):RGe s (s.itemN c).2:=(RGe.name h).trans (RGe.chk (RGe.name h).hi)
theorem RGe.item{s:RS}(h:s.i<=s.l.length):RGe s s.item.2:=by
 have h1:=RGe.num (m:=2147483648) h
 unfold RS.item
 split
 ·split
  ·exact h1.trans (RGe.itemN h1.hi)
  ·exact h1.trans (RGe.chk h1.hi)
 ·exact RGe.itemN h
theorem RGe.sizL: ∀ (n:Nat) {s:RS} {l:Lin} {m:Bool},s.i<=s.l.length->RGe s (sizL n s l m).2
 | 0,s,l,m,h=>RGe.refl h
 | n+1,s,l,m,h=>by
  have h1:=RGe.item h
  rw[Go.Pl.sizL]
  split
  ·exact h1
  ·have h2:=RGe.chk (x:=Zi l s.item.1 (sgM m)) h1.hi
   dsimp only
   split
   ·have h3:=RGe.step (YU ‹_›)
    exact h1.trans (h2.trans (h3.trans (RGe.sizL n h3.hi)))
   ·split
    ·have h3:=RGe.step (YU ‹_›)
     exact h1.trans (h2.trans (h3.trans (RGe.sizL n h3.hi)))
    ·exact h1.trans h2
theorem RGe.size{s:RS}(h:s.i<=s.l.length):RGe s s.size.2:=(RGe.take h).trans (RGe.sizL _ (RGe.take h).hi)
theorem RGe.moreR{α:Type}{one:RS->α×RS}{B:RS->Prop}(a : ∀ s t,B s->RGe s t->B t)(h1 : ∀ s,B s->s.i<=s.l.length->RGe s (one s).2): ∀ (n:Nat) {s:RS} {o:List α},B s->s.i<=s.l.length->RGe s (moreR one n s o).2
 | 0,s,o,_,h=>RGe.refl h
 | n+1,s,o,hb,h=>by
  rw[Go.Pl.moreR]
  split
  ·have k1:=RGe.step (YU ‹_›)
   have b:=h1 s.step (a _ _ hb k1) k1.hi
   exact k1.trans (b.trans (RGe.moreR a h1 n (a _ _ hb (k1.trans b)) b.hi))
  ·exact RGe.refl h
theorem RGe.manyB{α:Type}{one:RS->α×RS}{B:RS->Prop}(a : ∀ s t,B s->RGe s t->B t)(h1 : ∀ s,B s->s.i<=s.l.length->RGe s (one s).2){s:RS}(hb:B s)(h:s.i<=s.l.length):RGe s (Q0 one s).2:=(h1 s hb h).trans (RGe.moreR a h1 _ (a _ _ hb (h1 s hb h)) (h1 s hb h).hi)
theorem RGe.many{α:Type}{one:RS->α×RS}(h1 : ∀ s,s.i<=s.l.length->RGe s (one s).2){s:RS}(h:s.i<=s.l.length):RGe s (Q0 one s).2:=RGe.manyB (B:=fun _=>True) (fun _ _ _ _=>trivial) (fun s _ h=>h1 s h) trivial h
theorem RGe.sizes{s:RS}(h:s.i<=s.l.length):RGe s (Q0 RS.size s).2:=RGe.many (fun s h=>RGe.size h) h
theorem RGe.nums{s:RS}(h:s.i<=s.l.length):RGe s (Q0 RS.numM s).2:=RGe.many (fun s h=>RGe.num h) h
theorem RGe.names{s:RS}(h:s.i<=s.l.length):RGe s s.names.2:=RGe.many (fun s h=>RGe.name h) h
theorem RGe.dims{w:Str}{s:RS}(h:s.i<=s.l.length):RGe s (s.dims w).2:=by
 unfold RS.dims
 split
 ·have h1:=RGe.step (YU ‹_›)
  exact h1.trans (RGe.sizes h1.hi)
 ·exact RGe.refl h
theorem RGe.elem{s:RS}(h:s.i<=s.l.length):RGe s s.elem.2:=by
 unfold RS.elem
 split
 ·exact RGe.step (YU ‹_›)
 ·split
  ·exact RGe.step (YU ‹_›)
  ·exact RGe.fail h
theorem RGe.func{s:RS}(h:s.i<=s.l.length):RGe s s.func.2:=by
 unfold RS.func
 have h1:=RGe.name h
 split
 ·have h2:=RGe.step (YU ‹_›)
  exact h1.trans (h2.trans (RGe.name h2.hi))
 ·exact h1
theorem RGe.numsR: ∀ (n:Nat) {s:RS} {o:List Int},s.i<=s.l.length->RGe s (numsR n s o).2
 | 0,s,o,h=>RGe.refl h
 | n+1,s,o,h=>by
  rw[Go.Pl.numsR]
  split
  ·have h1:=RGe.num (m:=2147483648) h
   exact h1.trans (RGe.numsR n h1.hi)
  ·exact RGe.refl h
theorem RGe.datR: ∀ (n:Nat) {s:RS} {o:List Int},s.i<=s.l.length->RGe s (datR n s o).2
 | 0,s,o,h=>RGe.refl h
 | n+1,s,o,h=>by
  rw[Go.Pl.datR]
  split
  ·split
   ·have h1:=RGe.step (YU ‹_›)
    have h2:=RGe.num (m:=2147483648) h1.hi
    exact h1.trans (h2.trans (RGe.datR n h2.hi))
   ·have h1:=RGe.num (m:=2147483648) h
    exact h1.trans (RGe.datR n h1.hi)
  ·exact RGe.refl h
theorem RGe.con00{s:RS}(h:s.i<=s.l.length):RGe s (if s.kind 1=true then s.step else s):=by
 split
 ·exact RGe.step (VR ‹_›)
 ·exact RGe.refl h
theorem RGe.con0{s:RS}(h:s.i<=s.l.length):RGe s s.con0:=(RGe.con00 h).trans (RGe.need (RGe.con00 h).hi)
theorem RGe.con1{s:RS}(h:s.i<=s.l.length):RGe s s.con1.2:=(RGe.con0 h).trans (RGe.numsR _ (RGe.con0 h).hi)
theorem RGe.con2{s:RS}(h:s.i<=s.l.length):RGe s s.con2.2:=by
 have h1:=RGe.con1 h
 have h2:=RGe.need (w:=⟨[58]⟩) h1.hi
 exact h1.trans (h2.trans (RGe.datR _ h2.hi))
theorem RGe.con{s:RS}{ln:Int}(h:s.i<=s.l.length):RGe s (s.con ln).2:=by
 unfold RS.con
 split
 ·exact RGe.fail h
 ·exact(RGe.con2 h).trans (RGe.need (RGe.con2 h).hi)
theorem RGe.sizesN{s:RS}(h:s.i<=s.l.length):RGe s s.sizesN.2:=by
 unfold RS.sizesN
 split
 ·have h1:=RGe.step (YU ‹_›)
  have h2:=RGe.sizes h1.hi
  exact h1.trans (h2.trans (RGe.need h2.hi))
 ·exact RGe.refl h
theorem RGe.frameN{s:RS}(h:s.i<=s.l.length):RGe s s.frameN.2:=by
 unfold RS.frameN
 split
 ·have h1:=RGe.step (YU ‹_›)
  have h2:=RGe.num (m:=2147483648) h1.hi
  exact h1.trans (h2.trans (RGe.need h2.hi))
 ·exact RGe.refl h
theorem RGe.ranksN{s:RS}(h:s.i<=s.l.length):RGe s s.ranksN.2:=by
 unfold RS.ranksN
 split
 ·have h1:=RGe.step (YU ‹_›)
  have h2:=RGe.need (w:=⟨[40]⟩) h1.hi
  have h3:=RGe.nums h2.hi
  exact h1.trans (h2.trans (h3.trans (RGe.need h3.hi)))
 ·exact RGe.refl h
def UI(N:Nat)(s:RS):Prop:=s.l.length - s.i<N
theorem UI.ge{N:Nat}{s t:RS}(h:UI N s)(k:RGe s t):UI N t:=by
 unfold UI at *
 have:=k.le
 rw[k.l]
 omega
theorem UI.step{N:Nat}{s:RS}(h:UI (N+1) s)(hi:s.i<s.l.length):UI N s.step:=by
 unfold UI at *
 show s.l.length - (s.i+1)<N
 omega
def KQ(N:Nat)(ex:RS->Tm×RS):Prop:= ∀ t,UI N t->t.i<=t.l.length->RGe t (ex t).2
section
variable {N:Nat} {ex:RS->Tm×RS}
theorem RGe.listR(a:KQ N ex){s:RS}{w:Str}(b:UI N s)(h:s.i<=s.l.length):RGe s (listR ex w s).2:=by
 have h2:=RGe.manyB (B:=UI N) (fun s t h k=>h.ge k) (fun s h k=>a s h k) b h
 exact h2.trans (RGe.need h2.hi)
theorem RGe.kidsR(b:KQ N ex){s:RS}(a:UI N s)(h:s.i<=s.l.length):RGe s (kidsR ex s).2:=by
 have h1:=RGe.need (w:=⟨[40]⟩) h
 unfold Go.Pl.kidsR
 split
 ·exact h1.trans (RGe.step (YU ‹_›))
 ·exact h1.trans (RGe.listR b (a.ge h1) h1.hi)
theorem RGe.callR0(a:KQ N ex){ln:Int}{n:Str}{s:RS}(b:UI N s)(h:s.i<=s.l.length):RGe s (callR0 ex ln n s).2:=by
 have h1:=RGe.sizesN h
 have h2:=RGe.frameN h1.hi
 have h3:=RGe.ranksN h2.hi
 have k3:=h1.trans (h2.trans h3)
 exact k3.trans (RGe.kidsR a (b.ge k3) h3.hi)
theorem b9o{s:RS}(h:s.kind 1=true):s.name=((s.tok 0).t,s.step):=if_pos h
theorem RGe.func1{s:RS}(h:s.kind 1=true):RGe s.step s.func.2:=by
 have h1:s.step.i<=s.step.l.length:=(RGe.step (VR h)).hi
 unfold RS.func
 rw[b9o h]
 split
 ·have h2:=RGe.step (YU ‹_›)
  exact h2.trans (RGe.name h2.hi)
 ·exact RGe.refl h1
theorem RGe.callRR(e:KQ N ex){ln:Int}{s:RS}(b:UI (N+1) s)(h:s.kind 1=true):RGe s (callRR ex ln s).2:=by
 have hi:=VR h
 have a:=RGe.step hi
 have h1:=RGe.func1 h
 unfold Go.Pl.callRR
 split
 ·exact a.trans h1
 ·exact a.trans (h1.trans (RGe.callR0 e ((b.step hi).ge h1) h1.hi))
theorem RGe.foldK(a:KQ N ex): ∀ (k:Nat) {s:RS} {o:List Tm},UI N s->s.i<=s.l.length->RGe s (foldK ex k s o).2
 | 0,s,o,_,h=>RGe.refl h
 | k+1,s,o,hf,h=>by
  rw[Go.Pl.foldK]
  split
  ·exact RGe.refl h
  ·have h1:=RGe.need (w:=⟨[44]⟩) h
   have h2:=a _ (hf.ge h1) h1.hi
   exact h1.trans (h2.trans (RGe.foldK a k (hf.ge (h1.trans h2)) h2.hi))
theorem La{s:RS}{w:Str}(h:s.is w=false):s.need w=s.fail:=if_neg (by rw[h];decide)
theorem Ow{s:RS}{w:Str}(h:s.bad=true):s.is w=false:=by unfold RS.is;rw[h];rfl
theorem Qj{s:RS}{k:Int}(h:s.bad=true):s.kind k=false:=by unfold RS.kind;rw[h];rfl
theorem Aq{s:RS}(h:s.bad=true):s.fail=s:=by
 cases s
 cases h
 rfl
theorem RGe.loopR(j:KQ N ex){ln:Int}{s:RS}(k:UI (N+1) s)(h:s.i<=s.l.length):RGe s (loopR ex ln s).2:=by
 unfold Go.Pl.loopR
 dsimp only
 split
 ·have hi:=YU ‹_›
  have a:=RGe.step hi
  have h1:=RGe.need (w:=⟨[40]⟩) a.hi
  have h2:=RGe.func h1.hi
  have b:=h1.trans h2
  have h3:=RGe.foldK j 2 (o:=[]) ((k.step hi).ge b) h2.hi
  exact a.trans (b.trans (h3.trans (RGe.need h3.hi)))
 ·cases g:s.is ⟨[115,99,97,110]⟩with
  | true=>
   have hi:=YU g
   have a:=RGe.step hi
   rw[show s.need ⟨[115,99,97,110]⟩=s.step from if_pos g]
   have h1:=RGe.need (w:=⟨[40]⟩) a.hi
   have h2:=RGe.func h1.hi
   have b:=h1.trans h2
   have h3:=RGe.foldK j 1 (o:=[]) ((k.step hi).ge b) h2.hi
   exact a.trans (b.trans (h3.trans (RGe.need h3.hi)))
  | false=>
   rw[La g,La (Ow rfl),Aq (s:=s.fail) rfl]
   have e:s.fail.func=(⟨[]⟩,s.fail):=by
    have q:s.fail.name=(⟨[]⟩,s.fail):=if_neg (by rw[Qj (show s.fail.bad=true from rfl)];decide)
    unfold RS.func
    rw[q]
    exact if_neg (by rw[Ow (show s.fail.bad=true from rfl)];decide)
   rw[e]
   show RGe s ((Go.Pl.foldK ex 1 s.fail []).2.need ⟨[41]⟩)
   rw[Go.Pl.foldK,if_pos (show s.fail.bad=true from rfl)]
   exact(RGe.fail h).trans (RGe.need (RGe.fail h).hi)
theorem RGe.sizeR0{ln:Int}{s:RS}(h:s.i<=s.l.length):RGe s (sizeR0 ln s).2:=by
 have h1:=RGe.need (w:=⟨[91]⟩) h
 have h2:=RGe.size h1.hi
 exact h1.trans (h2.trans (RGe.need h2.hi))
theorem RGe.primR(b:KQ N ex){s:RS}(a:UI (N+1) s)(h:s.i<=s.l.length):RGe s (primR ex s).2:=by
 unfold Go.Pl.primR
 dsimp only
 split
 ·exact RGe.num h
 split
 ·exact RGe.step (YU ‹_›)
 split
 ·exact RGe.step (YU ‹_›)
 split
 ·exact RGe.callRR b a ‹_›
 split
 ·have hi:=YU ‹_›
  have h1:=RGe.step hi
  have h2:=b _ (a.step hi) h1.hi
  exact h1.trans (h2.trans (RGe.need h2.hi))
 split
 ·have hi:=YU ‹_›
  have h1:=RGe.step hi
  exact h1.trans (RGe.listR b (a.step hi) h1.hi)
 split
 ·have h1:=RGe.step (YU ‹_›)
  exact h1.trans (RGe.con h1.hi)
 split
 ·have h1:=RGe.step (YU ‹_›)
  exact h1.trans (RGe.sizeR0 h1.hi)
 ·exact RGe.loopR b a h
theorem RGe.unaR(b:KQ N ex){un:RS->Tm×RS}(hu:KQ N un){s:RS}(a:UI (N+1) s)(h:s.i<=s.l.length):RGe s (unaR ex un s).2:=by
 unfold Go.Pl.unaR
 dsimp only
 split
 ·have hi:=YU ‹_›
  have h1:=RGe.step hi
  split
  ·exact h1.trans (RGe.num h1.hi)
  ·exact h1.trans (hu _ (a.step hi) h1.hi)
 split
 ·have hi:=YU ‹_›
  have h1:=RGe.step hi
  exact h1.trans (hu _ (a.step hi) h1.hi)
 ·exact RGe.primR b a h
theorem b3y{s:RS}{lev:Int}(h:(s.oper lev).2=true):s.i<s.l.length:=by
 unfold RS.oper at h
 split at h
 ·exact VR ‹_›
 ·cases h
theorem RGe.op1{fr:RS->Tm×RS}{lev:Int}{s:RS}(h:s.i<=s.l.length):RGe s (if (s.oper lev).2&&decide (lev=3)then s.fail else s):=by
 split
 ·exact RGe.fail h
 ·exact RGe.refl h
theorem RGe.opR{fr:RS->Tm×RS}{lev ln:Int}(hu:KQ (N+1) fr): ∀ (n:Nat) {s:RS} {l:Tm},UI (N+1) s->s.i<=s.l.length->RGe s (opR fr lev ln n s l).2
 | 0,s,l,_,h=>RGe.refl h
 | n+1,s,l,hf,h=>by
  rw[Go.Pl.opR]
  split
  ·have hi:=b3y ‹_›
   have h1:=RGe.step hi
   have a:=hf.ge h1
   have h2:=hu _ a h1.hi
   have h3:=RGe.op1 (fr:=fr) (lev:=lev) h2.hi
   have k:=h2.trans h3
   exact h1.trans (k.trans (RGe.opR hu n (a.ge k) h3.hi))
  ·exact RGe.refl h
theorem RGe.fromR{un:RS->Tm×RS}(hu:KQ (N+1) un): ∀ d:Nat,KQ (N+1) (fromR un d)
 | 0=>hu
 | d+1=>fun s a h=>by
  have h1:=RGe.fromR hu d s a h
  rw[Go.Pl.fromR]
  exact h1.trans (RGe.opR (RGe.fromR hu d) _ (a.ge h1) h1.hi)
theorem RGe.exR(e:KQ N ex){un:RS->Tm×RS}(hu:KQ (N+1) un){s:RS}(j:UI (N+1) s)(h:s.i<=s.l.length):RGe s (exR ex un s).2:=by
 unfold Go.Pl.exR
 dsimp only
 split
 ·have hi:=YU ‹_›
  have h1:=RGe.step hi
  have g:=j.step hi
  have h2:=RGe.name h1.hi
  have h3:=RGe.need (w:=⟨[61]⟩) h2.hi
  have k3:=h2.trans h3
  have b:=e _ (g.ge k3) h3.hi
  have k:=RGe.need (w:=⟨[105,110]⟩) b.hi
  have a:=k3.trans (b.trans k)
  exact h1.trans (a.trans (e _ (g.ge a) k.hi))
 ·exact RGe.fromR hu 5 s j h
end
theorem c6h: ∀ N,KQ N (c4g N)∧KQ N (unR N)
 | 0=>⟨fun t a=>by unfold UI at a;omega,fun t a=>by unfold UI at a;omega⟩
 | N+1=>by
  obtain⟨e,hu⟩:=c6h N
  have b:KQ (N+1) (unR (N+1)):=fun t a h=>by rw[b2d];exact RGe.unaR e hu a h
  exact⟨fun t a h=>by rw[a9h];exact RGe.exR e b a h,b⟩
theorem Rm{s:RS}(h:Yd s=true):s.name.1.s.length<=65536:=by
 unfold RS.name
 split
 ·exact a2r h 0
 ·simp
theorem Da{s:RS}{x:Lin×Int}(h:Zp x.1=true):Zp (s.chk x).1=true:=by
 unfold RS.chk
 split
 ·rfl
 ·exact h
theorem Ld{s:RS}{c:Int}:Zp (s.itemN c).1=true:=Da (YC _ _ _)
theorem b2h{s:RS}:Zp s.item.1=true:=by
 unfold RS.item
 split
 ·split
  ·exact Ld
  ·exact Da rfl
 ·exact Ld
end
def b0s(s:RS)(a:Str×Unit):Bool×RS:=(s.is a.1,s)
def Kk(s:RS)(a:Str×Unit):Bool×RS:=s.take a.1
def Ku(s:RS)(a:Int×Unit):Bool×RS:=(s.kind a.1,s)
def GI(s:RS)(_:Unit):Str×RS:=s.name
def TV(s:RS)(a:Int×Unit):Int×RS:=s.num a.1
def b4g(b:Bool)(l:Lin):PV:=if b then(if l.t.isEmpty then .agg [.int .i64 l.k,.sl 0 true []]else .tup [enc l])else enc l
def b0z:PV->Bool×Lin
 | .agg [.int _ k,.sl 0 true []]=>(true,⟨k,[]⟩)
 | .tup [p]=>(true,dec p)
 | p=>(false,dec p)
def mkC(a:Bool×Lin×Int×Unit):List AV:=[.ptr 0 0,.pv (b4g a.1 a.2.1),.pv (.int .i64 a.2.2.1)]
def unC:List AV->Bool×Lin×Int×Unit
 | [_,.pv p,.pv q]=>((b0z p).1,(b0z p).2,dec q,())
 | _=>(true,⟨0,[]⟩,0,())
theorem d8b(b:Bool)(l:Lin):b0z (b4g b l)=(b,l):=by
 cases b with
 | false=>
  show b0z (.agg [.int .i64 l.k,.sl 2 false (l.t.map enc)])=(false,l)
  show(false,(dec (enc l):Lin))=(false,l)
  rw[Enc.dec_enc]
 | true=>
  unfold b4g
  rw[if_pos rfl]
  split
  ·obtain⟨k,t⟩:=l
   cases t with
   | nil=>rfl
   | cons _ _=>rename_i h;cases h
  ·show(true,(dec (enc l):Lin))=(true,l)
   rw[Enc.dec_enc]
theorem E5:Oj mkC unC:=fun a=>by
 obtain⟨b,l,e,⟨⟩⟩:=a
 show((b0z (b4g b l)).1,(b0z (b4g b l)).2,e,())=_
 rw[d8b]
def DK(s:RS)(a:Bool×Lin×Int×Unit):Lin×RS:=s.chk (a.2.1,a.2.2.1)
def Dx(s:RS)(_:Unit):Lin×RS:=s.item
def Dt(s:RS)(_:Unit):Lin×RS:=s.size
def Rq(s:RS)(a:Str×Unit):(Int×Int)×RS:=(s.endR a.1.s.length,s)
def RY:List AV->List AObj->AV×List AObj×List AObj
 | [.pv (.str s)],[]=>(.tup [.ptr 0 0,.pv (.int .i64 (Wj ⟨s⟩).b),.pv (.int .i64 (Wj ⟨s⟩).c)],[],[ZJ (rgS s)])
 | _,_=>default
abbrev e4t(ps:List PV)(k:R3 Lin Int Int->Prop):Prop:=Um (fun(x:Str×Unit)=>decide (List.length (Str.s (Prod.fst x))<=1048576)) (fun(x:Str×Unit)=>Vh (Prod.fst x)) ps k
abbrev e1d(ps:List PV)(k:R3 Lin Int Int->Prop):Prop:=Um (fun(x:Str×Unit)=>decide (List.length (Str.s (Prod.fst x))<=1048576)) (fun(x:Str×Unit)=>QR (Prod.fst x)) ps k
abbrev d7g(ps:List PV)(k:Bool->Prop):Prop:=Um (fun(x:Lin×Lin×Unit)=>Yn (Prod.fst x)) (fun(x:Lin×Lin×Unit)=>Ch (Prod.fst x) (Prod.fst (Prod.snd x))==0) ps k
noncomputable def Ll:IC:=XG Proofs.Tryz.f6
def MI:List IRes:=[(.tmp 2)]
abbrev b3d:Nat:=39
noncomputable def a6e:ZC:=YG [(7,.pure (preT (fun _:Unit=>true)) (Zm (fun _:Unit=>true))),(14,.pure (preT (fun x:Str×Unit=>decide (x.1.s.length<=1048576))) (Zm (fun x:Str×Unit=>Vh x.1))),(15,.pure (preT (fun x:Str×Unit=>decide (x.1.s.length<=1048576))) (Zm (fun x:Str×Unit=>QR x.1))),(16,.pure (preT (fun x:Lin×Lin×Unit=>Yn x.1)) (Zm (fun x:Lin×Lin×Unit=>Ch x.1 x.2.1==0)))]
theorem c7v{G:PV->Prop}(s:List UInt8)(h : ∃ j:Bool,AV.pv (Zm (fun(x:Unit)=>true) [])=AV.pv (enc j)∧(if (!j)=true then G ((.bool false))else(if (decide ((↑(List.length s):Int)>120))=true then G ((.bool true))else((e4t [(.str s)] fun g=>((e1d [(.str s)] fun e=>((d7g [(.agg [(.int .i64 (Lin.k (R3.a g))),(.sl 2 false (List.map enc (Lin.t (R3.a g))))]),(.agg [(.int .i64 (Lin.k (R3.a e))),(.sl 2 false (List.map enc (Lin.t (R3.a e))))])] fun l=>(if (l)=true then if (R3.b g==R3.b e)=true then G ((.bool (R3.c g==R3.c e)))else(G ((.bool false)))else(G ((.bool false))))))))))))):Zb a6e 0 (Za MI G) Ll [] (Yh 39 [.str s]):=Zb.tp (dm [dv Bool,dv (R3 Lin Int Int)] 49 0x22222220222022220054222201145161610001420001452) h
abbrev e5n(ps:List PV)(k:R3 (List Tok) Int Int->Prop):Prop:=Um (fun(x:Str×Unit)=>decide (List.length (Str.s (Prod.fst x))<=1048576)) (fun(x:Str×Unit)=>Wj (Prod.fst x)) ps k
abbrev d4p(args:List AV)(os:List AObj):=UF (ZH) (Xb) ([]) ([]) (fun(s:RS) (a:Str×Unit)=>Yd s&&decide (List.length (Str.s (Prod.fst a))<=1048576)) (Rq) args os
abbrev d7j(args:List AV)(os:List AObj):=UF (ZH) (Xb) ([]) ([]) (fun(s:RS) (x:Unit)=>Yd s) (Dt) args os
noncomputable def Eb:IC:=XG Proofs.Tryz.f26
def Oz:List IRes:=[(.tmp 4),(.tmp 5)]
abbrev d9m:Nat:=46
noncomputable def b8f:ZC:=YG []
theorem e3e{G:AV×List AObj×List AObj->Prop}(s:RS)(w:List UInt8)(h:if (!RS.bad s)=true then if ((↑(RS.i s):Int)==(↑(List.length (List.map enc (RS.l s))):Int))=true then G (((.pv (.tup [(.int .i64 0),(.int .i64 0)])),([(ZJ s)],[])))else(if (decide ((↑(RS.i s):Int)<(↑(List.length (List.map enc (RS.l s))):Int)))=true then(ixP (RS.l s) (↑(RS.i s):Int) 4 fun a=>(G (((.pv (.tup [(.int .i64 (PV.asInt (List.getD (List.drop 3 (PV.cells (enc a))) 0 default))),(.int .i64 6)])),([(ZJ s)],[])))))else(G (((.pv (.tup [(.int .i64 (↑(List.length w):Int)),(.int .i64 6)])),([(ZJ s)],[])))))else(if (decide ((↑(RS.i s):Int)<(↑(List.length (List.map enc (RS.l s))):Int)))=true then(ixP (RS.l s) (↑(RS.i s):Int) 4 fun b=>(G (((.pv (.tup [(.int .i64 (PV.asInt (List.getD (List.drop 3 (PV.cells (enc b))) 0 default))),(.int .i64 6)])),([(ZJ s)],[])))))else(G (((.pv (.tup [(.int .i64 (↑(List.length w):Int)),(.int .i64 6)])),([(ZJ s)],[])))))):Zb b8f 1 (Zz 1 Oz G) Eb [] (Ya 46 [.ptr 0 0,.pv (.str w)] [ZJ s]):=Zb.tf (dm [dr Tok] 52 0x25100442222222222220025100442000142222222222201a4) h
noncomputable def Po:IC:=XG Proofs.Tryz.f24
def PL:List IRes:=[(.tmp 2),(.tmp 3),(.tmp 4)]
abbrev c1s:Nat:=19
noncomputable def a2w:ZC:=YG [(53,.pure (preT (fun x:Str×Unit=>decide (x.1.s.length<=1048576))) (Zm (fun x:Str×Unit=>Wj x.1)))]
theorem e1h{G:AV×List AObj×List AObj->Prop}(s:List UInt8)(h:(e5n [(.str s)] fun e=>(G (((.tup [(.ptr 0 0),(.pv (.int .i64 (R3.b e))),(.pv (.int .i64 (R3.c e)))]),([],[(.box [(.pv (.sl 4 false (List.map enc (R3.a e)))),(.pv (.int .i64 0)),(.pv (.bool false)),(.pv (.bool false))])])))))):Zb a2w 0 (Zv 0 PL G) Po [] (Ya 19 [.pv (.str s)] []):=Zb.to (.req (.abs (R3 (List Tok) Int Int) (fun g=>AV.pv (enc g)) (.nil))) h
noncomputable def EY:IC:=XG Proofs.Tryz.f15
def O3:List IRes:=[(.cell true 2 2),(.tmp 3),(.tmp 4)]
abbrev d8t:Nat:=41
noncomputable def b9t:ZC:=YG [(24,.own U1 RY),(44,.own (XY ZH [] [] (fun(s:RS) (_:Unit)=>Yd s)) (WF Xb [] [] Dt)),(26,.own (XY ZH [] [] (fun(s:RS) (a:Str×Unit)=>Yd s&&decide (a.1.s.length<=1048576))) (WF Xb [] [] Rq))]
theorem e3u{G:PV->Prop}(s:List UInt8)(h:(U1 [(.pv (.str s))] [])=true∧(if (R3.c (Wj (Str.mk s)) != 0)=true then G ((.tup [(.agg [(.int .i64 0),(.sl 0 true [])]),(.int .i64 (R3.b (Wj (Str.mk s)))),(.int .i64 (R3.c (Wj (Str.mk s))))]))else(d7j [(.ptr 0 0)] [(.box [(.pv (.sl 4 false (List.map enc (RS.l (rgS s))))),(.pv (.int .i64 (↑(RS.i (rgS s)):Int))),(.pv (.bool false)),(.pv (.bool false))])] fun e g=>(d4p [(.ptr 0 0),(.pv (.str s))] [(ZJ g)] fun a j=>(if (a.2 != 0)=true then G ((.tup [(.agg [(.int .i64 0),(.sl 0 true [])]),(.int .i64 a.1),(.int .i64 a.2)]))else(if (RS.wide j)=true then G ((.tup [(.agg [(.int .i64 0),(.sl 0 true [])]),(.int .i64 0),(.int .i64 3)]))else(G ((.tup [(.agg [(.int .i64 e.k),(.sl 2 false (List.map enc e.t))]),(.int .i64 0),(.int .i64 0)]))))))))):Zb b9t 0 (Za O3 G) EY [] (Yh 41 [.str s]):=Zb.tp (dm [dv Lin,dO RS,dv (Int×Int)] 27 0x1400014267165100014231) h
abbrev e3r(ps:List PV)(k:Int×Bool->Prop):Prop:=Um (fun(x:Str×Unit)=>decide (List.length (Str.s (Prod.fst x))<=1048576)) (fun(x:Str×Unit)=>Yx (Prod.fst x)) ps k
abbrev e1s(ps:List PV)(k:Bool->Prop):Prop:=Um (fun(x:Lin×Unit)=>Yn (Prod.fst x)) (fun(x:Lin×Unit)=>Zd (Prod.fst x)) ps k
abbrev e3h(ps:List PV)(k:Bool->Prop):Prop:=ceP (fun(x:Lin×Unit)=>Zd (Prod.fst x)) ps k
abbrev d2s(ps:List PV)(k:Lin->Prop):Prop:=ceP (fun(x:Str×Unit)=>Lin.mk 0 [Coef.mk (Prod.fst x) 1]) ps k
abbrev d2y(ps:List PV)(k:Lin×Int->Prop):Prop:=Um (fun(x:Lin×Int×Unit)=>Zp (Prod.fst x)) (fun(x:Lin×Int×Unit)=>YL (Prod.fst x) (Prod.fst (Prod.snd x))) ps k
abbrev d3l(ps:List PV)(k:Lin×Int->Prop):Prop:=Um (fun(x:Lin×Lin×Unit)=>Zp (Prod.fst x)&&Zp (Prod.fst (Prod.snd x))) (fun(x:Lin×Lin×Unit)=>Zi (Prod.fst x) (Prod.fst (Prod.snd x)) (-1:Int)) ps k
abbrev d3a(ps:List PV)(k:Lin×Int->Prop):Prop:=Um (fun(x:Lin×Lin×Unit)=>Zp (Prod.fst x)&&Zp (Prod.fst (Prod.snd x))) (fun(x:Lin×Lin×Unit)=>Zi (Prod.fst x) (Prod.fst (Prod.snd x)) 1) ps k
abbrev d5i(args:List AV)(os:List AObj):=UF (ZH) (Xb) ([]) ([]) (fun(s:RS) (x:Str×Unit)=>Yd s) (b0s) args os
abbrev QZ(args:List AV)(os:List AObj):=UF (ZH) (Xb) ([]) ([]) (fun(s:RS) (x:Str×Unit)=>Yd s) (Kk) args os
abbrev Ns(args:List AV)(os:List AObj):=UF (ZH) (Xb) ([]) ([]) (fun(s:RS) (x:Int×Unit)=>Yd s) (Ku) args os
abbrev c1n(args:List AV)(os:List AObj):=UF (ZH) (Xb) ([]) ([]) (fun(s:RS) (x:Unit)=>Yd s) (GI) args os
abbrev d7b(args:List AV)(os:List AObj):=UF (ZH) (Xb) ([]) ([]) (fun(s:RS) (x:Int×Unit)=>Yd s) (TV) args os
abbrev JY(args:List AV)(os:List AObj):=UF (mkC) (unC) ([]) ([]) (fun(s:RS) (a:Bool×Lin×Int×Unit)=>Yd s&&(Zp (Prod.fst (Prod.snd a))&&(!Prod.fst a||List.isEmpty (Lin.t (Prod.fst (Prod.snd a)))))) (DK) args os
abbrev b9q(args:List AV)(os:List AObj):=UF (ZH) (Xb) ([]) ([]) (fun(s:RS) (x:Unit)=>Yd s) (Dx) args os
noncomputable def a2h:IC:=XG Proofs.Tryz.f63
def OV:List IRes:=[(.tmp 4)]
abbrev d9c:Nat:=65
noncomputable def c0f:ZC:=YG []
theorem e1m{G:AV×List AObj×List AObj->Prop}(s:RS)(w:List UInt8)(h:if (!RS.bad s)=true then if (decide ((↑(RS.i s):Int)<(↑(List.length (List.map enc (RS.l s))):Int)))=true then(ixP (RS.l s) (↑(RS.i s):Int) 4 fun a=>(if (PV.asStr (List.getD (List.drop 1 (PV.cells (enc a))) 0 default)==w)=true then(ixP (RS.l s) (↑(RS.i s):Int) 4 fun e=>(if (PV.asInt (List.getD (List.drop 0 (PV.cells (enc e))) 0 default)==2)=true then G (((.pv (.bool true)),([(ZJ s)],[])))else((ixP (RS.l s) (↑(RS.i s):Int) 4 fun b=>(G (((.pv (.bool (PV.asInt (List.getD (List.drop 0 (PV.cells (enc b))) 0 default)==4))),([(ZJ s)],[]))))))))else(G (((.pv (.bool false)),([(ZJ s)],[]))))))else(G (((.pv (.bool false)),([(ZJ s)],[]))))else(G (((.pv (.bool false)),([(ZJ s)],[]))))):Zb c0f 1 (Zz 1 OV G) a2h [] (Ya 65 [.ptr 0 0,.pv (.str w)] [ZJ s]):=Zb.tf (dm [dr Tok] 179 0x22222222222222222222222222222222222222202222222222222222222222222222022222222222222022222222512222222202222222222222200f4222222512222222203642222222512222222205a4222222222220864) h
noncomputable def EJ:IC:=XG Proofs.Tryz.f37
def a0r:List IRes:=[(.tmp 4)]
abbrev d6g:Nat:=16
noncomputable def b7z:ZC:=YG [(63,.own (XY ZH [] [] (fun(s:RS) (_:Str×Unit)=>Yd s)) (WF Xb [] [] b0s))]
theorem e0u{G:AV×List AObj×List AObj->Prop}(s:RS)(w:List UInt8)(h:d5i [(.ptr 0 0),(.pv (.str w))] [(ZJ s)] fun b a=>(if (!b)=true then G (((.pv (.bool false)),([(ZJ a)],[])))else(G (((.pv (.bool true)),([(.box [(.pv (.sl 4 false (List.map enc (RS.l a)))),(.pv (.int .i64 (IntKind.wrap IntKind.i64 ((↑(RS.i a):Int)+1)))),(.pv (.bool (RS.bad a))),(.pv (.bool (RS.wide a)))])],[])))))):Zb b7z 1 (Zz 1 a0r G) EJ [] (Ya 16 [.ptr 0 0,.pv (.str w)] [ZJ s]):=Zb.tf (dm [dv Bool,dO RS] 11 0x200014651) h
noncomputable def a1t:IC:=XG Proofs.Tryz.f62
def Om:List IRes:=[(.tmp 4)]
abbrev d4v:Nat:=37
noncomputable def b7s:ZC:=YG []
theorem e1y{G:AV×List AObj×List AObj->Prop}(s:RS)(k:Int)(h:if (!RS.bad s)=true then if (decide ((↑(RS.i s):Int)<(↑(List.length (List.map enc (RS.l s))):Int)))=true then(ixP (RS.l s) (↑(RS.i s):Int) 4 fun a=>(G (((.pv (.bool (PV.asInt (List.getD (List.drop 0 (PV.cells (enc a))) 0 default)==k))),([(ZJ s)],[])))))else(G (((.pv (.bool false)),([(ZJ s)],[]))))else(G (((.pv (.bool false)),([(ZJ s)],[]))))):Zb b7s 1 (Zz 1 Om G) a1t [] (Ya 37 [.ptr 0 0,.pv (.int .i64 k)] [ZJ s]):=Zb.tf (dm [dr Tok] 77 0x2222222222222222222222220222222222222202222222512222222201242222222222202f4) h
noncomputable def O5:IC:=XG Proofs.Tryz.f36
def a1k:List IRes:=[(.tmp 2)]
abbrev d7c:Nat:=28
noncomputable def b7o:ZC:=YG [(62,.own (XY ZH [] [] (fun(s:RS) (_:Int×Unit)=>Yd s)) (WF Xb [] [] Ku))]
theorem e1k{G:AV×List AObj×List AObj->Prop}(s:RS)(h:Ns [(.ptr 0 0),(.pv (.int .i64 1))] [(ZJ s)] fun e a=>(if (!e)=true then G (((.pv (.str [])),([(.box [(.pv (.sl 4 false (List.map enc (RS.l a)))),(.pv (.int .i64 (↑(RS.i a):Int))),(.pv (.bool true)),(.pv (.bool (RS.wide a)))])],[])))else((decide (0<=IntKind.wrap IntKind.i64 (IntKind.wrap IntKind.i64 ((↑(RS.i a):Int)+1) - 1))&&decide (Int.toNat (IntKind.wrap IntKind.i64 (IntKind.wrap IntKind.i64 ((↑(RS.i a):Int)+1) - 1))<List.length (List.map enc (RS.l a)))&&Enc.sz Tok==4)=true∧(∃ b:Tok,AV.pv (PV.rptr (PV.cells (List.getD (List.map enc (RS.l a)) (Int.toNat (IntKind.wrap IntKind.i64 (IntKind.wrap IntKind.i64 ((↑(RS.i a):Int)+1) - 1))) default)))=AV.pv (PV.rptr (PV.cells ((enc) b)))∧(G (((.pv (.str (PV.asStr (List.getD (List.drop 1 (PV.cells (enc b))) 0 default)))),([(.box [(.pv (.sl 4 false (List.map enc (RS.l a)))),(.pv (.int .i64 (IntKind.wrap IntKind.i64 ((↑(RS.i a):Int)+1)))),(.pv (.bool (RS.bad a))),(.pv (.bool (RS.wide a)))])],[])))))))):Zb b7o 1 (Zz 1 a1k G) O5 [] (Ya 28 [.ptr 0 0] [ZJ s]):=Zb.tf (dm [dv Bool,dO RS,dr Tok] 15 0x2712200014651) h
noncomputable def E8:IC:=XG Proofs.Tryz.f111
def a2i:List IRes:=[(.tmp 4)]
abbrev d9y:Nat:=38
noncomputable def b9a:ZC:=YG [(62,.own (XY ZH [] [] (fun(s:RS) (_:Int×Unit)=>Yd s)) (WF Xb [] [] Ku)),(139,.pure (preT (fun x:Str×Unit=>decide (x.1.s.length<=1048576))) (Zm (fun x:Str×Unit=>Yx x.1)))]
theorem e1e{G:AV×List AObj×List AObj->Prop}(s:RS)(m:Int)(h:Ns [(.ptr 0 0),(.pv (.int .i64 3))] [(ZJ s)] fun e a=>(if (e)=true then(ixP (RS.l a) (↑(RS.i a):Int) 4 fun g=>((e3r [(.str (PV.asStr (List.getD (List.drop 1 (PV.cells (enc g))) 0 default)))] fun b=>(if (decide (b.1<=m))=true then G (((.pv (.int .i64 b.1)),([(.box [(.pv (.sl 4 false (List.map enc (RS.l a)))),(.pv (.int .i64 (IntKind.wrap IntKind.i64 ((↑(RS.i a):Int)+1)))),(.pv (.bool (RS.bad a))),(.pv (.bool (RS.wide a)))])],[])))else(G (((.pv (.int .i64 0)),([(.box [(.pv (.sl 4 false (List.map enc (RS.l a)))),(.pv (.int .i64 (↑(RS.i a):Int))),(.pv (.bool true)),(.pv (.bool (RS.wide a)))])],[]))))))))else(G (((.pv (.int .i64 0)),([(.box [(.pv (.sl 4 false (List.map enc (RS.l a)))),(.pv (.int .i64 (↑(RS.i a):Int))),(.pv (.bool true)),(.pv (.bool (RS.wide a)))])],[])))))):Zb b9a 1 (Zz 1 a2i G) E8 [] (Ya 38 [.ptr 0 0,.pv (.int .i64 m)] [ZJ s]):=Zb.tf (dm [dv Bool,dO RS,dr Tok,dv (Int×Bool)] 22 0x2002428127100d4651) h
noncomputable def R8:IC:=XG Proofs.Tryz.f78
def PH:List IRes:=[(.cell true 2 6)]
abbrev d5m:Nat:=26
noncomputable def a3o:ZC:=YG [(114,.pure (preT (fun x:Lin×Unit=>Yn x.1)) (Zm (fun x:Lin×Unit=>Zd x.1)))]
theorem e2d{G:AV×List AObj×List AObj->Prop}(s:RS)(l:Lin)(e:Int)(h:if (!RS.bad s)=true then if (e != 0)=true then G (((.pv (.agg [(.int .i64 0),(.sl 0 true [])])),([(.box [(.pv (.sl 4 false (List.map enc (RS.l s)))),(.pv (.int .i64 (↑(RS.i s):Int))),(.pv (.bool (RS.bad s))),(.pv (.bool true))])],[])))else((e1s [(.agg [(.int .i64 l.k),(.sl 2 false (List.map enc l.t))])] fun a=>(if (!a)=true then G (((.pv (.agg [(.int .i64 0),(.sl 0 true [])])),([(.box [(.pv (.sl 4 false (List.map enc (RS.l s)))),(.pv (.int .i64 (↑(RS.i s):Int))),(.pv (.bool (RS.bad s))),(.pv (.bool true))])],[])))else(G (((.pv (.agg [(.int .i64 l.k),(.sl 2 false (List.map enc l.t))])),([(ZJ s)],[])))))))else(G (((.pv (.agg [(.int .i64 l.k),(.sl 2 false (List.map enc l.t))])),([(ZJ s)],[]))))):Zb a3o 1 (Zz 1 PH G) R8 [] (Ya 26 [.ptr 0 0,.pv (.agg [enc l.k,enc l.t]),.pv (.int .i64 e)] [ZJ s]):=Zb.tf (dm [dv Bool] 38 0x2222200001422225120222222007422201b4) h
theorem e0k{G:AV×List AObj×List AObj->Prop}(s:RS)(k:Int)(e:Int)(h:if (!RS.bad s)=true then if (e != 0)=true then G (((.pv (.agg [(.int .i64 0),(.sl 0 true [])])),([(.box [(.pv (.sl 4 false (List.map enc (RS.l s)))),(.pv (.int .i64 (↑(RS.i s):Int))),(.pv (.bool (RS.bad s))),(.pv (.bool true))])],[])))else(e3h [(.agg [(.int .i64 k),(.sl 0 true [])])] fun a=>(if (!a)=true then G (((.pv (.agg [(.int .i64 0),(.sl 0 true [])])),([(.box [(.pv (.sl 4 false (List.map enc (RS.l s)))),(.pv (.int .i64 (↑(RS.i s):Int))),(.pv (.bool (RS.bad s))),(.pv (.bool true))])],[])))else(G (((.pv (.agg [(.int .i64 k),(.sl 0 true [])])),([(ZJ s)],[]))))))else(G (((.pv (.agg [(.int .i64 k),(.sl 0 true [])])),([(ZJ s)],[]))))):Zb a3o 1 (Zz 1 PH G) R8 [] (Ya 26 [.ptr 0 0,.pv (.agg [.int .i64 k,.sl 0 true []]),.pv (.int .i64 e)] [ZJ s]):=Zb.tf (dm [dv Bool] 38 0x2222200001422225220222222007422201b4) h
noncomputable def En:IC:=XG Proofs.Tryz.f75
def a1i:List IRes:=[(.cell true 2 2)]
abbrev d6t:Nat:=29
noncomputable def b7d:ZC:=YG [(62,.own (XY ZH [] [] (fun(s:RS) (_:Int×Unit)=>Yd s)) (WF Xb [] [] Ku)),(111,.own (XY ZH [] [] (fun(s:RS) (_:Int×Unit)=>Yd s)) (WF Xb [] [] TV)),(78,.own (XY mkC [] [] (fun(s:RS) (a:Bool×Lin×Int×Unit)=>Yd s&&(Zp a.2.1&&(!a.1||a.2.1.t.isEmpty)))) (WF unC [] [] DK)),(36,.own (XY ZH [] [] (fun(s:RS) (_:Unit)=>Yd s)) (WF Xb [] [] GI)),(113,.pure (preT (fun _:Str×Unit=>true)) (Zm (fun x:Str×Unit=>(⟨0,[⟨x.1,1⟩]⟩:Lin)))),(112,.pure (preT (fun x:Lin×Int×Unit=>Zp x.1)) (Zm (fun x:Lin×Int×Unit=>YL x.1 x.2.1)))]
theorem e1l{G:AV×List AObj×List AObj->Prop}(s:RS)(h:Ns [(.ptr 0 0),(.pv (.int .i64 3))] [(ZJ s)] fun B u=>(if (B)=true then d7b [(.ptr 0 0),(.pv (.int .i64 2147483648))] [(ZJ u)] fun z J=>(Ns [(.ptr 0 0),(.pv (.int .i64 1))] [(ZJ J)] fun H r=>(if (!H)=true then JY [(.ptr 0 0),(.pv (.agg [(.int .i64 z),(.sl 0 true [])])),(.pv (.int .i64 0))] [(ZJ r)] fun l F=>(G (((.pv (.agg [(.int .i64 l.k),(.sl 2 false (List.map enc l.t))])),([(ZJ F)],[]))))else(c1n [(.ptr 0 0)] [(ZJ r)] fun I E=>(d2s [(.str (Str.s I))] fun q=>((d2y [(.agg [(.int .i64 q.k),(.sl 2 false (List.map enc q.t))]),(.int .i64 z)] fun g=>(JY [(.ptr 0 0),(.pv (.agg [(.int .i64 g.1.k),(.sl 2 false (List.map enc g.1.t))])),(.pv (.int .i64 g.2))] [(ZJ E)] fun j A=>(G (((.pv (.agg [(.int .i64 j.k),(.sl 2 false (List.map enc j.t))])),([(ZJ A)],[])))))))))))else(c1n [(.ptr 0 0)] [(ZJ u)] fun C D=>(d2s [(.str (Str.s C))] fun y=>((d2y [(.agg [(.int .i64 y.k),(.sl 2 false (List.map enc y.t))]),(.int .i64 1)] fun a=>(JY [(.ptr 0 0),(.pv (.agg [(.int .i64 a.1.k),(.sl 2 false (List.map enc a.1.t))])),(.pv (.int .i64 a.2))] [(ZJ D)] fun b e=>(G (((.pv (.agg [(.int .i64 b.k),(.sl 2 false (List.map enc b.t))])),([(ZJ e)],[]))))))))))):Zb b7d 1 (Zz 1 a1i G) En [] (Ya 29 [.ptr 0 0] [ZJ s]):=Zb.tf (dm [dv Bool,dO RS,dv Int,dv Lin,dv Str,dv (Lin×Int)] 44 0x681a1826910681a182691068100446516710194651) h
noncomputable def XR:IC:=XG Proofs.Tryz.f44
def XN:List IRes:=[(.cell true 2 2)]
abbrev d4l:Nat:=38
noncomputable def Vi:ZC:=YG [(37,.own (XY ZH [] [] (fun(s:RS) (_:Str×Unit)=>Yd s)) (WF Xb [] [] Kk)),(75,.own (XY ZH [] [] (fun(s:RS) (_:Unit)=>Yd s)) (WF Xb [] [] Dx)),(76,.pure (preT (fun x:Lin×Lin×Unit=>Zp x.1&&Zp x.2.1)) (Zm (fun x:Lin×Lin×Unit=>Zi x.1 x.2.1 (-1)))),(77,.pure (preT (fun x:Lin×Lin×Unit=>Zp x.1&&Zp x.2.1)) (Zm (fun x:Lin×Lin×Unit=>Zi x.1 x.2.1 (1)))),(78,.own (XY mkC [] [] (fun(s:RS) (a:Bool×Lin×Int×Unit)=>Yd s&&(Zp a.2.1&&(!a.1||a.2.1.t.isEmpty)))) (WF unC [] [] DK))]
theorem e2e{G:AV×List AObj×List AObj->Prop}(s:RS)(h:QZ [(.ptr 0 0),(.pv (.str [(45:UInt8)]))] [(ZJ s)] fun b e=>(At Vi 1 (Zz 1 XN G) XR 0 38 [(0,(.ptr 0 0)),(2,(.ptr 1 0)),(3,(.ptr 2 0)),(4,(.pv (.bool b)))] [(.obj (ZJ e)),(.obj (.box [(.pv (.int .i64 0)),(.pv (.sl 0 true []))])),(.obj (.box [(.pv (.int .i64 0)),(.pv (.sl 0 true []))]))])):Zb Vi 1 (Zz 1 XN G) XR [] (Ya 38 [.ptr 0 0] [ZJ s]):=Zb.tf (.req (.abs (Bool) (fun a=>AV.pv (enc a)) (.abso (RS) (fun a=>AObj.box (List.map AV.pv (encL a))) (.nil)))) h
theorem d1c{G:AV×List AObj×List AObj->Prop}(s:RS)(m:Bool)(h:b9q [(.ptr 0 0)] [(ZJ s)] fun e g=>(if (RS.bad g)=true then G (((.pv (.agg [(.int .i64 0),(.sl 0 true [])])),([(ZJ g)],[])))else(if (m)=true then(d3l [(.agg [(.int .i64 0),(.sl 0 true [])]),(.agg [(.int .i64 e.k),(.sl 2 false (List.map enc e.t))])] fun l=>(JY [(.ptr 0 0),(.pv (.agg [(.int .i64 l.1.k),(.sl 2 false (List.map enc l.1.t))])),(.pv (.int .i64 l.2))] [(ZJ g)] fun b D=>(QZ [(.ptr 0 0),(.pv (.str [(43:UInt8)]))] [(ZJ D)] fun B y=>(if (B)=true then At Vi 1 (Zz 1 XN G) XR 0 38 [(0,(.ptr 0 0)),(2,(.ptr 1 0)),(3,(.ptr 2 0)),(4,(.pv (.bool false)))] [(.obj (ZJ y)),(.obj (.box [(.pv (.int .i64 0)),(.pv (.sl 0 true []))])),(.obj (.box [(.pv (.int .i64 b.k)),(.pv (.sl 2 false (List.map enc b.t)))]))]else(QZ [(.ptr 0 0),(.pv (.str [(45:UInt8)]))] [(ZJ y)] fun E u=>(if (E)=true then At Vi 1 (Zz 1 XN G) XR 0 38 [(0,(.ptr 0 0)),(2,(.ptr 1 0)),(3,(.ptr 2 0)),(4,(.pv (.bool true)))] [(.obj (ZJ u)),(.obj (.box [(.pv (.int .i64 0)),(.pv (.sl 0 true []))])),(.obj (.box [(.pv (.int .i64 b.k)),(.pv (.sl 2 false (List.map enc b.t)))]))]else(G (((.pv (.agg [(.int .i64 b.k),(.sl 2 false (List.map enc b.t))])),([(ZJ u)],[]))))))))))else((d3a [(.agg [(.int .i64 0),(.sl 0 true [])]),(.agg [(.int .i64 e.k),(.sl 2 false (List.map enc e.t))])] fun j=>(JY [(.ptr 0 0),(.pv (.agg [(.int .i64 j.1.k),(.sl 2 false (List.map enc j.1.t))])),(.pv (.int .i64 j.2))] [(ZJ g)] fun a C=>(QZ [(.ptr 0 0),(.pv (.str [(43:UInt8)]))] [(ZJ C)] fun z q=>(if (z)=true then At Vi 1 (Zz 1 XN G) XR 0 38 [(0,(.ptr 0 0)),(2,(.ptr 1 0)),(3,(.ptr 2 0)),(4,(.pv (.bool false)))] [(.obj (ZJ q)),(.obj (.box [(.pv (.int .i64 0)),(.pv (.sl 0 true []))])),(.obj (.box [(.pv (.int .i64 a.k)),(.pv (.sl 2 false (List.map enc a.t)))]))]else(QZ [(.ptr 0 0),(.pv (.str [(45:UInt8)]))] [(ZJ q)] fun A r=>(if (A)=true then At Vi 1 (Zz 1 XN G) XR 0 38 [(0,(.ptr 0 0)),(2,(.ptr 1 0)),(3,(.ptr 2 0)),(4,(.pv (.bool true)))] [(.obj (ZJ r)),(.obj (.box [(.pv (.int .i64 0)),(.pv (.sl 0 true []))])),(.obj (.box [(.pv (.int .i64 a.k)),(.pv (.sl 2 false (List.map enc a.t)))]))]else(G (((.pv (.agg [(.int .i64 a.k),(.sl 2 false (List.map enc a.t))])),([(ZJ r)],[])))))))))))))):At Vi 1 (Zz 1 XN G) XR 0 38 [(0,.ptr 0 0),(2,.ptr 1 0),(3,.ptr 2 0),(4,.pv (.bool m))] [.obj (ZJ s),.obj (.box [.pv (.int .i64 0),.pv (.sl 0 true [])]),.obj (.box [.pv (.int .i64 0),.pv (.sl 0 true [])])]:=At.tf (dm [dv Lin,dO RS,dv (Lin×Int),dv Bool] 57 0x1468100014681651710000146810001468165171016400014651) h
theorem d0j{G:AV×List AObj×List AObj->Prop}(s:RS)(l:Lin)(m:Bool)(h:b9q [(.ptr 0 0)] [(ZJ s)] fun e g=>(if (RS.bad g)=true then G (((.pv (.agg [(.int .i64 0),(.sl 0 true [])])),([(ZJ g)],[])))else(if (m)=true then(d3l [(.agg [(.int .i64 l.k),(.sl 2 false (List.map enc l.t))]),(.agg [(.int .i64 e.k),(.sl 2 false (List.map enc e.t))])] fun q=>(JY [(.ptr 0 0),(.pv (.agg [(.int .i64 q.1.k),(.sl 2 false (List.map enc q.1.t))])),(.pv (.int .i64 q.2))] [(ZJ g)] fun b E=>(QZ [(.ptr 0 0),(.pv (.str [(43:UInt8)]))] [(ZJ E)] fun C z=>(if (C)=true then At Vi 1 (Zz 1 XN G) XR 0 38 [(0,(.ptr 0 0)),(2,(.ptr 1 0)),(3,(.ptr 2 0)),(4,(.pv (.bool false)))] [(.obj (ZJ z)),(.obj (.box [(.pv (.int .i64 0)),(.pv (.sl 0 true []))])),(.obj (.box [(.pv (.int .i64 b.k)),(.pv (.sl 2 false (List.map enc b.t)))]))]else(QZ [(.ptr 0 0),(.pv (.str [(45:UInt8)]))] [(ZJ z)] fun F y=>(if (F)=true then At Vi 1 (Zz 1 XN G) XR 0 38 [(0,(.ptr 0 0)),(2,(.ptr 1 0)),(3,(.ptr 2 0)),(4,(.pv (.bool true)))] [(.obj (ZJ y)),(.obj (.box [(.pv (.int .i64 0)),(.pv (.sl 0 true []))])),(.obj (.box [(.pv (.int .i64 b.k)),(.pv (.sl 2 false (List.map enc b.t)))]))]else(G (((.pv (.agg [(.int .i64 b.k),(.sl 2 false (List.map enc b.t))])),([(ZJ y)],[]))))))))))else((d3a [(.agg [(.int .i64 l.k),(.sl 2 false (List.map enc l.t))]),(.agg [(.int .i64 e.k),(.sl 2 false (List.map enc e.t))])] fun j=>(JY [(.ptr 0 0),(.pv (.agg [(.int .i64 j.1.k),(.sl 2 false (List.map enc j.1.t))])),(.pv (.int .i64 j.2))] [(ZJ g)] fun a D=>(QZ [(.ptr 0 0),(.pv (.str [(43:UInt8)]))] [(ZJ D)] fun A r=>(if (A)=true then At Vi 1 (Zz 1 XN G) XR 0 38 [(0,(.ptr 0 0)),(2,(.ptr 1 0)),(3,(.ptr 2 0)),(4,(.pv (.bool false)))] [(.obj (ZJ r)),(.obj (.box [(.pv (.int .i64 0)),(.pv (.sl 0 true []))])),(.obj (.box [(.pv (.int .i64 a.k)),(.pv (.sl 2 false (List.map enc a.t)))]))]else(QZ [(.ptr 0 0),(.pv (.str [(45:UInt8)]))] [(ZJ r)] fun B u=>(if (B)=true then At Vi 1 (Zz 1 XN G) XR 0 38 [(0,(.ptr 0 0)),(2,(.ptr 1 0)),(3,(.ptr 2 0)),(4,(.pv (.bool true)))] [(.obj (ZJ u)),(.obj (.box [(.pv (.int .i64 0)),(.pv (.sl 0 true []))])),(.obj (.box [(.pv (.int .i64 a.k)),(.pv (.sl 2 false (List.map enc a.t)))]))]else(G (((.pv (.agg [(.int .i64 a.k),(.sl 2 false (List.map enc a.t))])),([(ZJ u)],[])))))))))))))):At Vi 1 (Zz 1 XN G) XR 0 38 [(0,.ptr 0 0),(2,.ptr 1 0),(3,.ptr 2 0),(4,.pv (.bool m))] [.obj (ZJ s),.obj (.box [.pv (.int .i64 0),.pv (.sl 0 true [])]),.obj (.box [.pv (enc l.k),.pv (enc l.t)])]:=At.tf (dm [dv Lin,dO RS,dv (Lin×Int),dv Bool] 57 0x1468100014681651710000146810001468165171016400014651) h
theorem d9a{s:RS}{w:List UInt8}(hb:s.bad=false)(hi:s.i<s.l.length):s.is ⟨w⟩=((s.l[s.i].t.s==w)&&((s.l[s.i].k==2)||(s.l[s.i].k==4))):=by
 unfold RS.is
 rw[JI (k:=0) hi,hb,decide_eq_true hi]
 have e:decide (s.l[s.i+0].t=⟨w⟩)=(s.l[s.i].t.s==w):=by
  rw[Bool.eq_iff_iff]
  simp only[decide_eq_true_eq,beq_iff_eq]
  exact⟨fun h=>congrArg Str.s h,fun h=>congrArg Str.mk h⟩
 rw[e]
 show(true&&(true&&_))=_
 rw[Bool.true_and,Bool.true_and]
 congr 1
theorem d1w{s:RS}{w:Str}(h:s.bad=true ∨ ¬ s.i<s.l.length):s.is w=false:=by
 cases e:s.is w with
 | false=>rfl
 | true=>
  rcases h with h|h
  ·rw[d0g e]at h;cases h
  ·exact absurd (YU e) h
theorem b7r{s:RS}{k:Int}(hb:s.bad=false)(hi:s.i<s.l.length):s.kind k=(s.l[s.i].k==k):=by
 unfold RS.kind
 rw[JI (k:=0) hi,hb,decide_eq_true hi,Bool.eq_iff_iff]
 simp
theorem Fh{s:RS}{k:Int}(h:s.bad=true ∨ ¬ s.i<s.l.length):s.kind k=false:=by
 unfold RS.kind
 rcases h with h|h
 ·rw[h];rfl
 ·rw[decide_eq_false h];simp
theorem a5u{β:Type}[Enc β]{y:β}{s:RS}{p:PV}{cs:List AV}(h:Zk y p)(hc:cs=(encL s).map AV.pv):Z9 [] [] y s (.pv p,[.box cs],[]):=Xr h hc
theorem CZ{s:RS}(h:s.i<s.l.length)(hl:s.l.length<=4000):[AV.pv (.sl 4 false (List.map enc (RS.l s))),.pv (.int .i64 (IntKind.i64.wrap ((s.i:Int)+1))),.pv (.bool (RS.bad s)),.pv (.bool (RS.wide s))]=(encL s.step).map AV.pv:=by
 rw[next (by omega)]
 rfl
theorem d1h: ∀ (s:RS) (a:Str×Unit),Yd s=true->Zb c0f 1 (Zz 1 OV (Z9 [] [] (b0s s a).1 (b0s s a).2)) a2h [] (Ya d9c (ZH a) ([]++[ZJ s])):=by
 rintro s ⟨⟨w⟩,⟨⟩⟩ hs
 show Zb c0f 1 (Zz 1 OV (Z9 [] [] (s.is ⟨w⟩) s)) a2h [] _
 refine e1m s w (YN (fun hb=> ?_) fun hb=> ?_)
 ·by_cases hi:s.i<s.l.length
  ·rw[d9a hb hi]
   refine YP (Cf hi) ⟨Xg hi rfl,Wn hi (Z7 (fun h1=>⟨Xg hi rfl,Wn hi (Z7 (fun h2=>ZA (ZG ?_)) fun h2=>⟨Xg hi rfl,Wn hi (ZA (ZG ?_))⟩)⟩) fun h1=>ZA (ZG ?_))⟩
   ·have h1:s.l[s.i].t.s=w:=h1
    have h2:s.l[s.i].k=2:=h2
    rw[h1,h2];simp
   ·have h1:s.l[s.i].t.s=w:=h1
    have h2:s.l[s.i].k≠2:=h2
    rw[h1,beq_false_of_ne h2]
    simp
    rfl
   ·have h1:s.l[s.i].t.s≠w:=h1
    rw[beq_false_of_ne h1];rfl
  ·refine Y1 (Cg hi) (ZA (ZG (d1w (Or.inr hi)).symm))
 ·exact ZA (ZG (d1w (Or.inl hb)).symm)
theorem e6h{s:RS}{w:List UInt8}{K:Bool->RS->Prop}(hs:Yd s=true)(h:K (s.is ⟨w⟩) s):UF ZH Xb [] [] (fun(s:RS) (_:Str×Unit)=>Yd s) b0s [.ptr 0 0,.pv (.str w)] [ZJ s] K:=Xt ZQ s (⟨w⟩,()) rfl rfl hs h
theorem c6y: ∀ (s:RS) (a:Str×Unit),Yd s=true->Zb b7z 1 (Zz 1 a0r (Z9 [] [] (Kk s a).1 (Kk s a).2)) EJ [] (Ya d6g (ZH a) ([]++[ZJ s])):=by
 rintro s ⟨⟨w⟩,⟨⟩⟩ hs
 have b:=VA hs
 show Zb b7z 1 (Zz 1 a0r (Z9 [] [] (s.take ⟨w⟩).1 (s.take ⟨w⟩).2)) EJ [] _
 unfold RS.take
 refine e0u s w (e6h hs (YN (fun h=> ?_) fun h=> ?_))
 ·rw[h];exact ZA (ZG rfl)
 ·rw[h];exact Xr (ZG rfl) (CZ (YU h) b.1)
theorem a1o{s:RS}{w:List UInt8}{K:Bool->RS->Prop}(hs:Yd s=true)(h1:s.is ⟨w⟩=true->K true s.step)(h2:s.is ⟨w⟩=false->K false s):UF ZH Xb [] [] (fun(s:RS) (_:Str×Unit)=>Yd s) Kk [.ptr 0 0,.pv (.str w)] [ZJ s] K:=Xt ZQ s (⟨w⟩,()) rfl rfl hs (by
 show K (s.take ⟨w⟩).1 (s.take ⟨w⟩).2
 unfold RS.take
 cases h:s.is ⟨w⟩with
 | true=>exact h1 h
 | false=>exact h2 h)
theorem d0i: ∀ (s:RS) (a:Int×Unit),Yd s=true->Zb b7s 1 (Zz 1 Om (Z9 [] [] (Ku s a).1 (Ku s a).2)) a1t [] (Ya d4v (ZH a) ([]++[ZJ s])):=by
 rintro s ⟨k,⟨⟩⟩ hs
 show Zb b7s 1 (Zz 1 Om (Z9 [] [] (s.kind k) s)) a1t [] _
 refine e1y s k (YN (fun hb=> ?_) fun hb=> ?_)
 ·by_cases hi:s.i<s.l.length
  ·rw[b7r hb hi]
   exact YP (Cf hi) ⟨Xg hi rfl,Wn hi (ZA (ZG rfl))⟩
  ·exact Y1 (Cg hi) (ZA (ZG (Fh (Or.inr hi)).symm))
 ·exact ZA (ZG (Fh (Or.inl hb)).symm)
theorem RB{s:RS}{k:Int}{K:Bool->RS->Prop}(hs:Yd s=true)(h:K (s.kind k) s):UF ZH Xb [] [] (fun(s:RS) (_:Int×Unit)=>Yd s) Ku [.ptr 0 0,.pv (.int .i64 k)] [ZJ s] K:=Xt ZQ s (k,()) rfl rfl hs h
theorem c8f: ∀ (s:RS) (a:Unit),Yd s=true->Zb b7o 1 (Zz 1 a1k (Z9 [] [] (GI s a).1 (GI s a).2)) O5 [] (Ya d7c (ZH a) ([]++[ZJ s])):=by
 rintro s ⟨⟩ hs
 have b:=VA hs
 show Zb b7o 1 (Zz 1 a1k (Z9 [] [] s.name.1 s.name.2)) O5 [] _
 unfold RS.name
 have e:IntKind.i64.wrap (IntKind.i64.wrap ((s.i:Int)+1) - 1)=(s.i:Int):=by rw[next (by omega),Xi (by omega) (by omega)];omega
 refine e1k s (RB hs (YN (fun h=> ?_) fun h=> ?_))
 ·rw[h];exact a5u (Dj rfl) rfl
 ·have hi:=VR h
  rw[e,h,if_pos rfl,JI (k:=0) hi]
  exact⟨Xg hi rfl,Wn hi (Xr (Dj rfl) (CZ hi b.1))⟩
theorem b9l{s:RS}{K:Str->RS->Prop}(hs:Yd s=true)(h:K s.name.1 s.name.2):UF ZH Xb [] [] (fun(s:RS) (_:Unit)=>Yd s) GI [.ptr 0 0] [ZJ s] K:=Xt ZQ s () rfl rfl hs h
theorem c8v: ∀ (s:RS) (a:Int×Unit),Yd s=true->Zb b9a 1 (Zz 1 a2i (Z9 [] [] (TV s a).1 (TV s a).2)) E8 [] (Ya d9y (ZH a) ([]++[ZJ s])):=by
 rintro s ⟨m,⟨⟩⟩ hs
 have b:=VA hs
 show Zb b9a 1 (Zz 1 a2i (Z9 [] [] (s.num m).1 (s.num m).2)) E8 [] _
 unfold RS.num
 refine e1e s m (RB hs (ZW (fun h=> ?_) fun h=> ?_))
 ·have hi:=VR h
  have ht:=a2r hs 0
  rw[h,if_pos rfl]
  rw[JI (k:=0) hi]at ht ⊢
  refine⟨Xg hi rfl,Wn hi ⟨Zf (s.l[s.i].t,()) rfl (decide_eq_true (Nat.le_trans ht (by omega))),Zc (s.l[s.i].t,()) rfl (Y4 (fun h3=> ?_) fun h3=> ?_)⟩⟩
  ·rw[if_pos (show(Yx s.l[s.i+0].t).1<=m from h3)]
   exact Xr (Wq rfl) (CZ hi b.1)
  ·rw[if_neg (show ¬ (Yx s.l[s.i+0].t).1<=m from h3)]
   exact a5u (Wq rfl) rfl
 ·rw[h];exact a5u (Wq rfl) rfl
theorem e1n{s:RS}{m:Int}{K:Int->RS->Prop}(hs:Yd s=true)(h:K (s.num m).1 (s.num m).2):UF ZH Xb [] [] (fun(s:RS) (_:Int×Unit)=>Yd s) TV [.ptr 0 0,.pv (.int .i64 m)] [ZJ s] K:=Xt ZQ s (m,()) rfl rfl hs h
theorem b6i{s:RS}{l:Lin}{e:Int}(hb:s.bad=false)(h:e≠0∨Zd l=false):s.chk (l,e)=(⟨0,[]⟩,s.wid):=by
 unfold RS.chk
 rw[hb,if_pos]
 rcases h with h|h
 ·show(true&&(decide (e≠0)||_))=true
  rw[decide_eq_true h];rfl
 ·show(true&&(_ || !Zd l))=true
  rw[h];simp
theorem Gc{s:RS}{l:Lin}{e:Int}(h:s.bad=true∨(e=0∧Zd l=true)):s.chk (l,e)=(l,s):=by
 unfold RS.chk
 rw[if_neg]
 rcases h with h|h
 ·rw[h];simp
 ·show ¬ (!s.bad&&(decide (e≠0) || !Zd l))=true
  rw[h.1,h.2];simp
theorem c4m{s:RS}{l:Lin}{e:Int}(hb:s.bad=false)(h:e≠0∨Zd l=false):Z9 [] [] (s.chk (l,e)).1 (s.chk (l,e)).2 (.pv (.agg [.int .i64 0,.sl 0 true []]),[.box [.pv (.sl 4 false (List.map enc (RS.l s))),.pv (.int .i64 (s.i:Int)),.pv (.bool (RS.bad s)),.pv (.bool true)]],[]):=by
 rw[b6i hb h]
 exact a5u (s:=s.wid) ⟨rfl,rfl⟩ rfl
theorem c7x: ∀ (s:RS) (a:Bool×Lin×Int×Unit),(Yd s&&(Zp a.2.1&&(!a.1||a.2.1.t.isEmpty)))=true->Zb a3o 1 (Zz 1 PH (Z9 [] [] (DK s a).1 (DK s a).2)) R8 [] (Ya d5m (mkC a) ([]++[ZJ s])):=by
 rintro s ⟨b,l,e,⟨⟩⟩ h
 obtain⟨h0,h1,h2⟩:Yd s=true∧Zp l=true∧(!b||l.t.isEmpty)=true:=by
  rw[Bool.and_eq_true,Bool.and_eq_true]at h
  exact h
 show Zb a3o 1 (Zz 1 PH (Z9 [] [] (s.chk (l,e)).1 (s.chk (l,e)).2)) R8 [] _
 cases b with
 | false=>
  refine e2d s l e (YN (fun hb=>Nl (fun h3=>c4m hb (Or.inl h3)) fun h3=>⟨Zf (l,()) rfl (by unfold Zp at h1;rw[Bool.and_eq_true]at h1;exact h1.1),Zc (l,()) rfl (YN (fun h2=>c4m hb (Or.inr h2)) fun h2=> ?_)⟩) fun hb=> ?_)
  ·rw[Gc (Or.inr ⟨h3,h2⟩)]
   exact ZA (XC l)
  ·rw[Gc (Or.inl hb)]
   exact ZA (XC l)
 | true=>
  obtain⟨k,t⟩:=l
  cases t with
  | cons _ _=>cases h2
  | nil=>
   refine e0k s k e (YN (fun hb=>Nl (fun h1=>c4m hb (Or.inl h1)) fun h1=>KM ((⟨k,[]⟩:Lin),()) rfl (YN (fun h2=>c4m hb (Or.inr h2)) fun h2=> ?_)) fun hb=> ?_)
   ·rw[Gc (Or.inr ⟨h1,h2⟩)]
    exact ZA ⟨rfl,rfl⟩
   ·rw[Gc (Or.inl hb)]
    exact ZA ⟨rfl,rfl⟩
theorem Ti{s:RS}{l:Lin}{e:Int}{K:Lin->RS->Prop}(hs:Yd s=true)(hm:Zp l=true)(h:K (s.chk (l,e)).1 (s.chk (l,e)).2):UF mkC unC [] [] (fun(s:RS) (a:Bool×Lin×Int×Unit)=>Yd s&&(Zp (Prod.fst (Prod.snd a))&&(!Prod.fst a||List.isEmpty (Lin.t (Prod.fst (Prod.snd a)))))) DK [.ptr 0 0,.pv (.agg [.int .i64 l.k,.sl 2 false (l.t.map enc)]),.pv (.int .i64 e)] [ZJ s] K:=Xt E5 s (false,l,e,()) rfl rfl (by rw[hs];show(Zp l&&true)=true;rw[hm];rfl) h
theorem d5d{s:RS}{k:Int}{e:Int}{K:Lin->RS->Prop}(hs:Yd s=true)(h:K (s.chk (⟨k,[]⟩,e)).1 (s.chk (⟨k,[]⟩,e)).2):UF mkC unC [] [] (fun(s:RS) (a:Bool×Lin×Int×Unit)=>Yd s&&(Zp (Prod.fst (Prod.snd a))&&(!Prod.fst a||List.isEmpty (Lin.t (Prod.fst (Prod.snd a)))))) DK [.ptr 0 0,.pv (.agg [.int .i64 k,.sl 0 true []]),.pv (.int .i64 e)] [ZJ s] K:=Xt E5 s (true,⟨k,[]⟩,e,()) rfl rfl (by rw[hs];rfl) h
theorem c7j: ∀ (s:RS) (a:Unit),Yd s=true->Zb b7d 1 (Zz 1 a1i (Z9 [] [] (Dx s a).1 (Dx s a).2)) En [] (Ya d6t (ZH a) ([]++[ZJ s])):=by
 rintro s ⟨⟩ hs
 have g:=VA hs
 show Zb b7d 1 (Zz 1 a1i (Z9 [] [] s.item.1 s.item.2)) En [] _
 unfold RS.item
 have k1:=RGe.num (m:=2147483648) g.2
 have b:=k1.ok hs
 refine e1l s (RB hs (ZW (fun h=>e1n hs (RB b (YN (fun h2=>d5d b ?_) fun h2=>b9l b ?_))) fun h=>b9l hs ?_))
 ·rw[h,if_pos rfl,h2]
  exact ZA (XC _)
 ·rw[h,if_pos rfl,h2,if_pos rfl]
  have e:=RGe.name k1.hi
  exact Zc ((s.num 2147483648).2.name.1,()) rfl ⟨Zf (Ui (s.num 2147483648).2.name.1,(s.num 2147483648).1,()) rfl (CE (Rm b)),Zc (Ui (s.num 2147483648).2.name.1,(s.num 2147483648).1,()) rfl (Ti (e.ok b) (YC _ _ _) (ZA (XC _)))⟩
 ·rw[h]
  have e:=RGe.name g.2
  exact Zc (s.name.1,()) rfl ⟨Zf (Ui s.name.1,1,()) rfl (CE (Rm hs)),Zc (Ui s.name.1,1,()) rfl (Ti (e.ok hs) (YC _ _ _) (ZA (XC _)))⟩
theorem b7t{s:RS}{K:Lin->RS->Prop}(hs:Yd s=true)(h:K s.item.1 s.item.2):UF ZH Xb [] [] (fun(s:RS) (_:Unit)=>Yd s) Dx [.ptr 0 0] [ZJ s] K:=Xt ZQ s () rfl rfl hs h
theorem d9u(x:Lin):(decL [.agg [.int .i64 0,.sl 0 true []],.agg [.int .i64 x.k,.sl 2 false (x.t.map enc)]]:Lin×Lin×Unit)=(⟨0,[]⟩,x,()):=by
 show((⟨0,[]⟩:Lin),(dec (enc x):Lin),())=_
 rw[Enc.dec_enc]
theorem e5l{x:Lin}(h:Zp x=true):preT (fun x:Lin×Lin×Unit=>Zp (Prod.fst x)&&Zp (Prod.fst (Prod.snd x))) [.agg [.int .i64 0,.sl 0 true []],.agg [.int .i64 x.k,.sl 2 false (x.t.map enc)]]=true:=by
 have e:isL (Lin×Lin×Unit) [.agg [.int .i64 0,.sl 0 true []],.agg [.int .i64 x.k,.sl 2 false (x.t.map enc)]]=true:=by
  show(true&&(is Lin (enc x)&&true))=true
  rw[Enc.is_enc];rfl
 unfold preT
 rw[e,d9u]
 exact h
theorem Fw(R:Lin×RS): ∀ (n:Nat) (s:RS) (l:Lin) (m:Bool),Yd s=true->s.l.length<s.i+n->Zp l=true->R=sizL n s l m ->
  (l=⟨0,[]⟩->At Vi 1 (Zz 1 XN (Z9 [] [] R.1 R.2)) XR 0 38 [(0,.ptr 0 0),(2,.ptr 1 0),(3,.ptr 2 0),(4,.pv (.bool m))] [.obj (ZJ s),.obj (.box [.pv (.int .i64 0),.pv (.sl 0 true [])]),.obj (.box [.pv (.int .i64 0),.pv (.sl 0 true [])])])∧At Vi 1 (Zz 1 XN (Z9 [] [] R.1 R.2)) XR 0 38 [(0,.ptr 0 0),(2,.ptr 1 0),(3,.ptr 2 0),(4,.pv (.bool m))] [.obj (ZJ s),.obj (.box [.pv (.int .i64 0),.pv (.sl 0 true [])]),.obj (.box [.pv (enc l.k),.pv (enc l.t)])]:=by
 intro n
 induction n with
 | zero=>intro s l m hs hi;have:=VA hs;omega
 | succ n ih=>
  intro s l m hs hi q a
  have D:=VA hs
  have k1:=RGe.item D.2
  have b:=k1.ok hs
  have e1:=k1.le
  have hm:Zp s.item.1=true:=b2h
  have g : ∀ (t:RS) (y:Lin),Yd t=true->t.l=s.l->s.i<=t.i->Zp y=true->R=(if t.is ⟨[43]⟩then sizL n t.step y false else if t.is ⟨[45]⟩then sizL n t.step y true else(y,t)) ->
    UF ZH Xb [] [] (fun(s:RS) (_:Str×Unit)=>Yd s) Kk [.ptr 0 0,.pv (.str [43])] [ZJ t] fun E B=>if E=true then At Vi 1 (Zz 1 XN (Z9 [] [] R.1 R.2)) XR 0 38 [(0,.ptr 0 0),(2,.ptr 1 0),(3,.ptr 2 0),(4,.pv (.bool false))] [.obj (ZJ B),.obj (.box [.pv (.int .i64 0),.pv (.sl 0 true [])]),.obj (.box [.pv (enc y.k),.pv (enc y.t)])]else
     UF ZH Xb [] [] (fun(s:RS) (_:Str×Unit)=>Yd s) Kk [.ptr 0 0,.pv (.str [45])] [ZJ B] fun F A=>if F=true then At Vi 1 (Zz 1 XN (Z9 [] [] R.1 R.2)) XR 0 38 [(0,.ptr 0 0),(2,.ptr 1 0),(3,.ptr 2 0),(4,.pv (.bool true))] [.obj (ZJ A),.obj (.box [.pv (.int .i64 0),.pv (.sl 0 true [])]),.obj (.box [.pv (enc y.k),.pv (enc y.t)])]else Z9 [] [] R.1 R.2 (.pv (.agg [.int .i64 y.k,.sl 2 false (y.t.map enc)]),[ZJ A],[]):=fun t y ht r hti z a=>by
   refine a1o ht (fun h=>YP rfl ?_) fun h=>Y1 (by simp) (a1o ht (fun h2=>YP rfl ?_) fun h2=>Y1 (by simp) ?_)
   ·rw[if_pos h]at a
    have k:=RGe.step (YU h)
    refine(ih _ _ _ (k.ok ht) ?_ z a).2
    show t.l.length<t.i+1+n
    rw[r];omega
   ·rw[if_neg (by rw[h];simp),if_pos h2]at a
    have k:=RGe.step (YU h2)
    refine(ih _ _ _ (k.ok ht) ?_ z a).2
    show t.l.length<t.i+1+n
    rw[r];omega
   ·rw[if_neg (by rw[h];simp),if_neg (by rw[h2];simp)]at a
    subst a
    exact ZA (XC y)
  rw[sizL]at a
  refine⟨fun C=> ?_,?_⟩
  ·subst C
   refine d1c s m (b7t hs (ZW (fun hb=> ?_) fun hb=>ZW (fun j=> ?_) fun j=> ?_))
   ·rw[if_pos hb]at a
    subst a
    exact ZA (XC ⟨0,[]⟩)
   ·subst j
    rw[if_neg (by rw[hb];simp)]at a
    have e:=RGe.chk (x:=Zi ⟨0,[]⟩ s.item.1 (-1)) k1.hi
    have u:=e.le
    exact⟨e5l hm,KM (⟨0,[]⟩,s.item.1,()) (d9u _) (Ti b (YC _ _ _) (g _ _ (e.ok b) (by rw[e.l,k1.l]) (by show s.i<=(s.item.2.chk (Zi ⟨0,[]⟩ s.item.1 (-1))).2.i;omega) (Da (YC _ _ _)) a))⟩
   ·subst j
    rw[if_neg (by rw[hb];simp)]at a
    have e:=RGe.chk (x:=Zi ⟨0,[]⟩ s.item.1 1) k1.hi
    have u:=e.le
    exact⟨e5l hm,KM (⟨0,[]⟩,s.item.1,()) (d9u _) (Ti b (YC _ _ _) (g _ _ (e.ok b) (by rw[e.l,k1.l]) (by show s.i<=(s.item.2.chk (Zi ⟨0,[]⟩ s.item.1 1)).2.i;omega) (Da (YC _ _ _)) a))⟩
  ·refine d0j s l m (b7t hs (ZW (fun hb=> ?_) fun hb=>ZW (fun j=> ?_) fun j=> ?_))
   ·rw[if_pos hb]at a
    subst a
    exact ZA (XC ⟨0,[]⟩)
   ·subst j
    rw[if_neg (by rw[hb];simp)]at a
    have e:=RGe.chk (x:=Zi l s.item.1 (-1)) k1.hi
    have u:=e.le
    exact⟨Zf (l,s.item.1,()) rfl (CQ q hm),Zc (l,s.item.1,()) rfl (Ti b (YC _ _ _) (g _ _ (e.ok b) (by rw[e.l,k1.l]) (by show s.i<=(s.item.2.chk (Zi l s.item.1 (-1))).2.i;omega) (Da (YC _ _ _)) a))⟩
   ·subst j
    rw[if_neg (by rw[hb];simp)]at a
    have e:=RGe.chk (x:=Zi l s.item.1 1) k1.hi
    have u:=e.le
    exact⟨Zf (l,s.item.1,()) rfl (CQ q hm),Zc (l,s.item.1,()) rfl (Ti b (YC _ _ _) (g _ _ (e.ok b) (by rw[e.l,k1.l]) (by show s.i<=(s.item.2.chk (Zi l s.item.1 1)).2.i;omega) (Da (YC _ _ _)) a))⟩
theorem c9l: ∀ (s:RS) (a:Unit),Yd s=true->Zb Vi 1 (Zz 1 XN (Z9 [] [] (Dt s a).1 (Dt s a).2)) XR [] (Ya d4l (ZH a) ([]++[ZJ s])):=by
 rintro s ⟨⟩ hs
 have hl:=VA hs
 show Zb Vi 1 (Zz 1 XN (Z9 [] [] s.size.1 s.size.2)) XR [] _
 refine e2e s (a1o hs (fun h=> ?_) fun h=> ?_)
 ·have k1:=RGe.step (YU h)
  refine(Fw _ (s.l.length+1) _ ⟨0,[]⟩ true (k1.ok hs) (by show s.l.length<s.i+1+_;omega) rfl ?_).1 rfl
  unfold RS.size RS.take
  rw[if_pos h]
 ·refine(Fw _ (s.l.length+1) _ ⟨0,[]⟩ false hs (by omega) rfl ?_).1 rfl
  unfold RS.size RS.take
  rw[if_neg (by rw[h];simp)]
theorem d5h{s:RS}{K:Lin->RS->Prop}(hs:Yd s=true)(h:K s.size.1 s.size.2):UF ZH Xb [] [] (fun(s:RS) (_:Unit)=>Yd s) Dt [.ptr 0 0] [ZJ s] K:=Xt ZQ s () rfl rfl hs h
end Go.Pl
namespace Go.Pl
open Go.RowKit
section
def e4o:List (List UInt8):=[[61,61],[33,61],[60],[60,61],[62],[62,61]]
def J5(o:Int)(s:PS):Prop:=s.bad=true∧s.wr=o∧s.i=s.l.length
def e6t(o:Int)(s:PS):Prop:=s.bad=false∧(s.peek 0).o=o∧(s.peek 0).k=4∧(s.peek 0).t.s∈e4o
def Y3(o:Int)(s:PS):Prop:=J5 o s∨e6t o s
section
variable {o:Int} {s:PS}
theorem J5.peek(h:J5 o s):(s.peek 0).k=0:=by rw[VO (by rw[h.2.2];exact Nat.le_refl _)]
theorem Y3.k1(h:Y3 o s):(s.peek 0).k≠1:=by rcases h with h|h;rw[h.peek];decide;rw[h.2.2.1];decide
theorem Y3.k3(h:Y3 o s):(s.peek 0).k≠3:=by rcases h with h|h;rw[h.peek];decide;rw[h.2.2.1];decide
theorem Y3.next(h:Y3 o s){w:Str}(a:w.s ∉ e4o):s.next w=false:=by
 unfold PS.next
 rcases h with h|h
 ·rw[h.peek];rfl
 ·rw[decide_eq_false (show ¬ (s.peek 0).t=w from fun e=>a (by rw[<- e];exact h.2.2.2)),Bool.and_false]
theorem Y3.fail(h:Y3 o s):J5 o s.fail:=by
 refine⟨rfl,?_,rfl⟩
 show(if s.bad then s.wr else(s.peek 0).o)=o
 rcases h with h|h
 ·rw[if_pos h.1];exact h.2.1
 ·rw[if_neg (by rw[h.1];decide)];exact h.2.1
theorem Y3.name(h:Y3 o s):J5 o s.name.2:=by
 unfold PS.name
 rw[if_neg h.k1]
 exact h.fail
theorem Y3.num(h:Y3 o s){m:Int}:J5 o (s.num m).2:=by
 unfold PS.num
 rw[if_neg (fun k=>h.k3 k.1)]
 exact h.fail
theorem J5.st(h:J5 o s):Y3 o s:=Or.inl h
theorem Y3.item(h:Y3 o s):J5 o s.item.2:=by
 unfold PS.item
 rw[if_neg h.k1,if_neg (fun k=>h.num.st.k1 k.1)]
 exact h.num
theorem Y3.linLoop(h:J5 o s): ∀ (n:Nat) (l:Lin),(linLoop n s l).2=s
 | 0,l=>rfl
 | n+1,l=>by rw[Go.Pl.linLoop,if_pos h.1]
theorem Y3.linear(h:Y3 o s):J5 o s.linear.2:=by
 have e:s.lin0.2=s.item.2:=by unfold PS.lin0;rw[if_neg (by rw[h.next (by decide)];decide)]
 have k:J5 o s.lin0.2:=by rw[e];exact h.item
 unfold PS.linear
 rw[Y3.linLoop k]
 exact k
end
structure Sim0 (z:Int) (s:PS) (r:RS):Prop where
 l:r.l=s.l
 i:r.i=s.i
 sz:s.sz=z
 bad:s.bad=false
 rbad:r.bad=false
 hi:s.i<=s.l.length
 lx:D9 s.l=true
structure Sim (z:Int) (tb:Bool) (s:PS) (r:RS):Prop where
 c:Sim0 z s r
 big:s.big=(r.wide||tb)
def off(z:Int)(r:RS):Int:=if r.i<r.l.length then(r.tok 0).o else z
section
variable {z:Int} {s:PS} {r:RS}
theorem Sim0.tok(h:Sim0 z s r){k:Nat}(hi:s.i+k<s.l.length):r.tok k=s.peek k:=by
 rw[Hd hi,JI (by rw[h.l,h.i];exact hi)]
 simp only[h.l,h.i]
theorem Sim0.has(h:Sim0 z s r):(r.i<r.l.length)=(s.i<s.l.length):=by rw[h.l,h.i]
theorem Sim0.kind(h:Sim0 z s r){k:Int}(a:k≠0):r.kind k=decide ((s.peek 0).k=k):=by
 unfold RS.kind
 rw[h.rbad]
 by_cases hi:s.i<s.l.length
 ·rw[h.tok hi,decide_eq_true (show r.i<r.l.length by rw[h.has];exact hi)];rfl
 ·rw[decide_eq_false (show ¬ r.i<r.l.length by rw[h.has];exact hi),VO (by omega)]
  simp only[Bool.false_and,Bool.and_false]
  exact(decide_eq_false (fun e=>a e.symm)).symm
theorem Sim0.is(h:Sim0 z s r)(w:Str):r.is w=s.next w:=by
 unfold RS.is PS.next
 rw[h.rbad]
 by_cases hi:s.i<s.l.length
 ·rw[h.tok hi,decide_eq_true (show r.i<r.l.length by rw[h.has];exact hi)]
  simp only[Bool.not_false,Bool.true_and]
  exact Bool.and_comm _ _
 ·rw[decide_eq_false (show ¬ r.i<r.l.length by rw[h.has];exact hi),VO (by omega)]
  rfl
theorem Sim0.off(h:Sim0 z s r):off z r=(s.peek 0).o:=by
 unfold Go.Pl.off
 by_cases hi:s.i<s.l.length
 ·rw[if_pos (by rw[h.has];exact hi),h.tok hi]
 ·rw[if_neg (by rw[h.has];exact hi),VO (by omega)]
  exact h.sz.symm
theorem Sim0.step(h:Sim0 z s r)(hi:s.i<s.l.length):Sim0 z s.step r.step:=⟨h.l,by show r.i+1=s.i+1;rw[h.i],h.sz,h.bad,h.rbad,hi,h.lx⟩
theorem Sim0.fail(h:Sim0 z s r):r.fail.bad=true∧J5 (Go.Pl.off z r.fail) s.fail:=⟨rfl,⟨rfl,by
 show(if s.bad then s.wr else(s.peek 0).o)=Go.Pl.off z r
 rw[if_neg (by rw[h.bad];decide),h.off],rfl⟩⟩
variable {tb:Bool}
theorem Sim.step(h:Sim z tb s r)(hi:s.i<s.l.length):Sim z tb s.step r.step:=⟨h.c.step hi,h.big⟩
theorem Sim.tok(h:Sim z tb s r){k:Nat}(hi:s.i+k<s.l.length):r.tok k=s.peek k:=h.c.tok hi
theorem Sim.kind(h:Sim z tb s r){k:Int}(a:k≠0):r.kind k=decide ((s.peek 0).k=k):=h.c.kind a
theorem Sim.is(h:Sim z tb s r)(w:Str):r.is w=s.next w:=h.c.is w
theorem Sim.fail(h:Sim z tb s r):r.fail.bad=true∧J5 (Go.Pl.off z r.fail) s.fail:=h.c.fail
theorem Sim.lx(h:Sim z tb s r):D9 s.l=true:=h.c.lx
end
def O4{α β:Type}(K:Int->PS->Prop)(z:Int)(tb:Bool)(S R:α->β->Prop)(x:α×PS)(y:β×RS):Prop:=
 (Sim z tb x.2 y.2∧S x.1 y.1∧(y.2.wide=false->R x.1 y.1))∨(y.2.bad=true∧K (off z y.2) x.2)
structure Twin {α β:Type} (K:Int->PS->Prop) (S R:α->β->Prop) (m:PS->α×PS) (n:RS->β×RS):Prop where
 sim : ∀ z tb s r,Sim z tb s r->O4 K z tb S R (m s) (n r)
 keep : ∀ o s,Y3 o s->K o (m s).2
 stay : ∀ r,r.bad=true->(n r).2=r
 mono : ∀ r,r.wide=true->(n r).2.wide=true
def bP{α β:Type}(m:PS->α×PS)(f:α->PS->β×PS):PS->β×PS:=fun s=>f (m s).1 (m s).2
def bR{α β:Type}(m:RS->α×RS)(f:α->RS->β×RS):RS->β×RS:=fun s=>f (m s).1 (m s).2
def An{α β:Type}(_:α)(_:β):Prop:=True
section
variable {α β α' β':Type} {S R:α->β->Prop} {S' R':α'->β'->Prop} {K:Int->PS->Prop} {z:Int} {tb:Bool}
theorem O4.imp{j:Int->PS->Prop}{e g:α->β->Prop}{x:α×PS}{y:β×RS}(h:O4 K z tb S R x y)(k : ∀ o s,K o s->j o s)(l : ∀ a b,S a b->e a b)(q : ∀ a b,R a b->g a b):O4 j z tb e g x y:=by
 rcases h with ⟨h1,h2,h3⟩|⟨h1,h2⟩
 ·exact Or.inl ⟨h1,l _ _ h2,fun u=>q _ _ (h3 u)⟩
 ·exact Or.inr ⟨h1,k _ _ h2⟩
theorem Twin.imp{m:PS->α×PS}{n:RS->β×RS}{e g:α->β->Prop}(h:Twin K S R m n)(j : ∀ a b,S a b->e a b)(k : ∀ a b,R a b->g a b):Twin K e g m n:=⟨fun z tb s r hs=>(h.sim z tb s r hs).imp (fun _ _ h=>h) j k,h.keep,h.stay,h.mono⟩
theorem Twin.st{m:PS->α×PS}{n:RS->β×RS}(h:Twin J5 S R m n):Twin Y3 S R m n:=⟨fun z tb s r hs=>(h.sim z tb s r hs).imp (fun _ _ h=>h.st) (fun _ _ h=>h) (fun _ _ h=>h),fun o s hs=>(h.keep o s hs).st,h.stay,h.mono⟩
theorem O4.bind{x:α×PS}{y:β×RS}{f:α->PS->α'×PS}{g:β->RS->β'×RS}(h:O4 Y3 z tb S R x y)(k : ∀ a b,S a b-> ∀ z tb s r,Sim z tb s r->O4 K z tb S' (fun x y=>R a b->R' x y) (f a s) (g b r))(B : ∀ a o s,Y3 o s->K o (f a s).2)(ks : ∀ b r,r.bad=true->(g b r).2=r)(A : ∀ b r,r.wide=true->(g b r).2.wide=true):O4 K z tb S' R' (f x.1 x.2) (g y.1 y.2):=by
 rcases h with ⟨h1,C,D⟩|⟨hb,q⟩
 ·rcases k _ _ C z tb _ _ h1 with ⟨h2,l,j⟩|h2
  ·refine Or.inl ⟨h2,l,fun u=>j u (D ?_)⟩
   cases e:y.2.wide with
   | false=>rfl
   | true=>exact absurd (A y.1 _ e) (by rw[u];decide)
  ·exact Or.inr h2
 ·have e:(g y.1 y.2).2=y.2:=ks _ _ hb
  refine Or.inr ⟨by rw[e];exact hb,by rw[e];exact B _ _ _ q⟩
theorem Twin.bind{m:PS->α×PS}{n:RS->β×RS}{f:α->PS->α'×PS}{g:β->RS->β'×RS}(h:Twin Y3 S R m n)(k : ∀ a b,S a b->Twin K S' (fun x y=>R a b->R' x y) (f a) (g b))(q : ∀ a o s,Y3 o s->K o (f a s).2)(ks : ∀ b r,r.bad=true->(g b r).2=r)(l : ∀ b r,r.wide=true->(g b r).2.wide=true):Twin K S' R' (bP m f) (bR n g):=by
 refine⟨fun z tb s r hs=>(h.sim z tb s r hs).bind (fun a b j=>(k a b j).sim) q ks l,fun o s hs=>q _ _ _ (h.keep _ _ hs),fun r hr=> ?_,fun r hr=>l _ _ (h.mono r hr)⟩
 have e:(n r).2=r:=h.stay r hr
 show(g (n r).1 (n r).2).2=r
 rw[e]
 exact ks _ _ hr
theorem Twin.congr{m b:PS->α×PS}{n a:RS->β×RS}(h:Twin K S R b a)(hm : ∀ s,s.bad=false->m s=b s)(k : ∀ o s,Y3 o s->K o (m s).2)(hn : ∀ r,(n r).2=(a r).2∧((n r).2.bad=false->(n r).1=(a r).1)):Twin K S R m n:=by
 refine⟨fun z tb s r hs=> ?_,k,fun r hr=> ?_,fun r hr=> ?_⟩
 ·rw[hm s hs.c.bad]
  rcases h.sim z tb s r hs with ⟨h1,h2,h3⟩|⟨h1,h2⟩
  ·have e:=(hn r).1
   have g:=(hn r).2 (by rw[e];exact h1.c.rbad)
   exact Or.inl ⟨by rw[e];exact h1,by rw[g];exact h2,fun j=>by rw[g];exact h3 (by rw[<- e];exact j)⟩
  ·have e:=(hn r).1
   exact Or.inr ⟨by rw[e];exact h1,by rw[e];exact h2⟩
 ·rw[(hn r).1];exact h.stay r hr
 ·rw[(hn r).1];exact h.mono r hr
end
def e3t(m:Int):PS->Int×PS:=fun s=>s.num m
def c6e(m:Int):RS->Int×RS:=fun s=>s.num m
theorem NN:Twin J5 Eq Eq PS.name RS.name:=by
 refine⟨fun z tb s r h=> ?_,fun o s h=>h.name,fun r h=> ?_,fun r h=> ?_⟩
 ·unfold PS.name RS.name O4
  rw[h.kind (by decide)]
  by_cases e:(s.peek 0).k=1
  ·have hi:=Xd (s:=s) (by omega)
   rw[if_pos e,if_pos (decide_eq_true e)]
   have a:(s.peek 0).t=(r.tok 0).t:=by rw[h.tok hi]
   exact Or.inl ⟨h.step hi,a,fun _=>a⟩
  ·rw[if_neg e,if_neg (by simpa using e)]
   exact Or.inr h.fail
 ·unfold RS.name
  rw[if_neg (by rw[Qj h];decide)]
  exact Aq h
 ·unfold RS.name
  split <;> exact h
theorem a3a{s:PS}(h:D9 s.l=true)(a:(s.peek 0).k=3):(Yx (s.peek 0).t).2=true:=by
 have hi:=Xd (s:=s) (by omega)
 have h3:=List.all_eq_true.1 h _ (List.getElem_mem (l:=s.l) (n:=s.i+0) hi)
 rw[<- Hd (k:=0) hi]at h3
 unfold a6w at h3
 simp only[Bool.and_eq_true,Bool.or_eq_true,decide_eq_true_eq]at h3
 rcases h3.2.1 with h|h
 ·exact absurd a h
 ·exact h
theorem c3i{s:PS}(h:D9 s.l=true)(a:(s.peek 0).k=1):nameI (s.peek 0).t.s=true:=by
 have hi:=Xd (s:=s) (by omega)
 have h3:=List.all_eq_true.1 h _ (List.getElem_mem (l:=s.l) (n:=s.i+0) hi)
 rw[<- Hd (k:=0) hi]at h3
 unfold a6w at h3
 simp only[Bool.and_eq_true,Bool.or_eq_true,decide_eq_true_eq]at h3
 rcases h3.1 with h|h
 ·exact absurd a h
 ·exact h
theorem c8o{m:Int}:Twin J5 Eq Eq (e3t m) (c6e m):=by
 refine⟨fun z tb s r h=> ?_,fun o s h=>h.num,fun r h=> ?_,fun r h=> ?_⟩
 ·unfold e3t c6e PS.num RS.num O4
  rw[h.kind (by decide)]
  by_cases e:(s.peek 0).k=3
  ·have hi:=Xd (s:=s) (by omega)
   rw[if_pos (decide_eq_true e)]
   have a:(r.tok 0).t=(s.peek 0).t:=by rw[h.tok hi]
   rw[a]
   by_cases q:(Yx (s.peek 0).t).1<=m
   ·rw[if_pos ⟨e,a3a h.lx e,q⟩,if_pos q]
    exact Or.inl ⟨h.step hi,rfl,fun _=>rfl⟩
   ·rw[if_neg (fun k=>q k.2.2),if_neg q]
    exact Or.inr h.fail
  ·rw[if_neg (fun k=>e k.1),if_neg (by simpa using e)]
   exact Or.inr h.fail
 ·unfold c6e RS.num
  rw[if_neg (by rw[Qj h];decide)]
  exact Aq h
 ·unfold c6e RS.num
  split
  ·split <;> exact h
  ·exact h
section
variable {α:Type}
end
end
open Enc (enc dec is)
open EncL (encL decL isL)
section
section
variable {ex:RS->Tm×RS} {s:RS} (h1:s.kind 3=false)
include h1
variable (h2:s.is ⟨[116,114,117,101]⟩=false)
include h2
variable (h3:s.is ⟨[102,97,108,115,101]⟩=false)
include h3
variable (h4:s.kind 1=false)
include h4
variable (h5:s.is ⟨[40]⟩=false)
include h5
variable (h6:s.is ⟨[91]⟩=false)
include h6
variable (h7:s.is ⟨[35]⟩=false)
include h7
variable (h8:s.is ⟨[115,105,122,101]⟩=false)
include h8
end
end
end Go.Pl
namespace Go.Pl
open Go.RowKit
theorem Gl{x:Lin}(h:Zd x=true):Zi ⟨0,[]⟩ x 1=(x,0):=by
 have a:Zd (⟨0,[]⟩:Lin)=true:=by decide
 rw[VB 1 a h]
 have e:ZR ⟨0,[]⟩ x 1=x:=by
  have g:(ZR ⟨0,[]⟩ x 1).t=x.t:=GX (MX 1 x.t _ (show VT ([]:List Coef)from Vn a)) (Mh (Bf a)) (Vn h) (Bf h) fun s=>by
   rw[Es a h (by decide) (by decide)]
   show Ye [] s+1*Ye x.t s=Ye x.t s
   rw[Uk]
   omega
  have b:(ZR ⟨0,[]⟩ x 1).k=x.k:=by
   rw[FB a h (by decide) (by decide)]
   show 0+1*x.k=x.k
   omega
  cases x
  generalize ZR ⟨0,[]⟩ _ 1=z at g b
  cases z
  simp only at g b
  rw[g,b]
 unfold UG
 rw[e,h];rfl
theorem c6n{c:UInt8}(h:lowB c=true):c≠95:=by
 intro e
 subst e
 exact absurd h (by decide)
theorem c4k{n:Str}(h:nameI n.s=true):Yo n=true:=by
 obtain⟨n⟩:=n
 cases n with
 | nil=>cases h
 | cons c r=>
  unfold nameI at h
  simp only[Bool.and_eq_true,decide_eq_true_eq]at h
  obtain⟨⟨⟨h1,h2⟩,h3⟩,h4⟩:=h
  show(if c=95 then _ else(lowB c&&r.all (fun c=>lowB c||digB c)&&decide (r.length<=29)))=true
  rw[if_neg (c6n h1),h1,decide_eq_true h3]
  rw[show(fun c=>lowB c||digB c)=Fp from funext fun c=>Bool.or_comm _ _,h2]
  rfl
theorem a9o{n:Str}(h:nameI n.s=true):Zd (Ui n)=true:=by
 unfold Zd Ui
 simp only[List.all_cons,List.all_nil,c4k h]
 rfl
theorem a9t{x:Lin}(h:Zd x=true):YL x 1=(x,0):=Gl h
theorem Ce{x:Lin}{k:Int}(h:(YL x k).2=0):Zd (YL x k).1=true:=(Qu h).2.2
theorem BA{a b:Lin}{k:Int}(h:Zd a=false∨Zd b=false):(Zi a b k).2≠0:=by
 intro e
 have h1:=Qu e
 rcases h with h|h
 ·rw[h]at h1;cases h1.1
 ·rw[h]at h1;cases h1.2.1
theorem BL{r:RS}{x:Lin×Int}(h:r.bad=false)(h1:x.2=0)(h2:Zd x.1=true):r.chk x=(x.1,r):=by
 unfold RS.chk
 rw[h,h2,decide_eq_false (fun k=>k h1)]
 rfl
theorem O0{r:RS}{x:Lin×Int}(h:r.bad=false)(h1:x.2≠0∨Zd x.1=false):r.chk x=(⟨0,[]⟩,r.wid):=by
 unfold RS.chk
 rw[h,if_pos]
 rcases h1 with h1|h1
 ·rw[decide_eq_true h1];rfl
 ·rw[h1];simp
theorem GG{r:RS}{x:Lin×Int}(h:r.bad=true):(r.chk x).2=r:=by
 unfold RS.chk
 rw[h]
 rfl
theorem KE{r:RS}{x:Lin×Int}(h:r.wide=true):(r.chk x).2.wide=true:=by
 unfold RS.chk
 split
 ·rfl
 ·exact h
theorem Sim0.wid{z:Int}{s:PS}{r:RS}(h:Sim0 z s r):Sim0 z s r.wid:=⟨h.l,h.i,h.sz,h.bad,h.rbad,h.hi,h.lx⟩
theorem Sim0.wide{z:Int}{s:PS}{r:RS}(h:Sim0 z s r){b:Bool}:Sim0 z (s.wide b) r:=⟨h.l,h.i,h.sz,h.bad,h.rbad,h.hi,h.lx⟩
theorem J5.wide{o:Int}{s:PS}(h:J5 o s){b:Bool}:J5 o (s.wide b):=h
structure LinS (z:Int) (tb:Bool) (s:PS) (l:Lin) (r:RS) (l':Lin):Prop where
 c:Sim0 z s r
 nw:r.wide=false->s.big=tb∧l=l'∧Zd l=true
 wd:r.wide=true->(s.big || !Zd l)=true
theorem Lc{z:Int}{s:PS}{r:RS}(h:Sim0 z s r):
  (Sim0 z s.item.2 r.item.2∧(r.item.2.wide=false->s.item.2.big=s.big∧r.wide=false∧s.item.1=r.item.1∧Zd s.item.1=true)∧(r.item.2.wide=true->r.wide=true∨(s.item.2.big || !Zd s.item.1)=true)∧(s.big=true->s.item.2.big=true))∨(r.item.2.bad=true∧J5 (off z r.item.2) s.item.2):=by
 unfold PS.item RS.item
 by_cases k1:(s.peek 0).k=1
 ·have hi:=Xd (s:=s) (by omega)
  rw[if_pos k1,if_neg (by rw[h.kind (by decide)];simp;omega)]
  have e:s.name=((s.peek 0).t,s.step):=if_pos k1
  have b:r.name=((s.peek 0).t,r.step):=by
   rw[<- h.tok hi]
   exact if_pos (by rw[h.kind (by decide)];simpa using k1)
  have l:=a9o (c3i h.lx k1)
  unfold RS.itemN
  rw[e,b]
  dsimp only
  rw[a9t l,BL (r:=r.step) (x:=(Ui (s.peek 0).t,0)) h.rbad rfl l]
  exact Or.inl ⟨h.step hi,fun q=>⟨rfl,q,rfl,l⟩,fun q=>Or.inl q,fun q=>q⟩
 rw[if_neg k1]
 by_cases k3:(s.peek 0).k=3
 ·have hi:=Xd (s:=s) (by omega)
  rw[if_pos (show r.kind 3=true by rw[h.kind (by decide)];simpa using k3)]
  have y:r.tok 0=s.peek 0:=h.tok hi
  by_cases q:(Yx (s.peek 0).t).1<=2147483648
  ·have e:s.num 2147483648=((Yx (s.peek 0).t).1,s.step):=if_pos ⟨k3,a3a h.lx k3,q⟩
   have b:r.num 2147483648=((Yx (s.peek 0).t).1,r.step):=by
    unfold RS.num
    rw[if_pos (show r.kind 3=true by rw[h.kind (by decide)];simpa using k3),y,if_pos q]
   rw[e,b]
   dsimp only
   have h1:=h.step hi
   generalize hc:(Yx (s.peek 0).t).1=c
   by_cases j:(s.step.peek 0).k=1
   ·have u:=Xd (s:=s.step) (by omega)
    rw[if_pos ⟨j,h1.bad⟩,if_pos (show r.step.kind 1=true by rw[h1.kind (by decide)];simpa using j)]
    have B:s.step.name=((s.step.peek 0).t,s.step.step):=if_pos j
    have A:r.step.name=((s.step.peek 0).t,r.step.step):=by
     rw[<- h1.tok u]
     exact if_pos (by rw[h1.kind (by decide)];simpa using j)
    unfold RS.itemN
    rw[B,A]
    dsimp only
    have h2:=h1.step u
    by_cases g:(YL (Ui (s.step.peek 0).t) c).2=0
    ·rw[BL h2.rbad g (Ce g)]
     refine Or.inl ⟨h2.wide,fun q=>⟨?_,q,rfl,Ce g⟩,fun q=>Or.inl q,fun q=> ?_⟩
     ·show(s.big||decide ((YL (Ui (s.step.peek 0).t) c).2≠0))=s.big
      rw[decide_eq_false (fun k=>k g),Bool.or_false]
     ·show(s.big||_)=true
      rw[q];rfl
    ·rw[O0 h2.rbad (Or.inl g)]
     have hb:(s.step.step.note (YL (Ui (s.step.peek 0).t) c)).2.big=true:=by
      show(s.big||decide ((YL (Ui (s.step.peek 0).t) c).2≠0))=true
      rw[decide_eq_true g,Bool.or_true]
     exact Or.inl ⟨h2.wide.wid,fun q=>absurd (show true=false from q) (by decide),fun _=>Or.inr (by rw[hb];rfl),fun _=>hb⟩
   ·rw[if_neg (fun k=>j k.1),if_neg (by rw[h1.kind (by decide)];simpa using j)]
    cases l:Zd ⟨c,[]⟩with
    | true=>
     rw[BL (x:=((⟨c,[]⟩:Lin),0)) h1.rbad rfl l]
     exact Or.inl ⟨h1,fun q=>⟨rfl,q,rfl,rfl⟩,fun q=>Or.inl q,fun q=>q⟩
    | false=>
     rw[O0 (x:=((⟨c,[]⟩:Lin),0)) h1.rbad (Or.inr l)]
     exact Or.inl ⟨h1.wid,fun q=>absurd (show true=false from q) (by decide),fun _=>Or.inr (by simp),fun q=>q⟩
  ·have e:s.num 2147483648=(0,s.fail):=if_neg (fun k=>q k.2.2)
   have b:r.num 2147483648=(0,r.fail):=by
    unfold RS.num
    rw[if_pos (show r.kind 3=true by rw[h.kind (by decide)];simpa using k3),y,if_neg q]
   rw[e,b]
   dsimp only
   have a:=h.fail
   rw[if_neg (fun k=>a.2.st.k1 k.1),if_neg (by rw[Qj a.1];decide),GG a.1]
   exact Or.inr a
 ·rw[if_neg (show ¬ r.kind 3=true by rw[h.kind (by decide)];simpa using k3)]
  have e:s.num 2147483648=(0,s.fail):=if_neg (fun k=>k3 k.1)
  have b:r.name=(⟨[]⟩,r.fail):=if_neg (by rw[h.kind (by decide)];simpa using k1)
  unfold RS.itemN
  rw[e,b]
  dsimp only
  have a:=h.fail
  rw[if_neg (fun k=>a.2.st.k1 k.1),GG a.1]
  exact Or.inr a
def d4u(n:Nat)(r:RS)(l:Lin):Lin×RS:=if r.is ⟨[43]⟩then sizL n r.step l false else if r.is ⟨[45]⟩then sizL n r.step l true else(l,r)
theorem Bg{n:Nat}{r:RS}{l:Lin}{m:Bool}(h:r.item.2.bad=true):sizL (n+1) r l m=(⟨0,[]⟩,r.item.2):=by rw[sizL,if_pos h]
theorem a4c{n:Nat}{r:RS}{l:Lin}{m:Bool}(h:r.item.2.bad=false):sizL (n+1) r l m=d4u n (r.item.2.chk (Zi l r.item.1 (sgM m))).2 (r.item.2.chk (Zi l r.item.1 (sgM m))).1:=by
 rw[sizL,if_neg (by rw[h];decide)]
 rfl
theorem a6b{z:Int}{tb:Bool}{s:PS}{l:Lin}{r:RS}{l':Lin}(k:Int)(h:LinS z tb s l r l'):
  LinS z tb (s.item.2.note (Zi l s.item.1 k)).2 (Zi l s.item.1 k).1 (r.item.2.chk (Zi l' r.item.1 k)).2 (r.item.2.chk (Zi l' r.item.1 k)).1∨(r.item.2.bad=true∧J5 (off z r.item.2) s.item.2):=by
 rcases Lc h.c with ⟨h1,h2,h3,e⟩|h1
 ·refine Or.inl ?_
  have big:(s.item.2.note (Zi l s.item.1 k)).2.big=(s.item.2.big||decide ((Zi l s.item.1 k).2≠0)):=rfl
  cases b:r.item.2.wide with
  | true=>
   have hc:(r.item.2.chk (Zi l' r.item.1 k)).2.wide=true:=KE b
   have hb:(s.item.2.note (Zi l s.item.1 k)).2.big=true:=by
    rw[big]
    rcases h3 b with h5|h5
    ·have a:=h.wd h5
     rw[Bool.or_eq_true]at a
     rcases a with a|a
     ·rw[e a];rfl
     ·rw[decide_eq_true (BA (Or.inl (by simpa using a))),Bool.or_true]
    ·rw[Bool.or_eq_true]at h5
     rcases h5 with h5|h5
     ·rw[h5];rfl
     ·rw[decide_eq_true (BA (Or.inr (by simpa using h5))),Bool.or_true]
   refine⟨?_,fun q=>(by rw[hc]at q;cases q),fun _=>by rw[hb];rfl⟩
   unfold RS.chk
   split
   ·exact h1.wide.wid
   ·exact h1.wide
  | false=>
   obtain⟨B,j,u,i4⟩:=h2 b
   obtain⟨y,A,j3⟩:=h.nw j
   rw[<- u,<- A]
   by_cases g:(Zi l s.item.1 k).2=0
   ·rw[BL h1.rbad g (Qu g).2.2]
    refine⟨h1.wide,fun _=>⟨?_,rfl,(Qu g).2.2⟩,fun q=>(by rw[b]at q;cases q)⟩
    rw[big,decide_eq_false (fun k=>k g),Bool.or_false,B,y]
   ·rw[O0 h1.rbad (Or.inl g)]
    exact⟨h1.wide.wid,fun q=>absurd (show true=false from q) (by decide),fun _=>by rw[big,decide_eq_true g,Bool.or_true];rfl⟩
 ·exact Or.inr h1
theorem D6{o:Int}{s:PS}(h:J5 o s)(n:Nat)(l:Lin):(linLoop n s l).2=s:=Y3.linLoop h n l
theorem TF{r:RS}(h:r.wide=true):r.item.2.wide=true:=by
 have hn:(r.num 2147483648).2.wide=true:=(c8o (m:=2147483648)).mono r h
 have hm : ∀ (t:RS) c,t.wide=true->(t.itemN c).2.wide=true:=fun t c ht=>KE (NN.mono t ht)
 unfold RS.item
 split
 ·split
  ·exact hm _ _ hn
  ·exact KE hn
 ·exact hm _ _ h
theorem G9: ∀ (n:Nat) {r:RS} {l:Lin} {m:Bool},r.wide=true->(sizL n r l m).2.wide=true
 | 0,r,l,m,h=>h
 | n+1,r,l,m,h=>by
  rw[sizL]
  have hc:=KE (x:=Zi l r.item.1 (sgM m)) (TF h)
  split
  ·exact TF h
  ·dsimp only
   split
   ·exact G9 n hc
   ·split
    ·exact G9 n hc
    ·exact hc
theorem Td{r:RS}(h:r.bad=true):r.item.2=r:=by
 unfold RS.item RS.itemN
 rw[if_neg (by rw[Qj h];decide)]
 have e:r.name.2=r:=NN.stay r h
 rw[e]
 exact GG h
theorem a4e{z:Int}{tb:Bool}: ∀ (n a:Nat) {s:PS} {r:RS} {l l':Lin},LinS z tb s l r l'->s.l.length<s.i+n->s.l.length<=s.i+a->O4 J5 z tb An (fun x y=>x=y∧Zd x=true) (linLoop n s l) (d4u a r l')
 | 0,a,s,r,l,l',h,hn,_=>absurd h.c.hi (by omega)
 | n+1,a,s,r,l,l',h,hn,hn'=>by
  rw[linLoop,if_neg (by rw[h.c.bad];decide)]
  unfold d4u
  rw[h.c.is,h.c.is]
  have go : ∀ (k:Int) (m:Bool),sgM m=k->s.i<s.l.length->O4 J5 z tb An (fun x y=>x=y∧Zd x=true) (linLoop n (s.step.item.2.note (Zi l s.step.item.1 k)).2 (Zi l s.step.item.1 k).1) (sizL a r.step l' m):=fun k m C hi=>by
   obtain⟨a,rfl⟩ : ∃ q,a=q+1:=⟨a - 1,by omega⟩
   have h1:LinS z tb s.step l r.step l':=⟨h.c.step hi,h.nw,h.wd⟩
   rcases a6b k h1 with h2|h2
   ·have hb:r.step.item.2.bad=false:=by
     cases e:r.step.item.2.bad with
     | false=>rfl
     | true=>
      have:=h2.c.rbad
      rw[GG e,e]at this
      cases this
    rw[a4c hb,C]
    have g:=Ge.item (s:=s.step) h1.c.hi
    refine a4e n a h2 ?_ ?_
    ·show s.step.item.2.l.length<s.step.item.2.i+n
     have u:=g.le
     have E:s.step.i=s.i+1:=rfl
     rw[g.l]
     show s.l.length<_
     omega
    ·show s.step.item.2.l.length<=s.step.item.2.i+a
     have u:=g.le
     have E:s.step.i=s.i+1:=rfl
     rw[g.l]
     show s.l.length<=_
     omega
   ·rw[Bg h2.1]
    refine Or.inr ⟨h2.1,?_⟩
    show J5 (off z r.step.item.2) _
    have hb:J5 (off z r.step.item.2) (s.step.item.2.note (Zi l s.step.item.1 k)).2:=h2.2.wide
    rw[D6 hb]
    exact hb
  cases D:s.next ⟨[43]⟩with
  | true=>exact go 1 false rfl (Z4 D)
  | false=>
   rw[if_neg (show ¬ false=true by decide),if_neg (show ¬ false=true by decide)]
   cases j:s.next ⟨[45]⟩with
   | true=>exact go (-1) true rfl (Z4 j)
   | false=>
    rw[if_neg (show ¬ false=true by decide),if_neg (show ¬ false=true by decide)]
    refine Or.inl ⟨⟨h.c.wide,?_⟩,trivial,fun b=>(h.nw b).2⟩
    show(s.big || !Zd l)=(r.wide||tb)
    cases b:r.wide with
    | true=>rw[h.wd b];rfl
    | false=>
     obtain⟨A,j2,B⟩:=h.nw b
     rw[A,B]
     simp
theorem FR:Twin J5 An (fun x y=>x=y∧Zd x=true) PS.linear RS.size:=by
 refine⟨fun z tb s r h=> ?_,fun o s h=>h.linear,fun r h=> ?_,fun r h=> ?_⟩
 ·unfold PS.linear RS.size PS.lin0 RS.take
  rw[h.is]
  have D:r.l.length=s.l.length:=by rw[h.c.l]
  rw[D]
  have E : ∀ t:PS,t.big=s.big-> ∀ q:RS,q.wide=r.wide->Sim0 z t q->LinS z tb t ⟨0,[]⟩ q ⟨0,[]⟩:=fun t ht q g hc=>⟨hc,fun a=>⟨by rw[ht,h.big,<- g,a];rfl,rfl,rfl⟩,fun a=>by rw[ht,h.big,<- g,a];rfl⟩
  have fin : ∀ (t:PS) (q:RS) (m:Bool) (y:Lin×PS),Sim0 z t q->t.l.length=s.l.length->t.i<=s.l.length->Ge t y.2->(LinS z tb y.2 y.1 (q.item.2.chk (Zi ⟨0,[]⟩ q.item.1 (sgM m))).2 (q.item.2.chk (Zi ⟨0,[]⟩ q.item.1 (sgM m))).1∧q.item.2.bad=false∨(q.item.2.bad=true∧J5 (off z q.item.2) y.2))->O4 J5 z tb An (fun x y=>x=y∧Zd x=true) (linLoop (s.l.length+1) y.2 y.1) (sizL (s.l.length+1) q ⟨0,[]⟩ m):=fun t q m y hc u hi C j=>by
   rcases j with ⟨h1,h2⟩|⟨h1,h2⟩
   ·rw[a4c h2]
    have e:y.2.l.length=s.l.length:=by rw[C.l,u]
    exact a4e _ _ h1 (by rw[e];omega) (by rw[e];omega)
   ·rw[Bg h1]
    refine Or.inr ⟨h1,?_⟩
    rw[D6 h2]
    exact h2
  cases e:s.next ⟨[45]⟩with
  | true=>
   have hi:=Z4 e
   have h1:=h.c.step hi
   refine fin s.step r.step true (s.step.item.2.note (YL s.step.item.1 (-1))) h1 rfl hi ((Ge.item h1.hi).trans (Ge.note (Ge.item h1.hi).hi)) ?_
   rcases a6b (-1) (E s.step rfl r.step rfl h1)with h2|h2
   ·refine Or.inl ⟨h2,?_⟩
    cases e:r.step.item.2.bad with
    | false=>rfl
    | true=>
     have:=h2.c.rbad
     rw[GG e,e]at this
     cases this
   ·exact Or.inr ⟨h2.1,h2.2.wide⟩
  | false=>
   refine fin s r false s.item h.c rfl h.c.hi (Ge.item h.c.hi) ?_
   rcases Lc h.c with ⟨h1,h2,h3,A⟩|h1
   ·refine Or.inl ⟨?_,h1.rbad⟩
    ·cases a:r.item.2.wide with
     | true=>
      have hc:=KE (x:=Zi ⟨0,[]⟩ r.item.1 1) a
      refine⟨?_,fun q=>(by rw[show sgM false=1 from rfl,hc]at q;cases q),fun _=> ?_⟩
      ·unfold RS.chk
       split
       ·exact h1.wid
       ·exact h1
      ·rcases h3 a with h5|h5
       ·rw[A (by rw[h.big,h5];rfl)];rfl
       ·exact h5
     | false=>
      obtain⟨k,B,F,b⟩:=h2 a
      rw[<- F,show sgM false=1 from rfl,Gl b,BL (x:=(s.item.1,0)) h1.rbad rfl b]
      refine⟨h1,fun _=>⟨?_,rfl,b⟩,fun q=>by rw[a]at q;cases q⟩
      rw[k,h.big,B];rfl
   ·exact Or.inr h1
 ·unfold RS.size RS.take
  rw[Ow h,if_neg (by decide)]
  show(sizL (r.l.length+1) r ⟨0,[]⟩ false).2=r
  rw[Bg (by rw[Td h];exact h)]
  exact Td h
 ·unfold RS.size
  refine G9 _ ?_
  unfold RS.take
  split <;> exact h
section
section
variable {α:Type} {one one':PS->α×PS} {two:RS->α×RS} {K:Int->PS->Prop}
end
end
section
section
variable {ex:PS->Tm×PS} {ex':RS->Tm×RS}
end
section
variable {ex:PS->Tm×PS} {ex':RS->Tm×RS}
end
section
variable {un:PS->(Tm×Int)×PS} {un':RS->Tm×RS}
end
end
theorem Sim.nw{z:Int}{tb:Bool}{s:PS}{r:RS}(h:Sim z tb s r)(e:r.wide=false):s.big=tb:=by rw[h.big,e];rfl
theorem Sim.wd{z:Int}{tb:Bool}{s:PS}{r:RS}(h:Sim z tb s r)(e:r.wide=true):s.big=true:=by rw[h.big,e];rfl
def b9s(z:Int)(s:PS)(r:RS):Prop:=s.endp.bad=decide ((r.endR z).2≠0)∧(s.endp.bad=true->s.endp.wr=(r.endR z).1∧(r.endR z).2=6)∧(s.endp.bad=false->s.endp=s)
theorem c9c{z:Int}{s:PS}{r:RS}(h:Sim0 z s r):b9s z s r:=by
 unfold b9s PS.endp RS.endR
 rw[h.rbad,h.l,h.i]
 by_cases hi:s.i<s.l.length
 ·rw[if_pos hi,if_neg (show ¬ (!false&&decide (s.i=s.l.length))=true by simp;omega),if_pos hi]
  refine⟨rfl,fun _=>⟨?_,rfl⟩,fun q=>absurd (show true=false from q) (by decide)⟩
  show(if s.bad then s.wr else(s.peek 0).o)=(r.tok 0).o
  rw[h.tok hi,if_neg (by rw[h.bad];decide)]
 ·have hl:=h.hi
  rw[if_neg hi,if_pos (show(!false&&decide (s.i=s.l.length))=true by simp;omega)]
  refine⟨by rw[h.bad];rfl,fun q=>(by rw[h.bad]at q;cases q),fun _=>rfl⟩
theorem TR{z:Int}{s:PS}{r:RS}(hb:r.bad=true)(h:Y3 (off z r) s):b9s z s r:=by
 have e:r.endR z=(off z r,6):=by
  unfold RS.endR off
  rw[hb]
  show(if r.i<r.l.length then _ else _)=_
  split <;> rfl
 unfold b9s
 rw[e]
 have k:s.endp.bad=true∧s.endp.wr=off z r:=by
  unfold PS.endp
  rcases h with h|h
  ·rw[if_neg (by rw[h.2.2];omega)]
   exact⟨h.1,h.2.1⟩
  ·have hi:=Xd (s:=s) (by rw[h.2.2.1];decide)
   rw[if_pos hi]
   refine⟨rfl,?_⟩
   show(if s.bad then s.wr else(s.peek 0).o)=_
   rw[if_neg (by rw[h.1];decide)]
   exact h.2.1
 exact⟨k.1,fun _=>⟨k.2,rfl⟩,fun q=>by rw[k.1]at q;cases q⟩
theorem a8r(s:List UInt8):Sim s.length false (RF s) (rgS s):=⟨⟨rfl,rfl,rfl,rfl,rfl,Nat.zero_le _,(a4k ⟨s⟩).1⟩,rfl⟩
theorem c9p{α β:Type}{z:Int}{tb:Bool}{S R:α->β->Prop}{x:α×PS}{y:β×RS}(h:O4 Y3 z tb S R x y):b9s z x.2 y.2:=by
 rcases h with ⟨h,_,_⟩|⟨h1,h2⟩
 ·exact c9c h.c
 ·exact TR h1 h2
theorem d9h{α β:Type}{z:Int}{tb:Bool}{S R:α->β->Prop}{x:α×PS}{y:β×RS}(h:O4 Y3 z tb S R x y)(e:x.2.endp.bad=false):Sim z tb x.2 y.2∧S x.1 y.1∧(y.2.wide=false->R x.1 y.1):=by
 rcases h with h|⟨h1,h2⟩
 ·exact h
 ·have k:=TR h1 h2
  have a:x.2.endp.bad=true:=by
   rw[k.1]
   refine decide_eq_true ?_
   unfold RS.endR
   rw[h1]
   show(if y.2.i<y.2.l.length then _ else _:Int×Int).2≠0
   split
   ·show(6:Int)≠0
    decide
   ·show(6:Int)≠0
    decide
  rw[a]at e
  cases e
theorem b0a(s:Str):Vh s=QR s:=by
 unfold Vh QR
 by_cases hc:(Wj s).c≠0
 ·rw[if_pos hc,if_pos hc]
 ·rw[if_neg hc,if_neg hc]
  have h:=(FR.st).sim _ _ _ _ (a8r s.s)
  have b:=c9p h
  cases e:(RF s.s).linear.2.endp.bad with
  | true=>
   obtain⟨k1,a⟩:=b.2.1 e
   rw[if_pos rfl,if_pos (by rw[a];decide),k1,a]
  | false=>
   have k1:=b.1
   rw[e]at k1
   have a:=of_decide_eq_false k1.symm
   rw[if_neg (by decide),if_neg a,b.2.2 e]
   obtain⟨k,_,q⟩:=d9h h e
   cases g:(rgS s.s).size.2.wide with
   | true=>rw[show(RF s.s).linear.2.big=true from k.wd g];rfl
   | false=>
    obtain⟨l,j⟩:=q g
    rw[show(RF s.s).linear.2.big=false from k.nw g,<- l]
    rw[if_neg (show ¬ false=true by decide),if_pos j,if_neg (show ¬ false=true by decide)]
open Enc (enc dec is)
open EncL (encL decL isL)
theorem c6l: ∀ (s:RS) (a:Str×Unit),(Yd s&&decide (a.1.s.length<=1048576))=true->Zb b8f 1 (Zz 1 Oz (Z9 [] [] (Rq s a).1 (Rq s a).2)) Eb [] (Ya d9m (ZH a) ([]++[ZJ s])):=by
 rintro s ⟨⟨w⟩,⟨⟩⟩ h
 have hs:Yd s=true:=by rw[Bool.and_eq_true]at h;exact h.1
 have hl:=VA hs
 show Zb b8f 1 (Zz 1 Oz (Z9 [] [] (s.endR w.length) s)) Eb [] _
 have out : ∀ (b:Bool),(!s.bad&&decide (s.i=s.l.length))=b->b=false->s.endR w.length=if s.i<s.l.length then((s.tok 0).o,6)else((w.length:Int),6):=fun b hb j=>by unfold RS.endR;rw[hb,j];rfl
 have g:s.endR w.length=(if s.i<s.l.length then((s.tok 0).o,6)else((w.length:Int),6))->if (decide ((s.i:Int)<(List.length (List.map (enc:Tok->PV) s.l):Int)))=true then(ixP (RS.l s) (s.i:Int) 4 fun q=>Z9 [] [] (s.endR w.length) s (.pv (.tup [.int .i64 (PV.asInt (List.getD (List.drop 3 (PV.cells (enc q))) 0 default)),.int .i64 6]),[ZJ s],[]))else Z9 [] [] (s.endR w.length) s (.pv (.tup [.int .i64 (w.length:Int),.int .i64 6]),[ZJ s],[]):=fun e=>by
  rw[e]
  by_cases hi:s.i<s.l.length
  ·rw[if_pos hi,JI (k:=0) hi]
   exact YP (Cf hi) ⟨Xg hi rfl,Wn hi (ZA (d6u (Wq rfl) (Wq rfl)))⟩
  ·rw[if_neg hi]
   exact Y1 (Cg hi) (ZA (d6u (Wq rfl) (Wq rfl)))
 refine e3e s w (YN (fun hb=>Z7 (fun h1=> ?_) fun h1=>g (out _ rfl ?_)) fun hb=>g (out _ rfl ?_))
 ·have h1:s.i=s.l.length:=by rw[List.length_map]at h1;omega
  unfold RS.endR
  rw[hb,decide_eq_true h1]
  exact ZA (d6u (Wq rfl) (Wq rfl))
 ·rw[decide_eq_false (fun e=>h1 (by rw[List.length_map,e])),Bool.and_false]
 ·rw[hb];rfl
theorem e2k{s:RS}{w:List UInt8}{K:Int×Int->RS->Prop}(hs:Yd s=true)(b:w.length<=1048576)(h:K (s.endR w.length) s):UF ZH Xb [] [] (fun(s:RS) (a:Str×Unit)=>Yd s&&decide (List.length (Str.s (Prod.fst a))<=1048576)) Rq [.ptr 0 0,.pv (.str w)] [ZJ s] K:=Xt ZQ s (⟨w⟩,()) rfl rfl (by rw[hs];exact decide_eq_true b) h
theorem c5c(s:List UInt8)(hs:s.length<=1048576):Zb a2w 0 (Zv 0 PL (fun r=>r=RY [.pv (.str s)] [])) Po [] (Ya c1s [.pv (.str s)] []):=
 e1h s ⟨Zf ((⟨s⟩:Str),()) rfl (decide_eq_true hs),Zc ((⟨s⟩:Str),()) rfl rfl⟩
theorem Lt{args:List AV}{os:List AObj}(h:U1 args os=true): ∃ s:List UInt8,args=[.pv (.str s)]∧os=[]∧s.length<=1048576:=by
 unfold U1 at h
 split at h
 ·exact⟨_,rfl,rfl,of_decide_eq_true h⟩
 ·cases h
theorem c6j: ∀ args os,U1 args os=true->Zb a3m os.length (Zv os.length RX (fun r=>r=PK args os)) R4 [] (Ya c0e args os):=fun args os h=>by
 obtain⟨s,rfl,rfl,hs⟩:=Lt h
 exact c8m s hs
theorem c4p: ∀ args os,U1 args os=true->Zb a2w os.length (Zv os.length PL (fun r=>r=RY args os)) Po [] (Ya c1s args os):=fun args os h=>by
 obtain⟨s,rfl,rfl,hs⟩:=Lt h
 exact c5c s hs
theorem d4y(s:List UInt8):Yd (rgS s)=true:=by
 have h:=Od s
 unfold ZV at h
 unfold Yd
 exact h
theorem c5p: ∀ x:Str×Unit,decide (x.1.s.length<=1048576)=true->Zb b9t 0 (Za O3 (Zk (QR x.1))) EY [] (Yh d8t (encL x)):=by
 rintro⟨⟨s⟩,⟨⟩⟩ hs
 have e:s.length<=1048576:=of_decide_eq_true hs
 have hb:=d4y s
 have b:=VA hb
 have k1:=RGe.size b.2
 have a:=k1.ok hb
 show Zb b9t 0 (Za O3 (Zk (QR ⟨s⟩))) EY [] _
 unfold QR
 refine e3u s ⟨hs,Nl (fun h=> ?_) fun h=> ?_⟩
 ·rw[if_pos h];exact P8 BG
 rw[if_neg (fun k=>k h)]
 refine d5h hb (e2k a e (Nl (fun h1=> ?_) fun h1=>ZW (fun h2=> ?_) fun h2=> ?_))
 ·rw[if_pos h1];exact P8 BG
 ·rw[if_neg (fun k=>k h1),if_pos h2];exact P8 BG
 ·rw[if_neg (fun k=>k h1),if_neg (by rw[h2];decide)];exact P8 (XC _)
theorem Mg(s:Str):Yn (Vh s).a=true:=by
 have b:Zp (Vh s).a=true:=by
  unfold Vh
  split
  ·rfl
  ·split
   ·rfl
   ·split
    ·rfl
    ·split
     ·exact Tg (Od s.s)
     ·rfl
 unfold Zp at b
 rw[Bool.and_eq_true]at b
 exact b.1
theorem b0u: ∀ x:Str×Unit,true=true->Zb a6e 0 (Za MI (Zk true)) Ll [] (Yh b3d (encL x)):=by
 rintro⟨⟨s⟩,⟨⟩⟩ _
 refine c7v s (Zc () rfl (Y1 (by decide) (Y4 (fun h=>ZG rfl) fun h=>⟨Zf ((⟨s⟩:Str),()) rfl (decide_eq_true (show s.length<=1048576 by omega)),Zc ((⟨s⟩:Str),()) rfl ⟨Zf ((⟨s⟩:Str),()) rfl (decide_eq_true (show s.length<=1048576 by omega)),Zc ((⟨s⟩:Str),()) rfl ?_⟩⟩)))
 rw[show QR ((⟨s⟩:Str),()).1=Vh ⟨s⟩from(b0a ⟨s⟩).symm]
 show preT _ _=true∧_
 have b:=Mg ⟨s⟩
 refine⟨Zf ((Vh ⟨s⟩).a,(Vh ⟨s⟩).a,()) rfl b,Zc ((Vh ⟨s⟩).a,(Vh ⟨s⟩).a,()) rfl (ZW (fun h1=>Z7 (fun _=>ZG (beq_self_eq_true _)) fun h2=>absurd rfl h2) fun h1=> ?_)⟩
 have h1:(Ch (Vh ⟨s⟩).a (Vh ⟨s⟩).a==0)=false:=h1
 rw[Cm.cmpL_dec,decide_eq_true rfl]at h1
 cases h1
end Go.Pl
