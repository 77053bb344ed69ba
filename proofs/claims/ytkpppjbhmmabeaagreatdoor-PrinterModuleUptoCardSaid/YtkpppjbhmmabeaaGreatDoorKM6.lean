/-
  Texts of mine that belong together (packed by pack.py), for every input: GQd, QQd, QQe, QVs.
-/
import Derived.Test.YtkpppjbhmmabeaaGreatDoorChecked
import Derived.Test.YtkpppjbhmmabeaaGreatDoorKM2
import Derived.Test.YtkpppjbhmmabeaaGreatDoorKM3
import Derived.Test.YtkpppjbhmmabeaaGreatDoorKM4
import Derived.Test.YtkpppjbhmmabeaaGreatDoorKM5
import Derived.KernelRfl
set_option linter.unusedVariables false
set_option linter.unusedSimpArgs false
namespace Go.Pl
open Go.RowKit
open Enc (enc dec is)
open EncL (encL decL isL)
set_option maxRecDepth 100000
abbrev g6a(ps:List PV)(k:Str->Prop):Prop:=Ym (fun(x:Str×Str×Unit)=>decide (List.length (Str.s (Prod.fst x))<=1048576)&&decide (Str.s (Prod.fst (Prod.snd x))=J7)) (fun(x:Str×Str×Unit)=>Str.mk (Pp (Str.s (Prod.fst x)))) ps k
abbrev g5s(ps:List PV)(k:Bool->Prop):Prop:=Ym (fun(x:Lin×Unit)=>Xz (Prod.fst x)) (fun(x:Lin×Unit)=>Zh (Prod.fst x)) ps k
abbrev g3n(ps:List PV)(k:Bool->Prop):Prop:=Ym (fun(x:Lin×Unit)=>Xz (Prod.fst x)) (fun(x:Lin×Unit)=> !Zh (Prod.fst x)) ps k
abbrev g2b(ps:List PV)(k:Int->Prop):Prop:=Ym (fun(x:List Lin×FnV 159×Unit)=>decide (List.length (Prod.fst x)<=1048576)&&List.all (Prod.fst x) Xz) (fun(x:List Lin×FnV 159×Unit)=>Yr (fun(l:Lin)=> !Zh l) (Prod.fst x)) ps k
abbrev f2x(ps:List PV)(k:Bool->Prop):Prop:=Ym (fun(x:List Lin×FnV 159×Unit)=>decide (List.length (Prod.fst x)<=1048576)&&List.all (Prod.fst x) Xz) (fun(x:List Lin×FnV 159×Unit)=>List.any (Prod.fst x) fun(l:Lin)=> !Zh l) ps k
abbrev g6u(ps:List PV)(k:Bool->Prop):Prop:=Ym (fun(x:Str×Unit)=>decide (List.length (Str.s (Prod.fst x))<=281474976710656)) (fun(x:Str×Unit)=>nameB (Prod.fst x)) ps k
abbrev f1d(ps:List PV)(k:Str->Prop):Prop:=Ym (fun(x:Lin×Unit)=>Wi (Prod.fst x)) (fun(x:Lin×Unit)=>Str.mk (ZE (Prod.fst x))) ps k
abbrev g6j(ps:List PV)(k:Str->Prop):Prop:=ceP (fun(x:List Str×Str×Unit)=>Yi (Prod.fst x)) ps k
abbrev g1z(ps:List PV)(k:Str->Prop):Prop:=Ym (fun(x:List Str×Str×Unit)=>YL (Prod.fst x)&&decide (Str.s (Prod.fst (Prod.snd x))=[(44:UInt8),(32:UInt8)])) (fun(x:List Str×Str×Unit)=>Yi (Prod.fst x)) ps k
abbrev b8k(ps:List PV)(k:Bool->Prop):Prop:=Ym (fun(x:Sp×Unit)=>Nw (Prod.fst x)) (fun(x:Sp×Unit)=>KU (Sp.row (Prod.fst x)) (Sp.dims (Prod.fst x))) ps k
abbrev f9e(ps:List PV)(k:Str->Prop):Prop:=Ym (fun(x:Sp×Unit)=>KU (Sp.row (Prod.fst x)) (Sp.dims (Prod.fst x))) (fun(x:Sp×Unit)=>Str.mk (QM (Sp.row (Prod.fst x)) (Sp.dims (Prod.fst x)))) ps k
abbrev g0k(ps:List PV)(k:Bool->Prop):Prop:=Ym (fun(x:Str×Unit)=>decide (List.length (Str.s (Prod.fst x))<=1048576)) (fun(x:Str×Unit)=>evB (Str.s (Prod.fst x))) ps k
abbrev f5j(ps:List PV)(k:Str×Int->Prop):Prop:=Ym (fun(x:Sp×Unit)=>Nw (Prod.fst x)) (fun(x:Sp×Unit)=>Nu (Sp.row (Prod.fst x)) (Sp.dims (Prod.fst x))) ps k
abbrev d1p(ps:List PV)(k:Bool->Prop):Prop:=Ym (fun(x:TyS×Unit)=>yW (Prod.fst x)) (fun(x:TyS×Unit)=>Q5 (Prod.fst x)) ps k
abbrev f7q(ps:List PV)(k:Str->Prop):Prop:=Ym (fun(x:TyS×Unit)=>yW (Prod.fst x)&&Q5 (Prod.fst x)) (fun(x:TyS×Unit)=>Str.mk (tyT (Prod.fst x))) ps k
abbrev f4c(ps:List PV)(k:List Str->Prop):Prop:=Ym (fun(x:Lin×Unit)=>decide (List.length (Lin.t (Prod.fst x))<=1000000)) (fun(x:Lin×Unit)=>Va (Prod.fst x)) ps k
abbrev He(ps:List PV)(k:Bool->Prop):Prop:=Ym (fun(x:List Str×Unit)=>Xh (Prod.fst x)) (fun(x:List Str×Unit)=>List.all (Prod.fst x) fun(s:Str)=>nameI (Str.s s)) ps k
abbrev f3o(ps:List PV)(k:Bool->Prop):Prop:=Ym (fun(x:Lin×Unit)=>Zh (Prod.fst x)) (fun(x:Lin×Unit)=> !Kr (Prod.fst x)) ps k
abbrev f9u(ps:List PV)(k:Int->Prop):Prop:=Ym (fun(x:List Lin×FnV 100×Unit)=>decide (List.length (Prod.fst x)<=1048576)&&List.all (Prod.fst x) Zh) (fun(x:List Lin×FnV 100×Unit)=>Yr (fun(l:Lin)=> !Kr l) (Prod.fst x)) ps k
abbrev Ew(ps:List PV)(k:Bool->Prop):Prop:=Ym (fun(x:List Lin×FnV 100×Unit)=>decide (List.length (Prod.fst x)<=1048576)&&List.all (Prod.fst x) Zh) (fun(x:List Lin×FnV 100×Unit)=>List.any (Prod.fst x) fun(l:Lin)=> !Kr l) ps k
abbrev f8q(ps:List PV)(k:Bool->Prop):Prop:=Ym (fun(x:TyS×Unit)=>yW (Prod.fst x)) (fun(x:TyS×Unit)=>Y8 (Prod.fst x)) ps k
abbrev d3z(ps:List PV)(k:Bool->Prop):Prop:=Ym (fun(x:Bool×TyS×Unit)=>yW (Prod.fst (Prod.snd x))) (fun(x:Bool×TyS×Unit)=>Yy (Prod.fst x) (Prod.fst (Prod.snd x))) ps k
abbrev f5a(ps:List PV)(k:Bool->Prop):Prop:=Ym (fun(x:Pm×Unit)=>pW (Prod.fst x)) (fun(x:Pm×Unit)=> !BJ (Prod.fst x)) ps k
abbrev f9p(ps:List PV)(k:Int->Prop):Prop:=Ym (fun(x:List Pm×FnV 33×Unit)=>decide (List.length (Prod.fst x)<=1048576)&&List.all (Prod.fst x) pW) (fun(x:List Pm×FnV 33×Unit)=>Yr (fun(p:Pm)=> !BJ p) (Prod.fst x)) ps k
abbrev g0z(ps:List PV)(k:Bool->Prop):Prop:=Ym (fun(x:Tm×Unit)=>tW (Prod.fst x)) (fun(x:Tm×Unit)=>YK (Prod.fst x)) ps k
abbrev f9l(ps:List PV)(k:Bool->Prop):Prop:=Ym (fun(x:List Pm×FnV 33×Unit)=>decide (List.length (Prod.fst x)<=1048576)&&List.all (Prod.fst x) pW) (fun(x:List Pm×FnV 33×Unit)=>List.any (Prod.fst x) fun(p:Pm)=> !BJ p) ps k
abbrev f9b(ps:List PV)(k:Str×Int->Prop):Prop:=Ym (fun(x:TyS×Unit)=>yW (Prod.fst x)) (fun(x:TyS×Unit)=>Jc (Prod.fst x)) ps k
abbrev d2l(ps:List PV)(k:Str->Prop):Prop:=Ym (fun(x:Bool×TyS×Unit)=>yW (Prod.fst (Prod.snd x))) (fun(x:Bool×TyS×Unit)=>Str.mk (Js (Prod.fst x) (Prod.fst (Prod.snd x)))) ps k
abbrev f3r(ps:List PV)(k:Str->Prop):Prop:=Ym (fun(x:Pm×Unit)=>pW (Prod.fst x)) (fun(x:Pm×Unit)=>Str.mk (pmT (Prod.fst x))) ps k
abbrev OP(ps:List PV)(k:Str->Prop):Prop:=Ym (fun(x:List Str×Unit)=>YL (Prod.fst x)) (fun(x:List Str×Unit)=>Yi (Prod.fst x)) ps k
abbrev f6a(ps:List PV)(k:Str->Prop):Prop:=Ym (fun(x:List Pm×FnV 35×Unit)=>decide (List.length (Prod.fst x)<=8)&&List.all (Prod.fst x) pW) (fun(x:List Pm×FnV 35×Unit)=>Yi (List.map Nt (Prod.fst x))) ps k
abbrev f6b(ps:List PV)(k:Str->Prop):Prop:=Ym (fun(x:Tm×Unit)=>tW (Prod.fst x)&&Z9 (Prod.fst x)) (fun(x:Tm×Unit)=>Zt (Prod.fst x)) ps k
abbrev d4n(ps:List PV)(k:Bool->Prop):Prop:=Ym (fun(x:Df×Unit)=>dW (Prod.fst x)) (fun(x:Df×Unit)=>ZK (Prod.fst x)) ps k
abbrev c7c(ps:List PV)(k:Str->Prop):Prop:=Ym (fun(x:Df×Unit)=>dW (Prod.fst x)&&ZK (Prod.fst x)) (fun(x:Df×Unit)=>UQ (Prod.fst x)) ps k
abbrev e1s(ps:List PV)(k:Str×Int->Prop):Prop:=ceP (fun(x:Str×Unit)=>Qn (Prod.fst x)) ps k
abbrev f9c(ps:List PV)(k:Str->Prop):Prop:=Ym (fun(x:List Str×Str×Unit)=>RG (Prod.fst x)&&decide (Str.s (Prod.fst (Prod.snd x))=[(10:UInt8)])) (fun(x:List Str×Str×Unit)=>nlS (Prod.fst x)) ps k
noncomputable def c8h:IC:=YI Proofs.Tryz.f133
def d8t:List IRes:=[(.tmp 2)]
abbrev f4z:Nat:=25
def f2p:ZC:=Yh [(158,.pure (preT (fun x:Str×Str×Unit=>decide (x.1.s.length<=1048576)&&decide (x.2.1.s=J7))) (Zi (fun x:Str×Str×Unit=>(⟨Pp x.1.s⟩:Str))))]
theorem f2n{G:PV->Prop}(s:List UInt8)(h:if (decide ((↑(List.length s):Int)<1))=true then G ((.bool false))else(if (decide ((↑(List.length s):Int)>30))=true then G ((.bool false))else((decide (0<=0)&&decide (Int.toNat 0<List.length s))=true∧(if (decide ((↑(UInt8.toNat (List.getD s (Int.toNat 0) (0:UInt8))):Int)<65))=true then G ((.bool false))else((decide (0<=0)&&decide (Int.toNat 0<List.length s))=true∧(if (decide ((↑(UInt8.toNat (List.getD s (Int.toNat 0) (0:UInt8))):Int)>90))=true then G ((.bool false))else((decide (0<=1)&&true&&decide (Int.toNat 1<=List.length s)&&decide (List.length s<=List.length s))=true∧((g6a [(.str (List.drop (Int.toNat 1) (List.take (List.length s) s))),(.str [(48:UInt8),(49:UInt8),(50:UInt8),(51:UInt8),(52:UInt8),(53:UInt8),(54:UInt8),(55:UInt8),(56:UInt8),(57:UInt8)])] fun a=>(G ((.bool (Str.s a==[]))))))))))))):Zd f2p 0 (Za d8t G) c8h [] (Zx 25 [.str s]):=Zd.tp (dm [dv Str] 65 0x251100014222120222200542221202222222200942222022222222222200d42) h
noncomputable def d9m:IC:=Oz
def d5l:List IRes:=[(.tmp 2)]
abbrev f5p:Nat:=6
def f1e:ZC:=Yh [(91,.pure (preT (fun x:Lin×Unit=>Xz x.1)) (Zi (fun x:Lin×Unit=>Zh x.1)))]
theorem g5t{G:PV->Prop}(l:Lin)(h:(g5s [(enc l)] fun a=>(G ((.bool !a))))):Zd f1e 0 (Za d5l G) d9m [] (Zx 6 [.agg [enc l.k,enc l.t]]):=Zd.tp (.req (FJ (Bool) (.nil))) h
noncomputable def BV:IC:=J9
def A8:List IRes:=[(.tmp 4)]
abbrev f4f:Nat:=19
def Fh:ZC:=Yh [(159,.pure (preT (fun x:Lin×Unit=>Xz x.1)) (Zi (fun x:Lin×Unit=> !(Zh x.1))))]
abbrev Ot(a:List Lin):Nat×AV:=(0,(.pv (.sl 2 false (List.map enc a))))
theorem g2s{G:PV->Prop}(l:List Lin)(h:At Fh 0 (Za A8 G) BV 0 19 [(Ot l),(1,(.pv (.fn 159))),(7,(.pv (.int .i64 (↑(List.length (List.map enc l)):Int)))),(8,(.pv (.int .i64 0)))] []):Zd Fh 0 (Za A8 G) BV [] (Zx 19 [enc l,.fn 159]):=Zd.tp (.nil) h
theorem e0w{G:PV->Prop}(l:List Lin)(i:Int)(h:if (decide (i<(↑(List.length l):Int)))=true then(Y1 l i 2 fun b=>((g3n [(enc b)] fun a=>(if (a)=true then G ((.int .i64 i))else(At Fh 0 (Za A8 G) BV 0 19 [(Ot l),(1,(.pv (.fn 159))),(7,(.pv (.int .i64 (↑(List.length l):Int)))),(8,(.pv (.int .i64 (IntKind.wrap IntKind.i64 (i+1)))))] [])))))else(G ((.int .i64 (-1))))):At Fh 0 (Za A8 G) BV 0 19 [(0,.pv (enc l)),(1,.pv (.fn 159)),(7,.pv (.int .i64 l.length)),(8,.pv (.int .i64 i))] []:=At.tp (dm [dr Lin,dv Bool] 19 0x2000146125100c42) h
noncomputable def c6k:IC:=F7
def d7n:List IRes:=[(.tmp 4)]
abbrev f5f:Nat:=9
def f2f:ZC:=Yh [(135,.pure (preT (fun x:List Lin×FnV 159×Unit=>decide (x.1.length<=1048576)&&x.1.all Xz)) (Zi (fun x:List Lin×FnV 159×Unit=>Yr (fun l:Lin=> !(Zh l)) x.1)))]
theorem g5j{G:PV->Prop}(l:List Lin)(h:(g2b [(.sl 2 false (List.map enc l)),(.fn 159)] fun a=>(G ((.bool (decide (a ≥ 0))))))):Zd f2f 0 (Za d7n G) c6k [] (Zx 9 [enc l,.fn 159]):=Zd.tp (.req (FJ (Int) (.lit (.nil)))) h
noncomputable def MU:IC:=YI Proofs.Tryz.f134
def Aa:List IRes:=[(.tmp 2)]
abbrev c4d:Nat:=23
def Na:ZC:=Yh [(128,.pure (preT (fun x:Str×Unit=>decide (x.1.s.length<=281474976710656))) (Zi (fun x:Str×Unit=>nameB x.1))),(99,.pure (preT (fun x:List Lin×FnV 159×Unit=>decide (x.1.length<=1048576)&&x.1.all Xz)) (Zi (fun x:List Lin×FnV 159×Unit=>x.1.any fun l:Lin=> !(Zh l))))]
theorem d3h{G:PV->Prop}(r:Str)(l:List Lin)(h:if (Str.s r==[])=true then if (decide ((↑(List.length (List.map enc l)):Int)<=6))=true then(f2x [(.sl 2 false (List.map enc l)),(.fn 159)] fun b=>(G ((.bool !b))))else(G ((.bool false)))else((g6u [(.str (Str.s r))] fun a=>(if (a)=true then if (decide ((↑(List.length (List.map enc l)):Int)<=6))=true then(f2x [(.sl 2 false (List.map enc l)),(.fn 159)] fun e=>(G ((.bool !e))))else(G ((.bool false)))else(G ((.bool false))))))):Zd Na 0 (Za Aa G) MU [] (Zx 23 [.agg [enc r,enc l]]):=Zd.tp (dm [dv Bool] 71 0x222222222022220225122007422222015425122022220225122007422222222201942) h
noncomputable def VT:IC:=YI Proofs.Tryz.f160
def Ve:List IRes:=[(.tmp 2)]
abbrev d0o:Nat:=32
def Uy:ZC:=Yh [(58,.pure (preT (fun x:Lin×Unit=>Wi x.1)) (Zi (fun x:Lin×Unit=>(⟨ZE x.1⟩:Str)))),(19,.pure (preT (fun x:List Str×Str×Unit=>YL x.1&&decide (x.2.1.s=[44,32]))) (Zi (fun x:List Str×Str×Unit=>Yi x.1)))]
abbrev EA(a:List Lin):Nat×AV:=(16,(.pv (.sl 2 false (List.map enc a))))
theorem e9s{G:PV->Prop}(r:Str)(l:List Lin)(h:if (!Str.s r==[])=true then ZA (Str.s r) [(46:UInt8),(46:UInt8)]∧(At Uy 0 (Za Ve G) VT 0 32 [(3,(.row 0 1 0 1)),(EA l),(17,(.pv (.int .i64 (↑(List.length (List.map enc l)):Int)))),(18,(.pv (.int .i64 0)))] [(.obj (.row false 9 1 [(.str (Str.s r++[(46:UInt8),(46:UInt8)]))]))])else(At Uy 0 (Za Ve G) VT 0 32 [(3,(.pv (.sl 0 true []))),(EA l),(17,(.pv (.int .i64 (↑(List.length (List.map enc l)):Int)))),(18,(.pv (.int .i64 0)))] [])):Zd Uy 0 (Za Ve G) VT [] (Zx 32 [.agg [enc r,enc l]]):=Zd.tp (dm [] 14 0x22222100742) h
theorem LK{G:PV->Prop}(r:Str)(l:List Lin)(i:Int)(h:if (decide (i<(↑(List.length l):Int)))=true then(Y1 l i 2 fun e=>((f1d [(enc e)] fun b=>(At Uy 0 (Za Ve G) VT 0 32 [(3,(.row 0 1 0 1)),(EA l),(17,(.pv (.int .i64 (↑(List.length l):Int)))),(18,(.pv (.int .i64 (IntKind.wrap IntKind.i64 (i+1)))))] [(.obj (.row false 9 1 [(.str (Str.s b))]))]))))else(g6j [(.sl 0 true []),(.str [(44:UInt8),(32:UInt8)])] fun a=>(ZA [(91:UInt8)] (Str.s a)∧(ZA ([(91:UInt8)]++Str.s a) [(93:UInt8)]∧(G ((.str ([(91:UInt8)]++Str.s a++[(93:UInt8)])))))))):At Uy 0 (Za Ve G) VT 0 32 [(3,.pv (.sl 0 true [])),(16,.pv (enc l)),(17,.pv (.int .i64 l.length)),(18,.pv (.int .i64 i))] []:=At.tp (dm [dr Lin,dv Str] 23 0x116202222226125100c42) h
theorem MR{G:PV->Prop}(r:Str)(l:List Lin)(i:Int)(k:Nat)(o:List Str)(h:if (decide (i<(↑(List.length l):Int)))=true then(Y1 l i 2 fun e=>((f1d [(enc e)] fun a=>((List.length (List.map enc o)==k&&k==k&&decide ((k+List.length (List.drop 0 (List.take 1 [enc a])))*16<=1099511627776)&&decide (k+List.length (List.drop 0 (List.take 1 [enc a]))<=1099511627776))=true∧(At Uy 0 (Za Ve G) VT 0 32 [(3,(.row 0 (k+List.length (List.drop 0 (List.take 1 [enc a]))) 0 (k+List.length (List.drop 0 (List.take 1 [enc a]))))),(EA l),(17,(.pv (.int .i64 (↑(List.length l):Int)))),(18,(.pv (.int .i64 (IntKind.wrap IntKind.i64 (i+1)))))] [(.obj (.row false 9 1 (List.map enc o++List.drop 0 (List.take 1 [enc a]))))])))))else((List.length (List.map enc o)==k)=true∧((g1z [(.sl 1 false (List.drop 0 (List.take k (List.map enc o)))),(.str [(44:UInt8),(32:UInt8)])] fun b=>(ZA [(91:UInt8)] (Str.s b)∧(ZA ([(91:UInt8)]++Str.s b) [(93:UInt8)]∧(G ((.str ([(91:UInt8)]++Str.s b++[(93:UInt8)])))))))))):At Uy 0 (Za Ve G) VT 0 32 [(3,.row 0 k 0 k),(16,.pv (enc l)),(17,.pv (.int .i64 l.length)),(18,.pv (.int .i64 i))] [.obj (.row false 9 1 (o.map enc))]:=At.tp (dm [dr Lin,dv Str] 22 0x11611021226125100a42) h
noncomputable def Mr:IC:=YI Proofs.Tryz.f136
def MC:List IRes:=[(.tmp 2),(.tmp 3)]
abbrev c2a:Nat:=9
def a2f:ZC:=Yh [(134,.pure (preT (fun x:Sp×Unit=>Nw x.1)) (Zi (fun x:Sp×Unit=>KU x.1.row x.1.dims))),(160,.pure (preT (fun x:Sp×Unit=>KU x.1.row x.1.dims)) (Zi (fun x:Sp×Unit=>(⟨QM x.1.row x.1.dims⟩:Str))))]
theorem d4i{G:PV->Prop}(r:Str)(l:List Lin)(h:(b8k [(enc (Sp.mk r l))] fun b=>(if (!b)=true then G ((.tup [(.str []),(.int .i64 1)]))else((f9e [(enc (Sp.mk r l))] fun a=>(G ((.tup [(.str (Str.s a)),(.int .i64 0)])))))))):Zd a2f 0 (Za MC G) Mr [] (Zx 9 [.agg [enc r,enc l]]):=Zd.tp (dm [dv Bool,dv Str] 11 0x610001451) h
noncomputable def Lc:IC:=YI Proofs.Tryz.f98
def Fw:List IRes:=[(.tmp 2)]
abbrev b9m:Nat:=21
def a6t:ZC:=Yh [(133,.pure (preT (fun x:Str×Unit=>decide (x.1.s.length<=1048576))) (Zi (fun x:Str×Unit=>evB x.1.s))),(134,.pure (preT (fun x:Sp×Unit=>Nw x.1)) (Zi (fun x:Sp×Unit=>KU x.1.row x.1.dims)))]
theorem d6i{G:PV->Prop}(t:TyS)(h:if (Str.s (TyS.elem t)==[(105:UInt8),(110:UInt8),(116:UInt8)])=true then(b8k [(enc (Sp.mk (TyS.row t) (TyS.dims t)))] fun b=>(G ((.bool b))))else(if (Str.s (TyS.elem t)==[(98:UInt8),(111:UInt8),(111:UInt8),(108:UInt8)])=true then(b8k [(enc (Sp.mk (TyS.row t) (TyS.dims t)))] fun a=>(G ((.bool a))))else((g0k [(.str (Str.s (TyS.elem t)))] fun e=>(if (e)=true then(b8k [(enc (Sp.mk (TyS.row t) (TyS.dims t)))] fun g=>(G ((.bool g))))else(G ((.bool false)))))))):Zd a6t 0 (Za Fw G) Lc [] (Zx 21 [.agg [enc t.elem,enc t.row,enc t.dims]]):=Zd.tp (dm [dv Bool] 57 0x222025122006425122025122222200a422220251222222222200e42) h
noncomputable def a3q:IC:=YI Proofs.Tryz.f102
def a4j:List IRes:=[(.tmp 2)]
abbrev d0s:Nat:=19
def b3p:ZC:=Yh [(136,.pure (preT (fun x:Sp×Unit=>Nw x.1)) (Zi (fun x:Sp×Unit=>Nu x.1.row x.1.dims)))]
theorem e7i{G:PV->Prop}(t:TyS)(h:(f5j [(enc (Sp.mk (TyS.row t) (TyS.dims t)))] fun a=>(if (Str.s a.1==[(91:UInt8),(93:UInt8)])=true then G ((.str (Str.s (TyS.elem t))))else(ZA (Str.s a.1) (Str.s (TyS.elem t))∧(G ((.str (Str.s a.1++Str.s (TyS.elem t))))))))):Zd b3p 0 (Za a4j G) a3q [] (Zx 19 [.agg [enc t.elem,enc t.row,enc t.dims]]):=Zd.tp (dm [dv (Str×Int)] 11 0x100014251) h
noncomputable def M5:IC:=YI Proofs.Tryz.f66
def L8:List IRes:=[(.tmp 2),(.tmp 3)]
abbrev c0v:Nat:=9
def a5p:ZC:=Yh [(98,.pure (preT (fun x:TyS×Unit=>yW x.1)) (Zi (fun x:TyS×Unit=>Q5 x.1))),(102,.pure (preT (fun x:TyS×Unit=>yW x.1&&Q5 x.1)) (Zi (fun x:TyS×Unit=>(⟨tyT x.1⟩:Str))))]
theorem c9i{G:PV->Prop}(t:TyS)(h:(d1p [(enc t)] fun b=>(if (!b)=true then G ((.tup [(.str []),(.int .i64 1)]))else((f7q [(enc t)] fun a=>(G ((.tup [(.str (Str.s a)),(.int .i64 0)])))))))):Zd a5p 0 (Za L8 G) M5 [] (Zx 9 [.agg [enc t.elem,enc t.row,enc t.dims]]):=Zd.tp (dm [dv Bool,dv Str] 11 0x610001451) h
noncomputable def b8p:IC:=YI Proofs.Tryz.f100
def b6f:List IRes:=[(.tmp 2)]
abbrev e9k:Nat:=7
def c7l:ZC:=Yh [(101,.pure (preT (fun x:Lin×Unit=>decide (x.1.t.length<=1000000))) (Zi (fun x:Lin×Unit=>Va x.1))),(14,.pure (preT (fun x:List Str×Unit=>Xh x.1)) (Zi (fun x:List Str×Unit=>x.1.all fun s:Str=>nameI s.s)))]
theorem f6c{G:PV->Prop}(l:Lin)(h:(f4c [(enc l)] fun b=>((He [(.sl 1 false (List.map enc b))] fun a=>(G ((.bool !a))))))):Zd c7l 0 (Za b6f G) b8p [] (Zx 7 [.agg [enc l.k,enc l.t]]):=Zd.tp (.req (FJ (List Str) (.req (FJ (Bool) (.nil))))) h
noncomputable def Sd:IC:=J9
def SA:List IRes:=[(.tmp 4)]
abbrev f9d:Nat:=19
def LA:ZC:=Yh [(100,.pure (preT (fun x:Lin×Unit=>Zh x.1)) (Zi (fun x:Lin×Unit=> !(Kr x.1))))]
theorem g2c{G:PV->Prop}(l:List Lin)(h:At LA 0 (Za SA G) Sd 0 19 [(Ot l),(1,(.pv (.fn 100))),(7,(.pv (.int .i64 (↑(List.length (List.map enc l)):Int)))),(8,(.pv (.int .i64 0)))] []):Zd LA 0 (Za SA G) Sd [] (Zx 19 [enc l,.fn 100]):=Zd.tp (.nil) h
theorem c6s{G:PV->Prop}(l:List Lin)(i:Int)(h:if (decide (i<(↑(List.length l):Int)))=true then(Y1 l i 2 fun b=>((f3o [(enc b)] fun a=>(if (a)=true then G ((.int .i64 i))else(At LA 0 (Za SA G) Sd 0 19 [(Ot l),(1,(.pv (.fn 100))),(7,(.pv (.int .i64 (↑(List.length l):Int)))),(8,(.pv (.int .i64 (IntKind.wrap IntKind.i64 (i+1)))))] [])))))else(G ((.int .i64 (-1))))):At LA 0 (Za SA G) Sd 0 19 [(0,.pv (enc l)),(1,.pv (.fn 100)),(7,.pv (.int .i64 l.length)),(8,.pv (.int .i64 i))] []:=At.tp (dm [dr Lin,dv Bool] 19 0x2000146125100c42) h
noncomputable def d9e:IC:=F7
def d4b:List IRes:=[(.tmp 4)]
abbrev f3q:Nat:=9
def f2z:ZC:=Yh [(135,.pure (preT (fun x:List Lin×FnV 100×Unit=>decide (x.1.length<=1048576)&&x.1.all Zh)) (Zi (fun x:List Lin×FnV 100×Unit=>Yr (fun l:Lin=> !(Kr l)) x.1)))]
theorem g5a{G:PV->Prop}(l:List Lin)(h:(f9u [(.sl 2 false (List.map enc l)),(.fn 100)] fun a=>(G ((.bool (decide (a ≥ 0))))))):Zd f2z 0 (Za d4b G) d9e [] (Zx 9 [enc l,.fn 100]):=Zd.tp (.req (FJ (Int) (.lit (.nil)))) h
noncomputable def Lu:IC:=YI Proofs.Tryz.f64
def A7:List IRes:=[(.tmp 2)]
abbrev b9q:Nat:=35
def PD:ZC:=Yh [(98,.pure (preT (fun x:TyS×Unit=>yW x.1)) (Zi (fun x:TyS×Unit=>Q5 x.1))),(14,.pure (preT (fun x:List Str×Unit=>Xh x.1)) (Zi (fun x:List Str×Unit=>x.1.all fun s:Str=>nameI s.s))),(99,.pure (preT (fun x:List Lin×FnV 100×Unit=>decide (x.1.length<=1048576)&&x.1.all Zh)) (Zi (fun x:List Lin×FnV 100×Unit=>x.1.any fun l:Lin=> !(Kr l))))]
theorem c6h{G:PV->Prop}(t:TyS)(h:(d1p [(enc t)] fun b=>(if (!b)=true then G ((.bool false))else(if (!Str.s (TyS.elem t)==[(105:UInt8),(110:UInt8),(116:UInt8)])=true then if (!Str.s (TyS.elem t)==[(98:UInt8),(111:UInt8),(111:UInt8),(108:UInt8)])=true then G ((.bool false))else(if (!Str.s (TyS.row t)==[])=true then(He [(.sl 1 false [(.str (Str.s (TyS.row t)))])] fun g=>(if (!g)=true then G ((.bool false))else((Ew [(.sl 2 false (List.map enc (TyS.dims t))),(.fn 100)] fun i=>(G ((.bool !i)))))))else((Ew [(.sl 2 false (List.map enc (TyS.dims t))),(.fn 100)] fun k=>(G ((.bool !k))))))else(if (!Str.s (TyS.row t)==[])=true then(He [(.sl 1 false [(.str (Str.s (TyS.row t)))])] fun j=>(if (!j)=true then G ((.bool false))else((Ew [(.sl 2 false (List.map enc (TyS.dims t))),(.fn 100)] fun e=>(G ((.bool !e)))))))else((Ew [(.sl 2 false (List.map enc (TyS.dims t))),(.fn 100)] fun a=>(G ((.bool !a)))))))))):Zd PD 0 (Za A7 G) Lu [] (Zx 35 [.agg [enc t.elem,enc t.row,enc t.dims]]):=Zd.tp (dm [dv Bool] 135 0x51222222222051000142222512222220144222222222220512222222220510001422225122222201442222202222222008422222203b422220222222222222200e451) h
noncomputable def LB:IC:=YI Proofs.Tryz.f31
def Ff:List IRes:=[(.tmp 4)]
abbrev c5s:Nat:=24
def a4u:ZC:=Yh [(64,.pure (preT (fun x:TyS×Unit=>yW x.1)) (Zi (fun x:TyS×Unit=>Y8 x.1)))]
theorem c8l{G:PV->Prop}(b:Bool)(t:TyS)(h:if (b)=true then(f8q [(enc t)] fun a=>(G ((.bool a))))else(if (Str.s (TyS.elem t)==[])=true then if (Str.s (TyS.row t)==[])=true then G ((.bool ((↑(List.length (List.map enc (TyS.dims t))):Int)==0)))else(G ((.bool false)))else(G ((.bool false))))):Zd a4u 0 (Za Ff G) LB [] (Zx 24 [.bool b,.agg [enc t.elem,enc t.row,enc t.dims]]):=Zd.tp (dm [dv Bool] 46 0x22222222220222220222222007422222016420510034) h
noncomputable def b8o:IC:=YI Proofs.Tryz.f33
def b8l:List IRes:=[(.tmp 2)]
abbrev e9y:Nat:=16
def d9b:ZC:=Yh [(14,.pure (preT (fun x:List Str×Unit=>Xh x.1)) (Zi (fun x:List Str×Unit=>x.1.all fun s:Str=>nameI s.s))),(31,.pure (preT (fun x:Bool×TyS×Unit=>yW x.2.1)) (Zi (fun x:Bool×TyS×Unit=>Yy x.1 x.2.1)))]
theorem g0l{G:PV->Prop}(p:Pm)(h:(He [(.sl 1 false [(.str (Str.s (Pm.name p)))])] fun b=>(if (!b)=true then G ((.bool true))else((d3z [(.bool (Pm.given p)),(enc (Pm.ty p))] fun a=>(G ((.bool !a)))))))):Zd d9b 0 (Za b8l G) b8o [] (Zx 16 [.agg [enc p.name,enc p.given,enc p.ty.elem,enc p.ty.row,enc p.ty.dims]]):=Zd.tp (dm [dv Bool] 25 0x22512222022222200745122) h
noncomputable def Sa:IC:=YI Proofs.Tryz.f65
def BX:List IRes:=[(.tmp 4)]
abbrev f6n:Nat:=19
def LJ:ZC:=Yh [(33,.pure (preT (fun x:Pm×Unit=>pW x.1)) (Zi (fun x:Pm×Unit=> !(BJ x.1))))]
theorem g1n{G:PV->Prop}(l:List Pm)(h:At LJ 0 (Za BX G) Sa 0 19 [(0,(.pv (.sl 5 false (List.map enc l)))),(1,(.pv (.fn 33))),(7,(.pv (.int .i64 (↑(List.length (List.map enc l)):Int)))),(8,(.pv (.int .i64 0)))] []):Zd LJ 0 (Za BX G) Sa [] (Zx 19 [enc l,.fn 33]):=Zd.tp (.nil) h
theorem d1m{G:PV->Prop}(l:List Pm)(i:Int)(h:if (decide (i<(↑(List.length l):Int)))=true then(Y1 l i 5 fun b=>((f5a [(enc b)] fun a=>(if (a)=true then G ((.int .i64 i))else(At LJ 0 (Za BX G) Sa 0 19 [(0,(.pv (.sl 5 false (List.map enc l)))),(1,(.pv (.fn 33))),(7,(.pv (.int .i64 (↑(List.length l):Int)))),(8,(.pv (.int .i64 (IntKind.wrap IntKind.i64 (i+1)))))] [])))))else(G ((.int .i64 (-1))))):At LJ 0 (Za BX G) Sa 0 19 [(0,.pv (enc l)),(1,.pv (.fn 33)),(7,.pv (.int .i64 l.length)),(8,.pv (.int .i64 i))] []:=At.tp (dm [dr Pm,dv Bool] 19 0x2000146125100c42) h
noncomputable def d7c:IC:=YI Proofs.Tryz.f32
def c8s:List IRes:=[(.tmp 4)]
abbrev f7d:Nat:=9
def f2u:ZC:=Yh [(65,.pure (preT (fun x:List Pm×FnV 33×Unit=>decide (x.1.length<=1048576)&&x.1.all pW)) (Zi (fun x:List Pm×FnV 33×Unit=>Yr (fun p:Pm=> !(BJ p)) x.1)))]
theorem g5f{G:PV->Prop}(l:List Pm)(h:(f9p [(.sl 5 false (List.map enc l)),(.fn 33)] fun a=>(G ((.bool (decide (a ≥ 0))))))):Zd f2u 0 (Za c8s G) d7c [] (Zx 9 [enc l,.fn 33]):=Zd.tp (.req (FJ (Int) (.lit (.nil)))) h
noncomputable def Mt:IC:=YI Proofs.Tryz.f16
def Al:List IRes:=[(.tmp 2)]
abbrev c0l:Nat:=31
def RB:ZC:=Yh [(14,.pure (preT (fun x:List Str×Unit=>Xh x.1)) (Zi (fun x:List Str×Unit=>x.1.all fun s:Str=>nameI s.s))),(31,.pure (preT (fun x:Bool×TyS×Unit=>yW x.2.1)) (Zi (fun x:Bool×TyS×Unit=>Yy x.1 x.2.1))),(26,.pure (preT (fun x:Tm×Unit=>tW x.1)) (Zi (fun x:Tm×Unit=>YK x.1))),(32,.pure (preT (fun x:List Pm×FnV 33×Unit=>decide (x.1.length<=1048576)&&x.1.all pW)) (Zi (fun x:List Pm×FnV 33×Unit=>x.1.any fun p:Pm=> !(BJ p))))]
theorem c5w{G:PV->Prop}(d:Df)(h:(He [(.sl 1 false [(.str (Str.s (Df.name d)))])] fun e=>(if (e)=true then if (decide ((↑(List.length (List.map enc (Df.ps d))):Int)<=8))=true then(d3z [(.bool (Df.given d)),(enc (Df.res d))] fun a=>(if (a)=true then(g0z (Dh (Df.n d) (Df.ks d)) fun g=>(if (g)=true then(f9l [(.sl 5 false (List.map enc (Df.ps d))),(.fn 33)] fun b=>(G ((.bool !b))))else(G ((.bool false)))))else(G ((.bool false)))))else(G ((.bool false)))else(G ((.bool false)))))):Zd RB 0 (Za Al G) Mt [] (Zx 31 [.agg [enc d.name,enc d.line,enc d.ps,enc d.given,enc d.res.elem,enc d.res.row,enc d.res.dims,enc d.n.kind,enc d.n.line,enc d.n.name,enc d.n.num,enc d.n.elem,enc d.n.dims,enc d.n.data,enc d.n.sizes,enc d.n.ranks,enc d.ks]]):=Zd.tp (dm [dv Bool] 94 0x22222222222222222220222222222222220222222220222202251220074251220154251222202942222204145122) h
noncomputable def Lr:IC:=YI Proofs.Tryz.f36
def ME:List IRes:=[(.tmp 4)]
abbrev c2c:Nat:=16
def a4h:ZC:=Yh [(66,.pure (preT (fun x:TyS×Unit=>yW x.1)) (Zi (fun x:TyS×Unit=>Jc x.1)))]
theorem c6e{G:PV->Prop}(b:Bool)(t:TyS)(h:if (!b)=true then G ((.str []))else((f9b [(enc t)] fun a=>(ZA [(58:UInt8),(32:UInt8)] (Str.s a.1)∧(G ((.str ([(58:UInt8),(32:UInt8)]++Str.s a.1)))))))):Zd a4h 0 (Za ME G) Lr [] (Zx 16 [.bool b,.agg [enc t.elem,enc t.row,enc t.dims]]):=Zd.tp (dm [dv (Str×Int)] 10 0x15100014) h
noncomputable def b7n:IC:=YI Proofs.Tryz.f35
def b4z:List IRes:=[(.tmp 2)]
abbrev e3o:Nat:=11
def d6y:ZC:=Yh [(36,.pure (preT (fun x:Bool×TyS×Unit=>yW x.2.1)) (Zi (fun x:Bool×TyS×Unit=>(⟨Js x.1 x.2.1⟩:Str))))]
theorem f8r{G:PV->Prop}(p:Pm)(h:(d2l [(.bool (Pm.given p)),(enc (Pm.ty p))] fun a=>(ZA (Str.s (Pm.name p)) (Str.s a)∧(G ((.str (Str.s (Pm.name p)++Str.s a))))))):Zd d6y 0 (Za b4z G) b7n [] (Zx 11 [.agg [enc p.name,enc p.given,enc p.ty.elem,enc p.ty.row,enc p.ty.dims]]):=Zd.tp (.req (FJ (Str) (.req (.nil)))) h
noncomputable def Ga:IC:=YI Proofs.Tryz.f34
def Gq:List IRes:=[(.tmp 4)]
abbrev e8z:Nat:=27
def Si:ZC:=Yh [(35,.pure (preT (fun x:Pm×Unit=>pW x.1)) (Zi (fun x:Pm×Unit=>(⟨pmT x.1⟩:Str)))),(15,.pure (preT (fun x:List Str×Unit=>YL x.1)) (Zi (fun x:List Str×Unit=>Yi x.1)))]
theorem f7b{G:PV->Prop}(l:List Pm)(h:(decide (0<=(↑(List.length (List.map enc l)):Int))&&(↑(List.length (List.map enc l)):Int)==(↑(List.length (List.map enc l)):Int)&&decide ((↑(List.length (List.map enc l)):Int)*(↑16:Int)<=1099511627776)&&decide ((↑(List.length (List.map enc l)):Int)<=1099511627776))=true∧(At Si 0 (Za Gq G) Ga 0 27 [(1,(.pv (.fn 35))),(5,(.row 0 (Int.toNat (↑(List.length (List.map enc l)):Int)) 0 (Int.toNat (↑(List.length (List.map enc l)):Int)))),(11,(.pv (.sl 5 false (List.map enc l)))),(12,(.pv (.int .i64 (↑(List.length (List.map enc l)):Int)))),(13,(.pv (.int .i64 0)))] [(.obj (.row false 9 1 (List.replicate (Int.toNat (↑(List.length (List.map enc l)):Int)) (PV.str []))))])):Zd Si 0 (Za Gq G) Ga [] (Zx 27 [enc l,.fn 35]):=Zd.tp (.req (.nil)) h
theorem b4i{G:PV->Prop}(l:List Pm)(i:Int)(o:List Str)(h:if (decide (i<(↑(List.length l):Int)))=true then(Y1 l i 5 fun b=>((f3r [(enc b)] fun a=>((decide (0<=i)&&decide (0+Int.toNat i<List.length l)&&List.length (List.map enc o)==List.length l)=true∧((List.length (List.map enc o)==List.length l&&decide (0+Int.toNat i<List.length (List.map enc o))&&List.length (PV.cells (enc a))==1&&decide (0+1<=List.length (PV.cells (List.getD (List.map enc o) (0+Int.toNat i) default)))&&PV.cellsOk (enc a))=true∧(At Si 0 (Za Gq G) Ga 0 27 [(1,(.pv (.fn 35))),(5,(.row 0 (List.length l) 0 (List.length l))),(11,(.pv (.sl 5 false (List.map enc l)))),(12,(.pv (.int .i64 (↑(List.length l):Int)))),(13,(.pv (.int .i64 (IntKind.wrap IntKind.i64 (i+1)))))] [(.obj (.row false 9 1 (List.set (List.map enc o) (0+Int.toNat i) (PV.withCells (List.getD (List.map enc o) (0+Int.toNat i) default) (splice (PV.cells (List.getD (List.map enc o) (0+Int.toNat i) default)) 0 (PV.cells (enc a)))))))]))))))else((List.length (List.map enc o)==List.length l)=true∧((OP [(.sl 1 false (List.drop 0 (List.take (List.length l) (List.map enc o))))] fun e=>(G ((.str (Str.s e)))))))):At Si 0 (Za Gq G) Ga 0 27 [(1,.pv (.fn 35)),(5,.row 0 l.length 0 l.length),(11,.pv (enc l)),(12,.pv (.int .i64 l.length)),(13,.pv (.int .i64 i))] [.obj (.row false 9 1 (o.map enc))]:=At.tp (dm [dr Pm,dv Str] 20 0x611021316125100a42) h
noncomputable def a6b:IC:=YI Proofs.Tryz.f17
def a2i:List IRes:=[(.tmp 2)]
abbrev d5d:Nat:=25
def b6x:ZC:=Yh [(34,.pure (preT (fun x:List Pm×FnV 35×Unit=>decide (x.1.length<=8)&&x.1.all pW)) (Zi (fun x:List Pm×FnV 35×Unit=>Yi (x.1.map Nt)))),(36,.pure (preT (fun x:Bool×TyS×Unit=>yW x.2.1)) (Zi (fun x:Bool×TyS×Unit=>(⟨Js x.1 x.2.1⟩:Str)))),(27,.pure (preT (fun x:Tm×Unit=>tW x.1&&Z9 x.1)) (Zi (fun x:Tm×Unit=>Zt x.1)))]
theorem e5f{G:PV->Prop}(d:Df)(h:(f6a [(.sl 5 false (List.map enc (Df.ps d))),(.fn 35)] fun a=>(ZA [(100:UInt8),(101:UInt8),(102:UInt8),(32:UInt8)] (Str.s (Df.name d))∧(ZA ([(100:UInt8),(101:UInt8),(102:UInt8),(32:UInt8)]++Str.s (Df.name d)) [(40:UInt8)]∧(ZA ([(100:UInt8),(101:UInt8),(102:UInt8),(32:UInt8)]++Str.s (Df.name d)++[(40:UInt8)]) (Str.s a)∧(ZA ([(100:UInt8),(101:UInt8),(102:UInt8),(32:UInt8)]++Str.s (Df.name d)++[(40:UInt8)]++Str.s a) [(41:UInt8)]∧((d2l [(.bool (Df.given d)),(enc (Df.res d))] fun b=>(ZA ([(100:UInt8),(101:UInt8),(102:UInt8),(32:UInt8)]++Str.s (Df.name d)++[(40:UInt8)]++Str.s a++[(41:UInt8)]) (Str.s b)∧(ZA ([(100:UInt8),(101:UInt8),(102:UInt8),(32:UInt8)]++Str.s (Df.name d)++[(40:UInt8)]++Str.s a++[(41:UInt8)]++Str.s b) [(32:UInt8),(61:UInt8),(32:UInt8)]∧((f6b (Dh (Df.n d) (Df.ks d)) fun e=>(ZA ([(100:UInt8),(101:UInt8),(102:UInt8),(32:UInt8)]++Str.s (Df.name d)++[(40:UInt8)]++Str.s a++[(41:UInt8)]++Str.s b++[(32:UInt8),(61:UInt8),(32:UInt8)]) (Str.s e)∧(G ((.str ([(100:UInt8),(101:UInt8),(102:UInt8),(32:UInt8)]++Str.s (Df.name d)++[(40:UInt8)]++Str.s a++[(41:UInt8)]++Str.s b++[(32:UInt8),(61:UInt8),(32:UInt8)]++Str.s e))))))))))))))))):Zd b6x 0 (Za a2i G) a6b [] (Zx 25 [.agg [enc d.name,enc d.line,enc d.ps,enc d.given,enc d.res.elem,enc d.res.row,enc d.res.dims,enc d.n.kind,enc d.n.line,enc d.n.name,enc d.n.num,enc d.n.elem,enc d.n.dims,enc d.n.data,enc d.n.sizes,enc d.n.ranks,enc d.ks]]):=Zd.tp (dm [dv Str] 15 0x1511151111151) h
noncomputable def b6z:IC:=YI Proofs.Tryz.f10
def b7t:List IRes:=[(.tmp 2),(.tmp 3)]
abbrev e9r:Nat:=12
def d7e:ZC:=Yh [(16,.pure (preT (fun x:Df×Unit=>dW x.1)) (Zi (fun x:Df×Unit=>ZK x.1))),(17,.pure (preT (fun x:Df×Unit=>dW x.1&&ZK x.1)) (Zi (fun x:Df×Unit=>UQ x.1))),(18,.pure (preT (fun _:Str×Unit=>true)) (Zi (fun x:Str×Unit=>Qn x.1)))]
theorem f4n{G:PV->Prop}(d:Df)(h:(d4n [(enc d)] fun e=>(if (!e)=true then G ((.tup [(.str []),(.int .i64 1)]))else((c7c [(enc d)] fun b=>(e1s [(.str (Str.s b))] fun a=>(G ((.tup [(.str (Str.s a.1)),(.int .i64 a.2)]))))))))):Zd d7e 0 (Za b7t G) b6z [] (Zx 12 [.agg [enc d.name,enc d.line,enc d.ps,enc d.given,enc d.res.elem,enc d.res.row,enc d.res.dims,enc d.n.kind,enc d.n.line,enc d.n.name,enc d.n.num,enc d.n.elem,enc d.n.dims,enc d.n.data,enc d.n.sizes,enc d.n.ranks,enc d.ks]]):=Zd.tp (dm [dv Bool,dv Str,dv (Str×Int)] 13 0x72610001451) h
noncomputable def UF:IC:=YI Proofs.Tryz.f7
def VX:List IRes:=[(.tmp 2),(.tmp 3)]
abbrev e2y:Nat:=90
def QN:ZC:=Yh [(14,.pure (preT (fun x:List Str×Unit=>Xh x.1)) (Zi (fun x:List Str×Unit=>x.1.all fun s:Str=>nameI s.s))),(15,.pure (preT (fun x:List Str×Unit=>YL x.1)) (Zi (fun x:List Str×Unit=>Yi x.1))),(16,.pure (preT (fun x:Df×Unit=>dW x.1)) (Zi (fun x:Df×Unit=>ZK x.1))),(17,.pure (preT (fun x:Df×Unit=>dW x.1&&ZK x.1)) (Zi (fun x:Df×Unit=>UQ x.1))),(19,.pure (preT (fun x:List Str×Str×Unit=>RG x.1&&decide (x.2.1.s=[10]))) (Zi (fun x:List Str×Str×Unit=>nlS x.1))),(18,.pure (preT (fun _:Str×Unit=>true)) (Zi (fun x:Str×Unit=>Qn x.1)))]
abbrev RS(a:Mdu):Nat×AV:=(69,(.pv (.sl 17 false (List.map enc (Mdu.ds a)))))
theorem f8e{G:PV->Prop}(m:Mdu)(h:(He [(.sl 1 false [(.str (Str.s (Mdu.name m)))])] fun g=>(if (!g)=true then G ((.tup [(.str []),(.int .i64 1)]))else((He [(.sl 1 false (List.map enc (Mdu.im m)))] fun i=>(if (!i)=true then G ((.tup [(.str []),(.int .i64 1)]))else((He [(.sl 1 false (List.map enc (Mdu.ex m)))] fun j=>(if (!j)=true then G ((.tup [(.str []),(.int .i64 1)]))else(if (decide ((↑(List.length (List.map enc (Mdu.im m))):Int)>20))=true then G ((.tup [(.str []),(.int .i64 1)]))else(if (decide ((↑(List.length (List.map enc (Mdu.ex m))):Int)>60))=true then G ((.tup [(.str []),(.int .i64 1)]))else(if (decide ((↑(List.length (List.map enc (Mdu.ds m))):Int)>60))=true then G ((.tup [(.str []),(.int .i64 1)]))else(ZA [(109:UInt8),(111:UInt8),(100:UInt8),(117:UInt8),(108:UInt8),(101:UInt8),(32:UInt8)] (Str.s (Mdu.name m))∧(if (decide ((↑(List.length (List.map enc (Mdu.im m))):Int)>0))=true then(OP [(.sl 1 false (List.map enc (Mdu.im m)))] fun a=>(ZA [(105:UInt8),(109:UInt8),(112:UInt8),(111:UInt8),(114:UInt8),(116:UInt8),(32:UInt8)] (Str.s a)∧(if (decide ((↑(List.length (List.map enc (Mdu.ex m))):Int)>0))=true then(OP [(.sl 1 false (List.map enc (Mdu.ex m)))] fun e=>(ZA [(101:UInt8),(120:UInt8),(112:UInt8),(111:UInt8),(114:UInt8),(116:UInt8),(32:UInt8)] (Str.s e)∧(At QN 0 (Za VX G) UF 0 90 [(4,(.row 0 3 0 3)),(RS m),(70,(.pv (.int .i64 (↑(List.length (List.map enc (Mdu.ds m))):Int)))),(71,(.pv (.int .i64 0)))] [(.obj (.row false 9 1 [(.str ([(109:UInt8),(111:UInt8),(100:UInt8),(117:UInt8),(108:UInt8),(101:UInt8),(32:UInt8)]++Str.s (Mdu.name m))),(.str ([(105:UInt8),(109:UInt8),(112:UInt8),(111:UInt8),(114:UInt8),(116:UInt8),(32:UInt8)]++Str.s a)),(.str ([(101:UInt8),(120:UInt8),(112:UInt8),(111:UInt8),(114:UInt8),(116:UInt8),(32:UInt8)]++Str.s e))]))])))else(At QN 0 (Za VX G) UF 0 90 [(4,(.row 0 2 0 2)),(RS m),(70,(.pv (.int .i64 (↑(List.length (List.map enc (Mdu.ds m))):Int)))),(71,(.pv (.int .i64 0)))] [(.obj (.row false 9 1 [(.str ([(109:UInt8),(111:UInt8),(100:UInt8),(117:UInt8),(108:UInt8),(101:UInt8),(32:UInt8)]++Str.s (Mdu.name m))),(.str ([(105:UInt8),(109:UInt8),(112:UInt8),(111:UInt8),(114:UInt8),(116:UInt8),(32:UInt8)]++Str.s a))]))]))))else(if (decide ((↑(List.length (List.map enc (Mdu.ex m))):Int)>0))=true then(OP [(.sl 1 false (List.map enc (Mdu.ex m)))] fun b=>(ZA [(101:UInt8),(120:UInt8),(112:UInt8),(111:UInt8),(114:UInt8),(116:UInt8),(32:UInt8)] (Str.s b)∧(At QN 0 (Za VX G) UF 0 90 [(4,(.row 0 2 0 2)),(RS m),(70,(.pv (.int .i64 (↑(List.length (List.map enc (Mdu.ds m))):Int)))),(71,(.pv (.int .i64 0)))] [(.obj (.row false 9 1 [(.str ([(109:UInt8),(111:UInt8),(100:UInt8),(117:UInt8),(108:UInt8),(101:UInt8),(32:UInt8)]++Str.s (Mdu.name m))),(.str ([(101:UInt8),(120:UInt8),(112:UInt8),(111:UInt8),(114:UInt8),(116:UInt8),(32:UInt8)]++Str.s b))]))])))else(At QN 0 (Za VX G) UF 0 90 [(4,(.row 0 1 0 1)),(RS m),(70,(.pv (.int .i64 (↑(List.length (List.map enc (Mdu.ds m))):Int)))),(71,(.pv (.int .i64 0)))] [(.obj (.row false 9 1 [(.str ([(109:UInt8),(111:UInt8),(100:UInt8),(117:UInt8),(108:UInt8),(101:UInt8),(32:UInt8)]++Str.s (Mdu.name m)))]))])))))))))))))))):Zd QN 0 (Za VX G) UF [] (Zx 90 [.agg [enc m.name,enc m.im,enc m.ex,enc m.ds]]):=Zd.tp (dm [dv Bool,dv Str] 176 0x222161007420022216100742222161013422100014222220222220064222220222222222200b4222220222222222222222010422512202222222222222222222201542251220222222222222222222222222201a45122) h
theorem b7p{G:PV->Prop}(m:Mdu)(i:Int)(k:Nat)(o:List Str)(h:if (decide (i<(↑(List.length (Mdu.ds m)):Int)))=true then(Y1 (Mdu.ds m) i 17 fun e=>((d4n [(enc e)] fun j=>(if (!j)=true then G ((.tup [(.str []),(.int .i64 1)]))else((c7c [(enc e)] fun a=>((List.length (List.map enc o)==k&&k==k&&decide ((k+List.length (List.drop 0 (List.take 1 [enc a])))*16<=1099511627776)&&decide (k+List.length (List.drop 0 (List.take 1 [enc a]))<=1099511627776))=true∧(At QN 0 (Za VX G) UF 0 90 [(4,(.row 0 (k+List.length (List.drop 0 (List.take 1 [enc a]))) 0 (k+List.length (List.drop 0 (List.take 1 [enc a]))))),(RS m),(70,(.pv (.int .i64 (↑(List.length (Mdu.ds m)):Int)))),(71,(.pv (.int .i64 (IntKind.wrap IntKind.i64 (i+1)))))] [(.obj (.row false 9 1 (List.map enc o++List.drop 0 (List.take 1 [enc a]))))]))))))))else((List.length (List.map enc o)==k)=true∧((f9c [(.sl 1 false (List.drop 0 (List.take k (List.map enc o)))),(.str [(10:UInt8)])] fun g=>(ZA (Str.s g) [(10:UInt8)]∧(e1s [(.str (Str.s g++[(10:UInt8)]))] fun b=>(G ((.tup [(.str (Str.s b.1)),(.int .i64 b.2)]))))))))):At QN 0 (Za VX G) UF 0 90 [(4,.row 0 k 0 k),(69,.pv (enc m.ds)),(70,.pv (.int .i64 m.ds.length)),(71,.pv (.int .i64 i))] [.obj (.row false 9 1 (o.map enc))]:=At.tp (dm [dr Df,dv Bool,dv Str,dv (Str×Int)] 30 0x8217110212271000146125101142) h
end Go.Pl
namespace Go.Pl
open Go.RowKit
open Enc (enc dec is)
open EncL (encL decL isL)
theorem TR{α:Type}(p:α->Bool): ∀ l:List α,(!(l.any fun x=> !(p x)))=l.all p
 | []=>rfl
 | a::l=>by rw[List.any_cons,List.all_cons,Bool.not_or,TR p l,Bool.not_not]
theorem d2i(r:List UInt8):(Pp r==[])=r.all digB:=by
 rw[Bool.eq_iff_iff,beq_iff_eq,c0m]
theorem e8k: ∀ x:Str×Unit,decide (x.1.s.length<=1048576)=true->Zd f2p 0 (Za d8t (Zf (evB x.1.s))) c8h [] (Zx f4z (encL x)):=by
 rintro⟨⟨s⟩,⟨⟩⟩ h
 cases s with
 | nil=>exact f2n [] (ZT (by decide) (Zl rfl))
 | cons c r=>
  have hl:r.length+1<=1048576:=of_decide_eq_true h
  have e:List.drop (Int.toNat 1) (List.take (List.length (c::r)) (c::r))=r:=by rw[List.take_length];rfl
  have ev:evB (c::r)=(decide (65<=c)&&decide (c<=90)&&r.all digB&&decide (r.length<=29)):=rfl
  refine f2n (c::r) (ZU (by simp;omega) (ZO (fun h1=>Zl ?_) fun h1=>⟨by simp,ZO (fun h2=>Zl ?_) fun h2=>⟨by simp,ZO (fun h3=>Zl ?_) fun h3=>⟨by simp,?_⟩⟩⟩))
  ·rw[ev,decide_eq_false (show ¬ r.length<=29 by rw[List.length_cons]at h1;omega),Bool.and_false]
  ·have h2:(c.toNat:Int)<65:=h2
   rw[ev,decide_eq_false (fun k:(65:UInt8)<=c=>by have:65<=c.toNat:=UInt8.le_iff_toNat_le.1 k;omega)]
   rfl
  ·have h3:(c.toNat:Int)>90:=h3
   rw[ev,decide_eq_false (fun k:c<=(90:UInt8)=>by have:c.toNat<=90:=UInt8.le_iff_toNat_le.1 k;omega),Bool.and_false]
   rfl
  ·rw[e]
   have h2 : ¬ (c.toNat:Int)<65:=h2
   have h3 : ¬ (c.toNat:Int)>90:=h3
   refine⟨Zc ((⟨r⟩:Str),(⟨J7⟩:Str),()) rfl (by show(decide (r.length<=1048576)&&decide (J7=J7))=true;rw[decide_eq_true (by omega),decide_eq_true rfl];rfl),Zb ((⟨r⟩:Str),(⟨J7⟩:Str),()) rfl (Zl ?_)⟩
   show(Pp r==[])=_
   rw[d2i,ev,decide_eq_true (show(65:UInt8)<=c from UInt8.le_iff_toNat_le.2 (by show 65<=c.toNat;omega)),decide_eq_true (show c<=(90:UInt8)from UInt8.le_iff_toNat_le.2 (by show c.toNat<=90;omega)),decide_eq_true (show r.length<=29 by rw[List.length_cons]at h1;omega),Bool.and_true]
   rfl
theorem e2r: ∀ x:Lin×Unit,Xz x.1=true->Zd f1e 0 (Za d5l (Zf (!(Zh x.1)))) d9m [] (Zx f5p (encL x)):=by
 rintro⟨l,⟨⟩⟩ h
 exact g5t l ⟨Zc (l,()) rfl h,Zb (l,()) rfl (Zl rfl)⟩
theorem d6d(l:List Lin)(hs : ∀ s∈l,Xz s=true)(hl:l.length<=1048576): ∀ (m i:Nat),m+i=l.length->(∀ j (h:j<l.length),j<i->(!(Zh l[j]))=false) ->
  At Fh 0 (Za A8 (Zf (Yr (fun s:Lin=> !(Zh s)) l))) BV 0 19 [(0,.pv (enc l)),(1,.pv (.fn 159)),(7,.pv (.int .i64 l.length)),(8,.pv (.int .i64 i))] []:=by
 intro m
 induction m with
 | zero=>
  intro i hi b
  refine e0w l i (ZU (Yx (by omega)) (UN ?_))
  rw[Gl _ _ (fun j e=>b j e (by omega))]
 | succ m ih=>
  intro i hi b
  have a:i<l.length:=by omega
  refine e0w l i (ZT (Yt a) ⟨Zq a rfl,ZB a ⟨Zc (l[i],()) rfl (hs _ (List.getElem_mem a)),Zb (l[i],()) rfl (YV (fun hb=> ?_) fun hb=> ?_)⟩⟩)
  ·exact UN (Gz (fun s:Lin=> !(Zh s)) l i a b hb).symm
  ·rw[next (by omega)]
   refine ih (i+1) (by omega) fun j e hji=> ?_
   by_cases he:j=i
   ·subst he;exact hb
   ·exact b j e (by omega)
theorem f0h: ∀ x:List Lin×FnV 159×Unit,(decide (x.1.length<=1048576)&&x.1.all Xz)=true->Zd Fh 0 (Za A8 (Zf (Yr (fun s:Lin=> !(Zh s)) x.1))) BV [] (Zx f4f (encL x)):=by
 rintro⟨l,g,⟨⟩⟩ h
 simp only[Bool.and_eq_true,decide_eq_true_eq,List.all_eq_true]at h
 refine g2s l ?_
 rw[List.length_map]
 exact d6d l h.2 h.1 l.length 0 (by omega) fun j hj hji=>by omega
theorem e8b: ∀ x:List Lin×FnV 159×Unit,(decide (x.1.length<=1048576)&&x.1.all Xz)=true->Zd f2f 0 (Za d7n (Zf (x.1.any fun s:Lin=> !(Zh s)))) c6k [] (Zx f5f (encL x)):=by
 rintro⟨l,g,⟨⟩⟩ h
 exact g5j l ⟨Zc (l,{},()) rfl h,Zb (l,{},()) rfl (Zl (Wu _ _))⟩
structure SpB (r:Str) (l:List Lin):Prop where
 row:r.s.length<=1048576
 len:l.length<=1048576
 lin:l.all Xz=true
theorem spB{r:Str}{l:List Lin}(h:Nw ⟨r,l⟩=true):SpB r l:=by
 unfold Nw at h
 simp only[Bool.and_eq_true,decide_eq_true_eq]at h
 exact⟨h.1.1,h.1.2,h.2⟩
theorem TyB.sp{t:TyS}(h:TyB t):Nw ⟨t.row,t.dims⟩=true:=by
 unfold Nw
 rw[decide_eq_true h.row,decide_eq_true h.dims,List.all_eq_true.2 h.lin];rfl
theorem a7n: ∀ x:Sp×Unit,Nw x.1=true->Zd Na 0 (Za Aa (Zf (KU x.1.row x.1.dims))) MU [] (Zx c4d (encL x)):=by
 rintro⟨⟨r,l⟩,⟨⟩⟩ h
 have i:=spB h
 have k:(fun x:List Lin×FnV 159×Unit=>decide (x.1.length<=1048576)&&x.1.all Xz) (l,{},())=true:=by show(decide (l.length<=1048576)&&l.all Xz)=true;rw[decide_eq_true i.len,i.lin];rfl
 show Zd Na 0 (Za Aa (Zf (KU r l))) _ _ _
 have m:(decide (r.s=[])||nameB r)=true->l.length<=6->(!(l.any fun x=> !(Zh x)))=KU r l:=fun a b=>by unfold KU;rw[TR,a,decide_eq_true b];rfl
 have j : ¬ l.length<=6->false=KU r l:=fun b=>by unfold KU;rw[decide_eq_false b,Bool.and_false];rfl
 refine d3h r l (Zy (fun g=>ZO (fun e=>⟨Zc (l,{},()) rfl k,Zb (l,{},()) rfl (Zl (m (by rw[decide_eq_true g];rfl) (by rw[List.length_map]at e;omega)))⟩) fun e=>Zl (j (by rw[List.length_map]at e;omega))) fun g=>⟨Zc (r,()) rfl (decide_eq_true (by have:=i.row;show r.s.length<=_;omega)),Zb (r,()) rfl (YV (fun hn=>ZO (fun e=>⟨Zc (l,{},()) rfl k,Zb (l,{},()) rfl (Zl (m (by rw[show nameB r=true from hn,Bool.or_true]) (by rw[List.length_map]at e;omega)))⟩) fun e=>Zl (j (by rw[List.length_map]at e;omega))) fun hn=>Zl ?_)⟩)
 have hn:nameB r=false:=hn
 unfold KU
 rw[hn,decide_eq_false g];rfl
theorem b1p: ∀ x:Sp×Unit,Nw x.1=true->Zd a2f 0 (Za MC (Zf (Nu x.1.row x.1.dims))) Mr [] (Zx c2a (encL x)):=by
 rintro⟨⟨r,l⟩,⟨⟩⟩ h
 refine d4i r l ⟨Zc (⟨r,l⟩,()) rfl h,Zb (⟨r,l⟩,()) rfl (YY (fun a=> ?_) fun a=>⟨Zc (⟨r,l⟩,()) rfl a,Zb (⟨r,l⟩,()) rfl ?_⟩)⟩
 ·have a:KU r l=false:=a
  exact Zg (x:=((⟨[]⟩,1):Str×Int)) (by show _=Nu r l;unfold Nu;rw[a];rfl)
 ·have a:KU r l=true:=a
  exact Zg (x:=((⟨QM r l⟩,0):Str×Int)) (by show _=Nu r l;unfold Nu;rw[a];rfl)
theorem b0l: ∀ x:TyS×Unit,yW x.1=true->Zd a6t 0 (Za Fw (Zf (Q5 x.1))) Lc [] (Zx b9m (encL x)):=by
 rintro⟨t,⟨⟩⟩ h
 have a:=tyB h
 have y:Mw t.elem.s=true->KU t.row t.dims=Q5 t:=fun e=>by unfold Q5;rw[e];rfl
 refine d6i t (Zy (fun h1=>⟨Zc (⟨t.row,t.dims⟩,()) rfl a.sp,Zb (⟨t.row,t.dims⟩,()) rfl (Zl (y ?_))⟩) fun h1=>Zy (fun h2=>⟨Zc (⟨t.row,t.dims⟩,()) rfl a.sp,Zb (⟨t.row,t.dims⟩,()) rfl (Zl (y ?_))⟩) fun h2=>⟨Zc (t.elem,()) rfl (decide_eq_true a.elem),Zb (t.elem,()) rfl (YV (fun h3=>⟨Zc (⟨t.row,t.dims⟩,()) rfl a.sp,Zb (⟨t.row,t.dims⟩,()) rfl (Zl (y ?_))⟩) fun h3=>Zl ?_)⟩)
 ·unfold Mw;rw[show t.elem.s=Xa from h1];rfl
 ·unfold Mw;rw[show t.elem.s=YM from h2];rfl
 ·unfold Mw;rw[show evB t.elem.s=true from h3,Bool.or_true]
 ·have h3:evB t.elem.s=false:=h3
  unfold Q5 Mw
  rw[h3,decide_eq_false (show ¬ t.elem.s=Xa from h1),decide_eq_false (show ¬ t.elem.s=YM from h2)];rfl
theorem c3n: ∀ x:TyS×Unit,(yW x.1&&Q5 x.1)=true->Zd b3p 0 (Za a4j (Zf (⟨tyT x.1⟩:Str))) a3q [] (Zx d0s (encL x)):=by
 rintro⟨t,⟨⟩⟩ h
 simp only[Bool.and_eq_true]at h
 have b:=tyB h.1
 have a:Q5 t=true:=h.2
 have hs:KU t.row t.dims=true:=by unfold Q5 at a;rw[Bool.and_eq_true]at a;exact a.2
 have e:Nu t.row t.dims=(⟨QM t.row t.dims⟩,0):=by unfold Nu;rw[hs];rfl
 refine e7i t ⟨Zc (⟨t.row,t.dims⟩,()) rfl b.sp,Zb (⟨t.row,t.dims⟩,()) rfl ?_⟩
 rw[show Nu (((⟨t.row,t.dims⟩,()):Sp×Unit).1).row (((⟨t.row,t.dims⟩,()):Sp×Unit).1).dims=_ from e]
 have l1:=Bb hs
 refine Zy (fun h1=>Zg (x:=t.elem) ?_) fun h1=>⟨Zj (by have:=b.elem;show(QM t.row t.dims).length+t.elem.s.length<=_;omega),Zg (x:=(⟨QM t.row t.dims++t.elem.s⟩:Str)) ?_⟩
 ·show _=(⟨tyT t⟩:Str)
  unfold tyT;rw[if_pos h1];rfl
 ·show _=(⟨tyT t⟩:Str)
  unfold tyT;rw[if_neg h1]
theorem a9p: ∀ x:TyS×Unit,yW x.1=true->Zd a5p 0 (Za L8 (Zf (Jc x.1))) M5 [] (Zx c0v (encL x)):=by
 rintro⟨t,⟨⟩⟩ h
 refine c9i t ⟨Zc (t,()) rfl h,Zb (t,()) rfl (YY (fun a=> ?_) fun a=>⟨Zc (t,()) rfl ?_,Zb (t,()) rfl ?_⟩)⟩
 ·have a:Q5 t=false:=a
  exact Zg (x:=((⟨[]⟩,1):Str×Int)) (by show _=Jc t;unfold Jc;rw[a];rfl)
 ·have h:yW t=true:=h
  show(yW t&&Q5 t)=true
  rw[h,show Q5 t=true from a];rfl
 ·have a:Q5 t=true:=a
  exact Zg (x:=((⟨tyT t⟩,0):Str×Int)) (by show _=Jc t;unfold Jc;rw[a];rfl)
theorem b2k{l:Lin}(h:Zh l=true):Xh (Va l)=true:=by
 have h1:=Uj h
 unfold Xh Va
 rw[List.length_map,decide_eq_true (by omega),Bool.true_and,List.all_eq_true]
 intro s hs
 obtain⟨c,hc,rfl⟩:=List.mem_map.1 hs
 have:=Vh (WK h hc).1
 exact decide_eq_true (by omega)
theorem d7y: ∀ x:Lin×Unit,Zh x.1=true->Zd c7l 0 (Za b6f (Zf (!(Kr x.1)))) b8p [] (Zx e9k (encL x)):=by
 rintro⟨l,⟨⟩⟩ h
 have h:Zh l=true:=h
 have h1:=Uj h
 exact f6c l ⟨Zc (l,()) rfl (decide_eq_true (by show l.t.length<=_;omega)),Zb (l,()) rfl ⟨Zc (Va l,()) rfl (b2k h),Zb (Va l,()) rfl (Zl rfl)⟩⟩
theorem e0a(l:List Lin)(hs : ∀ s∈l,Zh s=true)(hl:l.length<=1048576): ∀ (m i:Nat),m+i=l.length->(∀ j (h:j<l.length),j<i->(!(Kr l[j]))=false) ->
  At LA 0 (Za SA (Zf (Yr (fun s:Lin=> !(Kr s)) l))) Sd 0 19 [(0,.pv (enc l)),(1,.pv (.fn 100)),(7,.pv (.int .i64 l.length)),(8,.pv (.int .i64 i))] []:=by
 intro m
 induction m with
 | zero=>
  intro i hi b
  refine c6s l i (ZU (Yx (by omega)) (UN ?_))
  rw[Gl _ _ (fun j e=>b j e (by omega))]
 | succ m ih=>
  intro i hi b
  have a:i<l.length:=by omega
  refine c6s l i (ZT (Yt a) ⟨Zq a rfl,ZB a ⟨Zc (l[i],()) rfl (hs _ (List.getElem_mem a)),Zb (l[i],()) rfl (YV (fun hb=> ?_) fun hb=> ?_)⟩⟩)
  ·exact UN (Gz (fun s:Lin=> !(Kr s)) l i a b hb).symm
  ·rw[next (by omega)]
   refine ih (i+1) (by omega) fun j e hji=> ?_
   by_cases he:j=i
   ·subst he;exact hb
   ·exact b j e (by omega)
theorem e7d: ∀ x:List Lin×FnV 100×Unit,(decide (x.1.length<=1048576)&&x.1.all Zh)=true->Zd LA 0 (Za SA (Zf (Yr (fun s:Lin=> !(Kr s)) x.1))) Sd [] (Zx f9d (encL x)):=by
 rintro⟨l,g,⟨⟩⟩ h
 simp only[Bool.and_eq_true,decide_eq_true_eq,List.all_eq_true]at h
 refine g2c l ?_
 rw[List.length_map]
 exact e0a l h.2 h.1 l.length 0 (by omega) fun j hj hji=>by omega
theorem f0v: ∀ x:List Lin×FnV 100×Unit,(decide (x.1.length<=1048576)&&x.1.all Zh)=true->Zd f2z 0 (Za d4b (Zf (x.1.any fun s:Lin=> !(Kr s)))) d9e [] (Zx f3q (encL x)):=by
 rintro⟨l,g,⟨⟩⟩ h
 exact g5a l ⟨Zc (l,{},()) rfl h,Zb (l,{},()) rfl (Zl (Wu _ _))⟩
theorem Ht{s:Str}(h:s.s.length<=1048576):Xh [s]=true:=by
 unfold Xh
 rw[decide_eq_true (by simp),List.all_cons,List.all_nil,decide_eq_true h];rfl
theorem Jf(s:Str):([s].all fun s:Str=>nameI s.s)=nameI s.s:=by rw[List.all_cons,List.all_nil,Bool.and_true]
theorem a5q{t:TyS}(h:Q5 t=true):t.dims.length<=6∧t.dims.all Zh=true:=by
 unfold Q5 KU at h
 simp only[Bool.and_eq_true,decide_eq_true_eq]at h
 exact⟨h.2.1.2,h.2.2⟩
theorem AJ{α:Type}[BEq α][LawfulBEq α]{x y:α}{P Q:Prop}(h1:x≠y->P)(h2:x=y->Q):if (!(x==y))=true then P else Q:=by
 by_cases h:x=y
 ·rw[if_neg (by simpa using h)];exact h2 h
 ·rw[if_pos (by simpa using h)];exact h1 h
theorem a7z: ∀ x:TyS×Unit,yW x.1=true->Zd PD 0 (Za A7 (Zf (Y8 x.1))) Lu [] (Zx b9q (encL x)):=by
 rintro⟨t,⟨⟩⟩ h
 have j:=tyB h
 show Zd PD 0 (Za A7 (Zf (Y8 t))) _ _ _
 have es : ∀ b:Bool,(fun x:List Str×Unit=>x.1.all fun s:Str=>nameI s.s) ([t.row],())=b->nameI t.row.s=b:=fun b hb=>by rw[<- hb];exact(Jf t.row).symm
 have i:Q5 t=true->(fun x:List Lin×FnV 100×Unit=>decide (x.1.length<=1048576)&&x.1.all Zh) (t.dims,{},())=true:=fun e=>by
  obtain⟨a,b⟩:=a5q e
  show(decide (t.dims.length<=1048576)&&t.dims.all Zh)=true
  rw[b,decide_eq_true (by omega)];rfl
 have fin:Q5 t=true->(t.elem.s=Xa∨t.elem.s=YM)->(t.row.s=[]∨nameI t.row.s=true)->(!(t.dims.any fun l=> !(Kr l)))=Y8 t:=fun a b c=>by
  unfold Y8
  rw[TR,a]
  have k:(decide (t.elem.s=Xa)||decide (t.elem.s=YM))=true:=by simpa using b
  have m:(decide (t.row.s=[])||nameI t.row.s)=true:=by simpa using c
  rw[k,m];rfl
 refine c6h t ⟨Zc (t,()) rfl h,Zb (t,()) rfl (YY (fun e=>Zl ?_) fun e=>AJ (fun h1=> ?_) fun h1=> ?_)⟩
 ·have e:Q5 t=false:=e
  unfold Y8;rw[e];rfl
 ·have e:Q5 t=true:=e
  have h1:t.elem.s≠Xa:=h1
  refine AJ (fun h2=>Zl ?_) fun h2=>AJ (fun h3=>⟨Zc ([t.row],()) rfl (Ht j.row),Zb ([t.row],()) rfl (YY (fun g=>Zl ?_) fun g=>⟨Zc (t.dims,{},()) rfl (i e),Zb (t.dims,{},()) rfl (Zl (fin e (.inr ?_) (.inr (es _ g))))⟩)⟩) fun h3=>⟨Zc (t.dims,{},()) rfl (i e),Zb (t.dims,{},()) rfl (Zl (fin e (.inr ?_) (.inl ?_)))⟩
  ·have h2:t.elem.s≠YM:=h2
   unfold Y8
   rw[decide_eq_false h1,decide_eq_false h2,Bool.or_self,Bool.and_false];rfl
  ·have h3:t.row.s≠[]:=h3
   unfold Y8
   rw[decide_eq_false h3,es _ g,Bool.or_self,Bool.and_false];rfl
  ·exact h2
  ·exact h2
  ·exact h3
 ·have e:Q5 t=true:=e
  have h1:t.elem.s=Xa:=h1
  refine AJ (fun h3=>⟨Zc ([t.row],()) rfl (Ht j.row),Zb ([t.row],()) rfl (YY (fun g=>Zl ?_) fun g=>⟨Zc (t.dims,{},()) rfl (i e),Zb (t.dims,{},()) rfl (Zl (fin e (.inl h1) (.inr (es _ g))))⟩)⟩) fun h3=>⟨Zc (t.dims,{},()) rfl (i e),Zb (t.dims,{},()) rfl (Zl (fin e (.inl h1) (.inl ?_)))⟩
  ·have h3:t.row.s≠[]:=h3
   unfold Y8
   rw[decide_eq_false h3,es _ g,Bool.or_self,Bool.and_false];rfl
  ·exact h3
theorem b1y: ∀ x:Bool×TyS×Unit,yW x.2.1=true->Zd a4u 0 (Za Ff (Zf (Yy x.1 x.2.1))) LB [] (Zx c5s (encL x)):=by
 rintro⟨b,t,⟨⟩⟩ h
 refine c8l b t (YV (fun hb=>⟨Zc (t,()) rfl h,Zb (t,()) rfl (Zl ?_)⟩) fun hb=>Zy (fun h1=>Zy (fun h2=>Zl ?_) fun h2=>Zl ?_) fun h1=>Zl ?_)
 ·show Y8 t=Yy b t
  unfold Yy;rw[hb];rfl
 ·show _=Yy b t
  unfold Yy
  rw[hb,decide_eq_true h1,decide_eq_true h2,List.length_map]
  by_cases h3:t.dims.length=0
  ·rw[h3];rfl
  ·rw[decide_eq_false h3]
   show((t.dims.length:Int)==0)=false
   simpa using h3
 ·show _=Yy b t
  unfold Yy
  rw[hb,decide_eq_false h2,Bool.and_false];rfl
 ·show _=Yy b t
  unfold Yy
  rw[hb,decide_eq_false h1];rfl
theorem CW{p:Pm}(h:pW p=true):p.name.s.length<=1048576∧yW p.ty=true:=by
 have h:=of_decide_eq_true h
 unfold wPm at h
 exact⟨by omega,decide_eq_true (by omega)⟩
theorem d5u: ∀ x:Pm×Unit,pW x.1=true->Zd d9b 0 (Za b8l (Zf (!(BJ x.1)))) b8o [] (Zx e9y (encL x)):=by
 rintro⟨p,⟨⟩⟩ h
 have a:=CW h
 refine g0l p ⟨Zc ([p.name],()) rfl (Ht a.1),Zb ([p.name],()) rfl (YY (fun h1=>Zl ?_) fun h1=>⟨Zc (p.given,p.ty,()) rfl a.2,Zb (p.given,p.ty,()) rfl (Zl ?_)⟩)⟩
 ·have h1:nameI p.name.s=false:=(Jf p.name).symm.trans h1
  show true = !(BJ p)
  unfold BJ;rw[h1];rfl
 ·have h1:nameI p.name.s=true:=(Jf p.name).symm.trans h1
  show(!(Yy p.given p.ty)) = !(BJ p)
  unfold BJ;rw[h1];rfl
theorem d1b(l:List Pm)(hs : ∀ s∈l,pW s=true)(hl:l.length<=1048576): ∀ (m i:Nat),m+i=l.length->(∀ j (h:j<l.length),j<i->(!(BJ l[j]))=false) ->
  At LJ 0 (Za BX (Zf (Yr (fun s:Pm=> !(BJ s)) l))) Sa 0 19 [(0,.pv (enc l)),(1,.pv (.fn 33)),(7,.pv (.int .i64 l.length)),(8,.pv (.int .i64 i))] []:=by
 intro m
 induction m with
 | zero=>
  intro i hi b
  refine d1m l i (ZU (Yx (by omega)) (UN ?_))
  rw[Gl _ _ (fun j e=>b j e (by omega))]
 | succ m ih=>
  intro i hi b
  have a:i<l.length:=by omega
  refine d1m l i (ZT (Yt a) ⟨Zq a rfl,ZB a ⟨Zc (l[i],()) rfl (hs _ (List.getElem_mem a)),Zb (l[i],()) rfl (YV (fun hb=> ?_) fun hb=> ?_)⟩⟩)
  ·exact UN (Gz (fun s:Pm=> !(BJ s)) l i a b hb).symm
  ·rw[next (by omega)]
   refine ih (i+1) (by omega) fun j e hji=> ?_
   by_cases he:j=i
   ·subst he;exact hb
   ·exact b j e (by omega)
theorem e4j: ∀ x:List Pm×FnV 33×Unit,(decide (x.1.length<=1048576)&&x.1.all pW)=true->Zd LJ 0 (Za BX (Zf (Yr (fun s:Pm=> !(BJ s)) x.1))) Sa [] (Zx f6n (encL x)):=by
 rintro⟨l,g,⟨⟩⟩ h
 simp only[Bool.and_eq_true,decide_eq_true_eq,List.all_eq_true]at h
 refine g1n l ?_
 rw[List.length_map]
 exact d1b l h.2 h.1 l.length 0 (by omega) fun j hj hji=>by omega
theorem e6v: ∀ x:List Pm×FnV 33×Unit,(decide (x.1.length<=1048576)&&x.1.all pW)=true->Zd f2u 0 (Za c8s (Zf (x.1.any fun s:Pm=> !(BJ s)))) d7c [] (Zx f7d (encL x)):=by
 rintro⟨l,g,⟨⟩⟩ h
 exact g5f l ⟨Zc (l,{},()) rfl h,Zb (l,{},()) rfl (Zl (Wu _ _))⟩
theorem UE(d:Df):Dh d.n d.ks=encL (d.body,()):=ZP d.n d.ks
theorem b3c: ∀ x:Df×Unit,dW x.1=true->Zd RB 0 (Za Al (Zf (ZK x.1))) Mt [] (Zx c0l (encL x)):=by
 rintro⟨d,⟨⟩⟩ h
 have b:=dfB h
 have e:(fun x:List Pm×FnV 33×Unit=>decide (x.1.length<=1048576)&&x.1.all pW) (d.ps,{},())=true:=by
  show(decide (d.ps.length<=1048576)&&d.ps.all pW)=true
  rw[decide_eq_true b.ps,List.all_eq_true.2 b.pw];rfl
 show Zd RB 0 (Za Al (Zf (ZK d))) _ _ _
 refine c5w d ⟨Zc ([d.name],()) rfl (Ht b.name),Zb ([d.name],()) rfl (YV (fun h1=>ZO (fun h2=>⟨Zc (d.given,d.res,()) rfl b.res,Zb (d.given,d.res,()) rfl (YV (fun h3=>⟨Zc (d.body,()) (UE d) b.body,Zb (d.body,()) (UE d) (YV (fun a=>⟨Zc (d.ps,{},()) rfl e,Zb (d.ps,{},()) rfl (Zl ?_)⟩) fun a=>Zl ?_)⟩) fun h3=>Zl ?_)⟩) fun h2=>Zl ?_) fun h1=>Zl ?_)⟩
 ·have h1:nameI d.name.s=true:=(Jf d.name).symm.trans h1
  have h3:Yy d.given d.res=true:=h3
  have a:YK d.body=true:=a
  show(!(d.ps.any fun p=> !(BJ p)))=ZK d
  unfold ZK
  rw[TR,h1,h3,a,decide_eq_true (show d.ps.length<=8 by rw[List.length_map]at h2;omega)];rfl
 ·have a:YK d.body=false:=a
  unfold ZK;rw[a,Bool.and_false];rfl
 ·have h3:Yy d.given d.res=false:=h3
  unfold ZK;rw[h3,Bool.and_false];rfl
 ·unfold ZK;rw[decide_eq_false (show ¬ d.ps.length<=8 by rw[List.length_map]at h2;omega),Bool.and_false];rfl
 ·have h1:nameI d.name.s=false:=(Jf d.name).symm.trans h1
  unfold ZK;rw[h1];rfl
theorem a9f: ∀ x:Bool×TyS×Unit,yW x.2.1=true->Zd a4h 0 (Za ME (Zf (⟨Js x.1 x.2.1⟩:Str))) Lr [] (Zx c2c (encL x)):=by
 rintro⟨b,t,⟨⟩⟩ h
 have:=TP t
 refine c6e b t (YY (fun hb=>Zg (x:=(⟨[]⟩:Str)) ?_) fun hb=>⟨Zc (t,()) rfl h,Zb (t,()) rfl ⟨Zj (by show 2+(Jc t).1.s.length<=_;omega),Zg (x:=(⟨[58,32]++(Jc t).1.s⟩:Str)) ?_⟩⟩)
 ·show _=(⟨Js b t⟩:Str)
  unfold Js;rw[hb];rfl
 ·show _=(⟨Js b t⟩:Str)
  unfold Js;rw[hb];rfl
theorem e1o: ∀ x:Pm×Unit,pW x.1=true->Zd d6y 0 (Za b4z (Zf (⟨pmT x.1⟩:Str))) b7n [] (Zx e3o (encL x)):=by
 rintro⟨p,⟨⟩⟩ h
 have a:=CW (p:=p) h
 have:=RO p.given p.ty
 exact f8r p ⟨Zc (p.given,p.ty,()) rfl a.2,Zb (p.given,p.ty,()) rfl ⟨Zj (by show p.name.s.length+(Js p.given p.ty).length<=_;omega),Zg (x:=(⟨p.name.s++Js p.given p.ty⟩:Str)) rfl⟩⟩
theorem c3c(l:List Pm)(hl:l.length<=1048576)(j : ∀ x∈l,pW x=true)(k:YL (l.map Nt)=true): ∀ (d i:Nat),d+i=l.length ->
  At Si 0 (Za Gq (Zf (Yi (l.map Nt)))) Ga 0 27 [(1,.pv (.fn 35)),(5,.row 0 l.length 0 l.length),(11,.pv (enc l)),(12,.pv (.int .i64 l.length)),(13,.pv (.int .i64 i))] [.obj (.row false 9 1 ((Dt (l.map Nt) i).map enc))]:=by
 intro d
 induction d with
 | zero=>
  intro i hi
  have g:i=l.length:=by omega
  subst g
  have e:Dt (l.map Nt) l.length=l.map Nt:=by have:=T9 (l.map Nt);rw[List.length_map]at this;exact this
  rw[e]
  have b:=Az (m:=l.map Nt)
  rw[List.length_map]at b
  refine b4i l _ _ (ZU (Yx (by omega)) ⟨by simp,?_⟩)
  rw[b]
  exact⟨Zc (l.map Nt,()) rfl k,Zb (l.map Nt,()) rfl (Zg rfl)⟩
 | succ d ih=>
  intro i hi
  have a:i<l.length:=by omega
  have ho:(Dt (l.map Nt) i).length=l.length:=by rw[Rj _ _ (by rw[List.length_map];omega),List.length_map]
  refine b4i l _ _ (ZT (Yt a) ⟨Zq a rfl,ZB a ⟨Zc (l[i],()) rfl (j _ (List.getElem_mem a)),Zb (l[i],()) rfl ⟨FY a ho,Og a ho,?_⟩⟩⟩)
  have e:(Dt (l.map Nt) i).set i (Nt l[i])=Dt (l.map Nt) (i+1):=by
   have:=TD (m:=l.map Nt) (i:=i) (by rw[List.length_map];exact a)
   rw[List.getElem_map]at this
   exact this
  have b:=FD (o:=Dt (l.map Nt) i) (i:=i) (by omega) (Nt l[i])
  rw[e]at b
  rw[next (by omega)]
  have h:=ih (i+1) (by omega)
  rw[<- b]at h
  exact h
theorem g1f(l:List Pm):(Yi (l.map Nt)).s=Zv (l.map pmT):=by unfold Yi;rw[List.map_map];rfl
theorem d1v: ∀ x:List Pm×FnV 35×Unit,(decide (x.1.length<=8)&&x.1.all pW)=true->Zd Si 0 (Za Gq (Zf (Yi (x.1.map Nt)))) Ga [] (Zx e8z (encL x)):=by
 rintro⟨l,g,⟨⟩⟩ h
 simp only[Bool.and_eq_true,decide_eq_true_eq,List.all_eq_true]at h
 have h1:l.length<=8:=h.1
 have a:YL (l.map Nt)=true:=by
  have h2:=b5t h1 h.2
  unfold YL
  rw[decide_eq_true (by rw[List.length_map];omega),Bool.true_and]
  refine decide_eq_true ?_
  rw[List.map_map]
  exact Nat.le_trans h2 (by omega)
 refine f7b l ⟨by rw[List.length_map];exact b9d _ (by omega),?_⟩
 have:=c3c l (by omega) h.2 a l.length 0 (by omega)
 rw[CB,List.map_replicate,List.length_map]at this
 rw[List.length_map,Int.toNat_natCast]
 exact this
theorem c1s: ∀ x:Df×Unit,(dW x.1&&ZK x.1)=true->Zd b6x 0 (Za a2i (Zf (UQ x.1))) a6b [] (Zx d5d (encL x)):=by
 rintro⟨d,⟨⟩⟩ h
 simp only[Bool.and_eq_true]at h
 obtain⟨h,e⟩:=h
 have h:dW d=true:=h
 have e:ZK d=true:=e
 have i:=dfB h
 have g:=AC h e
 unfold ZK at e
 simp only[Bool.and_eq_true,decide_eq_true_eq]at e
 have l:(fun x:List Pm×FnV 35×Unit=>decide (x.1.length<=8)&&x.1.all pW) (d.ps,{},())=true:=by
  show(decide (d.ps.length<=8)&&d.ps.all pW)=true
  rw[decide_eq_true e.1.1.1.2,List.all_eq_true.2 i.pw];rfl
 have m:Z9 d.body=true:=JN (by have:=e.1.2;unfold YK at this;rw[Bool.and_eq_true]at this;exact this.1)
 have j:=g1f d.ps
 unfold KQ at g
 rw[<- j]at g
 simp only[List.length_append,List.length_cons,List.length_nil]at g
 have k:(fun x:Tm×Unit=>tW x.1&&Z9 x.1) (d.body,())=true:=by show(tW d.body&&Z9 d.body)=true;rw[i.body,m];rfl
 have L : ∀ a b:List UInt8,a.length+b.length<=1200000000->a.length+b.length<=1099511627776:=fun a b h=>by omega
 refine e5f d ⟨Zc (d.ps,{},()) rfl l,Zb (d.ps,{},()) rfl ⟨Zj (L _ _ ?_),Zj (L _ _ ?_),Zj (L _ _ ?_),Zj (L _ _ ?_),Zc (d.given,d.res,()) rfl i.res,Zb (d.given,d.res,()) rfl ⟨Zj (L _ _ ?_),Zj (L _ _ ?_),Zc (d.body,()) (UE d) k,Zb (d.body,()) (UE d) ⟨Zj (L _ _ ?_),Zg (x:=(⟨_⟩:Str)) ?_⟩⟩⟩⟩
 case refine_8=>
  show(⟨_⟩:Str)=UQ d
  unfold UQ KQ
  rw[<- j]
  rfl
 all_goals
  show List.length (_:List UInt8)+List.length (_:List UInt8)<=_
  simp only[List.length_append,List.length_cons,List.length_nil,Zt]
  omega
theorem d5g: ∀ x:Df×Unit,dW x.1=true->Zd d7e 0 (Za b7t (Zf (DC x.1))) b6z [] (Zx e9r (encL x)):=by
 rintro⟨d,⟨⟩⟩ h
 have h:dW d=true:=h
 refine f4n d ⟨Zc (d,()) rfl h,Zb (d,()) rfl (YY (fun a=> ?_) fun a=>⟨Zc (d,()) rfl ?_,Zb (d,()) rfl (Zb (UQ d,()) rfl ?_)⟩)⟩
 ·have a:ZK d=false:=a
  exact Zg (x:=((⟨[]⟩,1):Str×Int)) (by show _=DC d;unfold DC;rw[a];rfl)
 ·have a:ZK d=true:=a
  show(dW d&&ZK d)=true
  rw[h,a];rfl
 ·have a:ZK d=true:=a
  exact Zg (x:=Qn (UQ d)) (by show _=DC d;unfold DC;rw[a];rfl)
theorem b4m(r:Str)(l:List Lin)(j:KU r l=true): ∀ (d i:Nat) (o:List Str),d+i=l.length->o.map (·.s)++(l.drop i).map ZE=J5 r l ->
  At Uy 0 (Za Ve (Zf (⟨QM r l⟩:Str))) VT 0 32 [(3,.row 0 o.length 0 o.length),(16,.pv (enc l)),(17,.pv (.int .i64 l.length)),(18,.pv (.int .i64 i))] [.obj (.row false 9 1 (o.map enc))]:=by
 have m:=Bb j
 have h6:l.length<=6:=by unfold KU at j;simp only[Bool.and_eq_true,decide_eq_true_eq]at j;exact j.1.2
 have k : ∀ x∈l,Zh x=true:=by unfold KU at j;simp only[Bool.and_eq_true]at j;exact List.all_eq_true.1 j.2
 have b:(J5 r l).length<=7:=by unfold J5;rw[List.length_append,List.length_map];split <;> simp <;> omega
 unfold QM at m
 rw[List.length_append,List.length_append]at m
 intro d
 induction d with
 | zero=>
  intro i o hi g
  rw[List.drop_eq_nil_of_le (by omega),List.map_nil,List.append_nil]at g
  have ho:o.length<=7:=by rw[<- g,List.length_map]at b;exact b
  have e:Yi o=⟨Zv (J5 r l)⟩:=by unfold Yi;rw[g]
  refine MR r l i o.length o (ZU (Yx (by omega)) ⟨by simp,?_⟩)
  rw[Az]
  refine⟨Zc (o,(⟨[44,32]⟩:Str),()) rfl ?_,Zb (o,(⟨[44,32]⟩:Str),()) rfl ?_⟩
  ·show(YL o&&decide _)=true
   unfold YL
   rw[decide_eq_true (show o.length<=1048576 by omega),g,decide_eq_true (show(Zv (J5 r l)).length<=_ by omega),decide_eq_true rfl];rfl
  ·rw[show Yi ((o,(⟨[44,32]⟩:Str),()):List Str×Str×Unit).1=⟨Zv (J5 r l)⟩from e]
   exact⟨Zj (by show 1+(Zv (J5 r l)).length<=_;omega),Zj (by rw[List.length_append];show 1+(Zv (J5 r l)).length+1<=_;omega),Zg (x:=(⟨[91]++Zv (J5 r l)++[93]⟩:Str)) rfl⟩
 | succ d ih=>
  intro i o hi g
  have a:i<l.length:=by omega
  have ho:o.length<=7:=by rw[<- g,List.length_append,List.length_map]at b;omega
  have h:=ih (i+1) (o++[⟨ZE l[i]⟩]) (by omega) (by rw[<- g,List.drop_eq_getElem_cons a,List.map_append,List.map_cons,List.append_assoc];rfl)
  rw[List.length_append,List.map_append]at h
  refine MR r l i o.length o (ZT (Yt a) ⟨Zq a rfl,ZB a ⟨Zc (l[i],()) rfl (Us (k _ (List.getElem_mem a))),Zb (l[i],()) rfl ⟨?_,?_⟩⟩⟩)
  ·show(List.length (List.map (enc:Str->PV) o)==o.length&&o.length==o.length&&decide ((o.length+1)*16<=1099511627776)&&decide (o.length+1<=1099511627776))=true
   rw[List.length_map,decide_eq_true (by omega),decide_eq_true (by omega)];simp
  ·rw[next (by omega)]
   exact h
theorem c1j: ∀ x:Sp×Unit,KU x.1.row x.1.dims=true->Zd Uy 0 (Za Ve (Zf (⟨QM x.1.row x.1.dims⟩:Str))) VT [] (Zx d0o (encL x)):=by
 rintro⟨⟨r,l⟩,⟨⟩⟩ b
 have b:KU r l=true:=b
 show Zd Uy 0 (Za Ve (Zf (⟨QM r l⟩:Str))) _ _ _
 have h6:l.length<=6:=by unfold KU at b;simp only[Bool.and_eq_true,decide_eq_true_eq]at b;exact b.1.2
 have i : ∀ x∈l,Zh x=true:=by unfold KU at b;simp only[Bool.and_eq_true]at b;exact List.all_eq_true.1 b.2
 have hr:r.s.length<=40∨r.s=[]:=by
  unfold KU at b
  simp only[Bool.and_eq_true,Bool.or_eq_true,decide_eq_true_eq]at b
  rcases b.1.1 with h|h
  ·exact .inr h
  ·have:=Vh h;exact .inl (by omega)
 refine e9s r l (AJ (fun e=>⟨Zj (by have:=hr.resolve_right e;show r.s.length+2<=_;omega),?_⟩) fun e=> ?_)
 ·rw[List.length_map]
  exact b4m r l b l.length 0 [⟨r.s++[46,46]⟩] (by omega) (by unfold J5;rw[if_neg e];rfl)
 ·rw[List.length_map]
  cases l with
  | nil=>
   refine LK r [] (0:Nat) (ZU (by simp) (a7v ([],(⟨[44,32]⟩:Str),()) rfl ⟨Zj (by decide),Zj (by decide),Zg (x:=(⟨[91]++[]++[93]⟩:Str)) ?_⟩))
   have e:r.s=[]:=e
   unfold QM J5
   rw[if_pos e];rfl
  | cons a t=>
   have g:0<(a::t).length:=by simp
   refine LK r (a::t) (0:Nat) (ZT (Yt g) ⟨Zq g rfl,ZB g ⟨Zc (a,()) rfl (Us (i _ (by simp))),Zb (a,()) rfl ?_⟩⟩)
   rw[next (by omega)]
   exact b4m r (a::t) b t.length 1 [⟨ZE a⟩] (by simp) (by have e:r.s=[]:=e;unfold J5;rw[if_pos e];rfl)
theorem d2c: ∀ l:List (List UInt8),l≠[]->EE l++[10]=Qo l
 | [],h=>absurd rfl h
 | [s],_=>by simp[EE,Qo]
 | s::t::r,_=>by
  have h:=d2c (t::r) (by simp)
  unfold Qo at h ⊢
  rw[EE,List.flatMap_cons,<- h,List.append_assoc]
  simp
theorem d6v: ∀ l:List (List UInt8),(EE l).length<=(l.map fun s=>s.length+1).sum
 | []=>Nat.le_refl _
 | [s]=>by simp[EE]
 | s::t::r=>by
  have h:=d6v (t::r)
  have e:EE (s::t::r)=s++[10]++EE (t::r):=by rw[EE];simp
  rw[e,List.length_append,List.length_append,List.map_cons,List.sum_cons]
  simp only[List.length_cons,List.length_nil]
  omega
theorem c2q(m:Mdu)(q:mW m=true)(h60:m.ds.length<=60)(R:Str×Int): ∀ (d i:Nat) (o:List Str),d+i=m.ds.length->1<=o.length->o.length<=3+i->(∀ s∈o,s.s.length<=1200000000) ->
  R=(if (m.ds.drop i).all ZK then Qn ⟨Qo (o.map (·.s)++(m.ds.drop i).map KQ)⟩else(⟨[]⟩,1)) ->
  At QN 0 (Za VX (Zf R)) UF 0 90 [(4,.row 0 o.length 0 o.length),(69,.pv (enc m.ds)),(70,.pv (.int .i64 m.ds.length)),(71,.pv (.int .i64 i))] [.obj (.row false 9 1 (o.map enc))]:=by
 have k:=mdB q
 intro d
 induction d with
 | zero=>
  intro i o hi h1 ho hs b
  rw[List.drop_eq_nil_of_le (by omega),List.map_nil,List.append_nil,List.all_nil,if_pos rfl]at b
  have hn:=d6v (o.map (·.s))
  have j:=Qx (f:=fun s:List UInt8=>s.length+1) (c:=1200000001) (l:=o.map (·.s)) fun s g=>by
   obtain⟨y,r,rfl⟩:=List.mem_map.1 g
   have:=hs y r
   show y.s.length+1<=_
   omega
  rw[List.length_map]at j
  have hle:(EE (o.map (·.s))).length<=80000000000:=by
   have:1200000001*o.length<=1200000001*63:=Nat.mul_le_mul_left _ (by omega)
   omega
  refine b7p m i o.length o (ZU (Yx (by omega)) ⟨by simp,?_⟩)
  rw[Az]
  refine⟨Zc (o,(⟨[10]⟩:Str),()) rfl ?_,Zb (o,(⟨[10]⟩:Str),()) rfl ⟨Zj (by show(EE (o.map (·.s))).length+1<=_;omega),Zb ((⟨EE (o.map (·.s))++[10]⟩:Str),()) rfl ?_⟩⟩
  ·show(RG o&&decide _)=true
   unfold RG
   rw[decide_eq_true (show o.length<=1048576 by omega),decide_eq_true (show(EE (o.map (·.s))).length<=_ by omega),decide_eq_true rfl];rfl
  ·refine Zg (x:=Qn ⟨EE (o.map (·.s))++[10]⟩) ?_
   rw[b,d2c _ (fun e=>by have:=congrArg List.length e;simp at this;subst this;simp at h1)]
 | succ d ih=>
  intro i o hi h1 ho hs b
  have a:i<m.ds.length:=by omega
  have hd:=k.ds _ (List.getElem_mem a)
  rw[List.drop_eq_getElem_cons a,List.all_cons]at b
  refine b7p m i o.length o (ZT (Yt a) ⟨Zq a rfl,ZB a ⟨Zc (m.ds[i],()) rfl hd,Zb (m.ds[i],()) rfl (YY (fun hb=> ?_) fun hb=>⟨Zc (m.ds[i],()) rfl ?_,Zb (m.ds[i],()) rfl ⟨?_,?_⟩⟩)⟩⟩)
  ·have hb:ZK m.ds[i]=false:=hb
   rw[hb]at b
   exact Zg (x:=((⟨[]⟩,1):Str×Int)) b.symm
  ·have hb:ZK m.ds[i]=true:=hb
   show(dW m.ds[i]&&ZK m.ds[i])=true
   rw[hd,hb];rfl
  ·show(List.length (List.map (enc:Str->PV) o)==o.length&&o.length==o.length&&decide ((o.length+1)*16<=1099511627776)&&decide (o.length+1<=1099511627776))=true
   rw[List.length_map,decide_eq_true (by omega),decide_eq_true (by omega)];simp
  ·have hb:ZK m.ds[i]=true:=hb
   rw[hb,Bool.true_and]at b
   have h:=ih (i+1) (o++[UQ m.ds[i]]) (by omega) (by rw[List.length_append];omega) (by rw[List.length_append];show o.length+1<=_;omega)
    (fun s g=>by
     rcases List.mem_append.1 g with g|g
     ·exact hs s g
     ·rw[List.mem_singleton.1 g];exact AC hd hb)
    (by rw[b,List.map_append,List.map_cons,List.append_assoc];rfl)
   rw[List.length_append,List.map_append]at h
   rw[next (by omega)]
   exact h
theorem GD{l:List Str}{n:Nat}(hn:l.length<=n)(hc:n<=1000)(h:(l.all fun s=>nameI s.s)=true):(Zv (l.map (·.s))).length<=40000:=by
 have h1:=YU (l.map (·.s))
 have h2:=Qx (f:=fun s:List UInt8=>s.length+2) (c:=32) (l:=l.map (·.s)) fun s hs=>by
  obtain⟨y,a,rfl⟩:=List.mem_map.1 hs
  have:=(Xl (List.all_eq_true.1 h y a)).2.2
  show y.s.length+2<=_
  omega
 rw[List.length_map]at h2
 omega
theorem Nq{l:List Str}{n:Nat}(hn:l.length<=n)(hc:n<=1000)(h:(l.all fun s=>nameI s.s)=true):YL l=true:=by
 have:=GD hn hc h
 unfold YL
 rw[decide_eq_true (by omega),decide_eq_true (by omega)];rfl
theorem BB{l:List Str}(h1:l.length<=1048576)(h2 : ∀ s∈l,s.s.length<=1048576):Xh l=true:=by
 unfold Xh
 rw[decide_eq_true h1,Bool.true_and,List.all_eq_true]
 exact fun s hs=>decide_eq_true (h2 s hs)
theorem d9q: ∀ x:Mdu×Unit,mW x.1=true->Zd QN 0 (Za VX (Zf (JL x.1))) UF [] (Zx e2y (encL x)):=by
 rintro⟨m,⟨⟩⟩ r
 have j:=mdB r
 have r:mW m=true:=r
 show Zd QN 0 (Za VX (Zf (JL m))) _ _ _
 have bad:VZ m=false->Zf (JL m) (.tup [.str [],.int .i64 1]):=fun h=>Zg (x:=((⟨[]⟩,1):Str×Int)) (by unfold JL;rw[h];rfl)
 refine f8e m ⟨Zc ([m.name],()) rfl (Ht j.name),Zb ([m.name],()) rfl (YY (fun h1=>bad ?_) fun h1=>⟨Zc (m.im,()) rfl (BB j.iml j.im),Zb (m.im,()) rfl (YY (fun h2=>bad ?_) fun h2=>⟨Zc (m.ex,()) rfl (BB j.exl j.ex),Zb (m.ex,()) rfl (YY (fun h3=>bad ?_) fun h3=>ZO (fun B=>bad ?_) fun B=>ZO (fun A=>bad ?_) fun A=>ZO (fun y=>bad ?_) fun y=> ?_)⟩)⟩)⟩
 ·have h1:nameI m.name.s=false:=(Jf m.name).symm.trans h1
  unfold VZ;rw[h1];rfl
 ·have h2:(m.im.all fun s=>nameI s.s)=false:=h2
  unfold VZ;rw[h2,Bool.and_false];rfl
 ·have h3:(m.ex.all fun s=>nameI s.s)=false:=h3
  unfold VZ;rw[h3,Bool.and_false];rfl
 ·rw[List.length_map]at B
  unfold VZ;rw[decide_eq_false (show ¬ m.im.length<=20 by omega),Bool.and_false];rfl
 ·rw[List.length_map]at A
  unfold VZ;rw[decide_eq_false (show ¬ m.ex.length<=60 by omega),Bool.and_false];rfl
 ·rw[List.length_map]at y
  unfold VZ;rw[decide_eq_false (show ¬ m.ds.length<=60 by omega),Bool.and_false]
 ·have h1:nameI m.name.s=true:=(Jf m.name).symm.trans h1
  have h2:(m.im.all fun s=>nameI s.s)=true:=h2
  have h3:(m.ex.all fun s=>nameI s.s)=true:=h3
  rw[List.length_map]at B A y
  have l1:=(Xl h1).2.2
  have F:VZ m=true:=by unfold VZ;rw[h1,h2,h3,decide_eq_true (by omega),decide_eq_true (by omega),decide_eq_true (by omega)];rfl
  have c2:=GD (n:=20) (by omega) (by omega) h2
  have c3:=GD (n:=60) (by omega) (by omega) h3
  have g : ∀ o:List Str,o.map (·.s)=[e9n++[32]++m.name.s]++Kn Ae m.im++Kn Tx m.ex->1<=o.length->o.length<=3->(∀ s∈o,s.s.length<=1200000000) ->
    At QN 0 (Za VX (Zf (JL m))) UF 0 90 [(4,.row 0 o.length 0 o.length),(69,.pv (enc m.ds)),(70,.pv (.int .i64 m.ds.length)),(71,.pv (.int .i64 ((0:Nat):Int)))] [.obj (.row false 9 1 (o.map enc))]:=fun o ho h1 h2 h3=>
   c2q m r (by omega) (JL m) m.ds.length 0 o (by omega) h1 (by omega) h3 (by unfold JL f4t a7u;rw[F,Bool.true_and,List.drop_zero,ho])
  refine⟨Zj (by show 7+m.name.s.length<=_;omega),?_⟩
  rw[List.length_map,List.length_map,List.length_map]
  have q : ∀ s:Str,s=⟨[109,111,100,117,108,101,32]++m.name.s⟩->s.s.length<=1200000000:=fun s e=>by rw[e];simp only[e9n,List.length_append,List.length_cons,List.length_nil];omega
  have E : ∀ s:Str,s=⟨[105,109,112,111,114,116,32]++Zv (m.im.map (·.s))⟩->s.s.length<=1200000000:=fun s e=>by rw[e];simp only[Ae,List.length_append,List.length_cons,List.length_nil];omega
  have C : ∀ s:Str,s=⟨[101,120,112,111,114,116,32]++Zv (m.ex.map (·.s))⟩->s.s.length<=1200000000:=fun s e=>by rw[e];simp only[Tx,List.length_append,List.length_cons,List.length_nil];omega
  have k : ∀ w:List UInt8,Kn w []=[]:=fun w=>rfl
  have u : ∀ (w:List UInt8) (l:List Str),l≠[]->Kn w l=[w++[32]++Zv (l.map (·.s))]:=fun w l h=>by unfold Kn;rw[if_neg h]
  have H:m.im≠[]->(fun x:List Str×Unit=>YL x.1) (m.im,())=true:=fun _=>by show YL m.im=true;exact Nq (n:=20) (by omega) (by omega) h2
  have D:m.ex≠[]->(fun x:List Str×Unit=>YL x.1) (m.ex,())=true:=fun _=>by show YL m.ex=true;exact Nq (n:=60) (by omega) (by omega) h3
  have z : ∀ {l:List Str},¬ ((l.length:Nat):Int)>0->l=[]:=fun {l} h=>List.length_eq_zero_iff.1 (by omega)
  have i : ∀ {l:List Str},((l.length:Nat):Int)>0->l≠[]:=fun {l} h e=>by subst e;simp at h
  refine ZO (fun a=>⟨Zc (m.im,()) rfl (H (i a)),Zb (m.im,()) rfl ⟨Zj (by show 7+(Zv (m.im.map (·.s))).length<=_;omega),ZO (fun b=>⟨Zc (m.ex,()) rfl (D (i b)),Zb (m.ex,()) rfl ⟨Zj (by show 7+(Zv (m.ex.map (·.s))).length<=_;omega),?_⟩⟩) fun b=> ?_⟩⟩) fun a=>ZO (fun b=>⟨Zc (m.ex,()) rfl (D (i b)),Zb (m.ex,()) rfl ⟨Zj (by show 7+(Zv (m.ex.map (·.s))).length<=_;omega),?_⟩⟩) fun b=> ?_
  ·refine id (g [⟨[109,111,100,117,108,101,32]++m.name.s⟩,⟨[105,109,112,111,114,116,32]++Zv (m.im.map (·.s))⟩,⟨[101,120,112,111,114,116,32]++Zv (m.ex.map (·.s))⟩] (by rw[u _ _ (i a),u _ _ (i b)];rfl) (by simp) (by simp) fun s hs=> ?_)
   simp only[List.mem_cons,List.not_mem_nil,or_false]at hs
   rcases hs with hs|hs|hs
   ·exact q s hs
   ·exact E s hs
   ·exact C s hs
  ·refine id (g [⟨[109,111,100,117,108,101,32]++m.name.s⟩,⟨[105,109,112,111,114,116,32]++Zv (m.im.map (·.s))⟩] (by rw[u _ _ (i a),z b,k];rfl) (by simp) (by simp) fun s hs=> ?_)
   simp only[List.mem_cons,List.not_mem_nil,or_false]at hs
   rcases hs with hs|hs
   ·exact q s hs
   ·exact E s hs
  ·refine id (g [⟨[109,111,100,117,108,101,32]++m.name.s⟩,⟨[101,120,112,111,114,116,32]++Zv (m.ex.map (·.s))⟩] (by rw[z a,k,u _ _ (i b)];rfl) (by simp) (by simp) fun s hs=> ?_)
   simp only[List.mem_cons,List.not_mem_nil,or_false]at hs
   rcases hs with hs|hs
   ·exact q s hs
   ·exact C s hs
  ·refine id (g [⟨[109,111,100,117,108,101,32]++m.name.s⟩] (by rw[z a,z b,k,k];rfl) (by simp) (by simp) fun s hs=> ?_)
   exact q s (List.mem_singleton.1 hs)
theorem b9j{a b:UInt8}(h:a.toNat<=b.toNat):a<=b:=UInt8.le_iff_toNat_le.2 h
theorem b3w{a b:UInt8}(h:a<=b):a.toNat<=b.toNat:=UInt8.le_iff_toNat_le.1 h
theorem g6b{s:List UInt8}{i:Nat}(h:i<s.length):s.getD (Int.toNat (i:Int)) 0=s[i]:=by rw[Int.toNat_natCast,List.getD_eq_getElem?_getD,List.getElem?_eq_getElem h];rfl
theorem b1x(c:UInt8)(r:List UInt8)(hl:r.length<=1048576)(R:Bool): ∀ (d i:Nat),d+i=r.length+1->1<=i->R=(decide (65<=c)&&decide (c<=90)&&((c::r).drop i).all digB&&decide (r.length<=29)) ->
  At JV 0 (Za QO (Zf R)) QG 0 38 [(0,.pv (.str (c::r))),(3,.pv (.int .i64 i))] []:=by
 intro d
 induction d with
 | zero=>
  intro i hi h1 b
  rw[List.drop_eq_nil_of_le (by rw[List.length_cons];omega),List.all_nil,Bool.and_true]at b
  refine Rs (c::r) i (ZU (Yx (by rw[List.length_cons];omega)) (ZT (decide_eq_true (by rw[List.length_cons];omega)) (ZO (fun h2=>⟨by simp,ZO (fun h3=>⟨by simp,Zl ?_⟩) fun h3=>Zl ?_⟩) fun h2=>Zl ?_)))
  ·rw[List.length_cons]at h2
   have h3:(c.toNat:Int) ≥ 65:=h3
   rw[b,decide_eq_true (show(65:UInt8)<=c from b9j (by show 65<=c.toNat;omega)),decide_eq_true (show r.length<=29 by omega),Bool.and_true,Bool.true_and]
   show decide ((c.toNat:Int)<=90)=_
   exact decide_eq_decide.2 ⟨fun h=>b9j (by show c.toNat<=90;omega),fun h=>by have:c.toNat<=90:=b3w h;omega⟩
  ·have h3 : ¬ (c.toNat:Int) ≥ 65:=h3
   rw[b,decide_eq_false (fun k:(65:UInt8)<=c=>by have:65<=c.toNat:=b3w k;omega)];rfl
  ·rw[List.length_cons]at h2
   rw[b,decide_eq_false (show ¬ r.length<=29 by omega),Bool.and_false]
 | succ d ih=>
  intro i hi h1 b
  have a:i<(c::r).length:=by rw[List.length_cons];omega
  have e:(decide (0<=(i:Int))&&decide (Int.toNat (i:Int)<List.length (c::r)))=true:=by simp at a ⊢;omega
  have g:=g6b a
  rw[List.drop_eq_getElem_cons a,List.all_cons]at b
  refine Rs (c::r) i (ZT (Yt a) ⟨e,ZO (fun h2=>Zl ?_) fun h2=>⟨e,ZO (fun h3=>Zl ?_) fun h3=> ?_⟩⟩)
  ·rw[g]at h2
   have:digB (c::r)[i]=false:=by unfold digB;rw[decide_eq_false (fun k:(48:UInt8)<=(c::r)[i]=>by have:48<=(c::r)[i].toNat:=b3w k;omega)];rfl
   rw[b,this,Bool.false_and,Bool.and_false];rfl
  ·rw[g]at h3
   have:digB (c::r)[i]=false:=by unfold digB;rw[decide_eq_false (fun k:(c::r)[i]<=(57:UInt8)=>by have:(c::r)[i].toNat<=57:=b3w k;omega),Bool.and_false]
   rw[b,this,Bool.false_and,Bool.and_false];rfl
  ·rw[g]at h2 h3
   have:digB (c::r)[i]=true:=by unfold digB;rw[decide_eq_true (show(48:UInt8)<=(c::r)[i]from b9j (by show 48<=(c::r)[i].toNat;omega)),decide_eq_true (show(c::r)[i]<=(57:UInt8)from b9j (by show(c::r)[i].toNat<=57;omega))];rfl
   rw[next (by omega)]
   exact ih (i+1) (by omega) (by omega) (by rw[b,this,Bool.true_and])
theorem c2e: ∀ x:Str×Unit,decide (x.1.s.length<=1048576)=true->Zd JV 0 (Za QO (Zf (evB x.1.s))) QG [] (Zx d2y (encL x)):=by
 rintro⟨⟨s⟩,⟨⟩⟩ h
 cases s with
 | nil=>
  refine b6c [] ?_
  show At JV 0 (Za QO (Zf (evB []))) QG 0 38 [(0,.pv (.str [])),(3,.pv (.int .i64 ((1:Nat):Int)))] []
  exact Rs [] (1:Nat) (ZU (by decide) (ZU (by decide) (Zl rfl)))
 | cons c r=>
  have hl:r.length+1<=1048576:=of_decide_eq_true h
  refine b6c (c::r) ?_
  exact b1x c r (by omega) _ r.length 1 (by omega) (by omega) rfl
theorem b9z: ∀ x:Str×Unit,decide (x.1.s.length<=1048576)=true->Zd b8a 0 (Za a2v (Zf (Mw x.1.s))) a6n [] (Zx d8l (encL x)):=by
 rintro⟨⟨s⟩,⟨⟩⟩ h
 refine e5o s (Zy (fun h1=>Zl ?_) fun h1=>Zy (fun h2=>Zl ?_) fun h2=>⟨Zc ((⟨s⟩:Str),()) rfl h,Zb ((⟨s⟩:Str),()) rfl (Zl ?_)⟩)
 ·show true=Mw s
  unfold Mw;rw[show s=Xa from h1];rfl
 ·show true=Mw s
  unfold Mw;rw[show s=YM from h2];rfl
 ·show evB s=Mw s
  unfold Mw;rw[decide_eq_false (show ¬ s=Xa from h1),decide_eq_false (show ¬ s=YM from h2)];rfl
theorem e6l{l:Lin}(h:Xz l=true):XM l=true:=by unfold Xz at h;rw[Bool.and_eq_true]at h;exact h.1
theorem b0v(r:Str)(l:List Lin)(hl:l.length<=1048576)(hb : ∀ x∈l,Xz x=true)(R:Bool): ∀ (d i:Nat),d+i=l.length->R=((decide (r.s=[])||nameB r)&&decide (l.length<=6)&&(l.drop i).all Zh) ->
  At Gp 0 (Za KP (Zf R)) KC 0 32 [(1,.ptr 0 0),(3,.pv (.int .i64 i))] [.obj (.box [.pv (.str r.s),.pv (.sl 2 false (l.map enc))])]:=by
 intro d
 induction d with
 | zero=>
  intro i hi b
  rw[List.drop_eq_nil_of_le (by omega),List.all_nil,Bool.and_true]at b
  refine a1f r l i (ZU (XO (by omega)) (ZO (fun h1=>Zy (fun h2=>Zl ?_) fun h2=>Zb (r,()) rfl (Zl ?_)) fun h1=>Zl ?_))
  ·rw[List.length_map]at h1
   rw[b,decide_eq_true h2,decide_eq_true (show l.length<=6 by omega)];rfl
  ·rw[List.length_map]at h1
   rw[b,decide_eq_false h2,decide_eq_true (show l.length<=6 by omega),Bool.and_true];rfl
  ·rw[List.length_map]at h1
   rw[b,decide_eq_false (show ¬ l.length<=6 by omega),Bool.and_false]
 | succ d ih=>
  intro i hi b
  have a:i<l.length:=by omega
  rw[List.drop_eq_getElem_cons a,List.all_cons]at b
  refine a1f r l i (ZT (Xq a) ⟨Zq a rfl,ZB a ⟨Zc (l[i],()) rfl (e6l (hb _ (List.getElem_mem a))),Zb (l[i],()) rfl (YY (fun h1=>Zl ?_) fun h1=> ?_)⟩⟩)
  ·have h1:Zh l[i]=false:=h1
   rw[b,h1,Bool.false_and,Bool.and_false]
  ·have h1:Zh l[i]=true:=h1
   rw[next (by omega)]
   exact ih (i+1) (by omega) (by rw[b,h1,Bool.true_and])
theorem c1g: ∀ x:Sp×Unit,Nw x.1=true->Zd Gp 0 (Za KP (Zf (KU x.1.row x.1.dims))) KC [] (Zx e1y (encL x)):=by
 rintro⟨⟨r,l⟩,⟨⟩⟩ h
 have a:=spB h
 refine e4v r l ?_
 exact b0v r l a.len (List.all_eq_true.1 a.lin) _ l.length 0 (by omega) (by rw[List.drop_zero];rfl)
def jnO:List UInt8->List (List UInt8)->List UInt8
 | o,[]=>o
 | o,s::r=>jnO (if o=[]then s else o++[44,32]++s) r
theorem b9r(a b:List UInt8): ∀ r:List (List UInt8),Zv ((a++b)::r)=a++Zv (b::r)
 | []=>rfl
 | c::r=>by rw[Hg,Hg,List.append_assoc,List.append_assoc,List.append_assoc]
theorem b1h: ∀ (l:List (List UInt8)) (o:List UInt8),o≠[]->jnO o l=Zv (o::l)
 | [],o,_=>rfl
 | s::r,o,h=>by
  rw[jnO,if_neg h,b1h r _ (by simp),b9r,Hg]
theorem e3f: ∀ l:List (List UInt8),(∀ s∈l,s≠[])->jnO [] l=Zv l
 | [],_=>rfl
 | s::r,h=>by rw[jnO,if_pos rfl,b1h r s (h s (by simp))]
theorem Py(r:Str)(l:List Lin)(hl:l.length<=6)(hb : ∀ x∈l,Zh x=true)(R:Str×Int): ∀ (d i:Nat) (o:List UInt8),d+i=l.length->o.length+1002*d<=10000->R=(⟨[91]++jnO o ((l.drop i).map ZE)++[93]⟩,0) ->
  At Qc 0 (Za V7 (Zf R)) UI 0 37 [(1,.ptr 0 0),(4,.pv (.str o)),(5,.pv (.int .i64 i))] [.obj (.box [.pv (.str r.s),.pv (.sl 2 false (l.map enc))])]:=by
 intro d
 induction d with
 | zero=>
  intro i o hi ho b
  rw[List.drop_eq_nil_of_le (by omega)]at b
  exact a7a r l o i (ZU (XO (by omega)) ⟨Zj (by show 1+o.length<=_;omega),Zj (by rw[List.length_append];show 1+o.length+1<=_;omega),Zg (x:=((⟨[91]++o++[93]⟩,0):Str×Int)) b.symm⟩)
 | succ d ih=>
  intro i o hi ho b
  have a:i<l.length:=by omega
  have g:=Us (hb _ (List.getElem_mem a))
  have hpl:=Wx l[i]
  rw[List.drop_eq_getElem_cons a,List.map_cons,jnO]at b
  have k:=fun o'=>ih (i+1) o' (by omega)
  refine a7a r l o i (ZT (Xq a) (AJ (fun e=>⟨Zj (by show o.length+2<=_;omega),Zq a rfl,ZB a ⟨Zc (l[i],()) rfl g,Zb (l[i],()) rfl ⟨Zj (by rw[List.length_append];show o.length+2+(ZE l[i]).length<=_;omega),?_⟩⟩⟩) fun e=>⟨Zq a rfl,ZB a ⟨Zc (l[i],()) rfl g,Zb (l[i],()) rfl ⟨Zj (by show o.length+(ZE l[i]).length<=_;omega),?_⟩⟩⟩))
  ·rw[next (by omega)]
   rw[if_neg e]at b
   exact k _ (by rw[List.length_append,List.length_append];show o.length+2+(ZE l[i]).length+_<=_;omega) b
  ·rw[next (by omega)]
   have e:o=[]:=e
   subst e
   rw[if_pos rfl]at b
   exact k _ (by show(ZE l[i]).length+_<=_;omega) b
theorem c4p: ∀ x:Sp×Unit,Nw x.1=true->Zd Qc 0 (Za V7 (Zf (Nu x.1.row x.1.dims))) UI [] (Zx d0k (encL x)):=by
 rintro⟨⟨r,l⟩,⟨⟩⟩ h
 show Zd Qc 0 (Za V7 (Zf (Nu r l))) _ _ _
 refine f0p r l ⟨Zc (⟨r,l⟩,()) rfl h,Zb (⟨r,l⟩,()) rfl (YY (fun a=> ?_) fun a=> ?_)⟩
 ·have a:KU r l=false:=a
  exact Zg (x:=((⟨[]⟩,1):Str×Int)) (by unfold Nu;rw[a];rfl)
 ·have a:KU r l=true:=a
  have e:Nu r l=(⟨QM r l⟩,0):=by unfold Nu;rw[a];rfl
  rw[e]
  unfold KU at a
  simp only[Bool.and_eq_true,Bool.or_eq_true,decide_eq_true_eq]at a
  have b:=List.all_eq_true.1 a.2
  have i : ∀ s∈l.map ZE,s≠[]:=fun s hs=>by
   obtain⟨x,j,rfl⟩:=List.mem_map.1 hs
   exact(Ci (b x j)).1
  refine AJ (fun g=> ?_) fun g=> ?_
  ·have hr:=Vh (a.1.1.resolve_left g)
   refine⟨Zj (by show r.s.length+2<=_;omega),Py r l a.1.2 b _ l.length 0 _ (by omega) (by rw[List.length_append];show r.s.length+2+_<=_;omega) ?_⟩
   rw[List.drop_zero,b1h _ _ (by simp)]
   unfold QM J5
   rw[if_neg g];rfl
  ·have g:r.s=[]:=g
   refine Py r l a.1.2 b _ l.length 0 [] (by omega) (by show 0+_<=_;omega) ?_
   rw[List.drop_zero,e3f _ i]
   unfold QM J5
   rw[if_pos g];rfl
theorem c4s: ∀ x:TyS×Unit,yW x.1=true->Zd b9f 0 (Za a3u (Zf (Q5 x.1))) a3s [] (Zx d5o (encL x)):=by
 rintro⟨t,⟨⟩⟩ h
 have a:=tyB h
 refine e9t t ⟨Zc (t.elem,()) rfl (decide_eq_true a.elem),Zb (t.elem,()) rfl (YV (fun h1=>⟨Zc (⟨t.row,t.dims⟩,()) rfl a.sp,Zb (⟨t.row,t.dims⟩,()) rfl (Zl ?_)⟩) fun h1=>Zl ?_)⟩
 ·have h1:Mw t.elem.s=true:=h1
  show KU t.row t.dims=Q5 t
  unfold Q5;rw[h1];rfl
 ·have h1:Mw t.elem.s=false:=h1
  show false=Q5 t
  unfold Q5;rw[h1];rfl
theorem c4o: ∀ x:TyS×Unit,yW x.1=true->Zd Oe 0 (Za Ro (Zf (Jc x.1))) a5y [] (Zx d4w (encL x)):=by
 rintro⟨t,⟨⟩⟩ h
 have h:yW t=true:=h
 have b:=tyB h
 show Zd Oe 0 (Za Ro (Zf (Jc t))) _ _ _
 refine e5b t ⟨Zc (t,()) rfl h,Zb (t,()) rfl (YY (fun a=> ?_) fun a=>⟨Zc (⟨t.row,t.dims⟩,()) rfl b.sp,Zb (⟨t.row,t.dims⟩,()) rfl ?_⟩)⟩
 ·have a:Q5 t=false:=a
  exact Zg (x:=((⟨[]⟩,1):Str×Int)) (by unfold Jc;rw[a];rfl)
 ·have a:Q5 t=true:=a
  have hs:KU t.row t.dims=true:=by unfold Q5 at a;rw[Bool.and_eq_true]at a;exact a.2
  have e:Nu t.row t.dims=(⟨QM t.row t.dims⟩,0):=by unfold Nu;rw[hs];rfl
  have g:Jc t=(⟨tyT t⟩,0):=by unfold Jc;rw[a];rfl
  rw[show Nu (((⟨t.row,t.dims⟩,()):Sp×Unit).1).row (((⟨t.row,t.dims⟩,()):Sp×Unit).1).dims=_ from e,g]
  have l1:=Bb hs
  refine Zy (fun h1=>⟨Zj (by have:=b.elem;show 0+t.elem.s.length<=_;omega),Zg (x:=((⟨[]++t.elem.s⟩,0):Str×Int)) ?_⟩) fun h1=>⟨Zj (by have:=b.elem;show(QM t.row t.dims).length+t.elem.s.length<=_;omega),Zg (x:=((⟨QM t.row t.dims++t.elem.s⟩,0):Str×Int)) ?_⟩
  ·unfold tyT;rw[if_pos h1]
  ·unfold tyT;rw[if_neg h1]
theorem e3p: ∀ x:TyS×Unit,yW x.1=true->Zd f1h 0 (Za d1j (Zf (Jc x.1).1)) d2s [] (Zx f7f (encL x)):=by
 rintro⟨t,⟨⟩⟩ h
 exact g4e t ⟨Zc (t,()) rfl h,Zb (t,()) rfl (Zg (x:=(Jc t).1) rfl)⟩
theorem zvn(y:Coef):PV.asStr (List.getD (List.drop 0 (PV.cells (enc y))) 0 default)=y.v.s:=rfl
theorem zsn(y:Coef):(decide (0+List.length [Sh.str]<=List.length (List.drop 0 (PV.cells (enc y))))&&Yj (List.drop 0 (PV.cells (enc y))) 0 [Sh.str])=true:=rfl
theorem c4a(t:TyS)(hs : ∀ x∈t.dims,Zh x=true)(i:Nat)(a:i<t.dims.length)(R:Bool)(g:R=(t.dims.drop (i+1)).all Kr->At XU 0 (Za Xj (Zf R)) XB 0 64 [(1,.ptr 0 0),(3,.pv (.int .i64 ((i+1:Nat):Int)))] [.obj (.box (a4e t))])(hi:i<1000):
  ∀ (d k:Nat),d+k=t.dims[i].t.length->R=(((t.dims[i].t.drop k).all fun c=>nameI c.v.s)&&(t.dims.drop (i+1)).all Kr) ->
  At XU 0 (Za Xj (Zf R)) XB 1 64 [(1,.ptr 0 0),(3,.pv (.int .i64 i)),(4,.pv (.int .i64 k))] [.obj (.box (a4e t))]:=by
 have h:=hs _ (List.getElem_mem a)
 have hvl:=Uj h
 intro d
 induction d with
 | zero=>
  intro k m e
  rw[List.drop_eq_nil_of_le (by omega),List.all_nil,Bool.true_and]at e
  refine Ld t i k ⟨Zq a rfl,ZB a ?_⟩
  refine ZU (XO (l:=t.dims[i].t) (i:=k) (by omega)) ?_
  rw[next (by omega)]
  exact g e
 | succ d ih=>
  intro k m e
  have b:k<t.dims[i].t.length:=by omega
  have j:(decide (0<=(k:Int))&&decide (Int.toNat (k:Int)<List.length (List.map (enc:Coef->PV) t.dims[i].t))&&2==2)=true:=by simp[b]
  have hn:=Vh (WK h (List.getElem_mem b)).1
  rw[List.drop_eq_getElem_cons b,List.all_cons]at e
  refine Ld t i k ⟨Zq a rfl,ZB a ?_⟩
  refine ZT (Xq (l:=t.dims[i].t) (i:=k) b) ⟨Zq a rfl,ZB a ?_⟩
  rw[a6w,X4 enc b]
  refine⟨j,zsn _,?_⟩
  rw[zvn]
  refine KH (by omega) (YY (fun h1=>Zl ?_) fun h1=> ?_)
  ·rw[e,h1];rfl
  ·rw[next (by omega)]
   exact ih (k+1) (by omega) (by rw[e,h1];rfl)
theorem a6i(t:TyS)(hl:t.dims.length<=6)(hs : ∀ x∈t.dims,Zh x=true)(R:Bool): ∀ (d i:Nat),d+i=t.dims.length->R=(t.dims.drop i).all Kr ->
  At XU 0 (Za Xj (Zf R)) XB 0 64 [(1,.ptr 0 0),(3,.pv (.int .i64 i))] [.obj (.box (a4e t))]:=by
 intro d
 induction d with
 | zero=>
  intro i hi b
  rw[List.drop_eq_nil_of_le (by omega),List.all_nil]at b
  exact Fp t i (ZU (XO (by omega)) (Zl b.symm))
 | succ d ih=>
  intro i hi b
  have a:i<t.dims.length:=by omega
  rw[List.drop_eq_getElem_cons a,List.all_cons]at b
  refine Fp t i (ZT (Xq a) ?_)
  refine c4a t hs i a R (fun h=>ih (i+1) (by omega) h) (by omega) t.dims[i].t.length 0 (by omega) ?_
  rw[b,List.drop_zero]
  unfold Kr Va
  rw[List.all_map]
  rfl
theorem a9m: ∀ x:TyS×Unit,yW x.1=true->Zd XU 0 (Za Xj (Zf (Y8 x.1))) XB [] (Zx c3g (encL x)):=by
 rintro⟨t,⟨⟩⟩ h
 have i:=tyB h
 show Zd XU 0 (Za Xj (Zf (Y8 t))) _ _ _
 have fin:Q5 t=true->(t.elem.s=Xa∨t.elem.s=YM)->(t.row.s=[]∨nameI t.row.s=true)->At XU 0 (Za Xj (Zf (Y8 t))) XB 0 64 [(1,.ptr 0 0),(3,.pv (.int .i64 0))] [.obj (.box (a4e t))]:=fun a b c=>by
  obtain⟨j,e⟩:=a5q a
  refine a6i t j (List.all_eq_true.1 e) _ t.dims.length 0 (by omega) ?_
  unfold Y8
  have k:(decide (t.elem.s=Xa)||decide (t.elem.s=YM))=true:=by simpa using b
  have l:(decide (t.row.s=[])||nameI t.row.s)=true:=by simpa using c
  rw[a,k,l,List.drop_zero];rfl
 refine d2o t ⟨Zc (t,()) rfl h,Zb (t,()) rfl (YY (fun e=>Zl ?_) fun e=>AJ (fun h1=>AJ (fun h2=>Zl ?_) fun h2=>AJ (fun h3=>KH i.row (YY (fun g=>Zl ?_) fun g=>fin e (.inr h2) (.inr g))) fun h3=>fin e (.inr h2) (.inl h3)) fun h1=>AJ (fun h3=>KH i.row (YY (fun g=>Zl ?_) fun g=>fin e (.inl h1) (.inr g))) fun h3=>fin e (.inl h1) (.inl h3))⟩
 ·have e:Q5 t=false:=e
  unfold Y8;rw[e];rfl
 ·unfold Y8
  rw[decide_eq_false (show ¬ t.elem.s=Xa from h1),decide_eq_false (show ¬ t.elem.s=YM from h2),Bool.or_self,Bool.and_false];rfl
 ·unfold Y8
  rw[decide_eq_false h3,g,Bool.or_self,Bool.and_false];rfl
 ·unfold Y8
  rw[decide_eq_false h3,g,Bool.or_self,Bool.and_false];rfl
theorem a9c: ∀ x:Bool×TyS×Unit,yW x.2.1=true->Zd a3j 0 (Za LP (Zf (Yy x.1 x.2.1))) Lb [] (Zx b9n (encL x)):=by
 rintro⟨b,t,⟨⟩⟩ h
 refine d2g b t (YV (fun hb=>⟨Zc (t,()) rfl h,Zb (t,()) rfl (Zl ?_)⟩) fun hb=>Zy (fun h1=>Zy (fun h2=>Zl ?_) fun h2=>Zl ?_) fun h1=>Zl ?_)
 ·show Y8 t=Yy b t
  unfold Yy;rw[hb];rfl
 ·show _=Yy b t
  unfold Yy
  rw[hb,decide_eq_true h1,decide_eq_true h2,List.length_map]
  by_cases h3:t.dims.length=0
  ·rw[h3];rfl
  ·rw[decide_eq_false h3]
   show((t.dims.length:Int)==0)=false
   simpa using h3
 ·show _=Yy b t
  unfold Yy
  rw[hb,decide_eq_false h2,Bool.and_false];rfl
 ·show _=Yy b t
  unfold Yy
  rw[hb,decide_eq_false h1];rfl
theorem b0f(d:Df)(h:dW d=true)(R:Bool): ∀ (m i:Nat),m+i=d.ps.length->R=((nameI d.name.s&&decide (d.ps.length<=8)&&Yy d.given d.res&&YK d.body)&&(d.ps.drop i).all BJ) ->
  At GL 0 (Za KG (Zf R)) KR 0 56 [(1,.ptr 0 0),(3,.pv (.int .i64 i))] [.obj (.box (FN d))]:=by
 have e:=dfB h
 intro m
 induction m with
 | zero=>
  intro i hi b
  rw[List.drop_eq_nil_of_le (by omega),List.all_nil,Bool.and_true]at b
  refine a3r d i (ZU (XO (by omega)) (KH e.name (YV (fun h1=>ZO (fun h2=>⟨Zc (d.given,d.res,()) rfl e.res,Zb (d.given,d.res,()) rfl (YV (fun h3=>⟨Zc (d.body,()) (UE d) e.body,Zb (d.body,()) (UE d) (Zl ?_)⟩) fun h3=>Zl ?_)⟩) fun h2=>Zl ?_) fun h1=>Zl ?_)))
  ·have h3:Yy d.given d.res=true:=h3
   rw[List.length_map]at h2
   rw[b,h1,h3,decide_eq_true (show d.ps.length<=8 by omega)];rfl
  ·have h3:Yy d.given d.res=false:=h3
   rw[b,h3,Bool.and_false];rfl
  ·rw[List.length_map]at h2
   rw[b,decide_eq_false (show ¬ d.ps.length<=8 by omega),Bool.and_false];rfl
  ·rw[b,h1];rfl
 | succ m ih=>
  intro i hi b
  have a:i<d.ps.length:=by omega
  have g:=CW (e.pw _ (List.getElem_mem a))
  have hl:=e.ps
  rw[List.drop_eq_getElem_cons a,List.all_cons]at b
  refine a3r d i (ZT (Xq a) ⟨Zq a rfl,ZB a (KH g.1 (YY (fun h1=>Zl ?_) fun h1=>⟨Zq a rfl,ZB a ⟨Zq a rfl,ZB a ⟨Zc (d.ps[i].given,d.ps[i].ty,()) rfl g.2,Zb (d.ps[i].given,d.ps[i].ty,()) rfl (YY (fun h2=>Zl ?_) fun h2=> ?_)⟩⟩⟩))⟩)
  ·have:BJ d.ps[i]=false:=by unfold BJ;rw[h1];rfl
   rw[b,this,Bool.false_and,Bool.and_false]
  ·have h2:Yy d.ps[i].given d.ps[i].ty=false:=h2
   have:BJ d.ps[i]=false:=by unfold BJ;rw[h2,Bool.and_false]
   rw[b,this,Bool.false_and,Bool.and_false]
  ·have h2:Yy d.ps[i].given d.ps[i].ty=true:=h2
   have:BJ d.ps[i]=true:=by unfold BJ;rw[h1,h2];rfl
   rw[next (by omega)]
   exact ih (i+1) (by omega) (by rw[b,this,Bool.true_and])
theorem c0p: ∀ x:Df×Unit,dW x.1=true->Zd GL 0 (Za KG (Zf (ZK x.1))) KR [] (Zx d0v (encL x)):=by
 rintro⟨d,⟨⟩⟩ h
 refine e7z d ?_
 exact b0f d h _ d.ps.length 0 (by omega) (by rw[List.drop_zero];rfl)
theorem LD(p:Pm):pmT p=p.name.s++(if p.given=true then [58,32]++(Jc p.ty).1.s else []):=rfl
theorem c0k(d:Df)(h:dW d=true)(D:ZK d=true)(R:Str): ∀ (m i:Nat) (o:List UInt8),m+i=d.ps.length->o.length<=2000000+1060002*i ->
  R=⟨Ay o (decide (i=0)) ((d.ps.drop i).map pmT)++[41]++Js d.given d.res++[32,61,32]++ZN d.body⟩ ->
  At JH 0 (Za Qm (Zf R)) Qk 0 60 [(1,.ptr 0 0),(3,.pv (.str o)),(4,.pv (.int .i64 i))] [.obj (.box (FN d))]:=by
 have y:=dfB h
 have r:=D
 unfold ZK at r
 simp only[Bool.and_eq_true,decide_eq_true_eq]at r
 have h8:=r.1.1.1.2
 have C:Z9 d.body=true:=JN (by have:=r.1.2;unfold YK at this;rw[Bool.and_eq_true]at this;exact this.1)
 have hbl:(Zt d.body).s.length<=1153433592:=Jn y.body C
 have htl:=TP d.res
 have B:(fun x:Tm×Unit=>tW x.1&&Z9 x.1) (d.body,())=true:=by show(tW d.body&&Z9 d.body)=true;rw[y.body,C];rfl
 intro m
 induction m with
 | zero=>
  intro i o hi ho j
  rw[List.drop_eq_nil_of_le (by omega)]at j
  have A:o.length<=11000000:=by have:1060002*i<=1060002*8:=Nat.mul_le_mul_left _ (by omega);omega
  refine b4q d o i (ZU (XO (by omega)) ⟨Zj (by show o.length+1<=_;omega),YV (fun l=>⟨Zc (d.res,()) rfl y.res,Zb (d.res,()) rfl ⟨Zj (by show 2+(Jc d.res).1.s.length<=_;omega),Zj (by rw[List.length_append,List.length_append];show o.length+1+(2+(Jc d.res).1.s.length)<=_;omega),Zj (by rw[List.length_append,List.length_append,List.length_append];show o.length+1+(2+(Jc d.res).1.s.length)+3<=_;omega),Zc (d.body,()) (UE d) B,Zb (d.body,()) (UE d) ⟨Zj (by rw[List.length_append,List.length_append,List.length_append,List.length_append];show o.length+1+(2+(Jc d.res).1.s.length)+3+(Zt d.body).s.length<=_;omega),Zg (x:=(⟨_⟩:Str)) ?_⟩⟩⟩) fun l=>⟨Zj (by rw[List.length_append];show o.length+1+3<=_;omega),Zc (d.body,()) (UE d) B,Zb (d.body,()) (UE d) ⟨Zj (by rw[List.length_append,List.length_append];show o.length+1+3+(Zt d.body).s.length<=_;omega),Zg (x:=(⟨_⟩:Str)) ?_⟩⟩⟩)
  ·rw[j]
   unfold Js
   rw[l]
   rfl
  ·rw[j]
   unfold Js
   rw[l]
   show(⟨o++[41]++[32,61,32]++ZN d.body⟩:Str)=⟨o++[41]++[]++[32,61,32]++ZN d.body⟩
   rw[List.append_nil]
 | succ m ih=>
  intro i o hi ho j
  have e:i<d.ps.length:=by omega
  have u:=y.pw _ (List.getElem_mem e)
  have z:=CW u
  have q:=b8v u
  have hty:=TP d.ps[i].ty
  have A:o.length<=11000000:=by have:1060002*i<=1060002*8:=Nat.mul_le_mul_left _ (by omega);omega
  have hnl:=z.1
  rw[List.drop_eq_getElem_cons e,List.map_cons,Ay]at j
  have k:=fun o'=>ih (i+1) o' (by omega)
  rw[decide_eq_false (show ¬ i+1=0 by omega)]at k
  have g : ∀ a b:List UInt8,(a++b).length=a.length+b.length:=fun a b=>List.length_append
  refine b4q d o i (ZT (Xq e) (ZO (fun E=>⟨Zj (by show o.length+2<=_;omega),Zq e rfl,ZB e ⟨Zj (by rw[g];show o.length+2+d.ps[i].name.s.length<=_;omega),Zq e rfl,ZB e (YV (fun l=>⟨Zq e rfl,ZB e ⟨Zc (d.ps[i].ty,()) rfl z.2,Zb (d.ps[i].ty,()) rfl ⟨Zj (by show 2+(Jc d.ps[i].ty).1.s.length<=_;omega),Zj (by rw[g,g,g];show o.length+2+d.ps[i].name.s.length+(2+(Jc d.ps[i].ty).1.s.length)<=_;omega),?_⟩⟩⟩) fun l=> ?_)⟩⟩) fun E=>⟨Zq e rfl,ZB e ⟨Zj (by show o.length+d.ps[i].name.s.length<=_;omega),Zq e rfl,ZB e (YV (fun l=>⟨Zq e rfl,ZB e ⟨Zc (d.ps[i].ty,()) rfl z.2,Zb (d.ps[i].ty,()) rfl ⟨Zj (by show 2+(Jc d.ps[i].ty).1.s.length<=_;omega),Zj (by rw[g,g];show o.length+d.ps[i].name.s.length+(2+(Jc d.ps[i].ty).1.s.length)<=_;omega),?_⟩⟩⟩) fun l=> ?_)⟩⟩))
  ·rw[next (by omega)]
   rw[decide_eq_false (show ¬ i=0 by omega),LD,l,if_pos rfl]at j
   rw[LD,l,if_pos rfl,g,g]at q
   refine k _ ?_ ?_
   ·rw[g,g,g,g];show o.length+2+d.ps[i].name.s.length+(2+(Jc d.ps[i].ty).1.s.length)<=_
    have q:d.ps[i].name.s.length+(2+(Jc d.ps[i].ty).1.s.length)<=1060000:=q
    omega
   ·rw[j]
    show(⟨Ay (o++[44,32]++(d.ps[i].name.s++([58,32]++(Jc d.ps[i].ty).1.s))) false _++[41]++Js d.given d.res++[32,61,32]++ZN d.body⟩:Str)=_
    rw[<- List.append_assoc (o++[44,32]) d.ps[i].name.s]
  ·rw[next (by omega)]
   rw[decide_eq_false (show ¬ i=0 by omega),LD,l,if_neg (by simp),if_neg (by simp),List.append_nil]at j
   refine k _ ?_ j
   rw[g,g];show o.length+2+d.ps[i].name.s.length<=_
   omega
  ·rw[next (by omega)]
   rw[decide_eq_true (show i=0 by omega),LD,l,if_pos rfl,if_pos rfl,List.append_nil]at j
   rw[LD,l,if_pos rfl,g,g]at q
   refine k _ ?_ ?_
   ·rw[g,g,g];show o.length+d.ps[i].name.s.length+(2+(Jc d.ps[i].ty).1.s.length)<=_
    have q:d.ps[i].name.s.length+(2+(Jc d.ps[i].ty).1.s.length)<=1060000:=q
    omega
   ·rw[j,<- List.append_assoc o d.ps[i].name.s]
  ·rw[next (by omega)]
   rw[decide_eq_true (show i=0 by omega),LD,l,if_pos rfl,if_neg (by simp),List.append_nil,List.append_nil]at j
   refine k _ ?_ j
   rw[g];omega
theorem d9v: ∀ x:Df×Unit,(dW x.1&&ZK x.1)=true->Zd JH 0 (Za Qm (Zf (UQ x.1))) Qk [] (Zx e4k (encL x)):=by
 rintro⟨d,⟨⟩⟩ h
 simp only[Bool.and_eq_true]at h
 have hn:=(dfB h.1).name
 refine f7l d ⟨Zj (by show 4+d.name.s.length<=_;omega),Zj (by rw[List.length_append];show 4+d.name.s.length+1<=_;omega),?_⟩
 refine c0k d h.1 h.2 _ d.ps.length 0 _ (by omega) (by rw[List.length_append,List.length_append];show 4+d.name.s.length+1<=_;omega) ?_
 rw[List.drop_zero,show decide (0=0)=true from rfl,Rm]
 rfl
theorem d4v: ∀ x:Df×Unit,dW x.1=true->Zd b0m 0 (Za FO (Zf (DC x.1))) b7v [] (Zx e2p (encL x)):=by
 rintro⟨d,⟨⟩⟩ h
 have h:dW d=true:=h
 show Zd b0m 0 (Za FO (Zf (DC d))) _ _ _
 refine g0c d ⟨Zc (d,()) rfl h,Zb (d,()) rfl (YY (fun a=> ?_) fun a=>⟨Zc (d,()) rfl ?_,Zb (d,()) rfl (ZO (fun h1=> ?_) fun h1=> ?_)⟩)⟩
 ·have a:ZK d=false:=a
  exact Zg (x:=((⟨[]⟩,1):Str×Int)) (by unfold DC;rw[a];rfl)
 ·have a:ZK d=true:=a
  show(dW d&&ZK d)=true
  rw[h,a];rfl
 ·have a:ZK d=true:=a
  exact Zg (x:=((⟨[]⟩,3):Str×Int)) (by unfold DC Qn;rw[a,if_pos rfl,if_pos h1])
 ·have a:ZK d=true:=a
  exact Zg (x:=((UQ d,0):Str×Int)) (by unfold DC Qn;rw[a,if_pos rfl,if_neg h1])
def tlO(l:List (List UInt8)):List UInt8:=l.flatMap fun s=>[44,32]++s
theorem a6h(a:List UInt8): ∀ l:List (List UInt8),Zv (a::l)=a++tlO l
 | []=>by simp[Zv,tlO]
 | b::l=>by rw[Hg,a6h b l];unfold tlO;rw[List.flatMap_cons,List.append_assoc,List.append_assoc]
theorem a0x(w:List UInt8)(l:List Str)(hl:l.length<=60)(hn : ∀ s∈l,s.s.length<=30)(R:Str): ∀ (d i:Nat) (o:List UInt8),d+i=l.length->1<=i->o≠[]->o.length<=100+32*i->R=⟨o++tlO ((l.drop i).map (·.s))++[10]⟩ ->
  At UV 0 (Za VF (Zf R)) VE 0 34 [(0,.pv (.str w)),(1,.pv (enc l)),(5,.pv (.str o)),(6,.pv (.int .i64 i))] []:=by
 intro d
 induction d with
 | zero=>
  intro i o hi h1 ho e b
  rw[List.drop_eq_nil_of_le (by omega)]at b
  refine Gy w l o i (ZU (XO (by omega)) (AJ (fun _=>⟨Zj (by show o.length+1<=_;omega),Zg (x:=(⟨o++[10]⟩:Str)) ?_⟩) fun h=>absurd h ho))
  rw[b]
  show _=(⟨o++[]++[10]⟩:Str)
  rw[List.append_nil]
 | succ d ih=>
  intro i o hi h1 ho e b
  have a:i<l.length:=by omega
  have hs:=hn _ (List.getElem_mem a)
  rw[List.drop_eq_getElem_cons a,List.map_cons]at b
  refine Gy w l o i (ZT (Xq a) (Zy (fun h=>absurd h (by omega)) fun _=>⟨Zq a rfl,ZB a ⟨Zj (by show 2+l[i].s.length<=_;omega),Zj (by rw[List.length_append];show o.length+(2+l[i].s.length)<=_;omega),?_⟩⟩))
  rw[next (by omega)]
  refine ih (i+1) _ (by omega) (by omega) (by simp) (by rw[List.length_append,List.length_append];show o.length+(2+l[i].s.length)<=_;omega) ?_
  rw[b]
  unfold tlO
  rw[List.flatMap_cons,<- List.append_assoc o]
theorem b1l: ∀ x:Str×List Str×Unit,(decide (x.1.s.length<=30)&&decide (x.1.s≠[])&&decide (x.2.1.length<=60)&&x.2.1.all fun s:Str=>nameI s.s)=true->Zd UV 0 (Za VF (Zf (⟨Qo (Kn x.1.s x.2.1)⟩:Str))) VE [] (Zx c2u (encL x)):=by
 rintro⟨⟨w⟩,l,⟨⟩⟩ h
 simp only[Bool.and_eq_true,decide_eq_true_eq,List.all_eq_true]at h
 obtain⟨⟨⟨h1,h2⟩,h3⟩,h4⟩:=h
 have h1:w.length<=30:=h1
 have h3:l.length<=60:=h3
 have hn : ∀ s∈l,s.s.length<=30:=fun s hs=>(Xl (h4 s hs)).2.2
 refine e2j w l ?_
 show At UV 0 (Za VF (Zf (⟨Qo (Kn w l)⟩:Str))) VE 0 34 [(0,.pv (.str w)),(1,.pv (enc l)),(5,.pv (.str [])),(6,.pv (.int .i64 ((0:Nat):Int)))] []
 cases l with
 | nil=>exact Gy w [] [] (0:Nat) (ZU (by decide) (AJ (fun h=>absurd rfl h) fun _=>Zg (x:=(⟨[]⟩:Str)) rfl))
 | cons a r=>
  have b:0<(a::r).length:=by simp
  have ha:=hn a (by simp)
  refine Gy w (a::r) [] (0:Nat) (ZT (Xq b) (ZT (by decide) ⟨Zj (by show w.length+1<=_;omega),Zq b rfl,ZB b ⟨Zj (by rw[List.length_append];show w.length+1+a.s.length<=_;omega),?_⟩⟩))
  rw[next (by omega)]
  refine a0x w (a::r) h3 hn _ r.length 1 _ (by rw[List.length_cons]) (by omega) (by simp) (by rw[List.length_append,List.length_append];show w.length+1+a.s.length<=_;omega) ?_
  show(⟨(w++[32]++Zv (a.s::r.map fun x:Str=>x.s))++[10]++[]⟩:Str)=⟨w++[32]++a.s++tlO (r.map fun x:Str=>x.s)++[10]⟩
  rw[a6h,List.append_nil,<- List.append_assoc (w++[32])]
theorem a4l(l:List Str)(hl:l.length<=1048576)(hs : ∀ s∈l,s.s.length<=1048576)(R:Bool): ∀ (d i:Nat),d+i=l.length->R=((l.drop i).all fun s=>nameI s.s) ->
  At K4 0 (Za Qt (Zf R)) Qv 0 16 [(0,.pv (enc l)),(3,.pv (.int .i64 i))] []:=by
 intro d
 induction d with
 | zero=>
  intro i hi b
  rw[List.drop_eq_nil_of_le (by omega)]at b
  exact M0 l i (ZU (XO (by omega)) (Zl b.symm))
 | succ d ih=>
  intro i hi b
  have a:i<l.length:=by omega
  rw[List.drop_eq_getElem_cons a,List.all_cons]at b
  refine M0 l i (ZT (Xq a) ⟨Zq a rfl,ZB a (KH (hs _ (List.getElem_mem a)) (YY (fun h1=>Zl ?_) fun h1=> ?_))⟩)
  ·rw[b,h1];rfl
  ·rw[next (by omega)]
   exact ih (i+1) (by omega) (by rw[b,h1,Bool.true_and])
theorem b0r: ∀ x:List Str×Unit,Xh x.1=true->Zd K4 0 (Za Qt (Zf (x.1.all fun s:Str=>nameI s.s))) Qv [] (Zx c0w (encL x)):=by
 rintro⟨l,⟨⟩⟩ h
 have h:=Fs h
 refine d2j l ?_
 exact a4l l h.1 h.2 _ l.length 0 (by omega) (by rw[List.drop_zero])
theorem e2s(m:Mdu)(h:mW m=true)(h60:m.ds.length<=60)(ha:m.ds.all ZK=true)(R:Str×Int): ∀ (d i:Nat) (o:List UInt8),d+i=m.ds.length->o.length<=200000+1200000001*i ->
  R=Qn ⟨o++Qo ((m.ds.drop i).map KQ)⟩->At QE 0 (Za Ub (Zf R)) UA 1 87 [(1,.ptr 0 0),(4,.pv (.str o)),(6,.pv (.int .i64 i))] [.obj (.box (Dc m))]:=by
 have g:=mdB h
 intro d
 induction d with
 | zero=>
  intro i o hi ho b
  rw[List.drop_eq_nil_of_le (by omega)]at b
  have b:R=Qn ⟨o++[]⟩:=b
  rw[List.append_nil]at b
  unfold Qn at b
  refine b8j m o i (ZU (XO (by omega)) (ZO (fun h1=> ?_) fun h1=> ?_))
  ·rw[if_pos h1]at b
   exact Zg (x:=((⟨[]⟩,3):Str×Int)) b.symm
  ·rw[if_neg h1]at b
   exact Zg (x:=((⟨o⟩,0):Str×Int)) b.symm
 | succ d ih=>
  intro i o hi ho b
  have a:i<m.ds.length:=by omega
  have hd:=g.ds _ (List.getElem_mem a)
  have e:=List.all_eq_true.1 ha _ (List.getElem_mem a)
  have hll:=AC hd e
  have hol:o.length<=80000000000:=by have:1200000001*i<=1200000001*60:=Nat.mul_le_mul_left _ (by omega);omega
  rw[List.drop_eq_getElem_cons a,List.map_cons]at b
  refine b8j m o i (ZT (Xq a) ⟨Zq a rfl,ZB a ⟨Zc (m.ds[i],()) rfl (by show(dW m.ds[i]&&ZK m.ds[i])=true;rw[hd,e];rfl),Zb (m.ds[i],()) rfl ⟨Zj (by show(KQ m.ds[i]).length+1<=_;omega),Zj (by rw[List.length_append];show o.length+((KQ m.ds[i]).length+1)<=_;omega),?_⟩⟩⟩)
  rw[next (by omega)]
  refine ih (i+1) _ (by omega) (by rw[List.length_append,List.length_append];show o.length+((KQ m.ds[i]).length+1)<=_;omega) ?_
  rw[b]
  unfold Qo
  rw[List.flatMap_cons,<- List.append_assoc o]
  rfl
theorem e3t(m:Mdu)(g:mW m=true)(e:m.ds.length<=60)(o:List UInt8)(ho:o.length<=200000)(R:Str×Int)(h:m.ds.all ZK=true->R=Qn ⟨o++Qo (m.ds.map KQ)⟩)(hb:m.ds.all ZK=false->R=(⟨[]⟩,1)):
  ∀ (d i:Nat),d+i=m.ds.length->m.ds.all ZK=(m.ds.drop i).all ZK->At QE 0 (Za Ub (Zf R)) UA 0 87 [(1,.ptr 0 0),(4,.pv (.str o)),(5,.pv (.int .i64 i))] [.obj (.box (Dc m))]:=by
 have j:=mdB g
 intro d
 induction d with
 | zero=>
  intro i hi b
  rw[List.drop_eq_nil_of_le (by omega),List.all_nil]at b
  refine b9k m o i (ZU (XO (by omega)) ?_)
  exact e2s m g e b R m.ds.length 0 o (by omega) (by omega) (by rw[List.drop_zero];exact h b)
 | succ d ih=>
  intro i hi b
  have a:i<m.ds.length:=by omega
  rw[List.drop_eq_getElem_cons a,List.all_cons]at b
  refine b9k m o i (ZT (Xq a) ⟨Zq a rfl,ZB a ⟨Zc (m.ds[i],()) rfl (j.ds _ (List.getElem_mem a)),Zb (m.ds[i],()) rfl (YY (fun h1=> ?_) fun h1=> ?_)⟩⟩)
  ·have h1:ZK m.ds[i]=false:=h1
   rw[h1]at b
   exact Zg (x:=((⟨[]⟩,1):Str×Int)) (hb b).symm
  ·have h1:ZK m.ds[i]=true:=h1
   rw[next (by omega)]
   exact ih (i+1) (by omega) (by rw[b,h1,Bool.true_and])
theorem b4u{w:List UInt8}{l:List Str}(hw:w.length<=30)(hn:l.length<=1000)(h:(l.all fun s=>nameI s.s)=true):(Qo (Kn w l)).length<=40032:=by
 unfold Kn
 split
 ·exact Nat.zero_le _
 ·have:=GD hn (Nat.le_refl _) h
  show((((w++[32]++Zv (l.map fun x:Str=>x.s))++[10])++[]:List UInt8)).length<=_
  rw[List.append_nil,List.length_append,List.length_append,List.length_append]
  show w.length+1+_+1<=_
  omega
theorem e2h: ∀ x:Mdu×Unit,mW x.1=true->Zd QE 0 (Za Ub (Zf (JL x.1))) UA [] (Zx e3a (encL x)):=by
 rintro⟨m,⟨⟩⟩ i
 have g:=mdB i
 have i:mW m=true:=i
 show Zd QE 0 (Za Ub (Zf (JL m))) _ _ _
 have bad:VZ m=false->Zf (JL m) (.tup [.str [],.int .i64 1]):=fun h=>Zg (x:=((⟨[]⟩,1):Str×Int)) (by unfold JL;rw[h];rfl)
 refine f9x m (KH g.name (YY (fun h1=>bad ?_) fun h1=>⟨Zc (m.im,()) rfl (BB g.iml g.im),Zb (m.im,()) rfl (YY (fun h2=>bad ?_) fun h2=>⟨Zc (m.ex,()) rfl (BB g.exl g.ex),Zb (m.ex,()) rfl (YY (fun h3=>bad ?_) fun h3=>ZO (fun k=>bad ?_) fun k=>ZO (fun j=>bad ?_) fun j=>ZO (fun l=>bad ?_) fun l=> ?_)⟩)⟩))
 ·unfold VZ;rw[h1];rfl
 ·have h2:(m.im.all fun s=>nameI s.s)=false:=h2
  unfold VZ;rw[h2,Bool.and_false];rfl
 ·have h3:(m.ex.all fun s=>nameI s.s)=false:=h3
  unfold VZ;rw[h3,Bool.and_false];rfl
 ·rw[List.length_map]at k
  unfold VZ;rw[decide_eq_false (show ¬ m.im.length<=20 by omega),Bool.and_false];rfl
 ·rw[List.length_map]at j
  unfold VZ;rw[decide_eq_false (show ¬ m.ex.length<=60 by omega),Bool.and_false];rfl
 ·rw[List.length_map]at l
  unfold VZ;rw[decide_eq_false (show ¬ m.ds.length<=60 by omega),Bool.and_false]
 ·have h2:(m.im.all fun s=>nameI s.s)=true:=h2
  have h3:(m.ex.all fun s=>nameI s.s)=true:=h3
  rw[List.length_map]at k j l
  have l1:=(Xl h1).2.2
  have r:VZ m=true:=by unfold VZ;rw[h1,h2,h3,decide_eq_true (by omega),decide_eq_true (by omega),decide_eq_true (by omega)];rfl
  have i2:=b4u (w:=Ae) (by decide) (show m.im.length<=1000 by omega) h2
  have i3:=b4u (w:=Tx) (by decide) (show m.ex.length<=1000 by omega) h3
  have q:(fun x:Str×List Str×Unit=>decide (x.1.s.length<=30)&&decide (x.1.s≠[])&&decide (x.2.1.length<=60)&&x.2.1.all fun s:Str=>nameI s.s) ((⟨Ae⟩:Str),m.im,())=true:=by
   show(decide (Ae.length<=30)&&decide (Ae≠[])&&decide (m.im.length<=60)&&m.im.all fun s=>nameI s.s)=true
   rw[h2,decide_eq_true (show m.im.length<=60 by omega)];rfl
  have u:(fun x:Str×List Str×Unit=>decide (x.1.s.length<=30)&&decide (x.1.s≠[])&&decide (x.2.1.length<=60)&&x.2.1.all fun s:Str=>nameI s.s) ((⟨Tx⟩:Str),m.ex,())=true:=by
   show(decide (Tx.length<=30)&&decide (Tx≠[])&&decide (m.ex.length<=60)&&m.ex.all fun s=>nameI s.s)=true
   rw[h3,decide_eq_true (show m.ex.length<=60 by omega)];rfl
  have e : ∀ a b:List UInt8,(a++b).length=a.length+b.length:=fun a b=>List.length_append
  refine⟨Zj (by show 7+m.name.s.length<=_;omega),Zj (by rw[e];show 7+m.name.s.length+1<=_;omega),Zc ((⟨Ae⟩:Str),m.im,()) rfl q,Zb ((⟨Ae⟩:Str),m.im,()) rfl ⟨Zj (by rw[e,e];show 7+m.name.s.length+1+(Qo (Kn Ae m.im)).length<=_;omega),Zc ((⟨Tx⟩:Str),m.ex,()) rfl u,Zb ((⟨Tx⟩:Str),m.ex,()) rfl ⟨Zj (by rw[e,e,e];show 7+m.name.s.length+1+(Qo (Kn Ae m.im)).length+(Qo (Kn Tx m.ex)).length<=_;omega),?_⟩⟩⟩
  refine e3t m i (by omega) _ ?_ (JL m) (fun ha=> ?_) (fun hb=> ?_) m.ds.length 0 (by omega) (by rw[List.drop_zero])
  ·rw[e,e,e,e];show 7+m.name.s.length+1+(Qo (Kn Ae m.im)).length+(Qo (Kn Tx m.ex)).length<=_;omega
  ·unfold JL f4t a7u
   rw[r,ha]
   show Qn _=Qn _
   congr 2
   show Qo _=([109,111,100,117,108,101,32]:List UInt8)++m.name.s++[10]++Qo (Kn Ae m.im)++Qo (Kn Tx m.ex)++Qo (m.ds.map KQ)
   unfold Qo
   rw[List.flatMap_append,List.flatMap_append,List.flatMap_append]
   simp[e9n]
  ·unfold JL;rw[hb,Bool.and_false];rfl
theorem c5y(d:Df):d8n d=(KI d.body 30&&decide (d.ps.length<=10)&&decide (d.name.s.length<=40)&&d.ps.all fun p=>decide (p.ty.dims.length<=8)):=rfl
theorem zpd(d:Df):PV.asXs (List.getD (List.drop 2 (PV.cells (enc d))) 0 default)=d.ps.map enc:=rfl
theorem zpm(p:Pm):PV.asXs (List.getD (List.drop 1 (List.drop 1 (List.drop 2 (PV.cells (enc p))))) 0 default)=p.ty.dims.map enc:=rfl
theorem zpf(p:Pm):(decide (0+List.length [Sh.sl 2]<=List.length (List.drop 1 (List.drop 1 (List.drop 2 (PV.cells (enc p))))))&&Yj (List.drop 1 (List.drop 1 (List.drop 2 (PV.cells (enc p))))) 0 [Sh.sl 2])=true:=rfl
theorem d7l(m:Mdu)(q:mW m=true)(i:Nat)(a:i<m.ds.length)(R:Bool)(g:(m.ds[i].ps.all fun p=>decide (p.ty.dims.length<=8))=true->At VU 0 (Za WI (Zf R)) WG 0 81 [(1,.ptr 0 0),(3,.pv (.int .i64 ((i+1:Nat):Int)))] [.obj (.box (Dc m))])(h:(m.ds[i].ps.all fun p=>decide (p.ty.dims.length<=8))=false->R=false)(hp:m.ds[i].ps.length<=10):
  ∀ (d k:Nat),d+k=m.ds[i].ps.length->(m.ds[i].ps.all fun p=>decide (p.ty.dims.length<=8))=((m.ds[i].ps.drop k).all fun p=>decide (p.ty.dims.length<=8)) ->
  At VU 0 (Za WI (Zf R)) WG 1 81 [(1,.ptr 0 0),(3,.pv (.int .i64 i)),(4,.pv (.int .i64 k))] [.obj (.box (Dc m))]:=by
 have r:=mdB q
 have hds:=r.dsl
 intro d
 induction d with
 | zero=>
  intro k l e
  rw[List.drop_eq_nil_of_le (by omega),List.all_nil]at e
  refine a5x m i k ⟨Zq a rfl,ZB a ?_⟩
  rw[zpd,List.length_map]
  refine ZU (Yx (by omega)) ?_
  rw[next (by omega)]
  exact g e
 | succ d ih=>
  intro k l e
  have b:k<m.ds[i].ps.length:=by omega
  have j:(decide (0<=(k:Int))&&decide (Int.toNat (k:Int)<List.length (List.map (enc:Pm->PV) m.ds[i].ps))&&5==5)=true:=by simp[b]
  rw[List.drop_eq_getElem_cons b,List.all_cons]at e
  refine a5x m i k ⟨Zq a rfl,ZB a ?_⟩
  rw[zpd,List.length_map]
  refine ZT (Yt b) ⟨Zq a rfl,ZB a ?_⟩
  rw[zpd,X4 enc b]
  refine⟨j,zpf _,?_⟩
  rw[zpm,List.length_map]
  refine ZO (fun h1=>Zl ?_) fun h1=> ?_
  ·rw[decide_eq_false (show ¬ m.ds[i].ps[k].ty.dims.length<=8 by omega),Bool.false_and]at e
   exact(h e).symm
  ·rw[next (by omega)]
   rw[decide_eq_true (show m.ds[i].ps[k].ty.dims.length<=8 by omega),Bool.true_and]at e
   exact ih (k+1) (by omega) e
theorem b2j(m:Mdu)(e:mW m=true)(R:Bool): ∀ (d i:Nat),d+i=m.ds.length->R=((m.ds.drop i).all d8n&&(decide (m.ds.length<=5)&&decide (m.im.length<=25)&&decide (m.ex.length<=65))) ->
  At VU 0 (Za WI (Zf R)) WG 0 81 [(1,.ptr 0 0),(3,.pv (.int .i64 i))] [.obj (.box (Dc m))]:=by
 have g:=mdB e
 intro d
 induction d with
 | zero=>
  intro i hi b
  rw[List.drop_eq_nil_of_le (by omega),List.all_nil,Bool.true_and]at b
  refine a0p m i (ZU (XO (by omega)) (ZO (fun h1=>ZO (fun h2=>Zl ?_) fun h2=>Zl ?_) fun h1=>Zl ?_))
  ·rw[List.length_map]at h1 h2 ⊢
   rw[b,decide_eq_true (show m.ds.length<=5 by omega),decide_eq_true (show m.im.length<=25 by omega),Bool.true_and,Bool.true_and]
   exact decide_eq_decide.2 (by omega)
  ·rw[List.length_map]at h2
   rw[b,decide_eq_false (show ¬ m.im.length<=25 by omega),Bool.and_false];rfl
  ·rw[List.length_map]at h1
   rw[b,decide_eq_false (show ¬ m.ds.length<=5 by omega)];rfl
 | succ d ih=>
  intro i hi b
  have a:i<m.ds.length:=by omega
  have hd:=dfB (g.ds _ (List.getElem_mem a))
  rw[List.drop_eq_getElem_cons a,List.all_cons,c5y]at b
  refine a0p m i (ZT (Xq a) ⟨Zq a rfl,ZB a ⟨Zc (m.ds[i].body,30,()) (d0b _ _) hd.body,Zb (m.ds[i].body,30,()) (d0b _ _) (YY (fun h1=>Zl ?_) fun h1=>⟨Zq a rfl,ZB a ?_⟩)⟩⟩)
  ·have h1:KI m.ds[i].body 30=false:=h1
   rw[b,h1];rfl
  ·have h1:KI m.ds[i].body 30=true:=h1
   rw[zpd,List.length_map]
   refine ZO (fun h2=>Zl ?_) fun h2=>⟨Zq a rfl,ZB a (ZO (fun h3=>Zl ?_) fun h3=> ?_)⟩
   ·rw[b,decide_eq_false (show ¬ m.ds[i].ps.length<=10 by omega),Bool.and_false];rfl
   ·rw[b,decide_eq_false (show ¬ m.ds[i].name.s.length<=40 by omega),Bool.and_false];rfl
   ·rw[h1,decide_eq_true (show m.ds[i].ps.length<=10 by omega),decide_eq_true (show m.ds[i].name.s.length<=40 by omega),Bool.true_and,Bool.true_and]at b
    exact d7l m e i a R (fun h=>ih (i+1) (by omega) (by rw[b,h];rfl)) (fun h=>by rw[b,h];rfl) (by omega) m.ds[i].ps.length 0 (by omega) (by rw[List.drop_zero])
theorem c4g: ∀ x:Mdu×Unit,mW x.1=true->Zd VU 0 (Za WI (Zf (La x.1))) WG [] (Zx d5c (encL x)):=by
 rintro⟨m,⟨⟩⟩ h
 refine e5l m ?_
 exact b2j m h _ m.ds.length 0 (by omega) (by rw[List.drop_zero];show La m=_;unfold La;rw[Bool.and_assoc,Bool.and_assoc,Bool.and_assoc])
theorem c2z(m:Mdu)(h:mW m=true)(a:List UInt8)(e:Int): ∀ (d i:Nat),d+i=m.ds.length ->
  At Aw 0 (Za GK (Zf true)) Gb 0 68 [(1,.ptr 0 0),(3,.pv (.str a)),(4,.pv (.int .i64 e)),(5,.pv (.str a)),(6,.pv (.int .i64 e)),(7,.pv (.int .i64 i))] [.obj (.box (Dc m))]:=by
 have g:=mdB h
 have hl:=g.dsl
 intro d
 induction d with
 | zero=>
  intro i hi
  exact b6o m a a e e i (ZU (XO (by omega)) (ZT (by simp) (Zl (by simp))))
 | succ d ih=>
  intro i hi
  have b:i<m.ds.length:=by omega
  have hd:=g.ds _ (List.getElem_mem b)
  refine b6o m a a e e i (ZT (Xq b) ⟨Zq b rfl,ZB b ⟨Zc (m.ds[i],()) rfl hd,Zb (m.ds[i],()) rfl ⟨Zq b rfl,ZB b ⟨Zc (m.ds[i],()) rfl hd,Zb (m.ds[i],()) rfl (ZU (by simp) (ZU (by simp) ?_))⟩⟩⟩⟩)
  rw[next (by omega)]
  exact ih (i+1) (by omega)
theorem d7p: ∀ x:Mdu×Unit,mW x.1=true->Zd Aw 0 (Za GK (Zf true)) Gb [] (Zx f0f (encL x)):=by
 rintro⟨m,⟨⟩⟩ hw
 refine f9f m (Zb () rfl (ZU (by simp) ⟨Zc (m,()) rfl hw,Zb (m,()) rfl (YY (fun _=>Zl rfl) fun _=>⟨Zc (m,()) rfl hw,Zb (m,()) rfl ⟨Zc (m,()) rfl hw,Zb (m,()) rfl ?_⟩⟩)⟩))
 exact c2z m hw _ _ m.ds.length 0 (by omega)
def nmV(l:Lin)(i:Nat):List Str:=(l.t.take i).map (·.v)
theorem a3d(l:Lin){i:Nat}(h:i<l.t.length):(nmV l (i+1)).map (enc:Str->PV)=(nmV l i).map enc++[.str l.t[i].v.s]:=by
 unfold nmV
 rw[List.take_succ_eq_append_getElem h,List.map_append,List.map_append];rfl
theorem O3(l:Lin){i:Nat}(h:i<=l.t.length):(nmV l i).length=i:=by unfold nmV;rw[List.length_map,List.length_take];omega
theorem e4w(l:Lin):nmV l l.t.length=Va l:=by unfold nmV Va;rw[List.take_of_length_le (Nat.le_refl _)]
theorem e9x{q sz m:Nat}{xs:List PV}(h:xs.length=q)(h1:(q+m)*sz<=1099511627776)(h2:q+m<=1099511627776):(xs.length==q&&q==q&&decide ((q+m)*sz<=1099511627776)&&decide (q+m<=1099511627776))=true:=by simp[h,h1,h2]
theorem a2q(l:Lin)(hl:l.t.length<=1000000): ∀ (k i:Nat),k+i=l.t.length->1<=i ->
  At Q6 0 (Za UL (Zf (Va l))) U0 0 20 [(3,.row 0 i 0 i),(7,.pv (enc l.t)),(8,.pv (.int .i64 l.t.length)),(9,.pv (.int .i64 i))] [.obj (.row false 9 1 ((nmV l i).map enc))]:=by
 intro k
 induction k with
 | zero=>
  intro i hi h1
  obtain rfl:i=l.t.length:=by omega
  refine Pi l _ _ (nmV l l.t.length) (ZU (Yx (by omega)) ⟨by simp[O3],?_⟩)
  rw[List.drop_zero,List.take_of_length_le (by rw[List.length_map,O3 l (Nat.le_refl _)];exact Nat.le_refl _),e4w]
  exact Zg (x:=Va l) rfl
 | succ k ih=>
  intro i hi h1
  have a:i<l.t.length:=by omega
  refine Pi l i i (nmV l i) (ZT (Yt a) ⟨Zq a rfl,ZB a ⟨e9x (m:=1) (by rw[List.length_map,O3 l (by omega)]) (by omega) (by omega),?_⟩⟩)
  have:=ih (i+1) (by omega) (by omega)
  rw[a3d l a,<- next (by omega)]at this
  exact this
theorem b1s: ∀ a:Lin×Unit,decide (a.1.t.length<=1000000)=true->Zd Q6 0 (Za UL (Zf (Va a.1))) U0 [] (Zx c7i (encL a)):=by
 rintro⟨l,⟨⟩⟩ h
 have h:l.t.length<=1000000:=of_decide_eq_true h
 refine e0x l ?_
 rw[List.length_map]
 by_cases h0:l.t.length=0
 ·refine PX l ((0:Nat):Int) (ZU (Yx (by omega)) ?_)
  have:Va l=[]:=by unfold Va;rw[List.length_eq_zero_iff.1 h0];rfl
  rw[this]
  exact⟨rfl,rfl⟩
 ·have b:0<l.t.length:=by omega
  refine PX l ((0:Nat):Int) (ZT (Yt b) ⟨Zq b rfl,ZB b ?_⟩)
  have:=a2q l h (l.t.length - 1) 1 (by omega) (by omega)
  rw[show(1:Nat)=0+1 from rfl,a3d l b]at this
  exact this
end Go.Pl
