/-
  Texts of mine that belong together (packed by pack.py), for every input: GQd, QQd, QQe, QVs.
-/
import Derived.Test.YtkpppjbhmmabeaaGreatDoorChecked
import Derived.Test.YtkpppjbhmmabeaaGreatDoorKM2
import Derived.Test.YtkpppjbhmmabeaaGreatDoorKM3
import Derived.Test.YtkpppjbhmmabeaaGreatDoorKM4
import Derived.Test.YtkpppjbhmmabeaaGreatDoorKM5
import Derived.KernelRfl
set_option linter.unusedVariables false
set_option linter.unusedSimpArgs false
namespace Go.Pl
open Go.RowKit
open Enc (enc dec is)
open EncL (encL decL isL)
set_option maxRecDepth 100000
abbrev g2o(ps:List PV)(k:Str->Prop):Prop:=Ym (fun(x:Str×Str×Unit)=>decide (List.length (Str.s (Prod.fst x))<=1048576)&&decide (Str.s (Prod.fst (Prod.snd x))=J5)) (fun(x:Str×Str×Unit)=>Str.mk (PR (Str.s (Prod.fst x)))) ps k
abbrev g1x(ps:List PV)(k:Bool->Prop):Prop:=Ym (fun(x:Lin×Unit)=>Xy (Prod.fst x)) (fun(x:Lin×Unit)=>Zh (Prod.fst x)) ps k
abbrev g6c(ps:List PV)(k:Bool->Prop):Prop:=Ym (fun(x:Lin×Unit)=>Xy (Prod.fst x)) (fun(x:Lin×Unit)=> !Zh (Prod.fst x)) ps k
abbrev g2i(ps:List PV)(k:Int->Prop):Prop:=Ym (fun(x:List Lin×FnV 159×Unit)=>decide (List.length (Prod.fst x)<=1048576)&&List.all (Prod.fst x) Xy) (fun(x:List Lin×FnV 159×Unit)=>Yt (fun(l:Lin)=> !Zh l) (Prod.fst x)) ps k
abbrev f1f(ps:List PV)(k:Bool->Prop):Prop:=Ym (fun(x:List Lin×FnV 159×Unit)=>decide (List.length (Prod.fst x)<=1048576)&&List.all (Prod.fst x) Xy) (fun(x:List Lin×FnV 159×Unit)=>List.any (Prod.fst x) fun(l:Lin)=> !Zh l) ps k
abbrev g6i(ps:List PV)(k:Bool->Prop):Prop:=Ym (fun(x:Str×Unit)=>decide (List.length (Str.s (Prod.fst x))<=281474976710656)) (fun(x:Str×Unit)=>nameB (Prod.fst x)) ps k
abbrev f2g(ps:List PV)(k:Str->Prop):Prop:=Ym (fun(x:Lin×Unit)=>Wn (Prod.fst x)) (fun(x:Lin×Unit)=>Str.mk (ZE (Prod.fst x))) ps k
abbrev g1q(ps:List PV)(k:Str->Prop):Prop:=ceP (fun(x:List Str×Str×Unit)=>Yi (Prod.fst x)) ps k
abbrev g4g(ps:List PV)(k:Str->Prop):Prop:=Ym (fun(x:List Str×Str×Unit)=>YP (Prod.fst x)&&decide (Str.s (Prod.fst (Prod.snd x))=[(44:UInt8),(32:UInt8)])) (fun(x:List Str×Str×Unit)=>Yi (Prod.fst x)) ps k
abbrev b7l(ps:List PV)(k:Bool->Prop):Prop:=Ym (fun(x:Sp×Unit)=>Nw (Prod.fst x)) (fun(x:Sp×Unit)=>KI (Sp.row (Prod.fst x)) (Sp.dims (Prod.fst x))) ps k
abbrev g0s(ps:List PV)(k:Str->Prop):Prop:=Ym (fun(x:Sp×Unit)=>KI (Sp.row (Prod.fst x)) (Sp.dims (Prod.fst x))) (fun(x:Sp×Unit)=>Str.mk (QQ (Sp.row (Prod.fst x)) (Sp.dims (Prod.fst x)))) ps k
abbrev g0u(ps:List PV)(k:Bool->Prop):Prop:=Ym (fun(x:Str×Unit)=>decide (List.length (Str.s (Prod.fst x))<=1048576)) (fun(x:Str×Unit)=>evB (Str.s (Prod.fst x))) ps k
abbrev f7d(ps:List PV)(k:Str×Int->Prop):Prop:=Ym (fun(x:Sp×Unit)=>Nw (Prod.fst x)) (fun(x:Sp×Unit)=>Nv (Sp.row (Prod.fst x)) (Sp.dims (Prod.fst x))) ps k
abbrev d4b(ps:List PV)(k:Bool->Prop):Prop:=Ym (fun(x:TyS×Unit)=>yW (Prod.fst x)) (fun(x:TyS×Unit)=>Q5 (Prod.fst x)) ps k
abbrev f7a(ps:List PV)(k:Str->Prop):Prop:=Ym (fun(x:TyS×Unit)=>yW (Prod.fst x)&&Q5 (Prod.fst x)) (fun(x:TyS×Unit)=>Str.mk (tyT (Prod.fst x))) ps k
abbrev g0i(ps:List PV)(k:List Str->Prop):Prop:=Ym (fun(x:Lin×Unit)=>decide (List.length (Lin.t (Prod.fst x))<=1000000)) (fun(x:Lin×Unit)=>Vb (Prod.fst x)) ps k
abbrev Hd(ps:List PV)(k:Bool->Prop):Prop:=Ym (fun(x:List Str×Unit)=>Xi (Prod.fst x)) (fun(x:List Str×Unit)=>List.all (Prod.fst x) fun(s:Str)=>nameI (Str.s s)) ps k
abbrev g0r(ps:List PV)(k:Bool->Prop):Prop:=Ym (fun(x:Lin×Unit)=>Zh (Prod.fst x)) (fun(x:Lin×Unit)=> !Kn (Prod.fst x)) ps k
abbrev f4a(ps:List PV)(k:Int->Prop):Prop:=Ym (fun(x:List Lin×FnV 100×Unit)=>decide (List.length (Prod.fst x)<=1048576)&&List.all (Prod.fst x) Zh) (fun(x:List Lin×FnV 100×Unit)=>Yt (fun(l:Lin)=> !Kn l) (Prod.fst x)) ps k
abbrev ER(ps:List PV)(k:Bool->Prop):Prop:=Ym (fun(x:List Lin×FnV 100×Unit)=>decide (List.length (Prod.fst x)<=1048576)&&List.all (Prod.fst x) Zh) (fun(x:List Lin×FnV 100×Unit)=>List.any (Prod.fst x) fun(l:Lin)=> !Kn l) ps k
abbrev f3s(ps:List PV)(k:Bool->Prop):Prop:=Ym (fun(x:TyS×Unit)=>yW (Prod.fst x)) (fun(x:TyS×Unit)=>Y5 (Prod.fst x)) ps k
abbrev e1x(ps:List PV)(k:Bool->Prop):Prop:=Ym (fun(x:Bool×TyS×Unit)=>yW (Prod.fst (Prod.snd x))) (fun(x:Bool×TyS×Unit)=>Yz (Prod.fst x) (Prod.fst (Prod.snd x))) ps k
abbrev f4u(ps:List PV)(k:Bool->Prop):Prop:=Ym (fun(x:Pm×Unit)=>pW (Prod.fst x)) (fun(x:Pm×Unit)=> !BL (Prod.fst x)) ps k
abbrev f8a(ps:List PV)(k:Int->Prop):Prop:=Ym (fun(x:List Pm×FnV 33×Unit)=>decide (List.length (Prod.fst x)<=1048576)&&List.all (Prod.fst x) pW) (fun(x:List Pm×FnV 33×Unit)=>Yt (fun(p:Pm)=> !BL p) (Prod.fst x)) ps k
abbrev f9l(ps:List PV)(k:Bool->Prop):Prop:=Ym (fun(x:Tm×Unit)=>tW (Prod.fst x)) (fun(x:Tm×Unit)=>YK (Prod.fst x)) ps k
abbrev f9j(ps:List PV)(k:Bool->Prop):Prop:=Ym (fun(x:List Pm×FnV 33×Unit)=>decide (List.length (Prod.fst x)<=1048576)&&List.all (Prod.fst x) pW) (fun(x:List Pm×FnV 33×Unit)=>List.any (Prod.fst x) fun(p:Pm)=> !BL p) ps k
abbrev f7c(ps:List PV)(k:Str×Int->Prop):Prop:=Ym (fun(x:TyS×Unit)=>yW (Prod.fst x)) (fun(x:TyS×Unit)=>Jc (Prod.fst x)) ps k
abbrev c7y(ps:List PV)(k:Str->Prop):Prop:=Ym (fun(x:Bool×TyS×Unit)=>yW (Prod.fst (Prod.snd x))) (fun(x:Bool×TyS×Unit)=>Str.mk (Jw (Prod.fst x) (Prod.fst (Prod.snd x)))) ps k
abbrev f8h(ps:List PV)(k:Str->Prop):Prop:=Ym (fun(x:Pm×Unit)=>pW (Prod.fst x)) (fun(x:Pm×Unit)=>Str.mk (pmT (Prod.fst x))) ps k
abbrev OC(ps:List PV)(k:Str->Prop):Prop:=Ym (fun(x:List Str×Unit)=>YP (Prod.fst x)) (fun(x:List Str×Unit)=>Yi (Prod.fst x)) ps k
abbrev f5y(ps:List PV)(k:Str->Prop):Prop:=Ym (fun(x:List Pm×FnV 35×Unit)=>decide (List.length (Prod.fst x)<=8)&&List.all (Prod.fst x) pW) (fun(x:List Pm×FnV 35×Unit)=>Yi (List.map Nt (Prod.fst x))) ps k
abbrev f6e(ps:List PV)(k:Str->Prop):Prop:=Ym (fun(x:Tm×Unit)=>tW (Prod.fst x)&&Ya (Prod.fst x)) (fun(x:Tm×Unit)=>Zt (Prod.fst x)) ps k
abbrev e1f(ps:List PV)(k:Bool->Prop):Prop:=Ym (fun(x:Df×Unit)=>dW (Prod.fst x)) (fun(x:Df×Unit)=>ZK (Prod.fst x)) ps k
abbrev d6x(ps:List PV)(k:Str->Prop):Prop:=Ym (fun(x:Df×Unit)=>dW (Prod.fst x)&&ZK (Prod.fst x)) (fun(x:Df×Unit)=>UO (Prod.fst x)) ps k
abbrev d9c(ps:List PV)(k:Str×Int->Prop):Prop:=ceP (fun(x:Str×Unit)=>Qi (Prod.fst x)) ps k
abbrev f6a(ps:List PV)(k:Str->Prop):Prop:=Ym (fun(x:List Str×Str×Unit)=>Pq (Prod.fst x)&&decide (Str.s (Prod.fst (Prod.snd x))=[(10:UInt8)])) (fun(x:List Str×Str×Unit)=>nlS (Prod.fst x)) ps k
noncomputable def d0j:IC:=YI Proofs.Tryz.f133
def d1e:List IRes:=[(.tmp 2)]
abbrev f9g:Nat:=25
def f1r:ZC:=Yh [(158,.pure (preT (fun x:Str×Str×Unit=>decide (x.1.s.length<=1048576)&&decide (x.2.1.s=J5))) (Zi (fun x:Str×Str×Unit=>(⟨PR x.1.s⟩:Str))))]
theorem f1u{G:PV->Prop}(s:List UInt8)(h:if (decide ((↑(List.length s):Int)<1))=true then G ((.bool false))else(if (decide ((↑(List.length s):Int)>30))=true then G ((.bool false))else((decide (0<=0)&&decide (Int.toNat 0<List.length s))=true∧(if (decide ((↑(UInt8.toNat (List.getD s (Int.toNat 0) (0:UInt8))):Int)<65))=true then G ((.bool false))else((decide (0<=0)&&decide (Int.toNat 0<List.length s))=true∧(if (decide ((↑(UInt8.toNat (List.getD s (Int.toNat 0) (0:UInt8))):Int)>90))=true then G ((.bool false))else((decide (0<=1)&&true&&decide (Int.toNat 1<=List.length s)&&decide (List.length s<=List.length s))=true∧((g2o [(.str (List.drop (Int.toNat 1) (List.take (List.length s) s))),(.str [(48:UInt8),(49:UInt8),(50:UInt8),(51:UInt8),(52:UInt8),(53:UInt8),(54:UInt8),(55:UInt8),(56:UInt8),(57:UInt8)])] fun a=>(G ((.bool (Str.s a==[]))))))))))))):Zd f1r 0 (Za d1e G) d0j [] (Zx 25 [.str s]):=Zd.tp (dm [dv Str] 65 0x251100014222120222200542221202222222200942222022222222222200d42) h
noncomputable def d6j:IC:=Ol
def d1i:List IRes:=[(.tmp 2)]
abbrev f5r:Nat:=6
def f0z:ZC:=Yh [(91,.pure (preT (fun x:Lin×Unit=>Xy x.1)) (Zi (fun x:Lin×Unit=>Zh x.1)))]
theorem g2r{G:PV->Prop}(l:Lin)(h:(g1x [(enc l)] fun a=>(G ((.bool !a))))):Zd f0z 0 (Za d1i G) d6j [] (Zx 6 [.agg [enc l.k,enc l.t]]):=Zd.tp (.req (Oe (Bool) (.nil))) h
noncomputable def BX:IC:=HV
def AQ:List IRes:=[(.tmp 4)]
abbrev f8j:Nat:=19
def M8:ZC:=Yh [(159,.pure (preT (fun x:Lin×Unit=>Xy x.1)) (Zi (fun x:Lin×Unit=> !(Zh x.1))))]
abbrev Oa(a:List Lin):Nat×AV:=(0,(.pv (.sl 2 false (List.map enc a))))
theorem g2q{G:PV->Prop}(l:List Lin)(h:At M8 0 (Za AQ G) BX 0 19 [(Oa l),(1,(.pv (.fn 159))),(7,(.pv (.int .i64 (↑(List.length (List.map enc l)):Int)))),(8,(.pv (.int .i64 0)))] []):Zd M8 0 (Za AQ G) BX [] (Zx 19 [enc l,.fn 159]):=Zd.tp (.nil) h
theorem d8p{G:PV->Prop}(l:List Lin)(i:Int)(h:if (decide (i<(↑(List.length l):Int)))=true then(Y1 l i 2 fun a=>((g6c [(enc a)] fun b=>(if (b)=true then G ((.int .i64 i))else(At M8 0 (Za AQ G) BX 0 19 [(Oa l),(1,(.pv (.fn 159))),(7,(.pv (.int .i64 (↑(List.length l):Int)))),(8,(.pv (.int .i64 (IntKind.wrap IntKind.i64 (i+1)))))] [])))))else(G ((.int .i64 (-1))))):At M8 0 (Za AQ G) BX 0 19 [(0,.pv (enc l)),(1,.pv (.fn 159)),(7,.pv (.int .i64 l.length)),(8,.pv (.int .i64 i))] []:=At.tp (dm [dr Lin,dv Bool] 19 0x2000146125100c42) h
noncomputable def d0c:IC:=FW
def c9o:List IRes:=[(.tmp 4)]
abbrev f3j:Nat:=9
def f3f:ZC:=Yh [(135,.pure (preT (fun x:List Lin×FnV 159×Unit=>decide (x.1.length<=1048576)&&x.1.all Xy)) (Zi (fun x:List Lin×FnV 159×Unit=>Yt (fun l:Lin=> !(Zh l)) x.1)))]
theorem g6b{G:PV->Prop}(l:List Lin)(h:(g2i [(.sl 2 false (List.map enc l)),(.fn 159)] fun a=>(G ((.bool (decide (a ≥ 0))))))):Zd f3f 0 (Za c9o G) d0c [] (Zx 9 [enc l,.fn 159]):=Zd.tp (.req (Oe (Int) (.lit (.nil)))) h
noncomputable def MJ:IC:=YI Proofs.Tryz.f134
def Ak:List IRes:=[(.tmp 2)]
abbrev c1g:Nat:=23
def Ni:ZC:=Yh [(128,.pure (preT (fun x:Str×Unit=>decide (x.1.s.length<=281474976710656))) (Zi (fun x:Str×Unit=>nameB x.1))),(99,.pure (preT (fun x:List Lin×FnV 159×Unit=>decide (x.1.length<=1048576)&&x.1.all Xy)) (Zi (fun x:List Lin×FnV 159×Unit=>x.1.any fun l:Lin=> !(Zh l))))]
theorem c7n{G:PV->Prop}(r:Str)(l:List Lin)(h:if (Str.s r==[])=true then if (decide ((↑(List.length (List.map enc l)):Int)<=6))=true then(f1f [(.sl 2 false (List.map enc l)),(.fn 159)] fun b=>(G ((.bool !b))))else(G ((.bool false)))else((g6i [(.str (Str.s r))] fun e=>(if (e)=true then if (decide ((↑(List.length (List.map enc l)):Int)<=6))=true then(f1f [(.sl 2 false (List.map enc l)),(.fn 159)] fun a=>(G ((.bool !a))))else(G ((.bool false)))else(G ((.bool false))))))):Zd Ni 0 (Za Ak G) MJ [] (Zx 23 [.agg [enc r,enc l]]):=Zd.tp (dm [dv Bool] 71 0x222222222022220225122007422222015425122022220225122007422222222201942) h
noncomputable def V3:IC:=YI Proofs.Tryz.f160
def Vh:List IRes:=[(.tmp 2)]
abbrev e1a:Nat:=32
def UD:ZC:=Yh [(58,.pure (preT (fun x:Lin×Unit=>Wn x.1)) (Zi (fun x:Lin×Unit=>(⟨ZE x.1⟩:Str)))),(19,.pure (preT (fun x:List Str×Str×Unit=>YP x.1&&decide (x.2.1.s=[44,32]))) (Zi (fun x:List Str×Str×Unit=>Yi x.1)))]
abbrev FK(a:List Lin):Nat×AV:=(16,(.pv (.sl 2 false (List.map enc a))))
theorem e7c{G:PV->Prop}(r:Str)(l:List Lin)(h:if (!Str.s r==[])=true then Zz (Str.s r) [(46:UInt8),(46:UInt8)]∧(At UD 0 (Za Vh G) V3 0 32 [(3,(.row 0 1 0 1)),(FK l),(17,(.pv (.int .i64 (↑(List.length (List.map enc l)):Int)))),(18,(.pv (.int .i64 0)))] [(.obj (.row false 9 1 [(.str (Str.s r++[(46:UInt8),(46:UInt8)]))]))])else(At UD 0 (Za Vh G) V3 0 32 [(3,(.pv (.sl 0 true []))),(FK l),(17,(.pv (.int .i64 (↑(List.length (List.map enc l)):Int)))),(18,(.pv (.int .i64 0)))] [])):Zd UD 0 (Za Vh G) V3 [] (Zx 32 [.agg [enc r,enc l]]):=Zd.tp (dm [] 14 0x22222100742) h
theorem Ff{G:PV->Prop}(r:Str)(l:List Lin)(i:Int)(h:if (decide (i<(↑(List.length l):Int)))=true then(Y1 l i 2 fun b=>((f2g [(enc b)] fun e=>(At UD 0 (Za Vh G) V3 0 32 [(3,(.row 0 1 0 1)),(FK l),(17,(.pv (.int .i64 (↑(List.length l):Int)))),(18,(.pv (.int .i64 (IntKind.wrap IntKind.i64 (i+1)))))] [(.obj (.row false 9 1 [(.str (Str.s e))]))]))))else(g1q [(.sl 0 true []),(.str [(44:UInt8),(32:UInt8)])] fun a=>(Zz [(91:UInt8)] (Str.s a)∧(Zz ([(91:UInt8)]++Str.s a) [(93:UInt8)]∧(G ((.str ([(91:UInt8)]++Str.s a++[(93:UInt8)])))))))):At UD 0 (Za Vh G) V3 0 32 [(3,.pv (.sl 0 true [])),(16,.pv (enc l)),(17,.pv (.int .i64 l.length)),(18,.pv (.int .i64 i))] []:=At.tp (dm [dr Lin,dv Str] 23 0x116202222226125100c42) h
theorem Mh{G:PV->Prop}(r:Str)(l:List Lin)(i:Int)(k:Nat)(o:List Str)(h:if (decide (i<(↑(List.length l):Int)))=true then(Y1 l i 2 fun e=>((f2g [(enc e)] fun a=>((List.length (List.map enc o)==k&&k==k&&decide ((k+List.length (List.drop 0 (List.take 1 [enc a])))*16<=1099511627776)&&decide (k+List.length (List.drop 0 (List.take 1 [enc a]))<=1099511627776))=true∧(At UD 0 (Za Vh G) V3 0 32 [(3,(.row 0 (k+List.length (List.drop 0 (List.take 1 [enc a]))) 0 (k+List.length (List.drop 0 (List.take 1 [enc a]))))),(FK l),(17,(.pv (.int .i64 (↑(List.length l):Int)))),(18,(.pv (.int .i64 (IntKind.wrap IntKind.i64 (i+1)))))] [(.obj (.row false 9 1 (List.map enc o++List.drop 0 (List.take 1 [enc a]))))])))))else((List.length (List.map enc o)==k)=true∧((g4g [(.sl 1 false (List.drop 0 (List.take k (List.map enc o)))),(.str [(44:UInt8),(32:UInt8)])] fun b=>(Zz [(91:UInt8)] (Str.s b)∧(Zz ([(91:UInt8)]++Str.s b) [(93:UInt8)]∧(G ((.str ([(91:UInt8)]++Str.s b++[(93:UInt8)])))))))))):At UD 0 (Za Vh G) V3 0 32 [(3,.row 0 k 0 k),(16,.pv (enc l)),(17,.pv (.int .i64 l.length)),(18,.pv (.int .i64 i))] [.obj (.row false 9 1 (o.map enc))]:=At.tp (dm [dr Lin,dv Str] 22 0x11611021226125100a42) h
noncomputable def LZ:IC:=YI Proofs.Tryz.f136
def Lm:List IRes:=[(.tmp 2),(.tmp 3)]
abbrev c1y:Nat:=9
def a3b:ZC:=Yh [(134,.pure (preT (fun x:Sp×Unit=>Nw x.1)) (Zi (fun x:Sp×Unit=>KI x.1.row x.1.dims))),(160,.pure (preT (fun x:Sp×Unit=>KI x.1.row x.1.dims)) (Zi (fun x:Sp×Unit=>(⟨QQ x.1.row x.1.dims⟩:Str))))]
theorem d4r{G:PV->Prop}(r:Str)(l:List Lin)(h:(b7l [(enc (Sp.mk r l))] fun a=>(if (!a)=true then G ((.tup [(.str []),(.int .i64 1)]))else((g0s [(enc (Sp.mk r l))] fun b=>(G ((.tup [(.str (Str.s b)),(.int .i64 0)])))))))):Zd a3b 0 (Za Lm G) LZ [] (Zx 9 [.agg [enc r,enc l]]):=Zd.tp (dm [dv Bool,dv Str] 11 0x610001451) h
noncomputable def Fg:IC:=YI Proofs.Tryz.f98
def Lx:List IRes:=[(.tmp 2)]
abbrev c2f:Nat:=21
def a6l:ZC:=Yh [(133,.pure (preT (fun x:Str×Unit=>decide (x.1.s.length<=1048576))) (Zi (fun x:Str×Unit=>evB x.1.s))),(134,.pure (preT (fun x:Sp×Unit=>Nw x.1)) (Zi (fun x:Sp×Unit=>KI x.1.row x.1.dims)))]
theorem d0g{G:PV->Prop}(t:TyS)(h:if (Str.s (TyS.elem t)==[(105:UInt8),(110:UInt8),(116:UInt8)])=true then(b7l [(enc (Sp.mk (TyS.row t) (TyS.dims t)))] fun b=>(G ((.bool b))))else(if (Str.s (TyS.elem t)==[(98:UInt8),(111:UInt8),(111:UInt8),(108:UInt8)])=true then(b7l [(enc (Sp.mk (TyS.row t) (TyS.dims t)))] fun g=>(G ((.bool g))))else((g0u [(.str (Str.s (TyS.elem t)))] fun a=>(if (a)=true then(b7l [(enc (Sp.mk (TyS.row t) (TyS.dims t)))] fun e=>(G ((.bool e))))else(G ((.bool false)))))))):Zd a6l 0 (Za Lx G) Fg [] (Zx 21 [.agg [enc t.elem,enc t.row,enc t.dims]]):=Zd.tp (dm [dv Bool] 57 0x222025122006425122025122222200a422220251222222222200e42) h
noncomputable def a7b:IC:=YI Proofs.Tryz.f102
def a2l:List IRes:=[(.tmp 2)]
abbrev d4f:Nat:=19
def b8r:ZC:=Yh [(136,.pure (preT (fun x:Sp×Unit=>Nw x.1)) (Zi (fun x:Sp×Unit=>Nv x.1.row x.1.dims)))]
theorem e3h{G:PV->Prop}(t:TyS)(h:(f7d [(enc (Sp.mk (TyS.row t) (TyS.dims t)))] fun a=>(if (Str.s a.1==[(91:UInt8),(93:UInt8)])=true then G ((.str (Str.s (TyS.elem t))))else(Zz (Str.s a.1) (Str.s (TyS.elem t))∧(G ((.str (Str.s a.1++Str.s (TyS.elem t))))))))):Zd b8r 0 (Za a2l G) a7b [] (Zx 19 [.agg [enc t.elem,enc t.row,enc t.dims]]):=Zd.tp (dm [dv (Str×Int)] 11 0x100014251) h
noncomputable def Fy:IC:=YI Proofs.Tryz.f66
def Fa:List IRes:=[(.tmp 2),(.tmp 3)]
abbrev c2i:Nat:=9
def a6c:ZC:=Yh [(98,.pure (preT (fun x:TyS×Unit=>yW x.1)) (Zi (fun x:TyS×Unit=>Q5 x.1))),(102,.pure (preT (fun x:TyS×Unit=>yW x.1&&Q5 x.1)) (Zi (fun x:TyS×Unit=>(⟨tyT x.1⟩:Str))))]
theorem d9q{G:PV->Prop}(t:TyS)(h:(d4b [(enc t)] fun a=>(if (!a)=true then G ((.tup [(.str []),(.int .i64 1)]))else((f7a [(enc t)] fun b=>(G ((.tup [(.str (Str.s b)),(.int .i64 0)])))))))):Zd a6c 0 (Za Fa G) Fy [] (Zx 9 [.agg [enc t.elem,enc t.row,enc t.dims]]):=Zd.tp (dm [dv Bool,dv Str] 11 0x610001451) h
noncomputable def b3z:IC:=YI Proofs.Tryz.f100
def b7j:List IRes:=[(.tmp 2)]
abbrev e4u:Nat:=7
def c8j:ZC:=Yh [(101,.pure (preT (fun x:Lin×Unit=>decide (x.1.t.length<=1000000))) (Zi (fun x:Lin×Unit=>Vb x.1))),(14,.pure (preT (fun x:List Str×Unit=>Xi x.1)) (Zi (fun x:List Str×Unit=>x.1.all fun s:Str=>nameI s.s)))]
theorem f4q{G:PV->Prop}(l:Lin)(h:(g0i [(enc l)] fun a=>((Hd [(.sl 1 false (List.map enc a))] fun b=>(G ((.bool !b))))))):Zd c8j 0 (Za b7j G) b3z [] (Zx 7 [.agg [enc l.k,enc l.t]]):=Zd.tp (.req (Oe (List Str) (.req (Oe (Bool) (.nil))))) h
noncomputable def Su:IC:=HV
def Am:List IRes:=[(.tmp 4)]
abbrev g0w:Nat:=19
def MP:ZC:=Yh [(100,.pure (preT (fun x:Lin×Unit=>Zh x.1)) (Zi (fun x:Lin×Unit=> !(Kn x.1))))]
theorem g3w{G:PV->Prop}(l:List Lin)(h:At MP 0 (Za Am G) Su 0 19 [(Oa l),(1,(.pv (.fn 100))),(7,(.pv (.int .i64 (↑(List.length (List.map enc l)):Int)))),(8,(.pv (.int .i64 0)))] []):Zd MP 0 (Za Am G) Su [] (Zx 19 [enc l,.fn 100]):=Zd.tp (.nil) h
theorem d5g{G:PV->Prop}(l:List Lin)(i:Int)(h:if (decide (i<(↑(List.length l):Int)))=true then(Y1 l i 2 fun a=>((g0r [(enc a)] fun b=>(if (b)=true then G ((.int .i64 i))else(At MP 0 (Za Am G) Su 0 19 [(Oa l),(1,(.pv (.fn 100))),(7,(.pv (.int .i64 (↑(List.length l):Int)))),(8,(.pv (.int .i64 (IntKind.wrap IntKind.i64 (i+1)))))] [])))))else(G ((.int .i64 (-1))))):At MP 0 (Za Am G) Su 0 19 [(0,.pv (enc l)),(1,.pv (.fn 100)),(7,.pv (.int .i64 l.length)),(8,.pv (.int .i64 i))] []:=At.tp (dm [dr Lin,dv Bool] 19 0x2000146125100c42) h
noncomputable def d9p:IC:=FW
def c6c:List IRes:=[(.tmp 4)]
abbrev f5f:Nat:=9
def f1y:ZC:=Yh [(135,.pure (preT (fun x:List Lin×FnV 100×Unit=>decide (x.1.length<=1048576)&&x.1.all Zh)) (Zi (fun x:List Lin×FnV 100×Unit=>Yt (fun l:Lin=> !(Kn l)) x.1)))]
theorem g1w{G:PV->Prop}(l:List Lin)(h:(f4a [(.sl 2 false (List.map enc l)),(.fn 100)] fun a=>(G ((.bool (decide (a ≥ 0))))))):Zd f1y 0 (Za c6c G) d9p [] (Zx 9 [enc l,.fn 100]):=Zd.tp (.req (Oe (Int) (.lit (.nil)))) h
noncomputable def Ms:IC:=YI Proofs.Tryz.f64
def BM:List IRes:=[(.tmp 2)]
abbrev c3n:Nat:=35
def P9:ZC:=Yh [(98,.pure (preT (fun x:TyS×Unit=>yW x.1)) (Zi (fun x:TyS×Unit=>Q5 x.1))),(14,.pure (preT (fun x:List Str×Unit=>Xi x.1)) (Zi (fun x:List Str×Unit=>x.1.all fun s:Str=>nameI s.s))),(99,.pure (preT (fun x:List Lin×FnV 100×Unit=>decide (x.1.length<=1048576)&&x.1.all Zh)) (Zi (fun x:List Lin×FnV 100×Unit=>x.1.any fun l:Lin=> !(Kn l))))]
theorem e1w{G:PV->Prop}(t:TyS)(h:(d4b [(enc t)] fun i=>(if (!i)=true then G ((.bool false))else(if (!Str.s (TyS.elem t)==[(105:UInt8),(110:UInt8),(116:UInt8)])=true then if (!Str.s (TyS.elem t)==[(98:UInt8),(111:UInt8),(111:UInt8),(108:UInt8)])=true then G ((.bool false))else(if (!Str.s (TyS.row t)==[])=true then(Hd [(.sl 1 false [(.str (Str.s (TyS.row t)))])] fun j=>(if (!j)=true then G ((.bool false))else((ER [(.sl 2 false (List.map enc (TyS.dims t))),(.fn 100)] fun a=>(G ((.bool !a)))))))else((ER [(.sl 2 false (List.map enc (TyS.dims t))),(.fn 100)] fun e=>(G ((.bool !e))))))else(if (!Str.s (TyS.row t)==[])=true then(Hd [(.sl 1 false [(.str (Str.s (TyS.row t)))])] fun k=>(if (!k)=true then G ((.bool false))else((ER [(.sl 2 false (List.map enc (TyS.dims t))),(.fn 100)] fun g=>(G ((.bool !g)))))))else((ER [(.sl 2 false (List.map enc (TyS.dims t))),(.fn 100)] fun b=>(G ((.bool !b)))))))))):Zd P9 0 (Za BM G) Ms [] (Zx 35 [.agg [enc t.elem,enc t.row,enc t.dims]]):=Zd.tp (dm [dv Bool] 135 0x51222222222051000142222512222220144222222222220512222222220510001422225122222201442222202222222008422222203b422220222222222222200e451) h
noncomputable def Mg:IC:=YI Proofs.Tryz.f31
def Fx:List IRes:=[(.tmp 4)]
abbrev c0t:Nat:=24
def E9:ZC:=Yh [(64,.pure (preT (fun x:TyS×Unit=>yW x.1)) (Zi (fun x:TyS×Unit=>Y5 x.1)))]
theorem c9v{G:PV->Prop}(b:Bool)(t:TyS)(h:if (b)=true then(f3s [(enc t)] fun a=>(G ((.bool a))))else(if (Str.s (TyS.elem t)==[])=true then if (Str.s (TyS.row t)==[])=true then G ((.bool ((↑(List.length (List.map enc (TyS.dims t))):Int)==0)))else(G ((.bool false)))else(G ((.bool false))))):Zd E9 0 (Za Fx G) Mg [] (Zx 24 [.bool b,.agg [enc t.elem,enc t.row,enc t.dims]]):=Zd.tp (dm [dv Bool] 46 0x22222222220222220222222007422222016420510034) h
noncomputable def b6y:IC:=YI Proofs.Tryz.f33
def b5a:List IRes:=[(.tmp 2)]
abbrev e5l:Nat:=16
def d8k:ZC:=Yh [(14,.pure (preT (fun x:List Str×Unit=>Xi x.1)) (Zi (fun x:List Str×Unit=>x.1.all fun s:Str=>nameI s.s))),(31,.pure (preT (fun x:Bool×TyS×Unit=>yW x.2.1)) (Zi (fun x:Bool×TyS×Unit=>Yz x.1 x.2.1)))]
theorem f7g{G:PV->Prop}(p:Pm)(h:(Hd [(.sl 1 false [(.str (Str.s (Pm.name p)))])] fun a=>(if (!a)=true then G ((.bool true))else((e1x [(.bool (Pm.given p)),(enc (Pm.ty p))] fun b=>(G ((.bool !b)))))))):Zd d8k 0 (Za b5a G) b6y [] (Zx 16 [.agg [enc p.name,enc p.given,enc p.ty.elem,enc p.ty.row,enc p.ty.dims]]):=Zd.tp (dm [dv Bool] 25 0x22512222022222200745122) h
noncomputable def Sb:IC:=YI Proofs.Tryz.f65
def Sv:List IRes:=[(.tmp 4)]
abbrev f6t:Nat:=19
def M4:ZC:=Yh [(33,.pure (preT (fun x:Pm×Unit=>pW x.1)) (Zi (fun x:Pm×Unit=> !(BL x.1))))]
theorem g1m{G:PV->Prop}(l:List Pm)(h:At M4 0 (Za Sv G) Sb 0 19 [(0,(.pv (.sl 5 false (List.map enc l)))),(1,(.pv (.fn 33))),(7,(.pv (.int .i64 (↑(List.length (List.map enc l)):Int)))),(8,(.pv (.int .i64 0)))] []):Zd M4 0 (Za Sv G) Sb [] (Zx 19 [enc l,.fn 33]):=Zd.tp (.nil) h
theorem d2c{G:PV->Prop}(l:List Pm)(i:Int)(h:if (decide (i<(↑(List.length l):Int)))=true then(Y1 l i 5 fun a=>((f4u [(enc a)] fun b=>(if (b)=true then G ((.int .i64 i))else(At M4 0 (Za Sv G) Sb 0 19 [(0,(.pv (.sl 5 false (List.map enc l)))),(1,(.pv (.fn 33))),(7,(.pv (.int .i64 (↑(List.length l):Int)))),(8,(.pv (.int .i64 (IntKind.wrap IntKind.i64 (i+1)))))] [])))))else(G ((.int .i64 (-1))))):At M4 0 (Za Sv G) Sb 0 19 [(0,.pv (enc l)),(1,.pv (.fn 33)),(7,.pv (.int .i64 l.length)),(8,.pv (.int .i64 i))] []:=At.tp (dm [dr Pm,dv Bool] 19 0x2000146125100c42) h
noncomputable def d3r:IC:=YI Proofs.Tryz.f32
def d3u:List IRes:=[(.tmp 4)]
abbrev g0k:Nat:=9
def f1i:ZC:=Yh [(65,.pure (preT (fun x:List Pm×FnV 33×Unit=>decide (x.1.length<=1048576)&&x.1.all pW)) (Zi (fun x:List Pm×FnV 33×Unit=>Yt (fun p:Pm=> !(BL p)) x.1)))]
theorem g4d{G:PV->Prop}(l:List Pm)(h:(f8a [(.sl 5 false (List.map enc l)),(.fn 33)] fun a=>(G ((.bool (decide (a ≥ 0))))))):Zd f1i 0 (Za d3u G) d3r [] (Zx 9 [enc l,.fn 33]):=Zd.tp (.req (Oe (Int) (.lit (.nil)))) h
noncomputable def L8:IC:=YI Proofs.Tryz.f16
def Ar:List IRes:=[(.tmp 2)]
abbrev c4l:Nat:=31
def PH:ZC:=Yh [(14,.pure (preT (fun x:List Str×Unit=>Xi x.1)) (Zi (fun x:List Str×Unit=>x.1.all fun s:Str=>nameI s.s))),(31,.pure (preT (fun x:Bool×TyS×Unit=>yW x.2.1)) (Zi (fun x:Bool×TyS×Unit=>Yz x.1 x.2.1))),(26,.pure (preT (fun x:Tm×Unit=>tW x.1)) (Zi (fun x:Tm×Unit=>YK x.1))),(32,.pure (preT (fun x:List Pm×FnV 33×Unit=>decide (x.1.length<=1048576)&&x.1.all pW)) (Zi (fun x:List Pm×FnV 33×Unit=>x.1.any fun p:Pm=> !(BL p))))]
theorem d1m{G:PV->Prop}(d:Df)(h:(Hd [(.sl 1 false [(.str (Str.s (Df.name d)))])] fun b=>(if (b)=true then if (decide ((↑(List.length (List.map enc (Df.ps d))):Int)<=8))=true then(e1x [(.bool (Df.given d)),(enc (Df.res d))] fun g=>(if (g)=true then(f9l (Dc (Df.n d) (Df.ks d)) fun a=>(if (a)=true then(f9j [(.sl 5 false (List.map enc (Df.ps d))),(.fn 33)] fun e=>(G ((.bool !e))))else(G ((.bool false)))))else(G ((.bool false)))))else(G ((.bool false)))else(G ((.bool false)))))):Zd PH 0 (Za Ar G) L8 [] (Zx 31 [.agg [enc d.name,enc d.line,enc d.ps,enc d.given,enc d.res.elem,enc d.res.row,enc d.res.dims,enc d.n.kind,enc d.n.line,enc d.n.name,enc d.n.num,enc d.n.elem,enc d.n.dims,enc d.n.data,enc d.n.sizes,enc d.n.ranks,enc d.ks]]):=Zd.tp (dm [dv Bool] 94 0x22222222222222222220222222222222220222222220222202251220074251220154251222202942222204145122) h
noncomputable def Lu:IC:=YI Proofs.Tryz.f36
def Le:List IRes:=[(.tmp 4)]
abbrev c2x:Nat:=16
def a5i:ZC:=Yh [(66,.pure (preT (fun x:TyS×Unit=>yW x.1)) (Zi (fun x:TyS×Unit=>Jc x.1)))]
theorem d8m{G:PV->Prop}(b:Bool)(t:TyS)(h:if (!b)=true then G ((.str []))else((f7c [(enc t)] fun a=>(Zz [(58:UInt8),(32:UInt8)] (Str.s a.1)∧(G ((.str ([(58:UInt8),(32:UInt8)]++Str.s a.1)))))))):Zd a5i 0 (Za Le G) Lu [] (Zx 16 [.bool b,.agg [enc t.elem,enc t.row,enc t.dims]]):=Zd.tp (dm [dv (Str×Int)] 10 0x15100014) h
noncomputable def b4i:IC:=YI Proofs.Tryz.f35
def b5z:List IRes:=[(.tmp 2)]
abbrev e4i:Nat:=11
def d5z:ZC:=Yh [(36,.pure (preT (fun x:Bool×TyS×Unit=>yW x.2.1)) (Zi (fun x:Bool×TyS×Unit=>(⟨Jw x.1 x.2.1⟩:Str))))]
theorem g1b{G:PV->Prop}(p:Pm)(h:(c7y [(.bool (Pm.given p)),(enc (Pm.ty p))] fun a=>(Zz (Str.s (Pm.name p)) (Str.s a)∧(G ((.str (Str.s (Pm.name p)++Str.s a))))))):Zd d5z 0 (Za b5z G) b4i [] (Zx 11 [.agg [enc p.name,enc p.given,enc p.ty.elem,enc p.ty.row,enc p.ty.dims]]):=Zd.tp (.req (Oe (Str) (.req (.nil)))) h
noncomputable def GN:IC:=YI Proofs.Tryz.f34
def Gn:List IRes:=[(.tmp 4)]
abbrev e3w:Nat:=27
def A9:ZC:=Yh [(35,.pure (preT (fun x:Pm×Unit=>pW x.1)) (Zi (fun x:Pm×Unit=>(⟨pmT x.1⟩:Str)))),(15,.pure (preT (fun x:List Str×Unit=>YP x.1)) (Zi (fun x:List Str×Unit=>Yi x.1)))]
theorem f9f{G:PV->Prop}(l:List Pm)(h:(decide (0<=(↑(List.length (List.map enc l)):Int))&&(↑(List.length (List.map enc l)):Int)==(↑(List.length (List.map enc l)):Int)&&decide ((↑(List.length (List.map enc l)):Int)*(↑16:Int)<=1099511627776)&&decide ((↑(List.length (List.map enc l)):Int)<=1099511627776))=true∧(At A9 0 (Za Gn G) GN 0 27 [(1,(.pv (.fn 35))),(5,(.row 0 (Int.toNat (↑(List.length (List.map enc l)):Int)) 0 (Int.toNat (↑(List.length (List.map enc l)):Int)))),(11,(.pv (.sl 5 false (List.map enc l)))),(12,(.pv (.int .i64 (↑(List.length (List.map enc l)):Int)))),(13,(.pv (.int .i64 0)))] [(.obj (.row false 9 1 (List.replicate (Int.toNat (↑(List.length (List.map enc l)):Int)) (PV.str []))))])):Zd A9 0 (Za Gn G) GN [] (Zx 27 [enc l,.fn 35]):=Zd.tp (.req (.nil)) h
theorem b7r{G:PV->Prop}(l:List Pm)(i:Int)(o:List Str)(h:if (decide (i<(↑(List.length l):Int)))=true then(Y1 l i 5 fun e=>((f8h [(enc e)] fun a=>((decide (0<=i)&&decide (0+Int.toNat i<List.length l)&&List.length (List.map enc o)==List.length l)=true∧((List.length (List.map enc o)==List.length l&&decide (0+Int.toNat i<List.length (List.map enc o))&&List.length (PV.cells (enc a))==1&&decide (0+1<=List.length (PV.cells (List.getD (List.map enc o) (0+Int.toNat i) default)))&&PV.cellsOk (enc a))=true∧(At A9 0 (Za Gn G) GN 0 27 [(1,(.pv (.fn 35))),(5,(.row 0 (List.length l) 0 (List.length l))),(11,(.pv (.sl 5 false (List.map enc l)))),(12,(.pv (.int .i64 (↑(List.length l):Int)))),(13,(.pv (.int .i64 (IntKind.wrap IntKind.i64 (i+1)))))] [(.obj (.row false 9 1 (List.set (List.map enc o) (0+Int.toNat i) (PV.withCells (List.getD (List.map enc o) (0+Int.toNat i) default) (splice (PV.cells (List.getD (List.map enc o) (0+Int.toNat i) default)) 0 (PV.cells (enc a)))))))]))))))else((List.length (List.map enc o)==List.length l)=true∧((OC [(.sl 1 false (List.drop 0 (List.take (List.length l) (List.map enc o))))] fun b=>(G ((.str (Str.s b)))))))):At A9 0 (Za Gn G) GN 0 27 [(1,.pv (.fn 35)),(5,.row 0 l.length 0 l.length),(11,.pv (enc l)),(12,.pv (.int .i64 l.length)),(13,.pv (.int .i64 i))] [.obj (.row false 9 1 (o.map enc))]:=At.tp (dm [dr Pm,dv Str] 20 0x611021316125100a42) h
noncomputable def a4n:IC:=YI Proofs.Tryz.f17
def a4x:List IRes:=[(.tmp 2)]
abbrev e2m:Nat:=25
def b6h:ZC:=Yh [(34,.pure (preT (fun x:List Pm×FnV 35×Unit=>decide (x.1.length<=8)&&x.1.all pW)) (Zi (fun x:List Pm×FnV 35×Unit=>Yi (x.1.map Nt)))),(36,.pure (preT (fun x:Bool×TyS×Unit=>yW x.2.1)) (Zi (fun x:Bool×TyS×Unit=>(⟨Jw x.1 x.2.1⟩:Str)))),(27,.pure (preT (fun x:Tm×Unit=>tW x.1&&Ya x.1)) (Zi (fun x:Tm×Unit=>Zt x.1)))]
theorem e5q{G:PV->Prop}(d:Df)(h:(f5y [(.sl 5 false (List.map enc (Df.ps d))),(.fn 35)] fun a=>(Zz [(100:UInt8),(101:UInt8),(102:UInt8),(32:UInt8)] (Str.s (Df.name d))∧(Zz ([(100:UInt8),(101:UInt8),(102:UInt8),(32:UInt8)]++Str.s (Df.name d)) [(40:UInt8)]∧(Zz ([(100:UInt8),(101:UInt8),(102:UInt8),(32:UInt8)]++Str.s (Df.name d)++[(40:UInt8)]) (Str.s a)∧(Zz ([(100:UInt8),(101:UInt8),(102:UInt8),(32:UInt8)]++Str.s (Df.name d)++[(40:UInt8)]++Str.s a) [(41:UInt8)]∧((c7y [(.bool (Df.given d)),(enc (Df.res d))] fun b=>(Zz ([(100:UInt8),(101:UInt8),(102:UInt8),(32:UInt8)]++Str.s (Df.name d)++[(40:UInt8)]++Str.s a++[(41:UInt8)]) (Str.s b)∧(Zz ([(100:UInt8),(101:UInt8),(102:UInt8),(32:UInt8)]++Str.s (Df.name d)++[(40:UInt8)]++Str.s a++[(41:UInt8)]++Str.s b) [(32:UInt8),(61:UInt8),(32:UInt8)]∧((f6e (Dc (Df.n d) (Df.ks d)) fun e=>(Zz ([(100:UInt8),(101:UInt8),(102:UInt8),(32:UInt8)]++Str.s (Df.name d)++[(40:UInt8)]++Str.s a++[(41:UInt8)]++Str.s b++[(32:UInt8),(61:UInt8),(32:UInt8)]) (Str.s e)∧(G ((.str ([(100:UInt8),(101:UInt8),(102:UInt8),(32:UInt8)]++Str.s (Df.name d)++[(40:UInt8)]++Str.s a++[(41:UInt8)]++Str.s b++[(32:UInt8),(61:UInt8),(32:UInt8)]++Str.s e))))))))))))))))):Zd b6h 0 (Za a4x G) a4n [] (Zx 25 [.agg [enc d.name,enc d.line,enc d.ps,enc d.given,enc d.res.elem,enc d.res.row,enc d.res.dims,enc d.n.kind,enc d.n.line,enc d.n.name,enc d.n.num,enc d.n.elem,enc d.n.dims,enc d.n.data,enc d.n.sizes,enc d.n.ranks,enc d.ks]]):=Zd.tp (dm [dv Str] 15 0x1511151111151) h
noncomputable def b9h:IC:=YI Proofs.Tryz.f10
def b5f:List IRes:=[(.tmp 2),(.tmp 3)]
abbrev e6i:Nat:=12
def c9p:ZC:=Yh [(16,.pure (preT (fun x:Df×Unit=>dW x.1)) (Zi (fun x:Df×Unit=>ZK x.1))),(17,.pure (preT (fun x:Df×Unit=>dW x.1&&ZK x.1)) (Zi (fun x:Df×Unit=>UO x.1))),(18,.pure (preT (fun _:Str×Unit=>true)) (Zi (fun x:Str×Unit=>Qi x.1)))]
theorem f4n{G:PV->Prop}(d:Df)(h:(e1f [(enc d)] fun b=>(if (!b)=true then G ((.tup [(.str []),(.int .i64 1)]))else((d6x [(enc d)] fun e=>(d9c [(.str (Str.s e))] fun a=>(G ((.tup [(.str (Str.s a.1)),(.int .i64 a.2)]))))))))):Zd c9p 0 (Za b5f G) b9h [] (Zx 12 [.agg [enc d.name,enc d.line,enc d.ps,enc d.given,enc d.res.elem,enc d.res.row,enc d.res.dims,enc d.n.kind,enc d.n.line,enc d.n.name,enc d.n.num,enc d.n.elem,enc d.n.dims,enc d.n.data,enc d.n.sizes,enc d.n.ranks,enc d.ks]]):=Zd.tp (dm [dv Bool,dv Str,dv (Str×Int)] 13 0x72610001451) h
noncomputable def Ux:IC:=YI Proofs.Tryz.f7
def Ud:List IRes:=[(.tmp 2),(.tmp 3)]
abbrev e3a:Nat:=90
def QV:ZC:=Yh [(14,.pure (preT (fun x:List Str×Unit=>Xi x.1)) (Zi (fun x:List Str×Unit=>x.1.all fun s:Str=>nameI s.s))),(15,.pure (preT (fun x:List Str×Unit=>YP x.1)) (Zi (fun x:List Str×Unit=>Yi x.1))),(16,.pure (preT (fun x:Df×Unit=>dW x.1)) (Zi (fun x:Df×Unit=>ZK x.1))),(17,.pure (preT (fun x:Df×Unit=>dW x.1&&ZK x.1)) (Zi (fun x:Df×Unit=>UO x.1))),(19,.pure (preT (fun x:List Str×Str×Unit=>Pq x.1&&decide (x.2.1.s=[10]))) (Zi (fun x:List Str×Str×Unit=>nlS x.1))),(18,.pure (preT (fun _:Str×Unit=>true)) (Zi (fun x:Str×Unit=>Qi x.1)))]
abbrev Ps(a:Mdu):Nat×AV:=(69,(.pv (.sl 17 false (List.map enc (Mdu.ds a)))))
theorem f6q{G:PV->Prop}(m:Mdu)(h:(Hd [(.sl 1 false [(.str (Str.s (Mdu.name m)))])] fun i=>(if (!i)=true then G ((.tup [(.str []),(.int .i64 1)]))else((Hd [(.sl 1 false (List.map enc (Mdu.im m)))] fun j=>(if (!j)=true then G ((.tup [(.str []),(.int .i64 1)]))else((Hd [(.sl 1 false (List.map enc (Mdu.ex m)))] fun g=>(if (!g)=true then G ((.tup [(.str []),(.int .i64 1)]))else(if (decide ((↑(List.length (List.map enc (Mdu.im m))):Int)>20))=true then G ((.tup [(.str []),(.int .i64 1)]))else(if (decide ((↑(List.length (List.map enc (Mdu.ex m))):Int)>60))=true then G ((.tup [(.str []),(.int .i64 1)]))else(if (decide ((↑(List.length (List.map enc (Mdu.ds m))):Int)>60))=true then G ((.tup [(.str []),(.int .i64 1)]))else(Zz [(109:UInt8),(111:UInt8),(100:UInt8),(117:UInt8),(108:UInt8),(101:UInt8),(32:UInt8)] (Str.s (Mdu.name m))∧(if (decide ((↑(List.length (List.map enc (Mdu.im m))):Int)>0))=true then(OC [(.sl 1 false (List.map enc (Mdu.im m)))] fun a=>(Zz [(105:UInt8),(109:UInt8),(112:UInt8),(111:UInt8),(114:UInt8),(116:UInt8),(32:UInt8)] (Str.s a)∧(if (decide ((↑(List.length (List.map enc (Mdu.ex m))):Int)>0))=true then(OC [(.sl 1 false (List.map enc (Mdu.ex m)))] fun e=>(Zz [(101:UInt8),(120:UInt8),(112:UInt8),(111:UInt8),(114:UInt8),(116:UInt8),(32:UInt8)] (Str.s e)∧(At QV 0 (Za Ud G) Ux 0 90 [(4,(.row 0 3 0 3)),(Ps m),(70,(.pv (.int .i64 (↑(List.length (List.map enc (Mdu.ds m))):Int)))),(71,(.pv (.int .i64 0)))] [(.obj (.row false 9 1 [(.str ([(109:UInt8),(111:UInt8),(100:UInt8),(117:UInt8),(108:UInt8),(101:UInt8),(32:UInt8)]++Str.s (Mdu.name m))),(.str ([(105:UInt8),(109:UInt8),(112:UInt8),(111:UInt8),(114:UInt8),(116:UInt8),(32:UInt8)]++Str.s a)),(.str ([(101:UInt8),(120:UInt8),(112:UInt8),(111:UInt8),(114:UInt8),(116:UInt8),(32:UInt8)]++Str.s e))]))])))else(At QV 0 (Za Ud G) Ux 0 90 [(4,(.row 0 2 0 2)),(Ps m),(70,(.pv (.int .i64 (↑(List.length (List.map enc (Mdu.ds m))):Int)))),(71,(.pv (.int .i64 0)))] [(.obj (.row false 9 1 [(.str ([(109:UInt8),(111:UInt8),(100:UInt8),(117:UInt8),(108:UInt8),(101:UInt8),(32:UInt8)]++Str.s (Mdu.name m))),(.str ([(105:UInt8),(109:UInt8),(112:UInt8),(111:UInt8),(114:UInt8),(116:UInt8),(32:UInt8)]++Str.s a))]))]))))else(if (decide ((↑(List.length (List.map enc (Mdu.ex m))):Int)>0))=true then(OC [(.sl 1 false (List.map enc (Mdu.ex m)))] fun b=>(Zz [(101:UInt8),(120:UInt8),(112:UInt8),(111:UInt8),(114:UInt8),(116:UInt8),(32:UInt8)] (Str.s b)∧(At QV 0 (Za Ud G) Ux 0 90 [(4,(.row 0 2 0 2)),(Ps m),(70,(.pv (.int .i64 (↑(List.length (List.map enc (Mdu.ds m))):Int)))),(71,(.pv (.int .i64 0)))] [(.obj (.row false 9 1 [(.str ([(109:UInt8),(111:UInt8),(100:UInt8),(117:UInt8),(108:UInt8),(101:UInt8),(32:UInt8)]++Str.s (Mdu.name m))),(.str ([(101:UInt8),(120:UInt8),(112:UInt8),(111:UInt8),(114:UInt8),(116:UInt8),(32:UInt8)]++Str.s b))]))])))else(At QV 0 (Za Ud G) Ux 0 90 [(4,(.row 0 1 0 1)),(Ps m),(70,(.pv (.int .i64 (↑(List.length (List.map enc (Mdu.ds m))):Int)))),(71,(.pv (.int .i64 0)))] [(.obj (.row false 9 1 [(.str ([(109:UInt8),(111:UInt8),(100:UInt8),(117:UInt8),(108:UInt8),(101:UInt8),(32:UInt8)]++Str.s (Mdu.name m)))]))])))))))))))))))):Zd QV 0 (Za Ud G) Ux [] (Zx 90 [.agg [enc m.name,enc m.im,enc m.ex,enc m.ds]]):=Zd.tp (dm [dv Bool,dv Str] 176 0x222161007420022216100742222161013422100014222220222220064222220222222222200b4222220222222222222222010422512202222222222222222222201542251220222222222222222222222222201a45122) h
theorem b7d{G:PV->Prop}(m:Mdu)(i:Int)(k:Nat)(o:List Str)(h:if (decide (i<(↑(List.length (Mdu.ds m)):Int)))=true then(Y1 (Mdu.ds m) i 17 fun e=>((e1f [(enc e)] fun j=>(if (!j)=true then G ((.tup [(.str []),(.int .i64 1)]))else((d6x [(enc e)] fun a=>((List.length (List.map enc o)==k&&k==k&&decide ((k+List.length (List.drop 0 (List.take 1 [enc a])))*16<=1099511627776)&&decide (k+List.length (List.drop 0 (List.take 1 [enc a]))<=1099511627776))=true∧(At QV 0 (Za Ud G) Ux 0 90 [(4,(.row 0 (k+List.length (List.drop 0 (List.take 1 [enc a]))) 0 (k+List.length (List.drop 0 (List.take 1 [enc a]))))),(Ps m),(70,(.pv (.int .i64 (↑(List.length (Mdu.ds m)):Int)))),(71,(.pv (.int .i64 (IntKind.wrap IntKind.i64 (i+1)))))] [(.obj (.row false 9 1 (List.map enc o++List.drop 0 (List.take 1 [enc a]))))]))))))))else((List.length (List.map enc o)==k)=true∧((f6a [(.sl 1 false (List.drop 0 (List.take k (List.map enc o)))),(.str [(10:UInt8)])] fun b=>(Zz (Str.s b) [(10:UInt8)]∧(d9c [(.str (Str.s b++[(10:UInt8)]))] fun g=>(G ((.tup [(.str (Str.s g.1)),(.int .i64 g.2)]))))))))):At QV 0 (Za Ud G) Ux 0 90 [(4,.row 0 k 0 k),(69,.pv (enc m.ds)),(70,.pv (.int .i64 m.ds.length)),(71,.pv (.int .i64 i))] [.obj (.row false 9 1 (o.map enc))]:=At.tp (dm [dr Df,dv Bool,dv Str,dv (Str×Int)] 30 0x8217110212271000146125101142) h
end Go.Pl
namespace Go.Pl
open Go.RowKit
open Enc (enc dec is)
open EncL (encL decL isL)
theorem TM{α:Type}(p:α->Bool): ∀ l:List α,(!(l.any fun x=> !(p x)))=l.all p
 | []=>rfl
 | a::l=>by rw[List.any_cons,List.all_cons,Bool.not_or,TM p l,Bool.not_not]
theorem d6v(r:List UInt8):(PR r==[])=r.all digB:=by
 rw[Bool.eq_iff_iff,beq_iff_eq,c4b]
theorem e9u: ∀ x:Str×Unit,decide (x.1.s.length<=1048576)=true->Zd f1r 0 (Za d1e (Zf (evB x.1.s))) d0j [] (Zx f9g (encL x)):=by
 rintro⟨⟨s⟩,⟨⟩⟩ h
 cases s with
 | nil=>exact f1u [] (ZT (by decide) (Zl rfl))
 | cons c r=>
  have hl:r.length+1<=1048576:=of_decide_eq_true h
  have e:List.drop (Int.toNat 1) (List.take (List.length (c::r)) (c::r))=r:=by rw[List.take_length];rfl
  have ev:evB (c::r)=(decide (65<=c)&&decide (c<=90)&&r.all digB&&decide (r.length<=29)):=rfl
  refine f1u (c::r) (ZU (by simp;omega) (ZO (fun h1=>Zl ?_) fun h1=>⟨by simp,ZO (fun h2=>Zl ?_) fun h2=>⟨by simp,ZO (fun h3=>Zl ?_) fun h3=>⟨by simp,?_⟩⟩⟩))
  ·rw[ev,decide_eq_false (show ¬ r.length<=29 by rw[List.length_cons]at h1;omega),Bool.and_false]
  ·have h2:(c.toNat:Int)<65:=h2
   rw[ev,decide_eq_false (fun k:(65:UInt8)<=c=>by have:65<=c.toNat:=UInt8.le_iff_toNat_le.1 k;omega)]
   rfl
  ·have h3:(c.toNat:Int)>90:=h3
   rw[ev,decide_eq_false (fun k:c<=(90:UInt8)=>by have:c.toNat<=90:=UInt8.le_iff_toNat_le.1 k;omega),Bool.and_false]
   rfl
  ·rw[e]
   have h2 : ¬ (c.toNat:Int)<65:=h2
   have h3 : ¬ (c.toNat:Int)>90:=h3
   refine⟨Zc ((⟨r⟩:Str),(⟨J5⟩:Str),()) rfl (by show(decide (r.length<=1048576)&&decide (J5=J5))=true;rw[decide_eq_true (by omega),decide_eq_true rfl];rfl),Zb ((⟨r⟩:Str),(⟨J5⟩:Str),()) rfl (Zl ?_)⟩
   show(PR r==[])=_
   rw[d6v,ev,decide_eq_true (show(65:UInt8)<=c from UInt8.le_iff_toNat_le.2 (by show 65<=c.toNat;omega)),decide_eq_true (show c<=(90:UInt8)from UInt8.le_iff_toNat_le.2 (by show c.toNat<=90;omega)),decide_eq_true (show r.length<=29 by rw[List.length_cons]at h1;omega),Bool.and_true]
   rfl
theorem e3s: ∀ x:Lin×Unit,Xy x.1=true->Zd f0z 0 (Za d1i (Zf (!(Zh x.1)))) d6j [] (Zx f5r (encL x)):=by
 rintro⟨l,⟨⟩⟩ h
 exact g2r l ⟨Zc (l,()) rfl h,Zb (l,()) rfl (Zl rfl)⟩
theorem c8y(l:List Lin)(hs : ∀ s∈l,Xy s=true)(hl:l.length<=1048576): ∀ (m i:Nat),m+i=l.length->(∀ j (h:j<l.length),j<i->(!(Zh l[j]))=false) ->
  At M8 0 (Za AQ (Zf (Yt (fun s:Lin=> !(Zh s)) l))) BX 0 19 [(0,.pv (enc l)),(1,.pv (.fn 159)),(7,.pv (.int .i64 l.length)),(8,.pv (.int .i64 i))] []:=by
 intro m
 induction m with
 | zero=>
  intro i hi b
  refine d8p l i (ZU (Yv (by omega)) (UR ?_))
  rw[Gv _ _ (fun j e=>b j e (by omega))]
 | succ m ih=>
  intro i hi b
  have a:i<l.length:=by omega
  refine d8p l i (ZT (Yq a) ⟨Zp a rfl,ZB a ⟨Zc (l[i],()) rfl (hs _ (List.getElem_mem a)),Zb (l[i],()) rfl (YV (fun hb=> ?_) fun hb=> ?_)⟩⟩)
  ·exact UR (GM (fun s:Lin=> !(Zh s)) l i a b hb).symm
  ·rw[next (by omega)]
   refine ih (i+1) (by omega) fun j e hji=> ?_
   by_cases he:j=i
   ·subst he;exact hb
   ·exact b j e (by omega)
theorem e9k: ∀ x:List Lin×FnV 159×Unit,(decide (x.1.length<=1048576)&&x.1.all Xy)=true->Zd M8 0 (Za AQ (Zf (Yt (fun s:Lin=> !(Zh s)) x.1))) BX [] (Zx f8j (encL x)):=by
 rintro⟨l,g,⟨⟩⟩ h
 simp only[Bool.and_eq_true,decide_eq_true_eq,List.all_eq_true]at h
 refine g2q l ?_
 rw[List.length_map]
 exact c8y l h.2 h.1 l.length 0 (by omega) fun j hj hji=>by omega
theorem e9i: ∀ x:List Lin×FnV 159×Unit,(decide (x.1.length<=1048576)&&x.1.all Xy)=true->Zd f3f 0 (Za c9o (Zf (x.1.any fun s:Lin=> !(Zh s)))) d0c [] (Zx f3j (encL x)):=by
 rintro⟨l,g,⟨⟩⟩ h
 exact g6b l ⟨Zc (l,{},()) rfl h,Zb (l,{},()) rfl (Zl (Ww _ _))⟩
structure SpB (r:Str) (l:List Lin):Prop where
 row:r.s.length<=1048576
 len:l.length<=1048576
 lin:l.all Xy=true
theorem spB{r:Str}{l:List Lin}(h:Nw ⟨r,l⟩=true):SpB r l:=by
 unfold Nw at h
 simp only[Bool.and_eq_true,decide_eq_true_eq]at h
 exact⟨h.1.1,h.1.2,h.2⟩
theorem TyB.sp{t:TyS}(h:TyB t):Nw ⟨t.row,t.dims⟩=true:=by
 unfold Nw
 rw[decide_eq_true h.row,decide_eq_true h.dims,List.all_eq_true.2 h.lin];rfl
theorem a7x: ∀ x:Sp×Unit,Nw x.1=true->Zd Ni 0 (Za Ak (Zf (KI x.1.row x.1.dims))) MJ [] (Zx c1g (encL x)):=by
 rintro⟨⟨r,l⟩,⟨⟩⟩ h
 have g:=spB h
 have j:(fun x:List Lin×FnV 159×Unit=>decide (x.1.length<=1048576)&&x.1.all Xy) (l,{},())=true:=by show(decide (l.length<=1048576)&&l.all Xy)=true;rw[decide_eq_true g.len,g.lin];rfl
 show Zd Ni 0 (Za Ak (Zf (KI r l))) _ _ _
 have k:(decide (r.s=[])||nameB r)=true->l.length<=6->(!(l.any fun x=> !(Zh x)))=KI r l:=fun a b=>by unfold KI;rw[TM,a,decide_eq_true b];rfl
 have m : ¬ l.length<=6->false=KI r l:=fun b=>by unfold KI;rw[decide_eq_false b,Bool.and_false];rfl
 refine c7n r l (ZA (fun i=>ZO (fun e=>⟨Zc (l,{},()) rfl j,Zb (l,{},()) rfl (Zl (k (by rw[decide_eq_true i];rfl) (by rw[List.length_map]at e;omega)))⟩) fun e=>Zl (m (by rw[List.length_map]at e;omega))) fun i=>⟨Zc (r,()) rfl (decide_eq_true (by have:=g.row;show r.s.length<=_;omega)),Zb (r,()) rfl (YV (fun hn=>ZO (fun e=>⟨Zc (l,{},()) rfl j,Zb (l,{},()) rfl (Zl (k (by rw[show nameB r=true from hn,Bool.or_true]) (by rw[List.length_map]at e;omega)))⟩) fun e=>Zl (m (by rw[List.length_map]at e;omega))) fun hn=>Zl ?_)⟩)
 have hn:nameB r=false:=hn
 unfold KI
 rw[hn,decide_eq_false i];rfl
theorem b2w: ∀ x:Sp×Unit,Nw x.1=true->Zd a3b 0 (Za Lm (Zf (Nv x.1.row x.1.dims))) LZ [] (Zx c1y (encL x)):=by
 rintro⟨⟨r,l⟩,⟨⟩⟩ h
 refine d4r r l ⟨Zc (⟨r,l⟩,()) rfl h,Zb (⟨r,l⟩,()) rfl (YY (fun a=> ?_) fun a=>⟨Zc (⟨r,l⟩,()) rfl a,Zb (⟨r,l⟩,()) rfl ?_⟩)⟩
 ·have a:KI r l=false:=a
  exact Zg (x:=((⟨[]⟩,1):Str×Int)) (by show _=Nv r l;unfold Nv;rw[a];rfl)
 ·have a:KI r l=true:=a
  exact Zg (x:=((⟨QQ r l⟩,0):Str×Int)) (by show _=Nv r l;unfold Nv;rw[a];rfl)
theorem b1j: ∀ x:TyS×Unit,yW x.1=true->Zd a6l 0 (Za Lx (Zf (Q5 x.1))) Fg [] (Zx c2f (encL x)):=by
 rintro⟨t,⟨⟩⟩ h
 have a:=tyB h
 have y:MW t.elem.s=true->KI t.row t.dims=Q5 t:=fun e=>by unfold Q5;rw[e];rfl
 refine d0g t (ZA (fun h1=>⟨Zc (⟨t.row,t.dims⟩,()) rfl a.sp,Zb (⟨t.row,t.dims⟩,()) rfl (Zl (y ?_))⟩) fun h1=>ZA (fun h2=>⟨Zc (⟨t.row,t.dims⟩,()) rfl a.sp,Zb (⟨t.row,t.dims⟩,()) rfl (Zl (y ?_))⟩) fun h2=>⟨Zc (t.elem,()) rfl (decide_eq_true a.elem),Zb (t.elem,()) rfl (YV (fun h3=>⟨Zc (⟨t.row,t.dims⟩,()) rfl a.sp,Zb (⟨t.row,t.dims⟩,()) rfl (Zl (y ?_))⟩) fun h3=>Zl ?_)⟩)
 ·unfold MW;rw[show t.elem.s=Xa from h1];rfl
 ·unfold MW;rw[show t.elem.s=YN from h2];rfl
 ·unfold MW;rw[show evB t.elem.s=true from h3,Bool.or_true]
 ·have h3:evB t.elem.s=false:=h3
  unfold Q5 MW
  rw[h3,decide_eq_false (show ¬ t.elem.s=Xa from h1),decide_eq_false (show ¬ t.elem.s=YN from h2)];rfl
theorem c0l: ∀ x:TyS×Unit,(yW x.1&&Q5 x.1)=true->Zd b8r 0 (Za a2l (Zf (⟨tyT x.1⟩:Str))) a7b [] (Zx d4f (encL x)):=by
 rintro⟨t,⟨⟩⟩ h
 simp only[Bool.and_eq_true]at h
 have b:=tyB h.1
 have a:Q5 t=true:=h.2
 have hs:KI t.row t.dims=true:=by unfold Q5 at a;rw[Bool.and_eq_true]at a;exact a.2
 have e:Nv t.row t.dims=(⟨QQ t.row t.dims⟩,0):=by unfold Nv;rw[hs];rfl
 refine e3h t ⟨Zc (⟨t.row,t.dims⟩,()) rfl b.sp,Zb (⟨t.row,t.dims⟩,()) rfl ?_⟩
 rw[show Nv (((⟨t.row,t.dims⟩,()):Sp×Unit).1).row (((⟨t.row,t.dims⟩,()):Sp×Unit).1).dims=_ from e]
 have l1:=Bv hs
 refine ZA (fun h1=>Zg (x:=t.elem) ?_) fun h1=>⟨Zj (by have:=b.elem;show(QQ t.row t.dims).length+t.elem.s.length<=_;omega),Zg (x:=(⟨QQ t.row t.dims++t.elem.s⟩:Str)) ?_⟩
 ·show _=(⟨tyT t⟩:Str)
  unfold tyT;rw[if_pos h1];rfl
 ·show _=(⟨tyT t⟩:Str)
  unfold tyT;rw[if_neg h1]
theorem a7v: ∀ x:TyS×Unit,yW x.1=true->Zd a6c 0 (Za Fa (Zf (Jc x.1))) Fy [] (Zx c2i (encL x)):=by
 rintro⟨t,⟨⟩⟩ h
 refine d9q t ⟨Zc (t,()) rfl h,Zb (t,()) rfl (YY (fun a=> ?_) fun a=>⟨Zc (t,()) rfl ?_,Zb (t,()) rfl ?_⟩)⟩
 ·have a:Q5 t=false:=a
  exact Zg (x:=((⟨[]⟩,1):Str×Int)) (by show _=Jc t;unfold Jc;rw[a];rfl)
 ·have h:yW t=true:=h
  show(yW t&&Q5 t)=true
  rw[h,show Q5 t=true from a];rfl
 ·have a:Q5 t=true:=a
  exact Zg (x:=((⟨tyT t⟩,0):Str×Int)) (by show _=Jc t;unfold Jc;rw[a];rfl)
theorem a7r{l:Lin}(h:Zh l=true):Xi (Vb l)=true:=by
 have h1:=Uj h
 unfold Xi Vb
 rw[List.length_map,decide_eq_true (by omega),Bool.true_and,List.all_eq_true]
 intro s hs
 obtain⟨c,hc,rfl⟩:=List.mem_map.1 hs
 have:=Vg (WK h hc).1
 exact decide_eq_true (by omega)
theorem c6k: ∀ x:Lin×Unit,Zh x.1=true->Zd c8j 0 (Za b7j (Zf (!(Kn x.1)))) b3z [] (Zx e4u (encL x)):=by
 rintro⟨l,⟨⟩⟩ h
 have h:Zh l=true:=h
 have h1:=Uj h
 exact f4q l ⟨Zc (l,()) rfl (decide_eq_true (by show l.t.length<=_;omega)),Zb (l,()) rfl ⟨Zc (Vb l,()) rfl (a7r h),Zb (Vb l,()) rfl (Zl rfl)⟩⟩
theorem e2i(l:List Lin)(hs : ∀ s∈l,Zh s=true)(hl:l.length<=1048576): ∀ (m i:Nat),m+i=l.length->(∀ j (h:j<l.length),j<i->(!(Kn l[j]))=false) ->
  At MP 0 (Za Am (Zf (Yt (fun s:Lin=> !(Kn s)) l))) Su 0 19 [(0,.pv (enc l)),(1,.pv (.fn 100)),(7,.pv (.int .i64 l.length)),(8,.pv (.int .i64 i))] []:=by
 intro m
 induction m with
 | zero=>
  intro i hi b
  refine d5g l i (ZU (Yv (by omega)) (UR ?_))
  rw[Gv _ _ (fun j e=>b j e (by omega))]
 | succ m ih=>
  intro i hi b
  have a:i<l.length:=by omega
  refine d5g l i (ZT (Yq a) ⟨Zp a rfl,ZB a ⟨Zc (l[i],()) rfl (hs _ (List.getElem_mem a)),Zb (l[i],()) rfl (YV (fun hb=> ?_) fun hb=> ?_)⟩⟩)
  ·exact UR (GM (fun s:Lin=> !(Kn s)) l i a b hb).symm
  ·rw[next (by omega)]
   refine ih (i+1) (by omega) fun j e hji=> ?_
   by_cases he:j=i
   ·subst he;exact hb
   ·exact b j e (by omega)
theorem e3c: ∀ x:List Lin×FnV 100×Unit,(decide (x.1.length<=1048576)&&x.1.all Zh)=true->Zd MP 0 (Za Am (Zf (Yt (fun s:Lin=> !(Kn s)) x.1))) Su [] (Zx g0w (encL x)):=by
 rintro⟨l,g,⟨⟩⟩ h
 simp only[Bool.and_eq_true,decide_eq_true_eq,List.all_eq_true]at h
 refine g3w l ?_
 rw[List.length_map]
 exact e2i l h.2 h.1 l.length 0 (by omega) fun j hj hji=>by omega
theorem e6u: ∀ x:List Lin×FnV 100×Unit,(decide (x.1.length<=1048576)&&x.1.all Zh)=true->Zd f1y 0 (Za c6c (Zf (x.1.any fun s:Lin=> !(Kn s)))) d9p [] (Zx f5f (encL x)):=by
 rintro⟨l,g,⟨⟩⟩ h
 exact g1w l ⟨Zc (l,{},()) rfl h,Zb (l,{},()) rfl (Zl (Ww _ _))⟩
theorem Ht{s:Str}(h:s.s.length<=1048576):Xi [s]=true:=by
 unfold Xi
 rw[decide_eq_true (by simp),List.all_cons,List.all_nil,decide_eq_true h];rfl
theorem Jp(s:Str):([s].all fun s:Str=>nameI s.s)=nameI s.s:=by rw[List.all_cons,List.all_nil,Bool.and_true]
theorem a6v{t:TyS}(h:Q5 t=true):t.dims.length<=6∧t.dims.all Zh=true:=by
 unfold Q5 KI at h
 simp only[Bool.and_eq_true,decide_eq_true_eq]at h
 exact⟨h.2.1.2,h.2.2⟩
theorem BV{α:Type}[BEq α][LawfulBEq α]{x y:α}{P Q:Prop}(h1:x≠y->P)(h2:x=y->Q):if (!(x==y))=true then P else Q:=by
 by_cases h:x=y
 ·rw[if_neg (by simpa using h)];exact h2 h
 ·rw[if_pos (by simpa using h)];exact h1 h
theorem a9r: ∀ x:TyS×Unit,yW x.1=true->Zd P9 0 (Za BM (Zf (Y5 x.1))) Ms [] (Zx c3n (encL x)):=by
 rintro⟨t,⟨⟩⟩ h
 have j:=tyB h
 show Zd P9 0 (Za BM (Zf (Y5 t))) _ _ _
 have es : ∀ b:Bool,(fun x:List Str×Unit=>x.1.all fun s:Str=>nameI s.s) ([t.row],())=b->nameI t.row.s=b:=fun b hb=>by rw[<- hb];exact(Jp t.row).symm
 have i:Q5 t=true->(fun x:List Lin×FnV 100×Unit=>decide (x.1.length<=1048576)&&x.1.all Zh) (t.dims,{},())=true:=fun e=>by
  obtain⟨a,b⟩:=a6v e
  show(decide (t.dims.length<=1048576)&&t.dims.all Zh)=true
  rw[b,decide_eq_true (by omega)];rfl
 have fin:Q5 t=true->(t.elem.s=Xa∨t.elem.s=YN)->(t.row.s=[]∨nameI t.row.s=true)->(!(t.dims.any fun l=> !(Kn l)))=Y5 t:=fun a b c=>by
  unfold Y5
  rw[TM,a]
  have m:(decide (t.elem.s=Xa)||decide (t.elem.s=YN))=true:=by simpa using b
  have k:(decide (t.row.s=[])||nameI t.row.s)=true:=by simpa using c
  rw[m,k];rfl
 refine e1w t ⟨Zc (t,()) rfl h,Zb (t,()) rfl (YY (fun e=>Zl ?_) fun e=>BV (fun h1=> ?_) fun h1=> ?_)⟩
 ·have e:Q5 t=false:=e
  unfold Y5;rw[e];rfl
 ·have e:Q5 t=true:=e
  have h1:t.elem.s≠Xa:=h1
  refine BV (fun h2=>Zl ?_) fun h2=>BV (fun h3=>⟨Zc ([t.row],()) rfl (Ht j.row),Zb ([t.row],()) rfl (YY (fun g=>Zl ?_) fun g=>⟨Zc (t.dims,{},()) rfl (i e),Zb (t.dims,{},()) rfl (Zl (fin e (.inr ?_) (.inr (es _ g))))⟩)⟩) fun h3=>⟨Zc (t.dims,{},()) rfl (i e),Zb (t.dims,{},()) rfl (Zl (fin e (.inr ?_) (.inl ?_)))⟩
  ·have h2:t.elem.s≠YN:=h2
   unfold Y5
   rw[decide_eq_false h1,decide_eq_false h2,Bool.or_self,Bool.and_false];rfl
  ·have h3:t.row.s≠[]:=h3
   unfold Y5
   rw[decide_eq_false h3,es _ g,Bool.or_self,Bool.and_false];rfl
  ·exact h2
  ·exact h2
  ·exact h3
 ·have e:Q5 t=true:=e
  have h1:t.elem.s=Xa:=h1
  refine BV (fun h3=>⟨Zc ([t.row],()) rfl (Ht j.row),Zb ([t.row],()) rfl (YY (fun g=>Zl ?_) fun g=>⟨Zc (t.dims,{},()) rfl (i e),Zb (t.dims,{},()) rfl (Zl (fin e (.inl h1) (.inr (es _ g))))⟩)⟩) fun h3=>⟨Zc (t.dims,{},()) rfl (i e),Zb (t.dims,{},()) rfl (Zl (fin e (.inl h1) (.inl ?_)))⟩
  ·have h3:t.row.s≠[]:=h3
   unfold Y5
   rw[decide_eq_false h3,es _ g,Bool.or_self,Bool.and_false];rfl
  ·exact h3
theorem b3h: ∀ x:Bool×TyS×Unit,yW x.2.1=true->Zd E9 0 (Za Fx (Zf (Yz x.1 x.2.1))) Mg [] (Zx c0t (encL x)):=by
 rintro⟨b,t,⟨⟩⟩ h
 refine c9v b t (YV (fun hb=>⟨Zc (t,()) rfl h,Zb (t,()) rfl (Zl ?_)⟩) fun hb=>ZA (fun h1=>ZA (fun h2=>Zl ?_) fun h2=>Zl ?_) fun h1=>Zl ?_)
 ·show Y5 t=Yz b t
  unfold Yz;rw[hb];rfl
 ·show _=Yz b t
  unfold Yz
  rw[hb,decide_eq_true h1,decide_eq_true h2,List.length_map]
  by_cases h3:t.dims.length=0
  ·rw[h3];rfl
  ·rw[decide_eq_false h3]
   show((t.dims.length:Int)==0)=false
   simpa using h3
 ·show _=Yz b t
  unfold Yz
  rw[hb,decide_eq_false h2,Bool.and_false];rfl
 ·show _=Yz b t
  unfold Yz
  rw[hb,decide_eq_false h1];rfl
theorem Br{p:Pm}(h:pW p=true):p.name.s.length<=1048576∧yW p.ty=true:=by
 have h:=of_decide_eq_true h
 unfold wPm at h
 exact⟨by omega,decide_eq_true (by omega)⟩
theorem c6z: ∀ x:Pm×Unit,pW x.1=true->Zd d8k 0 (Za b5a (Zf (!(BL x.1)))) b6y [] (Zx e5l (encL x)):=by
 rintro⟨p,⟨⟩⟩ h
 have a:=Br h
 refine f7g p ⟨Zc ([p.name],()) rfl (Ht a.1),Zb ([p.name],()) rfl (YY (fun h1=>Zl ?_) fun h1=>⟨Zc (p.given,p.ty,()) rfl a.2,Zb (p.given,p.ty,()) rfl (Zl ?_)⟩)⟩
 ·have h1:nameI p.name.s=false:=(Jp p.name).symm.trans h1
  show true = !(BL p)
  unfold BL;rw[h1];rfl
 ·have h1:nameI p.name.s=true:=(Jp p.name).symm.trans h1
  show(!(Yz p.given p.ty)) = !(BL p)
  unfold BL;rw[h1];rfl
theorem d8j(l:List Pm)(hs : ∀ s∈l,pW s=true)(hl:l.length<=1048576): ∀ (m i:Nat),m+i=l.length->(∀ j (h:j<l.length),j<i->(!(BL l[j]))=false) ->
  At M4 0 (Za Sv (Zf (Yt (fun s:Pm=> !(BL s)) l))) Sb 0 19 [(0,.pv (enc l)),(1,.pv (.fn 33)),(7,.pv (.int .i64 l.length)),(8,.pv (.int .i64 i))] []:=by
 intro m
 induction m with
 | zero=>
  intro i hi b
  refine d2c l i (ZU (Yv (by omega)) (UR ?_))
  rw[Gv _ _ (fun j e=>b j e (by omega))]
 | succ m ih=>
  intro i hi b
  have a:i<l.length:=by omega
  refine d2c l i (ZT (Yq a) ⟨Zp a rfl,ZB a ⟨Zc (l[i],()) rfl (hs _ (List.getElem_mem a)),Zb (l[i],()) rfl (YV (fun hb=> ?_) fun hb=> ?_)⟩⟩)
  ·exact UR (GM (fun s:Pm=> !(BL s)) l i a b hb).symm
  ·rw[next (by omega)]
   refine ih (i+1) (by omega) fun j e hji=> ?_
   by_cases he:j=i
   ·subst he;exact hb
   ·exact b j e (by omega)
theorem e6g: ∀ x:List Pm×FnV 33×Unit,(decide (x.1.length<=1048576)&&x.1.all pW)=true->Zd M4 0 (Za Sv (Zf (Yt (fun s:Pm=> !(BL s)) x.1))) Sb [] (Zx f6t (encL x)):=by
 rintro⟨l,g,⟨⟩⟩ h
 simp only[Bool.and_eq_true,decide_eq_true_eq,List.all_eq_true]at h
 refine g1m l ?_
 rw[List.length_map]
 exact d8j l h.2 h.1 l.length 0 (by omega) fun j hj hji=>by omega
theorem e7w: ∀ x:List Pm×FnV 33×Unit,(decide (x.1.length<=1048576)&&x.1.all pW)=true->Zd f1i 0 (Za d3u (Zf (x.1.any fun s:Pm=> !(BL s)))) d3r [] (Zx g0k (encL x)):=by
 rintro⟨l,g,⟨⟩⟩ h
 exact g4d l ⟨Zc (l,{},()) rfl h,Zb (l,{},()) rfl (Zl (Ww _ _))⟩
theorem UA(d:Df):Dc d.n d.ks=encL (d.body,()):=ZP d.n d.ks
theorem a8c: ∀ x:Df×Unit,dW x.1=true->Zd PH 0 (Za Ar (Zf (ZK x.1))) L8 [] (Zx c4l (encL x)):=by
 rintro⟨d,⟨⟩⟩ h
 have b:=dfB h
 have e:(fun x:List Pm×FnV 33×Unit=>decide (x.1.length<=1048576)&&x.1.all pW) (d.ps,{},())=true:=by
  show(decide (d.ps.length<=1048576)&&d.ps.all pW)=true
  rw[decide_eq_true b.ps,List.all_eq_true.2 b.pw];rfl
 show Zd PH 0 (Za Ar (Zf (ZK d))) _ _ _
 refine d1m d ⟨Zc ([d.name],()) rfl (Ht b.name),Zb ([d.name],()) rfl (YV (fun h1=>ZO (fun h2=>⟨Zc (d.given,d.res,()) rfl b.res,Zb (d.given,d.res,()) rfl (YV (fun h3=>⟨Zc (d.body,()) (UA d) b.body,Zb (d.body,()) (UA d) (YV (fun a=>⟨Zc (d.ps,{},()) rfl e,Zb (d.ps,{},()) rfl (Zl ?_)⟩) fun a=>Zl ?_)⟩) fun h3=>Zl ?_)⟩) fun h2=>Zl ?_) fun h1=>Zl ?_)⟩
 ·have h1:nameI d.name.s=true:=(Jp d.name).symm.trans h1
  have h3:Yz d.given d.res=true:=h3
  have a:YK d.body=true:=a
  show(!(d.ps.any fun p=> !(BL p)))=ZK d
  unfold ZK
  rw[TM,h1,h3,a,decide_eq_true (show d.ps.length<=8 by rw[List.length_map]at h2;omega)];rfl
 ·have a:YK d.body=false:=a
  unfold ZK;rw[a,Bool.and_false];rfl
 ·have h3:Yz d.given d.res=false:=h3
  unfold ZK;rw[h3,Bool.and_false];rfl
 ·unfold ZK;rw[decide_eq_false (show ¬ d.ps.length<=8 by rw[List.length_map]at h2;omega),Bool.and_false];rfl
 ·have h1:nameI d.name.s=false:=(Jp d.name).symm.trans h1
  unfold ZK;rw[h1];rfl
theorem a9y: ∀ x:Bool×TyS×Unit,yW x.2.1=true->Zd a5i 0 (Za Le (Zf (⟨Jw x.1 x.2.1⟩:Str))) Lu [] (Zx c2x (encL x)):=by
 rintro⟨b,t,⟨⟩⟩ h
 have:=Re t
 refine d8m b t (YY (fun hb=>Zg (x:=(⟨[]⟩:Str)) ?_) fun hb=>⟨Zc (t,()) rfl h,Zb (t,()) rfl ⟨Zj (by show 2+(Jc t).1.s.length<=_;omega),Zg (x:=(⟨[58,32]++(Jc t).1.s⟩:Str)) ?_⟩⟩)
 ·show _=(⟨Jw b t⟩:Str)
  unfold Jw;rw[hb];rfl
 ·show _=(⟨Jw b t⟩:Str)
  unfold Jw;rw[hb];rfl
theorem d3d: ∀ x:Pm×Unit,pW x.1=true->Zd d5z 0 (Za b5z (Zf (⟨pmT x.1⟩:Str))) b4i [] (Zx e4i (encL x)):=by
 rintro⟨p,⟨⟩⟩ h
 have a:=Br (p:=p) h
 have:=PN p.given p.ty
 exact g1b p ⟨Zc (p.given,p.ty,()) rfl a.2,Zb (p.given,p.ty,()) rfl ⟨Zj (by show p.name.s.length+(Jw p.given p.ty).length<=_;omega),Zg (x:=(⟨p.name.s++Jw p.given p.ty⟩:Str)) rfl⟩⟩
theorem c5r(l:List Pm)(hl:l.length<=1048576)(k : ∀ x∈l,pW x=true)(j:YP (l.map Nt)=true): ∀ (d i:Nat),d+i=l.length ->
  At A9 0 (Za Gn (Zf (Yi (l.map Nt)))) GN 0 27 [(1,.pv (.fn 35)),(5,.row 0 l.length 0 l.length),(11,.pv (enc l)),(12,.pv (.int .i64 l.length)),(13,.pv (.int .i64 i))] [.obj (.row false 9 1 ((Dq (l.map Nt) i).map enc))]:=by
 intro d
 induction d with
 | zero=>
  intro i hi
  have g:i=l.length:=by omega
  subst g
  have e:Dq (l.map Nt) l.length=l.map Nt:=by have:=T9 (l.map Nt);rw[List.length_map]at this;exact this
  rw[e]
  have b:=Ap (m:=l.map Nt)
  rw[List.length_map]at b
  refine b7r l _ _ (ZU (Yv (by omega)) ⟨by simp,?_⟩)
  rw[b]
  exact⟨Zc (l.map Nt,()) rfl j,Zb (l.map Nt,()) rfl (Zg rfl)⟩
 | succ d ih=>
  intro i hi
  have a:i<l.length:=by omega
  have ho:(Dq (l.map Nt) i).length=l.length:=by rw[TK _ _ (by rw[List.length_map];omega),List.length_map]
  refine b7r l _ _ (ZT (Yq a) ⟨Zp a rfl,ZB a ⟨Zc (l[i],()) rfl (k _ (List.getElem_mem a)),Zb (l[i],()) rfl ⟨Ox a ho,EL a ho,?_⟩⟩⟩)
  have e:(Dq (l.map Nt) i).set i (Nt l[i])=Dq (l.map Nt) (i+1):=by
   have:=TQ (m:=l.map Nt) (i:=i) (by rw[List.length_map];exact a)
   rw[List.getElem_map]at this
   exact this
  have b:=OL (o:=Dq (l.map Nt) i) (i:=i) (by omega) (Nt l[i])
  rw[e]at b
  rw[next (by omega)]
  have h:=ih (i+1) (by omega)
  rw[<- b]at h
  exact h
theorem f4m(l:List Pm):(Yi (l.map Nt)).s=Zu (l.map pmT):=by unfold Yi;rw[List.map_map];rfl
theorem c9j: ∀ x:List Pm×FnV 35×Unit,(decide (x.1.length<=8)&&x.1.all pW)=true->Zd A9 0 (Za Gn (Zf (Yi (x.1.map Nt)))) GN [] (Zx e3w (encL x)):=by
 rintro⟨l,g,⟨⟩⟩ h
 simp only[Bool.and_eq_true,decide_eq_true_eq,List.all_eq_true]at h
 have h1:l.length<=8:=h.1
 have a:YP (l.map Nt)=true:=by
  have h2:=b5u h1 h.2
  unfold YP
  rw[decide_eq_true (by rw[List.length_map];omega),Bool.true_and]
  refine decide_eq_true ?_
  rw[List.map_map]
  exact Nat.le_trans h2 (by omega)
 refine f9f l ⟨by rw[List.length_map];exact b3u _ (by omega),?_⟩
 have:=c5r l (by omega) h.2 a l.length 0 (by omega)
 rw[CP,List.map_replicate,List.length_map]at this
 rw[List.length_map,Int.toNat_natCast]
 exact this
theorem c3g: ∀ x:Df×Unit,(dW x.1&&ZK x.1)=true->Zd b6h 0 (Za a4x (Zf (UO x.1))) a4n [] (Zx e2m (encL x)):=by
 rintro⟨d,⟨⟩⟩ h
 simp only[Bool.and_eq_true]at h
 obtain⟨h,e⟩:=h
 have h:dW d=true:=h
 have e:ZK d=true:=e
 have g:=dfB h
 have i:=Si h e
 unfold ZK at e
 simp only[Bool.and_eq_true,decide_eq_true_eq]at e
 have k:(fun x:List Pm×FnV 35×Unit=>decide (x.1.length<=8)&&x.1.all pW) (d.ps,{},())=true:=by
  show(decide (d.ps.length<=8)&&d.ps.all pW)=true
  rw[decide_eq_true e.1.1.1.2,List.all_eq_true.2 g.pw];rfl
 have m:Ya d.body=true:=JP (by have:=e.1.2;unfold YK at this;rw[Bool.and_eq_true]at this;exact this.1)
 have j:=f4m d.ps
 unfold KN at i
 rw[<- j]at i
 simp only[List.length_append,List.length_cons,List.length_nil]at i
 have l:(fun x:Tm×Unit=>tW x.1&&Ya x.1) (d.body,())=true:=by show(tW d.body&&Ya d.body)=true;rw[g.body,m];rfl
 have L : ∀ a b:List UInt8,a.length+b.length<=1200000000->a.length+b.length<=1099511627776:=fun a b h=>by omega
 refine e5q d ⟨Zc (d.ps,{},()) rfl k,Zb (d.ps,{},()) rfl ⟨Zj (L _ _ ?_),Zj (L _ _ ?_),Zj (L _ _ ?_),Zj (L _ _ ?_),Zc (d.given,d.res,()) rfl g.res,Zb (d.given,d.res,()) rfl ⟨Zj (L _ _ ?_),Zj (L _ _ ?_),Zc (d.body,()) (UA d) l,Zb (d.body,()) (UA d) ⟨Zj (L _ _ ?_),Zg (x:=(⟨_⟩:Str)) ?_⟩⟩⟩⟩
 case refine_8=>
  show(⟨_⟩:Str)=UO d
  unfold UO KN
  rw[<- j]
  rfl
 all_goals
  show List.length (_:List UInt8)+List.length (_:List UInt8)<=_
  simp only[List.length_append,List.length_cons,List.length_nil,Zt]
  omega
theorem d0p: ∀ x:Df×Unit,dW x.1=true->Zd c9p 0 (Za b5f (Zf (Cf x.1))) b9h [] (Zx e6i (encL x)):=by
 rintro⟨d,⟨⟩⟩ h
 have h:dW d=true:=h
 refine f4n d ⟨Zc (d,()) rfl h,Zb (d,()) rfl (YY (fun a=> ?_) fun a=>⟨Zc (d,()) rfl ?_,Zb (d,()) rfl (Zb (UO d,()) rfl ?_)⟩)⟩
 ·have a:ZK d=false:=a
  exact Zg (x:=((⟨[]⟩,1):Str×Int)) (by show _=Cf d;unfold Cf;rw[a];rfl)
 ·have a:ZK d=true:=a
  show(dW d&&ZK d)=true
  rw[h,a];rfl
 ·have a:ZK d=true:=a
  exact Zg (x:=Qi (UO d)) (by show _=Cf d;unfold Cf;rw[a];rfl)
theorem b8z(r:Str)(l:List Lin)(j:KI r l=true): ∀ (d i:Nat) (o:List Str),d+i=l.length->o.map (·.s)++(l.drop i).map ZE=J6 r l ->
  At UD 0 (Za Vh (Zf (⟨QQ r l⟩:Str))) V3 0 32 [(3,.row 0 o.length 0 o.length),(16,.pv (enc l)),(17,.pv (.int .i64 l.length)),(18,.pv (.int .i64 i))] [.obj (.row false 9 1 (o.map enc))]:=by
 have m:=Bv j
 have h6:l.length<=6:=by unfold KI at j;simp only[Bool.and_eq_true,decide_eq_true_eq]at j;exact j.1.2
 have k : ∀ x∈l,Zh x=true:=by unfold KI at j;simp only[Bool.and_eq_true]at j;exact List.all_eq_true.1 j.2
 have b:(J6 r l).length<=7:=by unfold J6;rw[List.length_append,List.length_map];split <;> simp <;> omega
 unfold QQ at m
 rw[List.length_append,List.length_append]at m
 intro d
 induction d with
 | zero=>
  intro i o hi g
  rw[List.drop_eq_nil_of_le (by omega),List.map_nil,List.append_nil]at g
  have ho:o.length<=7:=by rw[<- g,List.length_map]at b;exact b
  have e:Yi o=⟨Zu (J6 r l)⟩:=by unfold Yi;rw[g]
  refine Mh r l i o.length o (ZU (Yv (by omega)) ⟨by simp,?_⟩)
  rw[Ap]
  refine⟨Zc (o,(⟨[44,32]⟩:Str),()) rfl ?_,Zb (o,(⟨[44,32]⟩:Str),()) rfl ?_⟩
  ·show(YP o&&decide _)=true
   unfold YP
   rw[decide_eq_true (show o.length<=1048576 by omega),g,decide_eq_true (show(Zu (J6 r l)).length<=_ by omega),decide_eq_true rfl];rfl
  ·rw[show Yi ((o,(⟨[44,32]⟩:Str),()):List Str×Str×Unit).1=⟨Zu (J6 r l)⟩from e]
   exact⟨Zj (by show 1+(Zu (J6 r l)).length<=_;omega),Zj (by rw[List.length_append];show 1+(Zu (J6 r l)).length+1<=_;omega),Zg (x:=(⟨[91]++Zu (J6 r l)++[93]⟩:Str)) rfl⟩
 | succ d ih=>
  intro i o hi g
  have a:i<l.length:=by omega
  have ho:o.length<=7:=by rw[<- g,List.length_append,List.length_map]at b;omega
  have h:=ih (i+1) (o++[⟨ZE l[i]⟩]) (by omega) (by rw[<- g,List.drop_eq_getElem_cons a,List.map_append,List.map_cons,List.append_assoc];rfl)
  rw[List.length_append,List.map_append]at h
  refine Mh r l i o.length o (ZT (Yq a) ⟨Zp a rfl,ZB a ⟨Zc (l[i],()) rfl (Uu (k _ (List.getElem_mem a))),Zb (l[i],()) rfl ⟨?_,?_⟩⟩⟩)
  ·show(List.length (List.map (enc:Str->PV) o)==o.length&&o.length==o.length&&decide ((o.length+1)*16<=1099511627776)&&decide (o.length+1<=1099511627776))=true
   rw[List.length_map,decide_eq_true (by omega),decide_eq_true (by omega)];simp
  ·rw[next (by omega)]
   exact h
theorem b9z: ∀ x:Sp×Unit,KI x.1.row x.1.dims=true->Zd UD 0 (Za Vh (Zf (⟨QQ x.1.row x.1.dims⟩:Str))) V3 [] (Zx e1a (encL x)):=by
 rintro⟨⟨r,l⟩,⟨⟩⟩ b
 have b:KI r l=true:=b
 show Zd UD 0 (Za Vh (Zf (⟨QQ r l⟩:Str))) _ _ _
 have h6:l.length<=6:=by unfold KI at b;simp only[Bool.and_eq_true,decide_eq_true_eq]at b;exact b.1.2
 have i : ∀ x∈l,Zh x=true:=by unfold KI at b;simp only[Bool.and_eq_true]at b;exact List.all_eq_true.1 b.2
 have hr:r.s.length<=40∨r.s=[]:=by
  unfold KI at b
  simp only[Bool.and_eq_true,Bool.or_eq_true,decide_eq_true_eq]at b
  rcases b.1.1 with h|h
  ·exact .inr h
  ·have:=Vg h;exact .inl (by omega)
 refine e7c r l (BV (fun e=>⟨Zj (by have:=hr.resolve_right e;show r.s.length+2<=_;omega),?_⟩) fun e=> ?_)
 ·rw[List.length_map]
  exact b8z r l b l.length 0 [⟨r.s++[46,46]⟩] (by omega) (by unfold J6;rw[if_neg e];rfl)
 ·rw[List.length_map]
  cases l with
  | nil=>
   refine Ff r [] (0:Nat) (ZU (by simp) (b2c ([],(⟨[44,32]⟩:Str),()) rfl ⟨Zj (by decide),Zj (by decide),Zg (x:=(⟨[91]++[]++[93]⟩:Str)) ?_⟩))
   have e:r.s=[]:=e
   unfold QQ J6
   rw[if_pos e];rfl
  | cons a t=>
   have g:0<(a::t).length:=by simp
   refine Ff r (a::t) (0:Nat) (ZT (Yq g) ⟨Zp g rfl,ZB g ⟨Zc (a,()) rfl (Uu (i _ (by simp))),Zb (a,()) rfl ?_⟩⟩)
   rw[next (by omega)]
   exact b8z r (a::t) b t.length 1 [⟨ZE a⟩] (by simp) (by have e:r.s=[]:=e;unfold J6;rw[if_pos e];rfl)
theorem d3j: ∀ l:List (List UInt8),l≠[]->Ec l++[10]=Qh l
 | [],h=>absurd rfl h
 | [s],_=>by simp[Ec,Qh]
 | s::t::r,_=>by
  have h:=d3j (t::r) (by simp)
  unfold Qh at h ⊢
  rw[Ec,List.flatMap_cons,<- h,List.append_assoc]
  simp
theorem d3o: ∀ l:List (List UInt8),(Ec l).length<=(l.map fun s=>s.length+1).sum
 | []=>Nat.le_refl _
 | [s]=>by simp[Ec]
 | s::t::r=>by
  have h:=d3o (t::r)
  have e:Ec (s::t::r)=s++[10]++Ec (t::r):=by rw[Ec];simp
  rw[e,List.length_append,List.length_append,List.map_cons,List.sum_cons]
  simp only[List.length_cons,List.length_nil]
  omega
theorem c2h(m:Mdu)(q:mW m=true)(h60:m.ds.length<=60)(R:Str×Int): ∀ (d i:Nat) (o:List Str),d+i=m.ds.length->1<=o.length->o.length<=3+i->(∀ s∈o,s.s.length<=1200000000) ->
  R=(if (m.ds.drop i).all ZK then Qi ⟨Qh (o.map (·.s)++(m.ds.drop i).map KN)⟩else(⟨[]⟩,1)) ->
  At QV 0 (Za Ud (Zf R)) Ux 0 90 [(4,.row 0 o.length 0 o.length),(69,.pv (enc m.ds)),(70,.pv (.int .i64 m.ds.length)),(71,.pv (.int .i64 i))] [.obj (.row false 9 1 (o.map enc))]:=by
 have k:=mdB q
 intro d
 induction d with
 | zero=>
  intro i o hi h1 ho hs b
  rw[List.drop_eq_nil_of_le (by omega),List.map_nil,List.append_nil,List.all_nil,if_pos rfl]at b
  have hn:=d3o (o.map (·.s))
  have j:=QW (f:=fun s:List UInt8=>s.length+1) (c:=1200000001) (l:=o.map (·.s)) fun s g=>by
   obtain⟨y,r,rfl⟩:=List.mem_map.1 g
   have:=hs y r
   show y.s.length+1<=_
   omega
  rw[List.length_map]at j
  have hle:(Ec (o.map (·.s))).length<=80000000000:=by
   have:1200000001*o.length<=1200000001*63:=Nat.mul_le_mul_left _ (by omega)
   omega
  refine b7d m i o.length o (ZU (Yv (by omega)) ⟨by simp,?_⟩)
  rw[Ap]
  refine⟨Zc (o,(⟨[10]⟩:Str),()) rfl ?_,Zb (o,(⟨[10]⟩:Str),()) rfl ⟨Zj (by show(Ec (o.map (·.s))).length+1<=_;omega),Zb ((⟨Ec (o.map (·.s))++[10]⟩:Str),()) rfl ?_⟩⟩
  ·show(Pq o&&decide _)=true
   unfold Pq
   rw[decide_eq_true (show o.length<=1048576 by omega),decide_eq_true (show(Ec (o.map (·.s))).length<=_ by omega),decide_eq_true rfl];rfl
  ·refine Zg (x:=Qi ⟨Ec (o.map (·.s))++[10]⟩) ?_
   rw[b,d3j _ (fun e=>by have:=congrArg List.length e;simp at this;subst this;simp at h1)]
 | succ d ih=>
  intro i o hi h1 ho hs b
  have a:i<m.ds.length:=by omega
  have hd:=k.ds _ (List.getElem_mem a)
  rw[List.drop_eq_getElem_cons a,List.all_cons]at b
  refine b7d m i o.length o (ZT (Yq a) ⟨Zp a rfl,ZB a ⟨Zc (m.ds[i],()) rfl hd,Zb (m.ds[i],()) rfl (YY (fun hb=> ?_) fun hb=>⟨Zc (m.ds[i],()) rfl ?_,Zb (m.ds[i],()) rfl ⟨?_,?_⟩⟩)⟩⟩)
  ·have hb:ZK m.ds[i]=false:=hb
   rw[hb]at b
   exact Zg (x:=((⟨[]⟩,1):Str×Int)) b.symm
  ·have hb:ZK m.ds[i]=true:=hb
   show(dW m.ds[i]&&ZK m.ds[i])=true
   rw[hd,hb];rfl
  ·show(List.length (List.map (enc:Str->PV) o)==o.length&&o.length==o.length&&decide ((o.length+1)*16<=1099511627776)&&decide (o.length+1<=1099511627776))=true
   rw[List.length_map,decide_eq_true (by omega),decide_eq_true (by omega)];simp
  ·have hb:ZK m.ds[i]=true:=hb
   rw[hb,Bool.true_and]at b
   have h:=ih (i+1) (o++[UO m.ds[i]]) (by omega) (by rw[List.length_append];omega) (by rw[List.length_append];show o.length+1<=_;omega)
    (fun s g=>by
     rcases List.mem_append.1 g with g|g
     ·exact hs s g
     ·rw[List.mem_singleton.1 g];exact Si hd hb)
    (by rw[b,List.map_append,List.map_cons,List.append_assoc];rfl)
   rw[List.length_append,List.map_append]at h
   rw[next (by omega)]
   exact h
theorem GK{l:List Str}{n:Nat}(hn:l.length<=n)(hc:n<=1000)(h:(l.all fun s=>nameI s.s)=true):(Zu (l.map (·.s))).length<=40000:=by
 have h1:=YU (l.map (·.s))
 have h2:=QW (f:=fun s:List UInt8=>s.length+2) (c:=32) (l:=l.map (·.s)) fun s hs=>by
  obtain⟨y,a,rfl⟩:=List.mem_map.1 hs
  have:=(Xn (List.all_eq_true.1 h y a)).2.2
  show y.s.length+2<=_
  omega
 rw[List.length_map]at h2
 omega
theorem RH{l:List Str}{n:Nat}(hn:l.length<=n)(hc:n<=1000)(h:(l.all fun s=>nameI s.s)=true):YP l=true:=by
 have:=GK hn hc h
 unfold YP
 rw[decide_eq_true (by omega),decide_eq_true (by omega)];rfl
theorem Bp{l:List Str}(h1:l.length<=1048576)(h2 : ∀ s∈l,s.s.length<=1048576):Xi l=true:=by
 unfold Xi
 rw[decide_eq_true h1,Bool.true_and,List.all_eq_true]
 exact fun s hs=>decide_eq_true (h2 s hs)
theorem d2u: ∀ x:Mdu×Unit,mW x.1=true->Zd QV 0 (Za Ud (Zf (Jo x.1))) Ux [] (Zx e3a (encL x)):=by
 rintro⟨m,⟨⟩⟩ k
 have j:=mdB k
 have k:mW m=true:=k
 show Zd QV 0 (Za Ud (Zf (Jo m))) _ _ _
 have bad:VP m=false->Zf (Jo m) (.tup [.str [],.int .i64 1]):=fun h=>Zg (x:=((⟨[]⟩,1):Str×Int)) (by unfold Jo;rw[h];rfl)
 refine f6q m ⟨Zc ([m.name],()) rfl (Ht j.name),Zb ([m.name],()) rfl (YY (fun h1=>bad ?_) fun h1=>⟨Zc (m.im,()) rfl (Bp j.iml j.im),Zb (m.im,()) rfl (YY (fun h2=>bad ?_) fun h2=>⟨Zc (m.ex,()) rfl (Bp j.exl j.ex),Zb (m.ex,()) rfl (YY (fun h3=>bad ?_) fun h3=>ZO (fun y=>bad ?_) fun y=>ZO (fun A=>bad ?_) fun A=>ZO (fun B=>bad ?_) fun B=> ?_)⟩)⟩)⟩
 ·have h1:nameI m.name.s=false:=(Jp m.name).symm.trans h1
  unfold VP;rw[h1];rfl
 ·have h2:(m.im.all fun s=>nameI s.s)=false:=h2
  unfold VP;rw[h2,Bool.and_false];rfl
 ·have h3:(m.ex.all fun s=>nameI s.s)=false:=h3
  unfold VP;rw[h3,Bool.and_false];rfl
 ·rw[List.length_map]at y
  unfold VP;rw[decide_eq_false (show ¬ m.im.length<=20 by omega),Bool.and_false];rfl
 ·rw[List.length_map]at A
  unfold VP;rw[decide_eq_false (show ¬ m.ex.length<=60 by omega),Bool.and_false];rfl
 ·rw[List.length_map]at B
  unfold VP;rw[decide_eq_false (show ¬ m.ds.length<=60 by omega),Bool.and_false]
 ·have h1:nameI m.name.s=true:=(Jp m.name).symm.trans h1
  have h2:(m.im.all fun s=>nameI s.s)=true:=h2
  have h3:(m.ex.all fun s=>nameI s.s)=true:=h3
  rw[List.length_map]at y A B
  have l1:=(Xn h1).2.2
  have F:VP m=true:=by unfold VP;rw[h1,h2,h3,decide_eq_true (by omega),decide_eq_true (by omega),decide_eq_true (by omega)];rfl
  have c2:=GK (n:=20) (by omega) (by omega) h2
  have c3:=GK (n:=60) (by omega) (by omega) h3
  have g : ∀ o:List Str,o.map (·.s)=[e8f++[32]++m.name.s]++Kv BU m.im++Kv Tx m.ex->1<=o.length->o.length<=3->(∀ s∈o,s.s.length<=1200000000) ->
    At QV 0 (Za Ud (Zf (Jo m))) Ux 0 90 [(4,.row 0 o.length 0 o.length),(69,.pv (enc m.ds)),(70,.pv (.int .i64 m.ds.length)),(71,.pv (.int .i64 ((0:Nat):Int)))] [.obj (.row false 9 1 (o.map enc))]:=fun o ho h1 h2 h3=>
   c2h m k (by omega) (Jo m) m.ds.length 0 o (by omega) h1 (by omega) h3 (by unfold Jo f8r a7o;rw[F,Bool.true_and,List.drop_zero,ho])
  refine⟨Zj (by show 7+m.name.s.length<=_;omega),?_⟩
  rw[List.length_map,List.length_map,List.length_map]
  have q : ∀ s:Str,s=⟨[109,111,100,117,108,101,32]++m.name.s⟩->s.s.length<=1200000000:=fun s e=>by rw[e];simp only[e8f,List.length_append,List.length_cons,List.length_nil];omega
  have E : ∀ s:Str,s=⟨[105,109,112,111,114,116,32]++Zu (m.im.map (·.s))⟩->s.s.length<=1200000000:=fun s e=>by rw[e];simp only[BU,List.length_append,List.length_cons,List.length_nil];omega
  have C : ∀ s:Str,s=⟨[101,120,112,111,114,116,32]++Zu (m.ex.map (·.s))⟩->s.s.length<=1200000000:=fun s e=>by rw[e];simp only[Tx,List.length_append,List.length_cons,List.length_nil];omega
  have r : ∀ w:List UInt8,Kv w []=[]:=fun w=>rfl
  have u : ∀ (w:List UInt8) (l:List Str),l≠[]->Kv w l=[w++[32]++Zu (l.map (·.s))]:=fun w l h=>by unfold Kv;rw[if_neg h]
  have H:m.im≠[]->(fun x:List Str×Unit=>YP x.1) (m.im,())=true:=fun _=>by show YP m.im=true;exact RH (n:=20) (by omega) (by omega) h2
  have D:m.ex≠[]->(fun x:List Str×Unit=>YP x.1) (m.ex,())=true:=fun _=>by show YP m.ex=true;exact RH (n:=60) (by omega) (by omega) h3
  have z : ∀ {l:List Str},¬ ((l.length:Nat):Int)>0->l=[]:=fun {l} h=>List.length_eq_zero_iff.1 (by omega)
  have i : ∀ {l:List Str},((l.length:Nat):Int)>0->l≠[]:=fun {l} h e=>by subst e;simp at h
  refine ZO (fun a=>⟨Zc (m.im,()) rfl (H (i a)),Zb (m.im,()) rfl ⟨Zj (by show 7+(Zu (m.im.map (·.s))).length<=_;omega),ZO (fun b=>⟨Zc (m.ex,()) rfl (D (i b)),Zb (m.ex,()) rfl ⟨Zj (by show 7+(Zu (m.ex.map (·.s))).length<=_;omega),?_⟩⟩) fun b=> ?_⟩⟩) fun a=>ZO (fun b=>⟨Zc (m.ex,()) rfl (D (i b)),Zb (m.ex,()) rfl ⟨Zj (by show 7+(Zu (m.ex.map (·.s))).length<=_;omega),?_⟩⟩) fun b=> ?_
  ·refine id (g [⟨[109,111,100,117,108,101,32]++m.name.s⟩,⟨[105,109,112,111,114,116,32]++Zu (m.im.map (·.s))⟩,⟨[101,120,112,111,114,116,32]++Zu (m.ex.map (·.s))⟩] (by rw[u _ _ (i a),u _ _ (i b)];rfl) (by simp) (by simp) fun s hs=> ?_)
   simp only[List.mem_cons,List.not_mem_nil,or_false]at hs
   rcases hs with hs|hs|hs
   ·exact q s hs
   ·exact E s hs
   ·exact C s hs
  ·refine id (g [⟨[109,111,100,117,108,101,32]++m.name.s⟩,⟨[105,109,112,111,114,116,32]++Zu (m.im.map (·.s))⟩] (by rw[u _ _ (i a),z b,r];rfl) (by simp) (by simp) fun s hs=> ?_)
   simp only[List.mem_cons,List.not_mem_nil,or_false]at hs
   rcases hs with hs|hs
   ·exact q s hs
   ·exact E s hs
  ·refine id (g [⟨[109,111,100,117,108,101,32]++m.name.s⟩,⟨[101,120,112,111,114,116,32]++Zu (m.ex.map (·.s))⟩] (by rw[z a,r,u _ _ (i b)];rfl) (by simp) (by simp) fun s hs=> ?_)
   simp only[List.mem_cons,List.not_mem_nil,or_false]at hs
   rcases hs with hs|hs
   ·exact q s hs
   ·exact C s hs
  ·refine id (g [⟨[109,111,100,117,108,101,32]++m.name.s⟩] (by rw[z a,z b,r,r];rfl) (by simp) (by simp) fun s hs=> ?_)
   exact q s (List.mem_singleton.1 hs)
theorem b8f{a b:UInt8}(h:a.toNat<=b.toNat):a<=b:=UInt8.le_iff_toNat_le.2 h
theorem b3w{a b:UInt8}(h:a<=b):a.toNat<=b.toNat:=UInt8.le_iff_toNat_le.1 h
theorem g4t{s:List UInt8}{i:Nat}(h:i<s.length):s.getD (Int.toNat (i:Int)) 0=s[i]:=by rw[Int.toNat_natCast,List.getD_eq_getElem?_getD,List.getElem?_eq_getElem h];rfl
theorem a9o(c:UInt8)(r:List UInt8)(hl:r.length<=1048576)(R:Bool): ∀ (d i:Nat),d+i=r.length+1->1<=i->R=(decide (65<=c)&&decide (c<=90)&&((c::r).drop i).all digB&&decide (r.length<=29)) ->
  At JD 0 (Za Qz (Zf R)) QH 0 38 [(0,.pv (.str (c::r))),(3,.pv (.int .i64 i))] []:=by
 intro d
 induction d with
 | zero=>
  intro i hi h1 b
  rw[List.drop_eq_nil_of_le (by rw[List.length_cons];omega),List.all_nil,Bool.and_true]at b
  refine Pz (c::r) i (ZU (Yv (by rw[List.length_cons];omega)) (ZT (decide_eq_true (by rw[List.length_cons];omega)) (ZO (fun h2=>⟨by simp,ZO (fun h3=>⟨by simp,Zl ?_⟩) fun h3=>Zl ?_⟩) fun h2=>Zl ?_)))
  ·rw[List.length_cons]at h2
   have h3:(c.toNat:Int) ≥ 65:=h3
   rw[b,decide_eq_true (show(65:UInt8)<=c from b8f (by show 65<=c.toNat;omega)),decide_eq_true (show r.length<=29 by omega),Bool.and_true,Bool.true_and]
   show decide ((c.toNat:Int)<=90)=_
   exact decide_eq_decide.2 ⟨fun h=>b8f (by show c.toNat<=90;omega),fun h=>by have:c.toNat<=90:=b3w h;omega⟩
  ·have h3 : ¬ (c.toNat:Int) ≥ 65:=h3
   rw[b,decide_eq_false (fun k:(65:UInt8)<=c=>by have:65<=c.toNat:=b3w k;omega)];rfl
  ·rw[List.length_cons]at h2
   rw[b,decide_eq_false (show ¬ r.length<=29 by omega),Bool.and_false]
 | succ d ih=>
  intro i hi h1 b
  have a:i<(c::r).length:=by rw[List.length_cons];omega
  have e:(decide (0<=(i:Int))&&decide (Int.toNat (i:Int)<List.length (c::r)))=true:=by simp at a ⊢;omega
  have g:=g4t a
  rw[List.drop_eq_getElem_cons a,List.all_cons]at b
  refine Pz (c::r) i (ZT (Yq a) ⟨e,ZO (fun h2=>Zl ?_) fun h2=>⟨e,ZO (fun h3=>Zl ?_) fun h3=> ?_⟩⟩)
  ·rw[g]at h2
   have:digB (c::r)[i]=false:=by unfold digB;rw[decide_eq_false (fun k:(48:UInt8)<=(c::r)[i]=>by have:48<=(c::r)[i].toNat:=b3w k;omega)];rfl
   rw[b,this,Bool.false_and,Bool.and_false];rfl
  ·rw[g]at h3
   have:digB (c::r)[i]=false:=by unfold digB;rw[decide_eq_false (fun k:(c::r)[i]<=(57:UInt8)=>by have:(c::r)[i].toNat<=57:=b3w k;omega),Bool.and_false]
   rw[b,this,Bool.false_and,Bool.and_false];rfl
  ·rw[g]at h2 h3
   have:digB (c::r)[i]=true:=by unfold digB;rw[decide_eq_true (show(48:UInt8)<=(c::r)[i]from b8f (by show 48<=(c::r)[i].toNat;omega)),decide_eq_true (show(c::r)[i]<=(57:UInt8)from b8f (by show(c::r)[i].toNat<=57;omega))];rfl
   rw[next (by omega)]
   exact ih (i+1) (by omega) (by omega) (by rw[b,this,Bool.true_and])
theorem c0d: ∀ x:Str×Unit,decide (x.1.s.length<=1048576)=true->Zd JD 0 (Za Qz (Zf (evB x.1.s))) QH [] (Zx d9i (encL x)):=by
 rintro⟨⟨s⟩,⟨⟩⟩ h
 cases s with
 | nil=>
  refine b9f [] ?_
  show At JD 0 (Za Qz (Zf (evB []))) QH 0 38 [(0,.pv (.str [])),(3,.pv (.int .i64 ((1:Nat):Int)))] []
  exact Pz [] (1:Nat) (ZU (by decide) (ZU (by decide) (Zl rfl)))
 | cons c r=>
  have hl:r.length+1<=1048576:=of_decide_eq_true h
  refine b9f (c::r) ?_
  exact a9o c r (by omega) _ r.length 1 (by omega) (by omega) rfl
theorem c0q: ∀ x:Str×Unit,decide (x.1.s.length<=1048576)=true->Zd b9i 0 (Za a6f (Zf (MW x.1.s))) a0s [] (Zx d7h (encL x)):=by
 rintro⟨⟨s⟩,⟨⟩⟩ h
 refine f0b s (ZA (fun h1=>Zl ?_) fun h1=>ZA (fun h2=>Zl ?_) fun h2=>⟨Zc ((⟨s⟩:Str),()) rfl h,Zb ((⟨s⟩:Str),()) rfl (Zl ?_)⟩)
 ·show true=MW s
  unfold MW;rw[show s=Xa from h1];rfl
 ·show true=MW s
  unfold MW;rw[show s=YN from h2];rfl
 ·show evB s=MW s
  unfold MW;rw[decide_eq_false (show ¬ s=Xa from h1),decide_eq_false (show ¬ s=YN from h2)];rfl
theorem e9j{l:Lin}(h:Xy l=true):XK l=true:=by unfold Xy at h;rw[Bool.and_eq_true]at h;exact h.1
theorem a9x(r:Str)(l:List Lin)(hl:l.length<=1048576)(hb : ∀ x∈l,Xy x=true)(R:Bool): ∀ (d i:Nat),d+i=l.length->R=((decide (r.s=[])||nameB r)&&decide (l.length<=6)&&(l.drop i).all Zh) ->
  At Gz 0 (Za Ja (Zf R)) KU 0 32 [(1,.ptr 0 0),(3,.pv (.int .i64 i))] [.obj (.box [.pv (.str r.s),.pv (.sl 2 false (l.map enc))])]:=by
 intro d
 induction d with
 | zero=>
  intro i hi b
  rw[List.drop_eq_nil_of_le (by omega),List.all_nil,Bool.and_true]at b
  refine a3t r l i (ZU (XR (by omega)) (ZO (fun h1=>ZA (fun h2=>Zl ?_) fun h2=>Zb (r,()) rfl (Zl ?_)) fun h1=>Zl ?_))
  ·rw[List.length_map]at h1
   rw[b,decide_eq_true h2,decide_eq_true (show l.length<=6 by omega)];rfl
  ·rw[List.length_map]at h1
   rw[b,decide_eq_false h2,decide_eq_true (show l.length<=6 by omega),Bool.and_true];rfl
  ·rw[List.length_map]at h1
   rw[b,decide_eq_false (show ¬ l.length<=6 by omega),Bool.and_false]
 | succ d ih=>
  intro i hi b
  have a:i<l.length:=by omega
  rw[List.drop_eq_getElem_cons a,List.all_cons]at b
  refine a3t r l i (ZT (Xv a) ⟨Zp a rfl,ZB a ⟨Zc (l[i],()) rfl (e9j (hb _ (List.getElem_mem a))),Zb (l[i],()) rfl (YY (fun h1=>Zl ?_) fun h1=> ?_)⟩⟩)
  ·have h1:Zh l[i]=false:=h1
   rw[b,h1,Bool.false_and,Bool.and_false]
  ·have h1:Zh l[i]=true:=h1
   rw[next (by omega)]
   exact ih (i+1) (by omega) (by rw[b,h1,Bool.true_and])
theorem c1z: ∀ x:Sp×Unit,Nw x.1=true->Zd Gz 0 (Za Ja (Zf (KI x.1.row x.1.dims))) KU [] (Zx e0x (encL x)):=by
 rintro⟨⟨r,l⟩,⟨⟩⟩ h
 have a:=spB h
 refine e7s r l ?_
 exact a9x r l a.len (List.all_eq_true.1 a.lin) _ l.length 0 (by omega) (by rw[List.drop_zero];rfl)
def jnO:List UInt8->List (List UInt8)->List UInt8
 | o,[]=>o
 | o,s::r=>jnO (if o=[]then s else o++[44,32]++s) r
theorem c3k(a b:List UInt8): ∀ r:List (List UInt8),Zu ((a++b)::r)=a++Zu (b::r)
 | []=>rfl
 | c::r=>by rw[Hu,Hu,List.append_assoc,List.append_assoc,List.append_assoc]
theorem b1t: ∀ (l:List (List UInt8)) (o:List UInt8),o≠[]->jnO o l=Zu (o::l)
 | [],o,_=>rfl
 | s::r,o,h=>by
  rw[jnO,if_neg h,b1t r _ (by simp),c3k,Hu]
theorem e9y: ∀ l:List (List UInt8),(∀ s∈l,s≠[])->jnO [] l=Zu l
 | [],_=>rfl
 | s::r,h=>by rw[jnO,if_pos rfl,b1t r s (h s (by simp))]
theorem PS(r:Str)(l:List Lin)(hl:l.length<=6)(hb : ∀ x∈l,Zh x=true)(R:Str×Int): ∀ (d i:Nat) (o:List UInt8),d+i=l.length->o.length+1002*d<=10000->R=(⟨[91]++jnO o ((l.drop i).map ZE)++[93]⟩,0) ->
  At Qc 0 (Za VU (Zf R)) UW 0 37 [(1,.ptr 0 0),(4,.pv (.str o)),(5,.pv (.int .i64 i))] [.obj (.box [.pv (.str r.s),.pv (.sl 2 false (l.map enc))])]:=by
 intro d
 induction d with
 | zero=>
  intro i o hi ho b
  rw[List.drop_eq_nil_of_le (by omega)]at b
  exact a4g r l o i (ZU (XR (by omega)) ⟨Zj (by show 1+o.length<=_;omega),Zj (by rw[List.length_append];show 1+o.length+1<=_;omega),Zg (x:=((⟨[91]++o++[93]⟩,0):Str×Int)) b.symm⟩)
 | succ d ih=>
  intro i o hi ho b
  have a:i<l.length:=by omega
  have g:=Uu (hb _ (List.getElem_mem a))
  have hpl:=Wt l[i]
  rw[List.drop_eq_getElem_cons a,List.map_cons,jnO]at b
  have k:=fun o'=>ih (i+1) o' (by omega)
  refine a4g r l o i (ZT (Xv a) (BV (fun e=>⟨Zj (by show o.length+2<=_;omega),Zp a rfl,ZB a ⟨Zc (l[i],()) rfl g,Zb (l[i],()) rfl ⟨Zj (by rw[List.length_append];show o.length+2+(ZE l[i]).length<=_;omega),?_⟩⟩⟩) fun e=>⟨Zp a rfl,ZB a ⟨Zc (l[i],()) rfl g,Zb (l[i],()) rfl ⟨Zj (by show o.length+(ZE l[i]).length<=_;omega),?_⟩⟩⟩))
  ·rw[next (by omega)]
   rw[if_neg e]at b
   exact k _ (by rw[List.length_append,List.length_append];show o.length+2+(ZE l[i]).length+_<=_;omega) b
  ·rw[next (by omega)]
   have e:o=[]:=e
   subst e
   rw[if_pos rfl]at b
   exact k _ (by show(ZE l[i]).length+_<=_;omega) b
theorem b9m: ∀ x:Sp×Unit,Nw x.1=true->Zd Qc 0 (Za VU (Zf (Nv x.1.row x.1.dims))) UW [] (Zx d7y (encL x)):=by
 rintro⟨⟨r,l⟩,⟨⟩⟩ h
 show Zd Qc 0 (Za VU (Zf (Nv r l))) _ _ _
 refine e3m r l ⟨Zc (⟨r,l⟩,()) rfl h,Zb (⟨r,l⟩,()) rfl (YY (fun a=> ?_) fun a=> ?_)⟩
 ·have a:KI r l=false:=a
  exact Zg (x:=((⟨[]⟩,1):Str×Int)) (by unfold Nv;rw[a];rfl)
 ·have a:KI r l=true:=a
  have e:Nv r l=(⟨QQ r l⟩,0):=by unfold Nv;rw[a];rfl
  rw[e]
  unfold KI at a
  simp only[Bool.and_eq_true,Bool.or_eq_true,decide_eq_true_eq]at a
  have b:=List.all_eq_true.1 a.2
  have i : ∀ s∈l.map ZE,s≠[]:=fun s hs=>by
   obtain⟨x,j,rfl⟩:=List.mem_map.1 hs
   exact(D8 (b x j)).1
  refine BV (fun g=> ?_) fun g=> ?_
  ·have hr:=Vg (a.1.1.resolve_left g)
   refine⟨Zj (by show r.s.length+2<=_;omega),PS r l a.1.2 b _ l.length 0 _ (by omega) (by rw[List.length_append];show r.s.length+2+_<=_;omega) ?_⟩
   rw[List.drop_zero,b1t _ _ (by simp)]
   unfold QQ J6
   rw[if_neg g];rfl
  ·have g:r.s=[]:=g
   refine PS r l a.1.2 b _ l.length 0 [] (by omega) (by show 0+_<=_;omega) ?_
   rw[List.drop_zero,e9y _ i]
   unfold QQ J6
   rw[if_pos g];rfl
theorem c0p: ∀ x:TyS×Unit,yW x.1=true->Zd b8i 0 (Za a6p (Zf (Q5 x.1))) a2p [] (Zx d3z (encL x)):=by
 rintro⟨t,⟨⟩⟩ h
 have a:=tyB h
 refine e3x t ⟨Zc (t.elem,()) rfl (decide_eq_true a.elem),Zb (t.elem,()) rfl (YV (fun h1=>⟨Zc (⟨t.row,t.dims⟩,()) rfl a.sp,Zb (⟨t.row,t.dims⟩,()) rfl (Zl ?_)⟩) fun h1=>Zl ?_)⟩
 ·have h1:MW t.elem.s=true:=h1
  show KI t.row t.dims=Q5 t
  unfold Q5;rw[h1];rfl
 ·have h1:MW t.elem.s=false:=h1
  show false=Q5 t
  unfold Q5;rw[h1];rfl
theorem c5h: ∀ x:TyS×Unit,yW x.1=true->Zd Ev 0 (Za PM (Zf (Jc x.1))) a5a [] (Zx d7a (encL x)):=by
 rintro⟨t,⟨⟩⟩ h
 have h:yW t=true:=h
 have b:=tyB h
 show Zd Ev 0 (Za PM (Zf (Jc t))) _ _ _
 refine e4e t ⟨Zc (t,()) rfl h,Zb (t,()) rfl (YY (fun a=> ?_) fun a=>⟨Zc (⟨t.row,t.dims⟩,()) rfl b.sp,Zb (⟨t.row,t.dims⟩,()) rfl ?_⟩)⟩
 ·have a:Q5 t=false:=a
  exact Zg (x:=((⟨[]⟩,1):Str×Int)) (by unfold Jc;rw[a];rfl)
 ·have a:Q5 t=true:=a
  have hs:KI t.row t.dims=true:=by unfold Q5 at a;rw[Bool.and_eq_true]at a;exact a.2
  have e:Nv t.row t.dims=(⟨QQ t.row t.dims⟩,0):=by unfold Nv;rw[hs];rfl
  have g:Jc t=(⟨tyT t⟩,0):=by unfold Jc;rw[a];rfl
  rw[show Nv (((⟨t.row,t.dims⟩,()):Sp×Unit).1).row (((⟨t.row,t.dims⟩,()):Sp×Unit).1).dims=_ from e,g]
  have l1:=Bv hs
  refine ZA (fun h1=>⟨Zj (by have:=b.elem;show 0+t.elem.s.length<=_;omega),Zg (x:=((⟨[]++t.elem.s⟩,0):Str×Int)) ?_⟩) fun h1=>⟨Zj (by have:=b.elem;show(QQ t.row t.dims).length+t.elem.s.length<=_;omega),Zg (x:=((⟨QQ t.row t.dims++t.elem.s⟩,0):Str×Int)) ?_⟩
  ·unfold tyT;rw[if_pos h1]
  ·unfold tyT;rw[if_neg h1]
theorem e5e: ∀ x:TyS×Unit,yW x.1=true->Zd f1v 0 (Za d4y (Zf (Jc x.1).1)) c9w [] (Zx f8s (encL x)):=by
 rintro⟨t,⟨⟩⟩ h
 exact g1p t ⟨Zc (t,()) rfl h,Zb (t,()) rfl (Zg (x:=(Jc t).1) rfl)⟩
theorem zvn(y:Coef):PV.asStr (List.getD (List.drop 0 (PV.cells (enc y))) 0 default)=y.v.s:=rfl
theorem zsn(y:Coef):(decide (0+List.length [Sh.str]<=List.length (List.drop 0 (PV.cells (enc y))))&&Yk (List.drop 0 (PV.cells (enc y))) 0 [Sh.str])=true:=rfl
theorem c3s(t:TyS)(hs : ∀ x∈t.dims,Zh x=true)(i:Nat)(a:i<t.dims.length)(R:Bool)(g:R=(t.dims.drop (i+1)).all Kn->At X3 0 (Za Xj (Zf R)) XD 0 64 [(1,.ptr 0 0),(3,.pv (.int .i64 ((i+1:Nat):Int)))] [.obj (.box (a3z t))])(hi:i<1000):
  ∀ (d k:Nat),d+k=t.dims[i].t.length->R=(((t.dims[i].t.drop k).all fun c=>nameI c.v.s)&&(t.dims.drop (i+1)).all Kn) ->
  At X3 0 (Za Xj (Zf R)) XD 1 64 [(1,.ptr 0 0),(3,.pv (.int .i64 i)),(4,.pv (.int .i64 k))] [.obj (.box (a3z t))]:=by
 have h:=hs _ (List.getElem_mem a)
 have hvl:=Uj h
 intro d
 induction d with
 | zero=>
  intro k j e
  rw[List.drop_eq_nil_of_le (by omega),List.all_nil,Bool.true_and]at e
  refine LA t i k ⟨Zp a rfl,ZB a ?_⟩
  rw[NV,List.length_map]
  refine ZU (Yv (by omega)) ?_
  rw[next (by omega)]
  exact g e
 | succ d ih=>
  intro k j e
  have b:k<t.dims[i].t.length:=by omega
  have l:(decide (0<=(k:Int))&&decide (Int.toNat (k:Int)<List.length (List.map (enc:Coef->PV) t.dims[i].t))&&2==2)=true:=by simp[b]
  have hn:=Vg (WK h (List.getElem_mem b)).1
  rw[List.drop_eq_getElem_cons b,List.all_cons]at e
  refine LA t i k ⟨Zp a rfl,ZB a ?_⟩
  rw[NV,List.length_map]
  refine ZT (Yq b) ⟨Zp a rfl,ZB a ?_⟩
  rw[NV,XZ enc b]
  refine⟨l,zsn _,?_⟩
  rw[zvn]
  refine KZ (by omega) (YY (fun h1=>Zl ?_) fun h1=> ?_)
  ·rw[e,h1];rfl
  ·rw[next (by omega)]
   exact ih (k+1) (by omega) (by rw[e,h1];rfl)
theorem a0j(t:TyS)(hl:t.dims.length<=6)(hs : ∀ x∈t.dims,Zh x=true)(R:Bool): ∀ (d i:Nat),d+i=t.dims.length->R=(t.dims.drop i).all Kn ->
  At X3 0 (Za Xj (Zf R)) XD 0 64 [(1,.ptr 0 0),(3,.pv (.int .i64 i))] [.obj (.box (a3z t))]:=by
 intro d
 induction d with
 | zero=>
  intro i hi b
  rw[List.drop_eq_nil_of_le (by omega),List.all_nil]at b
  exact N9 t i (ZU (XR (by omega)) (Zl b.symm))
 | succ d ih=>
  intro i hi b
  have a:i<t.dims.length:=by omega
  rw[List.drop_eq_getElem_cons a,List.all_cons]at b
  refine N9 t i (ZT (Xv a) ?_)
  refine c3s t hs i a R (fun h=>ih (i+1) (by omega) h) (by omega) t.dims[i].t.length 0 (by omega) ?_
  rw[b,List.drop_zero]
  unfold Kn Vb
  rw[List.all_map]
  rfl
theorem a7m: ∀ x:TyS×Unit,yW x.1=true->Zd X3 0 (Za Xj (Zf (Y5 x.1))) XD [] (Zx c1l (encL x)):=by
 rintro⟨t,⟨⟩⟩ h
 have i:=tyB h
 show Zd X3 0 (Za Xj (Zf (Y5 t))) _ _ _
 have fin:Q5 t=true->(t.elem.s=Xa∨t.elem.s=YN)->(t.row.s=[]∨nameI t.row.s=true)->At X3 0 (Za Xj (Zf (Y5 t))) XD 0 64 [(1,.ptr 0 0),(3,.pv (.int .i64 0))] [.obj (.box (a3z t))]:=fun a b c=>by
  obtain⟨l,e⟩:=a6v a
  refine a0j t l (List.all_eq_true.1 e) _ t.dims.length 0 (by omega) ?_
  unfold Y5
  have k:(decide (t.elem.s=Xa)||decide (t.elem.s=YN))=true:=by simpa using b
  have j:(decide (t.row.s=[])||nameI t.row.s)=true:=by simpa using c
  rw[a,k,j,List.drop_zero];rfl
 refine c8p t ⟨Zc (t,()) rfl h,Zb (t,()) rfl (YY (fun e=>Zl ?_) fun e=>BV (fun h1=>BV (fun h2=>Zl ?_) fun h2=>BV (fun h3=>KZ i.row (YY (fun g=>Zl ?_) fun g=>fin e (.inr h2) (.inr g))) fun h3=>fin e (.inr h2) (.inl h3)) fun h1=>BV (fun h3=>KZ i.row (YY (fun g=>Zl ?_) fun g=>fin e (.inl h1) (.inr g))) fun h3=>fin e (.inl h1) (.inl h3))⟩
 ·have e:Q5 t=false:=e
  unfold Y5;rw[e];rfl
 ·unfold Y5
  rw[decide_eq_false (show ¬ t.elem.s=Xa from h1),decide_eq_false (show ¬ t.elem.s=YN from h2),Bool.or_self,Bool.and_false];rfl
 ·unfold Y5
  rw[decide_eq_false h3,g,Bool.or_self,Bool.and_false];rfl
 ·unfold Y5
  rw[decide_eq_false h3,g,Bool.or_self,Bool.and_false];rfl
theorem b2d: ∀ x:Bool×TyS×Unit,yW x.2.1=true->Zd a5q 0 (Za LU (Zf (Yz x.1 x.2.1))) LJ [] (Zx c4u (encL x)):=by
 rintro⟨b,t,⟨⟩⟩ h
 refine d7s b t (YV (fun hb=>⟨Zc (t,()) rfl h,Zb (t,()) rfl (Zl ?_)⟩) fun hb=>ZA (fun h1=>ZA (fun h2=>Zl ?_) fun h2=>Zl ?_) fun h1=>Zl ?_)
 ·show Y5 t=Yz b t
  unfold Yz;rw[hb];rfl
 ·show _=Yz b t
  unfold Yz
  rw[hb,decide_eq_true h1,decide_eq_true h2,List.length_map]
  by_cases h3:t.dims.length=0
  ·rw[h3];rfl
  ·rw[decide_eq_false h3]
   show((t.dims.length:Int)==0)=false
   simpa using h3
 ·show _=Yz b t
  unfold Yz
  rw[hb,decide_eq_false h2,Bool.and_false];rfl
 ·show _=Yz b t
  unfold Yz
  rw[hb,decide_eq_false h1];rfl
theorem a9p(d:Df)(h:dW d=true)(R:Bool): ∀ (m i:Nat),m+i=d.ps.length->R=((nameI d.name.s&&decide (d.ps.length<=8)&&Yz d.given d.res&&YK d.body)&&(d.ps.drop i).all BL) ->
  At Gg 0 (Za K6 (Zf R)) KX 0 56 [(1,.ptr 0 0),(3,.pv (.int .i64 i))] [.obj (.box (Ee d))]:=by
 have e:=dfB h
 intro m
 induction m with
 | zero=>
  intro i hi b
  rw[List.drop_eq_nil_of_le (by omega),List.all_nil,Bool.and_true]at b
  refine a6u d i (ZU (XR (by omega)) (KZ e.name (YV (fun h1=>ZO (fun h2=>⟨Zc (d.given,d.res,()) rfl e.res,Zb (d.given,d.res,()) rfl (YV (fun h3=>⟨Zc (d.body,()) (UA d) e.body,Zb (d.body,()) (UA d) (Zl ?_)⟩) fun h3=>Zl ?_)⟩) fun h2=>Zl ?_) fun h1=>Zl ?_)))
  ·have h3:Yz d.given d.res=true:=h3
   rw[List.length_map]at h2
   rw[b,h1,h3,decide_eq_true (show d.ps.length<=8 by omega)];rfl
  ·have h3:Yz d.given d.res=false:=h3
   rw[b,h3,Bool.and_false];rfl
  ·rw[List.length_map]at h2
   rw[b,decide_eq_false (show ¬ d.ps.length<=8 by omega),Bool.and_false];rfl
  ·rw[b,h1];rfl
 | succ m ih=>
  intro i hi b
  have a:i<d.ps.length:=by omega
  have g:=Br (e.pw _ (List.getElem_mem a))
  have hl:=e.ps
  rw[List.drop_eq_getElem_cons a,List.all_cons]at b
  refine a6u d i (ZT (Xv a) ⟨Zp a rfl,ZB a (KZ g.1 (YY (fun h1=>Zl ?_) fun h1=>⟨Zp a rfl,ZB a ⟨Zp a rfl,ZB a ⟨Zc (d.ps[i].given,d.ps[i].ty,()) rfl g.2,Zb (d.ps[i].given,d.ps[i].ty,()) rfl (YY (fun h2=>Zl ?_) fun h2=> ?_)⟩⟩⟩))⟩)
  ·have:BL d.ps[i]=false:=by unfold BL;rw[h1];rfl
   rw[b,this,Bool.false_and,Bool.and_false]
  ·have h2:Yz d.ps[i].given d.ps[i].ty=false:=h2
   have:BL d.ps[i]=false:=by unfold BL;rw[h2,Bool.and_false]
   rw[b,this,Bool.false_and,Bool.and_false]
  ·have h2:Yz d.ps[i].given d.ps[i].ty=true:=h2
   have:BL d.ps[i]=true:=by unfold BL;rw[h1,h2];rfl
   rw[next (by omega)]
   exact ih (i+1) (by omega) (by rw[b,this,Bool.true_and])
theorem c0r: ∀ x:Df×Unit,dW x.1=true->Zd Gg 0 (Za K6 (Zf (ZK x.1))) KX [] (Zx d9y (encL x)):=by
 rintro⟨d,⟨⟩⟩ h
 refine e3n d ?_
 exact a9p d h _ d.ps.length 0 (by omega) (by rw[List.drop_zero];rfl)
theorem LK(p:Pm):pmT p=p.name.s++(if p.given=true then [58,32]++(Jc p.ty).1.s else []):=rfl
theorem c1f(d:Df)(h:dW d=true)(D:ZK d=true)(R:Str): ∀ (m i:Nat) (o:List UInt8),m+i=d.ps.length->o.length<=2000000+1060002*i ->
  R=⟨AP o (decide (i=0)) ((d.ps.drop i).map pmT)++[41]++Jw d.given d.res++[32,61,32]++ZN d.body⟩ ->
  At JL 0 (Za Qp (Zf R)) Qa 0 60 [(1,.ptr 0 0),(3,.pv (.str o)),(4,.pv (.int .i64 i))] [.obj (.box (Ee d))]:=by
 have y:=dfB h
 have r:=D
 unfold ZK at r
 simp only[Bool.and_eq_true,decide_eq_true_eq]at r
 have h8:=r.1.1.1.2
 have C:Ya d.body=true:=JP (by have:=r.1.2;unfold YK at this;rw[Bool.and_eq_true]at this;exact this.1)
 have hbl:(Zt d.body).s.length<=1153433592:=JM y.body C
 have htl:=Re d.res
 have B:(fun x:Tm×Unit=>tW x.1&&Ya x.1) (d.body,())=true:=by show(tW d.body&&Ya d.body)=true;rw[y.body,C];rfl
 intro m
 induction m with
 | zero=>
  intro i o hi ho q
  rw[List.drop_eq_nil_of_le (by omega)]at q
  have z:o.length<=11000000:=by have:1060002*i<=1060002*8:=Nat.mul_le_mul_left _ (by omega);omega
  refine b8m d o i (ZU (XR (by omega)) ⟨Zj (by show o.length+1<=_;omega),YV (fun l=>⟨Zc (d.res,()) rfl y.res,Zb (d.res,()) rfl ⟨Zj (by show 2+(Jc d.res).1.s.length<=_;omega),Zj (by rw[List.length_append,List.length_append];show o.length+1+(2+(Jc d.res).1.s.length)<=_;omega),Zj (by rw[List.length_append,List.length_append,List.length_append];show o.length+1+(2+(Jc d.res).1.s.length)+3<=_;omega),Zc (d.body,()) (UA d) B,Zb (d.body,()) (UA d) ⟨Zj (by rw[List.length_append,List.length_append,List.length_append,List.length_append];show o.length+1+(2+(Jc d.res).1.s.length)+3+(Zt d.body).s.length<=_;omega),Zg (x:=(⟨_⟩:Str)) ?_⟩⟩⟩) fun l=>⟨Zj (by rw[List.length_append];show o.length+1+3<=_;omega),Zc (d.body,()) (UA d) B,Zb (d.body,()) (UA d) ⟨Zj (by rw[List.length_append,List.length_append];show o.length+1+3+(Zt d.body).s.length<=_;omega),Zg (x:=(⟨_⟩:Str)) ?_⟩⟩⟩)
  ·rw[q]
   unfold Jw
   rw[l]
   rfl
  ·rw[q]
   unfold Jw
   rw[l]
   show(⟨o++[41]++[32,61,32]++ZN d.body⟩:Str)=⟨o++[41]++[]++[32,61,32]++ZN d.body⟩
   rw[List.append_nil]
 | succ m ih=>
  intro i o hi ho q
  have e:i<d.ps.length:=by omega
  have u:=y.pw _ (List.getElem_mem e)
  have A:=Br u
  have j:=b7o u
  have hty:=Re d.ps[i].ty
  have z:o.length<=11000000:=by have:1060002*i<=1060002*8:=Nat.mul_le_mul_left _ (by omega);omega
  have hnl:=A.1
  rw[List.drop_eq_getElem_cons e,List.map_cons,AP]at q
  have k:=fun o'=>ih (i+1) o' (by omega)
  rw[decide_eq_false (show ¬ i+1=0 by omega)]at k
  have g : ∀ a b:List UInt8,(a++b).length=a.length+b.length:=fun a b=>List.length_append
  refine b8m d o i (ZT (Xv e) (ZO (fun E=>⟨Zj (by show o.length+2<=_;omega),Zp e rfl,ZB e ⟨Zj (by rw[g];show o.length+2+d.ps[i].name.s.length<=_;omega),Zp e rfl,ZB e (YV (fun l=>⟨Zp e rfl,ZB e ⟨Zc (d.ps[i].ty,()) rfl A.2,Zb (d.ps[i].ty,()) rfl ⟨Zj (by show 2+(Jc d.ps[i].ty).1.s.length<=_;omega),Zj (by rw[g,g,g];show o.length+2+d.ps[i].name.s.length+(2+(Jc d.ps[i].ty).1.s.length)<=_;omega),?_⟩⟩⟩) fun l=> ?_)⟩⟩) fun E=>⟨Zp e rfl,ZB e ⟨Zj (by show o.length+d.ps[i].name.s.length<=_;omega),Zp e rfl,ZB e (YV (fun l=>⟨Zp e rfl,ZB e ⟨Zc (d.ps[i].ty,()) rfl A.2,Zb (d.ps[i].ty,()) rfl ⟨Zj (by show 2+(Jc d.ps[i].ty).1.s.length<=_;omega),Zj (by rw[g,g];show o.length+d.ps[i].name.s.length+(2+(Jc d.ps[i].ty).1.s.length)<=_;omega),?_⟩⟩⟩) fun l=> ?_)⟩⟩))
  ·rw[next (by omega)]
   rw[decide_eq_false (show ¬ i=0 by omega),LK,l,if_pos rfl]at q
   rw[LK,l,if_pos rfl,g,g]at j
   refine k _ ?_ ?_
   ·rw[g,g,g,g];show o.length+2+d.ps[i].name.s.length+(2+(Jc d.ps[i].ty).1.s.length)<=_
    have j:d.ps[i].name.s.length+(2+(Jc d.ps[i].ty).1.s.length)<=1060000:=j
    omega
   ·rw[q]
    show(⟨AP (o++[44,32]++(d.ps[i].name.s++([58,32]++(Jc d.ps[i].ty).1.s))) false _++[41]++Jw d.given d.res++[32,61,32]++ZN d.body⟩:Str)=_
    rw[<- List.append_assoc (o++[44,32]) d.ps[i].name.s]
  ·rw[next (by omega)]
   rw[decide_eq_false (show ¬ i=0 by omega),LK,l,if_neg (by simp),if_neg (by simp),List.append_nil]at q
   refine k _ ?_ q
   rw[g,g];show o.length+2+d.ps[i].name.s.length<=_
   omega
  ·rw[next (by omega)]
   rw[decide_eq_true (show i=0 by omega),LK,l,if_pos rfl,if_pos rfl,List.append_nil]at q
   rw[LK,l,if_pos rfl,g,g]at j
   refine k _ ?_ ?_
   ·rw[g,g,g];show o.length+d.ps[i].name.s.length+(2+(Jc d.ps[i].ty).1.s.length)<=_
    have j:d.ps[i].name.s.length+(2+(Jc d.ps[i].ty).1.s.length)<=1060000:=j
    omega
   ·rw[q,<- List.append_assoc o d.ps[i].name.s]
  ·rw[next (by omega)]
   rw[decide_eq_true (show i=0 by omega),LK,l,if_pos rfl,if_neg (by simp),List.append_nil,List.append_nil]at q
   refine k _ ?_ q
   rw[g];omega
theorem d7e: ∀ x:Df×Unit,(dW x.1&&ZK x.1)=true->Zd JL 0 (Za Qp (Zf (UO x.1))) Qa [] (Zx e9v (encL x)):=by
 rintro⟨d,⟨⟩⟩ h
 simp only[Bool.and_eq_true]at h
 have hn:=(dfB h.1).name
 refine f4y d ⟨Zj (by show 4+d.name.s.length<=_;omega),Zj (by rw[List.length_append];show 4+d.name.s.length+1<=_;omega),?_⟩
 refine c1f d h.1 h.2 _ d.ps.length 0 _ (by omega) (by rw[List.length_append,List.length_append];show 4+d.name.s.length+1<=_;omega) ?_
 rw[List.drop_zero,show decide (0=0)=true from rfl,Rk]
 rfl
theorem e0t: ∀ x:Df×Unit,dW x.1=true->Zd a8p 0 (Za OD (Zf (Cf x.1))) b6o [] (Zx e5b (encL x)):=by
 rintro⟨d,⟨⟩⟩ h
 have h:dW d=true:=h
 show Zd a8p 0 (Za OD (Zf (Cf d))) _ _ _
 refine f3p d ⟨Zc (d,()) rfl h,Zb (d,()) rfl (YY (fun a=> ?_) fun a=>⟨Zc (d,()) rfl ?_,Zb (d,()) rfl (ZO (fun h1=> ?_) fun h1=> ?_)⟩)⟩
 ·have a:ZK d=false:=a
  exact Zg (x:=((⟨[]⟩,1):Str×Int)) (by unfold Cf;rw[a];rfl)
 ·have a:ZK d=true:=a
  show(dW d&&ZK d)=true
  rw[h,a];rfl
 ·have a:ZK d=true:=a
  exact Zg (x:=((⟨[]⟩,3):Str×Int)) (by unfold Cf Qi;rw[a,if_pos rfl,if_pos h1])
 ·have a:ZK d=true:=a
  exact Zg (x:=((UO d,0):Str×Int)) (by unfold Cf Qi;rw[a,if_pos rfl,if_neg h1])
def tlO(l:List (List UInt8)):List UInt8:=l.flatMap fun s=>[44,32]++s
theorem a1t(a:List UInt8): ∀ l:List (List UInt8),Zu (a::l)=a++tlO l
 | []=>by simp[Zu,tlO]
 | b::l=>by rw[Hu,a1t b l];unfold tlO;rw[List.flatMap_cons,List.append_assoc,List.append_assoc]
theorem a5b(w:List UInt8)(l:List Str)(hl:l.length<=60)(hn : ∀ s∈l,s.s.length<=30)(R:Str): ∀ (d i:Nat) (o:List UInt8),d+i=l.length->1<=i->o≠[]->o.length<=100+32*i->R=⟨o++tlO ((l.drop i).map (·.s))++[10]⟩ ->
  At UX 0 (Za VD (Zf R)) VC 0 34 [(0,.pv (.str w)),(1,.pv (enc l)),(5,.pv (.str o)),(6,.pv (.int .i64 i))] []:=by
 intro d
 induction d with
 | zero=>
  intro i o hi h1 ho e b
  rw[List.drop_eq_nil_of_le (by omega)]at b
  refine GJ w l o i (ZU (XR (by omega)) (BV (fun _=>⟨Zj (by show o.length+1<=_;omega),Zg (x:=(⟨o++[10]⟩:Str)) ?_⟩) fun h=>absurd h ho))
  rw[b]
  show _=(⟨o++[]++[10]⟩:Str)
  rw[List.append_nil]
 | succ d ih=>
  intro i o hi h1 ho e b
  have a:i<l.length:=by omega
  have hs:=hn _ (List.getElem_mem a)
  rw[List.drop_eq_getElem_cons a,List.map_cons]at b
  refine GJ w l o i (ZT (Xv a) (ZA (fun h=>absurd h (by omega)) fun _=>⟨Zp a rfl,ZB a ⟨Zj (by show 2+l[i].s.length<=_;omega),Zj (by rw[List.length_append];show o.length+(2+l[i].s.length)<=_;omega),?_⟩⟩))
  rw[next (by omega)]
  refine ih (i+1) _ (by omega) (by omega) (by simp) (by rw[List.length_append,List.length_append];show o.length+(2+l[i].s.length)<=_;omega) ?_
  rw[b]
  unfold tlO
  rw[List.flatMap_cons,<- List.append_assoc o]
theorem a8l: ∀ x:Str×List Str×Unit,(decide (x.1.s.length<=30)&&decide (x.1.s≠[])&&decide (x.2.1.length<=60)&&x.2.1.all fun s:Str=>nameI s.s)=true->Zd UX 0 (Za VD (Zf (⟨Qh (Kv x.1.s x.2.1)⟩:Str))) VC [] (Zx c1r (encL x)):=by
 rintro⟨⟨w⟩,l,⟨⟩⟩ h
 simp only[Bool.and_eq_true,decide_eq_true_eq,List.all_eq_true]at h
 obtain⟨⟨⟨h1,h2⟩,h3⟩,h4⟩:=h
 have h1:w.length<=30:=h1
 have h3:l.length<=60:=h3
 have hn : ∀ s∈l,s.s.length<=30:=fun s hs=>(Xn (h4 s hs)).2.2
 refine e2c w l ?_
 show At UX 0 (Za VD (Zf (⟨Qh (Kv w l)⟩:Str))) VC 0 34 [(0,.pv (.str w)),(1,.pv (enc l)),(5,.pv (.str [])),(6,.pv (.int .i64 ((0:Nat):Int)))] []
 cases l with
 | nil=>exact GJ w [] [] (0:Nat) (ZU (by decide) (BV (fun h=>absurd rfl h) fun _=>Zg (x:=(⟨[]⟩:Str)) rfl))
 | cons a r=>
  have b:0<(a::r).length:=by simp
  have ha:=hn a (by simp)
  refine GJ w (a::r) [] (0:Nat) (ZT (Xv b) (ZT (by decide) ⟨Zj (by show w.length+1<=_;omega),Zp b rfl,ZB b ⟨Zj (by rw[List.length_append];show w.length+1+a.s.length<=_;omega),?_⟩⟩))
  rw[next (by omega)]
  refine a5b w (a::r) h3 hn _ r.length 1 _ (by rw[List.length_cons]) (by omega) (by simp) (by rw[List.length_append,List.length_append];show w.length+1+a.s.length<=_;omega) ?_
  show(⟨(w++[32]++Zu (a.s::r.map fun x:Str=>x.s))++[10]++[]⟩:Str)=⟨w++[32]++a.s++tlO (r.map fun x:Str=>x.s)++[10]⟩
  rw[a1t,List.append_nil,<- List.append_assoc (w++[32])]
theorem a5h(l:List Str)(hl:l.length<=1048576)(hs : ∀ s∈l,s.s.length<=1048576)(R:Bool): ∀ (d i:Nat),d+i=l.length->R=((l.drop i).all fun s=>nameI s.s) ->
  At KE 0 (Za Qt (Zf R)) Qs 0 16 [(0,.pv (enc l)),(3,.pv (.int .i64 i))] []:=by
 intro d
 induction d with
 | zero=>
  intro i hi b
  rw[List.drop_eq_nil_of_le (by omega)]at b
  exact LY l i (ZU (XR (by omega)) (Zl b.symm))
 | succ d ih=>
  intro i hi b
  have a:i<l.length:=by omega
  rw[List.drop_eq_getElem_cons a,List.all_cons]at b
  refine LY l i (ZT (Xv a) ⟨Zp a rfl,ZB a (KZ (hs _ (List.getElem_mem a)) (YY (fun h1=>Zl ?_) fun h1=> ?_))⟩)
  ·rw[b,h1];rfl
  ·rw[next (by omega)]
   exact ih (i+1) (by omega) (by rw[b,h1,Bool.true_and])
theorem a9c: ∀ x:List Str×Unit,Xi x.1=true->Zd KE 0 (Za Qt (Zf (x.1.all fun s:Str=>nameI s.s))) Qs [] (Zx c4z (encL x)):=by
 rintro⟨l,⟨⟩⟩ h
 have h:=Fj h
 refine d3b l ?_
 exact a5h l h.1 h.2 _ l.length 0 (by omega) (by rw[List.drop_zero])
theorem e6l(m:Mdu)(h:mW m=true)(h60:m.ds.length<=60)(ha:m.ds.all ZK=true)(R:Str×Int): ∀ (d i:Nat) (o:List UInt8),d+i=m.ds.length->o.length<=200000+1200000001*i ->
  R=Qi ⟨o++Qh ((m.ds.drop i).map KN)⟩->At QR 0 (Za Ua (Zf R)) UE 1 87 [(1,.ptr 0 0),(4,.pv (.str o)),(6,.pv (.int .i64 i))] [.obj (.box (Di m))]:=by
 have g:=mdB h
 intro d
 induction d with
 | zero=>
  intro i o hi ho b
  rw[List.drop_eq_nil_of_le (by omega)]at b
  have b:R=Qi ⟨o++[]⟩:=b
  rw[List.append_nil]at b
  unfold Qi at b
  refine b8u m o i (ZU (XR (by omega)) (ZO (fun h1=> ?_) fun h1=> ?_))
  ·rw[if_pos h1]at b
   exact Zg (x:=((⟨[]⟩,3):Str×Int)) b.symm
  ·rw[if_neg h1]at b
   exact Zg (x:=((⟨o⟩,0):Str×Int)) b.symm
 | succ d ih=>
  intro i o hi ho b
  have a:i<m.ds.length:=by omega
  have hd:=g.ds _ (List.getElem_mem a)
  have e:=List.all_eq_true.1 ha _ (List.getElem_mem a)
  have hll:=Si hd e
  have hol:o.length<=80000000000:=by have:1200000001*i<=1200000001*60:=Nat.mul_le_mul_left _ (by omega);omega
  rw[List.drop_eq_getElem_cons a,List.map_cons]at b
  refine b8u m o i (ZT (Xv a) ⟨Zp a rfl,ZB a ⟨Zc (m.ds[i],()) rfl (by show(dW m.ds[i]&&ZK m.ds[i])=true;rw[hd,e];rfl),Zb (m.ds[i],()) rfl ⟨Zj (by show(KN m.ds[i]).length+1<=_;omega),Zj (by rw[List.length_append];show o.length+((KN m.ds[i]).length+1)<=_;omega),?_⟩⟩⟩)
  rw[next (by omega)]
  refine ih (i+1) _ (by omega) (by rw[List.length_append,List.length_append];show o.length+((KN m.ds[i]).length+1)<=_;omega) ?_
  rw[b]
  unfold Qh
  rw[List.flatMap_cons,<- List.append_assoc o]
  rfl
theorem e6r(m:Mdu)(g:mW m=true)(e:m.ds.length<=60)(o:List UInt8)(ho:o.length<=200000)(R:Str×Int)(j:m.ds.all ZK=true->R=Qi ⟨o++Qh (m.ds.map KN)⟩)(hb:m.ds.all ZK=false->R=(⟨[]⟩,1)):
  ∀ (d i:Nat),d+i=m.ds.length->m.ds.all ZK=(m.ds.drop i).all ZK->At QR 0 (Za Ua (Zf R)) UE 0 87 [(1,.ptr 0 0),(4,.pv (.str o)),(5,.pv (.int .i64 i))] [.obj (.box (Di m))]:=by
 have h:=mdB g
 intro d
 induction d with
 | zero=>
  intro i hi b
  rw[List.drop_eq_nil_of_le (by omega),List.all_nil]at b
  refine b7s m o i (ZU (XR (by omega)) ?_)
  exact e6l m g e b R m.ds.length 0 o (by omega) (by omega) (by rw[List.drop_zero];exact j b)
 | succ d ih=>
  intro i hi b
  have a:i<m.ds.length:=by omega
  rw[List.drop_eq_getElem_cons a,List.all_cons]at b
  refine b7s m o i (ZT (Xv a) ⟨Zp a rfl,ZB a ⟨Zc (m.ds[i],()) rfl (h.ds _ (List.getElem_mem a)),Zb (m.ds[i],()) rfl (YY (fun h1=> ?_) fun h1=> ?_)⟩⟩)
  ·have h1:ZK m.ds[i]=false:=h1
   rw[h1]at b
   exact Zg (x:=((⟨[]⟩,1):Str×Int)) (hb b).symm
  ·have h1:ZK m.ds[i]=true:=h1
   rw[next (by omega)]
   exact ih (i+1) (by omega) (by rw[b,h1,Bool.true_and])
theorem b3x{w:List UInt8}{l:List Str}(hw:w.length<=30)(hn:l.length<=1000)(h:(l.all fun s=>nameI s.s)=true):(Qh (Kv w l)).length<=40032:=by
 unfold Kv
 split
 ·exact Nat.zero_le _
 ·have:=GK hn (Nat.le_refl _) h
  show((((w++[32]++Zu (l.map fun x:Str=>x.s))++[10])++[]:List UInt8)).length<=_
  rw[List.append_nil,List.length_append,List.length_append,List.length_append]
  show w.length+1+_+1<=_
  omega
theorem d2h: ∀ x:Mdu×Unit,mW x.1=true->Zd QR 0 (Za Ua (Zf (Jo x.1))) UE [] (Zx f0m (encL x)):=by
 rintro⟨m,⟨⟩⟩ i
 have g:=mdB i
 have i:mW m=true:=i
 show Zd QR 0 (Za Ua (Zf (Jo m))) _ _ _
 have bad:VP m=false->Zf (Jo m) (.tup [.str [],.int .i64 1]):=fun h=>Zg (x:=((⟨[]⟩,1):Str×Int)) (by unfold Jo;rw[h];rfl)
 refine f7i m (KZ g.name (YY (fun h1=>bad ?_) fun h1=>⟨Zc (m.im,()) rfl (Bp g.iml g.im),Zb (m.im,()) rfl (YY (fun h2=>bad ?_) fun h2=>⟨Zc (m.ex,()) rfl (Bp g.exl g.ex),Zb (m.ex,()) rfl (YY (fun h3=>bad ?_) fun h3=>ZO (fun j=>bad ?_) fun j=>ZO (fun l=>bad ?_) fun l=>ZO (fun k=>bad ?_) fun k=> ?_)⟩)⟩))
 ·unfold VP;rw[h1];rfl
 ·have h2:(m.im.all fun s=>nameI s.s)=false:=h2
  unfold VP;rw[h2,Bool.and_false];rfl
 ·have h3:(m.ex.all fun s=>nameI s.s)=false:=h3
  unfold VP;rw[h3,Bool.and_false];rfl
 ·rw[List.length_map]at j
  unfold VP;rw[decide_eq_false (show ¬ m.im.length<=20 by omega),Bool.and_false];rfl
 ·rw[List.length_map]at l
  unfold VP;rw[decide_eq_false (show ¬ m.ex.length<=60 by omega),Bool.and_false];rfl
 ·rw[List.length_map]at k
  unfold VP;rw[decide_eq_false (show ¬ m.ds.length<=60 by omega),Bool.and_false]
 ·have h2:(m.im.all fun s=>nameI s.s)=true:=h2
  have h3:(m.ex.all fun s=>nameI s.s)=true:=h3
  rw[List.length_map]at j l k
  have l1:=(Xn h1).2.2
  have u:VP m=true:=by unfold VP;rw[h1,h2,h3,decide_eq_true (by omega),decide_eq_true (by omega),decide_eq_true (by omega)];rfl
  have i2:=b3x (w:=BU) (by decide) (show m.im.length<=1000 by omega) h2
  have i3:=b3x (w:=Tx) (by decide) (show m.ex.length<=1000 by omega) h3
  have r:(fun x:Str×List Str×Unit=>decide (x.1.s.length<=30)&&decide (x.1.s≠[])&&decide (x.2.1.length<=60)&&x.2.1.all fun s:Str=>nameI s.s) ((⟨BU⟩:Str),m.im,())=true:=by
   show(decide (BU.length<=30)&&decide (BU≠[])&&decide (m.im.length<=60)&&m.im.all fun s=>nameI s.s)=true
   rw[h2,decide_eq_true (show m.im.length<=60 by omega)];rfl
  have q:(fun x:Str×List Str×Unit=>decide (x.1.s.length<=30)&&decide (x.1.s≠[])&&decide (x.2.1.length<=60)&&x.2.1.all fun s:Str=>nameI s.s) ((⟨Tx⟩:Str),m.ex,())=true:=by
   show(decide (Tx.length<=30)&&decide (Tx≠[])&&decide (m.ex.length<=60)&&m.ex.all fun s=>nameI s.s)=true
   rw[h3,decide_eq_true (show m.ex.length<=60 by omega)];rfl
  have e : ∀ a b:List UInt8,(a++b).length=a.length+b.length:=fun a b=>List.length_append
  refine⟨Zj (by show 7+m.name.s.length<=_;omega),Zj (by rw[e];show 7+m.name.s.length+1<=_;omega),Zc ((⟨BU⟩:Str),m.im,()) rfl r,Zb ((⟨BU⟩:Str),m.im,()) rfl ⟨Zj (by rw[e,e];show 7+m.name.s.length+1+(Qh (Kv BU m.im)).length<=_;omega),Zc ((⟨Tx⟩:Str),m.ex,()) rfl q,Zb ((⟨Tx⟩:Str),m.ex,()) rfl ⟨Zj (by rw[e,e,e];show 7+m.name.s.length+1+(Qh (Kv BU m.im)).length+(Qh (Kv Tx m.ex)).length<=_;omega),?_⟩⟩⟩
  refine e6r m i (by omega) _ ?_ (Jo m) (fun ha=> ?_) (fun hb=> ?_) m.ds.length 0 (by omega) (by rw[List.drop_zero])
  ·rw[e,e,e,e];show 7+m.name.s.length+1+(Qh (Kv BU m.im)).length+(Qh (Kv Tx m.ex)).length<=_;omega
  ·unfold Jo f8r a7o
   rw[u,ha]
   show Qi _=Qi _
   congr 2
   show Qh _=([109,111,100,117,108,101,32]:List UInt8)++m.name.s++[10]++Qh (Kv BU m.im)++Qh (Kv Tx m.ex)++Qh (m.ds.map KN)
   unfold Qh
   rw[List.flatMap_append,List.flatMap_append,List.flatMap_append]
   simp[e8f]
  ·unfold Jo;rw[hb,Bool.and_false];rfl
theorem d4s(d:Df):d9e d=(K5 d.body 30&&decide (d.ps.length<=10)&&decide (d.name.s.length<=40)&&d.ps.all fun p=>decide (p.ty.dims.length<=8)):=rfl
theorem zpd(d:Df):PV.asXs (List.getD (List.drop 2 (PV.cells (enc d))) 0 default)=d.ps.map enc:=rfl
theorem zpm(p:Pm):PV.asXs (List.getD (List.drop 1 (List.drop 1 (List.drop 2 (PV.cells (enc p))))) 0 default)=p.ty.dims.map enc:=rfl
theorem zpf(p:Pm):(decide (0+List.length [Sh.sl 2]<=List.length (List.drop 1 (List.drop 1 (List.drop 2 (PV.cells (enc p))))))&&Yk (List.drop 1 (List.drop 1 (List.drop 2 (PV.cells (enc p))))) 0 [Sh.sl 2])=true:=rfl
theorem d4v(m:Mdu)(q:mW m=true)(i:Nat)(a:i<m.ds.length)(R:Bool)(g:(m.ds[i].ps.all fun p=>decide (p.ty.dims.length<=8))=true->At V6 0 (Za WF (Zf R)) WP 0 81 [(1,.ptr 0 0),(3,.pv (.int .i64 ((i+1:Nat):Int)))] [.obj (.box (Di m))])(h:(m.ds[i].ps.all fun p=>decide (p.ty.dims.length<=8))=false->R=false)(hp:m.ds[i].ps.length<=10):
  ∀ (d k:Nat),d+k=m.ds[i].ps.length->(m.ds[i].ps.all fun p=>decide (p.ty.dims.length<=8))=((m.ds[i].ps.drop k).all fun p=>decide (p.ty.dims.length<=8)) ->
  At V6 0 (Za WF (Zf R)) WP 1 81 [(1,.ptr 0 0),(3,.pv (.int .i64 i)),(4,.pv (.int .i64 k))] [.obj (.box (Di m))]:=by
 have l:=mdB q
 have hds:=l.dsl
 intro d
 induction d with
 | zero=>
  intro k j e
  rw[List.drop_eq_nil_of_le (by omega),List.all_nil]at e
  refine a3v m i k ⟨Zp a rfl,ZB a ?_⟩
  rw[zpd,List.length_map]
  refine ZU (Yv (by omega)) ?_
  rw[next (by omega)]
  exact g e
 | succ d ih=>
  intro k j e
  have b:k<m.ds[i].ps.length:=by omega
  have r:(decide (0<=(k:Int))&&decide (Int.toNat (k:Int)<List.length (List.map (enc:Pm->PV) m.ds[i].ps))&&5==5)=true:=by simp[b]
  rw[List.drop_eq_getElem_cons b,List.all_cons]at e
  refine a3v m i k ⟨Zp a rfl,ZB a ?_⟩
  rw[zpd,List.length_map]
  refine ZT (Yq b) ⟨Zp a rfl,ZB a ?_⟩
  rw[zpd,XZ enc b]
  refine⟨r,zpf _,?_⟩
  rw[zpm,List.length_map]
  refine ZO (fun h1=>Zl ?_) fun h1=> ?_
  ·rw[decide_eq_false (show ¬ m.ds[i].ps[k].ty.dims.length<=8 by omega),Bool.false_and]at e
   exact(h e).symm
  ·rw[next (by omega)]
   rw[decide_eq_true (show m.ds[i].ps[k].ty.dims.length<=8 by omega),Bool.true_and]at e
   exact ih (k+1) (by omega) e
theorem a9g(m:Mdu)(e:mW m=true)(R:Bool): ∀ (d i:Nat),d+i=m.ds.length->R=((m.ds.drop i).all d9e&&(decide (m.ds.length<=5)&&decide (m.im.length<=25)&&decide (m.ex.length<=65))) ->
  At V6 0 (Za WF (Zf R)) WP 0 81 [(1,.ptr 0 0),(3,.pv (.int .i64 i))] [.obj (.box (Di m))]:=by
 have g:=mdB e
 intro d
 induction d with
 | zero=>
  intro i hi b
  rw[List.drop_eq_nil_of_le (by omega),List.all_nil,Bool.true_and]at b
  refine a1f m i (ZU (XR (by omega)) (ZO (fun h1=>ZO (fun h2=>Zl ?_) fun h2=>Zl ?_) fun h1=>Zl ?_))
  ·rw[List.length_map]at h1 h2 ⊢
   rw[b,decide_eq_true (show m.ds.length<=5 by omega),decide_eq_true (show m.im.length<=25 by omega),Bool.true_and,Bool.true_and]
   exact decide_eq_decide.2 (by omega)
  ·rw[List.length_map]at h2
   rw[b,decide_eq_false (show ¬ m.im.length<=25 by omega),Bool.and_false];rfl
  ·rw[List.length_map]at h1
   rw[b,decide_eq_false (show ¬ m.ds.length<=5 by omega)];rfl
 | succ d ih=>
  intro i hi b
  have a:i<m.ds.length:=by omega
  have hd:=dfB (g.ds _ (List.getElem_mem a))
  rw[List.drop_eq_getElem_cons a,List.all_cons,d4s]at b
  refine a1f m i (ZT (Xv a) ⟨Zp a rfl,ZB a ⟨Zc (m.ds[i].body,30,()) (d2g _ _) hd.body,Zb (m.ds[i].body,30,()) (d2g _ _) (YY (fun h1=>Zl ?_) fun h1=>⟨Zp a rfl,ZB a ?_⟩)⟩⟩)
  ·have h1:K5 m.ds[i].body 30=false:=h1
   rw[b,h1];rfl
  ·have h1:K5 m.ds[i].body 30=true:=h1
   rw[zpd,List.length_map]
   refine ZO (fun h2=>Zl ?_) fun h2=>⟨Zp a rfl,ZB a (ZO (fun h3=>Zl ?_) fun h3=> ?_)⟩
   ·rw[b,decide_eq_false (show ¬ m.ds[i].ps.length<=10 by omega),Bool.and_false];rfl
   ·rw[b,decide_eq_false (show ¬ m.ds[i].name.s.length<=40 by omega),Bool.and_false];rfl
   ·rw[h1,decide_eq_true (show m.ds[i].ps.length<=10 by omega),decide_eq_true (show m.ds[i].name.s.length<=40 by omega),Bool.true_and,Bool.true_and]at b
    exact d4v m e i a R (fun h=>ih (i+1) (by omega) (by rw[b,h];rfl)) (fun h=>by rw[b,h];rfl) (by omega) m.ds[i].ps.length 0 (by omega) (by rw[List.drop_zero])
theorem c4j: ∀ x:Mdu×Unit,mW x.1=true->Zd V6 0 (Za WF (Zf (MG x.1))) WP [] (Zx d1a (encL x)):=by
 rintro⟨m,⟨⟩⟩ h
 refine e5g m ?_
 exact a9g m h _ m.ds.length 0 (by omega) (by rw[List.drop_zero];show MG m=_;unfold MG;rw[Bool.and_assoc,Bool.and_assoc,Bool.and_assoc])
theorem c1n(m:Mdu)(h:mW m=true)(a:List UInt8)(e:Int): ∀ (d i:Nat),d+i=m.ds.length ->
  At Ab 0 (Za Gq (Zf true)) G8 0 68 [(1,.ptr 0 0),(3,.pv (.str a)),(4,.pv (.int .i64 e)),(5,.pv (.str a)),(6,.pv (.int .i64 e)),(7,.pv (.int .i64 i))] [.obj (.box (Di m))]:=by
 have g:=mdB h
 have hl:=g.dsl
 intro d
 induction d with
 | zero=>
  intro i hi
  exact b9k m a a e e i (ZU (XR (by omega)) (ZT (by simp) (Zl (by simp))))
 | succ d ih=>
  intro i hi
  have b:i<m.ds.length:=by omega
  have hd:=g.ds _ (List.getElem_mem b)
  refine b9k m a a e e i (ZT (Xv b) ⟨Zp b rfl,ZB b ⟨Zc (m.ds[i],()) rfl hd,Zb (m.ds[i],()) rfl ⟨Zp b rfl,ZB b ⟨Zc (m.ds[i],()) rfl hd,Zb (m.ds[i],()) rfl (ZU (by simp) (ZU (by simp) ?_))⟩⟩⟩⟩)
  rw[next (by omega)]
  exact ih (i+1) (by omega)
theorem e2h: ∀ x:Mdu×Unit,mW x.1=true->Zd Ab 0 (Za Gq (Zf true)) G8 [] (Zx e5i (encL x)):=by
 rintro⟨m,⟨⟩⟩ hw
 refine g1e m (Zb () rfl (ZU (by simp) ⟨Zc (m,()) rfl hw,Zb (m,()) rfl (YY (fun _=>Zl rfl) fun _=>⟨Zc (m,()) rfl hw,Zb (m,()) rfl ⟨Zc (m,()) rfl hw,Zb (m,()) rfl ?_⟩⟩)⟩))
 exact c1n m hw _ _ m.ds.length 0 (by omega)
def nmV(l:Lin)(i:Nat):List Str:=(l.t.take i).map (·.v)
theorem a6d(l:Lin){i:Nat}(h:i<l.t.length):(nmV l (i+1)).map (enc:Str->PV)=(nmV l i).map enc++[.str l.t[i].v.s]:=by
 unfold nmV
 rw[List.take_succ_eq_append_getElem h,List.map_append,List.map_append];rfl
theorem Es(l:Lin){i:Nat}(h:i<=l.t.length):(nmV l i).length=i:=by unfold nmV;rw[List.length_map,List.length_take];omega
theorem e4r(l:Lin):nmV l l.t.length=Vb l:=by unfold nmV Vb;rw[List.take_of_length_le (Nat.le_refl _)]
theorem f0x{q sz m:Nat}{xs:List PV}(h:xs.length=q)(h1:(q+m)*sz<=1099511627776)(h2:q+m<=1099511627776):(xs.length==q&&q==q&&decide ((q+m)*sz<=1099511627776)&&decide (q+m<=1099511627776))=true:=by simp[h,h1,h2]
theorem a2c(l:Lin)(hl:l.t.length<=1000000): ∀ (k i:Nat),k+i=l.t.length->1<=i ->
  At Ka 0 (Za UT (Zf (Vb l))) U0 0 20 [(3,.row 0 i 0 i),(7,.pv (enc l.t)),(8,.pv (.int .i64 l.t.length)),(9,.pv (.int .i64 i))] [.obj (.row false 9 1 ((nmV l i).map enc))]:=by
 intro k
 induction k with
 | zero=>
  intro i hi h1
  obtain rfl:i=l.t.length:=by omega
  refine RI l _ _ (nmV l l.t.length) (ZU (Yv (by omega)) ⟨by simp[Es],?_⟩)
  rw[List.drop_zero,List.take_of_length_le (by rw[List.length_map,Es l (Nat.le_refl _)];exact Nat.le_refl _),e4r]
  exact Zg (x:=Vb l) rfl
 | succ k ih=>
  intro i hi h1
  have a:i<l.t.length:=by omega
  refine RI l i i (nmV l i) (ZT (Yq a) ⟨Zp a rfl,ZB a ⟨f0x (m:=1) (by rw[List.length_map,Es l (by omega)]) (by omega) (by omega),?_⟩⟩)
  have:=ih (i+1) (by omega) (by omega)
  rw[a6d l a,<- next (by omega)]at this
  exact this
theorem a8s: ∀ a:Lin×Unit,decide (a.1.t.length<=1000000)=true->Zd Ka 0 (Za UT (Zf (Vb a.1))) U0 [] (Zx d5w (encL a)):=by
 rintro⟨l,⟨⟩⟩ h
 have h:l.t.length<=1000000:=of_decide_eq_true h
 refine c9c l ?_
 rw[List.length_map]
 by_cases h0:l.t.length=0
 ·refine Rx l ((0:Nat):Int) (ZU (Yv (by omega)) ?_)
  have:Vb l=[]:=by unfold Vb;rw[List.length_eq_zero_iff.1 h0];rfl
  rw[this]
  exact⟨rfl,rfl⟩
 ·have b:0<l.t.length:=by omega
  refine Rx l ((0:Nat):Int) (ZT (Yq b) ⟨Zp b rfl,ZB b ?_⟩)
  have:=a2c l h (l.t.length - 1) 1 (by omega) (by omega)
  rw[show(1:Nat)=0+1 from rfl,a6d l b]at this
  exact this
end Go.Pl
