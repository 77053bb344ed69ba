/-
  Texts of mine that belong together (packed by pack.py), for every input: GYl, QYl, TyYm, GYd, TyYo, TyYn, TyYp, QYm, QYn, GYe, TyYq, QYp, GYv, QYv, QYw, TyJi, GJl, QJl, QJm, TyJa, TyJb, TyJd, TyJw, GJw, GJc, GJb, GJa, QJa, TyJc, QJb, TyJe, TyJf, TyJg, TyJh, QJn, VwX, TyAk, VwN, QJw, TyJv, TyJz, GJy, QJy.
-/
import Derived.Test.YtgclceacfcdigaaGreatDoorChecked
import Derived.Test.YtgclceacfcdigaaGreatDoorKV2
import Derived.Test.YtgclceacfcdigaaGreatDoorKV3
import Derived.Test.YtgclceacfcdigaaGreatDoorKV4
import Derived.KernelRfl
set_option linter.unusedVariables false
set_option linter.defProp false
set_option linter.unusedSimpArgs false
namespace Go.Pl
open Go.RowKit
open Enc (enc dec is)
open EncL (encL decL isL)
set_option maxRecDepth 100000
noncomputable def Q0:IC:=XG Proofs.Tryz.f64
def Ki:List IRes:=[(.tmp 2)]
abbrev f7t:Nat:=46
noncomputable def f6x:Nat×Den:=(89,.pure (preT (fun _:Str×Str×Unit=>true)) (Zl (fun x:Str×Str×Unit=>x.2.1.s.isPrefixOf x.1.s)))
noncomputable def Ga:ZM:=YN [f6x,(90,.pure (preT (fun x:Str×UInt8×Unit=>decide (x.1.s.length<=1048576))) (Zl (fun x:Str×UInt8×Unit=>Lib.indexByte x.1.s x.2.1)))]
def g6v{G:PV->Prop}(s:List UInt8):=Vw (At Ga 0 (Za Ki G) Q0 0 46 [Zf s,(3,ZB)] []) G (.nil) Ga Ki Q0 (Ye 46 [.str s]) (by delta Zf ZB;exact rfl)
def a4c(a:Nat)(Zm:List UInt8):Bool:=decide (0<=(↑a:Int))&&decide (Int.toNat (↑a:Int)<List.length Zm)
def a1u(a:List UInt8)(Zm:Nat):Nat:=UInt8.toNat (List.getD a (Int.toNat (↑Zm:Int)) (0:UInt8))
def a2y(a:Nat):Nat×AV:=(3,.pv (.int .i64 (IntKind.wrap IntKind.i64 ((↑a:Int)+1))))
def b2b(a:Nat)(Zm:List UInt8):Bool:=decide (0<=(↑a:Int))&&true&&decide (Int.toNat (↑a:Int)<=List.length Zm)&&decide (List.length Zm<=List.length Zm)
def EI(a:Nat)(Zm:List UInt8):PV:=.str (List.drop (Int.toNat (↑a:Int)) (List.take (List.length Zm) Zm))
def f7s{G:PV->Prop}(s:List UInt8)(n:Nat):=Wy (if (decide ((↑n:Int)<(↑(List.length s):Int)))=true then(a4c n s)=true∧(if ((↑(a1u s n):Int)==32)=true then At Ga 0 (Za Ki G) Q0 0 46 [Zf s,a2y n] []else((a4c n s)=true∧(if ((↑(a1u s n):Int)==9)=true then At Ga 0 (Za Ki G) Q0 0 46 [Zf s,a2y n] []else((a4c n s)=true∧(if ((↑(a1u s n):Int)==10)=true then At Ga 0 (Za Ki G) Q0 0 46 [Zf s,a2y n] []else((b2b n s)=true∧(∃ b:Bool,(AV.pv (Zl YU [EI n s,.str [47,47]])=AV.pv (enc b))∧(if (b)=true then(b2b n s)=true∧((Go.Pl.preT (fun(x:Str×UInt8×Unit)=>decide (List.length (Str.s x.1)<=1048576)) [EI n s,.int IntKind.u8 10])=true∧(∃ a:Int,(AV.pv (Zl (fun(x:Str×UInt8×Unit)=>Lib.indexByte (Str.s x.1) x.2.1) [EI n s,.int IntKind.u8 10])=AV.pv (enc a))∧(if (decide (a<0))=true then G (.int .i64 (↑(List.length s):Int))else(At Ga 0 (Za Ki G) Q0 0 46 [Zf s,(3,.pv (.int .i64 (IntKind.wrap IntKind.i64 ((↑n:Int)+a))))] []))))else(G (.int .i64 (↑n:Int)))))))))))else(G (.int .i64 (↑n:Int)))) G (dm [dv Bool,dv Int] 73 0x200014261100b45210200242221220222222007422212202222222222200c42104242) Ga Ki Q0 0 46 [Zf s,(3,.pv (.int .i64 (n:Int)))] [] (by delta a4c a1u Zf a2y b2b YU EI;exact rfl)
noncomputable def Zy:IC:=XG Proofs.Tryz.f66
def Zz:List IRes:=[(.tmp 2),(.tmp 3)]
abbrev f7v:Nat:=49
noncomputable def f5a:Nat×Den:=(95,.pure (preT (fun x:Str×Bool×Unit=>decide (x.1.s.length<=1048576))) (Zl (fun x:Str×Bool×Unit=>XX x.1 x.2.1)))
noncomputable def ZI:ZM:=YN [(94,.pure (preT (fun _:UInt8×Unit=>true)) (Zl (fun x:UInt8×Unit=>lowB x.1))),f5a,(96,.pure (preT (fun _:Str×Unit=>true)) (Zl (fun x:Str×Unit=>QW.contains x.1.s))),(72,.pure (preT (fun x:Str×Unit=>decide (x.1.s.length<=1048576))) (Zl (fun x:Str×Unit=>nameI x.1.s))),(97,.pure (preT (fun _:UInt8×Unit=>true)) (Zl (fun x:UInt8×Unit=>digB x.1))),g4r,f6x,(99,.pure Rw a0c)]
def AC:PV:=.tup [.int .i64 0,.str []]
def b7v(a:List UInt8):Bool:=Go.Pl.preT (fun(z0':UInt8×Unit)=>true) (SK a)
def Mx:=fun(a:Str×Bool×Unit)=>decide (List.length (Str.s a.1)<=1048576)
def PE:=fun(a:Str×Bool×Unit)=>XX a.1 a.2.1
def Ck:=fun(a:Str×Unit)=>nameI (Str.s a.1)
def Sk(a:List UInt8):List PV:=[.str a,.bool false]
def Yb:Nat×AV:=(10,.pv (.agg (List.map PV.str ZA)))
def f6t{G:PV->Prop}(s:List UInt8):=Vw (if (s==[])=true then G (AC)else((Kb s)=true∧((b7v s)=true∧(∃ j:Bool,(AV.pv (Zl (fun(x:UInt8×Unit)=>lowB x.1) (SK s))=AV.pv (enc j))∧(if (j)=true then(Go.Pl.preT Mx [.str s,.bool true])=true∧(∃ a:Str,(AV.pv (Zl PE [.str s,.bool true])=AV.pv (enc a))∧(∃ g:Bool,(AV.pv (Zl Av (Vs a))=AV.pv (enc g))∧(if (g)=true then G (.tup [.int .i64 2,.str (Str.s a)])else((Go.Pl.preT Qp (Vs a))=true∧(∃ e:Bool,(AV.pv (Zl Ck (Vs a))=AV.pv (enc e))∧(if (e)=true then G (.tup [.int .i64 1,.str (Str.s a)])else(G (AC))))))))else((Kb s)=true∧((b7v s)=true∧(∃ i:Bool,(AV.pv (Zl (fun(x:UInt8×Unit)=>digB x.1) (SK s))=AV.pv (enc i))∧(if (i)=true then(Go.Pl.preT Mx (Sk s))=true∧(∃ b:Str,(AV.pv (Zl PE (Sk s))=AV.pv (enc b))∧((Go.Pl.preT Qp (Vs b))=true∧(∃ h:Int×Bool,(AV.pv (Zl (fun(x:Str×Unit)=>Ql x.1) (Vs b))=AV.pv (enc h))∧(if h.2=true then G (.tup [.int .i64 3,.str (Str.s b)])else(G (AC))))))else(At ZI 0 (Za Zz G) Zy 0 49 [Zf s,Yb,(11,ZB)] [])))))))))) G (dm [dv Bool,dv Str,dv (Int×Bool)] 51 0x32000014716100a4511000014510001452610114511000142) ZI Zz Zy (Ye 49 [.str s]) (by delta AC Kb K7 SK b7v Mx PE Av Vs Qp Ck Sk Zf Yb ZB;exact rfl)
def d3r{G:PV->Prop}(s:List UInt8):=Wy (∃ a:Bool,(AV.pv (Zl YU [.str s,.str [46,46]])=AV.pv (enc a))∧(if (a)=true then G (.tup [.int .i64 4,.str [46,46]])else(At ZI 0 (Za Zz G) Zy 0 49 [Zf s,Yb,(11,Xk)] []))) G (dm [dv Bool] 13 0x20001452222) ZI Zz Zy 0 49 [Zf s,(10,.pv YZ),(11,ZB)] [] (by delta YU Zf Yb Xk;exact rfl)
def e0l{G:PV->Prop}(s:List UInt8):=Wy (∃ a:Bool,(AV.pv (Zl YU [.str s,.str [61,61]])=AV.pv (enc a))∧(if (a)=true then G (.tup [.int .i64 4,.str [61,61]])else(At ZI 0 (Za Zz G) Zy 0 49 [Zf s,Yb,(11,a2c)] []))) G (dm [dv Bool] 13 0x20001452222) ZI Zz Zy 0 49 [Zf s,(10,.pv YZ),(11,Xk)] [] (by delta YU Zf Yb a2c;exact rfl)
def d6u{G:PV->Prop}(s:List UInt8):=Wy (∃ a:Bool,(AV.pv (Zl YU [.str s,.str [33,61]])=AV.pv (enc a))∧(if (a)=true then G (.tup [.int .i64 4,.str [33,61]])else(At ZI 0 (Za Zz G) Zy 0 49 [Zf s,Yb,(11,QZ)] []))) G (dm [dv Bool] 13 0x20001452222) ZI Zz Zy 0 49 [Zf s,(10,.pv YZ),(11,a2c)] [] (by delta YU Zf Yb QZ;exact rfl)
def d2b{G:PV->Prop}(s:List UInt8):=Wy (∃ a:Bool,(AV.pv (Zl YU [.str s,.str [60,61]])=AV.pv (enc a))∧(if (a)=true then G (.tup [.int .i64 4,.str [60,61]])else(At ZI 0 (Za Zz G) Zy 0 49 [Zf s,Yb,(11,EP)] []))) G (dm [dv Bool] 13 0x20001452222) ZI Zz Zy 0 49 [Zf s,(10,.pv YZ),(11,QZ)] [] (by delta YU Zf Yb EP;exact rfl)
def d7y{G:PV->Prop}(s:List UInt8):=Wy (∃ a:Bool,(AV.pv (Zl YU [.str s,.str [62,61]])=AV.pv (enc a))∧(if (a)=true then G (.tup [.int .i64 4,.str [62,61]])else(At ZI 0 (Za Zz G) Zy 0 49 [Zf s,Yb,(11,Et)] []))) G (dm [dv Bool] 13 0x20001452222) ZI Zz Zy 0 49 [Zf s,(10,.pv YZ),(11,EP)] [] (by delta YU Zf Yb Et;exact rfl)
def d7q{G:PV->Prop}(s:List UInt8):=Wy (∃ a:Bool,(AV.pv (Zl YU [.str s,.str [45,62]])=AV.pv (enc a))∧(if (a)=true then G (.tup [.int .i64 4,.str [45,62]])else(At ZI 0 (Za Zz G) Zy 0 49 [Zf s,Yb,(11,Co)] []))) G (dm [dv Bool] 13 0x20001452222) ZI Zz Zy 0 49 [Zf s,(10,.pv YZ),(11,Et)] [] (by delta YU Zf Yb Co;exact rfl)
def d8f{G:PV->Prop}(s:List UInt8):=Wy (∃ a:Bool,(AV.pv (Zl YU [.str s,.str [38,38]])=AV.pv (enc a))∧(if (a)=true then G (.tup [.int .i64 4,.str [38,38]])else(At ZI 0 (Za Zz G) Zy 0 49 [Zf s,Yb,(11,E8)] []))) G (dm [dv Bool] 13 0x20001452222) ZI Zz Zy 0 49 [Zf s,(10,.pv YZ),(11,Co)] [] (by delta YU Zf Yb E8;exact rfl)
def d2i{G:PV->Prop}(s:List UInt8):=Wy (∃ a:Bool,(AV.pv (Zl YU [.str s,.str [124,124]])=AV.pv (enc a))∧(if (a)=true then G (.tup [.int .i64 4,.str [124,124]])else(At ZI 0 (Za Zz G) Zy 0 49 [Zf s,Yb,(11,a1t)] []))) G (dm [dv Bool] 13 0x20001452222) ZI Zz Zy 0 49 [Zf s,(10,.pv YZ),(11,E8)] [] (by delta YU Zf Yb a1t;exact rfl)
def d9s{G:PV->Prop}(s:List UInt8):=Wy (∃ a:Bool,(AV.pv (Zl YU [.str s,.str [40]])=AV.pv (enc a))∧(if (a)=true then G (.tup [.int .i64 4,.str [40]])else(At ZI 0 (Za Zz G) Zy 0 49 [Zf s,Yb,(11,EC)] []))) G (dm [dv Bool] 13 0x20001452222) ZI Zz Zy 0 49 [Zf s,(10,.pv YZ),(11,a1t)] [] (by delta YU Zf Yb EC;exact rfl)
def d5v{G:PV->Prop}(s:List UInt8):=Wy (∃ a:Bool,(AV.pv (Zl YU [.str s,.str [41]])=AV.pv (enc a))∧(if (a)=true then G (.tup [.int .i64 4,.str [41]])else(At ZI 0 (Za Zz G) Zy 0 49 [Zf s,Yb,(11,a5n)] []))) G (dm [dv Bool] 13 0x20001452222) ZI Zz Zy 0 49 [Zf s,(10,.pv YZ),(11,EC)] [] (by delta YU Zf Yb a5n;exact rfl)
def d5q{G:PV->Prop}(s:List UInt8):=Wy (∃ a:Bool,(AV.pv (Zl YU [.str s,.str [91]])=AV.pv (enc a))∧(if (a)=true then G (.tup [.int .i64 4,.str [91]])else(At ZI 0 (Za Zz G) Zy 0 49 [Zf s,Yb,(11,a2k)] []))) G (dm [dv Bool] 13 0x20001452222) ZI Zz Zy 0 49 [Zf s,(10,.pv YZ),(11,a5n)] [] (by delta YU Zf Yb a2k;exact rfl)
def d3q{G:PV->Prop}(s:List UInt8):=Wy (∃ a:Bool,(AV.pv (Zl YU [.str s,.str [93]])=AV.pv (enc a))∧(if (a)=true then G (.tup [.int .i64 4,.str [93]])else(At ZI 0 (Za Zz G) Zy 0 49 [Zf s,Yb,(11,a5e)] []))) G (dm [dv Bool] 13 0x20001452222) ZI Zz Zy 0 49 [Zf s,(10,.pv YZ),(11,a2k)] [] (by delta YU Zf Yb a5e;exact rfl)
def e3w{G:PV->Prop}(s:List UInt8):=Wy (∃ a:Bool,(AV.pv (Zl YU [.str s,.str [123]])=AV.pv (enc a))∧(if (a)=true then G (.tup [.int .i64 4,.str [123]])else(At ZI 0 (Za Zz G) Zy 0 49 [Zf s,Yb,(11,a2z)] []))) G (dm [dv Bool] 13 0x20001452222) ZI Zz Zy 0 49 [Zf s,(10,.pv YZ),(11,a5e)] [] (by delta YU Zf Yb a2z;exact rfl)
def d9y{G:PV->Prop}(s:List UInt8):=Wy (∃ a:Bool,(AV.pv (Zl YU [.str s,.str [125]])=AV.pv (enc a))∧(if (a)=true then G (.tup [.int .i64 4,.str [125]])else(At ZI 0 (Za Zz G) Zy 0 49 [Zf s,Yb,(11,a2w)] []))) G (dm [dv Bool] 13 0x20001452222) ZI Zz Zy 0 49 [Zf s,(10,.pv YZ),(11,a2z)] [] (by delta YU Zf Yb a2w;exact rfl)
def d9x{G:PV->Prop}(s:List UInt8):=Wy (∃ a:Bool,(AV.pv (Zl YU [.str s,.str [44]])=AV.pv (enc a))∧(if (a)=true then G (.tup [.int .i64 4,.str [44]])else(At ZI 0 (Za Zz G) Zy 0 49 [Zf s,Yb,(11,a1v)] []))) G (dm [dv Bool] 13 0x20001452222) ZI Zz Zy 0 49 [Zf s,(10,.pv YZ),(11,a2w)] [] (by delta YU Zf Yb a1v;exact rfl)
def e4g{G:PV->Prop}(s:List UInt8):=Wy (∃ a:Bool,(AV.pv (Zl YU [.str s,.str [58]])=AV.pv (enc a))∧(if (a)=true then G (.tup [.int .i64 4,.str [58]])else(At ZI 0 (Za Zz G) Zy 0 49 [Zf s,Yb,(11,.pv (.int .i64 16))] []))) G (dm [dv Bool] 13 0x20001452222) ZI Zz Zy 0 49 [Zf s,(10,.pv YZ),(11,a1v)] [] (by delta YU Zf Yb;exact rfl)
def e2w{G:PV->Prop}(s:List UInt8):=Wy (∃ a:Bool,(AV.pv (Zl YU [.str s,.str [46]])=AV.pv (enc a))∧(if (a)=true then G (.tup [.int .i64 4,.str [46]])else(At ZI 0 (Za Zz G) Zy 0 49 [Zf s,Yb,(11,.pv (.int .i64 17))] []))) G (dm [dv Bool] 13 0x20001452222) ZI Zz Zy 0 49 [Zf s,(10,.pv YZ),(11,.pv (.int .i64 16))] [] (by delta YU Zf Yb;exact rfl)
def d8d{G:PV->Prop}(s:List UInt8):=Wy (∃ a:Bool,(AV.pv (Zl YU [.str s,.str [64]])=AV.pv (enc a))∧(if (a)=true then G (.tup [.int .i64 4,.str [64]])else(At ZI 0 (Za Zz G) Zy 0 49 [Zf s,Yb,(11,.pv (.int .i64 18))] []))) G (dm [dv Bool] 13 0x20001452222) ZI Zz Zy 0 49 [Zf s,(10,.pv YZ),(11,.pv (.int .i64 17))] [] (by delta YU Zf Yb;exact rfl)
def e1f{G:PV->Prop}(s:List UInt8):=Wy (∃ a:Bool,(AV.pv (Zl YU [.str s,.str [35]])=AV.pv (enc a))∧(if (a)=true then G (.tup [.int .i64 4,.str [35]])else(At ZI 0 (Za Zz G) Zy 0 49 [Zf s,Yb,(11,.pv (.int .i64 19))] []))) G (dm [dv Bool] 13 0x20001452222) ZI Zz Zy 0 49 [Zf s,(10,.pv YZ),(11,.pv (.int .i64 18))] [] (by delta YU Zf Yb;exact rfl)
def e0k{G:PV->Prop}(s:List UInt8):=Wy (∃ a:Bool,(AV.pv (Zl YU [.str s,.str [61]])=AV.pv (enc a))∧(if (a)=true then G (.tup [.int .i64 4,.str [61]])else(At ZI 0 (Za Zz G) Zy 0 49 [Zf s,Yb,(11,.pv (.int .i64 20))] []))) G (dm [dv Bool] 13 0x20001452222) ZI Zz Zy 0 49 [Zf s,(10,.pv YZ),(11,.pv (.int .i64 19))] [] (by delta YU Zf Yb;exact rfl)
def e1w{G:PV->Prop}(s:List UInt8):=Wy (∃ a:Bool,(AV.pv (Zl YU [.str s,.str [60]])=AV.pv (enc a))∧(if (a)=true then G (.tup [.int .i64 4,.str [60]])else(At ZI 0 (Za Zz G) Zy 0 49 [Zf s,Yb,(11,.pv (.int .i64 21))] []))) G (dm [dv Bool] 13 0x20001452222) ZI Zz Zy 0 49 [Zf s,(10,.pv YZ),(11,.pv (.int .i64 20))] [] (by delta YU Zf Yb;exact rfl)
def e4c{G:PV->Prop}(s:List UInt8):=Wy (∃ a:Bool,(AV.pv (Zl YU [.str s,.str [62]])=AV.pv (enc a))∧(if (a)=true then G (.tup [.int .i64 4,.str [62]])else(At ZI 0 (Za Zz G) Zy 0 49 [Zf s,Yb,(11,.pv (.int .i64 22))] []))) G (dm [dv Bool] 13 0x20001452222) ZI Zz Zy 0 49 [Zf s,(10,.pv YZ),(11,.pv (.int .i64 21))] [] (by delta YU Zf Yb;exact rfl)
def d1l{G:PV->Prop}(s:List UInt8):=Wy (∃ a:Bool,(AV.pv (Zl YU [.str s,.str [43]])=AV.pv (enc a))∧(if (a)=true then G (.tup [.int .i64 4,.str [43]])else(At ZI 0 (Za Zz G) Zy 0 49 [Zf s,Yb,(11,.pv (.int .i64 23))] []))) G (dm [dv Bool] 13 0x20001452222) ZI Zz Zy 0 49 [Zf s,(10,.pv YZ),(11,.pv (.int .i64 22))] [] (by delta YU Zf Yb;exact rfl)
def e2o{G:PV->Prop}(s:List UInt8):=Wy (∃ a:Bool,(AV.pv (Zl YU [.str s,.str [45]])=AV.pv (enc a))∧(if (a)=true then G (.tup [.int .i64 4,.str [45]])else(At ZI 0 (Za Zz G) Zy 0 49 [Zf s,Yb,(11,.pv (.int .i64 24))] []))) G (dm [dv Bool] 13 0x20001452222) ZI Zz Zy 0 49 [Zf s,(10,.pv YZ),(11,.pv (.int .i64 23))] [] (by delta YU Zf Yb;exact rfl)
def e1o{G:PV->Prop}(s:List UInt8):=Wy (∃ a:Bool,(AV.pv (Zl YU [.str s,.str [42]])=AV.pv (enc a))∧(if (a)=true then G (.tup [.int .i64 4,.str [42]])else(At ZI 0 (Za Zz G) Zy 0 49 [Zf s,Yb,(11,.pv (.int .i64 25))] []))) G (dm [dv Bool] 13 0x20001452222) ZI Zz Zy 0 49 [Zf s,(10,.pv YZ),(11,.pv (.int .i64 24))] [] (by delta YU Zf Yb;exact rfl)
def e4n{G:PV->Prop}(s:List UInt8):=Wy (∃ a:Bool,(AV.pv (Zl YU [.str s,.str [47]])=AV.pv (enc a))∧(if (a)=true then G (.tup [.int .i64 4,.str [47]])else(At ZI 0 (Za Zz G) Zy 0 49 [Zf s,Yb,(11,.pv (.int .i64 26))] []))) G (dm [dv Bool] 13 0x20001452222) ZI Zz Zy 0 49 [Zf s,(10,.pv YZ),(11,.pv (.int .i64 25))] [] (by delta YU Zf Yb;exact rfl)
def d3d{G:PV->Prop}(s:List UInt8):=Wy (∃ a:Bool,(AV.pv (Zl YU [.str s,.str [37]])=AV.pv (enc a))∧(if (a)=true then G (.tup [.int .i64 4,.str [37]])else(At ZI 0 (Za Zz G) Zy 0 49 [Zf s,Yb,(11,.pv (.int .i64 27))] []))) G (dm [dv Bool] 13 0x20001452222) ZI Zz Zy 0 49 [Zf s,(10,.pv YZ),(11,.pv (.int .i64 26))] [] (by delta YU Zf Yb;exact rfl)
def d7d{G:PV->Prop}(s:List UInt8):=Wy (∃ a:Bool,(AV.pv (Zl YU [.str s,.str [33]])=AV.pv (enc a))∧(if (a)=true then G (.tup [.int .i64 4,.str [33]])else(At ZI 0 (Za Zz G) Zy 0 49 [Zf s,Yb,(11,.pv (.int .i64 28))] []))) G (dm [dv Bool] 13 0x20001452222) ZI Zz Zy 0 49 [Zf s,(10,.pv YZ),(11,.pv (.int .i64 27))] [] (by delta YU Zf Yb;exact rfl)
def d9l{G:PV->Prop}(s:List UInt8):=Wy (G (AC)) G (.lit (.lit (.nil))) ZI Zz Zy 0 49 [Zf s,(10,.pv YZ),(11,.pv (.int .i64 28))] [] (by delta AC;exact rfl)
noncomputable def KV:IC:=XG Proofs.Tryz.f48
def KC:List IRes:=[(.tmp 2),(.tmp 3),(.tmp 4)]
abbrev f9o:Nat:=59
noncomputable def Dv:ZM:=YN [(64,.pure (preT (fun x:Str×Unit=>decide (x.1.s.length<=1048576))) (Zl (fun x:Str×Unit=>J3 x.1))),(65,.pure (preT (fun x:Str×Str×Unit=>decide (x.1.s.length<=1048576)&&decide (x.2.1.s=[10]))) (Zl (fun x:Str×Str×Unit=>(Lib.countByte x.1.s 10:Int)))),(66,.pure (preT (fun x:Str×Unit=>decide (x.1.s.length<=1048576))) (Zl (fun x:Str×Unit=>Wv x.1)))]
def g5q{G:PV->Prop}(s:List UInt8):=Vw (if (decide ((↑(List.length s):Int)>20000))=true then G (.tup [.sl 0 true [],.int .i64 0,.int .i64 3])else(At Dv 0 (Za KC G) KV 0 59 [Zf s,(2,Z9),(3,ZB),(5,Xk)] [])) G (dm [] 8 0x142) Dv KC KV (Ye 59 [.str s]) (by delta Zf Z9 ZB Xk;exact rfl)
def a3w(a:Int)(Zm:List UInt8):Bool:=decide (0<=a)&&true&&decide (Int.toNat a<=List.length Zm)&&decide (List.length Zm<=List.length Zm)
def NH(a:Int)(Zm:List UInt8):List PV:=[.str (List.drop (Int.toNat a) (List.take (List.length Zm) Zm))]
def a2q(e:Int)(Zm:List UInt8)(a:Int):Prop:=AV.pv (Zl (fun(b:Str×Unit)=>J3 b.1) (NH e Zm))=AV.pv (enc a)
def a4u(a Zm:Int)(b:List UInt8):Bool:=decide (0<=a)&&decide (0<=IntKind.wrap IntKind.i64 (a+Zm))&&decide (Int.toNat a<=Int.toNat (Je a Zm))&&decide (Int.toNat (Je a Zm)<=List.length b)
def a4o:=fun(a:Str×Str×Unit)=>decide (List.length (Str.s a.1)<=1048576)&&decide (Str.s a.2.1=[(10:UInt8)])
def AA(a Zm:Int)(b:List UInt8):List PV:=[.str (List.drop (Int.toNat a) (List.take (Int.toNat (Je a Zm)) b)),.str [10]]
def a1w:=fun(a:Str×Str×Unit)=>(↑(Lib.countByte (Str.s a.1) (10:UInt8)):Int)
def a1g(b Zm:Int)(a:List UInt8):Bool:=decide (0<=IntKind.wrap IntKind.i64 (b+Zm))&&true&&decide (Int.toNat (Je b Zm)<=List.length a)&&decide (List.length a<=List.length a)
def Tk(b Zm:Int)(a:List UInt8):List PV:=[.str (List.drop (Int.toNat (Je b Zm)) (List.take (List.length a) a))]
def a5o:=fun(a:Str×Unit)=>Wv a.1
def a3s(b Zm:Int)(a:Int×Str):Nat×AV:=(3,.pv (.int .i64 (IntKind.wrap IntKind.i64 (IntKind.wrap IntKind.i64 (b+Zm)+(↑(List.length (Str.s a.2)):Int)))))
def e8t{G:PV->Prop}(s:List UInt8)(n ln:Int):=Wy ((a3w n s)=true∧((Go.Pl.preT Qp (NH n s))=true∧(∃ a:Int,(a2q n s a)∧((a4u n a s)=true∧((Go.Pl.preT a4o (AA n a s))=true∧(∃ e:Int,(AV.pv (Zl a1w (AA n a s))=AV.pv (enc e))∧(if (IntKind.wrap IntKind.i64 (n+a)==(↑(List.length s):Int))=true then G (.tup [.sl 0 true [],.int .i64 0,.int .i64 0])else((a1g n a s)=true∧((Go.Pl.preT Qp (Tk n a s))=true∧(∃ b:Int×Str,(AV.pv (Zl a5o (Tk n a s))=AV.pv (enc b))∧(if (b.1==0)=true then G (.tup [.sl 0 true [],QU n a,.int .i64 6])else(At Dv 0 (Za KC G) KV 0 59 [Zf s,(2,.row 0 1 0 1),a3s n a b,(5,.pv (QU ln e))] [.obj (.row false 84 4 [.agg [.int .i64 b.1,.str (Str.s b.2),QU ln e,QU n a]])])))))))))))) G (dm [dv Int,dv (Int×Str)] 34 0x22222222000142611000142225112511) Dv KC KV 0 59 [Zf s,(2,Z9),(3,ZK n),(5,ZK ln)] [] (by delta a3w Qp NH a2q Je a4u a4o AA a1w a1g Tk a5o QU Zf a3s;exact rfl)
def MN(a:Int×Str)(Zm g e b:Int):List PV:=List.drop 0 (List.take 1 [PV.agg [enc a.1,enc a.2,PV.int .i64 (Je Zm g),PV.int .i64 (Je e b)]])
def e8v{G:PV->Prop}(s:List UInt8)(n ln:Int)(o:List Tok)(L:Nat):=Wy ((a3w n s)=true∧((Go.Pl.preT Qp (NH n s))=true∧(∃ a:Int,(a2q n s a)∧((a4u n a s)=true∧((Go.Pl.preT a4o (AA n a s))=true∧(∃ e:Int,(AV.pv (Zl a1w (AA n a s))=AV.pv (enc e))∧(if (IntKind.wrap IntKind.i64 (n+a)==(↑(List.length s):Int))=true then(List.length (List.map enc o)==L)=true∧(G (.tup [.sl 4 false (List.drop 0 (List.take L (List.map enc o))),.int .i64 0,.int .i64 0]))else((a1g n a s)=true∧((Go.Pl.preT Qp (Tk n a s))=true∧(∃ b:Int×Str,(AV.pv (Zl a5o (Tk n a s))=AV.pv (enc b))∧(if (b.1==0)=true then G (.tup [.sl 0 true [],QU n a,.int .i64 6])else(if ((↑(L - 0):Int)==4000)=true then G (.tup [.sl 0 true [],QU n a,.int .i64 3])else((List.length (List.map enc o)==L&&L==L&&decide ((L+List.length (MN b ln e n a))*40<=1099511627776)&&decide (L+List.length (MN b ln e n a)<=1099511627776))=true∧(At Dv 0 (Za KC G) KV 0 59 [Zf s,(2,.row 0 (L+List.length (MN b ln e n a)) 0 (L+List.length (MN b ln e n a))),a3s n a b,(5,.pv (QU ln e))] [.obj (.row false 84 4 (List.map enc o++List.drop 0 (List.take 1 [PV.agg [enc b.1,enc b.2,PV.int .i64 (Je ln e),PV.int .i64 (Je n a)]])))])))))))))))))) G (dm [dv Int,dv (Int×Str)] 37 0x21220001420001426110100242225112511) Dv KC KV 0 59 [Zf s,(2,.row 0 L 0 L),(3,ZK n),(5,ZK ln)] [.obj (.row false 84 4 (o.map enc))] (by delta a3w Qp NH a2q Je a4u a4o AA a1w a1g Tk a5o QU MN Zf a3s;exact rfl)
theorem WT{k:Int}{w:List UInt8}:Zd ((k,⟨w⟩):Int×Str) (.tup [.int .i64 k,.str w]):=⟨rfl,rfl⟩
theorem g0t(s:List UInt8):At ZI 0 (Za Zz (Zd (Zw [] s))) Zy 0 49 [(0,.pv (.str s)),(10,.pv YZ),(11,.pv (.int .i64 28))] []:=d9l s WT
theorem g0x(s:List UInt8):At ZI 0 (Za Zz (Zd (Zw (ZA.drop 27) s))) Zy 0 49 [(0,.pv (.str s)),(10,.pv YZ),(11,.pv (.int .i64 27))] []:=d7d s (Zc ((⟨s⟩:Str),(⟨[33]⟩:Str),()) rfl (ZW (fun h=>by rw[show Zw (ZA.drop 27) s=(4,⟨[33]⟩)from Y6 h];exact WT) fun h=>by rw[show Zw (ZA.drop 27) s=Zw (ZA.drop 28) s from Y7 h];exact g0t s))
theorem g3a(s:List UInt8):At ZI 0 (Za Zz (Zd (Zw (ZA.drop 26) s))) Zy 0 49 [(0,.pv (.str s)),(10,.pv YZ),(11,.pv (.int .i64 26))] []:=d3d s (Zc ((⟨s⟩:Str),(⟨[37]⟩:Str),()) rfl (ZW (fun h=>by rw[show Zw (ZA.drop 26) s=(4,⟨[37]⟩)from Y6 h];exact WT) fun h=>by rw[show Zw (ZA.drop 26) s=Zw (ZA.drop 27) s from Y7 h];exact g0x s))
theorem g3b(s:List UInt8):At ZI 0 (Za Zz (Zd (Zw (ZA.drop 25) s))) Zy 0 49 [(0,.pv (.str s)),(10,.pv YZ),(11,.pv (.int .i64 25))] []:=e4n s (Zc ((⟨s⟩:Str),(⟨[47]⟩:Str),()) rfl (ZW (fun h=>by rw[show Zw (ZA.drop 25) s=(4,⟨[47]⟩)from Y6 h];exact WT) fun h=>by rw[show Zw (ZA.drop 25) s=Zw (ZA.drop 26) s from Y7 h];exact g3a s))
theorem f9e(s:List UInt8):At ZI 0 (Za Zz (Zd (Zw (ZA.drop 24) s))) Zy 0 49 [(0,.pv (.str s)),(10,.pv YZ),(11,.pv (.int .i64 24))] []:=e1o s (Zc ((⟨s⟩:Str),(⟨[42]⟩:Str),()) rfl (ZW (fun h=>by rw[show Zw (ZA.drop 24) s=(4,⟨[42]⟩)from Y6 h];exact WT) fun h=>by rw[show Zw (ZA.drop 24) s=Zw (ZA.drop 25) s from Y7 h];exact g3b s))
theorem g3s(s:List UInt8):At ZI 0 (Za Zz (Zd (Zw (ZA.drop 23) s))) Zy 0 49 [(0,.pv (.str s)),(10,.pv YZ),(11,.pv (.int .i64 23))] []:=e2o s (Zc ((⟨s⟩:Str),(⟨[45]⟩:Str),()) rfl (ZW (fun h=>by rw[show Zw (ZA.drop 23) s=(4,⟨[45]⟩)from Y6 h];exact WT) fun h=>by rw[show Zw (ZA.drop 23) s=Zw (ZA.drop 24) s from Y7 h];exact f9e s))
theorem g1r(s:List UInt8):At ZI 0 (Za Zz (Zd (Zw (ZA.drop 22) s))) Zy 0 49 [(0,.pv (.str s)),(10,.pv YZ),(11,.pv (.int .i64 22))] []:=d1l s (Zc ((⟨s⟩:Str),(⟨[43]⟩:Str),()) rfl (ZW (fun h=>by rw[show Zw (ZA.drop 22) s=(4,⟨[43]⟩)from Y6 h];exact WT) fun h=>by rw[show Zw (ZA.drop 22) s=Zw (ZA.drop 23) s from Y7 h];exact g3s s))
theorem g3u(s:List UInt8):At ZI 0 (Za Zz (Zd (Zw (ZA.drop 21) s))) Zy 0 49 [(0,.pv (.str s)),(10,.pv YZ),(11,.pv (.int .i64 21))] []:=e4c s (Zc ((⟨s⟩:Str),(⟨[62]⟩:Str),()) rfl (ZW (fun h=>by rw[show Zw (ZA.drop 21) s=(4,⟨[62]⟩)from Y6 h];exact WT) fun h=>by rw[show Zw (ZA.drop 21) s=Zw (ZA.drop 22) s from Y7 h];exact g1r s))
theorem f9a(s:List UInt8):At ZI 0 (Za Zz (Zd (Zw (ZA.drop 20) s))) Zy 0 49 [(0,.pv (.str s)),(10,.pv YZ),(11,.pv (.int .i64 20))] []:=e1w s (Zc ((⟨s⟩:Str),(⟨[60]⟩:Str),()) rfl (ZW (fun h=>by rw[show Zw (ZA.drop 20) s=(4,⟨[60]⟩)from Y6 h];exact WT) fun h=>by rw[show Zw (ZA.drop 20) s=Zw (ZA.drop 21) s from Y7 h];exact g3u s))
theorem f8y(s:List UInt8):At ZI 0 (Za Zz (Zd (Zw (ZA.drop 19) s))) Zy 0 49 [(0,.pv (.str s)),(10,.pv YZ),(11,.pv (.int .i64 19))] []:=e0k s (Zc ((⟨s⟩:Str),(⟨[61]⟩:Str),()) rfl (ZW (fun h=>by rw[show Zw (ZA.drop 19) s=(4,⟨[61]⟩)from Y6 h];exact WT) fun h=>by rw[show Zw (ZA.drop 19) s=Zw (ZA.drop 20) s from Y7 h];exact f9a s))
theorem g4c(s:List UInt8):At ZI 0 (Za Zz (Zd (Zw (ZA.drop 18) s))) Zy 0 49 [(0,.pv (.str s)),(10,.pv YZ),(11,.pv (.int .i64 18))] []:=e1f s (Zc ((⟨s⟩:Str),(⟨[35]⟩:Str),()) rfl (ZW (fun h=>by rw[show Zw (ZA.drop 18) s=(4,⟨[35]⟩)from Y6 h];exact WT) fun h=>by rw[show Zw (ZA.drop 18) s=Zw (ZA.drop 19) s from Y7 h];exact f8y s))
theorem g2k(s:List UInt8):At ZI 0 (Za Zz (Zd (Zw (ZA.drop 17) s))) Zy 0 49 [(0,.pv (.str s)),(10,.pv YZ),(11,.pv (.int .i64 17))] []:=d8d s (Zc ((⟨s⟩:Str),(⟨[64]⟩:Str),()) rfl (ZW (fun h=>by rw[show Zw (ZA.drop 17) s=(4,⟨[64]⟩)from Y6 h];exact WT) fun h=>by rw[show Zw (ZA.drop 17) s=Zw (ZA.drop 18) s from Y7 h];exact g4c s))
theorem g0o(s:List UInt8):At ZI 0 (Za Zz (Zd (Zw (ZA.drop 16) s))) Zy 0 49 [(0,.pv (.str s)),(10,.pv YZ),(11,.pv (.int .i64 16))] []:=e2w s (Zc ((⟨s⟩:Str),(⟨[46]⟩:Str),()) rfl (ZW (fun h=>by rw[show Zw (ZA.drop 16) s=(4,⟨[46]⟩)from Y6 h];exact WT) fun h=>by rw[show Zw (ZA.drop 16) s=Zw (ZA.drop 17) s from Y7 h];exact g2k s))
theorem g1m(s:List UInt8):At ZI 0 (Za Zz (Zd (Zw (ZA.drop 15) s))) Zy 0 49 [(0,.pv (.str s)),(10,.pv YZ),(11,.pv (.int .i64 15))] []:=e4g s (Zc ((⟨s⟩:Str),(⟨[58]⟩:Str),()) rfl (ZW (fun h=>by rw[show Zw (ZA.drop 15) s=(4,⟨[58]⟩)from Y6 h];exact WT) fun h=>by rw[show Zw (ZA.drop 15) s=Zw (ZA.drop 16) s from Y7 h];exact g0o s))
theorem g4g(s:List UInt8):At ZI 0 (Za Zz (Zd (Zw (ZA.drop 14) s))) Zy 0 49 [(0,.pv (.str s)),(10,.pv YZ),(11,.pv (.int .i64 14))] []:=d9x s (Zc ((⟨s⟩:Str),(⟨[44]⟩:Str),()) rfl (ZW (fun h=>by rw[show Zw (ZA.drop 14) s=(4,⟨[44]⟩)from Y6 h];exact WT) fun h=>by rw[show Zw (ZA.drop 14) s=Zw (ZA.drop 15) s from Y7 h];exact g1m s))
theorem f8d(s:List UInt8):At ZI 0 (Za Zz (Zd (Zw (ZA.drop 13) s))) Zy 0 49 [(0,.pv (.str s)),(10,.pv YZ),(11,.pv (.int .i64 13))] []:=d9y s (Zc ((⟨s⟩:Str),(⟨[125]⟩:Str),()) rfl (ZW (fun h=>by rw[show Zw (ZA.drop 13) s=(4,⟨[125]⟩)from Y6 h];exact WT) fun h=>by rw[show Zw (ZA.drop 13) s=Zw (ZA.drop 14) s from Y7 h];exact g4g s))
theorem g0p(s:List UInt8):At ZI 0 (Za Zz (Zd (Zw (ZA.drop 12) s))) Zy 0 49 [(0,.pv (.str s)),(10,.pv YZ),(11,.pv (.int .i64 12))] []:=e3w s (Zc ((⟨s⟩:Str),(⟨[123]⟩:Str),()) rfl (ZW (fun h=>by rw[show Zw (ZA.drop 12) s=(4,⟨[123]⟩)from Y6 h];exact WT) fun h=>by rw[show Zw (ZA.drop 12) s=Zw (ZA.drop 13) s from Y7 h];exact f8d s))
theorem f7l(s:List UInt8):At ZI 0 (Za Zz (Zd (Zw (ZA.drop 11) s))) Zy 0 49 [(0,.pv (.str s)),(10,.pv YZ),(11,.pv (.int .i64 11))] []:=d3q s (Zc ((⟨s⟩:Str),(⟨[93]⟩:Str),()) rfl (ZW (fun h=>by rw[show Zw (ZA.drop 11) s=(4,⟨[93]⟩)from Y6 h];exact WT) fun h=>by rw[show Zw (ZA.drop 11) s=Zw (ZA.drop 12) s from Y7 h];exact g0p s))
theorem g0l(s:List UInt8):At ZI 0 (Za Zz (Zd (Zw (ZA.drop 10) s))) Zy 0 49 [(0,.pv (.str s)),(10,.pv YZ),(11,.pv (.int .i64 10))] []:=d5q s (Zc ((⟨s⟩:Str),(⟨[91]⟩:Str),()) rfl (ZW (fun h=>by rw[show Zw (ZA.drop 10) s=(4,⟨[91]⟩)from Y6 h];exact WT) fun h=>by rw[show Zw (ZA.drop 10) s=Zw (ZA.drop 11) s from Y7 h];exact f7l s))
theorem g8i(s:List UInt8):At ZI 0 (Za Zz (Zd (Zw (ZA.drop 9) s))) Zy 0 49 [(0,.pv (.str s)),(10,.pv YZ),(11,.pv (.int .i64 9))] []:=d5v s (Zc ((⟨s⟩:Str),(⟨[41]⟩:Str),()) rfl (ZW (fun h=>by rw[show Zw (ZA.drop 9) s=(4,⟨[41]⟩)from Y6 h];exact WT) fun h=>by rw[show Zw (ZA.drop 9) s=Zw (ZA.drop 10) s from Y7 h];exact g0l s))
theorem g7o(s:List UInt8):At ZI 0 (Za Zz (Zd (Zw (ZA.drop 8) s))) Zy 0 49 [(0,.pv (.str s)),(10,.pv YZ),(11,.pv (.int .i64 8))] []:=d9s s (Zc ((⟨s⟩:Str),(⟨[40]⟩:Str),()) rfl (ZW (fun h=>by rw[show Zw (ZA.drop 8) s=(4,⟨[40]⟩)from Y6 h];exact WT) fun h=>by rw[show Zw (ZA.drop 8) s=Zw (ZA.drop 9) s from Y7 h];exact g8i s))
theorem g7c(s:List UInt8):At ZI 0 (Za Zz (Zd (Zw (ZA.drop 7) s))) Zy 0 49 [(0,.pv (.str s)),(10,.pv YZ),(11,.pv (.int .i64 7))] []:=d2i s (Zc ((⟨s⟩:Str),(⟨[124,124]⟩:Str),()) rfl (ZW (fun h=>by rw[show Zw (ZA.drop 7) s=(4,⟨[124,124]⟩)from Y6 h];exact WT) fun h=>by rw[show Zw (ZA.drop 7) s=Zw (ZA.drop 8) s from Y7 h];exact g7o s))
theorem g6a(s:List UInt8):At ZI 0 (Za Zz (Zd (Zw (ZA.drop 6) s))) Zy 0 49 [(0,.pv (.str s)),(10,.pv YZ),(11,.pv (.int .i64 6))] []:=d8f s (Zc ((⟨s⟩:Str),(⟨[38,38]⟩:Str),()) rfl (ZW (fun h=>by rw[show Zw (ZA.drop 6) s=(4,⟨[38,38]⟩)from Y6 h];exact WT) fun h=>by rw[show Zw (ZA.drop 6) s=Zw (ZA.drop 7) s from Y7 h];exact g7c s))
theorem g8s(s:List UInt8):At ZI 0 (Za Zz (Zd (Zw (ZA.drop 5) s))) Zy 0 49 [(0,.pv (.str s)),(10,.pv YZ),(11,.pv (.int .i64 5))] []:=d7q s (Zc ((⟨s⟩:Str),(⟨[45,62]⟩:Str),()) rfl (ZW (fun h=>by rw[show Zw (ZA.drop 5) s=(4,⟨[45,62]⟩)from Y6 h];exact WT) fun h=>by rw[show Zw (ZA.drop 5) s=Zw (ZA.drop 6) s from Y7 h];exact g6a s))
theorem g6k(s:List UInt8):At ZI 0 (Za Zz (Zd (Zw (ZA.drop 4) s))) Zy 0 49 [(0,.pv (.str s)),(10,.pv YZ),(11,.pv (.int .i64 4))] []:=d7y s (Zc ((⟨s⟩:Str),(⟨[62,61]⟩:Str),()) rfl (ZW (fun h=>by rw[show Zw (ZA.drop 4) s=(4,⟨[62,61]⟩)from Y6 h];exact WT) fun h=>by rw[show Zw (ZA.drop 4) s=Zw (ZA.drop 5) s from Y7 h];exact g8s s))
theorem g8k(s:List UInt8):At ZI 0 (Za Zz (Zd (Zw (ZA.drop 3) s))) Zy 0 49 [(0,.pv (.str s)),(10,.pv YZ),(11,.pv (.int .i64 3))] []:=d2b s (Zc ((⟨s⟩:Str),(⟨[60,61]⟩:Str),()) rfl (ZW (fun h=>by rw[show Zw (ZA.drop 3) s=(4,⟨[60,61]⟩)from Y6 h];exact WT) fun h=>by rw[show Zw (ZA.drop 3) s=Zw (ZA.drop 4) s from Y7 h];exact g6k s))
theorem g9f(s:List UInt8):At ZI 0 (Za Zz (Zd (Zw (ZA.drop 2) s))) Zy 0 49 [(0,.pv (.str s)),(10,.pv YZ),(11,.pv (.int .i64 2))] []:=d6u s (Zc ((⟨s⟩:Str),(⟨[33,61]⟩:Str),()) rfl (ZW (fun h=>by rw[show Zw (ZA.drop 2) s=(4,⟨[33,61]⟩)from Y6 h];exact WT) fun h=>by rw[show Zw (ZA.drop 2) s=Zw (ZA.drop 3) s from Y7 h];exact g8k s))
theorem g7a(s:List UInt8):At ZI 0 (Za Zz (Zd (Zw (ZA.drop 1) s))) Zy 0 49 [(0,.pv (.str s)),(10,.pv YZ),(11,.pv (.int .i64 1))] []:=e0l s (Zc ((⟨s⟩:Str),(⟨[61,61]⟩:Str),()) rfl (ZW (fun h=>by rw[show Zw (ZA.drop 1) s=(4,⟨[61,61]⟩)from Y6 h];exact WT) fun h=>by rw[show Zw (ZA.drop 1) s=Zw (ZA.drop 2) s from Y7 h];exact g9f s))
theorem g8f(s:List UInt8):At ZI 0 (Za Zz (Zd (Zw (ZA.drop 0) s))) Zy 0 49 [(0,.pv (.str s)),(10,.pv YZ),(11,.pv (.int .i64 0))] []:=d3r s (Zc ((⟨s⟩:Str),(⟨[46,46]⟩:Str),()) rfl (ZW (fun h=>by rw[show Zw (ZA.drop 0) s=(4,⟨[46,46]⟩)from Y6 h];exact WT) fun h=>by rw[show Zw (ZA.drop 0) s=Zw (ZA.drop 1) s from Y7 h];exact g7a s))
theorem f4c: ∀ x:Str×Unit,decide (x.1.s.length<=1048576)=true->Zi ZI 0 (Za Zz (Zd (Wv x.1))) Zy [] (Ye f7v (encL x)):=by
 rintro⟨⟨s⟩,⟨⟩⟩ hs
 have hs:s.length<=1048576:=by simpa using hs
 show Zi ZI 0 (Za Zz (Zd (Wv ⟨s⟩))) Zy [] _
 cases s with
 | nil=>exact f6t [] (Yh rfl WT)
 | cons c r=>
  have e:=NJ ⟨c::r⟩ true
  have g:=NJ ⟨c::r⟩ false
  unfold Wv
  dsimp only
  refine f6t (c::r) (Yj (by simp) ⟨by simp,⟨Zh (c,()) rfl rfl,?_⟩⟩)
  have b : ∀ {P:Bool->Prop} {F:UInt8->Bool},P (F c)-> ∃ y,AV.pv (Zl (fun x:UInt8×Unit=>F x.1) [.int .u8 ((List.getD (c::r) (Int.toNat 0) 0).toNat:Int)])=AV.pv (enc y)∧P y:=fun {P F} h=>Zc (c,()) rfl h
  refine b (ZW (fun h=>⟨Zh ((⟨c::r⟩:Str),true,()) rfl (decide_eq_true hs),Zc ((⟨c::r⟩:Str),true,()) rfl (Zc (XX ⟨c::r⟩ true,()) rfl (ZW (fun h2=> ?_) fun h2=>⟨Zh (XX ⟨c::r⟩ true,()) rfl (decide_eq_true (Nat.le_trans e hs)),Zc (XX ⟨c::r⟩ true,()) rfl (ZW (fun h3=> ?_) fun h3=> ?_)⟩))⟩) fun h=>⟨by simp,⟨Zh (c,()) rfl rfl,?_⟩⟩)
  ·rw[if_pos h,if_pos h2];exact WT
  ·rw[if_pos h,if_neg (by rw[h2];decide),if_pos h3];exact WT
  ·rw[if_pos h,if_neg (by rw[h2];decide),if_neg (by rw[h3];decide)];exact WT
  rw[if_neg (by rw[h];decide)]
  refine b (ZW (fun a=>⟨Zh ((⟨c::r⟩:Str),false,()) rfl (decide_eq_true hs),Zc ((⟨c::r⟩:Str),false,()) rfl ⟨Zh (XX ⟨c::r⟩ false,()) rfl (decide_eq_true (Nat.le_trans g hs)),Zc (XX ⟨c::r⟩ false,()) rfl (ZW (fun h2=> ?_) fun h2=> ?_)⟩⟩) fun a=> ?_)
  ·rw[if_pos a,if_pos h2];exact WT
  ·rw[if_pos a,if_neg (by rw[h2];decide)];exact WT
  ·rw[if_neg (by rw[a];decide)]
   exact g8f (c::r)
theorem e4a(s:List UInt8)(hs:s.length<=1048576)(R:Nat): ∀ (f n:Nat),n<=s.length->s.length<n+f->R=Q5 f s n ->
  At Ga 0 (Za Ki (Zd ((R:Nat):Int))) Q0 0 46 [(0,.pv (.str s)),(3,.pv (.int .i64 (n:Int)))] []:=by
 intro f
 induction f with
 | zero=>intro n h1 h2;omega
 | succ f ih=>
  intro n h1 h2 a
  have u:List.drop n (List.take s.length s)=s.drop n:=by rw[List.take_length]
  have wr:IntKind.wrap IntKind.i64 ((n:Int)+1)=((n+1:Nat):Int):=by rw[Vv (by omega) (by omega)];omega
  rw[Q5]at a
  refine f7s s n ?_
  rw[Int.toNat_natCast,u,wr]
  refine Yc (fun i=> ?_) fun i=> ?_
  ·have i:n<s.length:=by omega
   have hi:(decide (0<=(n:Int))&&decide (n<s.length))=true:=by simp;omega
   have l:(decide (0<=(n:Int))&&true&&decide (n<=s.length)&&decide (s.length<=s.length))=true:=by simp;omega
   rw[if_neg (by omega)]at a
   have g : ∀ k:UInt8,((s.getD n 0).toNat:Int)=(k.toNat:Int) ↔ s.getD n 0=k:=fun k=>⟨fun h=>UInt8.toNat_inj.1 (by omega),fun h=>by rw[h]⟩
   have go:(s.getD n 0=32∨s.getD n 0=9∨s.getD n 0=10)->At Ga 0 (Za Ki (Zd ((R:Nat):Int))) Q0 0 46 [(0,.pv (.str s)),(3,.pv (.int .i64 ((n+1:Nat):Int)))] []:=fun h=>by
    rw[if_pos h]at a
    exact ih (n+1) (by omega) (by omega) a
   refine⟨hi,Yd (fun q=>go (Or.inl ((g 32).1 q))) fun r=>⟨hi,Yd (fun q=>go (Or.inr (Or.inl ((g 9).1 q)))) fun z=>⟨hi,Yd (fun q=>go (Or.inr (Or.inr ((g 10).1 q)))) fun y=>⟨l,?_⟩⟩⟩⟩
   have j : ¬ (s.getD n 0=32∨s.getD n 0=9∨s.getD n 0=10):=fun h=>by
    rcases h with h|h|h
    ·exact r ((g 32).2 h)
    ·exact z ((g 9).2 h)
    ·exact y ((g 10).2 h)
   rw[if_neg j]at a
   have hb:=c1s 10 (s.drop n)
   rw[List.length_drop]at hb
   have hd:(s.drop n).length<=1048576:=by rw[List.length_drop];omega
   refine Zc ((⟨s.drop n⟩:Str),(⟨[47,47]⟩:Str),()) rfl (ZW (fun b=>⟨l,Zh ((⟨s.drop n⟩:Str),(10:UInt8),()) rfl (decide_eq_true hd),Zc ((⟨s.drop n⟩:Str),(10:UInt8),()) rfl (Yc (fun e=> ?_) fun e=> ?_)⟩) fun b=> ?_)
   ·have e:Lib.indexByte (s.drop n) 10<0:=e
    have b:List.isPrefixOf [47,47] (s.drop n)=true:=b
    rw[if_pos b,if_pos e]at a
    rw[a];exact YX rfl
   ·have e : ¬ Lib.indexByte (s.drop n) 10<0:=e
    have b:List.isPrefixOf [47,47] (s.drop n)=true:=b
    rw[if_pos b,if_neg e]at a
    have hg:0<Lib.indexByte (s.drop n) 10:=g2z (by
     rw[List.getD_eq_getElem?_getD,List.getElem?_drop,Nat.add_zero,<- List.getD_eq_getElem?_getD]
     exact fun h=>j (Or.inr (Or.inr h))) (by intro h;rw[h]at b;exact absurd b (by decide)) (by omega)
    show At Ga 0 (Za Ki (Zd ((R:Nat):Int))) Q0 0 46 [(0,.pv (.str s)),(3,.pv (.int .i64 (IntKind.wrap IntKind.i64 ((n:Int)+Lib.indexByte (s.drop n) 10))))] []
    rw[show IntKind.wrap IntKind.i64 ((n:Int)+Lib.indexByte (s.drop n) 10)=((n+(Lib.indexByte (s.drop n) 10).toNat:Nat):Int) by rw[Vv (by omega) (by omega)];omega]
    exact ih _ (by omega) (by omega) a
   ·have b:List.isPrefixOf [47,47] (s.drop n)=false:=b
    rw[if_neg (by rw[b];decide)]at a
    rw[a];exact YX rfl
  ·rw[if_pos (by omega)]at a
   rw[a];exact YX rfl
theorem f3p: ∀ x:Str×Unit,decide (x.1.s.length<=1048576)=true->Zi Ga 0 (Za Ki (Zd (J3 x.1))) Q0 [] (Ye f7t (encL x)):=by
 rintro⟨⟨s⟩,⟨⟩⟩ hs
 have hs:s.length<=1048576:=by simpa using hs
 exact g6v s (e4a s hs _ (s.length+1) 0 (Nat.zero_le _) (by omega) rfl)
theorem a3k{c:UInt8}{r:List UInt8}{b:Bool}(h:digB c=true∨(b=true∧lowB c=true)):1<=(XX ⟨c::r⟩ b).s.length:=by
 unfold XX
 dsimp only
 rw[List.takeWhile_cons_of_pos (by rcases h with h|⟨h1,h2⟩;rw[h];rfl;rw[h1,h2];simp)]
 simp
theorem b1b: ∀ {l:List (List UInt8)} {s:List UInt8},(∀ x∈l,1<=x.length)->(Zw l s).1≠0->1<=(Zw l s).2.s.length
 | [],s,_,h=>absurd rfl h
 | x::l,s,hl,h=>by
  rw[Zw]at h ⊢
  split
  ·exact hl x (List.mem_cons_self ..)
  ·rename_i h1
   rw[if_neg h1]at h
   exact b1b (fun y a=>hl y (List.mem_cons_of_mem _ a)) h
theorem Oi{s:Str}(h:(Wv s).1≠0):1<=(Wv s).2.s.length:=by
 obtain⟨s⟩:=s
 cases s with
 | nil=>exact absurd rfl h
 | cons c r=>
  unfold Wv at h ⊢
  dsimp only at h ⊢
  split at h
  ·rename_i h1
   rw[if_pos h1]
   split at h
   ·rename_i h2;rw[if_pos h2];exact a3k (Or.inr ⟨rfl,h1⟩)
   ·rename_i h2
    split at h
    ·rename_i h3;rw[if_neg h2,if_pos h3];exact a3k (Or.inr ⟨rfl,h1⟩)
    ·exact absurd rfl h
  ·rename_i h1
   rw[if_neg h1]
   split at h
   ·rename_i h2
    rw[if_pos h2]
    split at h
    ·rename_i h3;rw[if_pos h3];exact a3k (Or.inl h2)
    ·exact absurd rfl h
   ·rename_i h2
    rw[if_neg h2]
    exact b1b (by decide) h
theorem a9r(l:List UInt8)(c:UInt8):Lib.countByte l c<=l.length:=List.count_le_length
theorem FK{l:List Tok}{a b:Int}{p:PV}(h:Zd l p):Zd (⟨l,a,b⟩:R3 (List Tok) Int Int) (.tup [p,.int .i64 a,.int .i64 b]):=by
 refine⟨?_,?_⟩
 ·show(is (List Tok) p&&true&&true)=true
  rw[h.1];rfl
 ·show(⟨dec p,a,b⟩:R3 (List Tok) Int Int)=⟨l,a,b⟩
  rw[h.2]
theorem GY(t:List UInt8):J3 ⟨t⟩=((Q5 (t.length+1) t 0:Nat):Int):=rfl
theorem g7y(s:List UInt8)(hs:s.length<=20000)(R:R3 (List Tok) Int Int): ∀ (f i:Nat) (ln:Int) (o:List Tok) (L:Nat),i<=s.length->s.length<i+f->1<=ln->ln<=i+1->L=o.length->L<=i->R=NK f s i ln o ->
  At Dv 0 (Za KC (Zd R)) KV 0 59 [(0,.pv (.str s)),(2,.row 0 L 0 L),(3,.pv (.int .i64 (i:Int))),(5,.pv (.int .i64 ln))] [.obj (.row false 84 4 (o.map enc))]:=by
 intro f
 induction f with
 | zero=>intro i ln o L h1 h2;omega
 | succ f ih=>
  intro i ln o L h1 h2 hn hm r hi a
  have E:List.drop i (List.take s.length s)=s.drop i:=by rw[List.take_length]
  have hb:=Bp ((s.drop i).length+1) (s.drop i) 0 (Nat.zero_le _)
  rw[List.length_drop]at hb
  rw[NK]at a
  try dsimp only at a
  rw[GY,Int.toNat_natCast,List.length_drop]at a
  generalize C:Q5 (s.length - i+1) (s.drop i) 0=k at a hb
  have A:J3 ⟨s.drop i⟩=(k:Int):=by rw[GY,List.length_drop,C]
  have H:IntKind.wrap IntKind.i64 ((i:Int)+(k:Int))=((i+k:Nat):Int):=by rw[Vv (by omega) (by omega)];omega
  have z:List.drop i (List.take (i+k) s)=(s.drop i).take k:=by rw[List.drop_take,Nat.add_sub_cancel_left]
  have B:List.drop (i+k) (List.take s.length s)=s.drop (i+k):=by rw[List.take_length]
  have hc:Lib.countByte ((s.drop i).take k) 10<=k:=Nat.le_trans (a9r _ _) (by rw[List.length_take];omega)
  have l:(s.drop i).length<=1048576:=by rw[List.length_drop];omega
  have e:((s.drop i).take k).length<=1048576:=by rw[List.length_take];omega
  have g:(s.drop (i+k)).length<=1048576:=by rw[List.length_drop];omega
  have h:=MK ⟨s.drop (i+k)⟩
  have b:= @Oi ⟨s.drop (i+k)⟩
  rw[List.length_drop]at h
  generalize y:Lib.countByte ((s.drop i).take k) 10=c at a hc
  have D:IntKind.wrap IntKind.i64 (ln+(c:Int))=ln+(c:Int):=Vv (by omega) (by omega)
  refine e8v s (i:Int) ln o L ⟨by simp;omega,?_⟩
  rw[Int.toNat_natCast,E]
  refine⟨Zh ((⟨s.drop i⟩:Str),()) rfl (decide_eq_true l),Zc ((⟨s.drop i⟩:Str),()) rfl ?_⟩
  try dsimp only
  rw[A,H,Int.toNat_natCast,z,B]
  refine⟨by simp;omega,Zh ((⟨(s.drop i).take k⟩:Str),(⟨[10]⟩:Str),()) rfl (by rw[decide_eq_true e];rfl),Zc ((⟨(s.drop i).take k⟩:Str),(⟨[10]⟩:Str),()) rfl ?_⟩
  try dsimp only
  rw[y,D]
  refine Yd (fun q=> ?_) fun q=>⟨by simp;omega,Zh ((⟨s.drop (i+k)⟩:Str),()) rfl (decide_eq_true g),Zc ((⟨s.drop (i+k)⟩:Str),()) rfl ?_⟩
  ·rw[if_pos (by omega)]at a
   subst a
   exact⟨by simp[r],by rw[V3 o r];exact FK (Zp rfl)⟩
  rw[if_neg (by omega)]at a
  try dsimp only
  generalize Wv ⟨s.drop (i+k)⟩=w at a h b
  obtain⟨wk,⟨j⟩⟩:=w
  refine Yd (fun u=> ?_) fun u=> ?_
  ·rw[if_pos u]at a
   subst a
   exact FK Zn
  rw[if_neg u]at a
  have b:=b u
  dsimp only at h b a ⊢
  rw[show IntKind.wrap IntKind.i64 (((i+k:Nat):Int)+(j.length:Int))=((i+k+j.length:Nat):Int) by rw[Vv (by omega) (by omega)];omega]
  refine Yd (fun F=> ?_) fun F=>⟨by simp[r];omega,?_⟩
  ·rw[if_pos (by omega)]at a
   subst a
   exact FK Zn
  rw[if_neg (by omega)]at a
  rw[show List.map (enc:Tok->PV) o++List.drop 0 (List.take 1 [PV.agg [enc wk,enc (⟨j⟩:Str),PV.int .i64 (ln+(c:Int)),PV.int .i64 ((i+k:Nat):Int)]])=(o++[(⟨wk,⟨j⟩,ln+(c:Int),((i+k:Nat):Int)⟩:Tok)]).map enc from Dz o (⟨wk,⟨j⟩,ln+(c:Int),((i+k:Nat):Int)⟩:Tok)]
  exact ih _ _ _ _ (by omega) (by omega) (by omega) (by omega) (by simp[r]) (by simp;omega) a
theorem g4p(s:List UInt8)(hs:s.length<=20000)(R:R3 (List Tok) Int Int)(f i:Nat)(ln:Int)(h1:i<=s.length)(h2:s.length<i+(f+1))(hn:1<=ln)(hm:ln<=i+1)(a:R=NK (f+1) s i ln []):
  At Dv 0 (Za KC (Zd R)) KV 0 59 [(0,.pv (.str s)),(2,.pv (.sl 0 true [])),(3,.pv (.int .i64 (i:Int))),(5,.pv (.int .i64 ln))] []:=by
 have E:List.drop i (List.take s.length s)=s.drop i:=by rw[List.take_length]
 have hb:=Bp ((s.drop i).length+1) (s.drop i) 0 (Nat.zero_le _)
 rw[List.length_drop]at hb
 rw[NK]at a
 try dsimp only at a
 rw[GY,Int.toNat_natCast,List.length_drop]at a
 generalize C:Q5 (s.length - i+1) (s.drop i) 0=k at a hb
 have A:J3 ⟨s.drop i⟩=(k:Int):=by rw[GY,List.length_drop,C]
 have B:IntKind.wrap IntKind.i64 ((i:Int)+(k:Int))=((i+k:Nat):Int):=by rw[Vv (by omega) (by omega)];omega
 have z:List.drop i (List.take (i+k) s)=(s.drop i).take k:=by rw[List.drop_take,Nat.add_sub_cancel_left]
 have y:List.drop (i+k) (List.take s.length s)=s.drop (i+k):=by rw[List.take_length]
 have hc:Lib.countByte ((s.drop i).take k) 10<=k:=Nat.le_trans (a9r _ _) (by rw[List.length_take];omega)
 have j:(s.drop i).length<=1048576:=by rw[List.length_drop];omega
 have g:((s.drop i).take k).length<=1048576:=by rw[List.length_take];omega
 have e:(s.drop (i+k)).length<=1048576:=by rw[List.length_drop];omega
 have h:=MK ⟨s.drop (i+k)⟩
 have b:= @Oi ⟨s.drop (i+k)⟩
 rw[List.length_drop]at h
 generalize u:Lib.countByte ((s.drop i).take k) 10=c at a hc
 have D:IntKind.wrap IntKind.i64 (ln+(c:Int))=ln+(c:Int):=Vv (by omega) (by omega)
 refine e8t s (i:Int) ln ⟨by simp;omega,?_⟩
 rw[Int.toNat_natCast,E]
 refine⟨Zh ((⟨s.drop i⟩:Str),()) rfl (decide_eq_true j),Zc ((⟨s.drop i⟩:Str),()) rfl ?_⟩
 try dsimp only
 rw[A,B,Int.toNat_natCast,z,y]
 refine⟨by simp;omega,Zh ((⟨(s.drop i).take k⟩:Str),(⟨[10]⟩:Str),()) rfl (by rw[decide_eq_true g];rfl),Zc ((⟨(s.drop i).take k⟩:Str),(⟨[10]⟩:Str),()) rfl ?_⟩
 try dsimp only
 rw[u,D]
 refine Yd (fun q=> ?_) fun q=>⟨by simp;omega,Zh ((⟨s.drop (i+k)⟩:Str),()) rfl (decide_eq_true e),Zc ((⟨s.drop (i+k)⟩:Str),()) rfl ?_⟩
 ·rw[if_pos (by omega)]at a
  subst a
  exact FK Zn
 rw[if_neg (by omega)]at a
 try dsimp only
 generalize Wv ⟨s.drop (i+k)⟩=w at a h b
 obtain⟨wk,⟨l⟩⟩:=w
 refine Yd (fun r=> ?_) fun r=> ?_
 ·rw[if_pos r]at a
  subst a
  exact FK Zn
 rw[if_neg r]at a
 have b:=b r
 dsimp only at h b a ⊢
 rw[show IntKind.wrap IntKind.i64 (((i+k:Nat):Int)+(l.length:Int))=((i+k+l.length:Nat):Int) by rw[Vv (by omega) (by omega)];omega]
 rw[if_neg (by simp)]at a
 exact g7y s hs R f (i+k+l.length) (ln+(c:Int)) [⟨wk,⟨l⟩,ln+(c:Int),((i+k:Nat):Int)⟩] 1 (by omega) (by omega) (by omega) (by omega) rfl (by omega) a
theorem e7q: ∀ x:Str×Unit,true=true->Zi Dv 0 (Za KC (Zd (KJ x.1))) KV [] (Ye f9o (encL x)):=by
 rintro⟨⟨s⟩,⟨⟩⟩ _
 show Zi Dv 0 (Za KC (Zd (KJ ⟨s⟩))) KV [] _
 unfold KJ
 refine g5q s (Yc (fun h=> ?_) fun h=> ?_)
 ·rw[if_pos (show 20000<s.length by omega)]
  exact FK Zn
 ·rw[if_neg (show ¬ 20000<s.length by omega)]
  exact g4p s (by omega) _ s.length 0 1 (Nat.zero_le _) (by omega) (by omega) (by omega) rfl
def PS.endp(s:PS):PS:=if s.i<s.l.length then s.fail else s
def O4(s:PS)(_:Unit):Unit×PS:=((),s.endp)
def bgS(s:List UInt8):PS:=⟨(KJ ⟨s⟩).a,0,s.length,false,0,false⟩
def Ap:List AV->List AObj->Bool
 | [.pv (.str _)],[]=>true
 | _,_=>false
def a0w:List AV->List AObj->AV×List AObj×List AObj
 | [.pv (.str s)],[]=>(.tup [.ptr 0 0,.pv (.int .i64 (KJ ⟨s⟩).b),.pv (.int .i64 (KJ ⟨s⟩).c)],[],[Zj (bgS s)])
 | _,_=>default
def PS.expr(s:PS):Tm×PS:=Z0 4001 s
def a5a(s:PS)(_:Unit):TS×PS:=tsT s.expr
def ty0:TyS:=⟨⟨[]⟩,⟨[]⟩,[]⟩
def PS.small(s:PS):PS:=⟨s.l,s.i,s.sz,s.bad,s.wr,false⟩
def PS.df0(s:PS):PS:=(s.need ⟨[100,101,102]⟩).small
def PS.dfP(s:PS):List Pm×PS:=if s.bad then([],s)else if s.next ⟨[41]⟩then([],s)else listL PS.param s
def PS.dfR(s:PS):(Bool×TyS)×PS:=if s.next ⟨[58]⟩then((true,s.step.typ.1),s.step.typ.2)else((false,ty0),s)
def DF(nm:Str)(ln:Int)(ps:List Pm)(r:Bool×TyS)(t:Tm):Df:=⟨nm,ln,ps,r.1,r.2,t.nd,t.ks⟩
def PS.dfE(s:PS)(d:Tm->Df):(Df×Bool)×PS:=
 if s.bad then((d (.mk nd0 []),false),s)
 else if s.expr.2.bad then((d s.expr.1,false),s.expr.2)
 else((d s.expr.1,s.expr.2.big||(!(YJ s.expr.1)||(decide ((d s.expr.1).ps.length>8)||decide ((d s.expr.1).line>10000)))),s.expr.2)
def PS.defP(s:PS):(Df×Bool)×PS:=
 let nm:=s.df0.name
 let ps:=(nm.2.need ⟨[40]⟩).dfP
 let r:=(ps.2.need ⟨[41]⟩).dfR
 (r.2.need ⟨[61]⟩).dfE (DF nm.1 (s.peek 0).ln ps.1 r.1)
def c6x(s:PS)(_:Unit):(Df×Bool)×PS:=s.defP
def impL:Nat->PS->List Str->List Str×PS
 | 0,s,o=>(o,s)
 | f+1,s,o=>if s.next ⟨[105,109,112,111,114,116]⟩then impL f (listL PS.name s.step).2 (o++(listL PS.name s.step).1)else(o,s)
def PS.expo(s:PS):List Str×PS:=if s.next ⟨[101,120,112,111,114,116]⟩then listL PS.name s.step else([],s)
def Qf:Nat->PS->Int->List Df->(Int×List Df)×PS
 | 0,s,w,o=>((w,o),s)
 | f+1,s,w,o=>if s.bad then((w,o),s)else if s.next ⟨[100,101,102]⟩then Qf f s.defP.2 (if s.defP.1.2&&decide (w<0)then(s.peek 0).o else w) (o++[s.defP.1.1])else((w,o),s)
def md0:Mdu:=⟨⟨[]⟩,[],[],[]⟩
def Bi(s:Str):R3 Mdu Int Int:=
 if (KJ s).c≠0 then⟨md0,(KJ s).b,(KJ s).c⟩
 else
  let b:=bgS s.s
  let nm:=(b.need ⟨[109,111,100,117,108,101]⟩).name
  let im:=impL (b.l.length+1) nm.2 []
  let ex:=im.2.expo
  let ds:=Qf (b.l.length+1) ex.2 (-1) []
  let t:=ds.2.endp
  if t.bad then⟨md0,t.wr,6⟩
  else if 0<=ds.1.1 then⟨md0,ds.1.1,3⟩
  else if im.1.length>20∨ex.1.length>60∨ds.1.2.length>60 then⟨md0,0,3⟩
  else⟨⟨nm.1,im.1,ex.1,ds.1.2⟩,0,0⟩
abbrev a3c(args:List AV)(os:List AObj):=WO (ZH) (Y4) ([]) ([]) (fun(s:PS) (x:Unit)=>Ze s) (a5a) args os
abbrev f9g(args:List AV)(os:List AObj):=WO (Ry 56) (CY) ([]) ([]) (fun(s:PS) (x:Unit)=>Ze s) (Xl PS.param) args os
noncomputable def b6y:IC:=XG Proofs.Tryz.f27
def b6j:List IRes:=[]
abbrev f9u:Nat:=14
noncomputable def d7u:ZM:=YN [c8x]
def g5g{G:GO}(s:PS):=BJ (if (decide ((↑(PS.i s):Int)<(↑(DX s):Int)))=true then JP [.ptr 0 0] [Zj s] fun y0 a=>(AJ G a)else(AJ G s)) G (dm [dv Unit,dO PS] 11 0x65100442) d7u 1 b6j b6y (Z8 14 [.ptr 0 0] [Zj s]) (by delta XU DX AJ;exact rfl)
noncomputable def a4s:IC:=XG Proofs.Tryz.f25
def a3q:List IRes:=[(.tmp 2),(.tmp 3),(.tmp 4)]
abbrev e3z:Nat:=21
noncomputable def c2q:ZM:=YN [(48,.pure (preT (fun _:Str×Unit=>true)) (Zl (fun x:Str×Unit=>KJ x.1)))]
def g8d{G:AV×List AObj×List AObj->Prop}(s:List UInt8):=Fa (A:=(Go.Pl.preT (fun(_:Str×Unit)=>true) [.str s])=true∧(∃ e:R3 (List Tok) Int Int,(AV.pv (Zl (fun(x:Str×Unit)=>KJ x.1) [.str s])=AV.pv (enc e))∧(G ((.tup [.ptr 0 0,.pv (.int .i64 (R3.b e)),.pv (.int .i64 (R3.c e))]),([],[.box [.pv (.sl 4 false (List.map enc (R3.a e))),ZB,.pv (.int .i64 (↑(List.length s):Int)),Vd,ZB,Vd]]))))) (C:=Zi c2q 0 (Yg 0 a3q G) a4s [] (Z8 21 [.pv (.str s)] [])) (fun h=>Zi.to (.req (.abs (R3 (List Tok) Int Int) (fun g=>AV.pv (enc g)) (.nil))) h) (by delta ZB Vd;exact rfl)
noncomputable def b2e:IC:=XG Proofs.Tryz.f39
def b7s:List IRes:=[(.cell true 17 2),(.tmp 3)]
abbrev g0u:Nat:=78
noncomputable def e1l:ZM:=YN [Aa,PT,b0o,a4t,(55,.own (X0 (Ry 56) [] [] (fun(s:PS) (_:Unit)=>Ze s)) (Ww CY [] [] (Xl PS.param))),Ca,f6q,(26,.own (X0 ZH [] [] (fun(s:PS) (_:Unit)=>Ze s)) (Ww Y4 [] [] a5a)),(28,.pure (preT (fun x:Tm×Unit=>gW x.1)) (Zl (fun x:Tm×Unit=>YJ x.1)))]
def a2e(a:List Pm):PV:=.sl 5 false (List.map enc a)
def Le(a:TS):PV:=.int .i64 (Nd.kind (TS.n a))
def NU(a:TS):PV:=.int .i64 (Nd.line (TS.n a))
def Nf(a:TS):PV:=.str (Str.s (Nd.name (TS.n a)))
def Mt(a:TS):PV:=.int .i64 (Nd.num (TS.n a))
def NT(a:TS):PV:=.str (Str.s (Nd.elem (TS.n a)))
def MC(a:TS):PV:=.sl 1 false (List.map enc (Nd.dims (TS.n a)))
def M8(a:TS):PV:=.sl 1 false (List.map enc (Nd.data (TS.n a)))
def Ma(a:TS):PV:=.sl 2 false (List.map enc (Nd.sizes (TS.n a)))
def Pq(a:TS):PV:=.sl 1 false (List.map enc (Nd.ranks (TS.n a)))
def Na(a:TS):PV:=.sl 10 false (List.map enc (TS.k a))
def a8r(i:List UInt8)(Zm:Int)(h:List Pm)(e b:List UInt8)(g:List Lin)(a:TS):PV:=.agg [.str i,.int .i64 Zm,a2e h,.bool true,.str e,.str b,XM g,Le a,NU a,Nf a,Mt a,NT a,MC a,M8 a,Ma a,Pq a,Na a]
def g5j(a:TS):List PV:=[.agg [Le a,NU a,Nf a,Mt a,NT a,MC a,M8 a,Ma a,Pq a,Na a]]
def Es(b:TS):Bool:=Go.Pl.preT (fun(a:Tm×Unit)=>gW (Prod.fst a)) (g5j b)
def a4b(b:TS)(Zm:Bool):Prop:=AV.pv (Zl (fun(a:Tm×Unit)=>YJ (Prod.fst a)) (g5j b))=AV.pv (enc Zm)
def e4s(a:List Pm):Bool:=decide ((↑(List.length (List.map enc a)):Int)>8)
def a0o(a:Int):PV:=.bool (decide (a>10000))
def e2x(G:AV×List AObj×List AObj->Prop)(s:PS)(w:List UInt8)(ln:Int)(o:List Pm)(e r:List UInt8)(d:List Lin):Prop:=ZU Sn [Zj s] fun y0 g=>(if (PS.bad g)=true then G ((.pv (.tup [.agg [.str w,.int .i64 ln,a2e o,.bool true,.str e,.str r,XM d,.int .i64 0,.int .i64 0,.str [],.int .i64 0,.str [],.sl 0 true [],.sl 0 true [],.sl 0 true [],.sl 0 true [],.sl 0 true []],.bool false])),([Zj g],[]))else(a3c [.ptr 0 0] [Zj g] fun a b=>(if (PS.bad b)=true then G ((.pv (.tup [a8r w ln o e r d a,.bool false])),([Zj b],[]))else(if (PS.big b)=true then G ((.pv (.tup [a8r w ln o e r d a,.bool true])),([Zj b],[]))else((Es a)=true∧(∃ h:Bool,(a4b a h)∧(if (!h)=true then G ((.pv (.tup [a8r w ln o e r d a,.bool true])),([Zj b],[]))else(if (e4s o)=true then G ((.pv (.tup [a8r w ln o e r d a,.bool true])),([Zj b],[]))else(G ((.pv (.tup [a8r w ln o e r d a,a0o ln])),([Zj b],[])))))))))))
def a7v(e:List UInt8)(Zm:Int)(b:List Pm)(a:TS):PV:=.agg [.str e,.int .i64 Zm,a2e b,.bool false,.str [],.str [],.sl 0 true [],Le a,NU a,Nf a,Mt a,NT a,MC a,M8 a,Ma a,Pq a,Na a]
def d4c(G:AV×List AObj×List AObj->Prop)(s:PS)(w:List UInt8)(ln:Int)(o:List Pm):Prop:=ZU Sn [Zj s] fun y0 e=>(if (PS.bad e)=true then G ((.pv (.tup [.agg [.str w,.int .i64 ln,a2e o,.bool false,.str [],.str [],.sl 0 true [],.int .i64 0,.int .i64 0,.str [],.int .i64 0,.str [],.sl 0 true [],.sl 0 true [],.sl 0 true [],.sl 0 true [],.sl 0 true []],.bool false])),([Zj e],[]))else(a3c [.ptr 0 0] [Zj e] fun a b=>(if (PS.bad b)=true then G ((.pv (.tup [a7v w ln o a,.bool false])),([Zj b],[]))else(if (PS.big b)=true then G ((.pv (.tup [a7v w ln o a,.bool true])),([Zj b],[]))else((Es a)=true∧(∃ g:Bool,(a4b a g)∧(if (!g)=true then G ((.pv (.tup [a7v w ln o a,.bool true])),([Zj b],[]))else(if (e4s o)=true then G ((.pv (.tup [a7v w ln o a,.bool true])),([Zj b],[]))else(G ((.pv (.tup [a7v w ln o a,a0o ln])),([Zj b],[])))))))))))
def c1g(h:List UInt8)(Zm:Int)(g e:List UInt8)(b:List Lin)(a:TS):PV:=.agg [.str h,.int .i64 Zm,.sl 0 true [],.bool true,.str g,.str e,XM b,Le a,NU a,Nf a,Mt a,NT a,MC a,M8 a,Ma a,Pq a,Na a]
def d6z(G:AV×List AObj×List AObj->Prop)(s:PS)(w:List UInt8)(ln:Int)(e r:List UInt8)(d:List Lin):Prop:=ZU Sn [Zj s] fun y0 g=>(if (PS.bad g)=true then G ((.pv (.tup [.agg [.str w,.int .i64 ln,.sl 0 true [],.bool true,.str e,.str r,XM d,.int .i64 0,.int .i64 0,.str [],.int .i64 0,.str [],.sl 0 true [],.sl 0 true [],.sl 0 true [],.sl 0 true [],.sl 0 true []],.bool false])),([Zj g],[]))else(a3c [.ptr 0 0] [Zj g] fun a b=>(if (PS.bad b)=true then G ((.pv (.tup [c1g w ln e r d a,.bool false])),([Zj b],[]))else(if (PS.big b)=true then G ((.pv (.tup [c1g w ln e r d a,.bool true])),([Zj b],[]))else((Es a)=true∧(∃ h:Bool,(a4b a h)∧(if (!h)=true then G ((.pv (.tup [c1g w ln e r d a,.bool true])),([Zj b],[]))else(G ((.pv (.tup [c1g w ln e r d a,a0o ln])),([Zj b],[]))))))))))
def c2v(b:List UInt8)(Zm:Int)(a:TS):PV:=.agg [.str b,.int .i64 Zm,.sl 0 true [],.bool false,.str [],.str [],.sl 0 true [],Le a,NU a,Nf a,Mt a,NT a,MC a,M8 a,Ma a,Pq a,Na a]
def e1z(G:AV×List AObj×List AObj->Prop)(s:PS)(w:List UInt8)(ln:Int):Prop:=ZU Sn [Zj s] fun y0 e=>(if (PS.bad e)=true then G ((.pv (.tup [.agg [.str w,.int .i64 ln,.sl 0 true [],.bool false,.str [],.str [],.sl 0 true [],.int .i64 0,.int .i64 0,.str [],.int .i64 0,.str [],.sl 0 true [],.sl 0 true [],.sl 0 true [],.sl 0 true [],.sl 0 true []],.bool false])),([Zj e],[]))else(a3c [.ptr 0 0] [Zj e] fun a b=>(if (PS.bad b)=true then G ((.pv (.tup [c2v w ln a,.bool false])),([Zj b],[]))else(if (PS.big b)=true then G ((.pv (.tup [c2v w ln a,.bool true])),([Zj b],[]))else((Es a)=true∧(∃ g:Bool,(a4b a g)∧(if (!g)=true then G ((.pv (.tup [c2v w ln a,.bool true])),([Zj b],[]))else(G ((.pv (.tup [c2v w ln a,a0o ln])),([Zj b],[]))))))))))
def KR:List AV:=[.ptr 0 0,.pv (.str [100,101,102])]
def b4t(k:PS)(Zm:AV×List AObj×List AObj->Prop)(g:Str)(b:Tok):Prop:=ZU QR [Zj k] fun z0' h=>(Ym JL [Zj h] fun i e=>(if (i)=true then a3f [.ptr 0 0] [Zj e] fun a j=>(d6z Zm j (Str.s g) (Tok.ln b) (Str.s (TyS.elem a)) (Str.s (TyS.row a)) (TyS.dims a))else(e1z Zm e (Str.s g) (Tok.ln b))))
def g6q{G:GO}(s:PS):=BJ (Xv Y2 [Zj s] fun e l=>(ZU KR [Zj l] fun y1 a=>(Ka [.ptr 0 0] [.box [VY a,Cw a,XW a,Wj a,Wm a,Vd]] fun b u=>(ZU UC [Zj u] fun y3 h=>(if (!PS.bad h)=true then Xq QR [Zj h] fun r i=>(if (!r)=true then f9g [.ptr 0 0,.fn 56 [.ptr 0 0] []] [Zj i] fun j q=>(ZU QR [Zj q] fun y6 z=>(Ym JL [Zj z] fun A k=>(if (A)=true then a3f [.ptr 0 0] [Zj k] fun g y=>(e2x G y (Str.s b) (Tok.ln e) j (Str.s (TyS.elem g)) (Str.s (TyS.row g)) (TyS.dims g))else(d4c G k (Str.s b) (Tok.ln e) j))))else(b4t i G b e))else(b4t h G b e)))))) G (dm [dv Tok,dO PS,dv Unit,dv Str,dv Bool,dv (List Pm),dv TyS,dv TS] 471 0x222222222202222222200942291220222222222222200e4000146c1000146710222222222202222222200942291220222222222222200e4000146c1000146716b1043469167122220222222222202222222200942291220222222222222200e4000146c1000146710222222222202222222200942291220222222222222200e4000146c1000146716b1043469167102222022200442222202222222200942291220222222222222200e4000146c10001467102222022200442222202222222200942291220222222222222200e4000146c1000146716b104a46916716a109e42269121354671681671651) e1l 1 b7s b2e (Z8 78 [.ptr 0 0] [Zj s]) (by delta ZB Y2 KR XU VY Cw XW Wj Wm Vd UC QR JL b4t;exact rfl)
end Go.Pl
namespace Go.Pl
open Go.RowKit
def b7h(t:Tok):Bool:=(decide (t.k≠1)||nameI t.t.s)&&((decide (t.k≠3)||(Ql t.t).2)&&((decide (t.t≠⟨[46,46]⟩)||decide (t.k=4))&&decide (t.t.s.length<=65536)))
def ZR(l:List Tok):Bool:=l.all b7h
theorem Lm{c:UInt8}{r:List UInt8}{b:Bool}(h:digB c=true∨lowB c=true):XX ⟨c::r⟩ b≠⟨[46,46]⟩:=by
 intro e
 have e:(c::r).takeWhile (fun c=>digB c||(b&&lowB c))=[46,46]:=congrArg Str.s e
 rw[List.takeWhile_cons]at e
 split at e
 ·have a:c=46:=(List.cons.inj e).1
  subst a
  exact absurd h (by decide)
 ·cases e
theorem Ob: ∀ (l:List (List UInt8)) (s:List UInt8),(Zw l s).1=4∨Zw l s=(0,⟨[]⟩)
 | [],s=>Or.inr rfl
 | x::l,s=>by
  rw[Zw]
  split
  ·exact Or.inl rfl
  ·exact Ob l s
theorem d5u{s:Str}{k:Int}{w:Str}(h:Wv s=(k,w))(b:k≠0)(hs:s.s.length<=65536)(ln o:Int):b7h ⟨k,w,ln,o⟩=true:=by
 have g:w.s.length<=65536:=by
  have:=MK s
  rw[h]at this
  exact Nat.le_trans this hs
 have a:(k=1->nameI w.s=true)∧(k=3->(Ql w).2=true)∧(w=⟨[46,46]⟩->k=4):=by
  obtain⟨s⟩:=s
  cases s with
  | nil=>exact absurd (congrArg Prod.fst h).symm b
  | cons c r=>
   unfold Wv at h
   dsimp only at h
   split at h
   ·rename_i h1
    split at h
    ·obtain⟨rfl,rfl⟩:=Prod.mk.inj h
     exact⟨fun e=>absurd e (by decide),fun e=>absurd e (by decide),fun e=>absurd e (Lm (Or.inr h1))⟩
    ·split at h
     ·obtain⟨rfl,rfl⟩:=Prod.mk.inj h
      exact⟨fun _=> ‹_›,fun e=>absurd e (by decide),fun e=>absurd e (Lm (Or.inr h1))⟩
     ·exact absurd (congrArg Prod.fst h).symm b
   ·split at h
    ·rename_i h2
     split at h
     ·obtain⟨rfl,rfl⟩:=Prod.mk.inj h
      exact⟨fun e=>absurd e (by decide),fun _=> ‹_›,fun e=>absurd e (Lm (Or.inl h2))⟩
     ·exact absurd (congrArg Prod.fst h).symm b
    ·rcases Ob ZA (c::r)with h3|h3
     ·rw[h]at h3
      have h3:k=4:=h3
      subst h3
      exact⟨fun e=>absurd e (by decide),fun e=>absurd e (by decide),fun _=>rfl⟩
     ·rw[h]at h3
      exact absurd (congrArg Prod.fst h3) b
 unfold b7h
 dsimp only
 simp only[Bool.and_eq_true,Bool.or_eq_true,decide_eq_true_eq]
 refine⟨?_,?_,?_,g⟩
 ·by_cases e:k=1
  ·exact Or.inr (a.1 e)
  ·exact Or.inl e
 ·by_cases e:k=3
  ·exact Or.inr (a.2.1 e)
  ·exact Or.inl e
 ·by_cases e:w=⟨[46,46]⟩
  ·exact Or.inr (a.2.2 e)
  ·exact Or.inl e
theorem c5l: ∀ (f:Nat) (s:List UInt8) (i:Nat) (ln:Int) (o:List Tok),s.length<=20000->ZR o=true->o.length<=4000->ZR (NK f s i ln o).a=true∧(NK f s i ln o).a.length<=4000
 | 0,s,i,ln,o,_,h1,h2=>⟨h1,h2⟩
 | f+1,s,i,ln,o,hs,h1,h2=>by
  rw[NK]
  split
  ·exact⟨h1,h2⟩
  ·split
   ·exact⟨rfl,by simp⟩
   ·split
    ·exact⟨rfl,by simp⟩
    ·rename_i q1 b q3
     refine c5l f s _ _ _ hs ?_ (by simp;omega)
     unfold ZR at h1 ⊢
     rw[List.all_append,h1,List.all_cons,List.all_nil,Bool.and_true,Bool.true_and]
     exact d5u rfl b (by rw[List.length_drop];omega) _ _
theorem a4p(s:Str):ZR (KJ s).a=true∧(KJ s).a.length<=4000:=by
 unfold KJ
 split
 ·exact⟨rfl,by simp⟩
 ·exact c5l _ _ _ _ _ (by omega) rfl (by simp)
theorem d7e(s:List UInt8):Ze (bgS s)=true:=by
 have h:=a4p ⟨s⟩
 unfold Ze bgS
 dsimp only
 simp only[Bool.and_eq_true,decide_eq_true_eq]
 refine⟨h.2,Nat.zero_le _,?_⟩
 rw[List.all_eq_true]
 intro t ht
 have h3:=List.all_eq_true.1 h.1 t ht
 unfold b7h at h3
 simp only[Bool.and_eq_true,decide_eq_true_eq]at h3
 exact decide_eq_true h3.2.2.2
section
theorem a6u{s:PS}(h:ZR s.l=true)(hi:s.i<s.l.length):b7h (s.peek 0)=true:=by
 rw[Da (k:=0) hi]
 exact List.all_eq_true.1 h _ (List.getElem_mem _)
theorem Dc{w:List UInt8}(h:nameI w=true):w.length<=30:=by
 cases w with
 | nil=>cases h
 | cons c r=>
  unfold nameI at h
  simp only[Bool.and_eq_true,decide_eq_true_eq]at h
  have:=h.1.2
  simp only[List.length_cons]
  omega
theorem Oc{w:Str}(h:nameB w=true):w.s.length<=30:=by
 obtain⟨w⟩:=w
 unfold nameB at h
 cases w with
 | nil=>cases h
 | cons c r=>
  dsimp only at h
  split at h
  ·simp only[Bool.and_eq_true,decide_eq_true_eq]at h
   have:=h.2
   simp only[List.length_cons]
   omega
  ·simp only[Bool.and_eq_true,decide_eq_true_eq]at h
   have:=h.2
   simp only[List.length_cons]
   omega
theorem c2x{s:PS}{w:Str}(h:(s.need w).bad=false):s.next w=true∧(s.need w).i=s.i+1:=by
 unfold PS.need at h ⊢
 split at h
 ·rename_i h1;rw[if_pos h1];exact⟨h1,rfl⟩
 ·cases h
theorem Bh{s:PS}(a:ZR s.l=true)(h:s.name.2.bad=false):s.name.1.s.length<=30∧s.name.2.i=s.i+1:=by
 unfold PS.name at h ⊢
 split at h
 ·rename_i h1
  rw[if_pos h1]
  refine⟨?_,rfl⟩
  have h2:=a6u a (X4 (s:=s) (by omega))
  unfold b7h at h2
  simp only[Bool.and_eq_true,Bool.or_eq_true,decide_eq_true_eq]at h2
  rcases h2.1 with h3|h3
  ·exact absurd h1 h3
  ·exact Dc h3
 ·cases h
theorem DR{s:PS}{m:Int}(h:(s.num m).2.bad=false):(s.num m).2.i=s.i+1:=by
 unfold PS.num at h ⊢
 split at h
 ·rename_i h1;rw[if_pos h1];rfl
 ·cases h
theorem R4{s:PS}(b:ZR s.l=true)(hi:s.i<=s.l.length)(h:s.func.2.bad=false):s.func.1.s.length<=61∧s.i+1<=s.func.2.i:=by
 have k:=Ge.name hi
 unfold PS.func at h ⊢
 split at h
 ·rename_i h1
  rw[if_pos h1]
  have a:=Ge.step (Zk h1)
  have j:=Ge.name a.hi
  have n2:=Bh (by rw[a.l,k.l];exact b) h
  have g:=Bh b (a.good (j.good h))
  have e:s.name.2.step.i=s.name.2.i+1:=rfl
  refine⟨?_,?_⟩
  ·simp only[List.length_append,List.length_cons,List.length_nil];omega
  ·show s.i+1<=s.name.2.step.name.2.i;omega
 ·rename_i h1
  rw[if_neg h1]
  have g:=Bh b h
  refine⟨?_,?_⟩
  ·show s.name.1.s.length<=61;omega
  ·show s.i+1<=s.name.2.i;omega
theorem d9m: ∀ (l:List Coef),(∀ c∈l,c.v.s.length<=30)->(l.map wCf).sum<=32*l.length
 | [],_=>by simp
 | c::l,h=>by
  have h1:=d9m l fun c hc=>h c (List.mem_cons_of_mem _ hc)
  have h2:=h c (List.mem_cons_self ..)
  have e:wCf c=c.v.s.length+2:=rfl
  simp only[List.map_cons,List.sum_cons,List.length_cons]
  omega
theorem c1f{l:Lin}(h:Zt l=true):DI l<=386:=by
 unfold Zt at h
 simp only[Bool.and_eq_true,decide_eq_true_eq]at h
 have h1:=d9m l.t fun c hc=>by
  have h2:=List.all_eq_true.1 h.1.1.1 c hc
  simp only[Bool.and_eq_true]at h2
  exact Oc h2.1.1
 unfold DI
 omega
theorem Ey(a b:Lin)(k:Int):DI (ZV a b k).1<=386:=by
 unfold ZV
 split
 ·split
  ·unfold a2n
   split
   ·exact c1f ‹_›
   ·exact by decide
  ·exact by decide
 ·exact by decide
theorem f8u{s:PS}(j:ZR s.l=true)(hi:s.i<=s.l.length)(h:s.item.2.bad=false):DI s.item.1<=386∧s.i+1<=s.item.2.i:=by
 unfold PS.item at h ⊢
 split at h
 ·rename_i h1
  rw[if_pos h1]
  have a:=Bh j h
  refine⟨?_,?_⟩
  ·show([(⟨s.name.1,1⟩:Coef)].map wCf).sum+2<=386
   simp only[List.map_cons,List.map_nil,List.sum_cons,List.sum_nil]
   unfold wCf
   dsimp only
   omega
  ·show s.i+1<=s.name.2.i;omega
 ·rename_i h1
  rw[if_neg h1]
  have b:=Ge.num (m:=2147483648) hi
  split at h
  ·rename_i h2
   rw[if_pos h2]
   have a:=DR h2.2
   have g:=Ge.name b.hi
   have e : ∀ x,(s.num 2147483648).2.name.2.i<=((s.num 2147483648).2.name.2.note x).2.i:=fun x=>Nat.le_refl _
   refine⟨Ey _ _ _,?_⟩
   have:=e (Q6 (Rc (s.num 2147483648).2.name.1) (s.num 2147483648).1)
   have:=g.le
   omega
  ·rename_i h2
   rw[if_neg h2]
   have a:=DR h
   refine⟨?_,?_⟩
   ·show([].map wCf).sum+2<=386;simp
   ·show s.i+1<=(s.num 2147483648).2.i;omega
theorem G5: ∀ (n:Nat) {s:PS} {l:Lin},ZR s.l=true->s.i<=s.l.length->DI l<=386->(linLoop n s l).2.bad=false->DI (linLoop n s l).1<=386
 | 0,s,l,_,_,hl,_=>hl
 | n+1,s,l,hx,hi,hl,h=>by
  have a:=Ge.linLoop (n+1) (l:=l) hi
  rw[linLoop]at h a ⊢
  split at h
  ·rename_i h1;rw[if_pos h1];exact hl
  ·rename_i h1
   rw[if_neg h1]at a ⊢
   split at h
   ·rename_i h2
    rw[if_pos h2]at a ⊢
    have g:=Ge.step (Zk h2)
    have j:=Ge.item g.hi
    have k:=Ge.wide (b:=decide ((ZV l s.step.item.1 1).2≠0)) j.hi
    exact G5 n (by show ZR s.step.item.2.l=true;rw[j.l,g.l];exact hx) k.hi (Ey _ _ _) h
   ·rename_i h2
    rw[if_neg h2]at a ⊢
    split at h
    ·rename_i h3
     rw[if_pos h3]at a ⊢
     have g:=Ge.step (Zk h3)
     have j:=Ge.item g.hi
     have k:=Ge.wide (b:=decide ((ZV l s.step.item.1 (-1)).2≠0)) j.hi
     exact G5 n (by show ZR s.step.item.2.l=true;rw[j.l,g.l];exact hx) k.hi (Ey _ _ _) h
    ·rename_i h3
     rw[if_neg h3]
     exact hl
theorem f5x{s:PS}(j:ZR s.l=true)(hi:s.i<=s.l.length)(h:s.linear.2.bad=false):DI s.linear.1+260*s.i<=260*s.linear.2.i+130:=by
 have key:DI s.linear.1<=386∧s.i+1<=s.linear.2.i:=by
  unfold PS.linear at h ⊢
  unfold PS.lin0 at h ⊢
  split at h
  ·rename_i h1
   rw[if_pos h1]
   have r:=Ge.step (Zk h1)
   have a:=Ge.item r.hi
   have q:=Ge.wide (b:=decide ((Q6 s.step.item.1 (-1)).2≠0)) a.hi
   have g:=Ge.linLoop (s.l.length+1) (l:=(Q6 s.step.item.1 (-1)).1) q.hi
   have y:=a.le
   have u:=g.le
   refine⟨G5 _ (by show ZR s.step.item.2.l=true;rw[a.l,r.l];exact j) q.hi (Ey _ _ _) h,?_⟩
   exact Nat.le_trans y u
  ·rename_i h1
   rw[if_neg h1]
   have a:=Ge.item hi
   have g:=Ge.linLoop (s.l.length+1) (l:=s.item.1) a.hi
   have k:=f8u j hi (g.good h)
   refine⟨G5 _ (by rw[a.l];exact j) a.hi k.1 h,?_⟩
   exact Nat.le_trans k.2 g.le
 omega
section
variable {α:Type} {one:PS->α×PS} {B:PS->Prop} {f:α->Nat} {e:Nat}
theorem c0v(A:e<=260)(b : ∀ s t,B s->Ge s t->B t)(j : ∀ s,B s->s.i<=s.l.length->Ge s (one s).2)
  (r : ∀ s,ZR s.l=true->B s->s.i<=s.l.length->(one s).2.bad=false->f (one s).1+260*s.i<=260*(one s).2.i+e) :
  ∀ (n:Nat) {s:PS} {o:List α},ZR s.l=true->B s->s.i<=s.l.length->(moreL one n s o).2.bad=false->((moreL one n s o).1.map f).sum+260*s.i<=(o.map f).sum+260*(moreL one n s o).2.i
 | 0,s,o,_,_,_,_=>Nat.le_refl _
 | n+1,s,o,hx,hb,hi,h=>by
  rw[moreL]at h ⊢
  split at h
  ·rename_i h1;rw[if_pos h1];exact Nat.le_refl _
  ·rename_i h1
   rw[if_neg h1]
   split at h
   ·rename_i h2
    rw[if_pos h2]
    have g:=Ge.step (Zk h2)
    have b1:=b _ _ hb g
    have a:=j _ b1 g.hi
    have q:ZR s.step.l=true:=hx
    have y:ZR (one s.step).2.l=true:=by rw[a.l];exact q
    have k:=b _ _ b1 a
    have z:=Ge.moreL b j n (o:=o++[(one s.step).1]) k a.hi
    have w1:=r _ q b1 g.hi (z.good h)
    have u:=c0v A b j r n (o:=o++[(one s.step).1]) y k a.hi h
    have e1:s.step.i=s.i+1:=rfl
    rw[List.map_append,List.sum_append]at u
    simp only[List.map_cons,List.map_nil,List.sum_cons,List.sum_nil]at u
    omega
   ·rename_i h2;rw[if_neg h2];exact Nat.le_refl _
theorem ED(q:e<=260)(b : ∀ s t,B s->Ge s t->B t)(g : ∀ s,B s->s.i<=s.l.length->Ge s (one s).2)
  (j : ∀ s,ZR s.l=true->B s->s.i<=s.l.length->(one s).2.bad=false->f (one s).1+260*s.i<=260*(one s).2.i+e)
  {s:PS} (k:ZR s.l=true) (hb:B s) (hi:s.i<=s.l.length) (h:(listL one s).2.bad=false):((listL one s).1.map f).sum+260*s.i<=260*(listL one s).2.i+e:=by
 have a:=g _ hb hi
 have b1:=b _ _ hb a
 have u:=Ge.moreL b g (s.l.length+1) (o:=[(one s).1]) b1 a.hi
 have w1:=j _ k hb hi (u.good h)
 have r:=c0v q b g j (s.l.length+1) (o:=[(one s).1]) (by rw[a.l];exact k) b1 a.hi h
 simp only[List.map_cons,List.map_nil,List.sum_cons,List.sum_nil]at r
 unfold listL
 omega
end
end
section
theorem c1v: ∀ ks:List Tm,Re ks=(ks.map JY).sum
 | []=>by rw[Re];rfl
 | k::ks=>by rw[Re,c1v ks];rfl
theorem VO(n:Nd)(ks:List Tm):JY (.mk n ks)=wNd n+(ks.map JY).sum:=by rw[JY,c1v]
theorem e8c(k ln num:Int)(n:Str):wNd {Bg k ln n with num:=num}=n.s.length+1:=by
 show n.s.length+0+0+0+0+0+1=_
 omega
theorem Tv(k ln:Int)(n:Str):wNd (Bg k ln n)=n.s.length+1:=e8c k ln 0 n
theorem h0e(k ln:Int):wNd (ndK k ln)=1:=rfl
theorem e5o(ln num:Int)(n:Str)(sz:List Lin)(a:List Int):wNd {nd0 with kind:=6,line:=ln,name:=n,num:=num,sizes:=sz,ranks:=a}=n.s.length+a.length+(sz.map DI).sum+1:=by
 show n.s.length+0+0+0+a.length+(sz.map DI).sum+1=_
 omega
theorem f3k(ln:Int)(a:Arr):wNd {ndK 3 ln with elem:=a.e,dims:=a.d,data:=a.x}=a.e.s.length+a.d.length+a.x.length+1:=by
 show 0+a.e.s.length+a.d.length+a.x.length+0+0+1=_
 omega
theorem e3y(ln:Int)(l:Lin):wNd {ndK 4 ln with sizes:=[l]}=DI l+1:=by
 show 0+0+0+0+0+(DI l+0)+1=_
 omega
theorem c0r: ∀ (n:Nat) {s:PS} {o:List Int},s.i<=s.l.length->(numsP n s o).2.bad=false->(numsP n s o).1.length+s.i<=o.length+(numsP n s o).2.i
 | 0,s,o,_,_=>Nat.le_refl _
 | n+1,s,o,hi,h=>by
  rw[numsP]at h ⊢
  split at h
  ·rename_i h1
   rw[if_pos h1]
   have a:=Ge.num (m:=2147483648) hi
   have b:=Ge.numsP n (o:=o++[(s.num 2147483648).1]) a.hi
   have n1:=DR (b.good h)
   have w:=c0r n (o:=o++[(s.num 2147483648).1]) a.hi h
   rw[List.length_append]at w
   simp only[List.length_cons,List.length_nil]at w
   omega
  ·rename_i h1;rw[if_neg h1];exact Nat.le_refl _
theorem e1v: ∀ (n:Nat) {s:PS} {o:List Int},s.i<=s.l.length->(datP n s o).2.bad=false->(datP n s o).1.length+s.i<=o.length+(datP n s o).2.i
 | 0,s,o,_,_=>Nat.le_refl _
 | n+1,s,o,hi,h=>by
  rw[datP]at h ⊢
  split at h
  ·rename_i h1;rw[if_pos h1];exact Nat.le_refl _
  ·rename_i h1
   rw[if_neg h1]
   split at h
   ·rename_i h2;rw[if_pos h2];exact Nat.le_refl _
   ·rename_i h2
    rw[if_neg h2]
    have a:=Ge.sgs hi
    have b:=Ge.num (m:=2147483648) a.hi
    have e:=Ge.datP n (o:=o++[IntKind.i64.wrap (s.sgn*(s.sgs.num 2147483648).1)]) b.hi
    have n1:=DR (e.good h)
    have w:=e1v n (o:=o++[IntKind.i64.wrap (s.sgn*(s.sgs.num 2147483648).1)]) b.hi h
    have e0:=a.le
    rw[List.length_append]at w
    simp only[List.length_cons,List.length_nil]at w
    omega
theorem g6t{s:PS}(hi:s.i<=s.l.length)(h:s.arr.2.bad=false):s.arr.1.e.s.length+s.arr.1.d.length+s.arr.1.x.length+s.i<=4+s.arr.2.i:=by
 have k0:=Ge.ar0 hi
 have g:=Ge.ar1 hi
 have u:=Ge.ar2 hi
 have k2':Ge s.ar1 s.ar2.2:=Ge.numsP _ g.hi
 have b:=Ge.need (w:=⟨[58]⟩) u.hi
 have a:Ge (s.ar2.2.need ⟨[58]⟩) s.ar3.2:=Ge.datP _ b.hi
 have j:=Ge.need (w:=⟨[93]⟩) a.hi
 have k:s.ar3.2.bad=false:=j.good h
 have z:=a.good k
 have q:=b.good z
 have A:s.ar3.1.length+(s.ar2.2.need ⟨[58]⟩).i<=([]:List Int).length+s.ar3.2.i:=e1v _ b.hi k
 have B:s.ar2.1.length+s.ar1.i<=([]:List Int).length+s.ar2.2.i:=c0r _ g.hi q
 have e1:=g.le
 have e2:=b.le
 have e3:=j.le
 have el:s.arr.1.e.s.length<=4:=by
  show(⟨if s.arB then YR else X3⟩:Str).s.length<=4
  cases s.arB <;> decide
 have y:s.arr.1.d=s.ar2.1:=rfl
 have C:s.arr.1.x=s.ar3.1:=rfl
 have r:s.arr.2.i=(s.ar3.2.need ⟨[93]⟩).i:=rfl
 rw[y,C,r]
 simp only[List.length_nil]at B A
 omega
theorem ones(l:List Int):(l.map fun _=>1).sum=l.length:=by
 induction l with
 | nil=>rfl
 | cons a l ih=>simp only[List.map_cons,List.sum_cons,List.length_cons,ih];omega
theorem f1s{s:PS}(a:ZR s.l=true)(hi:s.i<=s.l.length)(h:s.sizesN.2.bad=false):(s.sizesN.1.map DI).sum+260*s.i<=260*s.sizesN.2.i:=by
 unfold PS.sizesN at h ⊢
 split at h
 ·rename_i h1
  rw[if_pos h1]
  have b:=Ge.step (Zk h1)
  have j:=Ge.list (one:=PS.linear) (fun s h=>Ge.linear h) b.hi
  have k:=Ge.need (w:=⟨[93]⟩) j.hi
  have w:=ED (one:=PS.linear) (B:=fun _=>True) (f:=DI) (e:=130) (by omega) (fun _ _ _ _=>trivial) (fun s _ h=>Ge.linear h) (fun s a _ hi h=>f5x a hi h) (s:=s.step) a trivial b.hi (k.good h)
  have g:=(c2x h).2
  have e1:s.step.i=s.i+1:=rfl
  show((listL PS.linear s.step).1.map DI).sum+260*s.i<=260*((listL PS.linear s.step).2.need ⟨[93]⟩).i
  have g:((listL PS.linear s.step).2.need ⟨[93]⟩).i=(listL PS.linear s.step).2.i+1:=g
  omega
 ·rename_i h1;rw[if_neg h1];exact Nat.le_of_eq (Nat.zero_add _)
theorem f4d{s:PS}(j:ZR s.l=true)(hi:s.i<=s.l.length)(h:s.ranksN.2.bad=false):s.ranksN.1.length+260*s.i<=260*s.ranksN.2.i:=by
 unfold PS.ranksN at h ⊢
 split at h
 ·rename_i h1
  rw[if_pos h1]
  have b:=Ge.step (Zk h1)
  have a:=Ge.need (w:=⟨[40]⟩) b.hi
  have k:=Ge.list (one:=PS.numM) (fun s h=>Ge.num h) a.hi
  have g:=Ge.need (w:=⟨[41]⟩) k.hi
  have w:=ED (one:=PS.numM) (B:=fun _=>True) (f:=fun _=>1) (e:=0) (by omega) (fun _ _ _ _=>trivial) (fun s _ h=>Ge.num h) (fun s j _ hi h=>by have:=DR (s:=s) (m:=2147483648) h;show 1+260*s.i<=260*(s.num 2147483648).2.i+0;omega) (s:=s.step.need ⟨[40]⟩) (by rw[a.l,b.l];exact j) trivial a.hi (g.good h)
  rw[ones]at w
  have e1:=b.le
  have e2:=a.le
  have e4:=g.le
  show(listL PS.numM (s.step.need ⟨[40]⟩)).1.length+260*s.i<=260*((listL PS.numM (s.step.need ⟨[40]⟩)).2.need ⟨[41]⟩).i
  omega
 ·rename_i h1;rw[if_neg h1];exact Nat.le_of_eq (Nat.zero_add _)
def WX(N:Nat)(ex:PS->Tm×PS):Prop:= ∀ s,ZR s.l=true->Wz N s->s.i<=s.l.length->(ex s).2.bad=false->JY (ex s).1+260*s.i<=260*(ex s).2.i
def WU(N:Nat)(un:PS->(Tm×Int)×PS):Prop:= ∀ s,ZR s.l=true->Wz N s->s.i<=s.l.length->(un s).2.bad=false->JY (un s).1.1+260*s.i<=260*(un s).2.i
section
variable {N:Nat} {ex:PS->Tm×PS}
theorem d2y(a:Ff N ex)(g:WX N ex){s:PS}(j:ZR s.l=true)(r:Wz N s)(hi:s.i<=s.l.length)(h:(listL ex s).2.bad=false):((listL ex s).1.map JY).sum+260*s.i<=260*(listL ex s).2.i:=
 ED (one:=ex) (B:=Wz N) (f:=JY) (e:=0) (by omega) (fun s t h k=>h.ge k) (fun s h k=>a s h k) (fun s q b i h=>g s q b i h) j r hi h
theorem g2f(j:Ff N ex)(A:WX N ex){s:PS}(u:ZR s.l=true)(y:Wz N s)(hi:s.i<=s.l.length)(h:(VX ex s).2.bad=false):((VX ex s).1.map JY).sum+260*s.i<=260*(VX ex s).2.i:=by
 have a:=Ge.need (w:=⟨[40]⟩) hi
 have r:=Ge.need (w:=⟨[41]⟩) a.hi
 have e1:=a.le
 have e3:=r.le
 unfold VX at h ⊢
 split at h
 ·rename_i q;rw[if_pos q];show 0+260*s.i<=260*((s.need ⟨[40]⟩).need ⟨[41]⟩).i;omega
 ·rename_i q
  rw[if_neg q]
  split at h
  ·rename_i b;rw[if_pos b];show 0+260*s.i<=260*((s.need ⟨[40]⟩).need ⟨[41]⟩).i;omega
  ·rename_i b
   rw[if_neg b]
   have g:=y.ge a
   have z:=Ge.listL (B:=Wz N) (fun s t h k=>h.ge k) (fun s h k=>j s h k) g a.hi
   have e:=Ge.need (w:=⟨[41]⟩) z.hi
   have w:=d2y j A (by rw[a.l];exact u) g a.hi (e.good h)
   have e4:=e.le
   show((listL ex (s.need ⟨[40]⟩)).1.map JY).sum+260*s.i<=260*((listL ex (s.need ⟨[40]⟩)).2.need ⟨[41]⟩).i
   omega
theorem e6v(u:Ff N ex)(B:WX N ex){ln:Int}{n:Str}{s:PS}(e:ZR s.l=true)(A:Wz N s)(hi:s.i<=s.l.length)(h:(Qn ex ln n s).2.bad=false):JY (Qn ex ln n s).1+260*s.i<=n.s.length+1+260*(Qn ex ln n s).2.i:=by
 have g:=Ge.sizesN hi
 have a:=Ge.frameN g.hi
 have b:=Ge.ranksN a.hi
 have q:=g.trans (a.trans b)
 have j:=A.ge q
 have z:=Ge.kids u j b.hi
 have k:(VX ex s.sizesN.2.frameN.2.ranksN.2).2.bad=false:=h
 have r:=z.good k
 have y:=b.good r
 have b1:=a.good y
 have w1:=f1s e hi b1
 have w3:=f4d (s:=s.sizesN.2.frameN.2) (by rw[a.l,g.l];exact e) a.hi r
 have w4:=g2f u B (s:=s.sizesN.2.frameN.2.ranksN.2) (by rw[q.l];exact e) j b.hi k
 have e2:=a.le
 show JY (.mk {nd0 with kind:=6,line:=ln,name:=n,num:=s.sizesN.2.frameN.1,sizes:=s.sizesN.1,ranks:=s.sizesN.2.frameN.2.ranksN.1} (VX ex s.sizesN.2.frameN.2.ranksN.2).1)+260*s.i<=n.s.length+1+260*(VX ex s.sizesN.2.frameN.2.ranksN.2).2.i
 rw[VO,e5o]
 omega
theorem f3j(e:Ff N ex)(y:WX N ex){s:PS}(a:ZR s.l=true)(A:Wz (N+1) s)(u:(s.peek 0).k=1)(h:(Wl ex s).2.bad=false):JY (Wl ex s).1+260*s.i<=260*(Wl ex s).2.i:=by
 have hi:=X4 (s:=s) (by omega)
 have j:=Ge.step hi
 have h1:=Ge.func1 u
 have r:=j.trans h1
 unfold Wl at h ⊢
 split at h
 ·rename_i q
  rw[if_pos q]
  have g:=R4 a (by omega) h
  rw[VO,Tv]
  show s.func.1.s.length+1+0+260*s.i<=260*s.func.2.i
  omega
 ·rename_i q
  rw[if_neg q]
  have b:Wz N s.func.2:=(A.step hi).ge h1
  have z:=Ge.callB e (ln:=(s.peek 0).ln) (n:=s.func.1) b h1.hi
  have g:=R4 a (by omega) (z.good h)
  have w:=e6v e y (ln:=(s.peek 0).ln) (n:=s.func.1) (s:=s.func.2) (by rw[r.l];exact a) b h1.hi h
  omega
theorem f7b(E:Ff N ex)(A:WX N ex){ln:Int}{s:PS}(k:ZR s.l=true)(F:Wz N s)(hi:s.i<=s.l.length)(h:(ME ex ln s).2.bad=false):JY (ME ex ln s).1+260*s.i<=260*(ME ex ln s).2.i:=by
 have b:=Ge.need (w:=⟨[40]⟩) hi
 have u:=Ge.func b.hi
 have a:=Ge.need (w:=⟨[44]⟩) u.hi
 have q:=b.trans (u.trans a)
 have j:=F.ge q
 have g:=E _ j a.hi
 have e:=Ge.need (w:=⟨[44]⟩) g.hi
 have r:=g.trans e
 have D:=j.ge r
 have C:=E _ D e.hi
 have z:=Ge.need (w:=⟨[41]⟩) C.hi
 have B:=z.good h
 have H:=C.good B
 have y:=e.good H
 have I:=g.good y
 have n1:=R4 (s:=s.need ⟨[40]⟩) (by rw[b.l];exact k) b.hi (a.good I)
 have w4:=A _ (by rw[q.l];exact k) j a.hi y
 have w6:=A _ (by rw[r.l,q.l];exact k) D e.hi B
 have e1:=b.le
 have e3:=a.le
 have e5:=e.le
 have e7:=z.le
 unfold ME
 dsimp only
 rw[VO,Tv]
 simp only[List.map_cons,List.map_nil,List.sum_cons,List.sum_nil]
 omega
theorem g2c(B:Ff N ex)(A:WX N ex){ln:Int}{s:PS}(j:ZR s.l=true)(y:Wz N s)(hi:s.i<=s.l.length)(h:(ND ex ln s).2.bad=false):JY (ND ex ln s).1+260*s.i<=260*(ND ex ln s).2.i:=by
 have b:=Ge.need (w:=⟨[40]⟩) hi
 have q:=Ge.func b.hi
 have a:=Ge.need (w:=⟨[44]⟩) q.hi
 have k:=b.trans (q.trans a)
 have g:=y.ge k
 have e:=B _ g a.hi
 have u:=Ge.need (w:=⟨[41]⟩) e.hi
 have r:=u.good h
 have z:=e.good r
 have n1:=R4 (s:=s.need ⟨[40]⟩) (by rw[b.l];exact j) b.hi (a.good z)
 have w4:=A _ (by rw[k.l];exact j) g a.hi r
 have e1:=b.le
 have e3:=a.le
 have e5:=u.le
 unfold ND
 dsimp only
 rw[VO,Tv]
 simp only[List.map_cons,List.map_nil,List.sum_cons,List.sum_nil]
 omega
theorem f0y{ln:Int}{s:PS}(g:ZR s.l=true)(hi:s.i<=s.l.length)(h:(Cx ln s).2.bad=false):JY (Cx ln s).1+260*s.i<=260*(Cx ln s).2.i:=by
 have a:=Ge.need (w:=⟨[91]⟩) hi
 have j:=Ge.linear a.hi
 have e:=Ge.need (w:=⟨[93]⟩) j.hi
 have b:=(c2x h).2
 have w:=f5x (s:=s.need ⟨[91]⟩) (by rw[a.l];exact g) a.hi (e.good h)
 have e1:=a.le
 unfold Cx at b ⊢
 dsimp only at b ⊢
 rw[VO,e3y]
 show DI (s.need ⟨[91]⟩).linear.1+1+0+260*s.i<=260*((s.need ⟨[91]⟩).linear.2.need ⟨[93]⟩).i
 omega
end
section
variable {N:Nat} {ex:PS->Tm×PS}
theorem f8l(j:Ff N ex)(A:WX N ex){s:PS}(g:ZR s.l=true)(u:Wz (N+1) s)(hi:s.i<=s.l.length)(h:(Xy ex s).2.bad=false):JY (Xy ex s).1+260*s.i<=260*(Xy ex s).2.i:=by
 by_cases q1:(s.peek 0).k=3
 ·rw[show Xy ex s=(.mk {Bg 2 (s.peek 0).ln ⟨X3⟩with num:=(s.num 2147483647).1} [],(s.num 2147483647).2)from if_pos q1]at h ⊢
  have n:=DR h
  rw[VO,e8c]
  show 3+1+0+260*s.i<=260*(s.num 2147483647).2.i
  omega
 by_cases q2:(s.peek 0).k=1
 ·rw[show Xy ex s=Wl ex s from(if_neg q1).trans (if_pos q2)]at h ⊢
  exact f3j j A g u q2 h
 unfold Xy at h ⊢
 dsimp only at h ⊢
 rw[if_neg q1,if_neg q2]at h ⊢
 split at h
 ·rename_i q;rw[if_pos q,VO,e8c]
  show 4+1+0+260*s.i<=260*(s.i+1)
  omega
 ·rename_i q;rw[if_neg q]
  split at h
  ·rename_i q;rw[if_pos q,VO,Tv]
   show 4+1+0+260*s.i<=260*(s.i+1)
   omega
  ·rename_i q;rw[if_neg q]
   split at h
   ·rename_i q;rw[if_pos q]
    have a:=Zk q
    have b:=Ge.step a
    have z:=u.step a
    have y:=j _ z b.hi
    have r:=Ge.need (w:=⟨[41]⟩) y.hi
    have w:=A s.step g z b.hi (r.good h)
    have D:=r.le
    have C:s.step.i=s.i+1:=rfl
    show JY (ex s.step).1+260*s.i<=260*((ex s.step).2.need ⟨[41]⟩).i
    omega
   ·rename_i q;rw[if_neg q]
    split at h
    ·rename_i q;rw[if_pos q]
     have a:=Zk q
     have b:=Ge.step a
     have z:=u.step a
     have y:=Ge.listL (B:=Wz N) (fun s t h k=>h.ge k) (fun s h k=>j s h k) z b.hi
     have r:=Ge.need (w:=⟨[93]⟩) y.hi
     have w:=d2y j A (s:=s.step) g z b.hi (r.good h)
     have D:=r.le
     have C:s.step.i=s.i+1:=rfl
     rw[VO,h0e]
     show 1+((listL ex s.step).1.map JY).sum+260*s.i<=260*((listL ex s.step).2.need ⟨[93]⟩).i
     omega
    ·rename_i q;rw[if_neg q]
     have C:s.step.i=s.i+1:=rfl
     split at h
     ·rename_i q;rw[if_pos q]
      have a:=Zk q
      have w:=f7b j A (ln:=(s.peek 0).ln) (s:=s.step) g (u.step a) (Ge.step a).hi h
      omega
     ·rename_i q;rw[if_neg q]
      split at h
      ·rename_i q;rw[if_pos q]
       have a:=Zk q
       have w:=g2c j A (ln:=(s.peek 0).ln) (s:=s.step) g (u.step a) (Ge.step a).hi h
       omega
      ·rename_i q;rw[if_neg q]
       split at h
       ·rename_i q;rw[if_pos q]
        have a:=Zk q
        have w:=f0y (ln:=(s.peek 0).ln) (s:=s.step) g (Ge.step a).hi h
        omega
       ·rename_i q;rw[if_neg q]
        split at h
        ·rename_i q;rw[if_pos q]
         have a:=Zk q
         have b:=Ge.step a
         have y:=Ge.arr b.hi
         have e2:=y.le
         have w:=g6t (s:=s.step) b.hi h
         rw[VO,f3k]
         show s.step.arr.1.e.s.length+s.step.arr.1.d.length+s.step.arr.1.x.length+1+0+260*s.i<=260*s.step.arr.2.i
         omega
        ·cases h
theorem c1y(w:Str)(u:Bool):(Dr w u).a.s.length<=61:=by
 unfold Dr
 split
 ·rename_i r hr
  have h1:r∈KF:=List.mem_of_find?_eq_some hr
  have h2 : ∀ r∈KF,r.n.length<=61:=by decide
  exact h2 r h1
 ·exact Nat.zero_le _
theorem g7v(r:Ff N ex)(u:WX N ex){un:PS->(Tm×Int)×PS}(hu:GeU N un)(k:WU N un){s:PS}(g:ZR s.l=true)(j:Wz (N+1) s)(hi:s.i<=s.l.length)(h:(JN ex un s).2.bad=false):JY (JN ex un s).1.1+260*s.i<=260*(JN ex un s).2.i:=by
 have e1:s.step.i=s.i+1:=rfl
 unfold JN at h ⊢
 dsimp only at h ⊢
 split at h
 ·rename_i q
  rw[if_pos q]
  have n:=DR h
  rw[VO,e8c]
  show 3+1+0+260*s.i<=260*(s.step.num 2147483648).2.i
  omega
 ·rename_i q
  rw[if_neg q]
  split at h
  ·rename_i b
   rw[if_pos b]
   have e:s.i<s.l.length:=by
    simp only[Bool.or_eq_true]at b
    rcases b with b|b
    ·exact Zk b
    ·exact Zk b
   have w:=k s.step g (j.step e) (Ge.step e).hi h
   have l1:=c1y (s.peek 0).t true
   rw[VO,Tv]
   simp only[List.map_cons,List.map_nil,List.sum_cons,List.sum_nil]
   show(Dr (s.peek 0).t true).a.s.length+1+(JY (un s.step).1.1+0)+260*s.i<=260*(un s.step).2.i
   omega
  ·rename_i b
   rw[if_neg b]
   exact f8l r u g j hi h
theorem d7n(s:PS):s.oper.1.1.s.length<=61:=by
 unfold PS.oper
 split
 ·exact c1y _ _
 ·exact Nat.zero_le _
theorem a8c{fr:PS->(Tm×Int)×PS}{lev ln:Int}(u:lev≠0)(hu:GeU (N+1) fr)(j:WU (N+1) fr): ∀ (n:Nat) {s:PS} {l:Tm},ZR s.l=true->Wz (N+1) s->s.i<=s.l.length->(opLoop fr lev ln n s l).2.bad=false->JY (opLoop fr lev ln n s l).1.1+260*s.i<=JY l+260*(opLoop fr lev ln n s l).2.i
 | 0,s,l,_,_,_,_=>Nat.le_refl _
 | n+1,s,l,hl,hf,hi,h=>by
  rw[opLoop]at h ⊢
  split at h
  ·rename_i q;rw[if_pos q];exact Nat.le_refl _
  ·rename_i q
   rw[if_neg q]
   split at h
   ·rename_i q;rw[if_pos q];exact Nat.le_refl _
   ·rename_i z
    rw[if_neg z]
    have g:=RF (s:=s) (by omega)
    have e:=Ge.step g
    have b:=hf.ge e
    have a:=hu _ b e.hi
    have l1:=d7n s
    have e1:s.step.i=s.i+1:=rfl
    split at h
    ·rename_i k
     rw[if_pos k]
     have w:=j s.step hl b e.hi h
     rw[VO,Tv]
     simp only[List.map_cons,List.map_nil,List.sum_cons,List.sum_nil]
     show s.oper.1.1.s.length+1+(JY l+(JY (fr s.step).1.1+0))+260*s.i<=JY l+260*(fr s.step).2.i
     omega
    ·rename_i k
     rw[if_neg k]
     have y:=Ge.opLoop (ln:=ln) u hu n (l:=.mk (Bg 6 ln s.oper.1.1) [l,(fr s.step).1.1]) (b.ge a) a.hi
     have w:=j s.step hl b e.hi (y.good h)
     have r:=a8c u hu j n (l:=.mk (Bg 6 ln s.oper.1.1) [l,(fr s.step).1.1]) (by rw[a.l];exact hl) (b.ge a) a.hi h
     rw[VO,Tv]at r
     simp only[List.map_cons,List.map_nil,List.sum_cons,List.sum_nil]at r
     omega
theorem b9g{un:PS->(Tm×Int)×PS}(hu:GeU (N+1) un)(e:WU (N+1) un): ∀ d:Nat,d<=5->WU (N+1) (YM un d)
 | 0,_=>e
 | d+1,hd=>fun s i b hi h=>by
  have g:=Ge.from hu d (by omega)
  have a:=g s b hi
  have j:=Ge.opLoop (ln:=(YM un d s).1.2) (lev:=5 - (d:Int)) (by omega) g (s.l.length+1) (l:=(YM un d s).1.1) (b.ge a) a.hi
  rw[YM]at h ⊢
  have w1:=b9g hu e d (by omega) s i b hi (j.good h)
  have w2:=a8c (lev:=5 - (d:Int)) (by omega) g (b9g hu e d (by omega)) (s.l.length+1) (l:=(YM un d s).1.1) (by rw[a.l];exact i) (b.ge a) a.hi h
  omega
theorem g5v(D:Ff N ex)(B:WX N ex){un:PS->(Tm×Int)×PS}(hu:GeU (N+1) un)(E:WU (N+1) un){s:PS}(g:ZR s.l=true)(y:Wz (N+1) s)(hi:s.i<=s.l.length)(h:(exB ex un s).2.bad=false):JY (exB ex un s).1+260*s.i<=260*(exB ex un s).2.i:=by
 unfold exB at h ⊢
 dsimp only at h ⊢
 split at h
 ·rename_i q
  rw[if_pos q]
  have b:=Zk q
  have F:=Ge.step b
  have J:=y.step b
  have z:=Ge.name F.hi
  have a:=Ge.need (w:=⟨[61]⟩) z.hi
  have r:=z.trans a
  have k:=J.ge r
  have j:=D _ k a.hi
  have e:=Ge.need (w:=⟨[105,110]⟩) j.hi
  have u:=j.trans e
  have C:=k.ge u
  have K:=D _ C e.hi
  have H:=K.good h
  have A:=e.good H
  have I:=j.good A
  have n1:=Bh (s:=s.step) g (a.good I)
  have w4:=B _ (by rw[r.l];exact g) k a.hi A
  have w6:=B _ (by rw[u.l,r.l];exact g) C e.hi h
  have e1:s.step.i=s.i+1:=rfl
  have e3:=a.le
  have e5:=e.le
  rw[VO,Tv]
  simp only[List.map_cons,List.map_nil,List.sum_cons,List.sum_nil]
  omega
 ·rename_i q
  rw[if_neg q]
  exact b9g hu E 5 (by omega) s g y hi h
end
theorem a4e: ∀ N,WX N (Z0 N)∧WU N (Kj N)
 | 0=>⟨fun t _ a=>by unfold Wz at a;omega,fun t _ a=>by unfold Wz at a;omega⟩
 | N+1=>by
  obtain⟨i,k⟩:=a4e N
  obtain⟨j,hu⟩:=UM N
  have g:=(UM (N+1)).2
  have b:WU (N+1) (Kj (N+1)):=fun t e a hi h=>by
   rw[Ba]at h ⊢
   exact g7v j i hu k e a hi h
  exact⟨fun t e a hi h=>by
   rw[JF]at h ⊢
   exact g5v j i g b e a hi h,b⟩
theorem Ad{s:PS}(hs:Ze s=true)(g:ZR s.l=true)(h:s.expr.2.bad=false):tW s.expr.1=true:=by
 have h1:=Zv hs
 have e:Wz 4001 s:=by unfold Wz;omega
 have w:=(a4e 4001).1 s g e h1.2 h
 have k:=Ge.expr e h1.2
 have b:=k.hi
 have a:=k.l
 unfold tW
 refine decide_eq_true ?_
 have w:JY s.expr.1+260*s.i<=260*s.expr.2.i:=w
 have b:s.expr.2.i<=s.expr.2.l.length:=b
 have a:s.expr.2.l=s.l:=a
 rw[a]at b
 omega
end
open Enc (enc dec is)
open EncL (encL decL isL)
theorem f2p: ∀ (s:PS) (a:Unit),Ze s=true->Zi d7u 1 (ZE 1 b6j (ZJ [] [] (O4 s a).1 (O4 s a).2)) b6y [] (Z8 f9u (ZH a) ([]++[Zj s])):=by
 rintro s ⟨⟩ hs
 show Zi d7u 1 (ZE 1 b6j (ZJ [] [] () s.endp)) b6y [] _
 unfold PS.endp
 refine g5g s (Yc (fun h=>Hm hs ?_) fun h=> ?_)
 ·rw[if_pos (by rw[List.length_map]at h;omega)];exact Zg c7b
 ·rw[if_neg (by rw[List.length_map]at h;omega)];exact Zg c7b
theorem TR{s:PS}{K:Unit->PS->Prop}(hs:Ze s=true)(h:K () s.endp):WO ZH Y4 [] [] (fun(s:PS) (_:Unit)=>Ze s) O4 [.ptr 0 0] [Zj s] K:=YP ZQ s () rfl rfl hs h
theorem f1k(s:List UInt8):Zi c2q 0 (Yg 0 a3q (fun r=>r=a0w [.pv (.str s)] [])) a4s [] (Z8 e3z [.pv (.str s)] []):=
 g8d s ⟨Zh ((⟨s⟩:Str),()) rfl rfl,Zc ((⟨s⟩:Str),()) rfl rfl⟩
theorem a2i{s:PS}{K:TS->PS->Prop}(hs:Ze s=true)(h:K (Hz s.expr.1) s.expr.2):WO ZH Y4 [] [] (fun(s:PS) (_:Unit)=>Ze s) a5a [.ptr 0 0] [Zj s] K:=YP ZQ s () rfl rfl hs h
theorem X9{α:Type}[Enc α]{x:α}{a b:Int}{p:PV}(h:Zd x p):Zd (⟨x,a,b⟩:R3 α Int Int) (.tup [p,.int .i64 a,.int .i64 b]):=by
 refine⟨?_,?_⟩
 ·show(is α p&&true&&true)=true
  rw[h.1];rfl
 ·show(⟨dec p,a,b⟩:R3 α Int Int)=⟨x,a,b⟩
  rw[h.2]
theorem c0m{f:Tm->Bool}{t:Tm}{p:PV}(h:Zd t p)(k:f t=true):preT (fun x:Tm×Unit=>f x.1) [p]=true:=a2a (t,()) (by show(is Tm p&&true)=true;rw[h.1];rfl) (by show((dec p:Tm),())=_;rw[h.2]) k
theorem e9y{β:Type}[Enc β]{f:Tm->β}{t:Tm}{p:PV}{P:β->Prop}(h:Zd t p)(k:P (f t)): ∃ y,AV.pv (Zl (fun x:Tm×Unit=>f x.1) [p])=AV.pv (enc y)∧P y:=PW (t,()) (by show((dec p:Tm),())=_;rw[h.2]) k
theorem Vn{w:List UInt8}{ln:Int}{o:List Pm}{g:Bool}{ty:TyS}{t:Tm}{p e r d b0 b1 a q l j s i b h:PV}(h1:Zd o p)(h2:Zd ty.elem e)(h3:Zd ty.row r)(z:Zd ty.dims d)(ht:Zd (Hz t) (.agg [b0,b1,a,q,l,j,s,i,b,h])):Zd (DF ⟨w⟩ ln o (g,ty) t) (.agg [.str w,.int .i64 ln,p,.bool g,e,r,d,b0,b1,a,q,l,j,s,i,b,h]):=by
 obtain⟨n,ks⟩:=t
 obtain⟨u,y⟩:=ht
 have u:(is Int b0&&is Int b1&&is Str a&&is Int q&&is Str l&&is (List Int) j&&is (List Int) s&&is (List Lin) i&&is (List Int) b&&is (List Tm) h)=true:=u
 have y:(⟨⟨dec b0,dec b1,dec a,dec q,dec l,dec j,dec s,dec i,dec b⟩,dec h⟩:TS)=⟨n,ks⟩:=y
 have D:(⟨dec b0,dec b1,dec a,dec q,dec l,dec j,dec s,dec i,dec b⟩:Nd)=n:=congrArg TS.n y
 have C:(dec h:List Tm)=ks:=congrArg TS.k y
 simp only[Bool.and_eq_true]at u
 obtain⟨⟨⟨⟨⟨⟨⟨⟨⟨B,A⟩,a2⟩,a3⟩,a4⟩,a5⟩,a6⟩,a7⟩,a8⟩,a9⟩:=u
 refine⟨?_,?_⟩
 ·show(true&&true&&is (List Pm) p&&true&&is Str e&&is Str r&&is (List Lin) d&&is Int b0&&is Int b1&&is Str a&&is Int q&&is Str l&&is (List Int) j&&is (List Int) s&&is (List Lin) i&&is (List Int) b&&is (List Tm) h)=true
  rw[h1.1,h2.1,h3.1,z.1,B,A,a2,a3,a4,a5,a6,a7,a8,a9]
  rfl
 ·show(⟨⟨w⟩,ln,dec p,g,⟨dec e,dec r,dec d⟩,⟨dec b0,dec b1,dec a,dec q,dec l,dec j,dec s,dec i,dec b⟩,dec h⟩:Df)=⟨⟨w⟩,ln,o,g,ty,n,ks⟩
  rw[h1.2,h2.2,h3.2,z.2,D,C]
theorem c2h:Zd (Hz (Tm.mk nd0 [])) (.agg [.int .i64 0,.int .i64 0,.str [],.int .i64 0,.str [],.sl 0 true [],.sl 0 true [],.sl 0 true [],.sl 0 true [],.sl 0 true []]):=GG (YX rfl) (YX rfl) (ZC rfl) (YX rfl) (ZC rfl) Zn Zn Zn Zn Zn
theorem Po{s:PS}{d:Tm->Df}(h:s.bad=true):s.dfE d=((d (.mk nd0 []),false),s):=if_pos h
theorem a2t{s:PS}{d:Tm->Df}(h:s.bad=false)(h2:s.expr.2.bad=true):s.dfE d=((d s.expr.1,false),s.expr.2):=(if_neg (by rw[h];decide)).trans (if_pos h2)
theorem Uf{s:PS}{d:Tm->Df}(h:s.bad=false)(h2:s.expr.2.bad=false):s.dfE d=((d s.expr.1,s.expr.2.big||(!(YJ s.expr.1)||(decide ((d s.expr.1).ps.length>8)||decide ((d s.expr.1).line>10000)))),s.expr.2):=(if_neg (by rw[h];decide)).trans (if_neg (by rw[h2];decide))
theorem d9p{w:List UInt8}{ln:Int}{o:List Pm}{e r:List UInt8}{d:List Lin}{s:PS}(hs:Ze s=true)(j:ZR s.l=true):e2x (ZJ [] [] ((s.need ⟨[61]⟩).dfE (DF ⟨w⟩ ln o (true,⟨⟨e⟩,⟨r⟩,d⟩))).1 ((s.need ⟨[61]⟩).dfE (DF ⟨w⟩ ln o (true,⟨⟨e⟩,⟨r⟩,d⟩))).2) s w ln o e r d:=by
 have k:=Zv hs
 have i:=Ge.need (w:=⟨[61]⟩) k.2
 have b:=i.ok hs
 have g:ZR (s.need ⟨[61]⟩).l=true:=by rw[i.l];exact j
 refine ZL hs ?_
 generalize s.need ⟨[61]⟩=t at b g ⊢
 refine ZW (fun h1=> ?_) fun h1=>a2i b (ZW (fun h2=> ?_) fun h2=>ZW (fun h3=> ?_) fun h3=>⟨c0m (Jb t.expr.1) (a9z (Ad b g h2)),e9y (Jb t.expr.1) (Yx (fun a=> ?_) fun a=>Yc (fun h=> ?_) fun h=> ?_)⟩)
 ·rw[Po h1];exact Zg (Vr (Vn (Zp (x:=o) rfl) (ZC rfl) (ZC rfl) (Zp (x:=d) rfl) c2h) (Zu rfl))
 ·rw[a2t h1 h2];exact Zg (Vr (Vn (Zp (x:=o) rfl) (ZC rfl) (ZC rfl) (Zp (x:=d) rfl) (Uw _)) (Zu rfl))
 ·rw[Uf h1 h2,h3];exact Zg (Vr (Vn (Zp (x:=o) rfl) (ZC rfl) (ZC rfl) (Zp (x:=d) rfl) (Uw _)) (Zu rfl))
 ·rw[Uf h1 h2,h3]
  have a:YJ t.expr.1=false:=a
  rw[a];exact Zg (Vr (Vn (Zp (x:=o) rfl) (ZC rfl) (ZC rfl) (Zp (x:=d) rfl) (Uw _)) (Zu rfl))
 ·rw[Uf h1 h2,h3]
  have a:YJ t.expr.1=true:=a
  rw[a,decide_eq_true (show((DF ⟨w⟩ ln o (true,⟨⟨e⟩,⟨r⟩,d⟩)) t.expr.1).ps.length>8 by show o.length>8;rw[List.length_map]at h;omega)];exact Zg (Vr (Vn (Zp (x:=o) rfl) (ZC rfl) (ZC rfl) (Zp (x:=d) rfl) (Uw _)) (Zu rfl))
 ·rw[Uf h1 h2,h3]
  have a:YJ t.expr.1=true:=a
  rw[a,decide_eq_false (show ¬ ((DF ⟨w⟩ ln o (true,⟨⟨e⟩,⟨r⟩,d⟩)) t.expr.1).ps.length>8 by show ¬ o.length>8;rw[List.length_map]at h;omega)];exact Zg (Vr (Vn (Zp (x:=o) rfl) (ZC rfl) (ZC rfl) (Zp (x:=d) rfl) (Uw _)) (Zu rfl))
theorem d7h{w:List UInt8}{ln:Int}{o:List Pm}{s:PS}(hs:Ze s=true)(j:ZR s.l=true):d4c (ZJ [] [] ((s.need ⟨[61]⟩).dfE (DF ⟨w⟩ ln o (false,ty0))).1 ((s.need ⟨[61]⟩).dfE (DF ⟨w⟩ ln o (false,ty0))).2) s w ln o:=by
 have i:=Zv hs
 have h:=Ge.need (w:=⟨[61]⟩) i.2
 have b:=h.ok hs
 have e:ZR (s.need ⟨[61]⟩).l=true:=by rw[h.l];exact j
 refine ZL hs ?_
 generalize s.need ⟨[61]⟩=t at b e ⊢
 refine ZW (fun h1=> ?_) fun h1=>a2i b (ZW (fun h2=> ?_) fun h2=>ZW (fun h3=> ?_) fun h3=>⟨c0m (Jb t.expr.1) (a9z (Ad b e h2)),e9y (Jb t.expr.1) (Yx (fun a=> ?_) fun a=>Yc (fun g=> ?_) fun g=> ?_)⟩)
 ·rw[Po h1];exact Zg (Vr (Vn (Zp (x:=o) rfl) (ZC rfl) (ZC rfl) Zn c2h) (Zu rfl))
 ·rw[a2t h1 h2];exact Zg (Vr (Vn (Zp (x:=o) rfl) (ZC rfl) (ZC rfl) Zn (Uw _)) (Zu rfl))
 ·rw[Uf h1 h2,h3];exact Zg (Vr (Vn (Zp (x:=o) rfl) (ZC rfl) (ZC rfl) Zn (Uw _)) (Zu rfl))
 ·rw[Uf h1 h2,h3]
  have a:YJ t.expr.1=false:=a
  rw[a];exact Zg (Vr (Vn (Zp (x:=o) rfl) (ZC rfl) (ZC rfl) Zn (Uw _)) (Zu rfl))
 ·rw[Uf h1 h2,h3]
  have a:YJ t.expr.1=true:=a
  rw[a,decide_eq_true (show((DF ⟨w⟩ ln o (false,ty0)) t.expr.1).ps.length>8 by show o.length>8;rw[List.length_map]at g;omega)];exact Zg (Vr (Vn (Zp (x:=o) rfl) (ZC rfl) (ZC rfl) Zn (Uw _)) (Zu rfl))
 ·rw[Uf h1 h2,h3]
  have a:YJ t.expr.1=true:=a
  rw[a,decide_eq_false (show ¬ ((DF ⟨w⟩ ln o (false,ty0)) t.expr.1).ps.length>8 by show ¬ o.length>8;rw[List.length_map]at g;omega)];exact Zg (Vr (Vn (Zp (x:=o) rfl) (ZC rfl) (ZC rfl) Zn (Uw _)) (Zu rfl))
theorem e3m{w:List UInt8}{ln:Int}{e r:List UInt8}{d:List Lin}{s:PS}(hs:Ze s=true)(j:ZR s.l=true):d6z (ZJ [] [] ((s.need ⟨[61]⟩).dfE (DF ⟨w⟩ ln [] (true,⟨⟨e⟩,⟨r⟩,d⟩))).1 ((s.need ⟨[61]⟩).dfE (DF ⟨w⟩ ln [] (true,⟨⟨e⟩,⟨r⟩,d⟩))).2) s w ln e r d:=by
 have i:=Zv hs
 have h:=Ge.need (w:=⟨[61]⟩) i.2
 have b:=h.ok hs
 have g:ZR (s.need ⟨[61]⟩).l=true:=by rw[h.l];exact j
 refine ZL hs ?_
 generalize s.need ⟨[61]⟩=t at b g ⊢
 refine ZW (fun h1=> ?_) fun h1=>a2i b (ZW (fun h2=> ?_) fun h2=>ZW (fun h3=> ?_) fun h3=>⟨c0m (Jb t.expr.1) (a9z (Ad b g h2)),e9y (Jb t.expr.1) (Yx (fun a=> ?_) fun a=> ?_)⟩)
 ·rw[Po h1];exact Zg (Vr (Vn Zn (ZC rfl) (ZC rfl) (Zp (x:=d) rfl) c2h) (Zu rfl))
 ·rw[a2t h1 h2];exact Zg (Vr (Vn Zn (ZC rfl) (ZC rfl) (Zp (x:=d) rfl) (Uw _)) (Zu rfl))
 ·rw[Uf h1 h2,h3];exact Zg (Vr (Vn Zn (ZC rfl) (ZC rfl) (Zp (x:=d) rfl) (Uw _)) (Zu rfl))
 ·rw[Uf h1 h2,h3]
  have a:YJ t.expr.1=false:=a
  rw[a];exact Zg (Vr (Vn Zn (ZC rfl) (ZC rfl) (Zp (x:=d) rfl) (Uw _)) (Zu rfl))
 ·rw[Uf h1 h2,h3]
  have a:YJ t.expr.1=true:=a
  rw[a];exact Zg (Vr (Vn Zn (ZC rfl) (ZC rfl) (Zp (x:=d) rfl) (Uw _)) (Zu rfl))
theorem e3h{w:List UInt8}{ln:Int}{s:PS}(hs:Ze s=true)(i:ZR s.l=true):e1z (ZJ [] [] ((s.need ⟨[61]⟩).dfE (DF ⟨w⟩ ln [] (false,ty0))).1 ((s.need ⟨[61]⟩).dfE (DF ⟨w⟩ ln [] (false,ty0))).2) s w ln:=by
 have h:=Zv hs
 have g:=Ge.need (w:=⟨[61]⟩) h.2
 have b:=g.ok hs
 have e:ZR (s.need ⟨[61]⟩).l=true:=by rw[g.l];exact i
 refine ZL hs ?_
 generalize s.need ⟨[61]⟩=t at b e ⊢
 refine ZW (fun h1=> ?_) fun h1=>a2i b (ZW (fun h2=> ?_) fun h2=>ZW (fun h3=> ?_) fun h3=>⟨c0m (Jb t.expr.1) (a9z (Ad b e h2)),e9y (Jb t.expr.1) (Yx (fun a=> ?_) fun a=> ?_)⟩)
 ·rw[Po h1];exact Zg (Vr (Vn Zn (ZC rfl) (ZC rfl) Zn c2h) (Zu rfl))
 ·rw[a2t h1 h2];exact Zg (Vr (Vn Zn (ZC rfl) (ZC rfl) Zn (Uw _)) (Zu rfl))
 ·rw[Uf h1 h2,h3];exact Zg (Vr (Vn Zn (ZC rfl) (ZC rfl) Zn (Uw _)) (Zu rfl))
 ·rw[Uf h1 h2,h3]
  have a:YJ t.expr.1=false:=a
  rw[a];exact Zg (Vr (Vn Zn (ZC rfl) (ZC rfl) Zn (Uw _)) (Zu rfl))
 ·rw[Uf h1 h2,h3]
  have a:YJ t.expr.1=true:=a
  rw[a];exact Zg (Vr (Vn Zn (ZC rfl) (ZC rfl) Zn (Uw _)) (Zu rfl))
theorem f1n{nm:Str}{ln:Int}{o:List Pm}{ty:TyS}{s:PS}(hs:Ze s=true)(a:ZR s.l=true):e2x (ZJ [] [] ((s.need ⟨[61]⟩).dfE (DF nm ln o (true,ty))).1 ((s.need ⟨[61]⟩).dfE (DF nm ln o (true,ty))).2) s nm.s ln o ty.elem.s ty.row.s ty.dims:=by
 obtain⟨w⟩:=nm
 obtain⟨⟨e⟩,⟨r⟩,d⟩:=ty
 exact d9p hs a
theorem e8i{nm:Str}{ln:Int}{o:List Pm}{s:PS}(hs:Ze s=true)(a:ZR s.l=true):d4c (ZJ [] [] ((s.need ⟨[61]⟩).dfE (DF nm ln o (false,ty0))).1 ((s.need ⟨[61]⟩).dfE (DF nm ln o (false,ty0))).2) s nm.s ln o:=by
 obtain⟨w⟩:=nm
 exact d7h hs a
theorem c0f{nm:Str}{ln:Int}{ty:TyS}{s:PS}(hs:Ze s=true)(a:ZR s.l=true):d6z (ZJ [] [] ((s.need ⟨[61]⟩).dfE (DF nm ln [] (true,ty))).1 ((s.need ⟨[61]⟩).dfE (DF nm ln [] (true,ty))).2) s nm.s ln ty.elem.s ty.row.s ty.dims:=by
 obtain⟨w⟩:=nm
 obtain⟨⟨e⟩,⟨r⟩,d⟩:=ty
 exact e3m hs a
theorem c2j{nm:Str}{ln:Int}{s:PS}(hs:Ze s=true)(a:ZR s.l=true):e1z (ZJ [] [] ((s.need ⟨[61]⟩).dfE (DF nm ln [] (false,ty0))).1 ((s.need ⟨[61]⟩).dfE (DF nm ln [] (false,ty0))).2) s nm.s ln:=by
 obtain⟨w⟩:=nm
 exact e3h hs a
theorem e9s{s:PS}(h:s.bad=true):s.dfP=([],s):=if_pos h
theorem g0h{s:PS}(h:s.bad=false)(h2:s.next ⟨[41]⟩=true):s.dfP=([],s):=(if_neg (by rw[h];decide)).trans (if_pos h2)
theorem f8s{s:PS}(h:s.bad=false)(h2:s.next ⟨[41]⟩=false):s.dfP=listL PS.param s:=(if_neg (by rw[h];decide)).trans (if_neg (by rw[h2];decide))
theorem d4k{s:PS}(h:s.next ⟨[58]⟩=true):s.dfR=((true,s.step.typ.1),s.step.typ.2):=if_pos h
theorem e3j{s:PS}(h:s.next ⟨[58]⟩=false):s.dfR=((false,ty0),s):=if_neg (by rw[h];decide)
theorem G8{s:PS}{ps:List Pm×PS}{r:(Bool×TyS)×PS}(h1:(s.df0.name.2.need ⟨[40]⟩).dfP=ps)(h2:(ps.2.need ⟨[41]⟩).dfR=r):s.defP=(r.2.need ⟨[61]⟩).dfE (DF s.df0.name.1 (s.peek 0).ln ps.1 r.1):=by subst h1 h2;rfl
set_option maxHeartbeats 2000000 in
theorem e6r: ∀ (s:PS) (a:Unit),(Ze s&&ZR s.l)=true->Zi e1l 1 (ZE 1 b7s (ZJ [] [] (c6x s a).1 (c6x s a).2)) b2e [] (Z8 g0u (ZH a) ([]++[Zj s])):=by
 rintro s ⟨⟩ h
 rw[Bool.and_eq_true]at h
 obtain⟨hs,Q⟩:=h
 have N:=Zv hs
 have kd:=Ge.need (w:=⟨[100,101,102]⟩) N.2
 have C:=kd.ok hs
 have hu:Ze s.df0=true:=C
 have O:ZR s.df0.l=true:=by show ZR (s.need _).l=true;rw[kd.l];exact Q
 have P:=Zv hu
 have D:=Ge.name P.2
 have z:=D.ok hu
 have E:=Ge.need (w:=⟨[40]⟩) D.hi
 have j:=E.ok z
 have F:=D.trans E
 show Zi e1l 1 (ZE 1 b7s (ZJ [] [] s.defP.1 s.defP.2)) b2e [] _
 have H : ∀ {ps:List Pm×PS} (h1:(s.df0.name.2.need ⟨[40]⟩).dfP=ps) (k:Ge s.df0 ps.2),
   Ze (ps.2.need ⟨[41]⟩)=true∧ZR (ps.2.need ⟨[41]⟩).l=true∧(ps.2.need ⟨[41]⟩).i<=(ps.2.need ⟨[41]⟩).l.length:=fun {ps} h1 k=>by
  have M:=Ge.need (w:=⟨[41]⟩) k.hi
  have K:=k.trans M
  exact⟨K.ok hu,by rw[K.l];exact O,K.hi⟩
 have ty : ∀ {t:PS},Ze t=true->ZR t.l=true->t.next ⟨[58]⟩=true->Ze t.step=true∧Ze t.step.typ.2=true∧ZR t.step.typ.2.l=true:=fun {t} a b c=>by
  have B:=Ge.step (Zk c)
  have L:=Ge.typ B.hi
  exact⟨B.ok a,L.ok (B.ok a),by rw[L.l,B.l];exact b⟩
 refine g6q s (Xb hs (ZL hs (c0h (s:=s.df0) rfl hu (ZL z (Yx (fun hb=>YV j (Yx (fun hn=> ?_) fun hn=> ?_)) fun hb=> ?_)))))
 ·have e:=f8s hb hn
  have I:=Ge.list (one:=PS.param) (fun s h=>Ge.param h) E.hi
  obtain⟨g,r,J⟩:=H e (F.trans I)
  refine d3s j (ZL (I.ok j) (Yi g (fun q=>Yh rfl ?_) fun q=>Yj (by simp) ?_))
  ·obtain⟨y,u,A⟩:=ty g r q
   refine c0j y ?_
   rw[G8 e (d4k q)]
   exact f1n u A
  ·rw[G8 e (e3j q)]
   exact e8i g r
 ·have e:=g0h hb hn
  obtain⟨g,r,J⟩:=H e F
  refine ZL j (Yi g (fun q=>Yh rfl ?_) fun q=>Yj (by simp) ?_)
  ·obtain⟨y,u,A⟩:=ty g r q
   refine c0j y ?_
   rw[G8 e (d4k q)]
   exact c0f u A
  ·rw[G8 e (e3j q)]
   exact c2j g r
 ·have e:=e9s hb
  obtain⟨g,r,J⟩:=H e F
  refine ZL j (Yi g (fun q=>Yh rfl ?_) fun q=>Yj (by simp) ?_)
  ·obtain⟨y,u,A⟩:=ty g r q
   refine c0j y ?_
   rw[G8 e (d4k q)]
   exact c0f u A
  ·rw[G8 e (e3j q)]
   exact c2j g r
theorem c3l{s:PS}{K:Df×Bool->PS->Prop}(hs:Ze s=true)(a:ZR s.l=true)(h:K s.defP.1 s.defP.2):WO ZH Y4 [] [] (fun(s:PS) (_:Unit)=>Ze s&&ZR s.l) c6x [.ptr 0 0] [Zj s] K:=YP ZQ s () rfl rfl (by rw[hs,a];rfl) h
set_option maxRecDepth 100000
abbrev E9(args:List AV)(os:List AObj):=WO (Ry 34) (CY) ([]) ([]) (fun(s:PS) (x:Unit)=>Ze s) (Xl PS.name) args os
abbrev a1e(args:List AV)(os:List AObj):=WO (ZH) (Y4) ([]) ([]) (fun(s:PS) (x:Unit)=>Ze s&&ZR (PS.l s)) (c6x) args os
abbrev a1m(args:List AV)(os:List AObj):=WO (ZH) (Y4) ([]) ([]) (fun(s:PS) (x:Unit)=>Ze s) (O4) args os
noncomputable def YB:IC:=XG Proofs.Tryz.f18
def Yy:List IRes:=[(.cell true 4 2),(.tmp 3),(.tmp 4)]
abbrev g0a:Nat:=108
noncomputable def Xd:ZM:=YN [(25,.own Ap a0w),PT,b0o,Ca,(36,.own (X0 (Ry 34) [] [] (fun(s:PS) (_:Unit)=>Ze s)) (Ww CY [] [] (Xl PS.name))),a4t,Aa,(39,.own (X0 ZH [] [] (fun(s:PS) (_:Unit)=>Ze s&&ZR s.l)) (Ww Y4 [] [] c6x)),(27,.own (X0 ZH [] [] (fun(s:PS) (_:Unit)=>Ze s)) (Ww Y4 [] [] O4))]
def Gu:PV:=.agg [.str [],.sl 0 true [],.sl 0 true [],.sl 0 true []]
def J6:List (Nat×AV):=[(2,.ptr 0 0),(5,.ptr 1 0)]
def g8x{G:PV->Prop}(s:List UInt8):=Vw ((Ap [.pv (.str s)] [])=true∧(if (R3.c (KJ (Str.mk s)) != 0)=true then G (.tup [Gu,.int .i64 (R3.b (KJ (Str.mk s))),.int .i64 (R3.c (KJ (Str.mk s)))])else(ZU [.ptr 0 0,.pv (.str [109,111,100,117,108,101])] [.box [.pv (.sl 4 false (List.map enc (PS.l (bgS s)))),.pv (.int .i64 (↑(PS.i (bgS s)):Int)),.pv (.int .i64 (PS.sz (bgS s))),Vd,.pv (.int .i64 (PS.wr (bgS s))),Vd]] fun y0 a=>(Ka [.ptr 0 0] [Zj a] fun e g=>(At Xd 0 (Za Yy G) YB 0 108 J6 [.obj (.box [GJ e,Z9,Z9,Z9]),.obj (Zj g)]))))) G (dm [dv Unit,dO PS,dv Str] 16 0x67165100014231) Xd Yy YB (Ye 108 [.str s]) (by delta Gu Vd J6 GJ Z9;exact rfl)
def a2u:List AV:=[.ptr 0 0,.pv (.str [105,109,112,111,114,116])]
def EB(a:List UInt8)(Zm:PS):ZF:=[.obj (.box [.pv (.str a),Z9,Z9,Z9]),.obj (Zj Zm)]
def a5j:List AV:=[.ptr 0 0,.pv (.str [101,120,112,111,114,116])]
def AU:List (Nat×AV):=[(2,.ptr 0 0),(5,.ptr 1 0),(6,.pv (.int .i64 (-1)))]
def e6b{G:PV->Prop}(s:List UInt8)(w:List UInt8)(q:PS):=Wy (Ym a2u [Zj q] fun k b=>(if (k)=true then E9 Cr [Zj b] fun a g=>((List.isEmpty (List.map enc a)||Enc.sz Str==1)=true∧(if (List.isEmpty (List.map enc a))=true then At Xd 0 (Za Yy G) YB 0 108 J6 (EB w g)else(((List.isEmpty ([]:List PV)||0==1)&&decide ((List.length ([]:List PV)+List.length (List.map enc a))*16<=1099511627776)&&decide (List.length ([]:List PV)+List.length (List.map enc a)<=1099511627776))=true∧(At Xd 0 (Za Yy G) YB 0 108 J6 [.obj (.box [.pv (.str w),.row 2 (List.length ([]:List PV)+List.length (List.map enc a)) 0 (List.length ([]:List PV)+List.length (List.map enc a)),Z9,Z9]),.obj (Zj g),.obj (.row false 9 1 (([]:List PV)++List.map enc a))]))))else(Ym a5j [Zj b] fun h e=>(if (h)=true then E9 Cr [Zj e] fun j i=>(At Xd 0 (Za Yy G) YB 1 108 AU [.obj (.box [.pv (.str w),Z9,.pv (.sl 1 false (List.map enc j)),Z9]),.obj (Zj i)])else(At Xd 0 (Za Yy G) YB 1 108 AU (EB w e)))))) G (dm [dv Bool,dO PS,dv (List Str)] 32 0x671004465101000142167100c4651) Xd Yy YB 0 108 J6 (EB w q) (by delta a2u Cr J6 Z9 EB a5j AU;exact rfl)
def CX(a:List Str):Slot:=.obj (.row false 9 1 (List.map enc a))
def e8k{G:PV->Prop}(s:List UInt8)(w:List UInt8)(q:PS)(o:List Str)(L:Nat):=Wy (Ym a2u [Zj q] fun k b=>(if (k)=true then E9 Cr [Zj b] fun a i=>((List.isEmpty (List.map enc a)||Enc.sz Str==1)=true∧((List.length (List.map enc o)==L&&L==L&&decide ((L+List.length (List.map enc a))*16<=1099511627776)&&decide (L+List.length (List.map enc a)<=1099511627776))=true∧(At Xd 0 (Za Yy G) YB 0 108 J6 [.obj (.box [.pv (.str w),.row 2 (L+List.length (List.map enc a)) 0 (L+List.length (List.map enc a)),Z9,Z9]),.obj (Zj i),.obj (.row false 9 1 (List.map enc o++List.map enc a))])))else(Ym a5j [Zj b] fun g e=>(if (g)=true then E9 Cr [Zj e] fun h j=>(At Xd 0 (Za Yy G) YB 1 108 AU [.obj (.box [.pv (.str w),.row 2 L 0 L,.pv (.sl 1 false (List.map enc h)),Z9]),.obj (Zj j),CX o])else(At Xd 0 (Za Yy G) YB 1 108 AU [.obj (.box [.pv (.str w),.row 2 L 0 L,Z9,Z9]),.obj (Zj e),CX o]))))) G (dm [dv Bool,dO PS,dv (List Str)] 26 0x67100446510116710064651) Xd Yy YB 0 108 J6 [.obj (.box [.pv (.str w),.row 2 L 0 L,Z9,Z9]),.obj (Zj q),a0r o] (by delta a2u Cr J6 Z9 a5j AU CX;exact rfl)
def Gf(a:Tok):List (Nat×AV):=[(2,.ptr 0 0),(5,.ptr 1 0),(6,.pv (.int .i64 (Tok.o a)))]
def e6e(a:Df×Bool):Slot:=.obj (.row false 56 17 [.agg [.str (Str.s (Df.name a.1)),.int .i64 (Df.line a.1),.sl 5 false (List.map enc (Df.ps a.1)),.bool (Df.given a.1),.str (Str.s (TyS.elem (Df.res a.1))),.str (Str.s (TyS.row (Df.res a.1))),.sl 2 false (List.map enc (TyS.dims (Df.res a.1))),.int .i64 (Nd.kind (Df.n a.1)),.int .i64 (Nd.line (Df.n a.1)),.str (Str.s (Nd.name (Df.n a.1))),.int .i64 (Nd.num (Df.n a.1)),.str (Str.s (Nd.elem (Df.n a.1))),.sl 1 false (List.map enc (Nd.dims (Df.n a.1))),.sl 1 false (List.map enc (Nd.data (Df.n a.1))),.sl 2 false (List.map enc (Nd.sizes (Df.n a.1))),.sl 1 false (List.map enc (Nd.ranks (Df.n a.1))),.sl 10 false (List.map enc (Df.ks a.1))]])
def a1c(h:List UInt8)(Zm:Nat)(g:Bool)(b:List PV)(a:PS)(e:Df×Bool):ZF:=[.obj (.box [.pv (.str h),Z9,.pv (.sl Zm g b),.row 2 1 0 1]),.obj (Zj a),e6e e]
def Qu(a:Int):List (Nat×AV):=[(2,.ptr 0 0),(5,.ptr 1 0),(6,ZK a)]
def FX(a:PS):PV:=.tup [Gu,.int .i64 (PS.wr a),.int .i64 6]
def GD(a:Int):PV:=.tup [Gu,.int .i64 a,.int .i64 3]
def Gr(a:List PV):Bool:=decide ((↑(List.length a):Int)>60)
def TD:PV:=.tup [Gu,.int .i64 0,.int .i64 3]
def d4j(j:PS)(Zm:PV->Prop)(e:Int)(a:List PV)(g:List UInt8)(i:Nat)(h:Bool):Prop:=a1m [.ptr 0 0] [Zj j] fun z0' b=>(if (PS.bad b)=true then Zm (FX b)else(if (decide (e ≥ 0))=true then Zm (GD e)else(if (Gr a)=true then Zm (TD)else(Zm (.tup [.agg [.str g,.sl 0 true [],.sl i h a,.sl 0 true []],.int .i64 0,.int .i64 0])))))
def e7z{G:PV->Prop}(s:List UInt8)(w:List UInt8)(q:PS)(v:Int)(k:Nat)(n:Bool)(xs:List PV):=Wy (if (!PS.bad q)=true then Xq KR [Zj q] fun i e=>(if (i)=true then Xv Y2 [Zj e] fun h g=>(a1e [.ptr 0 0] [Zj g] fun a b=>(if a.2=true then if (decide (v<0))=true then At Xd 0 (Za Yy G) YB 1 108 (Gf h) (a1c w k n xs b a)else(At Xd 0 (Za Yy G) YB 1 108 (Qu v) (a1c w k n xs b a))else(At Xd 0 (Za Yy G) YB 1 108 (Qu v) (a1c w k n xs b a))))else(d4j e G v xs w k n))else(d4j q G v xs w k n)) G (dm [dv Bool,dO PS,dv Tok,dv (Df×Bool),dv Unit] 131 0x222222022222006422222220001420001469122202222220222220064222222200014200014691022222222022222022222006422201346816710264265120554) Xd Yy YB 1 108 (Qu v) [.obj (.box [.pv (.str w),Z9,.pv (.sl k n xs),Z9]),.obj (Zj q)] (by delta KR ZB Y2 Gf Z9 e6e a1c ZK Qu Gu FX GD Gr TD d4j;exact rfl)
def a1b(b:List UInt8)(Zm i:Nat)(e:Bool)(a:List PV)(h:PS)(g:List Str)(j:Df×Bool):ZF:=[.obj (.box [.pv (.str b),.row 2 Zm 0 Zm,.pv (.sl i e a),.row 3 1 0 1]),.obj (Zj h),CX g,e6e j]
def e0d(i:PS)(Zm:PV->Prop)(h:Int)(a:Nat)(b:List PV)(g:List Str)(j:List UInt8)(l:Nat)(k:Bool):Prop:=a1m [.ptr 0 0] [Zj i] fun z0' e=>(if (PS.bad e)=true then Zm (FX e)else(if (decide (h ≥ 0))=true then Zm (GD h)else(if (decide ((↑(a - 0):Int)>20))=true then Zm (TD)else(if (Gr b)=true then Zm (TD)else((DV g a)=true∧(Zm (.tup [.agg [.str j,.sl 1 false (List.drop 0 (List.take a (List.map enc g))),.sl l k b,.sl 0 true []],.int .i64 0,.int .i64 0])))))))
def f2z{G:PV->Prop}(s:List UInt8)(w:List UInt8)(q:PS)(v:Int)(k:Nat)(n:Bool)(xs:List PV)(o:List Str)(L:Nat):=Wy (if (!PS.bad q)=true then Xq KR [Zj q] fun i e=>(if (i)=true then Xv Y2 [Zj e] fun h g=>(a1e [.ptr 0 0] [Zj g] fun a b=>(if a.2=true then if (decide (v<0))=true then At Xd 0 (Za Yy G) YB 1 108 (Gf h) (a1b w L k n xs b o a)else(At Xd 0 (Za Yy G) YB 1 108 (Qu v) (a1b w L k n xs b o a))else(At Xd 0 (Za Yy G) YB 1 108 (Qu v) (a1b w L k n xs b o a))))else(e0d e G v L xs o w k n))else(e0d q G v L xs o w k n)) G (dm [dv Bool,dO PS,dv Tok,dv (Df×Bool),dv Unit] 161 0x12222220222220064222220222222222200b4200014200014691222012222220222220064222220222222222200b4200014200014691022222222022222022222006422201346816710264265120644) Xd Yy YB 1 108 (Qu v) [.obj (.box [.pv (.str w),.row 2 L 0 L,.pv (.sl k n xs),Z9]),.obj (Zj q),a0r o] (by delta KR ZB Y2 Gf CX e6e a1b ZK Qu Gu FX GD TD Gr DV e0d;exact rfl)
def e1k(a:Df×Bool):List PV:=List.drop 0 (List.take 1 [PV.agg [enc (Df.name a.1),enc (Df.line a.1),enc (Df.ps a.1),enc (Df.given a.1),enc (TyS.elem (Df.res a.1)),enc (TyS.row (Df.res a.1)),enc (TyS.dims (Df.res a.1)),enc (Nd.kind (Df.n a.1)),enc (Nd.line (Df.n a.1)),enc (Nd.name (Df.n a.1)),enc (Nd.num (Df.n a.1)),enc (Nd.elem (Df.n a.1)),enc (Nd.dims (Df.n a.1)),enc (Nd.data (Df.n a.1)),enc (Nd.sizes (Df.n a.1)),enc (Nd.ranks (Df.n a.1)),enc (Df.ks a.1)]])
def TU(b:List Df)(Zm:Nat)(a:Df×Bool):Bool:=List.length (List.map enc b)==Zm&&Zm==Zm&&decide ((Zm+List.length (e1k a))*288<=1099511627776)&&decide (Zm+List.length (e1k a)<=1099511627776)
def FE(a:Nat)(Zm:Df×Bool):Nat:=a+List.length (e1k Zm)
def f1m(a:List Df)(Zm:Df×Bool):Slot:=.obj (.row false 56 17 (List.map enc a++List.drop 0 (List.take 1 [PV.agg [enc (Df.name Zm.1),enc (Df.line Zm.1),enc (Df.ps Zm.1),enc (Df.given Zm.1),enc (TyS.elem (Df.res Zm.1)),enc (TyS.row (Df.res Zm.1)),enc (TyS.dims (Df.res Zm.1)),enc (Nd.kind (Df.n Zm.1)),enc (Nd.line (Df.n Zm.1)),enc (Nd.name (Df.n Zm.1)),enc (Nd.num (Df.n Zm.1)),enc (Nd.elem (Df.n Zm.1)),enc (Nd.dims (Df.n Zm.1)),enc (Nd.data (Df.n Zm.1)),enc (Nd.sizes (Df.n Zm.1)),enc (Nd.ranks (Df.n Zm.1)),enc (Df.ks Zm.1)]])))
def a1d(e:List UInt8)(Zm:Nat)(i:Bool)(g:List PV)(b:Nat)(a:Df×Bool)(h:PS)(j:List Df):ZF:=[.obj (.box [.pv (.str e),Z9,.pv (.sl Zm i g),.row 2 (FE b a) 0 (FE b a)]),.obj (Zj h),f1m j a]
def d5d(i:PS)(Zm:PV->Prop)(h:Int)(b:List PV)(a:Nat)(g:List Df)(j:List UInt8)(l:Nat)(k:Bool):Prop:=a1m [.ptr 0 0] [Zj i] fun z0' e=>(if (PS.bad e)=true then Zm (FX e)else(if (decide (h ≥ 0))=true then Zm (GD h)else(if (Gr b)=true then Zm (TD)else(if (decide ((↑(a - 0):Int)>60))=true then Zm (TD)else((List.length (List.map enc g)==a)=true∧(Zm (.tup [.agg [.str j,.sl 0 true [],.sl l k b,.sl 17 false (List.drop 0 (List.take a (List.map enc g)))],.int .i64 0,.int .i64 0])))))))
def e9k{G:PV->Prop}(s:List UInt8)(w:List UInt8)(q:PS)(v:Int)(k:Nat)(n:Bool)(xs:List PV)(ds:List Df)(D:Nat):=Wy (if (!PS.bad q)=true then Xq KR [Zj q] fun i e=>(if (i)=true then Xv Y2 [Zj e] fun h g=>(a1e [.ptr 0 0] [Zj g] fun a b=>(if a.2=true then if (decide (v<0))=true then(TU ds D a)=true∧(At Xd 0 (Za Yy G) YB 1 108 (Gf h) (a1d w k n xs D a b ds))else((TU ds D a)=true∧(At Xd 0 (Za Yy G) YB 1 108 (Qu v) (a1d w k n xs D a b ds)))else((TU ds D a)=true∧(At Xd 0 (Za Yy G) YB 1 108 (Qu v) (a1d w k n xs D a b ds)))))else(d5d e G v xs D ds w k n))else(d5d q G v xs D ds w k n)) G (dm [dv Bool,dO PS,dv Tok,dv (Df×Bool),dv Unit] 135 0x1000142222202222200642222222000142000146912220100014222220222220064222222200014200014691012222201220122004422200f46816710204265120544) Xd Yy YB 1 108 (Qu v) [.obj (.box [.pv (.str w),Z9,.pv (.sl k n xs),.row 2 D 0 D]),.obj (Zj q),.obj (.row false 56 17 (ds.map enc))] (by delta KR ZB Y2 e1k TU Gf Z9 FE f1m a1d ZK Qu Gu FX GD Gr TD d5d;exact rfl)
def a4d(g:List UInt8)(Zm k:Nat)(h:Bool)(e:List PV)(b:Nat)(a:Df×Bool)(l:PS)(j:List Str)(i:List Df):ZF:=[.obj (.box [.pv (.str g),.row 2 Zm 0 Zm,.pv (.sl k h e),.row 3 (FE b a) 0 (FE b a)]),.obj (Zj l),CX j,f1m i a]
def a0d:PV:=.tup [Gu,.int .i64 0,.int .i64 3]
def d8u(l:PS)(Zm:PV->Prop)(j:Int)(a:Nat)(e:List PV)(b:Nat)(g:List Str)(k:List Df)(r:List UInt8)(q:Nat)(i:Bool):Prop:=a1m [.ptr 0 0] [Zj l] fun z0' h=>(if (PS.bad h)=true then Zm (.tup [Gu,.int .i64 (PS.wr h),.int .i64 6])else(if (decide (j ≥ 0))=true then Zm (GD j)else(if (decide ((↑(a - 0):Int)>20))=true then Zm (a0d)else(if (Gr e)=true then Zm (a0d)else(if (decide ((↑(b - 0):Int)>60))=true then Zm (a0d)else((DV g a)=true∧((List.length (List.map enc k)==b)=true∧(Zm (.tup [.agg [.str r,N9 a g,.sl q i e,.sl 17 false (List.drop 0 (List.take b (List.map enc k)))],.int .i64 0,.int .i64 0])))))))))
def e7k{G:PV->Prop}(s:List UInt8)(w:List UInt8)(q:PS)(v:Int)(k:Nat)(n:Bool)(xs:List PV)(o:List Str)(L:Nat)(ds:List Df)(D:Nat):=Wy (if (!PS.bad q)=true then Xq KR [Zj q] fun i e=>(if (i)=true then Xv Y2 [Zj e] fun h g=>(a1e [.ptr 0 0] [Zj g] fun a b=>(if a.2=true then if (decide (v<0))=true then(TU ds D a)=true∧(At Xd 0 (Za Yy G) YB 1 108 (Gf h) (a4d w L k n xs D a b o ds))else((TU ds D a)=true∧(At Xd 0 (Za Yy G) YB 1 108 (Qu v) (a4d w L k n xs D a b o ds)))else((TU ds D a)=true∧(At Xd 0 (Za Yy G) YB 1 108 (Qu v) (a4d w L k n xs D a b o ds)))))else(d8u e G v L xs D o ds w k n))else(d8u q G v L xs D o ds w k n)) G (dm [dv Bool,dO PS,dv Tok,dv (Df×Bool),dv Unit] 165 0x1100014222220222220064222220222222222200b420001420001469122201100014222220222220064222220222222222200b4200014200014691012222201220122004422200f46816710204265120634) Xd Yy YB 1 108 (Qu v) [.obj (.box [.pv (.str w),.row 2 L 0 L,.pv (.sl k n xs),.row 3 D 0 D]),.obj (Zj q),a0r o,.obj (.row false 56 17 (ds.map enc))] (by delta KR ZB Y2 e1k TU Gf FE CX f1m a4d ZK Qu Gu GD a0d Gr DV N9 d8u;exact rfl)
end Go.Pl
namespace Go.Pl
open Go.RowKit
def XN(nm:Str)(im ex:List Str)(r:(Int×List Df)×PS):R3 Mdu Int Int:=
 if r.2.endp.bad then⟨md0,r.2.endp.wr,6⟩
 else if 0<=r.1.1 then⟨md0,r.1.1,3⟩
 else if im.length>20∨ex.length>60∨r.1.2.length>60 then⟨md0,0,3⟩
 else⟨⟨nm,im,ex,r.1.2⟩,0,0⟩
def b6m(L:Nat)(nm:Str)(r:List Str×PS):R3 Mdu Int Int:=XN nm r.1 r.2.expo.1 (Qf (L+1) r.2.expo.2 (-1) [])
theorem e9b{s:Str}(h:(KJ s).c=0):Bi s=b6m (bgS s.s).l.length ((bgS s.s).need ⟨[109,111,100,117,108,101]⟩).name.1 (impL ((bgS s.s).l.length+1) ((bgS s.s).need ⟨[109,111,100,117,108,101]⟩).name.2 []):=by
 unfold Bi
 rw[if_neg (fun k=>k h)]
 rfl
theorem Ge.dfP{s:PS}(h:s.i<=s.l.length):Ge s s.dfP.2:=by
 unfold PS.dfP
 split
 ·exact Ge.refl h
 ·split
  ·exact Ge.refl h
  ·exact Ge.list (one:=PS.param) (fun s h=>Ge.param h) h
theorem Ge.dfR{s:PS}(h:s.i<=s.l.length):Ge s s.dfR.2:=by
 unfold PS.dfR
 split
 ·have a:=Ge.step (Zk ‹_›)
  exact a.trans (Ge.typ a.hi)
 ·exact Ge.refl h
theorem Ge.dfE{s:PS}{d:Tm->Df}(hs:Ze s=true):Ge s (s.dfE d).2:=by
 have a:=Zv hs
 have k:Ge s s.expr.2:=Ge.expr (by unfold Wz;omega) a.2
 unfold PS.dfE
 split
 ·exact Ge.refl a.2
 ·split
  ·exact k
  ·exact k
theorem Ge.defP{s:PS}(hs:Ze s=true):Ge s.df0 s.defP.2:=by
 have j:=Zv hs
 have kd:=Ge.need (w:=⟨[100,101,102]⟩) j.2
 have hu:Ze s.df0=true:=kd.ok hs
 have a:=Ge.name (Zv hu).2
 have e:=Ge.need (w:=⟨[40]⟩) a.hi
 have g:=Ge.dfP e.hi
 have b:=Ge.need (w:=⟨[41]⟩) g.hi
 have h:=Ge.dfR b.hi
 have i:=Ge.need (w:=⟨[61]⟩) h.hi
 have K:=a.trans (e.trans (g.trans (b.trans (h.trans i))))
 exact K.trans (Ge.dfE (K.ok hu))
theorem Ps{s:PS}(hs:Ze s=true)(b:ZR s.l=true)(h:s.next ⟨[100,101,102]⟩=true):Ze s.defP.2=true∧ZR s.defP.2.l=true∧s.defP.2.l=s.l∧s.i+1<=s.defP.2.i:=by
 have k:=Ge.defP hs
 have e:s.need ⟨[100,101,102]⟩=s.step:=if_pos h
 have hu:Ze s.df0=true:=(Ge.need (w:=⟨[100,101,102]⟩) (Zv hs).2).ok hs
 have a:s.df0.l=s.l:=by show(s.need _).l=s.l;rw[e];rfl
 have ei:s.df0.i=s.i+1:=by show(s.need _).i=_;rw[e];rfl
 have k2:=k.le
 exact⟨k.ok hu,by rw[k.l,a];exact b,by rw[k.l,a],by omega⟩
open Enc (enc dec is)
open EncL (encL decL isL)
theorem a3g{w:List UInt8}{im ex:List Str}{ds:List Df}{a b c:PV}(h1:Zd im a)(h2:Zd ex b)(h3:Zd ds c):Zd (⟨⟨w⟩,im,ex,ds⟩:Mdu) (.agg [.str w,a,b,c]):=by
 refine⟨?_,?_⟩
 ·show(true&&is (List Str) a&&is (List Str) b&&is (List Df) c)=true
  rw[h1.1,h2.1,h3.1];rfl
 ·show(⟨⟨w⟩,dec a,dec b,dec c⟩:Mdu)=⟨⟨w⟩,im,ex,ds⟩
  rw[h1.2,h2.2,h3.2]
theorem Xm:Zd md0 (.agg [.str [],.sl 0 true [],.sl 0 true [],.sl 0 true []]):=a3g Zn Zn Zn
theorem a1f{ex:List Str}{k:Nat}{n:Bool}{xs:List PV}(h:Zd ex (.sl k n xs)):xs.length=ex.length:=by
 have h2:(xs.map dec:List Str)=ex:=h.2
 rw[<- h2,List.length_map]
theorem BV{f:Nat}{s:PS}{w:Int}{o:List Df}(h:s.bad=true):Qf f s w o=((w,o),s):=by
 cases f with
 | zero=>rfl
 | succ f=>rw[Qf,if_pos h]
theorem RZ{f:Nat}{s:PS}{w:Int}{o:List Df}(h:s.next ⟨[100,101,102]⟩=false):Qf f s w o=((w,o),s):=by
 cases f with
 | zero=>rfl
 | succ f=>
  rw[Qf]
  split
  ·rfl
  ·rw[if_neg (by rw[h];decide)]
theorem RO{f:Nat}{s:PS}{w:Int}{o:List Df}(hb:s.bad=false)(h:s.next ⟨[100,101,102]⟩=true):Qf (f+1) s w o=Qf f s.defP.2 (if s.defP.1.2&&decide (w<0)then(s.peek 0).o else w) (o++[s.defP.1.1]):=by rw[Qf,if_neg (by rw[hb];decide),if_pos h]
theorem d3n{s w:List UInt8}{k:Nat}{n:Bool}{xs:List PV}{ex:List Str}(r:Zd ex (.sl k n xs))(R:R3 Mdu Int Int): ∀ (f:Nat) (q:PS) (v:Int) (ds:List Df) (D:Nat),Ze q=true->ZR q.l=true->q.l.length<q.i+f->D=ds.length->D<=q.i->R=XN ⟨w⟩ [] ex (Qf f q v ds) ->
  At Xd 0 (Za Yy (Zd R)) YB 1 108 [(2,.ptr 0 0),(5,.ptr 1 0),(6,.pv (.int .i64 v))] [.obj (.box [.pv (.str w),.pv (.sl 0 true []),.pv (.sl k n xs),.row 2 D 0 D]),.obj (Zj q),.obj (.row false 56 17 (ds.map enc))]:=by
 have hxl:=a1f r
 intro f
 induction f with
 | zero=>intro q v ds D g y E;have:=Zv g;omega
 | succ f ih=>
  intro q v ds D g y E a hDi b
  have hl:=Zv g
  refine e9k s w q v k n xs ds D (Yx (fun hb=>YV g (ZW (fun hd=>Xb g (c3l g y ?_)) fun hd=>TR g ?_)) fun hb=>TR g ?_)
  ·rw[RO hb hd]at b
   obtain⟨z,u,A,a4⟩:=Ps g y hd
   have j:q.defP.2.l.length<q.defP.2.i+f:=by rw[A];omega
   have e:List.map (enc:Df->PV) ds++List.drop 0 (List.take 1 [PV.agg [enc (Df.name q.defP.1.1),enc (Df.line q.defP.1.1),enc (Df.ps q.defP.1.1),enc (Df.given q.defP.1.1),enc (TyS.elem (Df.res q.defP.1.1)),enc (TyS.row (Df.res q.defP.1.1)),enc (TyS.dims (Df.res q.defP.1.1)),enc (Nd.kind (Df.n q.defP.1.1)),enc (Nd.line (Df.n q.defP.1.1)),enc (Nd.name (Df.n q.defP.1.1)),enc (Nd.num (Df.n q.defP.1.1)),enc (Nd.elem (Df.n q.defP.1.1)),enc (Nd.dims (Df.n q.defP.1.1)),enc (Nd.data (Df.n q.defP.1.1)),enc (Nd.sizes (Df.n q.defP.1.1)),enc (Nd.ranks (Df.n q.defP.1.1)),enc (Df.ks q.defP.1.1)]])=(ds++[q.defP.1.1]).map enc:=Dz ds q.defP.1.1
   have sz:(List.length (List.map (enc:Df->PV) ds)==D&&D==D&&decide ((D+1)*136<=1099511627776)&&decide (D+1<=1099511627776))=true:=by simp[a];omega
   refine ZW (fun h1=>Yc (fun h2=>⟨by simp[a];omega,?_⟩) fun h2=>⟨by simp[a];omega,?_⟩) fun h1=>⟨by simp[a];omega,?_⟩
   ·rw[e]
    rw[if_pos (by rw[h1,decide_eq_true h2];rfl)]at b
    exact ih _ _ _ _ z u j (by simp[a]) (by simp;omega) b
   ·rw[e]
    rw[if_neg (by rw[h1,decide_eq_false h2];decide)]at b
    exact ih _ _ _ _ z u j (by simp[a]) (by simp;omega) b
   ·rw[e]
    rw[if_neg (by rw[h1];simp)]at b
    exact ih _ _ _ _ z u j (by simp[a]) (by simp;omega) b
  ·rw[RZ hd]at b
   subst b
   exact ZW (fun h1=>by rw[XN,if_pos h1];exact X9 Xm) fun h1=>Yc (fun h2=>by rw[XN,if_neg (by rw[h1];decide),if_pos h2];exact X9 Xm) fun h2=>Yc (fun h=>by rw[XN,if_neg (by rw[h1];decide),if_neg h2,if_pos (Or.inr (Or.inl (show ex.length>60 by omega)))];exact X9 Xm) fun B=>Yc (fun h=>by rw[XN,if_neg (by rw[h1];decide),if_neg h2,if_pos (Or.inr (Or.inr (show ds.length>60 by omega)))];exact X9 Xm) fun C=>⟨by simp[a],by rw[XN,if_neg (by rw[h1];decide),if_neg h2,if_neg (by rintro(h|h|h);exact absurd h (by decide);(have h:ex.length>60:=h;omega);(have h:ds.length>60:=h;omega))];exact X9 (a3g Zn r (by rw[V3 ds a];exact Ud ds rfl))⟩
  ·rw[BV hb]at b
   subst b
   exact ZW (fun h1=>by rw[XN,if_pos h1];exact X9 Xm) fun h1=>Yc (fun h2=>by rw[XN,if_neg (by rw[h1];decide),if_pos h2];exact X9 Xm) fun h2=>Yc (fun h=>by rw[XN,if_neg (by rw[h1];decide),if_neg h2,if_pos (Or.inr (Or.inl (show ex.length>60 by omega)))];exact X9 Xm) fun B=>Yc (fun h=>by rw[XN,if_neg (by rw[h1];decide),if_neg h2,if_pos (Or.inr (Or.inr (show ds.length>60 by omega)))];exact X9 Xm) fun C=>⟨by simp[a],by rw[XN,if_neg (by rw[h1];decide),if_neg h2,if_neg (by rintro(h|h|h);exact absurd h (by decide);(have h:ex.length>60:=h;omega);(have h:ds.length>60:=h;omega))];exact X9 (a3g Zn r (by rw[V3 ds a];exact Ud ds rfl))⟩
theorem e5v{s w:List UInt8}{k:Nat}{n:Bool}{xs:List PV}(o:List Str)(L:Nat)(u:L=o.length){ex:List Str}(j:Zd ex (.sl k n xs))(R:R3 Mdu Int Int): ∀ (f:Nat) (q:PS) (v:Int) (ds:List Df) (D:Nat),Ze q=true->ZR q.l=true->q.l.length<q.i+f->D=ds.length->D<=q.i->R=XN ⟨w⟩ o ex (Qf f q v ds) ->
  At Xd 0 (Za Yy (Zd R)) YB 1 108 [(2,.ptr 0 0),(5,.ptr 1 0),(6,.pv (.int .i64 v))] [.obj (.box [.pv (.str w),.row 2 L 0 L,.pv (.sl k n xs),.row 3 D 0 D]),.obj (Zj q),.obj (.row false 9 1 (o.map enc)),.obj (.row false 56 17 (ds.map enc))]:=by
 have hxl:=a1f j
 intro f
 induction f with
 | zero=>intro q v ds D g A C;have:=Zv g;omega
 | succ f ih=>
  intro q v ds D g A C a hDi b
  have hl:=Zv g
  refine e7k s w q v k n xs o L ds D (Yx (fun hb=>YV g (ZW (fun hd=>Xb g (c3l g A ?_)) fun hd=>TR g ?_)) fun hb=>TR g ?_)
  ·rw[RO hb hd]at b
   obtain⟨z,y,F,a4⟩:=Ps g A hd
   have r:q.defP.2.l.length<q.defP.2.i+f:=by rw[F];omega
   have e:List.map (enc:Df->PV) ds++List.drop 0 (List.take 1 [PV.agg [enc (Df.name q.defP.1.1),enc (Df.line q.defP.1.1),enc (Df.ps q.defP.1.1),enc (Df.given q.defP.1.1),enc (TyS.elem (Df.res q.defP.1.1)),enc (TyS.row (Df.res q.defP.1.1)),enc (TyS.dims (Df.res q.defP.1.1)),enc (Nd.kind (Df.n q.defP.1.1)),enc (Nd.line (Df.n q.defP.1.1)),enc (Nd.name (Df.n q.defP.1.1)),enc (Nd.num (Df.n q.defP.1.1)),enc (Nd.elem (Df.n q.defP.1.1)),enc (Nd.dims (Df.n q.defP.1.1)),enc (Nd.data (Df.n q.defP.1.1)),enc (Nd.sizes (Df.n q.defP.1.1)),enc (Nd.ranks (Df.n q.defP.1.1)),enc (Df.ks q.defP.1.1)]])=(ds++[q.defP.1.1]).map enc:=Dz ds q.defP.1.1
   have sz:(List.length (List.map (enc:Df->PV) ds)==D&&D==D&&decide ((D+1)*136<=1099511627776)&&decide (D+1<=1099511627776))=true:=by simp[a];omega
   refine ZW (fun h1=>Yc (fun h2=>⟨by simp[a];omega,?_⟩) fun h2=>⟨by simp[a];omega,?_⟩) fun h1=>⟨by simp[a];omega,?_⟩
   ·rw[e]
    rw[if_pos (by rw[h1,decide_eq_true h2];rfl)]at b
    exact ih _ _ _ _ z y r (by simp[a]) (by simp;omega) b
   ·rw[e]
    rw[if_neg (by rw[h1,decide_eq_false h2];decide)]at b
    exact ih _ _ _ _ z y r (by simp[a]) (by simp;omega) b
   ·rw[e]
    rw[if_neg (by rw[h1];simp)]at b
    exact ih _ _ _ _ z y r (by simp[a]) (by simp;omega) b
  ·rw[RZ hd]at b
   subst b
   exact ZW (fun h1=>by rw[XN,if_pos h1];exact X9 Xm) fun h1=>Yc (fun h2=>by rw[XN,if_neg (by rw[h1];decide),if_pos h2];exact X9 Xm) fun h2=>Yc (fun h=>by rw[XN,if_neg (by rw[h1];decide),if_neg h2,if_pos (Or.inl (show o.length>20 by omega))];exact X9 Xm) fun B=>Yc (fun h=>by rw[XN,if_neg (by rw[h1];decide),if_neg h2,if_pos (Or.inr (Or.inl (show ex.length>60 by omega)))];exact X9 Xm) fun H=>Yc (fun h=>by rw[XN,if_neg (by rw[h1];decide),if_neg h2,if_pos (Or.inr (Or.inr (show ds.length>60 by omega)))];exact X9 Xm) fun E=>⟨by simp[u],by simp[a],by rw[XN,if_neg (by rw[h1];decide),if_neg h2,if_neg (by rintro(h|h|h);(have h:o.length>20:=h;omega);(have h:ex.length>60:=h;omega);(have h:ds.length>60:=h;omega))];exact X9 (a3g (by rw[V3 o u];exact Ud o rfl) j (by rw[V3 ds a];exact Ud ds rfl))⟩
  ·rw[BV hb]at b
   subst b
   exact ZW (fun h1=>by rw[XN,if_pos h1];exact X9 Xm) fun h1=>Yc (fun h2=>by rw[XN,if_neg (by rw[h1];decide),if_pos h2];exact X9 Xm) fun h2=>Yc (fun h=>by rw[XN,if_neg (by rw[h1];decide),if_neg h2,if_pos (Or.inl (show o.length>20 by omega))];exact X9 Xm) fun B=>Yc (fun h=>by rw[XN,if_neg (by rw[h1];decide),if_neg h2,if_pos (Or.inr (Or.inl (show ex.length>60 by omega)))];exact X9 Xm) fun H=>Yc (fun h=>by rw[XN,if_neg (by rw[h1];decide),if_neg h2,if_pos (Or.inr (Or.inr (show ds.length>60 by omega)))];exact X9 Xm) fun E=>⟨by simp[u],by simp[a],by rw[XN,if_neg (by rw[h1];decide),if_neg h2,if_neg (by rintro(h|h|h);(have h:o.length>20:=h;omega);(have h:ex.length>60:=h;omega);(have h:ds.length>60:=h;omega))];exact X9 (a3g (by rw[V3 o u];exact Ud o rfl) j (by rw[V3 ds a];exact Ud ds rfl))⟩
theorem f5l{s w:List UInt8}{k:Nat}{n:Bool}{xs:List PV}{ex:List Str}(a:Zd ex (.sl k n xs))(R:R3 Mdu Int Int): ∀ (f:Nat) (q:PS) (v:Int),Ze q=true->ZR q.l=true->q.l.length<q.i+f->R=XN ⟨w⟩ [] ex (Qf f q v []) ->
  At Xd 0 (Za Yy (Zd R)) YB 1 108 [(2,.ptr 0 0),(5,.ptr 1 0),(6,.pv (.int .i64 v))] [.obj (.box [.pv (.str w),.pv (.sl 0 true []),.pv (.sl k n xs),.pv (.sl 0 true [])]),.obj (Zj q)]:=by
 have hxl:=a1f a
 intro f q v e u hf b
 have hl:=Zv e
 obtain⟨f,rfl⟩ : ∃ m,f=m+1:=⟨f - 1,by omega⟩
 refine e7z s w q v k n xs (Yx (fun hb=>YV e (ZW (fun hd=>Xb e (c3l e u ?_)) fun hd=>TR e ?_)) fun hb=>TR e ?_)
 ·rw[RO hb hd]at b
  obtain⟨r,j,y,a4⟩:=Ps e u hd
  have g:q.defP.2.l.length<q.defP.2.i+f:=by rw[y];omega
  refine ZW (fun h1=>Yc (fun h2=> ?_) fun h2=> ?_) fun h1=> ?_
  ·rw[if_pos (by rw[h1,decide_eq_true h2];rfl)]at b
   exact d3n (s:=s) a R f _ _ [q.defP.1.1] 1 r j g rfl (by omega) b
  ·rw[if_neg (by rw[h1,decide_eq_false h2];decide)]at b
   exact d3n (s:=s) a R f _ _ [q.defP.1.1] 1 r j g rfl (by omega) b
  ·rw[if_neg (by rw[h1];simp)]at b
   exact d3n (s:=s) a R f _ _ [q.defP.1.1] 1 r j g rfl (by omega) b
 ·rw[RZ hd]at b
  subst b
  exact ZW (fun h1=>by rw[XN,if_pos h1];exact X9 Xm) fun h1=>Yc (fun h2=>by rw[XN,if_neg (by rw[h1];decide),if_pos h2];exact X9 Xm) fun h2=>Yc (fun h=>by rw[XN,if_neg (by rw[h1];decide),if_neg h2,if_pos (Or.inr (Or.inl (show ex.length>60 by omega)))];exact X9 Xm) fun z=>by rw[XN,if_neg (by rw[h1];decide),if_neg h2,if_neg (by rintro(h|h|h);exact absurd h (by decide);(have h:ex.length>60:=h;omega);exact absurd h (by show ¬ 0>60;decide))];exact X9 (a3g Zn a Zn)
 ·rw[BV hb]at b
  subst b
  exact ZW (fun h1=>by rw[XN,if_pos h1];exact X9 Xm) fun h1=>Yc (fun h2=>by rw[XN,if_neg (by rw[h1];decide),if_pos h2];exact X9 Xm) fun h2=>Yc (fun h=>by rw[XN,if_neg (by rw[h1];decide),if_neg h2,if_pos (Or.inr (Or.inl (show ex.length>60 by omega)))];exact X9 Xm) fun z=>by rw[XN,if_neg (by rw[h1];decide),if_neg h2,if_neg (by rintro(h|h|h);exact absurd h (by decide);(have h:ex.length>60:=h;omega);exact absurd h (by show ¬ 0>60;decide))];exact X9 (a3g Zn a Zn)
theorem f6m{s w:List UInt8}{k:Nat}{n:Bool}{xs:List PV}(o:List Str)(L:Nat)(j:L=o.length){ex:List Str}(a:Zd ex (.sl k n xs))(R:R3 Mdu Int Int): ∀ (f:Nat) (q:PS) (v:Int),Ze q=true->ZR q.l=true->q.l.length<q.i+f->R=XN ⟨w⟩ o ex (Qf f q v []) ->
  At Xd 0 (Za Yy (Zd R)) YB 1 108 [(2,.ptr 0 0),(5,.ptr 1 0),(6,.pv (.int .i64 v))] [.obj (.box [.pv (.str w),.row 2 L 0 L,.pv (.sl k n xs),.pv (.sl 0 true [])]),.obj (Zj q),.obj (.row false 9 1 (o.map enc))]:=by
 have hxl:=a1f a
 intro f q v e y hf b
 have hl:=Zv e
 obtain⟨f,rfl⟩ : ∃ m,f=m+1:=⟨f - 1,by omega⟩
 refine f2z s w q v k n xs o L (Yx (fun hb=>YV e (ZW (fun hd=>Xb e (c3l e y ?_)) fun hd=>TR e ?_)) fun hb=>TR e ?_)
 ·rw[RO hb hd]at b
  obtain⟨u,r,z,a4⟩:=Ps e y hd
  have g:q.defP.2.l.length<q.defP.2.i+f:=by rw[z];omega
  refine ZW (fun h1=>Yc (fun h2=> ?_) fun h2=> ?_) fun h1=> ?_
  ·rw[if_pos (by rw[h1,decide_eq_true h2];rfl)]at b
   exact e5v (s:=s) o L j a R f _ _ [q.defP.1.1] 1 u r g rfl (by omega) b
  ·rw[if_neg (by rw[h1,decide_eq_false h2];decide)]at b
   exact e5v (s:=s) o L j a R f _ _ [q.defP.1.1] 1 u r g rfl (by omega) b
  ·rw[if_neg (by rw[h1];simp)]at b
   exact e5v (s:=s) o L j a R f _ _ [q.defP.1.1] 1 u r g rfl (by omega) b
 ·rw[RZ hd]at b
  subst b
  exact ZW (fun h1=>by rw[XN,if_pos h1];exact X9 Xm) fun h1=>Yc (fun h2=>by rw[XN,if_neg (by rw[h1];decide),if_pos h2];exact X9 Xm) fun h2=>Yc (fun h=>by rw[XN,if_neg (by rw[h1];decide),if_neg h2,if_pos (Or.inl (show o.length>20 by omega))];exact X9 Xm) fun B=>Yc (fun h=>by rw[XN,if_neg (by rw[h1];decide),if_neg h2,if_pos (Or.inr (Or.inl (show ex.length>60 by omega)))];exact X9 Xm) fun A=>⟨by simp[j],by rw[XN,if_neg (by rw[h1];decide),if_neg h2,if_neg (by rintro(h|h|h);(have h:o.length>20:=h;omega);(have h:ex.length>60:=h;omega);exact absurd h (by show ¬ 0>60;decide))];exact X9 (a3g (by rw[V3 o j];exact Ud o rfl) a Zn)⟩
 ·rw[BV hb]at b
  subst b
  exact ZW (fun h1=>by rw[XN,if_pos h1];exact X9 Xm) fun h1=>Yc (fun h2=>by rw[XN,if_neg (by rw[h1];decide),if_pos h2];exact X9 Xm) fun h2=>Yc (fun h=>by rw[XN,if_neg (by rw[h1];decide),if_neg h2,if_pos (Or.inl (show o.length>20 by omega))];exact X9 Xm) fun B=>Yc (fun h=>by rw[XN,if_neg (by rw[h1];decide),if_neg h2,if_pos (Or.inr (Or.inl (show ex.length>60 by omega)))];exact X9 Xm) fun A=>⟨by simp[j],by rw[XN,if_neg (by rw[h1];decide),if_neg h2,if_neg (by rintro(h|h|h);(have h:o.length>20:=h;omega);(have h:ex.length>60:=h;omega);exact absurd h (by show ¬ 0>60;decide))];exact X9 (a3g (by rw[V3 o j];exact Ud o rfl) a Zn)⟩
theorem Fj{α:Type}{one:PS->α×PS}(a : ∀ s:PS,s.i<=s.l.length->Ge s (one s).2): ∀ (n:Nat) {s:PS} {o:List α},s.i<=s.l.length->(moreL one n s o).1.length+s.i<=o.length+(moreL one n s o).2.i
 | 0,s,o,_=>Nat.le_refl _
 | n+1,s,o,hi=>by
  rw[moreL]
  split
  ·exact Nat.le_refl _
  ·split
   ·have e:=Ge.step (Zk ‹_›)
    have b:=a _ e.hi
    have w:=Fj a n (o:=o++[(one s.step).1]) b.hi
    have e1:s.step.i=s.i+1:=rfl
    have e2:=b.le
    rw[List.length_append]at w
    simp only[List.length_cons,List.length_nil]at w
    omega
   ·exact Nat.le_refl _
theorem Ec{α:Type}{one:PS->α×PS}(b : ∀ s:PS,s.i<=s.l.length->Ge s (one s).2){s:PS}(hi:s.i<=s.l.length):(listL one s).1.length+s.i<=1+(listL one s).2.i:=by
 have a:=b _ hi
 have w:=Fj b (s.l.length+1) (o:=[(one s).1]) a.hi
 have e:=a.le
 simp only[List.length_cons,List.length_nil]at w
 unfold listL
 omega
theorem a7i{α:Type}{one:PS->α×PS}: ∀ (n:Nat) {s:PS} {o:List α},o≠[]->(moreL one n s o).1≠[]
 | 0,s,o,h=>h
 | n+1,s,o,h=>by
  rw[moreL]
  split
  ·exact h
  ·split
   ·exact a7i n (by simp)
   ·exact h
theorem e0a{α:Type}{one:PS->α×PS}{s:PS}:(listL one s).1≠[]:=a7i _ (by simp)
theorem e2g{f:Nat}{s:PS}{o:List Str}(h:s.next ⟨[105,109,112,111,114,116]⟩=true):impL (f+1) s o=impL f (listL PS.name s.step).2 (o++(listL PS.name s.step).1):=by rw[impL,if_pos h]
theorem EU{f:Nat}{s:PS}{o:List Str}(h:s.next ⟨[105,109,112,111,114,116]⟩=false):impL f s o=(o,s):=by
 cases f with
 | zero=>rfl
 | succ f=>rw[impL,if_neg (by rw[h];decide)]
theorem d4v{s:PS}(h:s.next ⟨[101,120,112,111,114,116]⟩=true):s.expo=listL PS.name s.step:=if_pos h
theorem d7j{s:PS}(h:s.next ⟨[101,120,112,111,114,116]⟩=false):s.expo=([],s):=if_neg (by rw[h];decide)
theorem g6d{s w:List UInt8}(W:Nat)(R:R3 Mdu Int Int): ∀ (f:Nat) (q:PS) (o:List Str) (L:Nat),Ze q=true->ZR q.l=true->q.l.length=W->q.l.length<q.i+f->L=o.length->L<=q.i->R=b6m W ⟨w⟩ (impL f q o) ->
  At Xd 0 (Za Yy (Zd R)) YB 0 108 [(2,.ptr 0 0),(5,.ptr 1 0)] [.obj (.box [.pv (.str w),.row 2 L 0 L,.pv (.sl 0 true []),.pv (.sl 0 true [])]),.obj (Zj q),.obj (.row false 9 1 (o.map enc))]:=by
 intro f
 induction f with
 | zero=>intro q o L b _ _ A;have:=Zv b;omega
 | succ f ih=>
  intro q o L b u y A r hLi k
  have hl:=Zv b
  refine e8k s w q o L (Yi b (fun h=>Yh rfl ?_) fun h=>Yj (by simp) (Yi b (fun h2=>Yh rfl ?_) fun h2=>Yj (by simp) ?_))
  ·rw[e2g h]at k
   have e:=Ge.step (Zk h)
   have a:=e.ok b
   have g:=Ge.list (one:=PS.name) (fun s h=>Ge.name h) e.hi
   have n1:=Ec (one:=PS.name) (fun s h=>Ge.name h) e.hi
   have e1:q.step.i=q.i+1:=rfl
   have e2:=g.le
   have z:=g.hi
   have j:(listL PS.name q.step).2.l=q.l:=by rw[g.l,e.l]
   rw[j]at z
   refine Pi a ⟨by rw[show(Enc.sz Str==1)=true from rfl,Bool.or_true],by simp[r];omega,?_⟩
   rw[<- List.map_append]
   exact ih _ _ _ (g.ok a) (by rw[j];exact u) (by rw[j];exact y) (by rw[j];omega) (by simp[r]) (by simp;omega) k
  ·rw[EU h]at k
   have e:=Ge.step (Zk h2)
   have a:=e.ok b
   have g:=Ge.list (one:=PS.name) (fun s h=>Ge.name h) e.hi
   have j:(listL PS.name q.step).2.l=q.l:=by rw[g.l,e.l]
   refine Pi a ?_
   refine f6m (s:=s) o L r (ex:=(listL PS.name q.step).1) (Zp rfl) R (W+1) _ (-1) (g.ok a) (by rw[j];exact u) (by rw[j];omega) ?_
   rw[k];unfold b6m;rw[d4v h2]
  ·rw[EU h]at k
   refine f6m (s:=s) o L r (ex:=[]) Zn R (W+1) _ (-1) b u (by omega) ?_
   rw[k];unfold b6m;rw[d7j h2]
theorem g5w{s w:List UInt8}(W:Nat)(R:R3 Mdu Int Int)(f:Nat)(q:PS)(k:Ze q=true)(r:ZR q.l=true)(y:q.l.length=W)(hf:q.l.length<q.i+(f+1))(g:R=b6m W ⟨w⟩ (impL (f+1) q [])):
  At Xd 0 (Za Yy (Zd R)) YB 0 108 [(2,.ptr 0 0),(5,.ptr 1 0)] [.obj (.box [.pv (.str w),.pv (.sl 0 true []),.pv (.sl 0 true []),.pv (.sl 0 true [])]),.obj (Zj q)]:=by
 have hl:=Zv k
 refine e6b s w q (Yi k (fun h=>Yh rfl ?_) fun h=>Yj (by simp) (Yi k (fun h2=>Yh rfl ?_) fun h2=>Yj (by simp) ?_))
 ·rw[e2g h]at g
  have b:=Ge.step (Zk h)
  have a:=b.ok k
  have e:=Ge.list (one:=PS.name) (fun s h=>Ge.name h) b.hi
  have n1:=Ec (one:=PS.name) (fun s h=>Ge.name h) b.hi
  have e1:q.step.i=q.i+1:=rfl
  have e2:=e.le
  have u:=e.hi
  have j:(listL PS.name q.step).2.l=q.l:=by rw[e.l,b.l]
  rw[j]at u
  have ne:= @e0a Str PS.name q.step
  refine Pi a ⟨by rw[show(Enc.sz Str==1)=true from rfl,Bool.or_true],Yj (by simpa using ne) ⟨by simp;omega,?_⟩⟩
  rw[List.nil_append]at g ⊢
  exact g6d (s:=s) W R f _ _ _ (e.ok a) (by rw[j];exact r) (by rw[j];exact y) (by rw[j];omega) (by simp) (by simp;omega) g
 ·rw[EU h]at g
  have b:=Ge.step (Zk h2)
  have a:=b.ok k
  have e:=Ge.list (one:=PS.name) (fun s h=>Ge.name h) b.hi
  have j:(listL PS.name q.step).2.l=q.l:=by rw[e.l,b.l]
  refine Pi a ?_
  refine f5l (s:=s) (ex:=(listL PS.name q.step).1) (Zp rfl) R (W+1) _ (-1) (e.ok a) (by rw[j];exact r) (by rw[j];omega) ?_
  rw[g];unfold b6m;rw[d4v h2]
 ·rw[EU h]at g
  refine f5l (s:=s) (ex:=[]) Zn R (W+1) _ (-1) k r (by omega) ?_
  rw[g];unfold b6m;rw[d7j h2]
theorem f2g: ∀ x:Str×Unit,true=true->Zi Xd 0 (Za Yy (Zd (Bi x.1))) YB [] (Ye g0a (encL x)):=by
 rintro⟨⟨s⟩,⟨⟩⟩ hs
 have hb:=d7e s
 have i:ZR (bgS s).l=true:=(a4p ⟨s⟩).1
 have g:=Zv hb
 show Zi Xd 0 (Za Yy (Zd (Bi ⟨s⟩))) YB [] _
 refine g8x s ⟨rfl,b7m (fun h=> ?_) fun h=> ?_⟩
 ·unfold Bi;rw[if_pos h];exact X9 Xm
 rw[e9b h]
 have a:=Ge.need (w:=⟨[109,111,100,117,108,101]⟩) g.2
 have b:=a.ok hb
 have e:=Ge.name a.hi
 have K:=a.trans e
 refine ZL hb (KS b ?_)
 exact g5w (s:=s) (bgS s).l.length _ (bgS s).l.length _ (K.ok hb) (by rw[K.l];exact i) (by rw[K.l]) (by rw[K.l];omega) rfl
set_option maxRecDepth 100000
noncomputable def e2a:IC:=XG Proofs.Tryz.f137
def e2y:List IRes:=[(.cell true 2 2)]
abbrev g0b:Nat:=7
noncomputable def f5j:ZM:=YN []
theorem g5b{G:PV->Prop}(s:List UInt8)(h:G ((.agg [(.int .i64 0),(.sl 2 false [(.agg [(.str s),(.int .i64 1)])])]))):Zi f5j 0 (Za e2y G) e2a [] (Ye 7 [.str s]):=Zi.tp (.lit (.lit (.nil))) h
noncomputable def d3l:IC:=XG Proofs.Tryz.f98
def d7c:List IRes:=[(.tmp 2),(.tmp 3)]
abbrev g4i:Nat:=41
noncomputable def f6o:ZM:=YN [f5a,(123,.pure (preT (fun x:Str×Unit=>decide (x.1.s.length<=281474976710656))) (Zl (fun x:Str×Unit=>YA x.1)))]
def D8:PV:=.tup [.int .i64 0,.bool false]
def d7r(e:List UInt8)(Zm:PV->Prop):Prop:=(Go.Pl.preT (fun(b:Str×Unit)=>decide (List.length (Str.s b.1)<=281474976710656)) [.str e])=true∧(∃ a:Int×Er,(AV.pv (Zl (fun(b:Str×Unit)=>YA b.1) [.str e])=AV.pv (enc a))∧((TB (enc a.2)&&Prod.fst (true,PV.bool !Ui (enc a.2)))=true∧(if (!Ui (enc a.2))=true then Zm (D8)else(if (decide (a.1>2147483648))=true then Zm (D8)else(Zm (.tup [.int .i64 a.1,.bool true]))))))
def g5s{G:PV->Prop}(s:List UInt8):=Vw (if (s==[])=true then G (D8)else(if (decide ((↑(List.length s):Int)>10))=true then G (D8)else((Go.Pl.preT Mx (Sk s))=true∧(∃ a:Str,(AV.pv (Zl PE (Sk s))=AV.pv (enc a))∧(if (!Str.s a==s)=true then G (D8)else((Kb s)=true∧(if ((↑(K7 s):Int)==48)=true then if (decide ((↑(List.length s):Int)>1))=true then G (D8)else(d7r s G)else(d7r s G)))))))) G (dm [dv Str,dv (Int×Er)] 126 0x1422202220044161222222000014222022200441610001422222201f42221202222220074222251202222222222200c42222022222222222222201042) f6o d7c d3l (Ye 41 [.str s]) (by delta D8 Mx Sk PE Kb K7 d7r;exact rfl)
def b8p:IC:=(U6 [Yk 0 (.alloc (.agg [(.str []),(.str []),(.str []),(.str []),(.str []),(.str []),(.str []),(.str []),(.str []),(.str []),(.str []),(.str []),(.str []),(.str []),(.str []),(.str []),(.str []),(.str []),(.str []),(.str []),(.str []),(.str []),(.str []),(.str []),(.str []),(.str []),(.str []),(.str [])])) 0] (U6 [Yk 1 (.build [(.str []),(.str []),(.str []),(.str []),(.str []),(.str []),(.str []),(.str []),(.str []),(.str []),(.str []),(.str []),(.str []),(.str []),(.str []),(.str []),(.str []),(.str []),(.str []),(.str []),(.str []),(.str []),(.str []),(.str []),(.str []),(.str []),(.str []),(.str [])] [(0,(1,(.c (.str [46,46])))),(1,(1,(.c (.str [61,61])))),(2,(1,(.c (.str [33,61])))),(3,(1,(.c (.str [60,61])))),(4,(1,(.c (.str [62,61])))),(5,(1,(.c (.str [45,62])))),(6,(1,(.c (.str [38,38])))),(7,(1,(.c (.str [124,124])))),(8,(1,(.c (.str [40])))),(9,(1,(.c (.str [41])))),(10,(1,(.c (.str [91])))),(11,(1,(.c (.str [93])))),(12,(1,(.c (.str [123])))),(13,(1,(.c (.str [125])))),(14,(1,(.c (.str [44])))),(15,(1,(.c (.str [58])))),(16,(1,(.c (.str [46])))),(17,(1,(.c (.str [64])))),(18,(1,(.c (.str [35])))),(19,(1,(.c (.str [61])))),(20,(1,(.c (.str [60])))),(21,(1,(.c (.str [62])))),(22,(1,(.c (.str [43])))),(23,(1,(.c (.str [45])))),(24,(1,(.c (.str [42])))),(25,(1,(.c (.str [47])))),(26,(1,(.c (.str [37])))),(27,(1,(.c (.str [33]))))]) 0,o'' (.store 28 (.t 0) (.t 1)) 0] .ret))
def b5c:List IRes:=[(.cell true 28 0)]
abbrev g2p:Nat:=2
noncomputable def d8y:ZM:=YN []
theorem g4z{G:PV->Prop}(h:G ((.agg [(.str [(46:UInt8),(46:UInt8)]),(.str [(61:UInt8),(61:UInt8)]),(.str [(33:UInt8),(61:UInt8)]),(.str [(60:UInt8),(61:UInt8)]),(.str [(62:UInt8),(61:UInt8)]),(.str [(45:UInt8),(62:UInt8)]),(.str [(38:UInt8),(38:UInt8)]),(.str [(124:UInt8),(124:UInt8)]),(.str [(40:UInt8)]),(.str [(41:UInt8)]),(.str [(91:UInt8)]),(.str [(93:UInt8)]),(.str [(123:UInt8)]),(.str [(125:UInt8)]),(.str [(44:UInt8)]),(.str [(58:UInt8)]),(.str [(46:UInt8)]),(.str [(64:UInt8)]),(.str [(35:UInt8)]),(.str [(61:UInt8)]),(.str [(60:UInt8)]),(.str [(62:UInt8)]),(.str [(43:UInt8)]),(.str [(45:UInt8)]),(.str [(42:UInt8)]),(.str [(47:UInt8)]),(.str [(37:UInt8)]),(.str [(33:UInt8)])]))):Zi d8y 0 (Za b5c G) b8p [] (Ye 2 []):=Zi.tp (.nil) h
theorem f3b: ∀ x:Str×Unit,true=true->Zi f5j 0 (Za e2y (Zd (Rc x.1))) e2a [] (Ye g0b (encL x)):=by
 rintro⟨⟨s⟩,⟨⟩⟩ _
 exact g5b s (Zp (x:=Rc ⟨s⟩) rfl)
theorem e9a(ps:List PV)(h:Rw ps=true):Zi d8y 0 (Za b5c (fun p=>p=a0c ps)) b8p [] (Ye g2p ps):=by
 unfold Rw at h
 split at h
 ·exact g4z rfl
 ·cases h
theorem e2l{d:List UInt8}(i:d≠[])(hd:d.all digB=true)(h:d.length<=10):YA ⟨d⟩=(MR d,⟨false⟩):=by
 cases d with
 | nil=>exact absurd rfl i
 | cons c r=>
  have h1:=hd
  simp only[List.all_cons,Bool.and_eq_true,Ve]at h1
  have hv:=a2o (c::r) 0 hd
  have hp:10 ^ (c::r).length<=10 ^ 10:=Nat.pow_le_pow_right (by omega) h
  have a:=Sl (c::r) 0 hd (by omega)
  have b:Lib.atoiAll (c::r) = .ok (Jd 0 (c::r):Int):=by
   have j : ¬ (c.toNat=43∨c.toNat=45):=by omega
   have g : ¬ c.toNat=45:=by omega
   simp only[Lib.atoiAll,if_neg j,Lib.parseMag,if_neg (show ¬ (c::r=[]) by simp),a]
   rw[if_neg (by omega),if_neg (fun e=>g e.1),if_neg g]
  simp only[YA,b]
  rw[e0r _ _ rfl hd]
theorem Ot{p:UInt8->Bool}: ∀ {s:List UInt8},s.takeWhile p=s->s.all p=true
 | [],_=>rfl
 | c::s,h=>by
  rw[List.takeWhile_cons]at h
  split at h
  ·rename_i q
   rw[List.all_cons,q,Ot (List.cons.inj h).2];rfl
  ·cases h
theorem Fp{p:UInt8->Bool}: ∀ {s:List UInt8},s.all p=true->s.takeWhile p=s
 | [],_=>rfl
 | c::s,h=>by
  rw[List.all_cons,Bool.and_eq_true]at h
  rw[List.takeWhile_cons,if_pos h.1,Fp h.2]
theorem F3{n:Int}{b:Bool}:Zd ((n,b):Int×Bool) (.tup [.int .i64 n,.bool b]):=⟨rfl,rfl⟩
theorem f0p: ∀ x:Str×Unit,decide (x.1.s.length<=1048576)=true->Zi f6o 0 (Za d7c (Zd (Ql x.1))) d3l [] (Ye g4i (encL x)):=by
 rintro⟨⟨s⟩,⟨⟩⟩ hs
 have hw:s.length<=1048576:=of_decide_eq_true hs
 have i:Ll s=false->Ql ⟨s⟩=(0,false):=fun h=>by unfold Ql;rw[h];rfl
 refine g5s s (Yd (fun a=> ?_) fun a=>Yc (fun h1=> ?_) fun h1=>⟨Zh ((⟨s⟩:Str),false,()) rfl hs,Zc ((⟨s⟩:Str),false,()) rfl (Yx (fun h2=> ?_) fun h2=> ?_)⟩)
 ·have a:s=[]:=a
  subst a
  exact F3
 ·rw[show Ql ((⟨s⟩:Str),()).1=_ from i (by unfold Ll;rw[decide_eq_false (show ¬ s.length<=10 by omega)];simp)]
  exact F3
 ·have h2:((XX ⟨s⟩ false).s==s)=false:=h2
  have hd:s.all digB=false:=by
   cases e:s.all digB with
   | false=>rfl
   | true=>
    have q:(XX ⟨s⟩ false).s=s:=Fp (p:=fun c=>digB c||(false&&lowB c)) (by
     rw[show(fun c=>digB c||(false&&lowB c))=digB from funext fun c=>by simp]
     exact e)
    rw[q]at h2
    simp at h2
  rw[show Ql ((⟨s⟩:Str),()).1=_ from i (by unfold Ll;rw[hd];simp)]
  exact F3
 ·have a:s≠[]:=a
  have h2:((XX ⟨s⟩ false).s==s)=true:=h2
  have hd:s.all digB=true:=by
   have h3:(XX ⟨s⟩ false).s=s:=by simpa using h2
   have:=Ot (p:=fun c=>digB c||(false&&lowB c)) (s:=s) h3
   rw[show(fun c=>digB c||(false&&lowB c))=digB from funext fun c=>by simp]at this
   exact this
  have j:s.length<=10:=by omega
  have hp:0<s.length:=List.length_pos_iff.2 a
  have l:s.isEmpty=false:=by cases s with|nil=>exact absurd rfl a|cons _ _=>rfl
  have ha:=e2l a hd j
  have last:(decide (s.head? = some 48)&&decide (1<s.length))=false->preT (fun(x:Str×Unit)=>decide (List.length (Str.s (Prod.fst x))<=281474976710656)) [(.str s)]=true∧ ∃ b:Int×Er,AV.pv (Zl (fun(x:Str×Unit)=>YA (Prod.fst x)) [(.str s)])=AV.pv (enc b)∧((TB (enc (Prod.snd b))&&Prod.fst (true,PV.bool !Ui (enc (Prod.snd b))))=true∧(if (!Ui (enc (Prod.snd b)))=true then Zd (Ql ⟨s⟩) (.tup [.int .i64 0,.bool false])else if decide (Prod.fst b>2147483648)=true then Zd (Ql ⟨s⟩) (.tup [.int .i64 0,.bool false])else Zd (Ql ⟨s⟩) (.tup [.int .i64 (Prod.fst b),.bool true]))):=fun g=>by
   refine⟨Zh ((⟨s⟩:Str),()) rfl (decide_eq_true (by show s.length<=281474976710656;omega)),Zc ((⟨s⟩:Str),()) rfl ?_⟩
   rw[show YA ((⟨s⟩:Str),()).1=(MR s,⟨false⟩)from ha]
   refine⟨rfl,Yj (show ¬ (!Ui (enc (⟨false⟩:Er)))=true by decide) (Yc (fun h3=> ?_) fun h3=> ?_)⟩
   ·rw[i (by unfold Ll;rw[decide_eq_false (show ¬ MR s<=2147483648 by omega),Bool.and_false])]
    exact F3
   ·rw[show Ql ⟨s⟩=(MR s,true) by
     unfold Ql Ll
     rw[l,decide_eq_true j,hd,g,decide_eq_true (show MR s<=2147483648 by omega)]
     rfl]
    exact F3
  refine⟨by simp;omega,Yd (fun h3=>Yc (fun k=> ?_) fun k=>last (by rw[decide_eq_false (show ¬ 1<s.length by omega),Bool.and_false])) fun h3=>last ?_⟩
  ·have g:s.head? = some 48:=by
    cases s with
    | nil=>exact absurd rfl a
    | cons c r=>
     have h3:(c.toNat:Int)=48:=h3
     have:c=48:=UInt8.toNat_inj.1 (by show c.toNat=48;omega)
     rw[this];rfl
   rw[show Ql ((⟨s⟩:Str),()).1=_ from i (by unfold Ll;rw[decide_eq_true g,decide_eq_true (show 1<s.length by omega)];simp)]
   exact F3
  ·have g:s.head? ≠ some 48:=by
    cases s with
    | nil=>exact absurd rfl a
    | cons c r=>
     have h3:(c.toNat:Int)≠48:=h3
     intro e
     have e:c=48:=by simpa using e
     rw[e]at h3
     exact h3 rfl
   rw[decide_eq_false g];rfl
theorem g0c{r:Str}{d:List Lin}(h:b2h r d=true):spW ⟨r,d⟩=true:=by
 unfold b2h at h
 unfold spW
 simp only[Bool.and_eq_true]at h ⊢
 exact⟨⟨h.1,h.2.1⟩,h.2.2⟩
structure TyBdF (t:TyS):Prop where
 elem:t.elem.s.length<=1048576
 sp:spW ⟨t.row,t.dims⟩=true
theorem e9t{t:TyS}(h:Rk t=true):TyBdF t:=by
 unfold Rk at h
 simp only[Bool.and_eq_true,decide_eq_true_eq]at h
 exact⟨h.1,g0c h.2⟩
theorem a8f: ∀ x:TyS×Unit,Rk x.1=true->Zi b0l 0 (Za O6 (Zd (Du x.1))) OG [] (Ye c7e (encL x)):=by
 rintro⟨t,⟨⟩⟩ h
 have a:=e9t h
 have y:Ox t.elem.s=true->shV t.row t.dims=Du t:=fun e=>by unfold Du;rw[e];rfl
 refine d1p t (Yd (fun h1=>⟨Zh (⟨t.row,t.dims⟩,()) rfl a.sp,Zc (⟨t.row,t.dims⟩,()) rfl (Zu (y ?_))⟩) fun h1=>Yd (fun h2=>⟨Zh (⟨t.row,t.dims⟩,()) rfl a.sp,Zc (⟨t.row,t.dims⟩,()) rfl (Zu (y ?_))⟩) fun h2=>⟨Zh (t.elem,()) rfl (decide_eq_true a.elem),Zc (t.elem,()) rfl (ZW (fun h3=>⟨Zh (⟨t.row,t.dims⟩,()) rfl a.sp,Zc (⟨t.row,t.dims⟩,()) rfl (Zu (y ?_))⟩) fun h3=>Zu ?_)⟩)
 ·unfold Ox;rw[show t.elem.s=X3 from h1];rfl
 ·unfold Ox;rw[show t.elem.s=YR from h2];rfl
 ·unfold Ox;rw[show evB t.elem.s=true from h3,Bool.or_true]
 ·have h3:evB t.elem.s=false:=h3
  unfold Du Ox
  rw[h3,decide_eq_false (show ¬ t.elem.s=X3 from h1),decide_eq_false (show ¬ t.elem.s=YR from h2)];rfl
def RS.tok(s:RS)(k:Nat):Tok:=s.l.getD (s.i+k) ⟨0,⟨[]⟩,0,0⟩
section
section
variable {N:Nat} {ex:RS->Tm×RS}
end
end
end Go.Pl
namespace Go.Pl
open Go.RowKit
section
section
variable {o:Int} {s:PS}
end
section
variable {z:Int} {s:PS} {r:RS}
variable {tb:Bool}
end
section
variable {α β α' β':Type} {S R:α->β->Prop} {S' R':α'->β'->Prop} {K:Int->PS->Prop} {z:Int} {tb:Bool}
end
section
variable {α:Type}
end
end
open Enc (enc dec is)
open EncL (encL decL isL)
section
section
variable {ex:RS->Tm×RS} {s:RS} (h1:s.kind 3=false)
include h1
variable (h2:s.is ⟨[116,114,117,101]⟩=false)
include h2
variable (h3:s.is ⟨[102,97,108,115,101]⟩=false)
include h3
variable (h4:s.kind 1=false)
include h4
variable (h5:s.is ⟨[40]⟩=false)
include h5
variable (h6:s.is ⟨[91]⟩=false)
include h6
variable (h7:s.is ⟨[35]⟩=false)
include h7
variable (h8:s.is ⟨[115,105,122,101]⟩=false)
include h8
end
end
end Go.Pl
namespace Go.Pl
open Go.RowKit
section
section
variable {α:Type} {one one':PS->α×PS} {two:RS->α×RS} {K:Int->PS->Prop}
end
end
section
section
variable {ex:PS->Tm×PS} {ex':RS->Tm×RS}
end
section
variable {ex:PS->Tm×PS} {ex':RS->Tm×RS}
end
section
variable {un:PS->(Tm×Int)×PS} {un':RS->Tm×RS}
end
end
open Enc (enc dec is)
open EncL (encL decL isL)
theorem d9g{args:List AV}{os:List AObj}(h:Ap args os=true): ∃ s:List UInt8,args=[.pv (.str s)]∧os=[]:=by
 unfold Ap at h
 split at h
 ·exact⟨_,rfl,rfl⟩
 ·cases h
theorem e9h: ∀ args os,Ap args os=true->Zi c2q os.length (Yg os.length a3q (fun r=>r=a0w args os)) a4s [] (Z8 e3z args os):=fun args os h=>by
 obtain⟨s,rfl,rfl⟩:=d9g h
 exact f1k s
end Go.Pl
namespace Go.Pl
open Go.RowKit
section
def OL(l:List Tok):Prop:=l.Pairwise (fun a b=>a.ln<=b.ln)∧ ∀ t∈l,1<=t.ln∧0<=t.o
theorem OL.nil:OL []:=⟨.nil,fun t h=>by cases h⟩
theorem c5c: ∀ (f:Nat) (s:List UInt8) (i:Nat) (ln:Int) (o:List Tok),1<=ln->OL o->(∀ t∈o,t.ln<=ln)->OL (NK f s i ln o).a
 | 0,s,i,ln,o,h1,h2,h3=>h2
 | f+1,s,i,ln,o,h1,h2,h3=>by
  rw[NK]
  generalize he:ln+((Lib.countByte ((s.drop i).take (J3 ⟨s.drop i⟩).toNat) 10:Nat):Int)=ln'
  have hge:ln<=ln':=by omega
  split
  ·exact h2
  ·split
   ·exact OL.nil
   ·split
    ·exact OL.nil
    ·refine c5c f s _ ln' _ (by omega) ⟨?_,?_⟩ ?_
     ·refine List.pairwise_append.2 ⟨h2.1,List.pairwise_singleton _ _,fun a ha b hb=> ?_⟩
      rw[List.mem_singleton]at hb
      subst hb
      have:=h3 a ha
      show a.ln<=ln'
      omega
     ·intro t ht
      rcases List.mem_append.1 ht with ht|ht
      ·exact h2.2 t ht
      ·rw[List.mem_singleton]at ht
       subst ht
       exact⟨show 1<=ln' by omega,Int.natCast_nonneg _⟩
     ·intro t ht
      rcases List.mem_append.1 ht with ht|ht
      ·have:=h3 t ht;omega
      ·rw[List.mem_singleton]at ht
       subst ht
       exact Int.le_refl _
theorem e9c(s:Str):OL (KJ s).a:=by
 unfold KJ
 split
 ·exact OL.nil
 ·exact c5c _ _ _ _ _ (Int.le_refl _) OL.nil (fun t h=>by cases h)
theorem e5d{s t:PS}(h:OL s.l)(a:t.l=s.l)(le:s.i<=t.i)(hi:t.i<t.l.length):(s.peek 0).ln<=(t.peek 0).ln:=by
 have hs:s.i+0<s.l.length:=by rw[a]at hi;omega
 have ht:t.i+0<t.l.length:=hi
 rw[Da hs,Da ht]
 have e:t.l[t.i+0]=s.l[t.i+0]'(by rw[a]at ht;exact ht):=by simp only[a]
 rw[e]
 rcases Nat.eq_or_lt_of_le le with q|q
 ·simp only[q];exact Int.le_refl _
 ·exact List.pairwise_iff_getElem.1 h.1 _ _ _ _ (by omega)
theorem f2e{s t:PS}(h:OL s.l)(k:Ge s t)(hi:t.i<t.l.length):(s.peek 0).ln<=(t.peek 0).ln:=e5d h k.l k.le hi
theorem f4j{s:PS}(h:OL s.l)(hi:s.i<s.l.length):1<=(s.peek 0).ln∧0<=(s.peek 0).o:=by
 have hi:s.i+0<s.l.length:=hi
 rw[Da hi]
 exact h.2 _ (List.getElem_mem _)
def LX(N:Nat)(ex:PS->Tm×PS):Prop:= ∀ s,ZR s.l=true->OL s.l->Wz N s->s.i<=s.l.length->(ex s).2.bad=false->(s.peek 0).ln<=(ex s).1.nd.line
def LU(N:Nat)(un:PS->(Tm×Int)×PS):Prop:= ∀ s,ZR s.l=true->OL s.l->Wz N s->s.i<=s.l.length->(un s).2.bad=false->(s.peek 0).ln<=(un s).1.1.nd.line∧(un s).1.2=(s.peek 0).ln
section
variable {N:Nat} {ex:PS->Tm×PS}
theorem WX.lt(e:WX N ex)(b:Ff N ex){s:PS}(g:ZR s.l=true)(a:Wz N s)(hi:s.i<=s.l.length)(h:(ex s).2.bad=false):s.i<s.l.length:=by
 have w:=e s g a hi h
 have p:=c5k (ex s).1
 have k:=b s a hi
 have j:=k.hi
 rw[k.l]at j
 omega
theorem g1a(u:Ff N ex)(B:WX N ex)(C:LX N ex){s:PS}(k:ZR s.l=true)(hu:OL s.l)(z:Wz (N+1) s)(hi:s.i<=s.l.length)(h:(Xy ex s).2.bad=false):(s.peek 0).ln<=(Xy ex s).1.nd.line:=by
 have r : ∀ (n:Nd) (ks:List Tm),n.line=(s.peek 0).ln->(s.peek 0).ln<=(Tm.mk n ks).nd.line:=fun n ks e=>by show _<=n.line;rw[e];exact Int.le_refl _
 unfold Xy at h ⊢
 dsimp only at h ⊢
 split at h
 ·rename_i q;rw[if_pos q];exact r _ _ rfl
 rename_i q;rw[if_neg q]
 split at h
 ·rename_i q;rw[if_pos q]
  unfold Wl
  split
  ·exact r _ _ rfl
  ·exact r _ _ rfl
 rename_i q;rw[if_neg q]
 split at h
 ·rename_i q;rw[if_pos q];exact r _ _ rfl
 rename_i q;rw[if_neg q]
 split at h
 ·rename_i q;rw[if_pos q];exact r _ _ rfl
 rename_i q;rw[if_neg q]
 split at h
 ·rename_i q;rw[if_pos q]
  have a:=Zk q
  have g:=Ge.step a
  have j:=z.step a
  have A:=u _ j g.hi
  have y:=Ge.need (w:=⟨[41]⟩) A.hi
  have b:=y.good h
  have lt:=B.lt u (s:=s.step) k j g.hi b
  exact Int.le_trans (f2e hu g lt) (C s.step k hu j g.hi b)
 rename_i q;rw[if_neg q]
 split at h
 ·rename_i q;rw[if_pos q];exact r _ _ rfl
 rename_i q;rw[if_neg q]
 split at h
 ·rename_i q;rw[if_pos q];exact r _ _ rfl
 rename_i q;rw[if_neg q]
 split at h
 ·rename_i q;rw[if_pos q];exact r _ _ rfl
 rename_i q;rw[if_neg q]
 split at h
 ·rename_i q;rw[if_pos q];exact r _ _ rfl
 rename_i q;rw[if_neg q]
 split at h
 ·rename_i q;rw[if_pos q];exact r _ _ rfl
 rename_i q;rw[if_neg q]
 exact r _ _ rfl
theorem g5h(b:Ff N ex)(e:WX N ex)(a:LX N ex){un:PS->(Tm×Int)×PS}{s:PS}(g:ZR s.l=true)(hu:OL s.l)(j:Wz (N+1) s)(hi:s.i<=s.l.length)(h:(JN ex un s).2.bad=false):(s.peek 0).ln<=(JN ex un s).1.1.nd.line∧(JN ex un s).1.2=(s.peek 0).ln:=by
 unfold JN at h ⊢
 dsimp only at h ⊢
 split at h
 ·rename_i q;rw[if_pos q];exact⟨Int.le_refl _,rfl⟩
 rename_i q;rw[if_neg q]
 split at h
 ·rename_i q;rw[if_pos q];exact⟨Int.le_refl _,rfl⟩
 rename_i q;rw[if_neg q]
 exact⟨g1a b e a g hu j hi h,rfl⟩
theorem a7y{fr:PS->(Tm×Int)×PS}{lev ln a:Int}(ha:a<=ln): ∀ (n:Nat) {s:PS} {l:Tm},a<=l.nd.line->a<=(opLoop fr lev ln n s l).1.1.nd.line∧(opLoop fr lev ln n s l).1.2=ln
 | 0,s,l,h=>⟨h,rfl⟩
 | n+1,s,l,h=>by
  rw[opLoop]
  split
  ·exact⟨h,rfl⟩
  ·split
   ·exact⟨h,rfl⟩
   ·split
    ·exact⟨ha,rfl⟩
    ·exact a7y ha n (l:=.mk (Bg 6 ln s.oper.1.1) [l,(fr s.step).1.1]) ha
theorem d1n{un:PS->(Tm×Int)×PS}(hu:GeU (N+1) un)(g:LU (N+1) un): ∀ d:Nat,d<=5->LU (N+1) (YM un d)
 | 0,_=>g
 | d+1,hd=>fun s u q e hi h=>by
  have k:=Ge.from hu d (by omega)
  have i:=k s e hi
  have r:=Ge.opLoop (ln:=(YM un d s).1.2) (lev:=5 - (d:Int)) (by omega) k (s.l.length+1) (l:=(YM un d s).1.1) (e.ge i) i.hi
  rw[YM]at h ⊢
  have b:=d1n hu g d (by omega) s u q e hi (r.good h)
  have j:=a7y (fr:=YM un d) (lev:=5 - (d:Int)) (ln:=(YM un d s).1.2) (a:=(s.peek 0).ln) (by rw[b.2];exact Int.le_refl _) (s.l.length+1) (s:=(YM un d s).2) (l:=(YM un d s).1.1) b.1
  exact⟨j.1,j.2.trans b.2⟩
theorem g5p{un:PS->(Tm×Int)×PS}(hu:GeU (N+1) un)(a:LU (N+1) un){s:PS}(e:ZR s.l=true)(b:OL s.l)(g:Wz (N+1) s)(hi:s.i<=s.l.length)(h:(exB ex un s).2.bad=false):(s.peek 0).ln<=(exB ex un s).1.nd.line:=by
 unfold exB at h ⊢
 dsimp only at h ⊢
 split at h
 ·rename_i q;rw[if_pos q];exact Int.le_refl _
 ·rename_i q;rw[if_neg q]
  exact(d1n hu a 5 (by omega) s e b g hi h).1
end
theorem e5u: ∀ N,LX N (Z0 N)∧LU N (Kj N)
 | 0=>⟨fun t _ _ a=>by unfold Wz at a;omega,fun t _ _ a=>by unfold Wz at a;omega⟩
 | N+1=>by
  obtain⟨j,hU⟩:=e5u N
  obtain⟨l,hu⟩:=UM N
  have k:=(a4e N).1
  have i:=(UM (N+1)).2
  have b:LU (N+1) (Kj (N+1)):=fun t g e a hi h=>by
   rw[Ba]at h ⊢
   exact g5h l k j g e a hi h
  exact⟨fun t g e a hi h=>by
   rw[JF]at h ⊢
   exact g5p i b g e a hi h,b⟩
theorem g2o{s:PS}(hs:Ze s=true)(b:ZR s.l=true)(e:OL s.l)(h:s.expr.2.bad=false):s.i<s.l.length∧(s.peek 0).ln<=s.expr.1.nd.line:=by
 have h1:=Zv hs
 have a:Wz 4001 s:=by unfold Wz;omega
 exact⟨(a4e 4001).1.lt (UM 4001).1 b a h1.2 h,(e5u 4001).1 s b e a h1.2 h⟩
end
def NS(s:PS):Prop:=s.bad=false∧s.big=false
theorem Ge.clean{s t:PS}(h:Ge s t)(k:NS t):NS s:=by
 refine⟨h.good k.1,?_⟩
 cases e:s.big with
 | true=>have:=h.big e;rw[k.2]at this;cases this
 | false=>rfl
structure St0 (s:PS):Prop where
 ok:Ze s=true
 lx:ZR s.l=true
 up:OL s.l
theorem St0.ge{s t:PS}(h:St0 s)(k:Ge s t):St0 t:=⟨k.ok h.ok,by rw[k.l];exact h.lx,by rw[k.l];exact h.up⟩
theorem St0.hi{s:PS}(h:St0 s):s.i<=s.l.length:=(Zv h.ok).2
theorem a4m{s:PS}(a:ZR s.l=true)(h:s.name.2.bad=false):nameI s.name.1.s=true:=by
 unfold PS.name at h ⊢
 split at h
 ·rename_i h1
  rw[if_pos h1]
  have h2:=a6u a (X4 (s:=s) (by omega))
  unfold b7h at h2
  simp only[Bool.and_eq_true,Bool.or_eq_true,decide_eq_true_eq]at h2
  rcases h2.1 with h3|h3
  ·exact absurd h1 h3
  ·exact h3
 ·cases h
def PmQ(p:Pm):Prop:=nameI p.name.s=true∧(p.given=true->Du p.ty=true)∧Rk p.ty=true
theorem c1b{s:PS}(h:St0 s)(k:NS s.param.2):PmQ s.param.1:=by
 unfold PS.param at k ⊢
 split at k
 ·rename_i q;rw[if_pos q]
  have b:=Ge.name h.hi
  have a:=Ge.step (Zk q)
  have g:=Ge.typ (s:=s.name.2.step) a.hi
  have c:=k.2
  refine⟨a4m h.lx ((a.trans g).good k.1),fun _=> ?_,b9k (a.ok (b.ok h.ok))⟩
  have c:(s.name.2.step.shape0.2.elem.2.big || !(Du s.name.2.step.typT))=false:=c
  show Du s.name.2.step.typT=true
  cases e:Du s.name.2.step.typT with
  | true=>rfl
  | false=>rw[e]at c;simp at c
 ·rename_i q;rw[if_neg q]
  exact⟨a4m h.lx k.1,(fun e=>by cases e),rfl⟩
theorem c1q{α:Type}{one:PS->α×PS}{Q:α->Prop}(g : ∀ s,St0 s->Ge s (one s).2)(h1 : ∀ s,St0 s->NS (one s).2->Q (one s).1): ∀ (n:Nat) {s:PS} {o:List α},St0 s->(∀ x∈o,Q x)->NS (moreL one n s o).2-> ∀ x∈(moreL one n s o).1,Q x
 | 0,s,o,hs,ho,hc=>ho
 | n+1,s,o,hs,ho,hc=>by
  rw[moreL]at hc ⊢
  split at hc
  ·rename_i q;rw[if_pos q];exact ho
  ·rename_i q;rw[if_neg q]
   split at hc
   ·rename_i e;rw[if_pos e]
    have j:=Ge.step (Zk e)
    have b:=hs.ge j
    have i:=g _ b
    have l:Ge (one s.step).2 (moreL one n (one s.step).2 (o++[(one s.step).1])).2:=Ge.moreL (B:=fun s=>St0 s) (fun _ _ h k=>h.ge k) (fun s h _=>g s h) n (b.ge i) i.hi
    refine c1q g h1 n (b.ge i) ?_ hc
    intro x a
    rcases List.mem_append.1 a with a|a
    ·exact ho x a
    ·rw[List.mem_singleton]at a
     subst a
     exact h1 _ b (l.clean hc)
   ·rename_i e;rw[if_neg e];exact ho
theorem g6z{s:PS}(h:St0 s)(k:NS s.dfP.2): ∀ p∈s.dfP.1,PmQ p:=by
 unfold PS.dfP at k ⊢
 split at k
 ·rename_i q;rw[if_pos q];exact fun p b=>by cases b
 ·rename_i q;rw[if_neg q]
  split at k
  ·rename_i g;rw[if_pos g];exact fun p b=>by cases b
  ·rename_i g;rw[if_neg g]
   have e : ∀ s:PS,St0 s->Ge s s.param.2:=fun s h=>Ge.param h.hi
   have a:=e s h
   have j:Ge s.param.2 (listL PS.param s).2:=Ge.moreL (B:=fun s=>St0 s) (fun _ _ h k=>h.ge k) (fun s h _=>e s h) (s.l.length+1) (h.ge a) a.hi
   refine c1q e (fun s h c=>c1b h c) (s.l.length+1) (h.ge a) ?_ k
   intro x i
   rw[List.mem_singleton]at i
   subst i
   exact c1b h (j.clean k)
structure DfQ (d:Df):Prop where
 one:1<=d.line
 nm:nameI d.name.s=true
 np:d.ps.length<=8
 pm : ∀ p∈d.ps,PmQ p
 bv:YJ (.mk d.n d.ks)=true
 bw:tW (.mk d.n d.ks)=true
 bl:d.line<=d.n.line
theorem Tm.eta(t:Tm):Tm.mk t.nd t.ks=t:=by cases t;rfl
theorem Ge.exprS{s:PS}(h:Ze s=true):Ge s s.expr.2:=by
 have a:=Zv h
 exact Ge.expr (by unfold Wz;omega) a.2
theorem g4o{s:PS}{nm:Str}{ln:Int}{ps:List Pm}{r:Bool×TyS}(h:St0 s)(a:(s.dfE (DF nm ln ps r)).2.bad=false)(b:(s.dfE (DF nm ln ps r)).1.2=false)(g:s.i<s.l.length->ln<=(s.peek 0).ln):
  (s.dfE (DF nm ln ps r)).1.1=DF nm ln ps r s.expr.1∧NS s.expr.2∧YJ s.expr.1=true∧ps.length<=8∧tW s.expr.1=true∧ln<=s.expr.1.nd.line:=by
 unfold PS.dfE at a b ⊢
 split at a
 ·rename_i q;rw[q]at a;cases a
 ·rename_i q
  rw[if_neg q]at b ⊢
  split at a
  ·rename_i e;rw[e]at a;cases a
  ·rename_i e
   rw[if_neg e]at b ⊢
   have b:(s.expr.2.big||(!(YJ s.expr.1)||(decide (ps.length>8)||decide (ln>10000))))=false:=b
   simp only[Bool.or_eq_false_iff,Bool.not_eq_false',decide_eq_false_iff_not]at b
   have w:=Ad h.ok h.lx a
   have l:=g2o h.ok h.lx h.up a
   have l0:=g l.1
   exact⟨rfl,⟨a,b.1⟩,b.2.1,by omega,w,by omega⟩
theorem g8g{s:PS}(h:St0 s)(hn:s.next ⟨[100,101,102]⟩=true)(J:s.defP.2.bad=false)(F:s.defP.1.2=false):DfQ s.defP.1.1∧s.defP.1.1.line=(s.peek 0).ln:=by
 have I:s.need ⟨[100,101,102]⟩=s.step:=if_pos hn
 have hi:=Zk hn
 have kd:=Ge.need (w:=⟨[100,101,102]⟩) h.hi
 have a:St0 s.df0:=⟨kd.ok h.ok,by show ZR (s.need _).l=true;rw[kd.l];exact h.lx,by show OL (s.need _).l;rw[kd.l];exact h.up⟩
 have i0:s.df0.i=s.i+1:=by show(s.need _).i=_;rw[I];rfl
 have D:s.df0.l=s.l:=kd.l
 have B:=Ge.name a.hi
 have r:=Ge.need (w:=⟨[40]⟩) B.hi
 have g:=Ge.dfP r.hi
 have b:=Ge.need (w:=⟨[41]⟩) g.hi
 have k:=Ge.dfR b.hi
 have A:=Ge.need (w:=⟨[61]⟩) k.hi
 have z:=B.trans r
 have q:=z.trans (g.trans (b.trans (k.trans A)))
 have y:=a.ge q
 obtain⟨e,c,v,n,w,l⟩:=g4o y J F (fun j=>e5d h.up (q.l.trans D) (by have:=q.le;omega) j)
 have H:=(Ge.exprS y.ok).clean c
 have C:=(b.trans (k.trans A)).clean H
 have E:=(r.trans g).clean C
 have u:=(f4j h.up hi).1
 have e:s.defP.1.1=DF s.df0.name.1 (s.peek 0).ln (s.df0.name.2.need ⟨[40]⟩).dfP.1 (((s.df0.name.2.need ⟨[40]⟩).dfP.2.need ⟨[41]⟩).dfR.1) _:=e
 rw[e]
 exact⟨⟨u,a4m a.lx E.1,n,g6z (a.ge z) C,by rw[show Tm.mk (DF _ _ _ _ _).n (DF _ _ _ _ _).ks=_ from Tm.eta _];exact v,by rw[show Tm.mk (DF _ _ _ _ _).n (DF _ _ _ _ _).ks=_ from Tm.eta _];exact w,l⟩,rfl⟩
theorem c2d: ∀ (f:Nat) {s:PS} {w:Int} {o:List Df},s.bad=true->(Qf f s w o).2.bad=true
 | 0,s,w,o,h=>h
 | f+1,s,w,o,h=>by rw[Qf,if_pos h];exact h
theorem e0z(f:Nat){s:PS}{w:Int}{o:List Df}(h:(Qf f s w o).2.bad=false):s.bad=false:=by
 cases e:s.bad with
 | false=>rfl
 | true=>rw[c2d f e]at h;cases h
theorem f6u: ∀ (f:Nat) {s:PS} {w:Int} {o:List Df},0<=w->0<=(Qf f s w o).1.1
 | 0,s,w,o,h=>h
 | f+1,s,w,o,h=>by
  rw[Qf]
  split
  ·exact h
  ·split
   ·rw[decide_eq_false (show ¬ w<0 by omega),Bool.and_false,if_neg (by decide)]
    exact f6u f h
   ·exact h
theorem f4p: ∀ (f:Nat) {s:PS} {w:Int} {o:List Df},St0 s->(∀ d∈o,DfQ d)->o.Pairwise (fun a b=>a.line<=b.line)->(s.i<s.l.length-> ∀ d∈o,d.line<=(s.peek 0).ln)->(Qf f s w o).2.bad=false->(Qf f s w o).1.1<0 ->
  (∀ d∈(Qf f s w o).1.2,DfQ d)∧(Qf f s w o).1.2.Pairwise (fun a b=>a.line<=b.line)
 | 0,s,w,o,hs,h1,h2,h3,kb,kw=>⟨h1,h2⟩
 | f+1,s,w,o,hs,h1,h2,h3,kb,kw=>by
  rw[Qf]at kb kw ⊢
  split at kb
  ·rename_i q;rw[if_pos q];exact⟨h1,h2⟩
  ·rename_i q
   rw[if_neg q]at kw ⊢
   split at kb
   ·rename_i h
    rw[if_pos h]at kw ⊢
    have hi:=Zk h
    have g:=Ps hs.ok hs.lx h
    have b1:s.defP.2.bad=false:=by
     cases e:s.defP.2.bad with
     | false=>rfl
     | true=>rw[c2d f e]at kb;cases kb
    have u:=f4j hs.up hi
    have z:s.defP.1.2=false:=by
     cases e:s.defP.1.2 with
     | false=>rfl
     | true=>
      exfalso
      have:0<=(Qf f s.defP.2 (if (s.defP.1.2&&decide (w<0))=true then(s.peek 0).o else w) (o++[s.defP.1.1])).1.1:=by
       refine f6u f ?_
       rw[e]
       by_cases hw:w<0
       ·rw[decide_eq_true hw];exact u.2
       ·rw[decide_eq_false hw,if_neg (by decide)];omega
      omega
    obtain⟨y,r⟩:=g8g hs h b1 z
    have j:=h3 hi
    refine f4p f ⟨g.1,g.2.1,by rw[g.2.2.1];exact hs.up⟩ ?_ ?_ ?_ kb kw
    ·intro d hd
     rcases List.mem_append.1 hd with hd|hd
     ·exact h1 d hd
     ·rw[List.mem_singleton]at hd
      subst hd
      exact y
    ·refine List.pairwise_append.2 ⟨h2,List.pairwise_singleton _ _,fun a ha b hb=> ?_⟩
     rw[List.mem_singleton]at hb
     subst hb
     rw[r]
     exact j a ha
    ·intro k d hd
     have up:(s.peek 0).ln<=(s.defP.2.peek 0).ln:=e5d hs.up g.2.2.1 (by omega) k
     rcases List.mem_append.1 hd with hd|hd
     ·have:=j d hd;omega
     ·rw[List.mem_singleton]at hd
      subst hd
      rw[r]
      exact up
   ·rename_i h;rw[if_neg h];exact⟨h1,h2⟩
theorem Ge.jimp: ∀ (f:Nat) {s:PS} {o:List Str},s.i<=s.l.length->Ge s (Go.Pl.impL f s o).2
 | 0,s,o,h=>Ge.refl h
 | f+1,s,o,h=>by
  rw[Go.Pl.impL]
  split
  ·have b:=Ge.step (Zk ‹_›)
   have a:=Ge.list (one:=PS.name) (fun s h=>Ge.name h) b.hi
   exact b.trans (a.trans (Ge.jimp f a.hi))
  ·exact Ge.refl h
theorem Ge.jexpo{s:PS}(h:s.i<=s.l.length):Ge s s.expo.2:=by
 unfold PS.expo
 split
 ·have a:=Ge.step (Zk ‹_›)
  exact a.trans (Ge.list (one:=PS.name) (fun s h=>Ge.name h) a.hi)
 ·exact Ge.refl h
theorem c9q{s:PS}(h:s.endp.bad=false):s.bad=false:=by
 unfold PS.endp at h
 split at h
 ·cases h
 ·exact h
theorem g8e(s:List UInt8):St0 (bgS s):=⟨d7e s,(a4p ⟨s⟩).1,e9c ⟨s⟩⟩
theorem f9c{s:Str}(h:(Bi s).c=0):nameI (Bi s).a.name.s=true∧(∀ d∈(Bi s).a.ds,DfQ d)∧(Bi s).a.ds.Pairwise (fun a b=>a.line<=b.line)∧(Bi s).a.ds.length<=60:=by
 unfold Bi at h ⊢
 split at h
 ·rename_i q;exact absurd h q
 ·rename_i q
  rw[if_neg q]
  dsimp only at h ⊢
  split at h
  ·cases h
  ·rename_i u
   rw[if_neg u]
   split at h
   ·cases h
   ·rename_i A
    rw[if_neg A]
    split at h
    ·cases h
    ·rename_i z
     rw[if_neg z]
     have j:=g8e s.s
     have g:=Ge.need (w:=⟨[109,111,100,117,108,101]⟩) j.hi
     have r:=Ge.name g.hi
     have i:=Ge.jimp ((bgS s.s).l.length+1) (o:=[]) r.hi
     have k:=Ge.jexpo i.hi
     have h3:=j.ge (g.trans (r.trans (i.trans k)))
     have y:=c9q (by simpa using u)
     have b1:=(i.trans k).good (e0z _ y)
     have dq:=f4p ((bgS s.s).l.length+1) (w:= -1) (o:=[]) h3 (fun d hd=>by cases hd) .nil (fun _ d hd=>by cases hd) y (by omega)
     exact⟨a4m (j.ge g).lx b1,dq.1,dq.2,Nat.le_of_not_lt fun e=>z (Or.inr (Or.inr e))⟩
open Enc (enc dec is)
open EncL (encL decL isL)
set_option maxRecDepth 100000
noncomputable def VE:IC:=XG Proofs.Tryz.f6
def VF:List IRes:=[(.tmp 2)]
abbrev f2x:Nat:=105
noncomputable def Qm:ZM:=YN [(9,.pure (preT (fun _:Unit=>true)) (Zl (fun _:Unit=>true))),(18,.pure (preT (fun _:Str×Unit=>true)) (Zl (fun x:Str×Unit=>Bi x.1))),(19,.pure (preT (fun x:Tm×Unit=>gW x.1)) (Zl (fun x:Tm×Unit=>YJ x.1))),(20,.pure (preT (fun x:Str×Unit=>decide (x.1.s.length<=1048576))) (Zl (fun x:Str×Unit=>nameI x.1.s))),(21,.pure (preT (fun x:TyS×Unit=>yW x.1)) (Zl (fun x:TyS×Unit=>Du x.1)))]
def f9n{G:PV->Prop}(s:List UInt8):=Vw (∃ e:Bool,(AV.pv (Zl (fun(x:Unit)=>true) [])=AV.pv (enc e))∧(if (!e)=true then G (.bool false)else(∃ b:R3 Mdu Int Int,(AV.pv (Zl (fun(x:Str×Unit)=>Bi x.1) [.str s])=AV.pv (enc b))∧(if (decide ((↑(List.length s):Int)>600))=true then G (.bool true)else(if (R3.c b != 0)=true then G (.bool true)else(At Qm 0 (Za VF G) VE 0 105 [(3,.ptr 0 0),(6,Xk),(7,ZB)] [.obj (.box [.pv (.str (Str.s (Mdu.name (R3.a b)))),.pv (.sl 1 false (List.map enc (Mdu.im (R3.a b)))),.pv (.sl 1 false (List.map enc (Mdu.ex (R3.a b)))),.pv (.sl 17 false (List.map enc (Mdu.ds (R3.a b))))])])))))) G (dm [dv Bool,dv (R3 Mdu Int Int)] 28 0x14222022200442620001452) Qm VF VE (Ye 105 [.str s]) (by delta Xk ZB;exact rfl)
def Ag(a:Mdu):List PV:=List.map enc (Mdu.ds a)
def Vm(a:Df):List PV:=PV.cells (enc a)
def b1s(a:Df):PV:=.int .i64 (PV.asInt (List.getD (Vm a) (0+1+1+1+1+1+1+1) default))
def b9d(a:Df):PV:=.int .i64 (PV.asInt (List.getD (Vm a) (0+1+1+1+1+1+1+1+1) default))
def b4g(a:Df):PV:=.str (PV.asStr (List.getD (Vm a) (0+1+1+1+1+1+1+1+1+1) default))
def b3f(a:Df):PV:=.int .i64 (PV.asInt (List.getD (Vm a) (0+1+1+1+1+1+1+1+1+1+1) default))
def b7g(a:Df):PV:=.str (PV.asStr (List.getD (Vm a) (0+1+1+1+1+1+1+1+1+1+1+1) default))
def b2j(a:Df):PV:=.sl 1 false (PV.asXs (List.getD (Vm a) (0+1+1+1+1+1+1+1+1+1+1+1+1) default))
def b7f(a:Df):PV:=.sl 1 false (PV.asXs (List.getD (Vm a) (0+1+1+1+1+1+1+1+1+1+1+1+1+1) default))
def b2o(a:Df):PV:=.sl 2 false (PV.asXs (List.getD (Vm a) (0+1+1+1+1+1+1+1+1+1+1+1+1+1+1) default))
def b2w(a:Df):PV:=.sl 1 false (PV.asXs (List.getD (Vm a) (0+1+1+1+1+1+1+1+1+1+1+1+1+1+1+1) default))
def b8n(a:Df):PV:=.sl 10 false (PV.asXs (List.getD (Vm a) (0+1+1+1+1+1+1+1+1+1+1+1+1+1+1+1+1) default))
def e3f(a:Df):List PV:=[.agg [b1s a,b9d a,b4g a,b3f a,b7g a,b2j a,b7f a,b2o a,b2w a,b8n a]]
def a4y(a:Df):PV:=.str (PV.asStr (List.getD (Vm a) 0 default))
def a7x(a:Mdu):Slot:=.obj (.box [.pv (.str (Str.s (Mdu.name a))),.pv (.sl 1 false (List.map enc (Mdu.im a))),.pv (.sl 1 false (List.map enc (Mdu.ex a))),.pv (.sl 17 false (Ag a))])
def d3o(a:Mdu):Slot:=.obj (.box [.pv (.str a.name.s),.pv (.sl 1 false (a.im.map enc)),.pv (.sl 1 false (a.ex.map enc)),.pv (.sl 17 false (a.ds.map enc))])
def c1l{G:PV->Prop}(s:List UInt8)(a i:Int)(m:Mdu):=Wy (if (decide (i<(↑(List.length (Ag m)):Int)))=true then(decide (0<=i)&&decide (Int.toNat i<List.length (Ag m))&&17==17)=true∧(∃ b:Df,(AV.pv (PV.rptr (PV.cells (List.getD (Ag m) (Int.toNat i) default)))=AV.pv (PV.rptr (PV.cells ((enc) b))))∧(if (decide (PV.asInt (List.getD (Vm b) (0+1) default)<a))=true then G (.bool false)else((Go.Pl.preT (fun(x:Tm×Unit)=>gW x.1) (e3f b))=true∧(∃ h:Bool,(AV.pv (Zl (fun(x:Tm×Unit)=>YJ x.1) (e3f b))=AV.pv (enc h))∧(if (!h)=true then G (.bool false)else(if (decide (PV.asInt (List.getD (Vm b) (0+1+1+1+1+1+1+1+1) default)<PV.asInt (List.getD (Vm b) (0+1) default)))=true then G (.bool false)else((Go.Pl.preT Qp [a4y b])=true∧(∃ g:Bool,(AV.pv (Zl Ck [a4y b])=AV.pv (enc g))∧(if (!g)=true then G (.bool false)else(if (decide ((↑(List.length (PV.asXs (List.getD (Vm b) (0+1+1) default))):Int)>8))=true then G (.bool false)else(At Qm 0 (Za VF G) VE 1 105 [(3,.ptr 0 0),(7,ZK i),(8,.ptr 1 0),(9,ZB)] [a7x m,.obj (.box [.pv (a4y b),.pv (.int .i64 (PV.asInt (List.getD (Vm b) (0+1) default))),.pv (.sl 5 false (PV.asXs (List.getD (Vm b) (0+1+1) default))),.pv (.bool (PV.asBool (List.getD (Vm b) (0+1+1+1) default))),.pv (.str (PV.asStr (List.getD (Vm b) (0+1+1+1+1) default))),.pv (.str (PV.asStr (List.getD (Vm b) (0+1+1+1+1+1) default))),.pv (.sl 2 false (PV.asXs (List.getD (Vm b) (0+1+1+1+1+1+1) default))),.pv (b1s b),.pv (b9d b),.pv (b4g b),.pv (b3f b),.pv (b7g b),.pv (b2j b),.pv (b7f b),.pv (b2o b),.pv (b2w b),.pv (b8n b)])])))))))))))else((Go.Pl.preT Qp [.str (Str.s (Mdu.name m))])=true∧(∃ e:Bool,(AV.pv (Zl Ck [.str (Str.s (Mdu.name m))])=AV.pv (enc e))∧(G (.bool e))))) G (dm [dr Df,dv Bool] 117 0x610000142222202222200642261220222222222200b422222220222222222222222220124226122022222222222222222222220174225106c42) Qm VF VE 0 105 [(3,.ptr 0 0),(6,ZK a),(7,ZK i)] [d3o m] (by delta Ag Vm b1s b9d b4g b3f b7g b2j b7f b2o b2w b8n e3f Qp a4y Ck ZK ZB a7x;exact rfl)
def NM(a:Df):List PV:=List.map enc (Df.ps a)
def a3x(a:Int)(Zm:Df):Bool:=decide (0<=a)&&decide (Int.toNat a<List.length (NM Zm))&&5==5
def a4z(b:Df)(Zm:Int)(a:Pm):Prop:=AV.pv (PV.rptr (PV.cells (List.getD (NM b) (Int.toNat Zm) default)))=AV.pv (PV.rptr (PV.cells ((enc) a)))
def b6i(a:Pm):List PV:=[.str (PV.asStr (List.getD (List.drop 0 (PV.cells (enc a))) 0 default))]
def Mg(a:Pm):List PV:=PV.cells (enc a)
def d6p(a:Pm):List PV:=[.agg [.str (PV.asStr (List.getD (List.drop 2 (Mg a)) 0 default)),.str (PV.asStr (List.getD (List.drop 2 (Mg a)) (0+1) default)),.sl 2 false (PV.asXs (List.getD (List.drop 2 (Mg a)) (0+1+1) default))]]
def f6j(a:Mdu)(Zm:Df):ZF:=[a7x a,.obj (.box [.pv (.str (Str.s (Df.name Zm))),.pv (.int .i64 (Df.line Zm)),.pv (.sl 5 false (NM Zm)),.pv (.bool (Df.given Zm)),.pv (.str (Str.s (TyS.elem (Df.res Zm)))),.pv (.str (Str.s (TyS.row (Df.res Zm)))),.pv (.sl 2 false (List.map enc (TyS.dims (Df.res Zm)))),.pv (.int .i64 (Nd.kind (Df.n Zm))),.pv (.int .i64 (Nd.line (Df.n Zm))),.pv (.str (Str.s (Nd.name (Df.n Zm)))),.pv (.int .i64 (Nd.num (Df.n Zm))),.pv (.str (Str.s (Nd.elem (Df.n Zm)))),.pv (.sl 1 false (List.map enc (Nd.dims (Df.n Zm)))),.pv (.sl 1 false (List.map enc (Nd.data (Df.n Zm)))),.pv (.sl 2 false (List.map enc (Nd.sizes (Df.n Zm)))),.pv (.sl 1 false (List.map enc (Nd.ranks (Df.n Zm)))),.pv (.sl 10 false (List.map enc (Df.ks Zm)))])]
def b5v(g:PV->Prop)(Zm e:Int)(b:Mdu)(a:Df):Prop:=At Qm 0 (Za VF g) VE 1 105 [(3,.ptr 0 0),(7,ZK Zm),(8,.ptr 1 0),(9,Z6 e)] (f6j b a)
def c3e{G:PV->Prop}(s:List UInt8)(i k:Int)(m:Mdu)(d:Df):=Wy (if (decide (k<(↑(List.length (NM d)):Int)))=true then(a3x k d)=true∧(∃ b:Pm,(a4z d k b)∧((Go.Pl.preT Qp (b6i b))=true∧(∃ h:Bool,(AV.pv (Zl Ck (b6i b))=AV.pv (enc h))∧(if (!h)=true then G (.bool false)else((a3x k d)=true∧(∃ g:Pm,(a4z d k g)∧(if (PV.asBool (List.getD (List.drop 1 (Mg g)) 0 default))=true then(a3x k d)=true∧(∃ a:Pm,(a4z d k a)∧((Go.Pl.preT (fun(x:TyS×Unit)=>yW x.1) (d6p a))=true∧(∃ e:Bool,(AV.pv (Zl (fun(x:TyS×Unit)=>Du x.1) (d6p a))=AV.pv (enc e))∧(if (!e)=true then G (.bool false)else(b5v G i k m d)))))else(b5v G i k m d))))))))else(At Qm 0 (Za VF G) VE 0 105 [(3,.ptr 0 0),(6,.pv (.int .i64 (Df.line d))),(7,Z6 i)] [a7x m])) G (dm [dr Pm,dv Bool] 75 0x2022222222222202000142222612222512220164222251222022222222200a46125104342) Qm VF VE 1 105 [(3,.ptr 0 0),(7,ZK i),(8,.ptr 1 0),(9,ZK k)] [d3o m,.obj (.box [.pv (.str d.name.s),.pv (.int .i64 d.line),.pv (.sl 5 false (d.ps.map enc)),.pv (.bool d.given),.pv (.str d.res.elem.s),.pv (.str d.res.row.s),.pv (.sl 2 false (d.res.dims.map enc)),.pv (.int .i64 d.n.kind),.pv (.int .i64 d.n.line),.pv (.str d.n.name.s),.pv (.int .i64 d.n.num),.pv (.str d.n.elem.s),.pv (.sl 1 false (d.n.dims.map enc)),.pv (.sl 1 false (d.n.data.map enc)),.pv (.sl 2 false (d.n.sizes.map enc)),.pv (.sl 1 false (d.n.ranks.map enc)),.pv (.sl 10 false (d.ks.map enc))])] (by delta NM a3x a4z Qp b6i Ck Mg d6p ZK YG Z6 Ag a7x f6j b5v;exact rfl)
theorem f7n{l:List UInt8}(h:Ox l=true):l.length<=30:=by
 unfold Ox at h
 simp only[Bool.or_eq_true,decide_eq_true_eq]at h
 rcases h with (h|h)|h
 ·rw[h];decide
 ·rw[h];decide
 ·unfold evB at h
  split at h
  ·cases h
  ·simp only[Bool.and_eq_true,decide_eq_true_eq]at h
   rw[List.length_cons]
   omega
theorem g7h{t:TyS}(h:Du t=true):yW t=true:=by
 unfold Du shV at h
 simp only[Bool.and_eq_true,Bool.or_eq_true,decide_eq_true_eq,List.all_eq_true]at h
 obtain⟨h1,⟨h2,h3⟩,h4⟩:=h
 have e:=f7n h1
 have r:t.row.s.length<=30:=by
  rcases h2 with h2|h2
  ·rw[h2];decide
  ·exact Oc h2
 have d : ∀ l:List Lin,(∀ x∈l,Zt x=true)->(l.map DI).sum<=386*l.length:=by
  intro l
  induction l with
  | nil=>intro _;exact Nat.le_refl _
  | cons x l ih=>
   intro g
   have a:=c1f (g x (by simp))
   have b:=ih fun y i=>g y (by simp[i])
   simp only[List.map_cons,List.sum_cons,List.length_cons]
   omega
 have d:=d _ h4
 unfold yW wTy
 exact decide_eq_true (by omega)
theorem e5b(d:Df):[PV.agg [.int .i64 d.n.kind,.int .i64 d.n.line,.str d.n.name.s,.int .i64 d.n.num,.str d.n.elem.s,.sl 1 false (d.n.dims.map enc),.sl 1 false (d.n.data.map enc),.sl 2 false (d.n.sizes.map enc),.sl 1 false (d.n.ranks.map enc),.sl 10 false (d.ks.map enc)]]=encL (d.body,()):=by
 show _=[enc (Tm.mk d.n d.ks)]
 rw[WH]
 rfl
theorem d9o(s:List UInt8)(i:Nat)(m:Mdu){d:Df}(b:DfQ d)(hn:At Qm 0 (Za VF (Zd true)) VE 0 105 [(3,.ptr 0 0),(6,.pv (.int .i64 d.line)),(7,.pv (.int .i64 (IntKind.wrap IntKind.i64 ((i:Int)+1))))] [.obj (.box (f9q m))]):
  ∀ (n k:Nat),k+n=d.ps.length->At Qm 0 (Za VF (Zd true)) VE 1 105 [(3,.ptr 0 0),(7,.pv (.int .i64 (i:Int))),(8,.ptr 1 0),(9,.pv (.int .i64 (k:Int)))] [.obj (.box (f9q m)),.obj (.box (h0b d))]
 | 0,k,e=>c3e s i k m d (Yj (Br (by omega)) hn)
 | n+1,k,e=>by
  have h:k<d.ps.length:=by omega
  have a:=b.pm _ (List.getElem_mem h)
  have np:=b.np
  have nl:=Dc a.1
  have go:=d9o s i m b hn n (k+1) (by omega)
  rw[<- next (k:=k) (by omega)]at go
  refine c3e s i k m d (Yh (BS h) ⟨XV h rfl,VA h ⟨Zh (d.ps[k].name,()) rfl (decide_eq_true (by show d.ps[k].name.s.length<=_;omega)),Zc (d.ps[k].name,()) rfl (Yx (fun g=> ?_) fun _=>⟨XV h rfl,VA h (ZW (fun j=>⟨XV h rfl,VA h ⟨Zh (d.ps[k].ty,()) rfl ?_,Zc (d.ps[k].ty,()) rfl (Yx (fun g=> ?_) fun _=>go)⟩⟩) fun _=>go)⟩)⟩⟩)
  ·exact absurd (show nameI d.ps[k].name.s=false from g) (by rw[a.1];decide)
  ·exact g7h (a.2.1 j)
  ·exact absurd (show Du d.ps[k].ty=false from g) (by rw[a.2.1 j];decide)
theorem d8v(s:List UInt8){m:Mdu}(hm:nameI m.name.s=true)(hd : ∀ d∈m.ds,DfQ d)(l:m.ds.Pairwise (fun a b=>a.line<=b.line))(q:m.ds.length<=60):
  ∀ (n i:Nat) (a:Int),i+n=m.ds.length->(∀ h:i<m.ds.length,a<=m.ds[i].line)->At Qm 0 (Za VF (Zd true)) VE 0 105 [(3,.ptr 0 0),(6,.pv (.int .i64 a)),(7,.pv (.int .i64 (i:Int)))] [.obj (.box (f9q m))]
 | 0,i,a,e,ha=>by
  have u:=Dc hm
  exact c1l s a i m (Yj (Br (by omega)) ⟨Zh (m.name,()) rfl (decide_eq_true (by show m.name.s.length<=_;omega)),Zc (m.name,()) rfl (Zu hm)⟩)
 | n+1,i,a,e,ha=>by
  have h:i<m.ds.length:=by omega
  have j:=hd _ (List.getElem_mem h)
  have h1:=ha h
  have h2:=j.bl
  have h3:=j.np
  have u:=Dc j.nm
  have go:=d8v s hm hd l q n (i+1) m.ds[i].line (by omega) fun r=>List.pairwise_iff_getElem.1 l i (i+1) h r (by omega)
  rw[<- next (k:=i) (by omega)]at go
  refine c1l s a i m (Yh (BS h) ⟨XV h rfl,VA h (Yc (fun g=>absurd (show m.ds[i].line<a from g) (by omega)) fun _=>⟨Zh (m.ds[i].body,()) (e5b _) (a9z j.bw),Zc (m.ds[i].body,()) (e5b _) (Yx (fun g=> ?_) fun _=>Yc (fun g=>absurd (show m.ds[i].n.line<m.ds[i].line from g) (by omega)) fun _=>⟨Zh (m.ds[i].name,()) rfl (decide_eq_true (by show m.ds[i].name.s.length<=_;omega)),Zc (m.ds[i].name,()) rfl (Yx (fun g=> ?_) fun _=>Yc (fun g=> ?_) fun _=> ?_)⟩)⟩)⟩)
  ·exact absurd (show YJ (.mk m.ds[i].n m.ds[i].ks)=false from g) (by rw[j.bv];decide)
  ·exact absurd (show nameI m.ds[i].name.s=false from g) (by rw[j.nm];decide)
  ·have g:(((m.ds[i].ps.map (enc:Pm->PV)).length:Nat):Int)>8:=g
   rw[List.length_map]at g
   omega
  ·exact d9o s i m j go m.ds[i].ps.length 0 (by omega)
theorem d8b: ∀ x:Str×Unit,true=true->Zi Qm 0 (Za VF (Zd true)) VE [] (Ye f2x (encL x)):=by
 rintro⟨⟨s⟩,⟨⟩⟩ _
 refine f9n s (Zc () rfl (Yj (by decide) (Zc ((⟨s⟩:Str),()) rfl (Yc (fun _=>Zu rfl) fun _=>b7m (fun _=>Zu rfl) fun hc=> ?_))))
 obtain⟨g,a,b,e⟩:=f9c (s:=⟨s⟩) hc
 exact d8v s g a b e _ 0 1 (Nat.zero_add _) fun h=>(a _ (List.getElem_mem h)).one
end Go.Pl
