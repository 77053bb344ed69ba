/-
  Texts of mine that belong together (packed by pack.py), for every input: GYl, QYl, TyYm, GYd, TyYo, TyYn, TyYp, QYm, QYn, GYe, TyYq, QYp, GYv, QYv, QYw, TyJi, GJl, QJl, QJm, TyJa, TyJb, TyJd, TyJw, GJw, GJc, GJb, GJa, QJa, TyJc, QJb, TyJe, TyJf, TyJg, TyJh, QJn, VwX, TyAk, VwN, QJw, TyJv, TyJz, GJy, QJy.
-/
import Derived.Test.YtgclceacfcdigaaGreatDoorChecked
import Derived.Test.YtgclceacfcdigaaGreatDoorKV2
import Derived.Test.YtgclceacfcdigaaGreatDoorKV3
import Derived.Test.YtgclceacfcdigaaGreatDoorKV4
import Derived.KernelRfl
set_option linter.unusedVariables false
set_option linter.unusedSimpArgs false
set_option linter.defProp false
namespace Go.Pl
open Go.RowKit
open Enc (enc dec is)
open EncL (encL decL isL)
set_option maxRecDepth 100000
noncomputable def QU:IC:=XH Proofs.Tryz.f64
def QO:List IRes:=[(.tmp 2)]
abbrev f8g:Nat:=46
noncomputable def f4j:Nat×Den:=(89,.pure (preT (fun _:Str×Str×Unit=>true)) (Zl (fun x:Str×Str×Unit=>x.2.1.s.isPrefixOf x.1.s)))
noncomputable def Gc:ZM:=YN [f4j,(90,.pure (preT (fun x:Str×UInt8×Unit=>decide (x.1.s.length<=1048576))) (Zl (fun x:Str×UInt8×Unit=>Lib.indexByte x.1.s x.2.1)))]
def g4u{G:PV->Prop}(s:List UInt8):=Vw (At Gc 0 (Za QO G) QU 0 46 [Zf s,(3,ZB)] []) G (.nil) Gc QO QU (Ye 46 [.str s]) (by delta Zf ZB;exact rfl)
def a4t(a:Nat)(Zm:List UInt8):Bool:=decide (0<=(↑a:Int))&&decide (Int.toNat (↑a:Int)<List.length Zm)
def Et(a:List UInt8)(Zm:Nat):Nat:=UInt8.toNat (List.getD a (Int.toNat (↑Zm:Int)) (0:UInt8))
def a3w(a:Nat):Nat×AV:=(3,.pv (.int .i64 (IntKind.wrap IntKind.i64 ((↑a:Int)+1))))
def b1u(a:Nat)(Zm:List UInt8):Bool:=decide (0<=(↑a:Int))&&true&&decide (Int.toNat (↑a:Int)<=List.length Zm)&&decide (List.length Zm<=List.length Zm)
def EH(a:Nat)(Zm:List UInt8):PV:=.str (List.drop (Int.toNat (↑a:Int)) (List.take (List.length Zm) Zm))
def g2b{G:PV->Prop}(s:List UInt8)(n:Nat):=WA (if (decide ((↑n:Int)<(↑(List.length s):Int)))=true then(a4t n s)=true∧(if ((↑(Et s n):Int)==32)=true then At Gc 0 (Za QO G) QU 0 46 [Zf s,a3w n] []else((a4t n s)=true∧(if ((↑(Et s n):Int)==9)=true then At Gc 0 (Za QO G) QU 0 46 [Zf s,a3w n] []else((a4t n s)=true∧(if ((↑(Et s n):Int)==10)=true then At Gc 0 (Za QO G) QU 0 46 [Zf s,a3w n] []else((b1u n s)=true∧(∃ b:Bool,(AV.pv (Zl YR [EH n s,.str [47,47]])=AV.pv (enc b))∧(if (b)=true then(b1u n s)=true∧((Go.Pl.preT (fun(x:Str×UInt8×Unit)=>decide (List.length (Str.s x.1)<=1048576)) [EH n s,.int IntKind.u8 10])=true∧(∃ a:Int,(AV.pv (Zl (fun(x:Str×UInt8×Unit)=>Lib.indexByte (Str.s x.1) x.2.1) [EH n s,.int IntKind.u8 10])=AV.pv (enc a))∧(if (decide (a<0))=true then G (.int .i64 (↑(List.length s):Int))else(At Gc 0 (Za QO G) QU 0 46 [Zf s,(3,.pv (.int .i64 (IntKind.wrap IntKind.i64 ((↑n:Int)+a))))] []))))else(G (.int .i64 (↑n:Int)))))))))))else(G (.int .i64 (↑n:Int)))) G (dm [dv Bool,dv Int] 73 0x200014261100b45210200242221220222222007422212202222222222200c42104242) Gc QO QU 0 46 [Zf s,(3,.pv (.int .i64 (n:Int)))] [] (by delta a4t Et Zf a3w b1u YR EH;exact rfl)
noncomputable def Zy:IC:=XH Proofs.Tryz.f66
def Zz:List IRes:=[(.tmp 2),(.tmp 3)]
abbrev f8r:Nat:=49
noncomputable def f6r:Nat×Den:=(95,.pure (preT (fun x:Str×Bool×Unit=>decide (x.1.s.length<=1048576))) (Zl (fun x:Str×Bool×Unit=>XZ x.1 x.2.1)))
noncomputable def ZI:ZM:=YN [(94,.pure (preT (fun _:UInt8×Unit=>true)) (Zl (fun x:UInt8×Unit=>lowB x.1))),f6r,(96,.pure (preT (fun _:Str×Unit=>true)) (Zl (fun x:Str×Unit=>Q5.contains x.1.s))),(72,.pure (preT (fun x:Str×Unit=>decide (x.1.s.length<=1048576))) (Zl (fun x:Str×Unit=>nameI x.1.s))),(97,.pure (preT (fun _:UInt8×Unit=>true)) (Zl (fun x:UInt8×Unit=>digB x.1))),g5k,f4j,(99,.pure RF a2o)]
def SF:PV:=.tup [.int .i64 0,.str []]
def b7z(a:List UInt8):Bool:=Go.Pl.preT (fun(z0':UInt8×Unit)=>true) (Si a)
def MN:=fun(a:Str×Bool×Unit)=>decide (List.length (Str.s a.1)<=1048576)
def Nc:=fun(a:Str×Bool×Unit)=>XZ a.1 a.2.1
def DW:=fun(a:Str×Unit)=>nameI (Str.s a.1)
def Sw(a:List UInt8):List PV:=[.str a,.bool false]
def Yb:Nat×AV:=(10,.pv (.agg (List.map PV.str ZA)))
def f6f{G:PV->Prop}(s:List UInt8):=Vw (if (s==[])=true then G (SF)else((QW s)=true∧((b7z s)=true∧(∃ i:Bool,(AV.pv (Zl (fun(x:UInt8×Unit)=>lowB x.1) (Si s))=AV.pv (enc i))∧(if (i)=true then(Go.Pl.preT MN [.str s,.bool true])=true∧(∃ a:Str,(AV.pv (Zl Nc [.str s,.bool true])=AV.pv (enc a))∧(∃ j:Bool,(AV.pv (Zl Sv (Vt a))=AV.pv (enc j))∧(if (j)=true then G (.tup [.int .i64 2,.str (Str.s a)])else((Go.Pl.preT Qp (Vt a))=true∧(∃ e:Bool,(AV.pv (Zl DW (Vt a))=AV.pv (enc e))∧(if (e)=true then G (.tup [.int .i64 1,.str (Str.s a)])else(G (SF))))))))else((QW s)=true∧((b7z s)=true∧(∃ h:Bool,(AV.pv (Zl (fun(x:UInt8×Unit)=>digB x.1) (Si s))=AV.pv (enc h))∧(if (h)=true then(Go.Pl.preT MN (Sw s))=true∧(∃ b:Str,(AV.pv (Zl Nc (Sw s))=AV.pv (enc b))∧((Go.Pl.preT Qp (Vt b))=true∧(∃ g:Int×Bool,(AV.pv (Zl (fun(x:Str×Unit)=>Qn x.1) (Vt b))=AV.pv (enc g))∧(if g.2=true then G (.tup [.int .i64 3,.str (Str.s b)])else(G (SF))))))else(At ZI 0 (Za Zz G) Zy 0 49 [Zf s,Yb,(11,ZB)] [])))))))))) G (dm [dv Bool,dv Str,dv (Int×Bool)] 51 0x32000014716100a4511000014510001452610114511000142) ZI Zz Zy (Ye 49 [.str s]) (by delta SF QW Jl Si b7z MN Nc Sv Vt Qp DW Sw Zf Yb ZB;exact rfl)
def d4j{G:PV->Prop}(s:List UInt8):=WA (∃ a:Bool,(AV.pv (Zl YR [.str s,.str [46,46]])=AV.pv (enc a))∧(if (a)=true then G (.tup [.int .i64 4,.str [46,46]])else(At ZI 0 (Za Zz G) Zy 0 49 [Zf s,Yb,(11,Xk)] []))) G (dm [dv Bool] 13 0x20001452222) ZI Zz Zy 0 49 [Zf s,(10,.pv Y3),(11,ZB)] [] (by delta YR Zf Yb Xk;exact rfl)
def d0y{G:PV->Prop}(s:List UInt8):=WA (∃ a:Bool,(AV.pv (Zl YR [.str s,.str [61,61]])=AV.pv (enc a))∧(if (a)=true then G (.tup [.int .i64 4,.str [61,61]])else(At ZI 0 (Za Zz G) Zy 0 49 [Zf s,Yb,(11,Ep)] []))) G (dm [dv Bool] 13 0x20001452222) ZI Zz Zy 0 49 [Zf s,(10,.pv Y3),(11,Xk)] [] (by delta YR Zf Yb Ep;exact rfl)
def d6g{G:PV->Prop}(s:List UInt8):=WA (∃ a:Bool,(AV.pv (Zl YR [.str s,.str [33,61]])=AV.pv (enc a))∧(if (a)=true then G (.tup [.int .i64 4,.str [33,61]])else(At ZI 0 (Za Zz G) Zy 0 49 [Zf s,Yb,(11,QV)] []))) G (dm [dv Bool] 13 0x20001452222) ZI Zz Zy 0 49 [Zf s,(10,.pv Y3),(11,Ep)] [] (by delta YR Zf Yb QV;exact rfl)
def d7l{G:PV->Prop}(s:List UInt8):=WA (∃ a:Bool,(AV.pv (Zl YR [.str s,.str [60,61]])=AV.pv (enc a))∧(if (a)=true then G (.tup [.int .i64 4,.str [60,61]])else(At ZI 0 (Za Zz G) Zy 0 49 [Zf s,Yb,(11,a5n)] []))) G (dm [dv Bool] 13 0x20001452222) ZI Zz Zy 0 49 [Zf s,(10,.pv Y3),(11,QV)] [] (by delta YR Zf Yb a5n;exact rfl)
def e5o{G:PV->Prop}(s:List UInt8):=WA (∃ a:Bool,(AV.pv (Zl YR [.str s,.str [62,61]])=AV.pv (enc a))∧(if (a)=true then G (.tup [.int .i64 4,.str [62,61]])else(At ZI 0 (Za Zz G) Zy 0 49 [Zf s,Yb,(11,a5c)] []))) G (dm [dv Bool] 13 0x20001452222) ZI Zz Zy 0 49 [Zf s,(10,.pv Y3),(11,a5n)] [] (by delta YR Zf Yb a5c;exact rfl)
def e5m{G:PV->Prop}(s:List UInt8):=WA (∃ a:Bool,(AV.pv (Zl YR [.str s,.str [45,62]])=AV.pv (enc a))∧(if (a)=true then G (.tup [.int .i64 4,.str [45,62]])else(At ZI 0 (Za Zz G) Zy 0 49 [Zf s,Yb,(11,Cg)] []))) G (dm [dv Bool] 13 0x20001452222) ZI Zz Zy 0 49 [Zf s,(10,.pv Y3),(11,a5c)] [] (by delta YR Zf Yb Cg;exact rfl)
def d6v{G:PV->Prop}(s:List UInt8):=WA (∃ a:Bool,(AV.pv (Zl YR [.str s,.str [38,38]])=AV.pv (enc a))∧(if (a)=true then G (.tup [.int .i64 4,.str [38,38]])else(At ZI 0 (Za Zz G) Zy 0 49 [Zf s,Yb,(11,a4h)] []))) G (dm [dv Bool] 13 0x20001452222) ZI Zz Zy 0 49 [Zf s,(10,.pv Y3),(11,Cg)] [] (by delta YR Zf Yb a4h;exact rfl)
def e0o{G:PV->Prop}(s:List UInt8):=WA (∃ a:Bool,(AV.pv (Zl YR [.str s,.str [124,124]])=AV.pv (enc a))∧(if (a)=true then G (.tup [.int .i64 4,.str [124,124]])else(At ZI 0 (Za Zz G) Zy 0 49 [Zf s,Yb,(11,a0n)] []))) G (dm [dv Bool] 13 0x20001452222) ZI Zz Zy 0 49 [Zf s,(10,.pv Y3),(11,a4h)] [] (by delta YR Zf Yb a0n;exact rfl)
def d9o{G:PV->Prop}(s:List UInt8):=WA (∃ a:Bool,(AV.pv (Zl YR [.str s,.str [40]])=AV.pv (enc a))∧(if (a)=true then G (.tup [.int .i64 4,.str [40]])else(At ZI 0 (Za Zz G) Zy 0 49 [Zf s,Yb,(11,a2w)] []))) G (dm [dv Bool] 13 0x20001452222) ZI Zz Zy 0 49 [Zf s,(10,.pv Y3),(11,a0n)] [] (by delta YR Zf Yb a2w;exact rfl)
def d6j{G:PV->Prop}(s:List UInt8):=WA (∃ a:Bool,(AV.pv (Zl YR [.str s,.str [41]])=AV.pv (enc a))∧(if (a)=true then G (.tup [.int .i64 4,.str [41]])else(At ZI 0 (Za Zz G) Zy 0 49 [Zf s,Yb,(11,a0i)] []))) G (dm [dv Bool] 13 0x20001452222) ZI Zz Zy 0 49 [Zf s,(10,.pv Y3),(11,a2w)] [] (by delta YR Zf Yb a0i;exact rfl)
def d8f{G:PV->Prop}(s:List UInt8):=WA (∃ a:Bool,(AV.pv (Zl YR [.str s,.str [91]])=AV.pv (enc a))∧(if (a)=true then G (.tup [.int .i64 4,.str [91]])else(At ZI 0 (Za Zz G) Zy 0 49 [Zf s,Yb,(11,a3s)] []))) G (dm [dv Bool] 13 0x20001452222) ZI Zz Zy 0 49 [Zf s,(10,.pv Y3),(11,a0i)] [] (by delta YR Zf Yb a3s;exact rfl)
def d7g{G:PV->Prop}(s:List UInt8):=WA (∃ a:Bool,(AV.pv (Zl YR [.str s,.str [93]])=AV.pv (enc a))∧(if (a)=true then G (.tup [.int .i64 4,.str [93]])else(At ZI 0 (Za Zz G) Zy 0 49 [Zf s,Yb,(11,a1s)] []))) G (dm [dv Bool] 13 0x20001452222) ZI Zz Zy 0 49 [Zf s,(10,.pv Y3),(11,a3s)] [] (by delta YR Zf Yb a1s;exact rfl)
def d8k{G:PV->Prop}(s:List UInt8):=WA (∃ a:Bool,(AV.pv (Zl YR [.str s,.str [123]])=AV.pv (enc a))∧(if (a)=true then G (.tup [.int .i64 4,.str [123]])else(At ZI 0 (Za Zz G) Zy 0 49 [Zf s,Yb,(11,EW)] []))) G (dm [dv Bool] 13 0x20001452222) ZI Zz Zy 0 49 [Zf s,(10,.pv Y3),(11,a1s)] [] (by delta YR Zf Yb EW;exact rfl)
def e3x{G:PV->Prop}(s:List UInt8):=WA (∃ a:Bool,(AV.pv (Zl YR [.str s,.str [125]])=AV.pv (enc a))∧(if (a)=true then G (.tup [.int .i64 4,.str [125]])else(At ZI 0 (Za Zz G) Zy 0 49 [Zf s,Yb,(11,a0y)] []))) G (dm [dv Bool] 13 0x20001452222) ZI Zz Zy 0 49 [Zf s,(10,.pv Y3),(11,EW)] [] (by delta YR Zf Yb a0y;exact rfl)
def e2z{G:PV->Prop}(s:List UInt8):=WA (∃ a:Bool,(AV.pv (Zl YR [.str s,.str [44]])=AV.pv (enc a))∧(if (a)=true then G (.tup [.int .i64 4,.str [44]])else(At ZI 0 (Za Zz G) Zy 0 49 [Zf s,Yb,(11,a4n)] []))) G (dm [dv Bool] 13 0x20001452222) ZI Zz Zy 0 49 [Zf s,(10,.pv Y3),(11,a0y)] [] (by delta YR Zf Yb a4n;exact rfl)
def d3v{G:PV->Prop}(s:List UInt8):=WA (∃ a:Bool,(AV.pv (Zl YR [.str s,.str [58]])=AV.pv (enc a))∧(if (a)=true then G (.tup [.int .i64 4,.str [58]])else(At ZI 0 (Za Zz G) Zy 0 49 [Zf s,Yb,(11,.pv (.int .i64 16))] []))) G (dm [dv Bool] 13 0x20001452222) ZI Zz Zy 0 49 [Zf s,(10,.pv Y3),(11,a4n)] [] (by delta YR Zf Yb;exact rfl)
def e1j{G:PV->Prop}(s:List UInt8):=WA (∃ a:Bool,(AV.pv (Zl YR [.str s,.str [46]])=AV.pv (enc a))∧(if (a)=true then G (.tup [.int .i64 4,.str [46]])else(At ZI 0 (Za Zz G) Zy 0 49 [Zf s,Yb,(11,.pv (.int .i64 17))] []))) G (dm [dv Bool] 13 0x20001452222) ZI Zz Zy 0 49 [Zf s,(10,.pv Y3),(11,.pv (.int .i64 16))] [] (by delta YR Zf Yb;exact rfl)
def d2l{G:PV->Prop}(s:List UInt8):=WA (∃ a:Bool,(AV.pv (Zl YR [.str s,.str [64]])=AV.pv (enc a))∧(if (a)=true then G (.tup [.int .i64 4,.str [64]])else(At ZI 0 (Za Zz G) Zy 0 49 [Zf s,Yb,(11,.pv (.int .i64 18))] []))) G (dm [dv Bool] 13 0x20001452222) ZI Zz Zy 0 49 [Zf s,(10,.pv Y3),(11,.pv (.int .i64 17))] [] (by delta YR Zf Yb;exact rfl)
def d9z{G:PV->Prop}(s:List UInt8):=WA (∃ a:Bool,(AV.pv (Zl YR [.str s,.str [35]])=AV.pv (enc a))∧(if (a)=true then G (.tup [.int .i64 4,.str [35]])else(At ZI 0 (Za Zz G) Zy 0 49 [Zf s,Yb,(11,.pv (.int .i64 19))] []))) G (dm [dv Bool] 13 0x20001452222) ZI Zz Zy 0 49 [Zf s,(10,.pv Y3),(11,.pv (.int .i64 18))] [] (by delta YR Zf Yb;exact rfl)
def d1s{G:PV->Prop}(s:List UInt8):=WA (∃ a:Bool,(AV.pv (Zl YR [.str s,.str [61]])=AV.pv (enc a))∧(if (a)=true then G (.tup [.int .i64 4,.str [61]])else(At ZI 0 (Za Zz G) Zy 0 49 [Zf s,Yb,(11,.pv (.int .i64 20))] []))) G (dm [dv Bool] 13 0x20001452222) ZI Zz Zy 0 49 [Zf s,(10,.pv Y3),(11,.pv (.int .i64 19))] [] (by delta YR Zf Yb;exact rfl)
def d9i{G:PV->Prop}(s:List UInt8):=WA (∃ a:Bool,(AV.pv (Zl YR [.str s,.str [60]])=AV.pv (enc a))∧(if (a)=true then G (.tup [.int .i64 4,.str [60]])else(At ZI 0 (Za Zz G) Zy 0 49 [Zf s,Yb,(11,.pv (.int .i64 21))] []))) G (dm [dv Bool] 13 0x20001452222) ZI Zz Zy 0 49 [Zf s,(10,.pv Y3),(11,.pv (.int .i64 20))] [] (by delta YR Zf Yb;exact rfl)
def e2o{G:PV->Prop}(s:List UInt8):=WA (∃ a:Bool,(AV.pv (Zl YR [.str s,.str [62]])=AV.pv (enc a))∧(if (a)=true then G (.tup [.int .i64 4,.str [62]])else(At ZI 0 (Za Zz G) Zy 0 49 [Zf s,Yb,(11,.pv (.int .i64 22))] []))) G (dm [dv Bool] 13 0x20001452222) ZI Zz Zy 0 49 [Zf s,(10,.pv Y3),(11,.pv (.int .i64 21))] [] (by delta YR Zf Yb;exact rfl)
def e1q{G:PV->Prop}(s:List UInt8):=WA (∃ a:Bool,(AV.pv (Zl YR [.str s,.str [43]])=AV.pv (enc a))∧(if (a)=true then G (.tup [.int .i64 4,.str [43]])else(At ZI 0 (Za Zz G) Zy 0 49 [Zf s,Yb,(11,.pv (.int .i64 23))] []))) G (dm [dv Bool] 13 0x20001452222) ZI Zz Zy 0 49 [Zf s,(10,.pv Y3),(11,.pv (.int .i64 22))] [] (by delta YR Zf Yb;exact rfl)
def d0z{G:PV->Prop}(s:List UInt8):=WA (∃ a:Bool,(AV.pv (Zl YR [.str s,.str [45]])=AV.pv (enc a))∧(if (a)=true then G (.tup [.int .i64 4,.str [45]])else(At ZI 0 (Za Zz G) Zy 0 49 [Zf s,Yb,(11,.pv (.int .i64 24))] []))) G (dm [dv Bool] 13 0x20001452222) ZI Zz Zy 0 49 [Zf s,(10,.pv Y3),(11,.pv (.int .i64 23))] [] (by delta YR Zf Yb;exact rfl)
def e5i{G:PV->Prop}(s:List UInt8):=WA (∃ a:Bool,(AV.pv (Zl YR [.str s,.str [42]])=AV.pv (enc a))∧(if (a)=true then G (.tup [.int .i64 4,.str [42]])else(At ZI 0 (Za Zz G) Zy 0 49 [Zf s,Yb,(11,.pv (.int .i64 25))] []))) G (dm [dv Bool] 13 0x20001452222) ZI Zz Zy 0 49 [Zf s,(10,.pv Y3),(11,.pv (.int .i64 24))] [] (by delta YR Zf Yb;exact rfl)
def e5s{G:PV->Prop}(s:List UInt8):=WA (∃ a:Bool,(AV.pv (Zl YR [.str s,.str [47]])=AV.pv (enc a))∧(if (a)=true then G (.tup [.int .i64 4,.str [47]])else(At ZI 0 (Za Zz G) Zy 0 49 [Zf s,Yb,(11,.pv (.int .i64 26))] []))) G (dm [dv Bool] 13 0x20001452222) ZI Zz Zy 0 49 [Zf s,(10,.pv Y3),(11,.pv (.int .i64 25))] [] (by delta YR Zf Yb;exact rfl)
def e4i{G:PV->Prop}(s:List UInt8):=WA (∃ a:Bool,(AV.pv (Zl YR [.str s,.str [37]])=AV.pv (enc a))∧(if (a)=true then G (.tup [.int .i64 4,.str [37]])else(At ZI 0 (Za Zz G) Zy 0 49 [Zf s,Yb,(11,.pv (.int .i64 27))] []))) G (dm [dv Bool] 13 0x20001452222) ZI Zz Zy 0 49 [Zf s,(10,.pv Y3),(11,.pv (.int .i64 26))] [] (by delta YR Zf Yb;exact rfl)
def e2p{G:PV->Prop}(s:List UInt8):=WA (∃ a:Bool,(AV.pv (Zl YR [.str s,.str [33]])=AV.pv (enc a))∧(if (a)=true then G (.tup [.int .i64 4,.str [33]])else(At ZI 0 (Za Zz G) Zy 0 49 [Zf s,Yb,(11,.pv (.int .i64 28))] []))) G (dm [dv Bool] 13 0x20001452222) ZI Zz Zy 0 49 [Zf s,(10,.pv Y3),(11,.pv (.int .i64 27))] [] (by delta YR Zf Yb;exact rfl)
def e1d{G:PV->Prop}(s:List UInt8):=WA (G (SF)) G (.lit (.lit (.nil))) ZI Zz Zy 0 49 [Zf s,(10,.pv Y3),(11,.pv (.int .i64 28))] [] (by delta SF;exact rfl)
noncomputable def KP:IC:=XH Proofs.Tryz.f48
def KJ:List IRes:=[(.tmp 2),(.tmp 3),(.tmp 4)]
abbrev g0t:Nat:=59
noncomputable def Dy:ZM:=YN [(64,.pure (preT (fun x:Str×Unit=>decide (x.1.s.length<=1048576))) (Zl (fun x:Str×Unit=>Hf x.1))),(65,.pure (preT (fun x:Str×Str×Unit=>decide (x.1.s.length<=1048576)&&decide (x.2.1.s=[10]))) (Zl (fun x:Str×Str×Unit=>(Lib.countByte x.1.s 10:Int)))),(66,.pure (preT (fun x:Str×Unit=>decide (x.1.s.length<=1048576))) (Zl (fun x:Str×Unit=>Ws x.1)))]
def g4p{G:PV->Prop}(s:List UInt8):=Vw (if (decide ((↑(List.length s):Int)>20000))=true then G (.tup [.sl 0 true [],.int .i64 0,.int .i64 3])else(At Dy 0 (Za KJ G) KP 0 59 [Zf s,(2,Ya),(3,ZB),(5,Xk)] [])) G (dm [] 8 0x142) Dy KJ KP (Ye 59 [.str s]) (by delta Zf Ya ZB Xk;exact rfl)
def a0s(a:Int)(Zm:List UInt8):Bool:=decide (0<=a)&&true&&decide (Int.toNat a<=List.length Zm)&&decide (List.length Zm<=List.length Zm)
def M6(a:Int)(Zm:List UInt8):List PV:=[.str (List.drop (Int.toNat a) (List.take (List.length Zm) Zm))]
def a0h(b:Int)(Zm:List UInt8)(e:Int):Prop:=AV.pv (Zl (fun(a:Str×Unit)=>Hf a.1) (M6 b Zm))=AV.pv (enc e)
def a2l(a Zm:Int)(b:List UInt8):Bool:=decide (0<=a)&&decide (0<=IntKind.wrap IntKind.i64 (a+Zm))&&decide (Int.toNat a<=Int.toNat (Jh a Zm))&&decide (Int.toNat (Jh a Zm)<=List.length b)
def a5g:=fun(a:Str×Str×Unit)=>decide (List.length (Str.s a.1)<=1048576)&&decide (Str.s a.2.1=[(10:UInt8)])
def Te(a Zm:Int)(b:List UInt8):List PV:=[.str (List.drop (Int.toNat a) (List.take (Int.toNat (Jh a Zm)) b)),.str [10]]
def a3y:=fun(a:Str×Str×Unit)=>(↑(Lib.countByte (Str.s a.1) (10:UInt8)):Int)
def a5q(b Zm:Int)(a:List UInt8):Bool:=decide (0<=IntKind.wrap IntKind.i64 (b+Zm))&&true&&decide (Int.toNat (Jh b Zm)<=List.length a)&&decide (List.length a<=List.length a)
def SL(b Zm:Int)(a:List UInt8):List PV:=[.str (List.drop (Int.toNat (Jh b Zm)) (List.take (List.length a) a))]
def a5i:=fun(a:Str×Unit)=>Ws a.1
def a3m(a Zm:Int)(b:Int×Str):Nat×AV:=(3,.pv (.int .i64 (IntKind.wrap IntKind.i64 (IntKind.wrap IntKind.i64 (a+Zm)+(↑(List.length (Str.s b.2)):Int)))))
def f1i{G:PV->Prop}(s:List UInt8)(n ln:Int):=WA ((a0s n s)=true∧((Go.Pl.preT Qp (M6 n s))=true∧(∃ a:Int,(a0h n s a)∧((a2l n a s)=true∧((Go.Pl.preT a5g (Te n a s))=true∧(∃ e:Int,(AV.pv (Zl a3y (Te n a s))=AV.pv (enc e))∧(if (IntKind.wrap IntKind.i64 (n+a)==(↑(List.length s):Int))=true then G (.tup [.sl 0 true [],.int .i64 0,.int .i64 0])else((a5q n a s)=true∧((Go.Pl.preT Qp (SL n a s))=true∧(∃ b:Int×Str,(AV.pv (Zl a5i (SL n a s))=AV.pv (enc b))∧(if (b.1==0)=true then G (.tup [.sl 0 true [],Ka n a,.int .i64 6])else(At Dy 0 (Za KJ G) KP 0 59 [Zf s,(2,.row 0 1 0 1),a3m n a b,(5,.pv (Ka ln e))] [.obj (.row false 84 4 [.agg [.int .i64 b.1,.str (Str.s b.2),Ka ln e,Ka n a]])])))))))))))) G (dm [dv Int,dv (Int×Str)] 34 0x22222222000142611000142225112511) Dy KJ KP 0 59 [Zf s,(2,Ya),(3,ZJ n),(5,ZJ ln)] [] (by delta a0s Qp M6 a0h Jh a2l a5g Te a3y a5q SL a5i Ka Zf a3m;exact rfl)
def Ni(a:Int×Str)(Zm b e g:Int):List PV:=List.drop 0 (List.take 1 [PV.agg [enc a.1,enc a.2,PV.int .i64 (Jh Zm b),PV.int .i64 (Jh e g)]])
def f2c{G:PV->Prop}(s:List UInt8)(n ln:Int)(o:List Tok)(L:Nat):=WA ((a0s n s)=true∧((Go.Pl.preT Qp (M6 n s))=true∧(∃ a:Int,(a0h n s a)∧((a2l n a s)=true∧((Go.Pl.preT a5g (Te n a s))=true∧(∃ e:Int,(AV.pv (Zl a3y (Te n a s))=AV.pv (enc e))∧(if (IntKind.wrap IntKind.i64 (n+a)==(↑(List.length s):Int))=true then(List.length (List.map enc o)==L)=true∧(G (.tup [.sl 4 false (List.drop 0 (List.take L (List.map enc o))),.int .i64 0,.int .i64 0]))else((a5q n a s)=true∧((Go.Pl.preT Qp (SL n a s))=true∧(∃ b:Int×Str,(AV.pv (Zl a5i (SL n a s))=AV.pv (enc b))∧(if (b.1==0)=true then G (.tup [.sl 0 true [],Ka n a,.int .i64 6])else(if ((↑(L - 0):Int)==4000)=true then G (.tup [.sl 0 true [],Ka n a,.int .i64 3])else((List.length (List.map enc o)==L&&L==L&&decide ((L+List.length (Ni b ln e n a))*40<=1099511627776)&&decide (L+List.length (Ni b ln e n a)<=1099511627776))=true∧(At Dy 0 (Za KJ G) KP 0 59 [Zf s,(2,.row 0 (L+List.length (Ni b ln e n a)) 0 (L+List.length (Ni b ln e n a))),a3m n a b,(5,.pv (Ka ln e))] [.obj (.row false 84 4 (List.map enc o++List.drop 0 (List.take 1 [PV.agg [enc b.1,enc b.2,PV.int .i64 (Jh ln e),PV.int .i64 (Jh n a)]])))])))))))))))))) G (dm [dv Int,dv (Int×Str)] 37 0x21220001420001426110100242225112511) Dy KJ KP 0 59 [Zf s,(2,.row 0 L 0 L),(3,ZJ n),(5,ZJ ln)] [.obj (.row false 84 4 (o.map enc))] (by delta a0s Qp M6 a0h Jh a2l a5g Te a3y a5q SL a5i Ka Ni Zf a3m;exact rfl)
theorem WS{k:Int}{w:List UInt8}:Zd ((k,⟨w⟩):Int×Str) (.tup [.int .i64 k,.str w]):=⟨rfl,rfl⟩
theorem g2l(s:List UInt8):At ZI 0 (Za Zz (Zd (Zw [] s))) Zy 0 49 [(0,.pv (.str s)),(10,.pv Y3),(11,.pv (.int .i64 28))] []:=e1d s WS
theorem g3b(s:List UInt8):At ZI 0 (Za Zz (Zd (Zw (ZA.drop 27) s))) Zy 0 49 [(0,.pv (.str s)),(10,.pv Y3),(11,.pv (.int .i64 27))] []:=e2p s (Zc ((⟨s⟩:Str),(⟨[33]⟩:Str),()) rfl (ZW (fun h=>by rw[show Zw (ZA.drop 27) s=(4,⟨[33]⟩)from Y7 h];exact WS) fun h=>by rw[show Zw (ZA.drop 27) s=Zw (ZA.drop 28) s from Y6 h];exact g2l s))
theorem g0p(s:List UInt8):At ZI 0 (Za Zz (Zd (Zw (ZA.drop 26) s))) Zy 0 49 [(0,.pv (.str s)),(10,.pv Y3),(11,.pv (.int .i64 26))] []:=e4i s (Zc ((⟨s⟩:Str),(⟨[37]⟩:Str),()) rfl (ZW (fun h=>by rw[show Zw (ZA.drop 26) s=(4,⟨[37]⟩)from Y7 h];exact WS) fun h=>by rw[show Zw (ZA.drop 26) s=Zw (ZA.drop 27) s from Y6 h];exact g3b s))
theorem f9g(s:List UInt8):At ZI 0 (Za Zz (Zd (Zw (ZA.drop 25) s))) Zy 0 49 [(0,.pv (.str s)),(10,.pv Y3),(11,.pv (.int .i64 25))] []:=e5s s (Zc ((⟨s⟩:Str),(⟨[47]⟩:Str),()) rfl (ZW (fun h=>by rw[show Zw (ZA.drop 25) s=(4,⟨[47]⟩)from Y7 h];exact WS) fun h=>by rw[show Zw (ZA.drop 25) s=Zw (ZA.drop 26) s from Y6 h];exact g0p s))
theorem g3z(s:List UInt8):At ZI 0 (Za Zz (Zd (Zw (ZA.drop 24) s))) Zy 0 49 [(0,.pv (.str s)),(10,.pv Y3),(11,.pv (.int .i64 24))] []:=e5i s (Zc ((⟨s⟩:Str),(⟨[42]⟩:Str),()) rfl (ZW (fun h=>by rw[show Zw (ZA.drop 24) s=(4,⟨[42]⟩)from Y7 h];exact WS) fun h=>by rw[show Zw (ZA.drop 24) s=Zw (ZA.drop 25) s from Y6 h];exact f9g s))
theorem g1n(s:List UInt8):At ZI 0 (Za Zz (Zd (Zw (ZA.drop 23) s))) Zy 0 49 [(0,.pv (.str s)),(10,.pv Y3),(11,.pv (.int .i64 23))] []:=d0z s (Zc ((⟨s⟩:Str),(⟨[45]⟩:Str),()) rfl (ZW (fun h=>by rw[show Zw (ZA.drop 23) s=(4,⟨[45]⟩)from Y7 h];exact WS) fun h=>by rw[show Zw (ZA.drop 23) s=Zw (ZA.drop 24) s from Y6 h];exact g3z s))
theorem f9v(s:List UInt8):At ZI 0 (Za Zz (Zd (Zw (ZA.drop 22) s))) Zy 0 49 [(0,.pv (.str s)),(10,.pv Y3),(11,.pv (.int .i64 22))] []:=e1q s (Zc ((⟨s⟩:Str),(⟨[43]⟩:Str),()) rfl (ZW (fun h=>by rw[show Zw (ZA.drop 22) s=(4,⟨[43]⟩)from Y7 h];exact WS) fun h=>by rw[show Zw (ZA.drop 22) s=Zw (ZA.drop 23) s from Y6 h];exact g1n s))
theorem f8w(s:List UInt8):At ZI 0 (Za Zz (Zd (Zw (ZA.drop 21) s))) Zy 0 49 [(0,.pv (.str s)),(10,.pv Y3),(11,.pv (.int .i64 21))] []:=e2o s (Zc ((⟨s⟩:Str),(⟨[62]⟩:Str),()) rfl (ZW (fun h=>by rw[show Zw (ZA.drop 21) s=(4,⟨[62]⟩)from Y7 h];exact WS) fun h=>by rw[show Zw (ZA.drop 21) s=Zw (ZA.drop 22) s from Y6 h];exact f9v s))
theorem g2e(s:List UInt8):At ZI 0 (Za Zz (Zd (Zw (ZA.drop 20) s))) Zy 0 49 [(0,.pv (.str s)),(10,.pv Y3),(11,.pv (.int .i64 20))] []:=d9i s (Zc ((⟨s⟩:Str),(⟨[60]⟩:Str),()) rfl (ZW (fun h=>by rw[show Zw (ZA.drop 20) s=(4,⟨[60]⟩)from Y7 h];exact WS) fun h=>by rw[show Zw (ZA.drop 20) s=Zw (ZA.drop 21) s from Y6 h];exact f8w s))
theorem g1v(s:List UInt8):At ZI 0 (Za Zz (Zd (Zw (ZA.drop 19) s))) Zy 0 49 [(0,.pv (.str s)),(10,.pv Y3),(11,.pv (.int .i64 19))] []:=d1s s (Zc ((⟨s⟩:Str),(⟨[61]⟩:Str),()) rfl (ZW (fun h=>by rw[show Zw (ZA.drop 19) s=(4,⟨[61]⟩)from Y7 h];exact WS) fun h=>by rw[show Zw (ZA.drop 19) s=Zw (ZA.drop 20) s from Y6 h];exact g2e s))
theorem g1j(s:List UInt8):At ZI 0 (Za Zz (Zd (Zw (ZA.drop 18) s))) Zy 0 49 [(0,.pv (.str s)),(10,.pv Y3),(11,.pv (.int .i64 18))] []:=d9z s (Zc ((⟨s⟩:Str),(⟨[35]⟩:Str),()) rfl (ZW (fun h=>by rw[show Zw (ZA.drop 18) s=(4,⟨[35]⟩)from Y7 h];exact WS) fun h=>by rw[show Zw (ZA.drop 18) s=Zw (ZA.drop 19) s from Y6 h];exact g1v s))
theorem f9q(s:List UInt8):At ZI 0 (Za Zz (Zd (Zw (ZA.drop 17) s))) Zy 0 49 [(0,.pv (.str s)),(10,.pv Y3),(11,.pv (.int .i64 17))] []:=d2l s (Zc ((⟨s⟩:Str),(⟨[64]⟩:Str),()) rfl (ZW (fun h=>by rw[show Zw (ZA.drop 17) s=(4,⟨[64]⟩)from Y7 h];exact WS) fun h=>by rw[show Zw (ZA.drop 17) s=Zw (ZA.drop 18) s from Y6 h];exact g1j s))
theorem g2j(s:List UInt8):At ZI 0 (Za Zz (Zd (Zw (ZA.drop 16) s))) Zy 0 49 [(0,.pv (.str s)),(10,.pv Y3),(11,.pv (.int .i64 16))] []:=e1j s (Zc ((⟨s⟩:Str),(⟨[46]⟩:Str),()) rfl (ZW (fun h=>by rw[show Zw (ZA.drop 16) s=(4,⟨[46]⟩)from Y7 h];exact WS) fun h=>by rw[show Zw (ZA.drop 16) s=Zw (ZA.drop 17) s from Y6 h];exact f9q s))
theorem f9m(s:List UInt8):At ZI 0 (Za Zz (Zd (Zw (ZA.drop 15) s))) Zy 0 49 [(0,.pv (.str s)),(10,.pv Y3),(11,.pv (.int .i64 15))] []:=d3v s (Zc ((⟨s⟩:Str),(⟨[58]⟩:Str),()) rfl (ZW (fun h=>by rw[show Zw (ZA.drop 15) s=(4,⟨[58]⟩)from Y7 h];exact WS) fun h=>by rw[show Zw (ZA.drop 15) s=Zw (ZA.drop 16) s from Y6 h];exact g2j s))
theorem f9c(s:List UInt8):At ZI 0 (Za Zz (Zd (Zw (ZA.drop 14) s))) Zy 0 49 [(0,.pv (.str s)),(10,.pv Y3),(11,.pv (.int .i64 14))] []:=e2z s (Zc ((⟨s⟩:Str),(⟨[44]⟩:Str),()) rfl (ZW (fun h=>by rw[show Zw (ZA.drop 14) s=(4,⟨[44]⟩)from Y7 h];exact WS) fun h=>by rw[show Zw (ZA.drop 14) s=Zw (ZA.drop 15) s from Y6 h];exact f9m s))
theorem g1l(s:List UInt8):At ZI 0 (Za Zz (Zd (Zw (ZA.drop 13) s))) Zy 0 49 [(0,.pv (.str s)),(10,.pv Y3),(11,.pv (.int .i64 13))] []:=e3x s (Zc ((⟨s⟩:Str),(⟨[125]⟩:Str),()) rfl (ZW (fun h=>by rw[show Zw (ZA.drop 13) s=(4,⟨[125]⟩)from Y7 h];exact WS) fun h=>by rw[show Zw (ZA.drop 13) s=Zw (ZA.drop 14) s from Y6 h];exact f9c s))
theorem g3d(s:List UInt8):At ZI 0 (Za Zz (Zd (Zw (ZA.drop 12) s))) Zy 0 49 [(0,.pv (.str s)),(10,.pv Y3),(11,.pv (.int .i64 12))] []:=d8k s (Zc ((⟨s⟩:Str),(⟨[123]⟩:Str),()) rfl (ZW (fun h=>by rw[show Zw (ZA.drop 12) s=(4,⟨[123]⟩)from Y7 h];exact WS) fun h=>by rw[show Zw (ZA.drop 12) s=Zw (ZA.drop 13) s from Y6 h];exact g1l s))
theorem f7v(s:List UInt8):At ZI 0 (Za Zz (Zd (Zw (ZA.drop 11) s))) Zy 0 49 [(0,.pv (.str s)),(10,.pv Y3),(11,.pv (.int .i64 11))] []:=d7g s (Zc ((⟨s⟩:Str),(⟨[93]⟩:Str),()) rfl (ZW (fun h=>by rw[show Zw (ZA.drop 11) s=(4,⟨[93]⟩)from Y7 h];exact WS) fun h=>by rw[show Zw (ZA.drop 11) s=Zw (ZA.drop 12) s from Y6 h];exact g3d s))
theorem f9e(s:List UInt8):At ZI 0 (Za Zz (Zd (Zw (ZA.drop 10) s))) Zy 0 49 [(0,.pv (.str s)),(10,.pv Y3),(11,.pv (.int .i64 10))] []:=d8f s (Zc ((⟨s⟩:Str),(⟨[91]⟩:Str),()) rfl (ZW (fun h=>by rw[show Zw (ZA.drop 10) s=(4,⟨[91]⟩)from Y7 h];exact WS) fun h=>by rw[show Zw (ZA.drop 10) s=Zw (ZA.drop 11) s from Y6 h];exact f7v s))
theorem g8p(s:List UInt8):At ZI 0 (Za Zz (Zd (Zw (ZA.drop 9) s))) Zy 0 49 [(0,.pv (.str s)),(10,.pv Y3),(11,.pv (.int .i64 9))] []:=d6j s (Zc ((⟨s⟩:Str),(⟨[41]⟩:Str),()) rfl (ZW (fun h=>by rw[show Zw (ZA.drop 9) s=(4,⟨[41]⟩)from Y7 h];exact WS) fun h=>by rw[show Zw (ZA.drop 9) s=Zw (ZA.drop 10) s from Y6 h];exact f9e s))
theorem g9g(s:List UInt8):At ZI 0 (Za Zz (Zd (Zw (ZA.drop 8) s))) Zy 0 49 [(0,.pv (.str s)),(10,.pv Y3),(11,.pv (.int .i64 8))] []:=d9o s (Zc ((⟨s⟩:Str),(⟨[40]⟩:Str),()) rfl (ZW (fun h=>by rw[show Zw (ZA.drop 8) s=(4,⟨[40]⟩)from Y7 h];exact WS) fun h=>by rw[show Zw (ZA.drop 8) s=Zw (ZA.drop 9) s from Y6 h];exact g8p s))
theorem g6d(s:List UInt8):At ZI 0 (Za Zz (Zd (Zw (ZA.drop 7) s))) Zy 0 49 [(0,.pv (.str s)),(10,.pv Y3),(11,.pv (.int .i64 7))] []:=e0o s (Zc ((⟨s⟩:Str),(⟨[124,124]⟩:Str),()) rfl (ZW (fun h=>by rw[show Zw (ZA.drop 7) s=(4,⟨[124,124]⟩)from Y7 h];exact WS) fun h=>by rw[show Zw (ZA.drop 7) s=Zw (ZA.drop 8) s from Y6 h];exact g9g s))
theorem g5o(s:List UInt8):At ZI 0 (Za Zz (Zd (Zw (ZA.drop 6) s))) Zy 0 49 [(0,.pv (.str s)),(10,.pv Y3),(11,.pv (.int .i64 6))] []:=d6v s (Zc ((⟨s⟩:Str),(⟨[38,38]⟩:Str),()) rfl (ZW (fun h=>by rw[show Zw (ZA.drop 6) s=(4,⟨[38,38]⟩)from Y7 h];exact WS) fun h=>by rw[show Zw (ZA.drop 6) s=Zw (ZA.drop 7) s from Y6 h];exact g6d s))
theorem g7j(s:List UInt8):At ZI 0 (Za Zz (Zd (Zw (ZA.drop 5) s))) Zy 0 49 [(0,.pv (.str s)),(10,.pv Y3),(11,.pv (.int .i64 5))] []:=e5m s (Zc ((⟨s⟩:Str),(⟨[45,62]⟩:Str),()) rfl (ZW (fun h=>by rw[show Zw (ZA.drop 5) s=(4,⟨[45,62]⟩)from Y7 h];exact WS) fun h=>by rw[show Zw (ZA.drop 5) s=Zw (ZA.drop 6) s from Y6 h];exact g5o s))
theorem g7u(s:List UInt8):At ZI 0 (Za Zz (Zd (Zw (ZA.drop 4) s))) Zy 0 49 [(0,.pv (.str s)),(10,.pv Y3),(11,.pv (.int .i64 4))] []:=e5o s (Zc ((⟨s⟩:Str),(⟨[62,61]⟩:Str),()) rfl (ZW (fun h=>by rw[show Zw (ZA.drop 4) s=(4,⟨[62,61]⟩)from Y7 h];exact WS) fun h=>by rw[show Zw (ZA.drop 4) s=Zw (ZA.drop 5) s from Y6 h];exact g7j s))
theorem g7q(s:List UInt8):At ZI 0 (Za Zz (Zd (Zw (ZA.drop 3) s))) Zy 0 49 [(0,.pv (.str s)),(10,.pv Y3),(11,.pv (.int .i64 3))] []:=d7l s (Zc ((⟨s⟩:Str),(⟨[60,61]⟩:Str),()) rfl (ZW (fun h=>by rw[show Zw (ZA.drop 3) s=(4,⟨[60,61]⟩)from Y7 h];exact WS) fun h=>by rw[show Zw (ZA.drop 3) s=Zw (ZA.drop 4) s from Y6 h];exact g7u s))
theorem g6r(s:List UInt8):At ZI 0 (Za Zz (Zd (Zw (ZA.drop 2) s))) Zy 0 49 [(0,.pv (.str s)),(10,.pv Y3),(11,.pv (.int .i64 2))] []:=d6g s (Zc ((⟨s⟩:Str),(⟨[33,61]⟩:Str),()) rfl (ZW (fun h=>by rw[show Zw (ZA.drop 2) s=(4,⟨[33,61]⟩)from Y7 h];exact WS) fun h=>by rw[show Zw (ZA.drop 2) s=Zw (ZA.drop 3) s from Y6 h];exact g7q s))
theorem g9h(s:List UInt8):At ZI 0 (Za Zz (Zd (Zw (ZA.drop 1) s))) Zy 0 49 [(0,.pv (.str s)),(10,.pv Y3),(11,.pv (.int .i64 1))] []:=d0y s (Zc ((⟨s⟩:Str),(⟨[61,61]⟩:Str),()) rfl (ZW (fun h=>by rw[show Zw (ZA.drop 1) s=(4,⟨[61,61]⟩)from Y7 h];exact WS) fun h=>by rw[show Zw (ZA.drop 1) s=Zw (ZA.drop 2) s from Y6 h];exact g6r s))
theorem g4m(s:List UInt8):At ZI 0 (Za Zz (Zd (Zw (ZA.drop 0) s))) Zy 0 49 [(0,.pv (.str s)),(10,.pv Y3),(11,.pv (.int .i64 0))] []:=d4j s (Zc ((⟨s⟩:Str),(⟨[46,46]⟩:Str),()) rfl (ZW (fun h=>by rw[show Zw (ZA.drop 0) s=(4,⟨[46,46]⟩)from Y7 h];exact WS) fun h=>by rw[show Zw (ZA.drop 0) s=Zw (ZA.drop 1) s from Y6 h];exact g9h s))
theorem f1c: ∀ x:Str×Unit,decide (x.1.s.length<=1048576)=true->Zi ZI 0 (Za Zz (Zd (Ws x.1))) Zy [] (Ye f8r (encL x)):=by
 rintro⟨⟨s⟩,⟨⟩⟩ hs
 have hs:s.length<=1048576:=by simpa using hs
 show Zi ZI 0 (Za Zz (Zd (Ws ⟨s⟩))) Zy [] _
 cases s with
 | nil=>exact f6f [] (Yh rfl WS)
 | cons c r=>
  have e:=Lx ⟨c::r⟩ true
  have g:=Lx ⟨c::r⟩ false
  unfold Ws
  dsimp only
  refine f6f (c::r) (Yi (by simp) ⟨by simp,⟨Zh (c,()) rfl rfl,?_⟩⟩)
  have b : ∀ {P:Bool->Prop} {F:UInt8->Bool},P (F c)-> ∃ y,AV.pv (Zl (fun x:UInt8×Unit=>F x.1) [.int .u8 ((List.getD (c::r) (Int.toNat 0) 0).toNat:Int)])=AV.pv (enc y)∧P y:=fun {P F} h=>Zc (c,()) rfl h
  refine b (ZW (fun h=>⟨Zh ((⟨c::r⟩:Str),true,()) rfl (decide_eq_true hs),Zc ((⟨c::r⟩:Str),true,()) rfl (Zc (XZ ⟨c::r⟩ true,()) rfl (ZW (fun h2=> ?_) fun h2=>⟨Zh (XZ ⟨c::r⟩ true,()) rfl (decide_eq_true (Nat.le_trans e hs)),Zc (XZ ⟨c::r⟩ true,()) rfl (ZW (fun h3=> ?_) fun h3=> ?_)⟩))⟩) fun h=>⟨by simp,⟨Zh (c,()) rfl rfl,?_⟩⟩)
  ·rw[if_pos h,if_pos h2];exact WS
  ·rw[if_pos h,if_neg (by rw[h2];decide),if_pos h3];exact WS
  ·rw[if_pos h,if_neg (by rw[h2];decide),if_neg (by rw[h3];decide)];exact WS
  rw[if_neg (by rw[h];decide)]
  refine b (ZW (fun a=>⟨Zh ((⟨c::r⟩:Str),false,()) rfl (decide_eq_true hs),Zc ((⟨c::r⟩:Str),false,()) rfl ⟨Zh (XZ ⟨c::r⟩ false,()) rfl (decide_eq_true (Nat.le_trans g hs)),Zc (XZ ⟨c::r⟩ false,()) rfl (ZW (fun h2=> ?_) fun h2=> ?_)⟩⟩) fun a=> ?_)
  ·rw[if_pos a,if_pos h2];exact WS
  ·rw[if_pos a,if_neg (by rw[h2];decide)];exact WS
  ·rw[if_neg (by rw[a];decide)]
   exact g4m (c::r)
theorem d8t(s:List UInt8)(hs:s.length<=1048576)(R:Nat): ∀ (f n:Nat),n<=s.length->s.length<n+f->R=QT f s n ->
  At Gc 0 (Za QO (Zd ((R:Nat):Int))) QU 0 46 [(0,.pv (.str s)),(3,.pv (.int .i64 (n:Int)))] []:=by
 intro f
 induction f with
 | zero=>intro n h1 h2;omega
 | succ f ih=>
  intro n h1 h2 a
  have r:List.drop n (List.take s.length s)=s.drop n:=by rw[List.take_length]
  have wr:IntKind.wrap IntKind.i64 ((n:Int)+1)=((n+1:Nat):Int):=by rw[Vu (by omega) (by omega)];omega
  rw[QT]at a
  refine g2b s n ?_
  rw[Int.toNat_natCast,r,wr]
  refine Yd (fun l=> ?_) fun l=> ?_
  ·have l:n<s.length:=by omega
   have hi:(decide (0<=(n:Int))&&decide (n<s.length))=true:=by simp;omega
   have i:(decide (0<=(n:Int))&&true&&decide (n<=s.length)&&decide (s.length<=s.length))=true:=by simp;omega
   rw[if_neg (by omega)]at a
   have g : ∀ k:UInt8,((s.getD n 0).toNat:Int)=(k.toNat:Int) ↔ s.getD n 0=k:=fun k=>⟨fun h=>UInt8.toNat_inj.1 (by omega),fun h=>by rw[h]⟩
   have go:(s.getD n 0=32∨s.getD n 0=9∨s.getD n 0=10)->At Gc 0 (Za QO (Zd ((R:Nat):Int))) QU 0 46 [(0,.pv (.str s)),(3,.pv (.int .i64 ((n+1:Nat):Int)))] []:=fun h=>by
    rw[if_pos h]at a
    exact ih (n+1) (by omega) (by omega) a
   refine⟨hi,Yc (fun q=>go (Or.inl ((g 32).1 q))) fun z=>⟨hi,Yc (fun q=>go (Or.inr (Or.inl ((g 9).1 q)))) fun y=>⟨hi,Yc (fun q=>go (Or.inr (Or.inr ((g 10).1 q)))) fun u=>⟨i,?_⟩⟩⟩⟩
   have j : ¬ (s.getD n 0=32∨s.getD n 0=9∨s.getD n 0=10):=fun h=>by
    rcases h with h|h|h
    ·exact z ((g 32).2 h)
    ·exact y ((g 9).2 h)
    ·exact u ((g 10).2 h)
   rw[if_neg j]at a
   have hb:=c0n 10 (s.drop n)
   rw[List.length_drop]at hb
   have hd:(s.drop n).length<=1048576:=by rw[List.length_drop];omega
   refine Zc ((⟨s.drop n⟩:Str),(⟨[47,47]⟩:Str),()) rfl (ZW (fun b=>⟨i,Zh ((⟨s.drop n⟩:Str),(10:UInt8),()) rfl (decide_eq_true hd),Zc ((⟨s.drop n⟩:Str),(10:UInt8),()) rfl (Yd (fun e=> ?_) fun e=> ?_)⟩) fun b=> ?_)
   ·have e:Lib.indexByte (s.drop n) 10<0:=e
    have b:List.isPrefixOf [47,47] (s.drop n)=true:=b
    rw[if_pos b,if_pos e]at a
    rw[a];exact YX rfl
   ·have e : ¬ Lib.indexByte (s.drop n) 10<0:=e
    have b:List.isPrefixOf [47,47] (s.drop n)=true:=b
    rw[if_pos b,if_neg e]at a
    have hg:0<Lib.indexByte (s.drop n) 10:=g3c (by
     rw[List.getD_eq_getElem?_getD,List.getElem?_drop,Nat.add_zero,<- List.getD_eq_getElem?_getD]
     exact fun h=>j (Or.inr (Or.inr h))) (by intro h;rw[h]at b;exact absurd b (by decide)) (by omega)
    show At Gc 0 (Za QO (Zd ((R:Nat):Int))) QU 0 46 [(0,.pv (.str s)),(3,.pv (.int .i64 (IntKind.wrap IntKind.i64 ((n:Int)+Lib.indexByte (s.drop n) 10))))] []
    rw[show IntKind.wrap IntKind.i64 ((n:Int)+Lib.indexByte (s.drop n) 10)=((n+(Lib.indexByte (s.drop n) 10).toNat:Nat):Int) by rw[Vu (by omega) (by omega)];omega]
    exact ih _ (by omega) (by omega) a
   ·have b:List.isPrefixOf [47,47] (s.drop n)=false:=b
    rw[if_neg (by rw[b];decide)]at a
    rw[a];exact YX rfl
  ·rw[if_pos (by omega)]at a
   rw[a];exact YX rfl
theorem e9d: ∀ x:Str×Unit,decide (x.1.s.length<=1048576)=true->Zi Gc 0 (Za QO (Zd (Hf x.1))) QU [] (Ye f8g (encL x)):=by
 rintro⟨⟨s⟩,⟨⟩⟩ hs
 have hs:s.length<=1048576:=by simpa using hs
 exact g4u s (d8t s hs _ (s.length+1) 0 (Nat.zero_le _) (by omega) rfl)
theorem a3a{c:UInt8}{r:List UInt8}{b:Bool}(h:digB c=true∨(b=true∧lowB c=true)):1<=(XZ ⟨c::r⟩ b).s.length:=by
 unfold XZ
 dsimp only
 rw[List.takeWhile_cons_of_pos (by rcases h with h|⟨h1,h2⟩;rw[h];rfl;rw[h1,h2];simp)]
 simp
theorem a7j: ∀ {l:List (List UInt8)} {s:List UInt8},(∀ x∈l,1<=x.length)->(Zw l s).1≠0->1<=(Zw l s).2.s.length
 | [],s,_,h=>absurd rfl h
 | x::l,s,hl,h=>by
  rw[Zw]at h ⊢
  split
  ·exact hl x (List.mem_cons_self ..)
  ·rename_i h1
   rw[if_neg h1]at h
   exact a7j (fun y a=>hl y (List.mem_cons_of_mem _ a)) h
theorem FW{s:Str}(h:(Ws s).1≠0):1<=(Ws s).2.s.length:=by
 obtain⟨s⟩:=s
 cases s with
 | nil=>exact absurd rfl h
 | cons c r=>
  unfold Ws at h ⊢
  dsimp only at h ⊢
  split at h
  ·rename_i h1
   rw[if_pos h1]
   split at h
   ·rename_i h2;rw[if_pos h2];exact a3a (Or.inr ⟨rfl,h1⟩)
   ·rename_i h2
    split at h
    ·rename_i h3;rw[if_neg h2,if_pos h3];exact a3a (Or.inr ⟨rfl,h1⟩)
    ·exact absurd rfl h
  ·rename_i h1
   rw[if_neg h1]
   split at h
   ·rename_i h2
    rw[if_pos h2]
    split at h
    ·rename_i h3;rw[if_pos h3];exact a3a (Or.inl h2)
    ·exact absurd rfl h
   ·rename_i h2
    rw[if_neg h2]
    exact a7j (by decide) h
theorem a6d(l:List UInt8)(c:UInt8):Lib.countByte l c<=l.length:=List.count_le_length
theorem Fx{l:List Tok}{a b:Int}{p:PV}(h:Zd l p):Zd (⟨l,a,b⟩:R3 (List Tok) Int Int) (.tup [p,.int .i64 a,.int .i64 b]):=by
 refine⟨?_,?_⟩
 ·show(is (List Tok) p&&true&&true)=true
  rw[h.1];rfl
 ·show(⟨dec p,a,b⟩:R3 (List Tok) Int Int)=⟨l,a,b⟩
  rw[h.2]
theorem Dr(t:List UInt8):Hf ⟨t⟩=((QT (t.length+1) t 0:Nat):Int):=rfl
theorem g8a(s:List UInt8)(hs:s.length<=20000)(R:R3 (List Tok) Int Int): ∀ (f i:Nat) (ln:Int) (o:List Tok) (L:Nat),i<=s.length->s.length<i+f->1<=ln->ln<=i+1->L=o.length->L<=i->R=N8 f s i ln o ->
  At Dy 0 (Za KJ (Zd R)) KP 0 59 [(0,.pv (.str s)),(2,.row 0 L 0 L),(3,.pv (.int .i64 (i:Int))),(5,.pv (.int .i64 ln))] [.obj (.row false 84 4 (o.map enc))]:=by
 intro f
 induction f with
 | zero=>intro i ln o L h1 h2;omega
 | succ f ih=>
  intro i ln o L h1 h2 hn hm u hi a
  have C:List.drop i (List.take s.length s)=s.drop i:=by rw[List.take_length]
  have hb:=Bi ((s.drop i).length+1) (s.drop i) 0 (Nat.zero_le _)
  rw[List.length_drop]at hb
  rw[N8]at a
  try dsimp only at a
  rw[Dr,Int.toNat_natCast,List.length_drop]at a
  generalize E:QT (s.length - i+1) (s.drop i) 0=k at a hb
  have A:Hf ⟨s.drop i⟩=(k:Int):=by rw[Dr,List.length_drop,E]
  have H:IntKind.wrap IntKind.i64 ((i:Int)+(k:Int))=((i+k:Nat):Int):=by rw[Vu (by omega) (by omega)];omega
  have z:List.drop i (List.take (i+k) s)=(s.drop i).take k:=by rw[List.drop_take,Nat.add_sub_cancel_left]
  have B:List.drop (i+k) (List.take s.length s)=s.drop (i+k):=by rw[List.take_length]
  have hc:Lib.countByte ((s.drop i).take k) 10<=k:=Nat.le_trans (a6d _ _) (by rw[List.length_take];omega)
  have l:(s.drop i).length<=1048576:=by rw[List.length_drop];omega
  have e:((s.drop i).take k).length<=1048576:=by rw[List.length_take];omega
  have g:(s.drop (i+k)).length<=1048576:=by rw[List.length_drop];omega
  have h:=M9 ⟨s.drop (i+k)⟩
  have b:= @FW ⟨s.drop (i+k)⟩
  rw[List.length_drop]at h
  generalize y:Lib.countByte ((s.drop i).take k) 10=c at a hc
  have F:IntKind.wrap IntKind.i64 (ln+(c:Int))=ln+(c:Int):=Vu (by omega) (by omega)
  refine f2c s (i:Int) ln o L ⟨by simp;omega,?_⟩
  rw[Int.toNat_natCast,C]
  refine⟨Zh ((⟨s.drop i⟩:Str),()) rfl (decide_eq_true l),Zc ((⟨s.drop i⟩:Str),()) rfl ?_⟩
  try dsimp only
  rw[A,H,Int.toNat_natCast,z,B]
  refine⟨by simp;omega,Zh ((⟨(s.drop i).take k⟩:Str),(⟨[10]⟩:Str),()) rfl (by rw[decide_eq_true e];rfl),Zc ((⟨(s.drop i).take k⟩:Str),(⟨[10]⟩:Str),()) rfl ?_⟩
  try dsimp only
  rw[y,F]
  refine Yc (fun q=> ?_) fun q=>⟨by simp;omega,Zh ((⟨s.drop (i+k)⟩:Str),()) rfl (decide_eq_true g),Zc ((⟨s.drop (i+k)⟩:Str),()) rfl ?_⟩
  ·rw[if_pos (by omega)]at a
   subst a
   exact⟨by simp[u],by rw[V3 o u];exact Fx (Zp rfl)⟩
  rw[if_neg (by omega)]at a
  try dsimp only
  generalize Ws ⟨s.drop (i+k)⟩=w at a h b
  obtain⟨wk,⟨j⟩⟩:=w
  refine Yc (fun r=> ?_) fun r=> ?_
  ·rw[if_pos r]at a
   subst a
   exact Fx Zn
  rw[if_neg r]at a
  have b:=b r
  dsimp only at h b a ⊢
  rw[show IntKind.wrap IntKind.i64 (((i+k:Nat):Int)+(j.length:Int))=((i+k+j.length:Nat):Int) by rw[Vu (by omega) (by omega)];omega]
  refine Yc (fun D=> ?_) fun D=>⟨by simp[u];omega,?_⟩
  ·rw[if_pos (by omega)]at a
   subst a
   exact Fx Zn
  rw[if_neg (by omega)]at a
  rw[show List.map (enc:Tok->PV) o++List.drop 0 (List.take 1 [PV.agg [enc wk,enc (⟨j⟩:Str),PV.int .i64 (ln+(c:Int)),PV.int .i64 ((i+k:Nat):Int)]])=(o++[(⟨wk,⟨j⟩,ln+(c:Int),((i+k:Nat):Int)⟩:Tok)]).map enc from Dz o (⟨wk,⟨j⟩,ln+(c:Int),((i+k:Nat):Int)⟩:Tok)]
  exact ih _ _ _ _ (by omega) (by omega) (by omega) (by omega) (by simp[u]) (by simp;omega) a
theorem g7z(s:List UInt8)(hs:s.length<=20000)(R:R3 (List Tok) Int Int)(f i:Nat)(ln:Int)(h1:i<=s.length)(h2:s.length<i+(f+1))(hn:1<=ln)(hm:ln<=i+1)(a:R=N8 (f+1) s i ln []):
  At Dy 0 (Za KJ (Zd R)) KP 0 59 [(0,.pv (.str s)),(2,.pv (.sl 0 true [])),(3,.pv (.int .i64 (i:Int))),(5,.pv (.int .i64 ln))] []:=by
 have B:List.drop i (List.take s.length s)=s.drop i:=by rw[List.take_length]
 have hb:=Bi ((s.drop i).length+1) (s.drop i) 0 (Nat.zero_le _)
 rw[List.length_drop]at hb
 rw[N8]at a
 try dsimp only at a
 rw[Dr,Int.toNat_natCast,List.length_drop]at a
 generalize C:QT (s.length - i+1) (s.drop i) 0=k at a hb
 have z:Hf ⟨s.drop i⟩=(k:Int):=by rw[Dr,List.length_drop,C]
 have E:IntKind.wrap IntKind.i64 ((i:Int)+(k:Int))=((i+k:Nat):Int):=by rw[Vu (by omega) (by omega)];omega
 have y:List.drop i (List.take (i+k) s)=(s.drop i).take k:=by rw[List.drop_take,Nat.add_sub_cancel_left]
 have A:List.drop (i+k) (List.take s.length s)=s.drop (i+k):=by rw[List.take_length]
 have hc:Lib.countByte ((s.drop i).take k) 10<=k:=Nat.le_trans (a6d _ _) (by rw[List.length_take];omega)
 have j:(s.drop i).length<=1048576:=by rw[List.length_drop];omega
 have g:((s.drop i).take k).length<=1048576:=by rw[List.length_take];omega
 have e:(s.drop (i+k)).length<=1048576:=by rw[List.length_drop];omega
 have h:=M9 ⟨s.drop (i+k)⟩
 have b:= @FW ⟨s.drop (i+k)⟩
 rw[List.length_drop]at h
 generalize u:Lib.countByte ((s.drop i).take k) 10=c at a hc
 have D:IntKind.wrap IntKind.i64 (ln+(c:Int))=ln+(c:Int):=Vu (by omega) (by omega)
 refine f1i s (i:Int) ln ⟨by simp;omega,?_⟩
 rw[Int.toNat_natCast,B]
 refine⟨Zh ((⟨s.drop i⟩:Str),()) rfl (decide_eq_true j),Zc ((⟨s.drop i⟩:Str),()) rfl ?_⟩
 try dsimp only
 rw[z,E,Int.toNat_natCast,y,A]
 refine⟨by simp;omega,Zh ((⟨(s.drop i).take k⟩:Str),(⟨[10]⟩:Str),()) rfl (by rw[decide_eq_true g];rfl),Zc ((⟨(s.drop i).take k⟩:Str),(⟨[10]⟩:Str),()) rfl ?_⟩
 try dsimp only
 rw[u,D]
 refine Yc (fun q=> ?_) fun q=>⟨by simp;omega,Zh ((⟨s.drop (i+k)⟩:Str),()) rfl (decide_eq_true e),Zc ((⟨s.drop (i+k)⟩:Str),()) rfl ?_⟩
 ·rw[if_pos (by omega)]at a
  subst a
  exact Fx Zn
 rw[if_neg (by omega)]at a
 try dsimp only
 generalize Ws ⟨s.drop (i+k)⟩=w at a h b
 obtain⟨wk,⟨l⟩⟩:=w
 refine Yc (fun r=> ?_) fun r=> ?_
 ·rw[if_pos r]at a
  subst a
  exact Fx Zn
 rw[if_neg r]at a
 have b:=b r
 dsimp only at h b a ⊢
 rw[show IntKind.wrap IntKind.i64 (((i+k:Nat):Int)+(l.length:Int))=((i+k+l.length:Nat):Int) by rw[Vu (by omega) (by omega)];omega]
 rw[if_neg (by simp)]at a
 exact g8a s hs R f (i+k+l.length) (ln+(c:Int)) [⟨wk,⟨l⟩,ln+(c:Int),((i+k:Nat):Int)⟩] 1 (by omega) (by omega) (by omega) (by omega) rfl (by omega) a
theorem e6p: ∀ x:Str×Unit,true=true->Zi Dy 0 (Za KJ (Zd (KN x.1))) KP [] (Ye g0t (encL x)):=by
 rintro⟨⟨s⟩,⟨⟩⟩ _
 show Zi Dy 0 (Za KJ (Zd (KN ⟨s⟩))) KP [] _
 unfold KN
 refine g4p s (Yd (fun h=> ?_) fun h=> ?_)
 ·rw[if_pos (show 20000<s.length by omega)]
  exact Fx Zn
 ·rw[if_neg (show ¬ 20000<s.length by omega)]
  exact g7z s (by omega) _ s.length 0 1 (Nat.zero_le _) (by omega) (by omega) (by omega) rfl
def PS.endp(s:PS):PS:=if s.i<s.l.length then s.fail else s
def Ej(s:PS)(_:Unit):Unit×PS:=((),s.endp)
def bgS(s:List UInt8):PS:=⟨(KN ⟨s⟩).a,0,s.length,false,0,false⟩
def Aq:List AV->List AObj->Bool
 | [.pv (.str _)],[]=>true
 | _,_=>false
def Ez:List AV->List AObj->AV×List AObj×List AObj
 | [.pv (.str s)],[]=>(.tup [.ptr 0 0,.pv (.int .i64 (KN ⟨s⟩).b),.pv (.int .i64 (KN ⟨s⟩).c)],[],[Zj (bgS s)])
 | _,_=>default
def PS.expr(s:PS):Tm×PS:=Z0 4001 s
def a0o(s:PS)(_:Unit):TS×PS:=tsT s.expr
def ty0:TyS:=⟨⟨[]⟩,⟨[]⟩,[]⟩
def PS.small(s:PS):PS:=⟨s.l,s.i,s.sz,s.bad,s.wr,false⟩
def PS.df0(s:PS):PS:=(s.need ⟨[100,101,102]⟩).small
def PS.dfP(s:PS):List Pm×PS:=if s.bad then([],s)else if s.next ⟨[41]⟩then([],s)else listL PS.param s
def PS.dfR(s:PS):(Bool×TyS)×PS:=if s.next ⟨[58]⟩then((true,s.step.typ.1),s.step.typ.2)else((false,ty0),s)
def DF(nm:Str)(ln:Int)(ps:List Pm)(r:Bool×TyS)(t:Tm):Df:=⟨nm,ln,ps,r.1,r.2,t.nd,t.ks⟩
def PS.dfE(s:PS)(d:Tm->Df):(Df×Bool)×PS:=
 if s.bad then((d (.mk nd0 []),false),s)
 else if s.expr.2.bad then((d s.expr.1,false),s.expr.2)
 else((d s.expr.1,s.expr.2.big||(!(YJ s.expr.1)||(decide ((d s.expr.1).ps.length>8)||decide ((d s.expr.1).line>10000)))),s.expr.2)
def PS.defP(s:PS):(Df×Bool)×PS:=
 let nm:=s.df0.name
 let ps:=(nm.2.need ⟨[40]⟩).dfP
 let r:=(ps.2.need ⟨[41]⟩).dfR
 (r.2.need ⟨[61]⟩).dfE (DF nm.1 (s.peek 0).ln ps.1 r.1)
def c8v(s:PS)(_:Unit):(Df×Bool)×PS:=s.defP
def impL:Nat->PS->List Str->List Str×PS
 | 0,s,o=>(o,s)
 | f+1,s,o=>if s.next ⟨[105,109,112,111,114,116]⟩then impL f (listL PS.name s.step).2 (o++(listL PS.name s.step).1)else(o,s)
def PS.expo(s:PS):List Str×PS:=if s.next ⟨[101,120,112,111,114,116]⟩then listL PS.name s.step else([],s)
def Ql:Nat->PS->Int->List Df->(Int×List Df)×PS
 | 0,s,w,o=>((w,o),s)
 | f+1,s,w,o=>if s.bad then((w,o),s)else if s.next ⟨[100,101,102]⟩then Ql f s.defP.2 (if s.defP.1.2&&decide (w<0)then(s.peek 0).o else w) (o++[s.defP.1.1])else((w,o),s)
def md0:Mdu:=⟨⟨[]⟩,[],[],[]⟩
def BS(s:Str):R3 Mdu Int Int:=
 if (KN s).c≠0 then⟨md0,(KN s).b,(KN s).c⟩
 else
  let b:=bgS s.s
  let nm:=(b.need ⟨[109,111,100,117,108,101]⟩).name
  let im:=impL (b.l.length+1) nm.2 []
  let ex:=im.2.expo
  let ds:=Ql (b.l.length+1) ex.2 (-1) []
  let t:=ds.2.endp
  if t.bad then⟨md0,t.wr,6⟩
  else if 0<=ds.1.1 then⟨md0,ds.1.1,3⟩
  else if im.1.length>20∨ex.1.length>60∨ds.1.2.length>60 then⟨md0,0,3⟩
  else⟨⟨nm.1,im.1,ex.1,ds.1.2⟩,0,0⟩
abbrev a3z(args:List AV)(os:List AObj):=WP (ZH) (Y4) ([]) ([]) (fun(s:PS) (x:Unit)=>Ze s) (a0o) args os
abbrev g1h(args:List AV)(os:List AObj):=WP (RA 56) (CZ) ([]) ([]) (fun(s:PS) (x:Unit)=>Ze s) (Xn PS.param) args os
noncomputable def b3t:IC:=XH Proofs.Tryz.f27
def b4p:List IRes:=[]
abbrev f9t:Nat:=14
noncomputable def e3i:ZM:=YN [c9k]
def g9d{G:GO}(s:PS):=BO (if (decide ((↑(PS.i s):Int)<(↑(Cw s):Int)))=true then JE [.ptr 0 0] [Zj s] fun y0 a=>(SV G a)else(SV G s)) G (dm [dv Unit,dO PS] 11 0x65100442) e3i 1 b4p b3t (Z8 14 [.ptr 0 0] [Zj s]) (by delta XV Cw SV;exact rfl)
noncomputable def EI:IC:=XH Proofs.Tryz.f25
def a4o:List IRes:=[(.tmp 2),(.tmp 3),(.tmp 4)]
abbrev d3z:Nat:=21
noncomputable def c4e:ZM:=YN [(48,.pure (preT (fun _:Str×Unit=>true)) (Zl (fun x:Str×Unit=>KN x.1)))]
def g4z{G:AV×List AObj×List AObj->Prop}(s:List UInt8):=LM (A:=(Go.Pl.preT (fun(_:Str×Unit)=>true) [.str s])=true∧(∃ e:R3 (List Tok) Int Int,(AV.pv (Zl (fun(x:Str×Unit)=>KN x.1) [.str s])=AV.pv (enc e))∧(G ((.tup [.ptr 0 0,.pv (.int .i64 (R3.b e)),.pv (.int .i64 (R3.c e))]),([],[.box [.pv (.sl 4 false (List.map enc (R3.a e))),ZB,.pv (.int .i64 (↑(List.length s):Int)),WV,ZB,WV]]))))) (C:=Zi c4e 0 (Yg 0 a4o G) EI [] (Z8 21 [.pv (.str s)] [])) (fun h=>Zi.to (.req (.abs (R3 (List Tok) Int Int) (fun g=>AV.pv (enc g)) (.nil))) h) (by delta ZB WV;exact rfl)
noncomputable def b3f:IC:=XH Proofs.Tryz.f39
def b2j:List IRes:=[(.cell true 17 2),(.tmp 3)]
abbrev g1e:Nat:=78
noncomputable def d6y:ZM:=YN [BG,MW,a9s,En,(55,.own (X3 (RA 56) [] [] (fun(s:PS) (_:Unit)=>Ze s)) (Wy CZ [] [] (Xn PS.param))),Ct,f4v,(26,.own (X3 ZH [] [] (fun(s:PS) (_:Unit)=>Ze s)) (Wy Y4 [] [] a0o)),(28,.pure (preT (fun x:Tm×Unit=>gW x.1)) (Zl (fun x:Tm×Unit=>YJ x.1)))]
def a0m(a:List Pm):PV:=.sl 5 false (List.map enc a)
def ML(a:TS):PV:=.int .i64 (Nd.kind (TS.n a))
def PT(a:TS):PV:=.int .i64 (Nd.line (TS.n a))
def Mt(a:TS):PV:=.str (Str.s (Nd.name (TS.n a)))
def Nr(a:TS):PV:=.int .i64 (Nd.num (TS.n a))
def PD(a:TS):PV:=.str (Str.s (Nd.elem (TS.n a)))
def NL(a:TS):PV:=.sl 1 false (List.map enc (Nd.dims (TS.n a)))
def Pz(a:TS):PV:=.sl 1 false (List.map enc (Nd.data (TS.n a)))
def NU(a:TS):PV:=.sl 2 false (List.map enc (Nd.sizes (TS.n a)))
def PL(a:TS):PV:=.sl 1 false (List.map enc (Nd.ranks (TS.n a)))
def NE(a:TS):PV:=.sl 10 false (List.map enc (TS.k a))
def b0f(b:List UInt8)(Zm:Int)(e:List Pm)(g h:List UInt8)(i:List Lin)(a:TS):PV:=.agg [.str b,.int .i64 Zm,a0m e,.bool true,.str g,.str h,XL i,ML a,PT a,Mt a,Nr a,PD a,NL a,Pz a,NU a,PL a,NE a]
def g7m(a:TS):List PV:=[.agg [ML a,PT a,Mt a,Nr a,PD a,NL a,Pz a,NU a,PL a,NE a]]
def a3x(b:TS):Bool:=Go.Pl.preT (fun(a:Tm×Unit)=>gW (Prod.fst a)) (g7m b)
def E5(a:TS)(Zm:Bool):Prop:=AV.pv (Zl (fun(b:Tm×Unit)=>YJ (Prod.fst b)) (g7m a))=AV.pv (enc Zm)
def e5n(a:List Pm):Bool:=decide ((↑(List.length (List.map enc a)):Int)>8)
def a2z(a:Int):PV:=.bool (decide (a>10000))
def e0z(G:AV×List AObj×List AObj->Prop)(s:PS)(w:List UInt8)(ln:Int)(o:List Pm)(e r:List UInt8)(d:List Lin):Prop:=ZU AO [Zj s] fun y0 g=>(if (PS.bad g)=true then G ((.pv (.tup [.agg [.str w,.int .i64 ln,a0m o,.bool true,.str e,.str r,XL d,.int .i64 0,.int .i64 0,.str [],.int .i64 0,.str [],.sl 0 true [],.sl 0 true [],.sl 0 true [],.sl 0 true [],.sl 0 true []],.bool false])),([Zj g],[]))else(a3z [.ptr 0 0] [Zj g] fun a b=>(if (PS.bad b)=true then G ((.pv (.tup [b0f w ln o e r d a,.bool false])),([Zj b],[]))else(if (PS.big b)=true then G ((.pv (.tup [b0f w ln o e r d a,.bool true])),([Zj b],[]))else((a3x a)=true∧(∃ h:Bool,(E5 a h)∧(if (!h)=true then G ((.pv (.tup [b0f w ln o e r d a,.bool true])),([Zj b],[]))else(if (e5n o)=true then G ((.pv (.tup [b0f w ln o e r d a,.bool true])),([Zj b],[]))else(G ((.pv (.tup [b0f w ln o e r d a,a2z ln])),([Zj b],[])))))))))))
def a7s(b:List UInt8)(Zm:Int)(e:List Pm)(a:TS):PV:=.agg [.str b,.int .i64 Zm,a0m e,.bool false,.str [],.str [],.sl 0 true [],ML a,PT a,Mt a,Nr a,PD a,NL a,Pz a,NU a,PL a,NE a]
def e5u(G:AV×List AObj×List AObj->Prop)(s:PS)(w:List UInt8)(ln:Int)(o:List Pm):Prop:=ZU AO [Zj s] fun y0 e=>(if (PS.bad e)=true then G ((.pv (.tup [.agg [.str w,.int .i64 ln,a0m o,.bool false,.str [],.str [],.sl 0 true [],.int .i64 0,.int .i64 0,.str [],.int .i64 0,.str [],.sl 0 true [],.sl 0 true [],.sl 0 true [],.sl 0 true [],.sl 0 true []],.bool false])),([Zj e],[]))else(a3z [.ptr 0 0] [Zj e] fun a b=>(if (PS.bad b)=true then G ((.pv (.tup [a7s w ln o a,.bool false])),([Zj b],[]))else(if (PS.big b)=true then G ((.pv (.tup [a7s w ln o a,.bool true])),([Zj b],[]))else((a3x a)=true∧(∃ g:Bool,(E5 a g)∧(if (!g)=true then G ((.pv (.tup [a7s w ln o a,.bool true])),([Zj b],[]))else(if (e5n o)=true then G ((.pv (.tup [a7s w ln o a,.bool true])),([Zj b],[]))else(G ((.pv (.tup [a7s w ln o a,a2z ln])),([Zj b],[])))))))))))
def c3a(e:List UInt8)(Zm:Int)(g b:List UInt8)(h:List Lin)(a:TS):PV:=.agg [.str e,.int .i64 Zm,.sl 0 true [],.bool true,.str g,.str b,XL h,ML a,PT a,Mt a,Nr a,PD a,NL a,Pz a,NU a,PL a,NE a]
def d3o(G:AV×List AObj×List AObj->Prop)(s:PS)(w:List UInt8)(ln:Int)(e r:List UInt8)(d:List Lin):Prop:=ZU AO [Zj s] fun y0 g=>(if (PS.bad g)=true then G ((.pv (.tup [.agg [.str w,.int .i64 ln,.sl 0 true [],.bool true,.str e,.str r,XL d,.int .i64 0,.int .i64 0,.str [],.int .i64 0,.str [],.sl 0 true [],.sl 0 true [],.sl 0 true [],.sl 0 true [],.sl 0 true []],.bool false])),([Zj g],[]))else(a3z [.ptr 0 0] [Zj g] fun a b=>(if (PS.bad b)=true then G ((.pv (.tup [c3a w ln e r d a,.bool false])),([Zj b],[]))else(if (PS.big b)=true then G ((.pv (.tup [c3a w ln e r d a,.bool true])),([Zj b],[]))else((a3x a)=true∧(∃ h:Bool,(E5 a h)∧(if (!h)=true then G ((.pv (.tup [c3a w ln e r d a,.bool true])),([Zj b],[]))else(G ((.pv (.tup [c3a w ln e r d a,a2z ln])),([Zj b],[]))))))))))
def c1l(b:List UInt8)(Zm:Int)(a:TS):PV:=.agg [.str b,.int .i64 Zm,.sl 0 true [],.bool false,.str [],.str [],.sl 0 true [],ML a,PT a,Mt a,Nr a,PD a,NL a,Pz a,NU a,PL a,NE a]
def d2w(G:AV×List AObj×List AObj->Prop)(s:PS)(w:List UInt8)(ln:Int):Prop:=ZU AO [Zj s] fun y0 e=>(if (PS.bad e)=true then G ((.pv (.tup [.agg [.str w,.int .i64 ln,.sl 0 true [],.bool false,.str [],.str [],.sl 0 true [],.int .i64 0,.int .i64 0,.str [],.int .i64 0,.str [],.sl 0 true [],.sl 0 true [],.sl 0 true [],.sl 0 true [],.sl 0 true []],.bool false])),([Zj e],[]))else(a3z [.ptr 0 0] [Zj e] fun a b=>(if (PS.bad b)=true then G ((.pv (.tup [c1l w ln a,.bool false])),([Zj b],[]))else(if (PS.big b)=true then G ((.pv (.tup [c1l w ln a,.bool true])),([Zj b],[]))else((a3x a)=true∧(∃ g:Bool,(E5 a g)∧(if (!g)=true then G ((.pv (.tup [c1l w ln a,.bool true])),([Zj b],[]))else(G ((.pv (.tup [c1l w ln a,a2z ln])),([Zj b],[]))))))))))
def KO:List AV:=[.ptr 0 0,.pv (.str [100,101,102])]
def b6z(i:PS)(Zm:AV×List AObj×List AObj->Prop)(b:Str)(e:Tok):Prop:=ZU Q9 [Zj i] fun z0' j=>(Yl JG [Zj j] fun h g=>(if (h)=true then a4d [.ptr 0 0] [Zj g] fun a k=>(d3o Zm k (Str.s b) (Tok.ln e) (Str.s (TyS.elem a)) (Str.s (TyS.row a)) (TyS.dims a))else(d2w Zm g (Str.s b) (Tok.ln e))))
def g8n{G:GO}(s:PS):=BO (Xy Y0 [Zj s] fun b r=>(ZU KO [Zj r] fun y1 a=>(QQ [.ptr 0 0] [.box [VZ a,Cu a,XW a,Wo a,X8 a,WV]] fun e u=>(ZU UF [Zj u] fun y3 g=>(if (!PS.bad g)=true then Xq Q9 [Zj g] fun l i=>(if (!l)=true then g1h [.ptr 0 0,.fn 56 [.ptr 0 0] []] [Zj i] fun k A=>(ZU Q9 [Zj A] fun y6 q=>(Yl JG [Zj q] fun z j=>(if (z)=true then a4d [.ptr 0 0] [Zj j] fun h y=>(e0z G y (Str.s e) (Tok.ln b) k (Str.s (TyS.elem h)) (Str.s (TyS.row h)) (TyS.dims h))else(e5u G j (Str.s e) (Tok.ln b) k))))else(b6z i G e b))else(b6z g G e b)))))) G (dm [dv Tok,dO PS,dv Unit,dv Str,dv Bool,dv (List Pm),dv TyS,dv TS] 471 0x222222222202222222200942291220222222222222200e4000146c1000146710222222222202222222200942291220222222222222200e4000146c1000146716b1043469167122220222222222202222222200942291220222222222222200e4000146c1000146710222222222202222222200942291220222222222222200e4000146c1000146716b1043469167102222022200442222202222222200942291220222222222222200e4000146c10001467102222022200442222202222222200942291220222222222222200e4000146c1000146716b104a46916716a109e42269121354671681671651) d6y 1 b2j b3f (Z8 78 [.ptr 0 0] [Zj s]) (by delta ZB Y0 KO XV VZ Cu XW Wo X8 WV UF Q9 JG b6z;exact rfl)
end Go.Pl
namespace Go.Pl
open Go.RowKit
def b2l(t:Tok):Bool:=(decide (t.k≠1)||nameI t.t.s)&&((decide (t.k≠3)||(Qn t.t).2)&&((decide (t.t≠⟨[46,46]⟩)||decide (t.k=4))&&decide (t.t.s.length<=65536)))
def ZR(l:List Tok):Bool:=l.all b2l
theorem Pt{c:UInt8}{r:List UInt8}{b:Bool}(h:digB c=true∨lowB c=true):XZ ⟨c::r⟩ b≠⟨[46,46]⟩:=by
 intro e
 have e:(c::r).takeWhile (fun c=>digB c||(b&&lowB c))=[46,46]:=congrArg Str.s e
 rw[List.takeWhile_cons]at e
 split at e
 ·have a:c=46:=(List.cons.inj e).1
  subst a
  exact absurd h (by decide)
 ·cases e
theorem Fj: ∀ (l:List (List UInt8)) (s:List UInt8),(Zw l s).1=4∨Zw l s=(0,⟨[]⟩)
 | [],s=>Or.inr rfl
 | x::l,s=>by
  rw[Zw]
  split
  ·exact Or.inl rfl
  ·exact Fj l s
theorem e2i{s:Str}{k:Int}{w:Str}(h:Ws s=(k,w))(b:k≠0)(hs:s.s.length<=65536)(ln o:Int):b2l ⟨k,w,ln,o⟩=true:=by
 have g:w.s.length<=65536:=by
  have:=M9 s
  rw[h]at this
  exact Nat.le_trans this hs
 have a:(k=1->nameI w.s=true)∧(k=3->(Qn w).2=true)∧(w=⟨[46,46]⟩->k=4):=by
  obtain⟨s⟩:=s
  cases s with
  | nil=>exact absurd (congrArg Prod.fst h).symm b
  | cons c r=>
   unfold Ws at h
   dsimp only at h
   split at h
   ·rename_i h1
    split at h
    ·obtain⟨rfl,rfl⟩:=Prod.mk.inj h
     exact⟨fun e=>absurd e (by decide),fun e=>absurd e (by decide),fun e=>absurd e (Pt (Or.inr h1))⟩
    ·split at h
     ·obtain⟨rfl,rfl⟩:=Prod.mk.inj h
      exact⟨fun _=> ‹_›,fun e=>absurd e (by decide),fun e=>absurd e (Pt (Or.inr h1))⟩
     ·exact absurd (congrArg Prod.fst h).symm b
   ·split at h
    ·rename_i h2
     split at h
     ·obtain⟨rfl,rfl⟩:=Prod.mk.inj h
      exact⟨fun e=>absurd e (by decide),fun _=> ‹_›,fun e=>absurd e (Pt (Or.inl h2))⟩
     ·exact absurd (congrArg Prod.fst h).symm b
    ·rcases Fj ZA (c::r)with h3|h3
     ·rw[h]at h3
      have h3:k=4:=h3
      subst h3
      exact⟨fun e=>absurd e (by decide),fun e=>absurd e (by decide),fun _=>rfl⟩
     ·rw[h]at h3
      exact absurd (congrArg Prod.fst h3) b
 unfold b2l
 dsimp only
 simp only[Bool.and_eq_true,Bool.or_eq_true,decide_eq_true_eq]
 refine⟨?_,?_,?_,g⟩
 ·by_cases e:k=1
  ·exact Or.inr (a.1 e)
  ·exact Or.inl e
 ·by_cases e:k=3
  ·exact Or.inr (a.2.1 e)
  ·exact Or.inl e
 ·by_cases e:w=⟨[46,46]⟩
  ·exact Or.inr (a.2.2 e)
  ·exact Or.inl e
theorem c0r: ∀ (f:Nat) (s:List UInt8) (i:Nat) (ln:Int) (o:List Tok),s.length<=20000->ZR o=true->o.length<=4000->ZR (N8 f s i ln o).a=true∧(N8 f s i ln o).a.length<=4000
 | 0,s,i,ln,o,_,h1,h2=>⟨h1,h2⟩
 | f+1,s,i,ln,o,hs,h1,h2=>by
  rw[N8]
  split
  ·exact⟨h1,h2⟩
  ·split
   ·exact⟨rfl,by simp⟩
   ·split
    ·exact⟨rfl,by simp⟩
    ·rename_i q1 b q3
     refine c0r f s _ _ _ hs ?_ (by simp;omega)
     unfold ZR at h1 ⊢
     rw[List.all_append,h1,List.all_cons,List.all_nil,Bool.and_true,Bool.true_and]
     exact e2i rfl b (by rw[List.length_drop];omega) _ _
theorem a3l(s:Str):ZR (KN s).a=true∧(KN s).a.length<=4000:=by
 unfold KN
 split
 ·exact⟨rfl,by simp⟩
 ·exact c0r _ _ _ _ _ (by omega) rfl (by simp)
theorem e1b(s:List UInt8):Ze (bgS s)=true:=by
 have h:=a3l ⟨s⟩
 unfold Ze bgS
 dsimp only
 simp only[Bool.and_eq_true,decide_eq_true_eq]
 refine⟨h.2,Nat.zero_le _,?_⟩
 rw[List.all_eq_true]
 intro t ht
 have h3:=List.all_eq_true.1 h.1 t ht
 unfold b2l at h3
 simp only[Bool.and_eq_true,decide_eq_true_eq]at h3
 exact decide_eq_true h3.2.2.2
section
theorem a9o{s:PS}(h:ZR s.l=true)(hi:s.i<s.l.length):b2l (s.peek 0)=true:=by
 rw[GN (k:=0) hi]
 exact List.all_eq_true.1 h _ (List.getElem_mem _)
theorem GV{w:List UInt8}(h:nameI w=true):w.length<=30:=by
 cases w with
 | nil=>cases h
 | cons c r=>
  unfold nameI at h
  simp only[Bool.and_eq_true,decide_eq_true_eq]at h
  have:=h.1.2
  simp only[List.length_cons]
  omega
theorem OP{w:Str}(h:nameB w=true):w.s.length<=30:=by
 obtain⟨w⟩:=w
 unfold nameB at h
 cases w with
 | nil=>cases h
 | cons c r=>
  dsimp only at h
  split at h
  ·simp only[Bool.and_eq_true,decide_eq_true_eq]at h
   have:=h.2
   simp only[List.length_cons]
   omega
  ·simp only[Bool.and_eq_true,decide_eq_true_eq]at h
   have:=h.2
   simp only[List.length_cons]
   omega
theorem c1g{s:PS}{w:Str}(h:(s.need w).bad=false):s.next w=true∧(s.need w).i=s.i+1:=by
 unfold PS.need at h ⊢
 split at h
 ·rename_i h1;rw[if_pos h1];exact⟨h1,rfl⟩
 ·cases h
theorem BL{s:PS}(a:ZR s.l=true)(h:s.name.2.bad=false):s.name.1.s.length<=30∧s.name.2.i=s.i+1:=by
 unfold PS.name at h ⊢
 split at h
 ·rename_i h1
  rw[if_pos h1]
  refine⟨?_,rfl⟩
  have h2:=a9o a (X5 (s:=s) (by omega))
  unfold b2l at h2
  simp only[Bool.and_eq_true,Bool.or_eq_true,decide_eq_true_eq]at h2
  rcases h2.1 with h3|h3
  ·exact absurd h1 h3
  ·exact GV h3
 ·cases h
theorem CS{s:PS}{m:Int}(h:(s.num m).2.bad=false):(s.num m).2.i=s.i+1:=by
 unfold PS.num at h ⊢
 split at h
 ·rename_i h1;rw[if_pos h1];rfl
 ·cases h
theorem R7{s:PS}(a:ZR s.l=true)(hi:s.i<=s.l.length)(h:s.func.2.bad=false):s.func.1.s.length<=61∧s.i+1<=s.func.2.i:=by
 have g:=Ge.name hi
 unfold PS.func at h ⊢
 split at h
 ·rename_i h1
  rw[if_pos h1]
  have b:=Ge.step (Zk h1)
  have j:=Ge.name b.hi
  have n2:=BL (by rw[b.l,g.l];exact a) h
  have k:=BL a (b.good (j.good h))
  have e:s.name.2.step.i=s.name.2.i+1:=rfl
  refine⟨?_,?_⟩
  ·simp only[List.length_append,List.length_cons,List.length_nil];omega
  ·show s.i+1<=s.name.2.step.name.2.i;omega
 ·rename_i h1
  rw[if_neg h1]
  have k:=BL a h
  refine⟨?_,?_⟩
  ·show s.name.1.s.length<=61;omega
  ·show s.i+1<=s.name.2.i;omega
theorem e3n: ∀ (l:List Coef),(∀ c∈l,c.v.s.length<=30)->(l.map EE).sum<=32*l.length
 | [],_=>by simp
 | c::l,h=>by
  have h1:=e3n l fun c hc=>h c (List.mem_cons_of_mem _ hc)
  have h2:=h c (List.mem_cons_self ..)
  have e:EE c=c.v.s.length+2:=rfl
  simp only[List.map_cons,List.sum_cons,List.length_cons]
  omega
theorem c2a{l:Lin}(h:Zt l=true):DC l<=386:=by
 unfold Zt at h
 simp only[Bool.and_eq_true,decide_eq_true_eq]at h
 have h1:=e3n l.t fun c hc=>by
  have h2:=List.all_eq_true.1 h.1.1.1 c hc
  simp only[Bool.and_eq_true]at h2
  exact OP h2.1.1
 unfold DC
 omega
theorem a1z(a b:Lin)(k:Int):DC (ZV a b k).1<=386:=by
 unfold ZV
 split
 ·split
  ·unfold a1d
   split
   ·exact c2a ‹_›
   ·exact by decide
  ·exact by decide
 ·exact by decide
theorem g0f{s:PS}(g:ZR s.l=true)(hi:s.i<=s.l.length)(h:s.item.2.bad=false):DC s.item.1<=386∧s.i+1<=s.item.2.i:=by
 unfold PS.item at h ⊢
 split at h
 ·rename_i h1
  rw[if_pos h1]
  have a:=BL g h
  refine⟨?_,?_⟩
  ·show([(⟨s.name.1,1⟩:Coef)].map EE).sum+2<=386
   simp only[List.map_cons,List.map_nil,List.sum_cons,List.sum_nil]
   unfold EE
   dsimp only
   omega
  ·show s.i+1<=s.name.2.i;omega
 ·rename_i h1
  rw[if_neg h1]
  have b:=Ge.num (m:=2147483648) hi
  split at h
  ·rename_i h2
   rw[if_pos h2]
   have a:=CS h2.2
   have j:=Ge.name b.hi
   have e : ∀ x,(s.num 2147483648).2.name.2.i<=((s.num 2147483648).2.name.2.note x).2.i:=fun x=>Nat.le_refl _
   refine⟨a1z _ _ _,?_⟩
   have:=e (QS (Rk (s.num 2147483648).2.name.1) (s.num 2147483648).1)
   have:=j.le
   omega
  ·rename_i h2
   rw[if_neg h2]
   have a:=CS h
   refine⟨?_,?_⟩
   ·show([].map EE).sum+2<=386;simp
   ·show s.i+1<=(s.num 2147483648).2.i;omega
theorem Di: ∀ (n:Nat) {s:PS} {l:Lin},ZR s.l=true->s.i<=s.l.length->DC l<=386->(linLoop n s l).2.bad=false->DC (linLoop n s l).1<=386
 | 0,s,l,_,_,hl,_=>hl
 | n+1,s,l,hx,hi,hl,h=>by
  have g:=Ge.linLoop (n+1) (l:=l) hi
  rw[linLoop]at h g ⊢
  split at h
  ·rename_i h1;rw[if_pos h1];exact hl
  ·rename_i h1
   rw[if_neg h1]at g ⊢
   split at h
   ·rename_i h2
    rw[if_pos h2]at g ⊢
    have a:=Ge.step (Zk h2)
    have j:=Ge.item a.hi
    have k:=Ge.wide (b:=decide ((ZV l s.step.item.1 1).2≠0)) j.hi
    exact Di n (by show ZR s.step.item.2.l=true;rw[j.l,a.l];exact hx) k.hi (a1z _ _ _) h
   ·rename_i h2
    rw[if_neg h2]at g ⊢
    split at h
    ·rename_i h3
     rw[if_pos h3]at g ⊢
     have a:=Ge.step (Zk h3)
     have j:=Ge.item a.hi
     have k:=Ge.wide (b:=decide ((ZV l s.step.item.1 (-1)).2≠0)) j.hi
     exact Di n (by show ZR s.step.item.2.l=true;rw[j.l,a.l];exact hx) k.hi (a1z _ _ _) h
    ·rename_i h3
     rw[if_neg h3]
     exact hl
theorem f6k{s:PS}(j:ZR s.l=true)(hi:s.i<=s.l.length)(h:s.linear.2.bad=false):DC s.linear.1+260*s.i<=260*s.linear.2.i+130:=by
 have key:DC s.linear.1<=386∧s.i+1<=s.linear.2.i:=by
  unfold PS.linear at h ⊢
  unfold PS.lin0 at h ⊢
  split at h
  ·rename_i h1
   rw[if_pos h1]
   have k:=Ge.step (Zk h1)
   have a:=Ge.item k.hi
   have q:=Ge.wide (b:=decide ((QS s.step.item.1 (-1)).2≠0)) a.hi
   have g:=Ge.linLoop (s.l.length+1) (l:=(QS s.step.item.1 (-1)).1) q.hi
   have y:=a.le
   have u:=g.le
   refine⟨Di _ (by show ZR s.step.item.2.l=true;rw[a.l,k.l];exact j) q.hi (a1z _ _ _) h,?_⟩
   exact Nat.le_trans y u
  ·rename_i h1
   rw[if_neg h1]
   have a:=Ge.item hi
   have g:=Ge.linLoop (s.l.length+1) (l:=s.item.1) a.hi
   have r:=g0f j hi (g.good h)
   refine⟨Di _ (by rw[a.l];exact j) a.hi r.1 h,?_⟩
   exact Nat.le_trans r.2 g.le
 omega
section
variable {α:Type} {one:PS->α×PS} {B:PS->Prop} {f:α->Nat} {e:Nat}
theorem c2m(z:e<=260)(a : ∀ s t,B s->Ge s t->B t)(j : ∀ s,B s->s.i<=s.l.length->Ge s (one s).2)
  (q : ∀ s,ZR s.l=true->B s->s.i<=s.l.length->(one s).2.bad=false->f (one s).1+260*s.i<=260*(one s).2.i+e) :
  ∀ (n:Nat) {s:PS} {o:List α},ZR s.l=true->B s->s.i<=s.l.length->(moreL one n s o).2.bad=false->((moreL one n s o).1.map f).sum+260*s.i<=(o.map f).sum+260*(moreL one n s o).2.i
 | 0,s,o,_,_,_,_=>Nat.le_refl _
 | n+1,s,o,hx,hb,hi,h=>by
  rw[moreL]at h ⊢
  split at h
  ·rename_i h1;rw[if_pos h1];exact Nat.le_refl _
  ·rename_i h1
   rw[if_neg h1]
   split at h
   ·rename_i h2
    rw[if_pos h2]
    have g:=Ge.step (Zk h2)
    have b1:=a _ _ hb g
    have b:=j _ b1 g.hi
    have k:ZR s.step.l=true:=hx
    have A:ZR (one s.step).2.l=true:=by rw[b.l];exact k
    have u:=a _ _ b1 b
    have y:=Ge.moreL a j n (o:=o++[(one s.step).1]) u b.hi
    have w1:=q _ k b1 g.hi (y.good h)
    have r:=c2m z a j q n (o:=o++[(one s.step).1]) A u b.hi h
    have e1:s.step.i=s.i+1:=rfl
    rw[List.map_append,List.sum_append]at r
    simp only[List.map_cons,List.map_nil,List.sum_cons,List.sum_nil]at r
    omega
   ·rename_i h2;rw[if_neg h2];exact Nat.le_refl _
theorem a2k(u:e<=260)(b : ∀ s t,B s->Ge s t->B t)(g : ∀ s,B s->s.i<=s.l.length->Ge s (one s).2)
  (k : ∀ s,ZR s.l=true->B s->s.i<=s.l.length->(one s).2.bad=false->f (one s).1+260*s.i<=260*(one s).2.i+e)
  {s:PS} (j:ZR s.l=true) (hb:B s) (hi:s.i<=s.l.length) (h:(listL one s).2.bad=false):((listL one s).1.map f).sum+260*s.i<=260*(listL one s).2.i+e:=by
 have a:=g _ hb hi
 have b1:=b _ _ hb a
 have q:=Ge.moreL b g (s.l.length+1) (o:=[(one s).1]) b1 a.hi
 have w1:=k _ j hb hi (q.good h)
 have r:=c2m u b g k (s.l.length+1) (o:=[(one s).1]) (by rw[a.l];exact j) b1 a.hi h
 simp only[List.map_cons,List.map_nil,List.sum_cons,List.sum_nil]at r
 unfold listL
 omega
end
end
section
theorem c3v: ∀ ks:List Tm,Rl ks=(ks.map JO).sum
 | []=>by rw[Rl];rfl
 | k::ks=>by rw[Rl,c3v ks];rfl
theorem VM(n:Nd)(ks:List Tm):JO (.mk n ks)=wNd n+(ks.map JO).sum:=by rw[JO,c3v]
theorem f1n(k ln num:Int)(n:Str):wNd {Bo k ln n with num:=num}=n.s.length+1:=by
 show n.s.length+0+0+0+0+0+1=_
 omega
theorem TG(k ln:Int)(n:Str):wNd (Bo k ln n)=n.s.length+1:=f1n k ln 0 n
theorem g9z(k ln:Int):wNd (ndK k ln)=1:=rfl
theorem e0a(ln num:Int)(n:Str)(sz:List Lin)(a:List Int):wNd {nd0 with kind:=6,line:=ln,name:=n,num:=num,sizes:=sz,ranks:=a}=n.s.length+a.length+(sz.map DC).sum+1:=by
 show n.s.length+0+0+0+a.length+(sz.map DC).sum+1=_
 omega
theorem f1j(ln:Int)(a:Arr):wNd {ndK 3 ln with elem:=a.e,dims:=a.d,data:=a.x}=a.e.s.length+a.d.length+a.x.length+1:=by
 show 0+a.e.s.length+a.d.length+a.x.length+0+0+1=_
 omega
theorem d3p(ln:Int)(l:Lin):wNd {ndK 4 ln with sizes:=[l]}=DC l+1:=by
 show 0+0+0+0+0+(DC l+0)+1=_
 omega
theorem c2n: ∀ (n:Nat) {s:PS} {o:List Int},s.i<=s.l.length->(numsP n s o).2.bad=false->(numsP n s o).1.length+s.i<=o.length+(numsP n s o).2.i
 | 0,s,o,_,_=>Nat.le_refl _
 | n+1,s,o,hi,h=>by
  rw[numsP]at h ⊢
  split at h
  ·rename_i h1
   rw[if_pos h1]
   have a:=Ge.num (m:=2147483648) hi
   have b:=Ge.numsP n (o:=o++[(s.num 2147483648).1]) a.hi
   have n1:=CS (b.good h)
   have w:=c2n n (o:=o++[(s.num 2147483648).1]) a.hi h
   rw[List.length_append]at w
   simp only[List.length_cons,List.length_nil]at w
   omega
  ·rename_i h1;rw[if_neg h1];exact Nat.le_refl _
theorem e0m: ∀ (n:Nat) {s:PS} {o:List Int},s.i<=s.l.length->(datP n s o).2.bad=false->(datP n s o).1.length+s.i<=o.length+(datP n s o).2.i
 | 0,s,o,_,_=>Nat.le_refl _
 | n+1,s,o,hi,h=>by
  rw[datP]at h ⊢
  split at h
  ·rename_i h1;rw[if_pos h1];exact Nat.le_refl _
  ·rename_i h1
   rw[if_neg h1]
   split at h
   ·rename_i h2;rw[if_pos h2];exact Nat.le_refl _
   ·rename_i h2
    rw[if_neg h2]
    have b:=Ge.sgs hi
    have a:=Ge.num (m:=2147483648) b.hi
    have e:=Ge.datP n (o:=o++[IntKind.i64.wrap (s.sgn*(s.sgs.num 2147483648).1)]) a.hi
    have n1:=CS (e.good h)
    have w:=e0m n (o:=o++[IntKind.i64.wrap (s.sgn*(s.sgs.num 2147483648).1)]) a.hi h
    have e0:=b.le
    rw[List.length_append]at w
    simp only[List.length_cons,List.length_nil]at w
    omega
theorem g8l{s:PS}(hi:s.i<=s.l.length)(h:s.arr.2.bad=false):s.arr.1.e.s.length+s.arr.1.d.length+s.arr.1.x.length+s.i<=4+s.arr.2.i:=by
 have k0:=Ge.ar0 hi
 have g:=Ge.ar1 hi
 have B:=Ge.ar2 hi
 have k2':Ge s.ar1 s.ar2.2:=Ge.numsP _ g.hi
 have b:=Ge.need (w:=⟨[58]⟩) B.hi
 have a:Ge (s.ar2.2.need ⟨[58]⟩) s.ar3.2:=Ge.datP _ b.hi
 have j:=Ge.need (w:=⟨[93]⟩) a.hi
 have k:s.ar3.2.bad=false:=j.good h
 have C:=a.good k
 have y:=b.good C
 have q:s.ar3.1.length+(s.ar2.2.need ⟨[58]⟩).i<=([]:List Int).length+s.ar3.2.i:=e0m _ b.hi k
 have r:s.ar2.1.length+s.ar1.i<=([]:List Int).length+s.ar2.2.i:=c2n _ g.hi y
 have e1:=g.le
 have e2:=b.le
 have e3:=j.le
 have el:s.arr.1.e.s.length<=4:=by
  show(⟨if s.arB then YT else X0⟩:Str).s.length<=4
  cases s.arB <;> decide
 have A:s.arr.1.d=s.ar2.1:=rfl
 have z:s.arr.1.x=s.ar3.1:=rfl
 have u:s.arr.2.i=(s.ar3.2.need ⟨[93]⟩).i:=rfl
 rw[A,z,u]
 simp only[List.length_nil]at r q
 omega
theorem ones(l:List Int):(l.map fun _=>1).sum=l.length:=by
 induction l with
 | nil=>rfl
 | cons a l ih=>simp only[List.map_cons,List.sum_cons,List.length_cons,ih];omega
theorem e7u{s:PS}(a:ZR s.l=true)(hi:s.i<=s.l.length)(h:s.sizesN.2.bad=false):(s.sizesN.1.map DC).sum+260*s.i<=260*s.sizesN.2.i:=by
 unfold PS.sizesN at h ⊢
 split at h
 ·rename_i h1
  rw[if_pos h1]
  have b:=Ge.step (Zk h1)
  have j:=Ge.list (one:=PS.linear) (fun s h=>Ge.linear h) b.hi
  have k:=Ge.need (w:=⟨[93]⟩) j.hi
  have w:=a2k (one:=PS.linear) (B:=fun _=>True) (f:=DC) (e:=130) (by omega) (fun _ _ _ _=>trivial) (fun s _ h=>Ge.linear h) (fun s a _ hi h=>f6k a hi h) (s:=s.step) a trivial b.hi (k.good h)
  have g:=(c1g h).2
  have e1:s.step.i=s.i+1:=rfl
  show((listL PS.linear s.step).1.map DC).sum+260*s.i<=260*((listL PS.linear s.step).2.need ⟨[93]⟩).i
  have g:((listL PS.linear s.step).2.need ⟨[93]⟩).i=(listL PS.linear s.step).2.i+1:=g
  omega
 ·rename_i h1;rw[if_neg h1];exact Nat.le_of_eq (Nat.zero_add _)
theorem e9l{s:PS}(g:ZR s.l=true)(hi:s.i<=s.l.length)(h:s.ranksN.2.bad=false):s.ranksN.1.length+260*s.i<=260*s.ranksN.2.i:=by
 unfold PS.ranksN at h ⊢
 split at h
 ·rename_i h1
  rw[if_pos h1]
  have b:=Ge.step (Zk h1)
  have a:=Ge.need (w:=⟨[40]⟩) b.hi
  have k:=Ge.list (one:=PS.numM) (fun s h=>Ge.num h) a.hi
  have j:=Ge.need (w:=⟨[41]⟩) k.hi
  have w:=a2k (one:=PS.numM) (B:=fun _=>True) (f:=fun _=>1) (e:=0) (by omega) (fun _ _ _ _=>trivial) (fun s _ h=>Ge.num h) (fun s g _ hi h=>by have:=CS (s:=s) (m:=2147483648) h;show 1+260*s.i<=260*(s.num 2147483648).2.i+0;omega) (s:=s.step.need ⟨[40]⟩) (by rw[a.l,b.l];exact g) trivial a.hi (j.good h)
  rw[ones]at w
  have e1:=b.le
  have e2:=a.le
  have e4:=j.le
  show(listL PS.numM (s.step.need ⟨[40]⟩)).1.length+260*s.i<=260*((listL PS.numM (s.step.need ⟨[40]⟩)).2.need ⟨[41]⟩).i
  omega
 ·rename_i h1;rw[if_neg h1];exact Nat.le_of_eq (Nat.zero_add _)
def WX(N:Nat)(ex:PS->Tm×PS):Prop:= ∀ s,ZR s.l=true->Ww N s->s.i<=s.l.length->(ex s).2.bad=false->JO (ex s).1+260*s.i<=260*(ex s).2.i
def WU(N:Nat)(un:PS->(Tm×Int)×PS):Prop:= ∀ s,ZR s.l=true->Ww N s->s.i<=s.l.length->(un s).2.bad=false->JO (un s).1.1+260*s.i<=260*(un s).2.i
section
variable {N:Nat} {ex:PS->Tm×PS}
theorem d1a(a:Fh N ex)(g:WX N ex){s:PS}(r:ZR s.l=true)(j:Ww N s)(hi:s.i<=s.l.length)(h:(listL ex s).2.bad=false):((listL ex s).1.map JO).sum+260*s.i<=260*(listL ex s).2.i:=
 a2k (one:=ex) (B:=Ww N) (f:=JO) (e:=0) (by omega) (fun s t h k=>h.ge k) (fun s h k=>a s h k) (fun s q b i h=>g s q b i h) r j hi h
theorem g0k(g:Fh N ex)(y:WX N ex){s:PS}(z:ZR s.l=true)(r:Ww N s)(hi:s.i<=s.l.length)(h:(VV ex s).2.bad=false):((VV ex s).1.map JO).sum+260*s.i<=260*(VV ex s).2.i:=by
 have a:=Ge.need (w:=⟨[40]⟩) hi
 have u:=Ge.need (w:=⟨[41]⟩) a.hi
 have e1:=a.le
 have e3:=u.le
 unfold VV at h ⊢
 split at h
 ·rename_i q;rw[if_pos q];show 0+260*s.i<=260*((s.need ⟨[40]⟩).need ⟨[41]⟩).i;omega
 ·rename_i q
  rw[if_neg q]
  split at h
  ·rename_i b;rw[if_pos b];show 0+260*s.i<=260*((s.need ⟨[40]⟩).need ⟨[41]⟩).i;omega
  ·rename_i b
   rw[if_neg b]
   have e:=r.ge a
   have A:=Ge.listL (B:=Ww N) (fun s t h k=>h.ge k) (fun s h k=>g s h k) e a.hi
   have j:=Ge.need (w:=⟨[41]⟩) A.hi
   have w:=d1a g y (by rw[a.l];exact z) e a.hi (j.good h)
   have e4:=j.le
   show((listL ex (s.need ⟨[40]⟩)).1.map JO).sum+260*s.i<=260*((listL ex (s.need ⟨[40]⟩)).2.need ⟨[41]⟩).i
   omega
theorem e8y(k:Fh N ex)(z:WX N ex){ln:Int}{n:Str}{s:PS}(e:ZR s.l=true)(y:Ww N s)(hi:s.i<=s.l.length)(h:(Qe ex ln n s).2.bad=false):JO (Qe ex ln n s).1+260*s.i<=n.s.length+1+260*(Qe ex ln n s).2.i:=by
 have g:=Ge.sizesN hi
 have a:=Ge.frameN g.hi
 have b:=Ge.ranksN a.hi
 have j:=g.trans (a.trans b)
 have r:=y.ge j
 have B:=Ge.kids k r b.hi
 have u:(VV ex s.sizesN.2.frameN.2.ranksN.2).2.bad=false:=h
 have q:=B.good u
 have A:=b.good q
 have b1:=a.good A
 have w1:=e7u e hi b1
 have w3:=e9l (s:=s.sizesN.2.frameN.2) (by rw[a.l,g.l];exact e) a.hi q
 have w4:=g0k k z (s:=s.sizesN.2.frameN.2.ranksN.2) (by rw[j.l];exact e) r b.hi u
 have e2:=a.le
 show JO (.mk {nd0 with kind:=6,line:=ln,name:=n,num:=s.sizesN.2.frameN.1,sizes:=s.sizesN.1,ranks:=s.sizesN.2.frameN.2.ranksN.1} (VV ex s.sizesN.2.frameN.2.ranksN.2).1)+260*s.i<=n.s.length+1+260*(VV ex s.sizesN.2.frameN.2.ranksN.2).2.i
 rw[VM,e0a]
 omega
theorem e7b(e:Fh N ex)(u:WX N ex){s:PS}(a:ZR s.l=true)(z:Ww (N+1) s)(A:(s.peek 0).k=1)(h:(Wn ex s).2.bad=false):JO (Wn ex s).1+260*s.i<=260*(Wn ex s).2.i:=by
 have hi:=X5 (s:=s) (by omega)
 have j:=Ge.step hi
 have h1:=Ge.func1 A
 have r:=j.trans h1
 unfold Wn at h ⊢
 split at h
 ·rename_i q
  rw[if_pos q]
  have y:=R7 a (by omega) h
  rw[VM,TG]
  show s.func.1.s.length+1+0+260*s.i<=260*s.func.2.i
  omega
 ·rename_i q
  rw[if_neg q]
  have b:Ww N s.func.2:=(z.step hi).ge h1
  have g:=Ge.callB e (ln:=(s.peek 0).ln) (n:=s.func.1) b h1.hi
  have y:=R7 a (by omega) (g.good h)
  have w:=e8y e u (ln:=(s.peek 0).ln) (n:=s.func.1) (s:=s.func.2) (by rw[r.l];exact a) b h1.hi h
  omega
theorem f9d(y:Fh N ex)(z:WX N ex){ln:Int}{s:PS}(j:ZR s.l=true)(H:Ww N s)(hi:s.i<=s.l.length)(h:(MB ex ln s).2.bad=false):JO (MB ex ln s).1+260*s.i<=260*(MB ex ln s).2.i:=by
 have b:=Ge.need (w:=⟨[40]⟩) hi
 have D:=Ge.func b.hi
 have a:=Ge.need (w:=⟨[44]⟩) D.hi
 have g:=b.trans (D.trans a)
 have k:=H.ge g
 have q:=y _ k a.hi
 have e:=Ge.need (w:=⟨[44]⟩) q.hi
 have u:=q.trans e
 have B:=k.ge u
 have A:=y _ B e.hi
 have r:=Ge.need (w:=⟨[41]⟩) A.hi
 have C:=r.good h
 have F:=A.good C
 have E:=e.good F
 have I:=q.good E
 have n1:=R7 (s:=s.need ⟨[40]⟩) (by rw[b.l];exact j) b.hi (a.good I)
 have w4:=z _ (by rw[g.l];exact j) k a.hi E
 have w6:=z _ (by rw[u.l,g.l];exact j) B e.hi C
 have e1:=b.le
 have e3:=a.le
 have e5:=e.le
 have e7:=r.le
 unfold MB
 dsimp only
 rw[VM,TG]
 simp only[List.map_cons,List.map_nil,List.sum_cons,List.sum_nil]
 omega
theorem f7j(z:Fh N ex)(A:WX N ex){ln:Int}{s:PS}(g:ZR s.l=true)(y:Ww N s)(hi:s.i<=s.l.length)(h:(NH ex ln s).2.bad=false):JO (NH ex ln s).1+260*s.i<=260*(NH ex ln s).2.i:=by
 have b:=Ge.need (w:=⟨[40]⟩) hi
 have r:=Ge.func b.hi
 have a:=Ge.need (w:=⟨[44]⟩) r.hi
 have e:=b.trans (r.trans a)
 have j:=y.ge e
 have k:=z _ j a.hi
 have q:=Ge.need (w:=⟨[41]⟩) k.hi
 have u:=q.good h
 have B:=k.good u
 have n1:=R7 (s:=s.need ⟨[40]⟩) (by rw[b.l];exact g) b.hi (a.good B)
 have w4:=A _ (by rw[e.l];exact g) j a.hi u
 have e1:=b.le
 have e3:=a.le
 have e5:=q.le
 unfold NH
 dsimp only
 rw[VM,TG]
 simp only[List.map_cons,List.map_nil,List.sum_cons,List.sum_nil]
 omega
theorem e7v{ln:Int}{s:PS}(e:ZR s.l=true)(hi:s.i<=s.l.length)(h:(CE ln s).2.bad=false):JO (CE ln s).1+260*s.i<=260*(CE ln s).2.i:=by
 have a:=Ge.need (w:=⟨[91]⟩) hi
 have g:=Ge.linear a.hi
 have j:=Ge.need (w:=⟨[93]⟩) g.hi
 have b:=(c1g h).2
 have w:=f6k (s:=s.need ⟨[91]⟩) (by rw[a.l];exact e) a.hi (j.good h)
 have e1:=a.le
 unfold CE at b ⊢
 dsimp only at b ⊢
 rw[VM,d3p]
 show DC (s.need ⟨[91]⟩).linear.1+1+0+260*s.i<=260*((s.need ⟨[91]⟩).linear.2.need ⟨[93]⟩).i
 omega
end
section
variable {N:Nat} {ex:PS->Tm×PS}
theorem g0e(g:Fh N ex)(z:WX N ex){s:PS}(j:ZR s.l=true)(u:Ww (N+1) s)(hi:s.i<=s.l.length)(h:(Xv ex s).2.bad=false):JO (Xv ex s).1+260*s.i<=260*(Xv ex s).2.i:=by
 by_cases q1:(s.peek 0).k=3
 ·rw[show Xv ex s=(.mk {Bo 2 (s.peek 0).ln ⟨X0⟩with num:=(s.num 2147483647).1} [],(s.num 2147483647).2)from if_pos q1]at h ⊢
  have n:=CS h
  rw[VM,f1n]
  show 3+1+0+260*s.i<=260*(s.num 2147483647).2.i
  omega
 by_cases q2:(s.peek 0).k=1
 ·rw[show Xv ex s=Wn ex s from(if_neg q1).trans (if_pos q2)]at h ⊢
  exact e7b g z j u q2 h
 unfold Xv at h ⊢
 dsimp only at h ⊢
 rw[if_neg q1,if_neg q2]at h ⊢
 split at h
 ·rename_i q;rw[if_pos q,VM,f1n]
  show 4+1+0+260*s.i<=260*(s.i+1)
  omega
 ·rename_i q;rw[if_neg q]
  split at h
  ·rename_i q;rw[if_pos q,VM,TG]
   show 4+1+0+260*s.i<=260*(s.i+1)
   omega
  ·rename_i q;rw[if_neg q]
   split at h
   ·rename_i q;rw[if_pos q]
    have a:=Zk q
    have b:=Ge.step a
    have r:=u.step a
    have A:=g _ r b.hi
    have y:=Ge.need (w:=⟨[41]⟩) A.hi
    have w:=z s.step j r b.hi (y.good h)
    have D:=y.le
    have C:s.step.i=s.i+1:=rfl
    show JO (ex s.step).1+260*s.i<=260*((ex s.step).2.need ⟨[41]⟩).i
    omega
   ·rename_i q;rw[if_neg q]
    split at h
    ·rename_i q;rw[if_pos q]
     have a:=Zk q
     have b:=Ge.step a
     have r:=u.step a
     have A:=Ge.listL (B:=Ww N) (fun s t h k=>h.ge k) (fun s h k=>g s h k) r b.hi
     have y:=Ge.need (w:=⟨[93]⟩) A.hi
     have w:=d1a g z (s:=s.step) j r b.hi (y.good h)
     have D:=y.le
     have C:s.step.i=s.i+1:=rfl
     rw[VM,g9z]
     show 1+((listL ex s.step).1.map JO).sum+260*s.i<=260*((listL ex s.step).2.need ⟨[93]⟩).i
     omega
    ·rename_i q;rw[if_neg q]
     have C:s.step.i=s.i+1:=rfl
     split at h
     ·rename_i q;rw[if_pos q]
      have a:=Zk q
      have w:=f9d g z (ln:=(s.peek 0).ln) (s:=s.step) j (u.step a) (Ge.step a).hi h
      omega
     ·rename_i q;rw[if_neg q]
      split at h
      ·rename_i q;rw[if_pos q]
       have a:=Zk q
       have w:=f7j g z (ln:=(s.peek 0).ln) (s:=s.step) j (u.step a) (Ge.step a).hi h
       omega
      ·rename_i q;rw[if_neg q]
       split at h
       ·rename_i q;rw[if_pos q]
        have a:=Zk q
        have w:=e7v (ln:=(s.peek 0).ln) (s:=s.step) j (Ge.step a).hi h
        omega
       ·rename_i q;rw[if_neg q]
        split at h
        ·rename_i q;rw[if_pos q]
         have a:=Zk q
         have b:=Ge.step a
         have A:=Ge.arr b.hi
         have e2:=A.le
         have w:=g8l (s:=s.step) b.hi h
         rw[VM,f1j]
         show s.step.arr.1.e.s.length+s.step.arr.1.d.length+s.step.arr.1.x.length+1+0+260*s.i<=260*s.step.arr.2.i
         omega
        ·cases h
theorem c5i(w:Str)(u:Bool):(Dv w u).a.s.length<=61:=by
 unfold Dv
 split
 ·rename_i r hr
  have h1:r∈KR:=List.mem_of_find?_eq_some hr
  have h2 : ∀ r∈KR,r.n.length<=61:=by decide
  exact h2 r h1
 ·exact Nat.zero_le _
theorem g8j(k:Fh N ex)(u:WX N ex){un:PS->(Tm×Int)×PS}(hu:GeU N un)(r:WU N un){s:PS}(j:ZR s.l=true)(g:Ww (N+1) s)(hi:s.i<=s.l.length)(h:(JX ex un s).2.bad=false):JO (JX ex un s).1.1+260*s.i<=260*(JX ex un s).2.i:=by
 have e1:s.step.i=s.i+1:=rfl
 unfold JX at h ⊢
 dsimp only at h ⊢
 split at h
 ·rename_i q
  rw[if_pos q]
  have n:=CS h
  rw[VM,f1n]
  show 3+1+0+260*s.i<=260*(s.step.num 2147483648).2.i
  omega
 ·rename_i q
  rw[if_neg q]
  split at h
  ·rename_i b
   rw[if_pos b]
   have e:s.i<s.l.length:=by
    simp only[Bool.or_eq_true]at b
    rcases b with b|b
    ·exact Zk b
    ·exact Zk b
   have w:=r s.step j (g.step e) (Ge.step e).hi h
   have l1:=c5i (s.peek 0).t true
   rw[VM,TG]
   simp only[List.map_cons,List.map_nil,List.sum_cons,List.sum_nil]
   show(Dv (s.peek 0).t true).a.s.length+1+(JO (un s.step).1.1+0)+260*s.i<=260*(un s.step).2.i
   omega
  ·rename_i b
   rw[if_neg b]
   exact g0e k u j g hi h
theorem e1y(s:PS):s.oper.1.1.s.length<=61:=by
 unfold PS.oper
 split
 ·exact c5i _ _
 ·exact Nat.zero_le _
theorem a9n{fr:PS->(Tm×Int)×PS}{lev ln:Int}(r:lev≠0)(hu:GeU (N+1) fr)(j:WU (N+1) fr): ∀ (n:Nat) {s:PS} {l:Tm},ZR s.l=true->Ww (N+1) s->s.i<=s.l.length->(opLoop fr lev ln n s l).2.bad=false->JO (opLoop fr lev ln n s l).1.1+260*s.i<=JO l+260*(opLoop fr lev ln n s l).2.i
 | 0,s,l,_,_,_,_=>Nat.le_refl _
 | n+1,s,l,hl,hf,hi,h=>by
  rw[opLoop]at h ⊢
  split at h
  ·rename_i q;rw[if_pos q];exact Nat.le_refl _
  ·rename_i q
   rw[if_neg q]
   split at h
   ·rename_i q;rw[if_pos q];exact Nat.le_refl _
   ·rename_i z
    rw[if_neg z]
    have k:=Pn (s:=s) (by omega)
    have e:=Ge.step k
    have a:=hf.ge e
    have b:=hu _ a e.hi
    have l1:=e1y s
    have e1:s.step.i=s.i+1:=rfl
    split at h
    ·rename_i g
     rw[if_pos g]
     have w:=j s.step hl a e.hi h
     rw[VM,TG]
     simp only[List.map_cons,List.map_nil,List.sum_cons,List.sum_nil]
     show s.oper.1.1.s.length+1+(JO l+(JO (fr s.step).1.1+0))+260*s.i<=JO l+260*(fr s.step).2.i
     omega
    ·rename_i g
     rw[if_neg g]
     have y:=Ge.opLoop (ln:=ln) r hu n (l:=.mk (Bo 6 ln s.oper.1.1) [l,(fr s.step).1.1]) (a.ge b) b.hi
     have w:=j s.step hl a e.hi (y.good h)
     have u:=a9n r hu j n (l:=.mk (Bo 6 ln s.oper.1.1) [l,(fr s.step).1.1]) (by rw[b.l];exact hl) (a.ge b) b.hi h
     rw[VM,TG]at u
     simp only[List.map_cons,List.map_nil,List.sum_cons,List.sum_nil]at u
     omega
theorem b7c{un:PS->(Tm×Int)×PS}(hu:GeU (N+1) un)(g:WU (N+1) un): ∀ d:Nat,d<=5->WU (N+1) (YM un d)
 | 0,_=>g
 | d+1,hd=>fun s i b hi h=>by
  have e:=Ge.from hu d (by omega)
  have a:=e s b hi
  have j:=Ge.opLoop (ln:=(YM un d s).1.2) (lev:=5 - (d:Int)) (by omega) e (s.l.length+1) (l:=(YM un d s).1.1) (b.ge a) a.hi
  rw[YM]at h ⊢
  have w1:=b7c hu g d (by omega) s i b hi (j.good h)
  have w2:=a9n (lev:=5 - (d:Int)) (by omega) e (b7c hu g d (by omega)) (s.l.length+1) (l:=(YM un d s).1.1) (by rw[a.l];exact i) (b.ge a) a.hi h
  omega
theorem g8b(z:Fh N ex)(A:WX N ex){un:PS->(Tm×Int)×PS}(hu:GeU (N+1) un)(E:WU (N+1) un){s:PS}(g:ZR s.l=true)(y:Ww (N+1) s)(hi:s.i<=s.l.length)(h:(exB ex un s).2.bad=false):JO (exB ex un s).1+260*s.i<=260*(exB ex un s).2.i:=by
 unfold exB at h ⊢
 dsimp only at h ⊢
 split at h
 ·rename_i q
  rw[if_pos q]
  have e:=Zk q
  have J:=Ge.step e
  have H:=y.step e
  have C:=Ge.name J.hi
  have a:=Ge.need (w:=⟨[61]⟩) C.hi
  have j:=C.trans a
  have k:=H.ge j
  have r:=z _ k a.hi
  have b:=Ge.need (w:=⟨[105,110]⟩) r.hi
  have u:=r.trans b
  have B:=k.ge u
  have I:=z _ B b.hi
  have F:=I.good h
  have D:=b.good F
  have K:=r.good D
  have n1:=BL (s:=s.step) g (a.good K)
  have w4:=A _ (by rw[j.l];exact g) k a.hi D
  have w6:=A _ (by rw[u.l,j.l];exact g) B b.hi h
  have e1:s.step.i=s.i+1:=rfl
  have e3:=a.le
  have e5:=b.le
  rw[VM,TG]
  simp only[List.map_cons,List.map_nil,List.sum_cons,List.sum_nil]
  omega
 ·rename_i q
  rw[if_neg q]
  exact b7c hu E 5 (by omega) s g y hi h
end
theorem a1m: ∀ N,WX N (Z0 N)∧WU N (Kj N)
 | 0=>⟨fun t _ a=>by unfold Ww at a;omega,fun t _ a=>by unfold Ww at a;omega⟩
 | N+1=>by
  obtain⟨j,k⟩:=a1m N
  obtain⟨i,hu⟩:=UT N
  have e:=(UT (N+1)).2
  have b:WU (N+1) (Kj (N+1)):=fun t g a hi h=>by
   rw[Bd]at h ⊢
   exact g8j i j hu k g a hi h
  exact⟨fun t g a hi h=>by
   rw[JH]at h ⊢
   exact g8b i j e b g a hi h,b⟩
theorem C8{s:PS}(hs:Ze s=true)(g:ZR s.l=true)(h:s.expr.2.bad=false):tW s.expr.1=true:=by
 have h1:=Zv hs
 have e:Ww 4001 s:=by unfold Ww;omega
 have w:=(a1m 4001).1 s g e h1.2 h
 have k:=Ge.expr e h1.2
 have b:=k.hi
 have a:=k.l
 unfold tW
 refine decide_eq_true ?_
 have w:JO s.expr.1+260*s.i<=260*s.expr.2.i:=w
 have b:s.expr.2.i<=s.expr.2.l.length:=b
 have a:s.expr.2.l=s.l:=a
 rw[a]at b
 omega
end
open Enc (enc dec is)
open EncL (encL decL isL)
theorem f2p: ∀ (s:PS) (a:Unit),Ze s=true->Zi e3i 1 (ZE 1 b4p (ZK [] [] (Ej s a).1 (Ej s a).2)) b3t [] (Z8 f9t (ZH a) ([]++[Zj s])):=by
 rintro s ⟨⟩ hs
 show Zi e3i 1 (ZE 1 b4p (ZK [] [] () s.endp)) b3t [] _
 unfold PS.endp
 refine g9d s (Yd (fun h=>Jz hs ?_) fun h=> ?_)
 ·rw[if_pos (by rw[List.length_map]at h;omega)];exact Zg c8m
 ·rw[if_neg (by rw[List.length_map]at h;omega)];exact Zg c8m
theorem Tz{s:PS}{K:Unit->PS->Prop}(hs:Ze s=true)(h:K () s.endp):WP ZH Y4 [] [] (fun(s:PS) (_:Unit)=>Ze s) Ej [.ptr 0 0] [Zj s] K:=YO ZQ s () rfl rfl hs h
theorem f0w(s:List UInt8):Zi c4e 0 (Yg 0 a4o (fun r=>r=Ez [.pv (.str s)] [])) EI [] (Z8 d3z [.pv (.str s)] []):=
 g4z s ⟨Zh ((⟨s⟩:Str),()) rfl rfl,Zc ((⟨s⟩:Str),()) rfl rfl⟩
theorem a0v{s:PS}{K:TS->PS->Prop}(hs:Ze s=true)(h:K (Gm s.expr.1) s.expr.2):WP ZH Y4 [] [] (fun(s:PS) (_:Unit)=>Ze s) a0o [.ptr 0 0] [Zj s] K:=YO ZQ s () rfl rfl hs h
theorem X7{α:Type}[Enc α]{x:α}{a b:Int}{p:PV}(h:Zd x p):Zd (⟨x,a,b⟩:R3 α Int Int) (.tup [p,.int .i64 a,.int .i64 b]):=by
 refine⟨?_,?_⟩
 ·show(is α p&&true&&true)=true
  rw[h.1];rfl
 ·show(⟨dec p,a,b⟩:R3 α Int Int)=⟨x,a,b⟩
  rw[h.2]
theorem c4n{f:Tm->Bool}{t:Tm}{p:PV}(h:Zd t p)(k:f t=true):preT (fun x:Tm×Unit=>f x.1) [p]=true:=a0z (t,()) (by show(is Tm p&&true)=true;rw[h.1];rfl) (by show((dec p:Tm),())=_;rw[h.2]) k
theorem e8u{β:Type}[Enc β]{f:Tm->β}{t:Tm}{p:PV}{P:β->Prop}(h:Zd t p)(k:P (f t)): ∃ y,AV.pv (Zl (fun x:Tm×Unit=>f x.1) [p])=AV.pv (enc y)∧P y:=PE (t,()) (by show((dec p:Tm),())=_;rw[h.2]) k
theorem Vn{w:List UInt8}{ln:Int}{o:List Pm}{g:Bool}{ty:TyS}{t:Tm}{p e r d b0 b1 l j s b q a i h:PV}(h1:Zd o p)(h2:Zd ty.elem e)(h3:Zd ty.row r)(z:Zd ty.dims d)(ht:Zd (Gm t) (.agg [b0,b1,l,j,s,b,q,a,i,h])):Zd (DF ⟨w⟩ ln o (g,ty) t) (.agg [.str w,.int .i64 ln,p,.bool g,e,r,d,b0,b1,l,j,s,b,q,a,i,h]):=by
 obtain⟨n,ks⟩:=t
 obtain⟨y,u⟩:=ht
 have y:(is Int b0&&is Int b1&&is Str l&&is Int j&&is Str s&&is (List Int) b&&is (List Int) q&&is (List Lin) a&&is (List Int) i&&is (List Tm) h)=true:=y
 have u:(⟨⟨dec b0,dec b1,dec l,dec j,dec s,dec b,dec q,dec a,dec i⟩,dec h⟩:TS)=⟨n,ks⟩:=u
 have A:(⟨dec b0,dec b1,dec l,dec j,dec s,dec b,dec q,dec a,dec i⟩:Nd)=n:=congrArg TS.n u
 have D:(dec h:List Tm)=ks:=congrArg TS.k u
 simp only[Bool.and_eq_true]at y
 obtain⟨⟨⟨⟨⟨⟨⟨⟨⟨C,B⟩,a2⟩,a3⟩,a4⟩,a5⟩,a6⟩,a7⟩,a8⟩,a9⟩:=y
 refine⟨?_,?_⟩
 ·show(true&&true&&is (List Pm) p&&true&&is Str e&&is Str r&&is (List Lin) d&&is Int b0&&is Int b1&&is Str l&&is Int j&&is Str s&&is (List Int) b&&is (List Int) q&&is (List Lin) a&&is (List Int) i&&is (List Tm) h)=true
  rw[h1.1,h2.1,h3.1,z.1,C,B,a2,a3,a4,a5,a6,a7,a8,a9]
  rfl
 ·show(⟨⟨w⟩,ln,dec p,g,⟨dec e,dec r,dec d⟩,⟨dec b0,dec b1,dec l,dec j,dec s,dec b,dec q,dec a,dec i⟩,dec h⟩:Df)=⟨⟨w⟩,ln,o,g,ty,n,ks⟩
  rw[h1.2,h2.2,h3.2,z.2,A,D]
theorem c0i:Zd (Gm (Tm.mk nd0 [])) (.agg [.int .i64 0,.int .i64 0,.str [],.int .i64 0,.str [],.sl 0 true [],.sl 0 true [],.sl 0 true [],.sl 0 true [],.sl 0 true []]):=Ga (YX rfl) (YX rfl) (ZC rfl) (YX rfl) (ZC rfl) Zn Zn Zn Zn Zn
theorem RO{s:PS}{d:Tm->Df}(h:s.bad=true):s.dfE d=((d (.mk nd0 []),false),s):=if_pos h
theorem a0b{s:PS}{d:Tm->Df}(h:s.bad=false)(h2:s.expr.2.bad=true):s.dfE d=((d s.expr.1,false),s.expr.2):=(if_neg (by rw[h];decide)).trans (if_pos h2)
theorem Ut{s:PS}{d:Tm->Df}(h:s.bad=false)(h2:s.expr.2.bad=false):s.dfE d=((d s.expr.1,s.expr.2.big||(!(YJ s.expr.1)||(decide ((d s.expr.1).ps.length>8)||decide ((d s.expr.1).line>10000)))),s.expr.2):=(if_neg (by rw[h];decide)).trans (if_neg (by rw[h2];decide))
theorem e4c{w:List UInt8}{ln:Int}{o:List Pm}{e r:List UInt8}{d:List Lin}{s:PS}(hs:Ze s=true)(j:ZR s.l=true):e0z (ZK [] [] ((s.need ⟨[61]⟩).dfE (DF ⟨w⟩ ln o (true,⟨⟨e⟩,⟨r⟩,d⟩))).1 ((s.need ⟨[61]⟩).dfE (DF ⟨w⟩ ln o (true,⟨⟨e⟩,⟨r⟩,d⟩))).2) s w ln o e r d:=by
 have k:=Zv hs
 have i:=Ge.need (w:=⟨[61]⟩) k.2
 have b:=i.ok hs
 have g:ZR (s.need ⟨[61]⟩).l=true:=by rw[i.l];exact j
 refine ZL hs ?_
 generalize s.need ⟨[61]⟩=t at b g ⊢
 refine ZW (fun h1=> ?_) fun h1=>a0v b (ZW (fun h2=> ?_) fun h2=>ZW (fun h3=> ?_) fun h3=>⟨c4n (Jf t.expr.1) (b0r (C8 b g h2)),e8u (Jf t.expr.1) (YA (fun a=> ?_) fun a=>Yd (fun h=> ?_) fun h=> ?_)⟩)
 ·rw[RO h1];exact Zg (Vv (Vn (Zp (x:=o) rfl) (ZC rfl) (ZC rfl) (Zp (x:=d) rfl) c0i) (Zu rfl))
 ·rw[a0b h1 h2];exact Zg (Vv (Vn (Zp (x:=o) rfl) (ZC rfl) (ZC rfl) (Zp (x:=d) rfl) (UD _)) (Zu rfl))
 ·rw[Ut h1 h2,h3];exact Zg (Vv (Vn (Zp (x:=o) rfl) (ZC rfl) (ZC rfl) (Zp (x:=d) rfl) (UD _)) (Zu rfl))
 ·rw[Ut h1 h2,h3]
  have a:YJ t.expr.1=false:=a
  rw[a];exact Zg (Vv (Vn (Zp (x:=o) rfl) (ZC rfl) (ZC rfl) (Zp (x:=d) rfl) (UD _)) (Zu rfl))
 ·rw[Ut h1 h2,h3]
  have a:YJ t.expr.1=true:=a
  rw[a,decide_eq_true (show((DF ⟨w⟩ ln o (true,⟨⟨e⟩,⟨r⟩,d⟩)) t.expr.1).ps.length>8 by show o.length>8;rw[List.length_map]at h;omega)];exact Zg (Vv (Vn (Zp (x:=o) rfl) (ZC rfl) (ZC rfl) (Zp (x:=d) rfl) (UD _)) (Zu rfl))
 ·rw[Ut h1 h2,h3]
  have a:YJ t.expr.1=true:=a
  rw[a,decide_eq_false (show ¬ ((DF ⟨w⟩ ln o (true,⟨⟨e⟩,⟨r⟩,d⟩)) t.expr.1).ps.length>8 by show ¬ o.length>8;rw[List.length_map]at h;omega)];exact Zg (Vv (Vn (Zp (x:=o) rfl) (ZC rfl) (ZC rfl) (Zp (x:=d) rfl) (UD _)) (Zu rfl))
theorem d5j{w:List UInt8}{ln:Int}{o:List Pm}{s:PS}(hs:Ze s=true)(i:ZR s.l=true):e5u (ZK [] [] ((s.need ⟨[61]⟩).dfE (DF ⟨w⟩ ln o (false,ty0))).1 ((s.need ⟨[61]⟩).dfE (DF ⟨w⟩ ln o (false,ty0))).2) s w ln o:=by
 have j:=Zv hs
 have h:=Ge.need (w:=⟨[61]⟩) j.2
 have b:=h.ok hs
 have e:ZR (s.need ⟨[61]⟩).l=true:=by rw[h.l];exact i
 refine ZL hs ?_
 generalize s.need ⟨[61]⟩=t at b e ⊢
 refine ZW (fun h1=> ?_) fun h1=>a0v b (ZW (fun h2=> ?_) fun h2=>ZW (fun h3=> ?_) fun h3=>⟨c4n (Jf t.expr.1) (b0r (C8 b e h2)),e8u (Jf t.expr.1) (YA (fun a=> ?_) fun a=>Yd (fun g=> ?_) fun g=> ?_)⟩)
 ·rw[RO h1];exact Zg (Vv (Vn (Zp (x:=o) rfl) (ZC rfl) (ZC rfl) Zn c0i) (Zu rfl))
 ·rw[a0b h1 h2];exact Zg (Vv (Vn (Zp (x:=o) rfl) (ZC rfl) (ZC rfl) Zn (UD _)) (Zu rfl))
 ·rw[Ut h1 h2,h3];exact Zg (Vv (Vn (Zp (x:=o) rfl) (ZC rfl) (ZC rfl) Zn (UD _)) (Zu rfl))
 ·rw[Ut h1 h2,h3]
  have a:YJ t.expr.1=false:=a
  rw[a];exact Zg (Vv (Vn (Zp (x:=o) rfl) (ZC rfl) (ZC rfl) Zn (UD _)) (Zu rfl))
 ·rw[Ut h1 h2,h3]
  have a:YJ t.expr.1=true:=a
  rw[a,decide_eq_true (show((DF ⟨w⟩ ln o (false,ty0)) t.expr.1).ps.length>8 by show o.length>8;rw[List.length_map]at g;omega)];exact Zg (Vv (Vn (Zp (x:=o) rfl) (ZC rfl) (ZC rfl) Zn (UD _)) (Zu rfl))
 ·rw[Ut h1 h2,h3]
  have a:YJ t.expr.1=true:=a
  rw[a,decide_eq_false (show ¬ ((DF ⟨w⟩ ln o (false,ty0)) t.expr.1).ps.length>8 by show ¬ o.length>8;rw[List.length_map]at g;omega)];exact Zg (Vv (Vn (Zp (x:=o) rfl) (ZC rfl) (ZC rfl) Zn (UD _)) (Zu rfl))
theorem d3w{w:List UInt8}{ln:Int}{e r:List UInt8}{d:List Lin}{s:PS}(hs:Ze s=true)(i:ZR s.l=true):d3o (ZK [] [] ((s.need ⟨[61]⟩).dfE (DF ⟨w⟩ ln [] (true,⟨⟨e⟩,⟨r⟩,d⟩))).1 ((s.need ⟨[61]⟩).dfE (DF ⟨w⟩ ln [] (true,⟨⟨e⟩,⟨r⟩,d⟩))).2) s w ln e r d:=by
 have j:=Zv hs
 have h:=Ge.need (w:=⟨[61]⟩) j.2
 have b:=h.ok hs
 have g:ZR (s.need ⟨[61]⟩).l=true:=by rw[h.l];exact i
 refine ZL hs ?_
 generalize s.need ⟨[61]⟩=t at b g ⊢
 refine ZW (fun h1=> ?_) fun h1=>a0v b (ZW (fun h2=> ?_) fun h2=>ZW (fun h3=> ?_) fun h3=>⟨c4n (Jf t.expr.1) (b0r (C8 b g h2)),e8u (Jf t.expr.1) (YA (fun a=> ?_) fun a=> ?_)⟩)
 ·rw[RO h1];exact Zg (Vv (Vn Zn (ZC rfl) (ZC rfl) (Zp (x:=d) rfl) c0i) (Zu rfl))
 ·rw[a0b h1 h2];exact Zg (Vv (Vn Zn (ZC rfl) (ZC rfl) (Zp (x:=d) rfl) (UD _)) (Zu rfl))
 ·rw[Ut h1 h2,h3];exact Zg (Vv (Vn Zn (ZC rfl) (ZC rfl) (Zp (x:=d) rfl) (UD _)) (Zu rfl))
 ·rw[Ut h1 h2,h3]
  have a:YJ t.expr.1=false:=a
  rw[a];exact Zg (Vv (Vn Zn (ZC rfl) (ZC rfl) (Zp (x:=d) rfl) (UD _)) (Zu rfl))
 ·rw[Ut h1 h2,h3]
  have a:YJ t.expr.1=true:=a
  rw[a];exact Zg (Vv (Vn Zn (ZC rfl) (ZC rfl) (Zp (x:=d) rfl) (UD _)) (Zu rfl))
theorem e3g{w:List UInt8}{ln:Int}{s:PS}(hs:Ze s=true)(h:ZR s.l=true):d2w (ZK [] [] ((s.need ⟨[61]⟩).dfE (DF ⟨w⟩ ln [] (false,ty0))).1 ((s.need ⟨[61]⟩).dfE (DF ⟨w⟩ ln [] (false,ty0))).2) s w ln:=by
 have i:=Zv hs
 have g:=Ge.need (w:=⟨[61]⟩) i.2
 have b:=g.ok hs
 have e:ZR (s.need ⟨[61]⟩).l=true:=by rw[g.l];exact h
 refine ZL hs ?_
 generalize s.need ⟨[61]⟩=t at b e ⊢
 refine ZW (fun h1=> ?_) fun h1=>a0v b (ZW (fun h2=> ?_) fun h2=>ZW (fun h3=> ?_) fun h3=>⟨c4n (Jf t.expr.1) (b0r (C8 b e h2)),e8u (Jf t.expr.1) (YA (fun a=> ?_) fun a=> ?_)⟩)
 ·rw[RO h1];exact Zg (Vv (Vn Zn (ZC rfl) (ZC rfl) Zn c0i) (Zu rfl))
 ·rw[a0b h1 h2];exact Zg (Vv (Vn Zn (ZC rfl) (ZC rfl) Zn (UD _)) (Zu rfl))
 ·rw[Ut h1 h2,h3];exact Zg (Vv (Vn Zn (ZC rfl) (ZC rfl) Zn (UD _)) (Zu rfl))
 ·rw[Ut h1 h2,h3]
  have a:YJ t.expr.1=false:=a
  rw[a];exact Zg (Vv (Vn Zn (ZC rfl) (ZC rfl) Zn (UD _)) (Zu rfl))
 ·rw[Ut h1 h2,h3]
  have a:YJ t.expr.1=true:=a
  rw[a];exact Zg (Vv (Vn Zn (ZC rfl) (ZC rfl) Zn (UD _)) (Zu rfl))
theorem f1d{nm:Str}{ln:Int}{o:List Pm}{ty:TyS}{s:PS}(hs:Ze s=true)(a:ZR s.l=true):e0z (ZK [] [] ((s.need ⟨[61]⟩).dfE (DF nm ln o (true,ty))).1 ((s.need ⟨[61]⟩).dfE (DF nm ln o (true,ty))).2) s nm.s ln o ty.elem.s ty.row.s ty.dims:=by
 obtain⟨w⟩:=nm
 obtain⟨⟨e⟩,⟨r⟩,d⟩:=ty
 exact e4c hs a
theorem f0q{nm:Str}{ln:Int}{o:List Pm}{s:PS}(hs:Ze s=true)(a:ZR s.l=true):e5u (ZK [] [] ((s.need ⟨[61]⟩).dfE (DF nm ln o (false,ty0))).1 ((s.need ⟨[61]⟩).dfE (DF nm ln o (false,ty0))).2) s nm.s ln o:=by
 obtain⟨w⟩:=nm
 exact d5j hs a
theorem c2w{nm:Str}{ln:Int}{ty:TyS}{s:PS}(hs:Ze s=true)(a:ZR s.l=true):d3o (ZK [] [] ((s.need ⟨[61]⟩).dfE (DF nm ln [] (true,ty))).1 ((s.need ⟨[61]⟩).dfE (DF nm ln [] (true,ty))).2) s nm.s ln ty.elem.s ty.row.s ty.dims:=by
 obtain⟨w⟩:=nm
 obtain⟨⟨e⟩,⟨r⟩,d⟩:=ty
 exact d3w hs a
theorem c1x{nm:Str}{ln:Int}{s:PS}(hs:Ze s=true)(a:ZR s.l=true):d2w (ZK [] [] ((s.need ⟨[61]⟩).dfE (DF nm ln [] (false,ty0))).1 ((s.need ⟨[61]⟩).dfE (DF nm ln [] (false,ty0))).2) s nm.s ln:=by
 obtain⟨w⟩:=nm
 exact e3g hs a
theorem e9b{s:PS}(h:s.bad=true):s.dfP=([],s):=if_pos h
theorem f7b{s:PS}(h:s.bad=false)(h2:s.next ⟨[41]⟩=true):s.dfP=([],s):=(if_neg (by rw[h];decide)).trans (if_pos h2)
theorem g2g{s:PS}(h:s.bad=false)(h2:s.next ⟨[41]⟩=false):s.dfP=listL PS.param s:=(if_neg (by rw[h];decide)).trans (if_neg (by rw[h2];decide))
theorem e0j{s:PS}(h:s.next ⟨[58]⟩=true):s.dfR=((true,s.step.typ.1),s.step.typ.2):=if_pos h
theorem d7w{s:PS}(h:s.next ⟨[58]⟩=false):s.dfR=((false,ty0),s):=if_neg (by rw[h];decide)
theorem Dl{s:PS}{ps:List Pm×PS}{r:(Bool×TyS)×PS}(h1:(s.df0.name.2.need ⟨[40]⟩).dfP=ps)(h2:(ps.2.need ⟨[41]⟩).dfR=r):s.defP=(r.2.need ⟨[61]⟩).dfE (DF s.df0.name.1 (s.peek 0).ln ps.1 r.1):=by subst h1 h2;rfl
set_option maxHeartbeats 2000000 in
theorem e7d: ∀ (s:PS) (a:Unit),(Ze s&&ZR s.l)=true->Zi d6y 1 (ZE 1 b2j (ZK [] [] (c8v s a).1 (c8v s a).2)) b3f [] (Z8 g1e (ZH a) ([]++[Zj s])):=by
 rintro s ⟨⟩ h
 rw[Bool.and_eq_true]at h
 obtain⟨hs,N⟩:=h
 have P:=Zv hs
 have kd:=Ge.need (w:=⟨[100,101,102]⟩) P.2
 have C:=kd.ok hs
 have hu:Ze s.df0=true:=C
 have Q:ZR s.df0.l=true:=by show ZR (s.need _).l=true;rw[kd.l];exact N
 have M:=Zv hu
 have E:=Ge.name M.2
 have y:=E.ok hu
 have H:=Ge.need (w:=⟨[40]⟩) E.hi
 have e:=H.ok y
 have F:=E.trans H
 show Zi d6y 1 (ZE 1 b2j (ZK [] [] s.defP.1 s.defP.2)) b3f [] _
 have D : ∀ {ps:List Pm×PS} (h1:(s.df0.name.2.need ⟨[40]⟩).dfP=ps) (k:Ge s.df0 ps.2),
   Ze (ps.2.need ⟨[41]⟩)=true∧ZR (ps.2.need ⟨[41]⟩).l=true∧(ps.2.need ⟨[41]⟩).i<=(ps.2.need ⟨[41]⟩).l.length:=fun {ps} h1 k=>by
  have O:=Ge.need (w:=⟨[41]⟩) k.hi
  have K:=k.trans O
  exact⟨K.ok hu,by rw[K.l];exact Q,K.hi⟩
 have ty : ∀ {t:PS},Ze t=true->ZR t.l=true->t.next ⟨[58]⟩=true->Ze t.step=true∧Ze t.step.typ.2=true∧ZR t.step.typ.2.l=true:=fun {t} a b c=>by
  have B:=Ge.step (Zk c)
  have L:=Ge.typ B.hi
  exact⟨B.ok a,L.ok (B.ok a),by rw[L.l,B.l];exact b⟩
 refine g8n s (Xa hs (ZL hs (c1j (s:=s.df0) rfl hu (ZL y (YA (fun hb=>YV e (YA (fun hn=> ?_) fun hn=> ?_)) fun hb=> ?_)))))
 ·have g:=g2g hb hn
  have J:=Ge.list (one:=PS.param) (fun s h=>Ge.param h) H.hi
  obtain⟨j,r,I⟩:=D g (F.trans J)
  refine d8y e (ZL (J.ok e) (Yj j (fun q=>Yh rfl ?_) fun q=>Yi (by simp) ?_))
  ·obtain⟨A,z,u⟩:=ty j r q
   refine c2x A ?_
   rw[Dl g (e0j q)]
   exact f1d z u
  ·rw[Dl g (d7w q)]
   exact f0q j r
 ·have g:=f7b hb hn
  obtain⟨j,r,I⟩:=D g F
  refine ZL e (Yj j (fun q=>Yh rfl ?_) fun q=>Yi (by simp) ?_)
  ·obtain⟨A,z,u⟩:=ty j r q
   refine c2x A ?_
   rw[Dl g (e0j q)]
   exact c2w z u
  ·rw[Dl g (d7w q)]
   exact c1x j r
 ·have g:=e9b hb
  obtain⟨j,r,I⟩:=D g F
  refine ZL e (Yj j (fun q=>Yh rfl ?_) fun q=>Yi (by simp) ?_)
  ·obtain⟨A,z,u⟩:=ty j r q
   refine c2x A ?_
   rw[Dl g (e0j q)]
   exact c2w z u
  ·rw[Dl g (d7w q)]
   exact c1x j r
theorem c4z{s:PS}{K:Df×Bool->PS->Prop}(hs:Ze s=true)(a:ZR s.l=true)(h:K s.defP.1 s.defP.2):WP ZH Y4 [] [] (fun(s:PS) (_:Unit)=>Ze s&&ZR s.l) c8v [.ptr 0 0] [Zj s] K:=YO ZQ s () rfl rfl (by rw[hs,a];rfl) h
set_option maxRecDepth 100000
abbrev a1v(args:List AV)(os:List AObj):=WP (RA 34) (CZ) ([]) ([]) (fun(s:PS) (x:Unit)=>Ze s) (Xn PS.name) args os
abbrev a4a(args:List AV)(os:List AObj):=WP (ZH) (Y4) ([]) ([]) (fun(s:PS) (x:Unit)=>Ze s&&ZR (PS.l s)) (c8v) args os
abbrev EX(args:List AV)(os:List AObj):=WP (ZH) (Y4) ([]) ([]) (fun(s:PS) (x:Unit)=>Ze s) (Ej) args os
noncomputable def Yx:IC:=XH Proofs.Tryz.f18
def Yy:List IRes:=[(.cell true 4 2),(.tmp 3),(.tmp 4)]
abbrev g1a:Nat:=108
noncomputable def Xe:ZM:=YN [(25,.own Aq Ez),MW,a9s,Ct,(36,.own (X3 (RA 34) [] [] (fun(s:PS) (_:Unit)=>Ze s)) (Wy CZ [] [] (Xn PS.name))),En,BG,(39,.own (X3 ZH [] [] (fun(s:PS) (_:Unit)=>Ze s&&ZR s.l)) (Wy Y4 [] [] c8v)),(27,.own (X3 ZH [] [] (fun(s:PS) (_:Unit)=>Ze s)) (Wy Y4 [] [] Ej))]
def GJ:PV:=.agg [.str [],.sl 0 true [],.sl 0 true [],.sl 0 true []]
def JN:List (Nat×AV):=[(2,.ptr 0 0),(5,.ptr 1 0)]
def g8w{G:PV->Prop}(s:List UInt8):=Vw ((Aq [.pv (.str s)] [])=true∧(if (R3.c (KN (Str.mk s)) != 0)=true then G (.tup [GJ,.int .i64 (R3.b (KN (Str.mk s))),.int .i64 (R3.c (KN (Str.mk s)))])else(ZU [.ptr 0 0,.pv (.str [109,111,100,117,108,101])] [.box [.pv (.sl 4 false (List.map enc (PS.l (bgS s)))),.pv (.int .i64 (↑(PS.i (bgS s)):Int)),.pv (.int .i64 (PS.sz (bgS s))),WV,.pv (.int .i64 (PS.wr (bgS s))),WV]] fun y0 g=>(QQ [.ptr 0 0] [Zj g] fun e a=>(At Xe 0 (Za Yy G) Yx 0 108 JN [.obj (.box [Gy e,Ya,Ya,Ya]),.obj (Zj a)]))))) G (dm [dv Unit,dO PS,dv Str] 16 0x67165100014231) Xe Yy Yx (Ye 108 [.str s]) (by delta GJ WV JN Gy Ya;exact rfl)
def a5p:List AV:=[.ptr 0 0,.pv (.str [105,109,112,111,114,116])]
def a1i(a:List UInt8)(Zm:PS):ZF:=[.obj (.box [.pv (.str a),Ya,Ya,Ya]),.obj (Zj Zm)]
def a4g:List AV:=[.ptr 0 0,.pv (.str [101,120,112,111,114,116])]
def AR:List (Nat×AV):=[(2,.ptr 0 0),(5,.ptr 1 0),(6,.pv (.int .i64 (-1)))]
def e6r{G:PV->Prop}(s:List UInt8)(w:List UInt8)(q:PS):=WA (Yl a5p [Zj q] fun i e=>(if (i)=true then a1v CK [Zj e] fun a b=>((List.isEmpty (List.map enc a)||Enc.sz Str==1)=true∧(if (List.isEmpty (List.map enc a))=true then At Xe 0 (Za Yy G) Yx 0 108 JN (a1i w b)else(((List.isEmpty ([]:List PV)||0==1)&&decide ((List.length ([]:List PV)+List.length (List.map enc a))*16<=1099511627776)&&decide (List.length ([]:List PV)+List.length (List.map enc a)<=1099511627776))=true∧(At Xe 0 (Za Yy G) Yx 0 108 JN [.obj (.box [.pv (.str w),.row 2 (List.length ([]:List PV)+List.length (List.map enc a)) 0 (List.length ([]:List PV)+List.length (List.map enc a)),Ya,Ya]),.obj (Zj b),.obj (.row false 9 1 (([]:List PV)++List.map enc a))]))))else(Yl a4g [Zj e] fun j g=>(if (j)=true then a1v CK [Zj g] fun h k=>(At Xe 0 (Za Yy G) Yx 1 108 AR [.obj (.box [.pv (.str w),Ya,.pv (.sl 1 false (List.map enc h)),Ya]),.obj (Zj k)])else(At Xe 0 (Za Yy G) Yx 1 108 AR (a1i w g)))))) G (dm [dv Bool,dO PS,dv (List Str)] 32 0x671004465101000142167100c4651) Xe Yy Yx 0 108 JN (a1i w q) (by delta a5p CK JN Ya a1i a4g AR;exact rfl)
def Ce(a:List Str):Slot:=.obj (.row false 9 1 (List.map enc a))
def f3w{G:PV->Prop}(s:List UInt8)(w:List UInt8)(q:PS)(o:List Str)(L:Nat):=WA (Yl a5p [Zj q] fun i b=>(if (i)=true then a1v CK [Zj b] fun a g=>((List.isEmpty (List.map enc a)||Enc.sz Str==1)=true∧((List.length (List.map enc o)==L&&L==L&&decide ((L+List.length (List.map enc a))*16<=1099511627776)&&decide (L+List.length (List.map enc a)<=1099511627776))=true∧(At Xe 0 (Za Yy G) Yx 0 108 JN [.obj (.box [.pv (.str w),.row 2 (L+List.length (List.map enc a)) 0 (L+List.length (List.map enc a)),Ya,Ya]),.obj (Zj g),.obj (.row false 9 1 (List.map enc o++List.map enc a))])))else(Yl a4g [Zj b] fun j e=>(if (j)=true then a1v CK [Zj e] fun h k=>(At Xe 0 (Za Yy G) Yx 1 108 AR [.obj (.box [.pv (.str w),.row 2 L 0 L,.pv (.sl 1 false (List.map enc h)),Ya]),.obj (Zj k),Ce o])else(At Xe 0 (Za Yy G) Yx 1 108 AR [.obj (.box [.pv (.str w),.row 2 L 0 L,Ya,Ya]),.obj (Zj e),Ce o]))))) G (dm [dv Bool,dO PS,dv (List Str)] 26 0x67100446510116710064651) Xe Yy Yx 0 108 JN [.obj (.box [.pv (.str w),.row 2 L 0 L,Ya,Ya]),.obj (Zj q),a1f o] (by delta a5p CK JN Ya a4g AR Ce;exact rfl)
def Gs(a:Tok):List (Nat×AV):=[(2,.ptr 0 0),(5,.ptr 1 0),(6,.pv (.int .i64 (Tok.o a)))]
def f3s(a:Df×Bool):Slot:=.obj (.row false 56 17 [.agg [.str (Str.s (Df.name a.1)),.int .i64 (Df.line a.1),.sl 5 false (List.map enc (Df.ps a.1)),.bool (Df.given a.1),.str (Str.s (TyS.elem (Df.res a.1))),.str (Str.s (TyS.row (Df.res a.1))),.sl 2 false (List.map enc (TyS.dims (Df.res a.1))),.int .i64 (Nd.kind (Df.n a.1)),.int .i64 (Nd.line (Df.n a.1)),.str (Str.s (Nd.name (Df.n a.1))),.int .i64 (Nd.num (Df.n a.1)),.str (Str.s (Nd.elem (Df.n a.1))),.sl 1 false (List.map enc (Nd.dims (Df.n a.1))),.sl 1 false (List.map enc (Nd.data (Df.n a.1))),.sl 2 false (List.map enc (Nd.sizes (Df.n a.1))),.sl 1 false (List.map enc (Nd.ranks (Df.n a.1))),.sl 10 false (List.map enc (Df.ks a.1))]])
def a5r(b:List UInt8)(Zm:Nat)(g:Bool)(a:List PV)(h:PS)(e:Df×Bool):ZF:=[.obj (.box [.pv (.str b),Ya,.pv (.sl Zm g a),.row 2 1 0 1]),.obj (Zj h),f3s e]
def Qu(a:Int):List (Nat×AV):=[(2,.ptr 0 0),(5,.ptr 1 0),(6,ZJ a)]
def OE(a:PS):PV:=.tup [GJ,.int .i64 (PS.wr a),.int .i64 6]
def HV(a:Int):PV:=.tup [GJ,.int .i64 a,.int .i64 3]
def GK(a:List PV):Bool:=decide ((↑(List.length a):Int)>60)
def TN:PV:=.tup [GJ,.int .i64 0,.int .i64 3]
def e3t(g:PS)(Zm:PV->Prop)(a:Int)(b:List PV)(i:List UInt8)(j:Nat)(h:Bool):Prop:=EX [.ptr 0 0] [Zj g] fun z0' e=>(if (PS.bad e)=true then Zm (OE e)else(if (decide (a ≥ 0))=true then Zm (HV a)else(if (GK b)=true then Zm (TN)else(Zm (.tup [.agg [.str i,.sl 0 true [],.sl j h b,.sl 0 true []],.int .i64 0,.int .i64 0])))))
def e8t{G:PV->Prop}(s:List UInt8)(w:List UInt8)(q:PS)(v:Int)(k:Nat)(n:Bool)(xs:List PV):=WA (if (!PS.bad q)=true then Xq KO [Zj q] fun h e=>(if (h)=true then Xy Y0 [Zj e] fun i g=>(a4a [.ptr 0 0] [Zj g] fun a b=>(if a.2=true then if (decide (v<0))=true then At Xe 0 (Za Yy G) Yx 1 108 (Gs i) (a5r w k n xs b a)else(At Xe 0 (Za Yy G) Yx 1 108 (Qu v) (a5r w k n xs b a))else(At Xe 0 (Za Yy G) Yx 1 108 (Qu v) (a5r w k n xs b a))))else(e3t e G v xs w k n))else(e3t q G v xs w k n)) G (dm [dv Bool,dO PS,dv Tok,dv (Df×Bool),dv Unit] 131 0x222222022222006422222220001420001469122202222220222220064222222200014200014691022222222022222022222006422201346816710264265120554) Xe Yy Yx 1 108 (Qu v) [.obj (.box [.pv (.str w),Ya,.pv (.sl k n xs),Ya]),.obj (Zj q)] (by delta KO ZB Y0 Gs Ya f3s a5r ZJ Qu GJ OE HV GK TN e3t;exact rfl)
def a0e(a:List UInt8)(Zm b:Nat)(e:Bool)(i:List PV)(j:PS)(g:List Str)(h:Df×Bool):ZF:=[.obj (.box [.pv (.str a),.row 2 Zm 0 Zm,.pv (.sl b e i),.row 3 1 0 1]),.obj (Zj j),Ce g,f3s h]
def e2q(i:PS)(Zm:PV->Prop)(b:Int)(a:Nat)(g:List PV)(h:List Str)(j:List UInt8)(l:Nat)(k:Bool):Prop:=EX [.ptr 0 0] [Zj i] fun z0' e=>(if (PS.bad e)=true then Zm (OE e)else(if (decide (b ≥ 0))=true then Zm (HV b)else(if (decide ((↑(a - 0):Int)>20))=true then Zm (TN)else(if (GK g)=true then Zm (TN)else((DU h a)=true∧(Zm (.tup [.agg [.str j,.sl 1 false (List.drop 0 (List.take a (List.map enc h))),.sl l k g,.sl 0 true []],.int .i64 0,.int .i64 0])))))))
def f4f{G:PV->Prop}(s:List UInt8)(w:List UInt8)(q:PS)(v:Int)(k:Nat)(n:Bool)(xs:List PV)(o:List Str)(L:Nat):=WA (if (!PS.bad q)=true then Xq KO [Zj q] fun h e=>(if (h)=true then Xy Y0 [Zj e] fun i g=>(a4a [.ptr 0 0] [Zj g] fun a b=>(if a.2=true then if (decide (v<0))=true then At Xe 0 (Za Yy G) Yx 1 108 (Gs i) (a0e w L k n xs b o a)else(At Xe 0 (Za Yy G) Yx 1 108 (Qu v) (a0e w L k n xs b o a))else(At Xe 0 (Za Yy G) Yx 1 108 (Qu v) (a0e w L k n xs b o a))))else(e2q e G v L xs o w k n))else(e2q q G v L xs o w k n)) G (dm [dv Bool,dO PS,dv Tok,dv (Df×Bool),dv Unit] 161 0x12222220222220064222220222222222200b4200014200014691222012222220222220064222220222222222200b4200014200014691022222222022222022222006422201346816710264265120644) Xe Yy Yx 1 108 (Qu v) [.obj (.box [.pv (.str w),.row 2 L 0 L,.pv (.sl k n xs),Ya]),.obj (Zj q),a1f o] (by delta KO ZB Y0 Gs Ce f3s a0e ZJ Qu GJ OE HV TN GK DU e2q;exact rfl)
def e5v(a:Df×Bool):List PV:=List.drop 0 (List.take 1 [PV.agg [enc (Df.name a.1),enc (Df.line a.1),enc (Df.ps a.1),enc (Df.given a.1),enc (TyS.elem (Df.res a.1)),enc (TyS.row (Df.res a.1)),enc (TyS.dims (Df.res a.1)),enc (Nd.kind (Df.n a.1)),enc (Nd.line (Df.n a.1)),enc (Nd.name (Df.n a.1)),enc (Nd.num (Df.n a.1)),enc (Nd.elem (Df.n a.1)),enc (Nd.dims (Df.n a.1)),enc (Nd.data (Df.n a.1)),enc (Nd.sizes (Df.n a.1)),enc (Nd.ranks (Df.n a.1)),enc (Df.ks a.1)]])
def TV(b:List Df)(Zm:Nat)(a:Df×Bool):Bool:=List.length (List.map enc b)==Zm&&Zm==Zm&&decide ((Zm+List.length (e5v a))*288<=1099511627776)&&decide (Zm+List.length (e5v a)<=1099511627776)
def Fu(a:Nat)(Zm:Df×Bool):Nat:=a+List.length (e5v Zm)
def e6w(a:List Df)(Zm:Df×Bool):Slot:=.obj (.row false 56 17 (List.map enc a++List.drop 0 (List.take 1 [PV.agg [enc (Df.name Zm.1),enc (Df.line Zm.1),enc (Df.ps Zm.1),enc (Df.given Zm.1),enc (TyS.elem (Df.res Zm.1)),enc (TyS.row (Df.res Zm.1)),enc (TyS.dims (Df.res Zm.1)),enc (Nd.kind (Df.n Zm.1)),enc (Nd.line (Df.n Zm.1)),enc (Nd.name (Df.n Zm.1)),enc (Nd.num (Df.n Zm.1)),enc (Nd.elem (Df.n Zm.1)),enc (Nd.dims (Df.n Zm.1)),enc (Nd.data (Df.n Zm.1)),enc (Nd.sizes (Df.n Zm.1)),enc (Nd.ranks (Df.n Zm.1)),enc (Df.ks Zm.1)]])))
def a4e(e:List UInt8)(Zm:Nat)(g:Bool)(h:List PV)(b:Nat)(a:Df×Bool)(i:PS)(j:List Df):ZF:=[.obj (.box [.pv (.str e),Ya,.pv (.sl Zm g h),.row 2 (Fu b a) 0 (Fu b a)]),.obj (Zj i),e6w j a]
def d1j(i:PS)(Zm:PV->Prop)(b:Int)(e:List PV)(a:Nat)(h:List Df)(j:List UInt8)(l:Nat)(k:Bool):Prop:=EX [.ptr 0 0] [Zj i] fun z0' g=>(if (PS.bad g)=true then Zm (OE g)else(if (decide (b ≥ 0))=true then Zm (HV b)else(if (GK e)=true then Zm (TN)else(if (decide ((↑(a - 0):Int)>60))=true then Zm (TN)else((List.length (List.map enc h)==a)=true∧(Zm (.tup [.agg [.str j,.sl 0 true [],.sl l k e,.sl 17 false (List.drop 0 (List.take a (List.map enc h)))],.int .i64 0,.int .i64 0])))))))
def f0x{G:PV->Prop}(s:List UInt8)(w:List UInt8)(q:PS)(v:Int)(k:Nat)(n:Bool)(xs:List PV)(ds:List Df)(D:Nat):=WA (if (!PS.bad q)=true then Xq KO [Zj q] fun h e=>(if (h)=true then Xy Y0 [Zj e] fun i g=>(a4a [.ptr 0 0] [Zj g] fun a b=>(if a.2=true then if (decide (v<0))=true then(TV ds D a)=true∧(At Xe 0 (Za Yy G) Yx 1 108 (Gs i) (a4e w k n xs D a b ds))else((TV ds D a)=true∧(At Xe 0 (Za Yy G) Yx 1 108 (Qu v) (a4e w k n xs D a b ds)))else((TV ds D a)=true∧(At Xe 0 (Za Yy G) Yx 1 108 (Qu v) (a4e w k n xs D a b ds)))))else(d1j e G v xs D ds w k n))else(d1j q G v xs D ds w k n)) G (dm [dv Bool,dO PS,dv Tok,dv (Df×Bool),dv Unit] 135 0x1000142222202222200642222222000142000146912220100014222220222220064222222200014200014691012222201220122004422200f46816710204265120544) Xe Yy Yx 1 108 (Qu v) [.obj (.box [.pv (.str w),Ya,.pv (.sl k n xs),.row 2 D 0 D]),.obj (Zj q),.obj (.row false 56 17 (ds.map enc))] (by delta KO ZB Y0 e5v TV Gs Ya Fu e6w a4e ZJ Qu GJ OE HV GK TN d1j;exact rfl)
def a5m(e:List UInt8)(Zm g:Nat)(h:Bool)(l:List PV)(b:Nat)(a:Df×Bool)(k:PS)(i:List Str)(j:List Df):ZF:=[.obj (.box [.pv (.str e),.row 2 Zm 0 Zm,.pv (.sl g h l),.row 3 (Fu b a) 0 (Fu b a)]),.obj (Zj k),Ce i,e6w j a]
def EA:PV:=.tup [GJ,.int .i64 0,.int .i64 3]
def e2f(l:PS)(Zm:PV->Prop)(g:Int)(a:Nat)(k:List PV)(b:Nat)(h:List Str)(j:List Df)(q:List UInt8)(r:Nat)(e:Bool):Prop:=EX [.ptr 0 0] [Zj l] fun z0' i=>(if (PS.bad i)=true then Zm (.tup [GJ,.int .i64 (PS.wr i),.int .i64 6])else(if (decide (g ≥ 0))=true then Zm (HV g)else(if (decide ((↑(a - 0):Int)>20))=true then Zm (EA)else(if (GK k)=true then Zm (EA)else(if (decide ((↑(b - 0):Int)>60))=true then Zm (EA)else((DU h a)=true∧((List.length (List.map enc j)==b)=true∧(Zm (.tup [.agg [.str q,Nj a h,.sl r e k,.sl 17 false (List.drop 0 (List.take b (List.map enc j)))],.int .i64 0,.int .i64 0])))))))))
def e6v{G:PV->Prop}(s:List UInt8)(w:List UInt8)(q:PS)(v:Int)(k:Nat)(n:Bool)(xs:List PV)(o:List Str)(L:Nat)(ds:List Df)(D:Nat):=WA (if (!PS.bad q)=true then Xq KO [Zj q] fun h e=>(if (h)=true then Xy Y0 [Zj e] fun i g=>(a4a [.ptr 0 0] [Zj g] fun a b=>(if a.2=true then if (decide (v<0))=true then(TV ds D a)=true∧(At Xe 0 (Za Yy G) Yx 1 108 (Gs i) (a5m w L k n xs D a b o ds))else((TV ds D a)=true∧(At Xe 0 (Za Yy G) Yx 1 108 (Qu v) (a5m w L k n xs D a b o ds)))else((TV ds D a)=true∧(At Xe 0 (Za Yy G) Yx 1 108 (Qu v) (a5m w L k n xs D a b o ds)))))else(e2f e G v L xs D o ds w k n))else(e2f q G v L xs D o ds w k n)) G (dm [dv Bool,dO PS,dv Tok,dv (Df×Bool),dv Unit] 165 0x1100014222220222220064222220222222222200b420001420001469122201100014222220222220064222220222222222200b4200014200014691012222201220122004422200f46816710204265120634) Xe Yy Yx 1 108 (Qu v) [.obj (.box [.pv (.str w),.row 2 L 0 L,.pv (.sl k n xs),.row 3 D 0 D]),.obj (Zj q),a1f o,.obj (.row false 56 17 (ds.map enc))] (by delta KO ZB Y0 e5v TV Gs Fu Ce e6w a5m ZJ Qu GJ HV EA GK DU Nj e2f;exact rfl)
end Go.Pl
namespace Go.Pl
open Go.RowKit
def XN(nm:Str)(im ex:List Str)(r:(Int×List Df)×PS):R3 Mdu Int Int:=
 if r.2.endp.bad then⟨md0,r.2.endp.wr,6⟩
 else if 0<=r.1.1 then⟨md0,r.1.1,3⟩
 else if im.length>20∨ex.length>60∨r.1.2.length>60 then⟨md0,0,3⟩
 else⟨⟨nm,im,ex,r.1.2⟩,0,0⟩
def b2q(L:Nat)(nm:Str)(r:List Str×PS):R3 Mdu Int Int:=XN nm r.1 r.2.expo.1 (Ql (L+1) r.2.expo.2 (-1) [])
theorem f2n{s:Str}(h:(KN s).c=0):BS s=b2q (bgS s.s).l.length ((bgS s.s).need ⟨[109,111,100,117,108,101]⟩).name.1 (impL ((bgS s.s).l.length+1) ((bgS s.s).need ⟨[109,111,100,117,108,101]⟩).name.2 []):=by
 unfold BS
 rw[if_neg (fun k=>k h)]
 rfl
theorem Ge.dfP{s:PS}(h:s.i<=s.l.length):Ge s s.dfP.2:=by
 unfold PS.dfP
 split
 ·exact Ge.refl h
 ·split
  ·exact Ge.refl h
  ·exact Ge.list (one:=PS.param) (fun s h=>Ge.param h) h
theorem Ge.dfR{s:PS}(h:s.i<=s.l.length):Ge s s.dfR.2:=by
 unfold PS.dfR
 split
 ·have a:=Ge.step (Zk ‹_›)
  exact a.trans (Ge.typ a.hi)
 ·exact Ge.refl h
theorem Ge.dfE{s:PS}{d:Tm->Df}(hs:Ze s=true):Ge s (s.dfE d).2:=by
 have a:=Zv hs
 have k:Ge s s.expr.2:=Ge.expr (by unfold Ww;omega) a.2
 unfold PS.dfE
 split
 ·exact Ge.refl a.2
 ·split
  ·exact k
  ·exact k
theorem Ge.defP{s:PS}(hs:Ze s=true):Ge s.df0 s.defP.2:=by
 have j:=Zv hs
 have kd:=Ge.need (w:=⟨[100,101,102]⟩) j.2
 have hu:Ze s.df0=true:=kd.ok hs
 have b:=Ge.name (Zv hu).2
 have e:=Ge.need (w:=⟨[40]⟩) b.hi
 have g:=Ge.dfP e.hi
 have h:=Ge.need (w:=⟨[41]⟩) g.hi
 have a:=Ge.dfR h.hi
 have i:=Ge.need (w:=⟨[61]⟩) a.hi
 have K:=b.trans (e.trans (g.trans (h.trans (a.trans i))))
 exact K.trans (Ge.dfE (K.ok hu))
theorem Mv{s:PS}(hs:Ze s=true)(b:ZR s.l=true)(h:s.next ⟨[100,101,102]⟩=true):Ze s.defP.2=true∧ZR s.defP.2.l=true∧s.defP.2.l=s.l∧s.i+1<=s.defP.2.i:=by
 have k:=Ge.defP hs
 have e:s.need ⟨[100,101,102]⟩=s.step:=if_pos h
 have hu:Ze s.df0=true:=(Ge.need (w:=⟨[100,101,102]⟩) (Zv hs).2).ok hs
 have a:s.df0.l=s.l:=by show(s.need _).l=s.l;rw[e];rfl
 have ei:s.df0.i=s.i+1:=by show(s.need _).i=_;rw[e];rfl
 have k2:=k.le
 exact⟨k.ok hu,by rw[k.l,a];exact b,by rw[k.l,a],by omega⟩
open Enc (enc dec is)
open EncL (encL decL isL)
theorem a2h{w:List UInt8}{im ex:List Str}{ds:List Df}{a b c:PV}(h1:Zd im a)(h2:Zd ex b)(h3:Zd ds c):Zd (⟨⟨w⟩,im,ex,ds⟩:Mdu) (.agg [.str w,a,b,c]):=by
 refine⟨?_,?_⟩
 ·show(true&&is (List Str) a&&is (List Str) b&&is (List Df) c)=true
  rw[h1.1,h2.1,h3.1];rfl
 ·show(⟨⟨w⟩,dec a,dec b,dec c⟩:Mdu)=⟨⟨w⟩,im,ex,ds⟩
  rw[h1.2,h2.2,h3.2]
theorem Xm:Zd md0 (.agg [.str [],.sl 0 true [],.sl 0 true [],.sl 0 true []]):=a2h Zn Zn Zn
theorem Eo{ex:List Str}{k:Nat}{n:Bool}{xs:List PV}(h:Zd ex (.sl k n xs)):xs.length=ex.length:=by
 have h2:(xs.map dec:List Str)=ex:=h.2
 rw[<- h2,List.length_map]
theorem BX{f:Nat}{s:PS}{w:Int}{o:List Df}(h:s.bad=true):Ql f s w o=((w,o),s):=by
 cases f with
 | zero=>rfl
 | succ f=>rw[Ql,if_pos h]
theorem Po{f:Nat}{s:PS}{w:Int}{o:List Df}(h:s.next ⟨[100,101,102]⟩=false):Ql f s w o=((w,o),s):=by
 cases f with
 | zero=>rfl
 | succ f=>
  rw[Ql]
  split
  ·rfl
  ·rw[if_neg (by rw[h];decide)]
theorem Pj{f:Nat}{s:PS}{w:Int}{o:List Df}(hb:s.bad=false)(h:s.next ⟨[100,101,102]⟩=true):Ql (f+1) s w o=Ql f s.defP.2 (if s.defP.1.2&&decide (w<0)then(s.peek 0).o else w) (o++[s.defP.1.1]):=by rw[Ql,if_neg (by rw[hb];decide),if_pos h]
theorem e1i{s w:List UInt8}{k:Nat}{n:Bool}{xs:List PV}{ex:List Str}(j:Zd ex (.sl k n xs))(R:R3 Mdu Int Int): ∀ (f:Nat) (q:PS) (v:Int) (ds:List Df) (D:Nat),Ze q=true->ZR q.l=true->q.l.length<q.i+f->D=ds.length->D<=q.i->R=XN ⟨w⟩ [] ex (Ql f q v ds) ->
  At Xe 0 (Za Yy (Zd R)) Yx 1 108 [(2,.ptr 0 0),(5,.ptr 1 0),(6,.pv (.int .i64 v))] [.obj (.box [.pv (.str w),.pv (.sl 0 true []),.pv (.sl k n xs),.row 2 D 0 D]),.obj (Zj q),.obj (.row false 56 17 (ds.map enc))]:=by
 have hxl:=Eo j
 intro f
 induction f with
 | zero=>intro q v ds D g z A;have:=Zv g;omega
 | succ f ih=>
  intro q v ds D g z A a hDi b
  have hl:=Zv g
  refine f0x s w q v k n xs ds D (YA (fun hb=>YV g (ZW (fun hd=>Xa g (c4z g z ?_)) fun hd=>Tz g ?_)) fun hb=>Tz g ?_)
  ·rw[Pj hb hd]at b
   obtain⟨u,y,E,a4⟩:=Mv g z hd
   have r:q.defP.2.l.length<q.defP.2.i+f:=by rw[E];omega
   have e:List.map (enc:Df->PV) ds++List.drop 0 (List.take 1 [PV.agg [enc (Df.name q.defP.1.1),enc (Df.line q.defP.1.1),enc (Df.ps q.defP.1.1),enc (Df.given q.defP.1.1),enc (TyS.elem (Df.res q.defP.1.1)),enc (TyS.row (Df.res q.defP.1.1)),enc (TyS.dims (Df.res q.defP.1.1)),enc (Nd.kind (Df.n q.defP.1.1)),enc (Nd.line (Df.n q.defP.1.1)),enc (Nd.name (Df.n q.defP.1.1)),enc (Nd.num (Df.n q.defP.1.1)),enc (Nd.elem (Df.n q.defP.1.1)),enc (Nd.dims (Df.n q.defP.1.1)),enc (Nd.data (Df.n q.defP.1.1)),enc (Nd.sizes (Df.n q.defP.1.1)),enc (Nd.ranks (Df.n q.defP.1.1)),enc (Df.ks q.defP.1.1)]])=(ds++[q.defP.1.1]).map enc:=Dz ds q.defP.1.1
   have sz:(List.length (List.map (enc:Df->PV) ds)==D&&D==D&&decide ((D+1)*136<=1099511627776)&&decide (D+1<=1099511627776))=true:=by simp[a];omega
   refine ZW (fun h1=>Yd (fun h2=>⟨by simp[a];omega,?_⟩) fun h2=>⟨by simp[a];omega,?_⟩) fun h1=>⟨by simp[a];omega,?_⟩
   ·rw[e]
    rw[if_pos (by rw[h1,decide_eq_true h2];rfl)]at b
    exact ih _ _ _ _ u y r (by simp[a]) (by simp;omega) b
   ·rw[e]
    rw[if_neg (by rw[h1,decide_eq_false h2];decide)]at b
    exact ih _ _ _ _ u y r (by simp[a]) (by simp;omega) b
   ·rw[e]
    rw[if_neg (by rw[h1];simp)]at b
    exact ih _ _ _ _ u y r (by simp[a]) (by simp;omega) b
  ·rw[Po hd]at b
   subst b
   exact ZW (fun h1=>by rw[XN,if_pos h1];exact X7 Xm) fun h1=>Yd (fun h2=>by rw[XN,if_neg (by rw[h1];decide),if_pos h2];exact X7 Xm) fun h2=>Yd (fun h=>by rw[XN,if_neg (by rw[h1];decide),if_neg h2,if_pos (Or.inr (Or.inl (show ex.length>60 by omega)))];exact X7 Xm) fun B=>Yd (fun h=>by rw[XN,if_neg (by rw[h1];decide),if_neg h2,if_pos (Or.inr (Or.inr (show ds.length>60 by omega)))];exact X7 Xm) fun C=>⟨by simp[a],by rw[XN,if_neg (by rw[h1];decide),if_neg h2,if_neg (by rintro(h|h|h);exact absurd h (by decide);(have h:ex.length>60:=h;omega);(have h:ds.length>60:=h;omega))];exact X7 (a2h Zn j (by rw[V3 ds a];exact Uc ds rfl))⟩
  ·rw[BX hb]at b
   subst b
   exact ZW (fun h1=>by rw[XN,if_pos h1];exact X7 Xm) fun h1=>Yd (fun h2=>by rw[XN,if_neg (by rw[h1];decide),if_pos h2];exact X7 Xm) fun h2=>Yd (fun h=>by rw[XN,if_neg (by rw[h1];decide),if_neg h2,if_pos (Or.inr (Or.inl (show ex.length>60 by omega)))];exact X7 Xm) fun B=>Yd (fun h=>by rw[XN,if_neg (by rw[h1];decide),if_neg h2,if_pos (Or.inr (Or.inr (show ds.length>60 by omega)))];exact X7 Xm) fun C=>⟨by simp[a],by rw[XN,if_neg (by rw[h1];decide),if_neg h2,if_neg (by rintro(h|h|h);exact absurd h (by decide);(have h:ex.length>60:=h;omega);(have h:ds.length>60:=h;omega))];exact X7 (a2h Zn j (by rw[V3 ds a];exact Uc ds rfl))⟩
theorem e2m{s w:List UInt8}{k:Nat}{n:Bool}{xs:List PV}(o:List Str)(L:Nat)(u:L=o.length){ex:List Str}(j:Zd ex (.sl k n xs))(R:R3 Mdu Int Int): ∀ (f:Nat) (q:PS) (v:Int) (ds:List Df) (D:Nat),Ze q=true->ZR q.l=true->q.l.length<q.i+f->D=ds.length->D<=q.i->R=XN ⟨w⟩ o ex (Ql f q v ds) ->
  At Xe 0 (Za Yy (Zd R)) Yx 1 108 [(2,.ptr 0 0),(5,.ptr 1 0),(6,.pv (.int .i64 v))] [.obj (.box [.pv (.str w),.row 2 L 0 L,.pv (.sl k n xs),.row 3 D 0 D]),.obj (Zj q),.obj (.row false 9 1 (o.map enc)),.obj (.row false 56 17 (ds.map enc))]:=by
 have hxl:=Eo j
 intro f
 induction f with
 | zero=>intro q v ds D g A F;have:=Zv g;omega
 | succ f ih=>
  intro q v ds D g A F b hDi a
  have hl:=Zv g
  refine e6v s w q v k n xs o L ds D (YA (fun hb=>YV g (ZW (fun hd=>Xa g (c4z g A ?_)) fun hd=>Tz g ?_)) fun hb=>Tz g ?_)
  ·rw[Pj hb hd]at a
   obtain⟨z,y,E,a4⟩:=Mv g A hd
   have r:q.defP.2.l.length<q.defP.2.i+f:=by rw[E];omega
   have e:List.map (enc:Df->PV) ds++List.drop 0 (List.take 1 [PV.agg [enc (Df.name q.defP.1.1),enc (Df.line q.defP.1.1),enc (Df.ps q.defP.1.1),enc (Df.given q.defP.1.1),enc (TyS.elem (Df.res q.defP.1.1)),enc (TyS.row (Df.res q.defP.1.1)),enc (TyS.dims (Df.res q.defP.1.1)),enc (Nd.kind (Df.n q.defP.1.1)),enc (Nd.line (Df.n q.defP.1.1)),enc (Nd.name (Df.n q.defP.1.1)),enc (Nd.num (Df.n q.defP.1.1)),enc (Nd.elem (Df.n q.defP.1.1)),enc (Nd.dims (Df.n q.defP.1.1)),enc (Nd.data (Df.n q.defP.1.1)),enc (Nd.sizes (Df.n q.defP.1.1)),enc (Nd.ranks (Df.n q.defP.1.1)),enc (Df.ks q.defP.1.1)]])=(ds++[q.defP.1.1]).map enc:=Dz ds q.defP.1.1
   have sz:(List.length (List.map (enc:Df->PV) ds)==D&&D==D&&decide ((D+1)*136<=1099511627776)&&decide (D+1<=1099511627776))=true:=by simp[b];omega
   refine ZW (fun h1=>Yd (fun h2=>⟨by simp[b];omega,?_⟩) fun h2=>⟨by simp[b];omega,?_⟩) fun h1=>⟨by simp[b];omega,?_⟩
   ·rw[e]
    rw[if_pos (by rw[h1,decide_eq_true h2];rfl)]at a
    exact ih _ _ _ _ z y r (by simp[b]) (by simp;omega) a
   ·rw[e]
    rw[if_neg (by rw[h1,decide_eq_false h2];decide)]at a
    exact ih _ _ _ _ z y r (by simp[b]) (by simp;omega) a
   ·rw[e]
    rw[if_neg (by rw[h1];simp)]at a
    exact ih _ _ _ _ z y r (by simp[b]) (by simp;omega) a
  ·rw[Po hd]at a
   subst a
   exact ZW (fun h1=>by rw[XN,if_pos h1];exact X7 Xm) fun h1=>Yd (fun h2=>by rw[XN,if_neg (by rw[h1];decide),if_pos h2];exact X7 Xm) fun h2=>Yd (fun h=>by rw[XN,if_neg (by rw[h1];decide),if_neg h2,if_pos (Or.inl (show o.length>20 by omega))];exact X7 Xm) fun B=>Yd (fun h=>by rw[XN,if_neg (by rw[h1];decide),if_neg h2,if_pos (Or.inr (Or.inl (show ex.length>60 by omega)))];exact X7 Xm) fun C=>Yd (fun h=>by rw[XN,if_neg (by rw[h1];decide),if_neg h2,if_pos (Or.inr (Or.inr (show ds.length>60 by omega)))];exact X7 Xm) fun H=>⟨by simp[u],by simp[b],by rw[XN,if_neg (by rw[h1];decide),if_neg h2,if_neg (by rintro(h|h|h);(have h:o.length>20:=h;omega);(have h:ex.length>60:=h;omega);(have h:ds.length>60:=h;omega))];exact X7 (a2h (by rw[V3 o u];exact Uc o rfl) j (by rw[V3 ds b];exact Uc ds rfl))⟩
  ·rw[BX hb]at a
   subst a
   exact ZW (fun h1=>by rw[XN,if_pos h1];exact X7 Xm) fun h1=>Yd (fun h2=>by rw[XN,if_neg (by rw[h1];decide),if_pos h2];exact X7 Xm) fun h2=>Yd (fun h=>by rw[XN,if_neg (by rw[h1];decide),if_neg h2,if_pos (Or.inl (show o.length>20 by omega))];exact X7 Xm) fun B=>Yd (fun h=>by rw[XN,if_neg (by rw[h1];decide),if_neg h2,if_pos (Or.inr (Or.inl (show ex.length>60 by omega)))];exact X7 Xm) fun C=>Yd (fun h=>by rw[XN,if_neg (by rw[h1];decide),if_neg h2,if_pos (Or.inr (Or.inr (show ds.length>60 by omega)))];exact X7 Xm) fun H=>⟨by simp[u],by simp[b],by rw[XN,if_neg (by rw[h1];decide),if_neg h2,if_neg (by rintro(h|h|h);(have h:o.length>20:=h;omega);(have h:ex.length>60:=h;omega);(have h:ds.length>60:=h;omega))];exact X7 (a2h (by rw[V3 o u];exact Uc o rfl) j (by rw[V3 ds b];exact Uc ds rfl))⟩
theorem f5u{s w:List UInt8}{k:Nat}{n:Bool}{xs:List PV}{ex:List Str}(a:Zd ex (.sl k n xs))(R:R3 Mdu Int Int): ∀ (f:Nat) (q:PS) (v:Int),Ze q=true->ZR q.l=true->q.l.length<q.i+f->R=XN ⟨w⟩ [] ex (Ql f q v []) ->
  At Xe 0 (Za Yy (Zd R)) Yx 1 108 [(2,.ptr 0 0),(5,.ptr 1 0),(6,.pv (.int .i64 v))] [.obj (.box [.pv (.str w),.pv (.sl 0 true []),.pv (.sl k n xs),.pv (.sl 0 true [])]),.obj (Zj q)]:=by
 have hxl:=Eo a
 intro f q v e u hf b
 have hl:=Zv e
 obtain⟨f,rfl⟩ : ∃ m,f=m+1:=⟨f - 1,by omega⟩
 refine e8t s w q v k n xs (YA (fun hb=>YV e (ZW (fun hd=>Xa e (c4z e u ?_)) fun hd=>Tz e ?_)) fun hb=>Tz e ?_)
 ·rw[Pj hb hd]at b
  obtain⟨j,r,z,a4⟩:=Mv e u hd
  have g:q.defP.2.l.length<q.defP.2.i+f:=by rw[z];omega
  refine ZW (fun h1=>Yd (fun h2=> ?_) fun h2=> ?_) fun h1=> ?_
  ·rw[if_pos (by rw[h1,decide_eq_true h2];rfl)]at b
   exact e1i (s:=s) a R f _ _ [q.defP.1.1] 1 j r g rfl (by omega) b
  ·rw[if_neg (by rw[h1,decide_eq_false h2];decide)]at b
   exact e1i (s:=s) a R f _ _ [q.defP.1.1] 1 j r g rfl (by omega) b
  ·rw[if_neg (by rw[h1];simp)]at b
   exact e1i (s:=s) a R f _ _ [q.defP.1.1] 1 j r g rfl (by omega) b
 ·rw[Po hd]at b
  subst b
  exact ZW (fun h1=>by rw[XN,if_pos h1];exact X7 Xm) fun h1=>Yd (fun h2=>by rw[XN,if_neg (by rw[h1];decide),if_pos h2];exact X7 Xm) fun h2=>Yd (fun h=>by rw[XN,if_neg (by rw[h1];decide),if_neg h2,if_pos (Or.inr (Or.inl (show ex.length>60 by omega)))];exact X7 Xm) fun y=>by rw[XN,if_neg (by rw[h1];decide),if_neg h2,if_neg (by rintro(h|h|h);exact absurd h (by decide);(have h:ex.length>60:=h;omega);exact absurd h (by show ¬ 0>60;decide))];exact X7 (a2h Zn a Zn)
 ·rw[BX hb]at b
  subst b
  exact ZW (fun h1=>by rw[XN,if_pos h1];exact X7 Xm) fun h1=>Yd (fun h2=>by rw[XN,if_neg (by rw[h1];decide),if_pos h2];exact X7 Xm) fun h2=>Yd (fun h=>by rw[XN,if_neg (by rw[h1];decide),if_neg h2,if_pos (Or.inr (Or.inl (show ex.length>60 by omega)))];exact X7 Xm) fun y=>by rw[XN,if_neg (by rw[h1];decide),if_neg h2,if_neg (by rintro(h|h|h);exact absurd h (by decide);(have h:ex.length>60:=h;omega);exact absurd h (by show ¬ 0>60;decide))];exact X7 (a2h Zn a Zn)
theorem f5n{s w:List UInt8}{k:Nat}{n:Bool}{xs:List PV}(o:List Str)(L:Nat)(g:L=o.length){ex:List Str}(a:Zd ex (.sl k n xs))(R:R3 Mdu Int Int): ∀ (f:Nat) (q:PS) (v:Int),Ze q=true->ZR q.l=true->q.l.length<q.i+f->R=XN ⟨w⟩ o ex (Ql f q v []) ->
  At Xe 0 (Za Yy (Zd R)) Yx 1 108 [(2,.ptr 0 0),(5,.ptr 1 0),(6,.pv (.int .i64 v))] [.obj (.box [.pv (.str w),.row 2 L 0 L,.pv (.sl k n xs),.pv (.sl 0 true [])]),.obj (Zj q),.obj (.row false 9 1 (o.map enc))]:=by
 have hxl:=Eo a
 intro f q v e y hf b
 have hl:=Zv e
 obtain⟨f,rfl⟩ : ∃ m,f=m+1:=⟨f - 1,by omega⟩
 refine f4f s w q v k n xs o L (YA (fun hb=>YV e (ZW (fun hd=>Xa e (c4z e y ?_)) fun hd=>Tz e ?_)) fun hb=>Tz e ?_)
 ·rw[Pj hb hd]at b
  obtain⟨r,u,B,a4⟩:=Mv e y hd
  have j:q.defP.2.l.length<q.defP.2.i+f:=by rw[B];omega
  refine ZW (fun h1=>Yd (fun h2=> ?_) fun h2=> ?_) fun h1=> ?_
  ·rw[if_pos (by rw[h1,decide_eq_true h2];rfl)]at b
   exact e2m (s:=s) o L g a R f _ _ [q.defP.1.1] 1 r u j rfl (by omega) b
  ·rw[if_neg (by rw[h1,decide_eq_false h2];decide)]at b
   exact e2m (s:=s) o L g a R f _ _ [q.defP.1.1] 1 r u j rfl (by omega) b
  ·rw[if_neg (by rw[h1];simp)]at b
   exact e2m (s:=s) o L g a R f _ _ [q.defP.1.1] 1 r u j rfl (by omega) b
 ·rw[Po hd]at b
  subst b
  exact ZW (fun h1=>by rw[XN,if_pos h1];exact X7 Xm) fun h1=>Yd (fun h2=>by rw[XN,if_neg (by rw[h1];decide),if_pos h2];exact X7 Xm) fun h2=>Yd (fun h=>by rw[XN,if_neg (by rw[h1];decide),if_neg h2,if_pos (Or.inl (show o.length>20 by omega))];exact X7 Xm) fun A=>Yd (fun h=>by rw[XN,if_neg (by rw[h1];decide),if_neg h2,if_pos (Or.inr (Or.inl (show ex.length>60 by omega)))];exact X7 Xm) fun z=>⟨by simp[g],by rw[XN,if_neg (by rw[h1];decide),if_neg h2,if_neg (by rintro(h|h|h);(have h:o.length>20:=h;omega);(have h:ex.length>60:=h;omega);exact absurd h (by show ¬ 0>60;decide))];exact X7 (a2h (by rw[V3 o g];exact Uc o rfl) a Zn)⟩
 ·rw[BX hb]at b
  subst b
  exact ZW (fun h1=>by rw[XN,if_pos h1];exact X7 Xm) fun h1=>Yd (fun h2=>by rw[XN,if_neg (by rw[h1];decide),if_pos h2];exact X7 Xm) fun h2=>Yd (fun h=>by rw[XN,if_neg (by rw[h1];decide),if_neg h2,if_pos (Or.inl (show o.length>20 by omega))];exact X7 Xm) fun A=>Yd (fun h=>by rw[XN,if_neg (by rw[h1];decide),if_neg h2,if_pos (Or.inr (Or.inl (show ex.length>60 by omega)))];exact X7 Xm) fun z=>⟨by simp[g],by rw[XN,if_neg (by rw[h1];decide),if_neg h2,if_neg (by rintro(h|h|h);(have h:o.length>20:=h;omega);(have h:ex.length>60:=h;omega);exact absurd h (by show ¬ 0>60;decide))];exact X7 (a2h (by rw[V3 o g];exact Uc o rfl) a Zn)⟩
theorem Oh{α:Type}{one:PS->α×PS}(a : ∀ s:PS,s.i<=s.l.length->Ge s (one s).2): ∀ (n:Nat) {s:PS} {o:List α},s.i<=s.l.length->(moreL one n s o).1.length+s.i<=o.length+(moreL one n s o).2.i
 | 0,s,o,_=>Nat.le_refl _
 | n+1,s,o,hi=>by
  rw[moreL]
  split
  ·exact Nat.le_refl _
  ·split
   ·have e:=Ge.step (Zk ‹_›)
    have b:=a _ e.hi
    have w:=Oh a n (o:=o++[(one s.step).1]) b.hi
    have e1:s.step.i=s.i+1:=rfl
    have e2:=b.le
    rw[List.length_append]at w
    simp only[List.length_cons,List.length_nil]at w
    omega
   ·exact Nat.le_refl _
theorem FM{α:Type}{one:PS->α×PS}(b : ∀ s:PS,s.i<=s.l.length->Ge s (one s).2){s:PS}(hi:s.i<=s.l.length):(listL one s).1.length+s.i<=1+(listL one s).2.i:=by
 have a:=b _ hi
 have w:=Oh b (s.l.length+1) (o:=[(one s).1]) a.hi
 have e:=a.le
 simp only[List.length_cons,List.length_nil]at w
 unfold listL
 omega
theorem a8v{α:Type}{one:PS->α×PS}: ∀ (n:Nat) {s:PS} {o:List α},o≠[]->(moreL one n s o).1≠[]
 | 0,s,o,h=>h
 | n+1,s,o,h=>by
  rw[moreL]
  split
  ·exact h
  ·split
   ·exact a8v n (by simp)
   ·exact h
theorem d7y{α:Type}{one:PS->α×PS}{s:PS}:(listL one s).1≠[]:=a8v _ (by simp)
theorem d8x{f:Nat}{s:PS}{o:List Str}(h:s.next ⟨[105,109,112,111,114,116]⟩=true):impL (f+1) s o=impL f (listL PS.name s.step).2 (o++(listL PS.name s.step).1):=by rw[impL,if_pos h]
theorem ET{f:Nat}{s:PS}{o:List Str}(h:s.next ⟨[105,109,112,111,114,116]⟩=false):impL f s o=(o,s):=by
 cases f with
 | zero=>rfl
 | succ f=>rw[impL,if_neg (by rw[h];decide)]
theorem d5d{s:PS}(h:s.next ⟨[101,120,112,111,114,116]⟩=true):s.expo=listL PS.name s.step:=if_pos h
theorem d7o{s:PS}(h:s.next ⟨[101,120,112,111,114,116]⟩=false):s.expo=([],s):=if_neg (by rw[h];decide)
theorem g7o{s w:List UInt8}(W:Nat)(R:R3 Mdu Int Int): ∀ (f:Nat) (q:PS) (o:List Str) (L:Nat),Ze q=true->ZR q.l=true->q.l.length=W->q.l.length<q.i+f->L=o.length->L<=q.i->R=b2q W ⟨w⟩ (impL f q o) ->
  At Xe 0 (Za Yy (Zd R)) Yx 0 108 [(2,.ptr 0 0),(5,.ptr 1 0)] [.obj (.box [.pv (.str w),.row 2 L 0 L,.pv (.sl 0 true []),.pv (.sl 0 true [])]),.obj (Zj q),.obj (.row false 9 1 (o.map enc))]:=by
 intro f
 induction f with
 | zero=>intro q o L e _ _ z;have:=Zv e;omega
 | succ f ih=>
  intro q o L e u A z r hLi k
  have hl:=Zv e
  refine f3w s w q o L (Yj e (fun h=>Yh rfl ?_) fun h=>Yi (by simp) (Yj e (fun h2=>Yh rfl ?_) fun h2=>Yi (by simp) ?_))
  ·rw[d8x h]at k
   have b:=Ge.step (Zk h)
   have a:=b.ok e
   have j:=Ge.list (one:=PS.name) (fun s h=>Ge.name h) b.hi
   have n1:=FM (one:=PS.name) (fun s h=>Ge.name h) b.hi
   have e1:q.step.i=q.i+1:=rfl
   have e2:=j.le
   have y:=j.hi
   have g:(listL PS.name q.step).2.l=q.l:=by rw[j.l,b.l]
   rw[g]at y
   refine RJ a ⟨by rw[show(Enc.sz Str==1)=true from rfl,Bool.or_true],by simp[r];omega,?_⟩
   rw[<- List.map_append]
   exact ih _ _ _ (j.ok a) (by rw[g];exact u) (by rw[g];exact A) (by rw[g];omega) (by simp[r]) (by simp;omega) k
  ·rw[ET h]at k
   have b:=Ge.step (Zk h2)
   have a:=b.ok e
   have j:=Ge.list (one:=PS.name) (fun s h=>Ge.name h) b.hi
   have g:(listL PS.name q.step).2.l=q.l:=by rw[j.l,b.l]
   refine RJ a ?_
   refine f5n (s:=s) o L r (ex:=(listL PS.name q.step).1) (Zp rfl) R (W+1) _ (-1) (j.ok a) (by rw[g];exact u) (by rw[g];omega) ?_
   rw[k];unfold b2q;rw[d5d h2]
  ·rw[ET h]at k
   refine f5n (s:=s) o L r (ex:=[]) Zn R (W+1) _ (-1) e u (by omega) ?_
   rw[k];unfold b2q;rw[d7o h2]
theorem g4n{s w:List UInt8}(W:Nat)(R:R3 Mdu Int Int)(f:Nat)(q:PS)(k:Ze q=true)(r:ZR q.l=true)(u:q.l.length=W)(hf:q.l.length<q.i+(f+1))(g:R=b2q W ⟨w⟩ (impL (f+1) q [])):
  At Xe 0 (Za Yy (Zd R)) Yx 0 108 [(2,.ptr 0 0),(5,.ptr 1 0)] [.obj (.box [.pv (.str w),.pv (.sl 0 true []),.pv (.sl 0 true []),.pv (.sl 0 true [])]),.obj (Zj q)]:=by
 have hl:=Zv k
 refine e6r s w q (Yj k (fun h=>Yh rfl ?_) fun h=>Yi (by simp) (Yj k (fun h2=>Yh rfl ?_) fun h2=>Yi (by simp) ?_))
 ·rw[d8x h]at g
  have b:=Ge.step (Zk h)
  have a:=b.ok k
  have j:=Ge.list (one:=PS.name) (fun s h=>Ge.name h) b.hi
  have n1:=FM (one:=PS.name) (fun s h=>Ge.name h) b.hi
  have e1:q.step.i=q.i+1:=rfl
  have e2:=j.le
  have y:=j.hi
  have e:(listL PS.name q.step).2.l=q.l:=by rw[j.l,b.l]
  rw[e]at y
  have ne:= @d7y Str PS.name q.step
  refine RJ a ⟨by rw[show(Enc.sz Str==1)=true from rfl,Bool.or_true],Yi (by simpa using ne) ⟨by simp;omega,?_⟩⟩
  rw[List.nil_append]at g ⊢
  exact g7o (s:=s) W R f _ _ _ (j.ok a) (by rw[e];exact r) (by rw[e];exact u) (by rw[e];omega) (by simp) (by simp;omega) g
 ·rw[ET h]at g
  have b:=Ge.step (Zk h2)
  have a:=b.ok k
  have j:=Ge.list (one:=PS.name) (fun s h=>Ge.name h) b.hi
  have e:(listL PS.name q.step).2.l=q.l:=by rw[j.l,b.l]
  refine RJ a ?_
  refine f5u (s:=s) (ex:=(listL PS.name q.step).1) (Zp rfl) R (W+1) _ (-1) (j.ok a) (by rw[e];exact r) (by rw[e];omega) ?_
  rw[g];unfold b2q;rw[d5d h2]
 ·rw[ET h]at g
  refine f5u (s:=s) (ex:=[]) Zn R (W+1) _ (-1) k r (by omega) ?_
  rw[g];unfold b2q;rw[d7o h2]
theorem f0y: ∀ x:Str×Unit,true=true->Zi Xe 0 (Za Yy (Zd (BS x.1))) Yx [] (Ye g1a (encL x)):=by
 rintro⟨⟨s⟩,⟨⟩⟩ hs
 have hb:=e1b s
 have e:ZR (bgS s).l=true:=(a3l ⟨s⟩).1
 have i:=Zv hb
 show Zi Xe 0 (Za Yy (Zd (BS ⟨s⟩))) Yx [] _
 refine g8w s ⟨rfl,b6r (fun h=> ?_) fun h=> ?_⟩
 ·unfold BS;rw[if_pos h];exact X7 Xm
 rw[f2n h]
 have a:=Ge.need (w:=⟨[109,111,100,117,108,101]⟩) i.2
 have b:=a.ok hb
 have g:=Ge.name a.hi
 have K:=a.trans g
 refine ZL hb (KT b ?_)
 exact g4n (s:=s) (bgS s).l.length _ (bgS s).l.length _ (K.ok hb) (by rw[K.l];exact e) (by rw[K.l]) (by rw[K.l];omega) rfl
set_option maxRecDepth 100000
noncomputable def d5x:IC:=XH Proofs.Tryz.f137
def d2t:List IRes:=[(.cell true 2 2)]
abbrev g2p:Nat:=7
noncomputable def f5l:ZM:=YN []
theorem g7l{G:PV->Prop}(s:List UInt8)(h:G ((.agg [(.int .i64 0),(.sl 2 false [(.agg [(.str s),(.int .i64 1)])])]))):Zi f5l 0 (Za d2t G) d5x [] (Ye 7 [.str s]):=Zi.tp (.lit (.lit (.nil))) h
noncomputable def d6o:IC:=XH Proofs.Tryz.f98
def e4z:List IRes:=[(.tmp 2),(.tmp 3)]
abbrev g4b:Nat:=41
noncomputable def f6v:ZM:=YN [f6r,(123,.pure (preT (fun x:Str×Unit=>decide (x.1.s.length<=281474976710656))) (Zl (fun x:Str×Unit=>Yz x.1)))]
def CV:PV:=.tup [.int .i64 0,.bool false]
def d0w(e:List UInt8)(Zm:PV->Prop):Prop:=(Go.Pl.preT (fun(b:Str×Unit)=>decide (List.length (Str.s b.1)<=281474976710656)) [.str e])=true∧(∃ a:Int×Er,(AV.pv (Zl (fun(b:Str×Unit)=>Yz b.1) [.str e])=AV.pv (enc a))∧((TP (enc a.2)&&Prod.fst (true,PV.bool !Uo (enc a.2)))=true∧(if (!Uo (enc a.2))=true then Zm (CV)else(if (decide (a.1>2147483648))=true then Zm (CV)else(Zm (.tup [.int .i64 a.1,.bool true]))))))
def g5i{G:PV->Prop}(s:List UInt8):=Vw (if (s==[])=true then G (CV)else(if (decide ((↑(List.length s):Int)>10))=true then G (CV)else((Go.Pl.preT MN (Sw s))=true∧(∃ a:Str,(AV.pv (Zl Nc (Sw s))=AV.pv (enc a))∧(if (!Str.s a==s)=true then G (CV)else((QW s)=true∧(if ((↑(Jl s):Int)==48)=true then if (decide ((↑(List.length s):Int)>1))=true then G (CV)else(d0w s G)else(d0w s G)))))))) G (dm [dv Str,dv (Int×Er)] 126 0x1422202220044161222222000014222022200441610001422222201f42221202222220074222251202222222222200c42222022222222222222201042) f6v e4z d6o (Ye 41 [.str s]) (by delta CV MN Sw Nc QW Jl d0w;exact rfl)
def b8f:IC:=(U2 [Yk 0 (.alloc (.agg [(.str []),(.str []),(.str []),(.str []),(.str []),(.str []),(.str []),(.str []),(.str []),(.str []),(.str []),(.str []),(.str []),(.str []),(.str []),(.str []),(.str []),(.str []),(.str []),(.str []),(.str []),(.str []),(.str []),(.str []),(.str []),(.str []),(.str []),(.str [])])) 0] (U2 [Yk 1 (.build [(.str []),(.str []),(.str []),(.str []),(.str []),(.str []),(.str []),(.str []),(.str []),(.str []),(.str []),(.str []),(.str []),(.str []),(.str []),(.str []),(.str []),(.str []),(.str []),(.str []),(.str []),(.str []),(.str []),(.str []),(.str []),(.str []),(.str []),(.str [])] [(0,(1,(.c (.str [46,46])))),(1,(1,(.c (.str [61,61])))),(2,(1,(.c (.str [33,61])))),(3,(1,(.c (.str [60,61])))),(4,(1,(.c (.str [62,61])))),(5,(1,(.c (.str [45,62])))),(6,(1,(.c (.str [38,38])))),(7,(1,(.c (.str [124,124])))),(8,(1,(.c (.str [40])))),(9,(1,(.c (.str [41])))),(10,(1,(.c (.str [91])))),(11,(1,(.c (.str [93])))),(12,(1,(.c (.str [123])))),(13,(1,(.c (.str [125])))),(14,(1,(.c (.str [44])))),(15,(1,(.c (.str [58])))),(16,(1,(.c (.str [46])))),(17,(1,(.c (.str [64])))),(18,(1,(.c (.str [35])))),(19,(1,(.c (.str [61])))),(20,(1,(.c (.str [60])))),(21,(1,(.c (.str [62])))),(22,(1,(.c (.str [43])))),(23,(1,(.c (.str [45])))),(24,(1,(.c (.str [42])))),(25,(1,(.c (.str [47])))),(26,(1,(.c (.str [37])))),(27,(1,(.c (.str [33]))))]) 0,o'' (.store 28 (.t 0) (.t 1)) 0] .ret))
def b2s:List IRes:=[(.cell true 28 0)]
abbrev f9l:Nat:=2
noncomputable def e0i:ZM:=YN []
theorem g5e{G:PV->Prop}(h:G ((.agg [(.str [(46:UInt8),(46:UInt8)]),(.str [(61:UInt8),(61:UInt8)]),(.str [(33:UInt8),(61:UInt8)]),(.str [(60:UInt8),(61:UInt8)]),(.str [(62:UInt8),(61:UInt8)]),(.str [(45:UInt8),(62:UInt8)]),(.str [(38:UInt8),(38:UInt8)]),(.str [(124:UInt8),(124:UInt8)]),(.str [(40:UInt8)]),(.str [(41:UInt8)]),(.str [(91:UInt8)]),(.str [(93:UInt8)]),(.str [(123:UInt8)]),(.str [(125:UInt8)]),(.str [(44:UInt8)]),(.str [(58:UInt8)]),(.str [(46:UInt8)]),(.str [(64:UInt8)]),(.str [(35:UInt8)]),(.str [(61:UInt8)]),(.str [(60:UInt8)]),(.str [(62:UInt8)]),(.str [(43:UInt8)]),(.str [(45:UInt8)]),(.str [(42:UInt8)]),(.str [(47:UInt8)]),(.str [(37:UInt8)]),(.str [(33:UInt8)])]))):Zi e0i 0 (Za b2s G) b8f [] (Ye 2 []):=Zi.tp (.nil) h
theorem f2e: ∀ x:Str×Unit,true=true->Zi f5l 0 (Za d2t (Zd (Rk x.1))) d5x [] (Ye g2p (encL x)):=by
 rintro⟨⟨s⟩,⟨⟩⟩ _
 exact g7l s (Zp (x:=Rk ⟨s⟩) rfl)
theorem f3j(ps:List PV)(h:RF ps=true):Zi e0i 0 (Za b2s (fun p=>p=a2o ps)) b8f [] (Ye f9l ps):=by
 unfold RF at h
 split at h
 ·exact g5e rfl
 ·cases h
theorem d2q{d:List UInt8}(h:d≠[])(hd:d.all digB=true)(j:d.length<=10):Yz ⟨d⟩=(Lb d,⟨false⟩):=by
 cases d with
 | nil=>exact absurd rfl h
 | cons c r=>
  have h1:=hd
  simp only[List.all_cons,Bool.and_eq_true,WW]at h1
  have hv:=Ev (c::r) 0 hd
  have hp:10 ^ (c::r).length<=10 ^ 10:=Nat.pow_le_pow_right (by omega) j
  have b:=SQ (c::r) 0 hd (by omega)
  have a:Lib.atoiAll (c::r) = .ok (Jn 0 (c::r):Int):=by
   have i : ¬ (c.toNat=43∨c.toNat=45):=by omega
   have g : ¬ c.toNat=45:=by omega
   simp only[Lib.atoiAll,if_neg i,Lib.parseMag,if_neg (show ¬ (c::r=[]) by simp),b]
   rw[if_neg (by omega),if_neg (fun e=>g e.1),if_neg g]
  simp only[Yz,a]
  rw[d4e _ _ rfl hd]
theorem Eg{p:UInt8->Bool}: ∀ {s:List UInt8},s.takeWhile p=s->s.all p=true
 | [],_=>rfl
 | c::s,h=>by
  rw[List.takeWhile_cons]at h
  split at h
  ·rename_i q
   rw[List.all_cons,q,Eg (List.cons.inj h).2];rfl
  ·cases h
theorem OB{p:UInt8->Bool}: ∀ {s:List UInt8},s.all p=true->s.takeWhile p=s
 | [],_=>rfl
 | c::s,h=>by
  rw[List.all_cons,Bool.and_eq_true]at h
  rw[List.takeWhile_cons,if_pos h.1,OB h.2]
theorem OO{n:Int}{b:Bool}:Zd ((n,b):Int×Bool) (.tup [.int .i64 n,.bool b]):=⟨rfl,rfl⟩
theorem e8j: ∀ x:Str×Unit,decide (x.1.s.length<=1048576)=true->Zi f6v 0 (Za e4z (Zd (Qn x.1))) d6o [] (Ye g4b (encL x)):=by
 rintro⟨⟨s⟩,⟨⟩⟩ hs
 have hw:s.length<=1048576:=of_decide_eq_true hs
 have i:MF s=false->Qn ⟨s⟩=(0,false):=fun h=>by unfold Qn;rw[h];rfl
 refine g5i s (Yc (fun a=> ?_) fun a=>Yd (fun h1=> ?_) fun h1=>⟨Zh ((⟨s⟩:Str),false,()) rfl hs,Zc ((⟨s⟩:Str),false,()) rfl (YA (fun h2=> ?_) fun h2=> ?_)⟩)
 ·have a:s=[]:=a
  subst a
  exact OO
 ·rw[show Qn ((⟨s⟩:Str),()).1=_ from i (by unfold MF;rw[decide_eq_false (show ¬ s.length<=10 by omega)];simp)]
  exact OO
 ·have h2:((XZ ⟨s⟩ false).s==s)=false:=h2
  have hd:s.all digB=false:=by
   cases e:s.all digB with
   | false=>rfl
   | true=>
    have k:(XZ ⟨s⟩ false).s=s:=OB (p:=fun c=>digB c||(false&&lowB c)) (by
     rw[show(fun c=>digB c||(false&&lowB c))=digB from funext fun c=>by simp]
     exact e)
    rw[k]at h2
    simp at h2
  rw[show Qn ((⟨s⟩:Str),()).1=_ from i (by unfold MF;rw[hd];simp)]
  exact OO
 ·have a:s≠[]:=a
  have h2:((XZ ⟨s⟩ false).s==s)=true:=h2
  have hd:s.all digB=true:=by
   have h3:(XZ ⟨s⟩ false).s=s:=by simpa using h2
   have:=Eg (p:=fun c=>digB c||(false&&lowB c)) (s:=s) h3
   rw[show(fun c=>digB c||(false&&lowB c))=digB from funext fun c=>by simp]at this
   exact this
  have j:s.length<=10:=by omega
  have hp:0<s.length:=List.length_pos_iff.2 a
  have l:s.isEmpty=false:=by cases s with|nil=>exact absurd rfl a|cons _ _=>rfl
  have ha:=d2q a hd j
  have last:(decide (s.head? = some 48)&&decide (1<s.length))=false->preT (fun(x:Str×Unit)=>decide (List.length (Str.s (Prod.fst x))<=281474976710656)) [(.str s)]=true∧ ∃ b:Int×Er,AV.pv (Zl (fun(x:Str×Unit)=>Yz (Prod.fst x)) [(.str s)])=AV.pv (enc b)∧((TP (enc (Prod.snd b))&&Prod.fst (true,PV.bool !Uo (enc (Prod.snd b))))=true∧(if (!Uo (enc (Prod.snd b)))=true then Zd (Qn ⟨s⟩) (.tup [.int .i64 0,.bool false])else if decide (Prod.fst b>2147483648)=true then Zd (Qn ⟨s⟩) (.tup [.int .i64 0,.bool false])else Zd (Qn ⟨s⟩) (.tup [.int .i64 (Prod.fst b),.bool true]))):=fun g=>by
   refine⟨Zh ((⟨s⟩:Str),()) rfl (decide_eq_true (by show s.length<=281474976710656;omega)),Zc ((⟨s⟩:Str),()) rfl ?_⟩
   rw[show Yz ((⟨s⟩:Str),()).1=(Lb s,⟨false⟩)from ha]
   refine⟨rfl,Yi (show ¬ (!Uo (enc (⟨false⟩:Er)))=true by decide) (Yd (fun h3=> ?_) fun h3=> ?_)⟩
   ·rw[i (by unfold MF;rw[decide_eq_false (show ¬ Lb s<=2147483648 by omega),Bool.and_false])]
    exact OO
   ·rw[show Qn ⟨s⟩=(Lb s,true) by
     unfold Qn MF
     rw[l,decide_eq_true j,hd,g,decide_eq_true (show Lb s<=2147483648 by omega)]
     rfl]
    exact OO
  refine⟨by simp;omega,Yc (fun h3=>Yd (fun q=> ?_) fun q=>last (by rw[decide_eq_false (show ¬ 1<s.length by omega),Bool.and_false])) fun h3=>last ?_⟩
  ·have g:s.head? = some 48:=by
    cases s with
    | nil=>exact absurd rfl a
    | cons c r=>
     have h3:(c.toNat:Int)=48:=h3
     have:c=48:=UInt8.toNat_inj.1 (by show c.toNat=48;omega)
     rw[this];rfl
   rw[show Qn ((⟨s⟩:Str),()).1=_ from i (by unfold MF;rw[decide_eq_true g,decide_eq_true (show 1<s.length by omega)];simp)]
   exact OO
  ·have g:s.head? ≠ some 48:=by
    cases s with
    | nil=>exact absurd rfl a
    | cons c r=>
     have h3:(c.toNat:Int)≠48:=h3
     intro e
     have e:c=48:=by simpa using e
     rw[e]at h3
     exact h3 rfl
   rw[decide_eq_false g];rfl
theorem g3u{r:Str}{d:List Lin}(h:b3i r d=true):spW ⟨r,d⟩=true:=by
 unfold b3i at h
 unfold spW
 simp only[Bool.and_eq_true]at h ⊢
 exact⟨⟨h.1,h.2.1⟩,h.2.2⟩
structure TyBdF (t:TyS):Prop where
 elem:t.elem.s.length<=1048576
 sp:spW ⟨t.row,t.dims⟩=true
theorem e9j{t:TyS}(h:Ro t=true):TyBdF t:=by
 unfold Ro at h
 simp only[Bool.and_eq_true,decide_eq_true_eq]at h
 exact⟨h.1,g3u h.2⟩
theorem a5v: ∀ x:TyS×Unit,Ro x.1=true->Zi a6z 0 (Za Od (Zd (Du x.1))) OV [] (Ye c8x (encL x)):=by
 rintro⟨t,⟨⟩⟩ h
 have a:=e9j h
 have y:OQ t.elem.s=true->shV t.row t.dims=Du t:=fun e=>by unfold Du;rw[e];rfl
 refine e3r t (Yc (fun h1=>⟨Zh (⟨t.row,t.dims⟩,()) rfl a.sp,Zc (⟨t.row,t.dims⟩,()) rfl (Zu (y ?_))⟩) fun h1=>Yc (fun h2=>⟨Zh (⟨t.row,t.dims⟩,()) rfl a.sp,Zc (⟨t.row,t.dims⟩,()) rfl (Zu (y ?_))⟩) fun h2=>⟨Zh (t.elem,()) rfl (decide_eq_true a.elem),Zc (t.elem,()) rfl (ZW (fun h3=>⟨Zh (⟨t.row,t.dims⟩,()) rfl a.sp,Zc (⟨t.row,t.dims⟩,()) rfl (Zu (y ?_))⟩) fun h3=>Zu ?_)⟩)
 ·unfold OQ;rw[show t.elem.s=X0 from h1];rfl
 ·unfold OQ;rw[show t.elem.s=YT from h2];rfl
 ·unfold OQ;rw[show evB t.elem.s=true from h3,Bool.or_true]
 ·have h3:evB t.elem.s=false:=h3
  unfold Du OQ
  rw[h3,decide_eq_false (show ¬ t.elem.s=X0 from h1),decide_eq_false (show ¬ t.elem.s=YT from h2)];rfl
def RS.tok(s:RS)(k:Nat):Tok:=s.l.getD (s.i+k) ⟨0,⟨[]⟩,0,0⟩
end Go.Pl
namespace Go.Pl
open Go.RowKit
open Enc (enc dec is)
open EncL (encL decL isL)
end Go.Pl
namespace Go.Pl
open Go.RowKit
open Enc (enc dec is)
open EncL (encL decL isL)
theorem e1u{args:List AV}{os:List AObj}(h:Aq args os=true): ∃ s:List UInt8,args=[.pv (.str s)]∧os=[]:=by
 unfold Aq at h
 split at h
 ·exact⟨_,rfl,rfl⟩
 ·cases h
theorem e8b: ∀ args os,Aq args os=true->Zi c4e os.length (Yg os.length a4o (fun r=>r=Ez args os)) EI [] (Z8 d3z args os):=fun args os h=>by
 obtain⟨s,rfl,rfl⟩:=e1u h
 exact f0w s
end Go.Pl
namespace Go.Pl
open Go.RowKit
section
def OD(l:List Tok):Prop:=l.Pairwise (fun a b=>a.ln<=b.ln)∧ ∀ t∈l,1<=t.ln∧0<=t.o
theorem OD.nil:OD []:=⟨.nil,fun t h=>by cases h⟩
theorem c2k: ∀ (f:Nat) (s:List UInt8) (i:Nat) (ln:Int) (o:List Tok),1<=ln->OD o->(∀ t∈o,t.ln<=ln)->OD (N8 f s i ln o).a
 | 0,s,i,ln,o,h1,h2,h3=>h2
 | f+1,s,i,ln,o,h1,h2,h3=>by
  rw[N8]
  generalize he:ln+((Lib.countByte ((s.drop i).take (Hf ⟨s.drop i⟩).toNat) 10:Nat):Int)=ln'
  have hge:ln<=ln':=by omega
  split
  ·exact h2
  ·split
   ·exact OD.nil
   ·split
    ·exact OD.nil
    ·refine c2k f s _ ln' _ (by omega) ⟨?_,?_⟩ ?_
     ·refine List.pairwise_append.2 ⟨h2.1,List.pairwise_singleton _ _,fun a ha b hb=> ?_⟩
      rw[List.mem_singleton]at hb
      subst hb
      have:=h3 a ha
      show a.ln<=ln'
      omega
     ·intro t ht
      rcases List.mem_append.1 ht with ht|ht
      ·exact h2.2 t ht
      ·rw[List.mem_singleton]at ht
       subst ht
       exact⟨show 1<=ln' by omega,Int.natCast_nonneg _⟩
     ·intro t ht
      rcases List.mem_append.1 ht with ht|ht
      ·have:=h3 t ht;omega
      ·rw[List.mem_singleton]at ht
       subst ht
       exact Int.le_refl _
theorem e7z(s:Str):OD (KN s).a:=by
 unfold KN
 split
 ·exact OD.nil
 ·exact c2k _ _ _ _ _ (Int.le_refl _) OD.nil (fun t h=>by cases h)
theorem d8e{s t:PS}(h:OD s.l)(a:t.l=s.l)(le:s.i<=t.i)(hi:t.i<t.l.length):(s.peek 0).ln<=(t.peek 0).ln:=by
 have hs:s.i+0<s.l.length:=by rw[a]at hi;omega
 have ht:t.i+0<t.l.length:=hi
 rw[GN hs,GN ht]
 have e:t.l[t.i+0]=s.l[t.i+0]'(by rw[a]at ht;exact ht):=by simp only[a]
 rw[e]
 rcases Nat.eq_or_lt_of_le le with q|q
 ·simp only[q];exact Int.le_refl _
 ·exact List.pairwise_iff_getElem.1 h.1 _ _ _ _ (by omega)
theorem e9q{s t:PS}(h:OD s.l)(k:Ge s t)(hi:t.i<t.l.length):(s.peek 0).ln<=(t.peek 0).ln:=d8e h k.l k.le hi
theorem f4z{s:PS}(h:OD s.l)(hi:s.i<s.l.length):1<=(s.peek 0).ln∧0<=(s.peek 0).o:=by
 have hi:s.i+0<s.l.length:=hi
 rw[GN hi]
 exact h.2 _ (List.getElem_mem _)
def LX(N:Nat)(ex:PS->Tm×PS):Prop:= ∀ s,ZR s.l=true->OD s.l->Ww N s->s.i<=s.l.length->(ex s).2.bad=false->(s.peek 0).ln<=(ex s).1.nd.line
def LU(N:Nat)(un:PS->(Tm×Int)×PS):Prop:= ∀ s,ZR s.l=true->OD s.l->Ww N s->s.i<=s.l.length->(un s).2.bad=false->(s.peek 0).ln<=(un s).1.1.nd.line∧(un s).1.2=(s.peek 0).ln
section
variable {N:Nat} {ex:PS->Tm×PS}
theorem WX.lt(g:WX N ex)(e:Fh N ex){s:PS}(j:ZR s.l=true)(a:Ww N s)(hi:s.i<=s.l.length)(h:(ex s).2.bad=false):s.i<s.l.length:=by
 have w:=g s j a hi h
 have p:=c4p (ex s).1
 have k:=e s a hi
 have b:=k.hi
 rw[k.l]at b
 omega
theorem g2d(k:Fh N ex)(A:WX N ex)(B:LX N ex){s:PS}(u:ZR s.l=true)(hu:OD s.l)(y:Ww (N+1) s)(hi:s.i<=s.l.length)(h:(Xv ex s).2.bad=false):(s.peek 0).ln<=(Xv ex s).1.nd.line:=by
 have r : ∀ (n:Nd) (ks:List Tm),n.line=(s.peek 0).ln->(s.peek 0).ln<=(Tm.mk n ks).nd.line:=fun n ks e=>by show _<=n.line;rw[e];exact Int.le_refl _
 unfold Xv at h ⊢
 dsimp only at h ⊢
 split at h
 ·rename_i q;rw[if_pos q];exact r _ _ rfl
 rename_i q;rw[if_neg q]
 split at h
 ·rename_i q;rw[if_pos q]
  unfold Wn
  split
  ·exact r _ _ rfl
  ·exact r _ _ rfl
 rename_i q;rw[if_neg q]
 split at h
 ·rename_i q;rw[if_pos q];exact r _ _ rfl
 rename_i q;rw[if_neg q]
 split at h
 ·rename_i q;rw[if_pos q];exact r _ _ rfl
 rename_i q;rw[if_neg q]
 split at h
 ·rename_i q;rw[if_pos q]
  have a:=Zk q
  have g:=Ge.step a
  have j:=y.step a
  have C:=k _ j g.hi
  have z:=Ge.need (w:=⟨[41]⟩) C.hi
  have b:=z.good h
  have lt:=A.lt k (s:=s.step) u j g.hi b
  exact Int.le_trans (e9q hu g lt) (B s.step u hu j g.hi b)
 rename_i q;rw[if_neg q]
 split at h
 ·rename_i q;rw[if_pos q];exact r _ _ rfl
 rename_i q;rw[if_neg q]
 split at h
 ·rename_i q;rw[if_pos q];exact r _ _ rfl
 rename_i q;rw[if_neg q]
 split at h
 ·rename_i q;rw[if_pos q];exact r _ _ rfl
 rename_i q;rw[if_neg q]
 split at h
 ·rename_i q;rw[if_pos q];exact r _ _ rfl
 rename_i q;rw[if_neg q]
 split at h
 ·rename_i q;rw[if_pos q];exact r _ _ rfl
 rename_i q;rw[if_neg q]
 exact r _ _ rfl
theorem g8y(a:Fh N ex)(b:WX N ex)(g:LX N ex){un:PS->(Tm×Int)×PS}{s:PS}(j:ZR s.l=true)(hu:OD s.l)(e:Ww (N+1) s)(hi:s.i<=s.l.length)(h:(JX ex un s).2.bad=false):(s.peek 0).ln<=(JX ex un s).1.1.nd.line∧(JX ex un s).1.2=(s.peek 0).ln:=by
 unfold JX at h ⊢
 dsimp only at h ⊢
 split at h
 ·rename_i q;rw[if_pos q];exact⟨Int.le_refl _,rfl⟩
 rename_i q;rw[if_neg q]
 split at h
 ·rename_i q;rw[if_pos q];exact⟨Int.le_refl _,rfl⟩
 rename_i q;rw[if_neg q]
 exact⟨g2d a b g j hu e hi h,rfl⟩
theorem a8m{fr:PS->(Tm×Int)×PS}{lev ln a:Int}(ha:a<=ln): ∀ (n:Nat) {s:PS} {l:Tm},a<=l.nd.line->a<=(opLoop fr lev ln n s l).1.1.nd.line∧(opLoop fr lev ln n s l).1.2=ln
 | 0,s,l,h=>⟨h,rfl⟩
 | n+1,s,l,h=>by
  rw[opLoop]
  split
  ·exact⟨h,rfl⟩
  ·split
   ·exact⟨h,rfl⟩
   ·split
    ·exact⟨ha,rfl⟩
    ·exact a8m ha n (l:=.mk (Bo 6 ln s.oper.1.1) [l,(fr s.step).1.1]) ha
theorem d4u{un:PS->(Tm×Int)×PS}(hu:GeU (N+1) un)(j:LU (N+1) un): ∀ d:Nat,d<=5->LU (N+1) (YM un d)
 | 0,_=>j
 | d+1,hd=>fun s u r e hi h=>by
  have i:=Ge.from hu d (by omega)
  have g:=i s e hi
  have q:=Ge.opLoop (ln:=(YM un d s).1.2) (lev:=5 - (d:Int)) (by omega) i (s.l.length+1) (l:=(YM un d s).1.1) (e.ge g) g.hi
  rw[YM]at h ⊢
  have b:=d4u hu j d (by omega) s u r e hi (q.good h)
  have k:=a8m (fr:=YM un d) (lev:=5 - (d:Int)) (ln:=(YM un d s).1.2) (a:=(s.peek 0).ln) (by rw[b.2];exact Int.le_refl _) (s.l.length+1) (s:=(YM un d s).2) (l:=(YM un d s).1.1) b.1
  exact⟨k.1,k.2.trans b.2⟩
theorem g6u{un:PS->(Tm×Int)×PS}(hu:GeU (N+1) un)(a:LU (N+1) un){s:PS}(g:ZR s.l=true)(b:OD s.l)(e:Ww (N+1) s)(hi:s.i<=s.l.length)(h:(exB ex un s).2.bad=false):(s.peek 0).ln<=(exB ex un s).1.nd.line:=by
 unfold exB at h ⊢
 dsimp only at h ⊢
 split at h
 ·rename_i q;rw[if_pos q];exact Int.le_refl _
 ·rename_i q;rw[if_neg q]
  exact(d4u hu a 5 (by omega) s g b e hi h).1
end
theorem e3k: ∀ N,LX N (Z0 N)∧LU N (Kj N)
 | 0=>⟨fun t _ _ a=>by unfold Ww at a;omega,fun t _ _ a=>by unfold Ww at a;omega⟩
 | N+1=>by
  obtain⟨l,hU⟩:=e3k N
  obtain⟨j,hu⟩:=UT N
  have k:=(a1m N).1
  have e:=(UT (N+1)).2
  have b:LU (N+1) (Kj (N+1)):=fun t i g a hi h=>by
   rw[Bd]at h ⊢
   exact g8y j k l i g a hi h
  exact⟨fun t i g a hi h=>by
   rw[JH]at h ⊢
   exact g6u e b i g a hi h,b⟩
theorem g3w{s:PS}(hs:Ze s=true)(b:ZR s.l=true)(e:OD s.l)(h:s.expr.2.bad=false):s.i<s.l.length∧(s.peek 0).ln<=s.expr.1.nd.line:=by
 have h1:=Zv hs
 have a:Ww 4001 s:=by unfold Ww;omega
 exact⟨(a1m 4001).1.lt (UT 4001).1 b a h1.2 h,(e3k 4001).1 s b e a h1.2 h⟩
end
def Ld(s:PS):Prop:=s.bad=false∧s.big=false
theorem Ge.clean{s t:PS}(h:Ge s t)(k:Ld t):Ld s:=by
 refine⟨h.good k.1,?_⟩
 cases e:s.big with
 | true=>have:=h.big e;rw[k.2]at this;cases this
 | false=>rfl
structure St0 (s:PS):Prop where
 ok:Ze s=true
 lx:ZR s.l=true
 up:OD s.l
theorem St0.ge{s t:PS}(h:St0 s)(k:Ge s t):St0 t:=⟨k.ok h.ok,by rw[k.l];exact h.lx,by rw[k.l];exact h.up⟩
theorem St0.hi{s:PS}(h:St0 s):s.i<=s.l.length:=(Zv h.ok).2
theorem a0t{s:PS}(a:ZR s.l=true)(h:s.name.2.bad=false):nameI s.name.1.s=true:=by
 unfold PS.name at h ⊢
 split at h
 ·rename_i h1
  rw[if_pos h1]
  have h2:=a9o a (X5 (s:=s) (by omega))
  unfold b2l at h2
  simp only[Bool.and_eq_true,Bool.or_eq_true,decide_eq_true_eq]at h2
  rcases h2.1 with h3|h3
  ·exact absurd h1 h3
  ·exact h3
 ·cases h
def PmQ(p:Pm):Prop:=nameI p.name.s=true∧(p.given=true->Du p.ty=true)∧Ro p.ty=true
theorem c0l{s:PS}(h:St0 s)(k:Ld s.param.2):PmQ s.param.1:=by
 unfold PS.param at k ⊢
 split at k
 ·rename_i q;rw[if_pos q]
  have b:=Ge.name h.hi
  have a:=Ge.step (Zk q)
  have g:=Ge.typ (s:=s.name.2.step) a.hi
  have c:=k.2
  refine⟨a0t h.lx ((a.trans g).good k.1),fun _=> ?_,b3g (a.ok (b.ok h.ok))⟩
  have c:(s.name.2.step.shape0.2.elem.2.big || !(Du s.name.2.step.typT))=false:=c
  show Du s.name.2.step.typT=true
  cases e:Du s.name.2.step.typT with
  | true=>rfl
  | false=>rw[e]at c;simp at c
 ·rename_i q;rw[if_neg q]
  exact⟨a0t h.lx k.1,(fun e=>by cases e),rfl⟩
theorem c1q{α:Type}{one:PS->α×PS}{Q:α->Prop}(g : ∀ s,St0 s->Ge s (one s).2)(h1 : ∀ s,St0 s->Ld (one s).2->Q (one s).1): ∀ (n:Nat) {s:PS} {o:List α},St0 s->(∀ x∈o,Q x)->Ld (moreL one n s o).2-> ∀ x∈(moreL one n s o).1,Q x
 | 0,s,o,hs,ho,hc=>ho
 | n+1,s,o,hs,ho,hc=>by
  rw[moreL]at hc ⊢
  split at hc
  ·rename_i q;rw[if_pos q];exact ho
  ·rename_i q;rw[if_neg q]
   split at hc
   ·rename_i e;rw[if_pos e]
    have l:=Ge.step (Zk e)
    have b:=hs.ge l
    have i:=g _ b
    have j:Ge (one s.step).2 (moreL one n (one s.step).2 (o++[(one s.step).1])).2:=Ge.moreL (B:=fun s=>St0 s) (fun _ _ h k=>h.ge k) (fun s h _=>g s h) n (b.ge i) i.hi
    refine c1q g h1 n (b.ge i) ?_ hc
    intro x a
    rcases List.mem_append.1 a with a|a
    ·exact ho x a
    ·rw[List.mem_singleton]at a
     subst a
     exact h1 _ b (j.clean hc)
   ·rename_i e;rw[if_neg e];exact ho
theorem g6n{s:PS}(h:St0 s)(k:Ld s.dfP.2): ∀ p∈s.dfP.1,PmQ p:=by
 unfold PS.dfP at k ⊢
 split at k
 ·rename_i q;rw[if_pos q];exact fun p g=>by cases g
 ·rename_i q;rw[if_neg q]
  split at k
  ·rename_i a;rw[if_pos a];exact fun p g=>by cases g
  ·rename_i a;rw[if_neg a]
   have e : ∀ s:PS,St0 s->Ge s s.param.2:=fun s h=>Ge.param h.hi
   have b:=e s h
   have j:Ge s.param.2 (listL PS.param s).2:=Ge.moreL (B:=fun s=>St0 s) (fun _ _ h k=>h.ge k) (fun s h _=>e s h) (s.l.length+1) (h.ge b) b.hi
   refine c1q e (fun s h c=>c0l h c) (s.l.length+1) (h.ge b) ?_ k
   intro x i
   rw[List.mem_singleton]at i
   subst i
   exact c0l h (j.clean k)
structure DfQ (d:Df):Prop where
 one:1<=d.line
 nm:nameI d.name.s=true
 np:d.ps.length<=8
 pm : ∀ p∈d.ps,PmQ p
 bv:YJ (.mk d.n d.ks)=true
 bw:tW (.mk d.n d.ks)=true
 bl:d.line<=d.n.line
theorem Tm.eta(t:Tm):Tm.mk t.nd t.ks=t:=by cases t;rfl
theorem Ge.exprS{s:PS}(h:Ze s=true):Ge s s.expr.2:=by
 have a:=Zv h
 exact Ge.expr (by unfold Ww;omega) a.2
theorem g7t{s:PS}{nm:Str}{ln:Int}{ps:List Pm}{r:Bool×TyS}(h:St0 s)(a:(s.dfE (DF nm ln ps r)).2.bad=false)(b:(s.dfE (DF nm ln ps r)).1.2=false)(g:s.i<s.l.length->ln<=(s.peek 0).ln):
  (s.dfE (DF nm ln ps r)).1.1=DF nm ln ps r s.expr.1∧Ld s.expr.2∧YJ s.expr.1=true∧ps.length<=8∧tW s.expr.1=true∧ln<=s.expr.1.nd.line:=by
 unfold PS.dfE at a b ⊢
 split at a
 ·rename_i q;rw[q]at a;cases a
 ·rename_i q
  rw[if_neg q]at b ⊢
  split at a
  ·rename_i e;rw[e]at a;cases a
  ·rename_i e
   rw[if_neg e]at b ⊢
   have b:(s.expr.2.big||(!(YJ s.expr.1)||(decide (ps.length>8)||decide (ln>10000))))=false:=b
   simp only[Bool.or_eq_false_iff,Bool.not_eq_false',decide_eq_false_iff_not]at b
   have w:=C8 h.ok h.lx a
   have l:=g3w h.ok h.lx h.up a
   have l0:=g l.1
   exact⟨rfl,⟨a,b.1⟩,b.2.1,by omega,w,by omega⟩
theorem g9b{s:PS}(h:St0 s)(hn:s.next ⟨[100,101,102]⟩=true)(D:s.defP.2.bad=false)(E:s.defP.1.2=false):DfQ s.defP.1.1∧s.defP.1.1.line=(s.peek 0).ln:=by
 have I:s.need ⟨[100,101,102]⟩=s.step:=if_pos hn
 have hi:=Zk hn
 have kd:=Ge.need (w:=⟨[100,101,102]⟩) h.hi
 have a:St0 s.df0:=⟨kd.ok h.ok,by show ZR (s.need _).l=true;rw[kd.l];exact h.lx,by show OD (s.need _).l;rw[kd.l];exact h.up⟩
 have i0:s.df0.i=s.i+1:=by show(s.need _).i=_;rw[I];rfl
 have H:s.df0.l=s.l:=kd.l
 have y:=Ge.name a.hi
 have q:=Ge.need (w:=⟨[40]⟩) y.hi
 have r:=Ge.dfP q.hi
 have j:=Ge.need (w:=⟨[41]⟩) r.hi
 have k:=Ge.dfR j.hi
 have C:=Ge.need (w:=⟨[61]⟩) k.hi
 have B:=y.trans q
 have b:=B.trans (r.trans (j.trans (k.trans C)))
 have z:=a.ge b
 obtain⟨e,c,v,n,w,l⟩:=g7t z D E (fun g=>d8e h.up (b.l.trans H) (by have:=b.le;omega) g)
 have F:=(Ge.exprS z.ok).clean c
 have A:=(j.trans (k.trans C)).clean F
 have J:=(q.trans r).clean A
 have u:=(f4z h.up hi).1
 have e:s.defP.1.1=DF s.df0.name.1 (s.peek 0).ln (s.df0.name.2.need ⟨[40]⟩).dfP.1 (((s.df0.name.2.need ⟨[40]⟩).dfP.2.need ⟨[41]⟩).dfR.1) _:=e
 rw[e]
 exact⟨⟨u,a0t a.lx J.1,n,g6n (a.ge B) A,by rw[show Tm.mk (DF _ _ _ _ _).n (DF _ _ _ _ _).ks=_ from Tm.eta _];exact v,by rw[show Tm.mk (DF _ _ _ _ _).n (DF _ _ _ _ _).ks=_ from Tm.eta _];exact w,l⟩,rfl⟩
theorem c4l: ∀ (f:Nat) {s:PS} {w:Int} {o:List Df},s.bad=true->(Ql f s w o).2.bad=true
 | 0,s,w,o,h=>h
 | f+1,s,w,o,h=>by rw[Ql,if_pos h];exact h
theorem e2x(f:Nat){s:PS}{w:Int}{o:List Df}(h:(Ql f s w o).2.bad=false):s.bad=false:=by
 cases e:s.bad with
 | false=>rfl
 | true=>rw[c4l f e]at h;cases h
theorem f6w: ∀ (f:Nat) {s:PS} {w:Int} {o:List Df},0<=w->0<=(Ql f s w o).1.1
 | 0,s,w,o,h=>h
 | f+1,s,w,o,h=>by
  rw[Ql]
  split
  ·exact h
  ·split
   ·rw[decide_eq_false (show ¬ w<0 by omega),Bool.and_false,if_neg (by decide)]
    exact f6w f h
   ·exact h
theorem f6l: ∀ (f:Nat) {s:PS} {w:Int} {o:List Df},St0 s->(∀ d∈o,DfQ d)->o.Pairwise (fun a b=>a.line<=b.line)->(s.i<s.l.length-> ∀ d∈o,d.line<=(s.peek 0).ln)->(Ql f s w o).2.bad=false->(Ql f s w o).1.1<0 ->
  (∀ d∈(Ql f s w o).1.2,DfQ d)∧(Ql f s w o).1.2.Pairwise (fun a b=>a.line<=b.line)
 | 0,s,w,o,hs,h1,h2,h3,kb,kw=>⟨h1,h2⟩
 | f+1,s,w,o,hs,h1,h2,h3,kb,kw=>by
  rw[Ql]at kb kw ⊢
  split at kb
  ·rename_i q;rw[if_pos q];exact⟨h1,h2⟩
  ·rename_i q
   rw[if_neg q]at kw ⊢
   split at kb
   ·rename_i h
    rw[if_pos h]at kw ⊢
    have hi:=Zk h
    have g:=Mv hs.ok hs.lx h
    have b1:s.defP.2.bad=false:=by
     cases e:s.defP.2.bad with
     | false=>rfl
     | true=>rw[c4l f e]at kb;cases kb
    have u:=f4z hs.up hi
    have y:s.defP.1.2=false:=by
     cases e:s.defP.1.2 with
     | false=>rfl
     | true=>
      exfalso
      have:0<=(Ql f s.defP.2 (if (s.defP.1.2&&decide (w<0))=true then(s.peek 0).o else w) (o++[s.defP.1.1])).1.1:=by
       refine f6w f ?_
       rw[e]
       by_cases hw:w<0
       ·rw[decide_eq_true hw];exact u.2
       ·rw[decide_eq_false hw,if_neg (by decide)];omega
      omega
    obtain⟨z,r⟩:=g9b hs h b1 y
    have j:=h3 hi
    refine f6l f ⟨g.1,g.2.1,by rw[g.2.2.1];exact hs.up⟩ ?_ ?_ ?_ kb kw
    ·intro d hd
     rcases List.mem_append.1 hd with hd|hd
     ·exact h1 d hd
     ·rw[List.mem_singleton]at hd
      subst hd
      exact z
    ·refine List.pairwise_append.2 ⟨h2,List.pairwise_singleton _ _,fun a ha b hb=> ?_⟩
     rw[List.mem_singleton]at hb
     subst hb
     rw[r]
     exact j a ha
    ·intro k d hd
     have up:(s.peek 0).ln<=(s.defP.2.peek 0).ln:=d8e hs.up g.2.2.1 (by omega) k
     rcases List.mem_append.1 hd with hd|hd
     ·have:=j d hd;omega
     ·rw[List.mem_singleton]at hd
      subst hd
      rw[r]
      exact up
   ·rename_i h;rw[if_neg h];exact⟨h1,h2⟩
theorem Ge.jimp: ∀ (f:Nat) {s:PS} {o:List Str},s.i<=s.l.length->Ge s (Go.Pl.impL f s o).2
 | 0,s,o,h=>Ge.refl h
 | f+1,s,o,h=>by
  rw[Go.Pl.impL]
  split
  ·have a:=Ge.step (Zk ‹_›)
   have b:=Ge.list (one:=PS.name) (fun s h=>Ge.name h) a.hi
   exact a.trans (b.trans (Ge.jimp f b.hi))
  ·exact Ge.refl h
theorem Ge.jexpo{s:PS}(h:s.i<=s.l.length):Ge s s.expo.2:=by
 unfold PS.expo
 split
 ·have a:=Ge.step (Zk ‹_›)
  exact a.trans (Ge.list (one:=PS.name) (fun s h=>Ge.name h) a.hi)
 ·exact Ge.refl h
theorem c7m{s:PS}(h:s.endp.bad=false):s.bad=false:=by
 unfold PS.endp at h
 split at h
 ·cases h
 ·exact h
theorem g8o(s:List UInt8):St0 (bgS s):=⟨e1b s,(a3l ⟨s⟩).1,e7z ⟨s⟩⟩
theorem g4e{s:Str}(h:(BS s).c=0):nameI (BS s).a.name.s=true∧(∀ d∈(BS s).a.ds,DfQ d)∧(BS s).a.ds.Pairwise (fun a b=>a.line<=b.line)∧(BS s).a.ds.length<=60:=by
 unfold BS at h ⊢
 split at h
 ·rename_i q;exact absurd h q
 ·rename_i q
  rw[if_neg q]
  dsimp only at h ⊢
  split at h
  ·cases h
  ·rename_i z
   rw[if_neg z]
   split at h
   ·cases h
   ·rename_i A
    rw[if_neg A]
    split at h
    ·cases h
    ·rename_i k
     rw[if_neg k]
     have g:=g8o s.s
     have i:=Ge.need (w:=⟨[109,111,100,117,108,101]⟩) g.hi
     have u:=Ge.name i.hi
     have j:=Ge.jimp ((bgS s.s).l.length+1) (o:=[]) u.hi
     have r:=Ge.jexpo j.hi
     have h3:=g.ge (i.trans (u.trans (j.trans r)))
     have y:=c7m (by simpa using z)
     have b1:=(j.trans r).good (e2x _ y)
     have dq:=f6l ((bgS s.s).l.length+1) (w:= -1) (o:=[]) h3 (fun d hd=>by cases hd) .nil (fun _ d hd=>by cases hd) y (by omega)
     exact⟨a0t (g.ge i).lx b1,dq.1,dq.2,Nat.le_of_not_lt fun e=>k (Or.inr (Or.inr e))⟩
open Enc (enc dec is)
open EncL (encL decL isL)
set_option maxRecDepth 100000
noncomputable def VF:IC:=XH Proofs.Tryz.f6
def VJ:List IRes:=[(.tmp 2)]
abbrev f0j:Nat:=105
noncomputable def Qg:ZM:=YN [(9,.pure (preT (fun _:Unit=>true)) (Zl (fun _:Unit=>true))),(18,.pure (preT (fun _:Str×Unit=>true)) (Zl (fun x:Str×Unit=>BS x.1))),(19,.pure (preT (fun x:Tm×Unit=>gW x.1)) (Zl (fun x:Tm×Unit=>YJ x.1))),(20,.pure (preT (fun x:Str×Unit=>decide (x.1.s.length<=1048576))) (Zl (fun x:Str×Unit=>nameI x.1.s))),(21,.pure (preT (fun x:TyS×Unit=>yW x.1)) (Zl (fun x:TyS×Unit=>Du x.1)))]
def f8a{G:PV->Prop}(s:List UInt8):=Vw (∃ e:Bool,(AV.pv (Zl (fun(x:Unit)=>true) [])=AV.pv (enc e))∧(if (!e)=true then G (.bool false)else(∃ b:R3 Mdu Int Int,(AV.pv (Zl (fun(x:Str×Unit)=>BS x.1) [.str s])=AV.pv (enc b))∧(if (decide ((↑(List.length s):Int)>600))=true then G (.bool true)else(if (R3.c b != 0)=true then G (.bool true)else(At Qg 0 (Za VJ G) VF 0 105 [(3,.ptr 0 0),(6,Xk),(7,ZB)] [.obj (.box [.pv (.str (Str.s (Mdu.name (R3.a b)))),.pv (.sl 1 false (List.map enc (Mdu.im (R3.a b)))),.pv (.sl 1 false (List.map enc (Mdu.ex (R3.a b)))),.pv (.sl 17 false (List.map enc (Mdu.ds (R3.a b))))])])))))) G (dm [dv Bool,dv (R3 Mdu Int Int)] 28 0x14222022200442620001452) Qg VJ VF (Ye 105 [.str s]) (by delta Xk ZB;exact rfl)
def AL(a:Mdu):List PV:=List.map enc (Mdu.ds a)
def Vm(a:Df):List PV:=PV.cells (enc a)
def b7t(a:Df):PV:=.int .i64 (PV.asInt (List.getD (Vm a) (0+1+1+1+1+1+1+1) default))
def b2u(a:Df):PV:=.int .i64 (PV.asInt (List.getD (Vm a) (0+1+1+1+1+1+1+1+1) default))
def b5r(a:Df):PV:=.str (PV.asStr (List.getD (Vm a) (0+1+1+1+1+1+1+1+1+1) default))
def b1s(a:Df):PV:=.int .i64 (PV.asInt (List.getD (Vm a) (0+1+1+1+1+1+1+1+1+1+1) default))
def b4t(a:Df):PV:=.str (PV.asStr (List.getD (Vm a) (0+1+1+1+1+1+1+1+1+1+1+1) default))
def b5l(a:Df):PV:=.sl 1 false (PV.asXs (List.getD (Vm a) (0+1+1+1+1+1+1+1+1+1+1+1+1) default))
def b3w(a:Df):PV:=.sl 1 false (PV.asXs (List.getD (Vm a) (0+1+1+1+1+1+1+1+1+1+1+1+1+1) default))
def b2k(a:Df):PV:=.sl 2 false (PV.asXs (List.getD (Vm a) (0+1+1+1+1+1+1+1+1+1+1+1+1+1+1) default))
def b6x(a:Df):PV:=.sl 1 false (PV.asXs (List.getD (Vm a) (0+1+1+1+1+1+1+1+1+1+1+1+1+1+1+1) default))
def b7s(a:Df):PV:=.sl 10 false (PV.asXs (List.getD (Vm a) (0+1+1+1+1+1+1+1+1+1+1+1+1+1+1+1+1) default))
def d4y(a:Df):List PV:=[.agg [b7t a,b2u a,b5r a,b1s a,b4t a,b5l a,b3w a,b2k a,b6x a,b7s a]]
def a0l(a:Df):PV:=.str (PV.asStr (List.getD (Vm a) 0 default))
def b0m(a:Mdu):Slot:=.obj (.box [.pv (.str (Str.s (Mdu.name a))),.pv (.sl 1 false (List.map enc (Mdu.im a))),.pv (.sl 1 false (List.map enc (Mdu.ex a))),.pv (.sl 17 false (AL a))])
def d9w(a:Mdu):Slot:=.obj (.box [.pv (.str a.name.s),.pv (.sl 1 false (a.im.map enc)),.pv (.sl 1 false (a.ex.map enc)),.pv (.sl 17 false (a.ds.map enc))])
def c1y{G:PV->Prop}(s:List UInt8)(a i:Int)(m:Mdu):=WA (if (decide (i<(↑(List.length (AL m)):Int)))=true then(decide (0<=i)&&decide (Int.toNat i<List.length (AL m))&&17==17)=true∧(∃ b:Df,(AV.pv (PV.rptr (PV.cells (List.getD (AL m) (Int.toNat i) default)))=AV.pv (PV.rptr (PV.cells ((enc) b))))∧(if (decide (PV.asInt (List.getD (Vm b) (0+1) default)<a))=true then G (.bool false)else((Go.Pl.preT (fun(x:Tm×Unit)=>gW x.1) (d4y b))=true∧(∃ h:Bool,(AV.pv (Zl (fun(x:Tm×Unit)=>YJ x.1) (d4y b))=AV.pv (enc h))∧(if (!h)=true then G (.bool false)else(if (decide (PV.asInt (List.getD (Vm b) (0+1+1+1+1+1+1+1+1) default)<PV.asInt (List.getD (Vm b) (0+1) default)))=true then G (.bool false)else((Go.Pl.preT Qp [a0l b])=true∧(∃ g:Bool,(AV.pv (Zl DW [a0l b])=AV.pv (enc g))∧(if (!g)=true then G (.bool false)else(if (decide ((↑(List.length (PV.asXs (List.getD (Vm b) (0+1+1) default))):Int)>8))=true then G (.bool false)else(At Qg 0 (Za VJ G) VF 1 105 [(3,.ptr 0 0),(7,ZJ i),(8,.ptr 1 0),(9,ZB)] [b0m m,.obj (.box [.pv (a0l b),.pv (.int .i64 (PV.asInt (List.getD (Vm b) (0+1) default))),.pv (.sl 5 false (PV.asXs (List.getD (Vm b) (0+1+1) default))),.pv (.bool (PV.asBool (List.getD (Vm b) (0+1+1+1) default))),.pv (.str (PV.asStr (List.getD (Vm b) (0+1+1+1+1) default))),.pv (.str (PV.asStr (List.getD (Vm b) (0+1+1+1+1+1) default))),.pv (.sl 2 false (PV.asXs (List.getD (Vm b) (0+1+1+1+1+1+1) default))),.pv (b7t b),.pv (b2u b),.pv (b5r b),.pv (b1s b),.pv (b4t b),.pv (b5l b),.pv (b3w b),.pv (b2k b),.pv (b6x b),.pv (b7s b)])])))))))))))else((Go.Pl.preT Qp [.str (Str.s (Mdu.name m))])=true∧(∃ e:Bool,(AV.pv (Zl DW [.str (Str.s (Mdu.name m))])=AV.pv (enc e))∧(G (.bool e))))) G (dm [dr Df,dv Bool] 117 0x610000142222202222200642261220222222222200b422222220222222222222222220124226122022222222222222222222220174225106c42) Qg VJ VF 0 105 [(3,.ptr 0 0),(6,ZJ a),(7,ZJ i)] [d9w m] (by delta AL Vm b7t b2u b5r b1s b4t b5l b3w b2k b6x b7s d4y Qp a0l DW ZJ ZB b0m;exact rfl)
def MZ(a:Df):List PV:=List.map enc (Df.ps a)
def a3o(a:Int)(Zm:Df):Bool:=decide (0<=a)&&decide (Int.toNat a<List.length (MZ Zm))&&5==5
def a4q(a:Df)(Zm:Int)(b:Pm):Prop:=AV.pv (PV.rptr (PV.cells (List.getD (MZ a) (Int.toNat Zm) default)))=AV.pv (PV.rptr (PV.cells ((enc) b)))
def b7j(a:Pm):List PV:=[.str (PV.asStr (List.getD (List.drop 0 (PV.cells (enc a))) 0 default))]
def Nt(a:Pm):List PV:=PV.cells (enc a)
def d4r(a:Pm):List PV:=[.agg [.str (PV.asStr (List.getD (List.drop 2 (Nt a)) 0 default)),.str (PV.asStr (List.getD (List.drop 2 (Nt a)) (0+1) default)),.sl 2 false (PV.asXs (List.getD (List.drop 2 (Nt a)) (0+1+1) default))]]
def f6s(a:Mdu)(Zm:Df):ZF:=[b0m a,.obj (.box [.pv (.str (Str.s (Df.name Zm))),.pv (.int .i64 (Df.line Zm)),.pv (.sl 5 false (MZ Zm)),.pv (.bool (Df.given Zm)),.pv (.str (Str.s (TyS.elem (Df.res Zm)))),.pv (.str (Str.s (TyS.row (Df.res Zm)))),.pv (.sl 2 false (List.map enc (TyS.dims (Df.res Zm)))),.pv (.int .i64 (Nd.kind (Df.n Zm))),.pv (.int .i64 (Nd.line (Df.n Zm))),.pv (.str (Str.s (Nd.name (Df.n Zm)))),.pv (.int .i64 (Nd.num (Df.n Zm))),.pv (.str (Str.s (Nd.elem (Df.n Zm)))),.pv (.sl 1 false (List.map enc (Nd.dims (Df.n Zm)))),.pv (.sl 1 false (List.map enc (Nd.data (Df.n Zm)))),.pv (.sl 2 false (List.map enc (Nd.sizes (Df.n Zm)))),.pv (.sl 1 false (List.map enc (Nd.ranks (Df.n Zm)))),.pv (.sl 10 false (List.map enc (Df.ks Zm)))])]
def b3n(b:PV->Prop)(Zm e:Int)(a:Mdu)(g:Df):Prop:=At Qg 0 (Za VJ b) VF 1 105 [(3,.ptr 0 0),(7,ZJ Zm),(8,.ptr 1 0),(9,Z6 e)] (f6s a g)
def c1e{G:PV->Prop}(s:List UInt8)(i k:Int)(m:Mdu)(d:Df):=WA (if (decide (k<(↑(List.length (MZ d)):Int)))=true then(a3o k d)=true∧(∃ b:Pm,(a4q d k b)∧((Go.Pl.preT Qp (b7j b))=true∧(∃ h:Bool,(AV.pv (Zl DW (b7j b))=AV.pv (enc h))∧(if (!h)=true then G (.bool false)else((a3o k d)=true∧(∃ g:Pm,(a4q d k g)∧(if (PV.asBool (List.getD (List.drop 1 (Nt g)) 0 default))=true then(a3o k d)=true∧(∃ a:Pm,(a4q d k a)∧((Go.Pl.preT (fun(x:TyS×Unit)=>yW x.1) (d4r a))=true∧(∃ e:Bool,(AV.pv (Zl (fun(x:TyS×Unit)=>Du x.1) (d4r a))=AV.pv (enc e))∧(if (!e)=true then G (.bool false)else(b3n G i k m d)))))else(b3n G i k m d))))))))else(At Qg 0 (Za VJ G) VF 0 105 [(3,.ptr 0 0),(6,.pv (.int .i64 (Df.line d))),(7,Z6 i)] [b0m m])) G (dm [dr Pm,dv Bool] 75 0x2022222222222202000142222612222512220164222251222022222222200a46125104342) Qg VJ VF 1 105 [(3,.ptr 0 0),(7,ZJ i),(8,.ptr 1 0),(9,ZJ k)] [d9w m,.obj (.box [.pv (.str d.name.s),.pv (.int .i64 d.line),.pv (.sl 5 false (d.ps.map enc)),.pv (.bool d.given),.pv (.str d.res.elem.s),.pv (.str d.res.row.s),.pv (.sl 2 false (d.res.dims.map enc)),.pv (.int .i64 d.n.kind),.pv (.int .i64 d.n.line),.pv (.str d.n.name.s),.pv (.int .i64 d.n.num),.pv (.str d.n.elem.s),.pv (.sl 1 false (d.n.dims.map enc)),.pv (.sl 1 false (d.n.data.map enc)),.pv (.sl 2 false (d.n.sizes.map enc)),.pv (.sl 1 false (d.n.ranks.map enc)),.pv (.sl 10 false (d.ks.map enc))])] (by delta MZ a3o a4q Qp b7j DW Nt d4r ZJ YF Z6 AL b0m f6s b3n;exact rfl)
theorem f8p{l:List UInt8}(h:OQ l=true):l.length<=30:=by
 unfold OQ at h
 simp only[Bool.or_eq_true,decide_eq_true_eq]at h
 rcases h with (h|h)|h
 ·rw[h];decide
 ·rw[h];decide
 ·unfold evB at h
  split at h
  ·cases h
  ·simp only[Bool.and_eq_true,decide_eq_true_eq]at h
   rw[List.length_cons]
   omega
theorem g6q{t:TyS}(h:Du t=true):yW t=true:=by
 unfold Du shV at h
 simp only[Bool.and_eq_true,Bool.or_eq_true,decide_eq_true_eq,List.all_eq_true]at h
 obtain⟨h1,⟨h2,h3⟩,h4⟩:=h
 have e:=f8p h1
 have r:t.row.s.length<=30:=by
  rcases h2 with h2|h2
  ·rw[h2];decide
  ·exact OP h2
 have d : ∀ l:List Lin,(∀ x∈l,Zt x=true)->(l.map DC).sum<=386*l.length:=by
  intro l
  induction l with
  | nil=>intro _;exact Nat.le_refl _
  | cons x l ih=>
   intro g
   have a:=c2a (g x (by simp))
   have b:=ih fun y i=>g y (by simp[i])
   simp only[List.map_cons,List.sum_cons,List.length_cons]
   omega
 have d:=d _ h4
 unfold yW wTy
 exact decide_eq_true (by omega)
theorem d9j(d:Df):[PV.agg [.int .i64 d.n.kind,.int .i64 d.n.line,.str d.n.name.s,.int .i64 d.n.num,.str d.n.elem.s,.sl 1 false (d.n.dims.map enc),.sl 1 false (d.n.data.map enc),.sl 2 false (d.n.sizes.map enc),.sl 1 false (d.n.ranks.map enc),.sl 10 false (d.ks.map enc)]]=encL (d.body,()):=by
 show _=[enc (Tm.mk d.n d.ks)]
 rw[WH]
 rfl
theorem d9c(s:List UInt8)(i:Nat)(m:Mdu){d:Df}(g:DfQ d)(hn:At Qg 0 (Za VJ (Zd true)) VF 0 105 [(3,.ptr 0 0),(6,.pv (.int .i64 d.line)),(7,.pv (.int .i64 (IntKind.wrap IntKind.i64 ((i:Int)+1))))] [.obj (.box (g1r m))]):
  ∀ (n k:Nat),k+n=d.ps.length->At Qg 0 (Za VJ (Zd true)) VF 1 105 [(3,.ptr 0 0),(7,.pv (.int .i64 (i:Int))),(8,.ptr 1 0),(9,.pv (.int .i64 (k:Int)))] [.obj (.box (g1r m)),.obj (.box (h0h d))]
 | 0,k,e=>c1e s i k m d (Yi (Ab (by omega)) hn)
 | n+1,k,e=>by
  have h:k<d.ps.length:=by omega
  have a:=g.pm _ (List.getElem_mem h)
  have np:=g.np
  have nl:=GV a.1
  have go:=d9c s i m g hn n (k+1) (by omega)
  rw[<- next (k:=k) (by omega)]at go
  refine c1e s i k m d (Yh (Bj h) ⟨XT h rfl,VD h ⟨Zh (d.ps[k].name,()) rfl (decide_eq_true (by show d.ps[k].name.s.length<=_;omega)),Zc (d.ps[k].name,()) rfl (YA (fun b=> ?_) fun _=>⟨XT h rfl,VD h (ZW (fun j=>⟨XT h rfl,VD h ⟨Zh (d.ps[k].ty,()) rfl ?_,Zc (d.ps[k].ty,()) rfl (YA (fun b=> ?_) fun _=>go)⟩⟩) fun _=>go)⟩)⟩⟩)
  ·exact absurd (show nameI d.ps[k].name.s=false from b) (by rw[a.1];decide)
  ·exact g6q (a.2.1 j)
  ·exact absurd (show Du d.ps[k].ty=false from b) (by rw[a.2.1 j];decide)
theorem d3k(s:List UInt8){m:Mdu}(hm:nameI m.name.s=true)(hd : ∀ d∈m.ds,DfQ d)(l:m.ds.Pairwise (fun a b=>a.line<=b.line))(r:m.ds.length<=60):
  ∀ (n i:Nat) (a:Int),i+n=m.ds.length->(∀ h:i<m.ds.length,a<=m.ds[i].line)->At Qg 0 (Za VJ (Zd true)) VF 0 105 [(3,.ptr 0 0),(6,.pv (.int .i64 a)),(7,.pv (.int .i64 (i:Int)))] [.obj (.box (g1r m))]
 | 0,i,a,e,ha=>by
  have u:=GV hm
  exact c1y s a i m (Yi (Ab (by omega)) ⟨Zh (m.name,()) rfl (decide_eq_true (by show m.name.s.length<=_;omega)),Zc (m.name,()) rfl (Zu hm)⟩)
 | n+1,i,a,e,ha=>by
  have h:i<m.ds.length:=by omega
  have j:=hd _ (List.getElem_mem h)
  have h1:=ha h
  have h2:=j.bl
  have h3:=j.np
  have u:=GV j.nm
  have go:=d3k s hm hd l r n (i+1) m.ds[i].line (by omega) fun q=>List.pairwise_iff_getElem.1 l i (i+1) h q (by omega)
  rw[<- next (k:=i) (by omega)]at go
  refine c1y s a i m (Yh (Bj h) ⟨XT h rfl,VD h (Yd (fun g=>absurd (show m.ds[i].line<a from g) (by omega)) fun _=>⟨Zh (m.ds[i].body,()) (d9j _) (b0r j.bw),Zc (m.ds[i].body,()) (d9j _) (YA (fun g=> ?_) fun _=>Yd (fun g=>absurd (show m.ds[i].n.line<m.ds[i].line from g) (by omega)) fun _=>⟨Zh (m.ds[i].name,()) rfl (decide_eq_true (by show m.ds[i].name.s.length<=_;omega)),Zc (m.ds[i].name,()) rfl (YA (fun g=> ?_) fun _=>Yd (fun g=> ?_) fun _=> ?_)⟩)⟩)⟩)
  ·exact absurd (show YJ (.mk m.ds[i].n m.ds[i].ks)=false from g) (by rw[j.bv];decide)
  ·exact absurd (show nameI m.ds[i].name.s=false from g) (by rw[j.nm];decide)
  ·have g:(((m.ds[i].ps.map (enc:Pm->PV)).length:Nat):Int)>8:=g
   rw[List.length_map]at g
   omega
  ·exact d9c s i m j go m.ds[i].ps.length 0 (by omega)
theorem d3a: ∀ x:Str×Unit,true=true->Zi Qg 0 (Za VJ (Zd true)) VF [] (Ye f0j (encL x)):=by
 rintro⟨⟨s⟩,⟨⟩⟩ _
 refine f8a s (Zc () rfl (Yi (by decide) (Zc ((⟨s⟩:Str),()) rfl (Yd (fun _=>Zu rfl) fun _=>b6r (fun _=>Zu rfl) fun hc=> ?_))))
 obtain⟨g,a,b,e⟩:=g4e (s:=⟨s⟩) hc
 exact d3k s g a b e _ 0 1 (Nat.zero_add _) fun h=>(a _ (List.getElem_mem h)).one
end Go.Pl
