/-
  Texts of mine that belong together (packed by pack.py), for every input: GPw, QPw, GPs, TyPs, QPs, TyAw, GAw, QAw, GLp10, QRh, QRi, QRk, QRj, GSa, QRo.
-/
import Derived.Test.YtjfgiaooglnomaaGreatDoorKG2
import Derived.Test.YtjfgiaooglnomaaGreatDoorKG3
import Derived.Test.YtjfgiaooglnomaaGreatDoorKG4
import Derived.KernelRfl
import Derived.Lib.SlicesCompact
set_option linter.unusedVariables false
set_option linter.unusedSimpArgs false
namespace Go.Pl
open Go.RowKit
open Enc (enc dec is)
open EncL (encL decL isL)
set_option maxRecDepth 100000
def Xo:IC:=(.seq (.reg [⟨(some 2),(.mv (.c (.sl 0 true []))),0,none⟩] none) (.seq (.seq (.reg [⟨(some 6),(.mv (.t 0)),0,none⟩,⟨(some 7),(.call (.c (.fn 122)) [(.t 6)]),0,none⟩,⟨(some 8),(.un .not (.t 7)),2,none⟩] none) (.cond (.t 8) (.seq (.reg [⟨(some 2),(.mv (.c (.sl 0 true []))),0,none⟩] none) .ret) .skip)) (.seq (.reg [⟨(some 3),(.mv (.c (.sl 0 true []))),0,none⟩] none) (.seq (.seq (.reg [⟨(some 9),(.mv (.t 0)),0,none⟩,⟨(some 10),(.len 1 (.t 9)),0,none⟩,⟨(some 11),(.mv (.c (.int .i64 0))),0,none⟩] none) (.block 0 (.loop [11,10,9,3] (.seq (.reg [⟨(some 12),(.bin .num .lss (.t 11) (.t 10)),0,none⟩] none) (.seq (.cond (.t 12) .skip (.exit 0)) (.seq (.block 1 (.seq (.reg [⟨(some 13),(.iaddr 2 (.t 9) (.t 11)),0,none⟩,⟨(some 14),(.load true [(.int .i64),(.sl 1)] (.t 13)),0,none⟩,⟨(some 5),(.alloc (.agg [(.int .i64 0),(.sl 0 true [])])),0,none⟩,⟨none,(.store 2 (.t 5) (.t 14)),1,none⟩] none) (.reg [⟨(some 15),(.mv (.t 3)),0,none⟩,⟨(some 16),(.faddr 1 (.t 5)),0,none⟩,⟨(some 17),(.load false [(.sl 1)] (.t 16)),0,none⟩,⟨(some 18),(.append 9 1 16 (.t 15) (.t 17)),0,none⟩,⟨(some 3),(.mv (.t 18)),1,none⟩] none))) (.reg [⟨(some 19),(.bin .num .add (.t 11) (.c (.int .i64 1))),0,none⟩,⟨(some 11),(.mv (.t 19)),0,none⟩] none))))))) (.seq (.reg [⟨(some 20),(.mv (.t 3)),0,none⟩,⟨(some 21),(.call (.c (.fn 154)) [(.t 20)]),0,none⟩] none) (.seq (.reg [⟨(some 22),(.mv (.t 3)),0,none⟩,⟨(some 23),(.call (.c (.fn 187)) [(.t 22)]),0,none⟩,⟨(some 2),(.mv (.t 23)),2,none⟩] none) .ret))))))
def Xn:List IRes:=[(.tmp 2)]
abbrev Af:Nat:=24
def XY:ZF:=Xe [(122,.pure (preT (fun x:List Mono×Unit=>Yb x.1)) (Zf (fun x:List Mono×Unit=>ZI x.1))),(154,.own XT QW),(187,.own XT QY)]
theorem a3p{G:AV×List AObj×List AObj->Prop}(p:List Mono)(h:(Go.Pl.preT (fun(x:List Mono×Unit)=>Yb x.1) [(.sl 2 false (List.map enc p))])=true∧(∃ y0:Bool,AV.pv (Zf (fun(x:List Mono×Unit)=>ZI x.1) [(.sl 2 false (List.map enc p))])=AV.pv (enc y0)∧(if (!y0)=true then G (((.pv (.sl 0 true [])),([],[])))else(At XY 0 (Zo 0 Xn G) Xo 0 24 [(3,(.pv (.sl 0 true []))),(9,(.pv (.sl 2 false (List.map enc p)))),(10,(.pv (.int .i64 (↑(List.length (List.map enc p)):Int)))),(11,(.pv (.int .i64 0)))] [])))):Zc XY 0 (Zo 0 Xn G) Xo [] (YK 24 [.pv (enc p)] []):=Zc.to (.req (.abs (Bool) (fun YY=>AV.pv (enc YY)) (.ask (.nil) (.nil)))) h (by kernel_rfl)
theorem RV{G:AV×List AObj×List AObj->Prop}(p:List Mono)(i:Int)(h:if (decide (i<(↑(List.length p):Int)))=true then(decide (0<=i)&&decide (Int.toNat i<List.length (List.map enc p))&&Enc.sz Mono==2)=true∧(∃ y0:Mono,AV.pv (PV.rptr (PV.cells (List.getD (List.map enc p) (Int.toNat i) default)))=AV.pv (PV.rptr (PV.cells ((enc) y0)))∧((List.isEmpty (PV.asXs (List.getD (PV.cells (enc y0)) (0+1) default))||1==1)=true∧(if (List.isEmpty (PV.asXs (List.getD (PV.cells (enc y0)) (0+1) default)))=true then At XY 0 (Zo 0 Xn G) Xo 0 24 [(3,(.pv (.sl 0 true []))),(9,(.pv (.sl 2 false (List.map enc p)))),(10,(.pv (.int .i64 (↑(List.length p):Int)))),(11,(.pv (.int .i64 (IntKind.wrap IntKind.i64 (i+1)))))] []else(((List.isEmpty ([]:List PV)||0==1)&&decide ((List.length ([]:List PV)+List.length (PV.asXs (List.getD (PV.cells (enc y0)) (0+1) default)))*16<=1099511627776)&&decide (List.length ([]:List PV)+List.length (PV.asXs (List.getD (PV.cells (enc y0)) (0+1) default))<=1099511627776))=true∧(At XY 0 (Zo 0 Xn G) Xo 0 24 [(3,(.row 0 (List.length ([]:List PV)+List.length (PV.asXs (List.getD (PV.cells (enc y0)) (0+1) default))) 0 (List.length ([]:List PV)+List.length (PV.asXs (List.getD (PV.cells (enc y0)) (0+1) default))))),(9,(.pv (.sl 2 false (List.map enc p)))),(10,(.pv (.int .i64 (↑(List.length p):Int)))),(11,(.pv (.int .i64 (IntKind.wrap IntKind.i64 (i+1)))))] [(.obj (.row false 9 1 (([]:List PV)++PV.asXs (List.getD (PV.cells (enc y0)) (0+1) default))))])))))else(G (((.pv (.sl 0 true [])),([],[]))))):At XY 0 (Zo 0 Xn G) Xo 0 24 [(3,.pv (.sl 0 true [])),(9,.pv (enc p)),(10,.pv (.int .i64 p.length)),(11,.pv (.int .i64 i))] []:=At.to (.lit (.ask (.req (.abs (Mono) (fun YY=>AV.pv (PV.rptr (PV.cells ((enc) YY)))) (.lit (.req (.lit (.ask (.lit (.nil)) (.req (.lit (.nil))))))))) (.lit (.keep (.lit (.keep (.nil))))))) h (by kernel_rfl)
theorem TF{G:AV×List AObj×List AObj->Prop}(p:List Mono)(i:Int)(q:Nat)(xs:List Str)(h:if (decide (i<(↑(List.length p):Int)))=true then(decide (0<=i)&&decide (Int.toNat i<List.length (List.map enc p))&&Enc.sz Mono==2)=true∧(∃ y0:Mono,AV.pv (PV.rptr (PV.cells (List.getD (List.map enc p) (Int.toNat i) default)))=AV.pv (PV.rptr (PV.cells ((enc) y0)))∧((List.isEmpty (PV.asXs (List.getD (PV.cells (enc y0)) (0+1) default))||1==1)=true∧((List.length (List.map enc xs)==q&&q==q&&decide ((q+List.length (PV.asXs (List.getD (PV.cells (enc y0)) (0+1) default)))*16<=1099511627776)&&decide (q+List.length (PV.asXs (List.getD (PV.cells (enc y0)) (0+1) default))<=1099511627776))=true∧(At XY 0 (Zo 0 Xn G) Xo 0 24 [(3,(.row 0 (q+List.length (PV.asXs (List.getD (PV.cells (enc y0)) (0+1) default))) 0 (q+List.length (PV.asXs (List.getD (PV.cells (enc y0)) (0+1) default))))),(9,(.pv (.sl 2 false (List.map enc p)))),(10,(.pv (.int .i64 (↑(List.length p):Int)))),(11,(.pv (.int .i64 (IntKind.wrap IntKind.i64 (i+1)))))] [(.obj (.row false 9 1 (List.map enc xs++PV.asXs (List.getD (PV.cells (enc y0)) (0+1) default))))]))))else((XT [(.row 0 q 0 q)] [(.row false 9 1 (List.map enc xs))])=true∧((XT [(.row 0 q 0 q)] [(.row false 9 1 (List.map PV.str (WA (List.map Qb (List.map enc xs)))))])=true∧(G (((.row 0 q 0 (List.length (Lib.compact (List.map Qb (List.map PV.str (WA (List.map Qb (List.map enc xs)))))))),([],[(.row false 9 1 (List.map PV.str (VH (List.map Qb (List.map PV.str (WA (List.map Qb (List.map enc xs))))))))]))))))):At XY 0 (Zo 0 Xn G) Xo 0 24 [(3,.row 0 q 0 q),(9,.pv (enc p)),(10,.pv (.int .i64 p.length)),(11,.pv (.int .i64 i))] [.obj (.row false 9 1 (xs.map enc))]:=At.to (.lit (.ask (.req (.abs (Mono) (fun YY=>AV.pv (PV.rptr (PV.cells ((enc) YY)))) (.lit (.req (.req (.lit (.nil))))))) (.req (.keep (.req (.keep (.nil))))))) h (by kernel_rfl)
def Ol:IC:=(.seq (.reg [⟨(some 2),(.box 2 (.t 0)),0,none⟩,⟨(some 3),(.mv (.c (.bool false))),1,none⟩] none) (.seq (.reg [⟨(some 4),(.faddr 0 (.t 2)),0,none⟩,⟨(some 5),(.load false [.str] (.t 4)),0,none⟩,⟨(some 6),(.load false [.str] (.t 1)),0,none⟩,⟨(some 7),(.bin .num .eql (.t 5) (.t 6)),0,none⟩,⟨(some 3),(.mv (.t 7)),0,none⟩] none) .ret))
def a0m:List IRes:=[(.tmp 3)]
abbrev c4t:Nat:=8
def b2o:ZF:=Xe []
theorem d0a{G:AV×List AObj×List AObj->Prop}(x:Coef)(v:List UInt8)(h:G (((.pv (.bool (Str.s x.v==v))),([(.box [(.pv (.str v))])],[])))):Zc b2o 1 (Zo 1 a0m G) Ol [] (YK 8 [.pv (enc x),.ptr 0 0] [.box [.pv (.str v)]]):=Zc.to (.lit (.nil)) h (by kernel_rfl)
def JU:IC:=KD
def Hl:List IRes:=[(.tmp 4)]
abbrev c5d:Nat:=19
def Bg:ZF:=Xe [(188,.own GI CY)]
theorem c9i{G:AV×List AObj×List AObj->Prop}(l:List Coef)(v:List UInt8)(h:At Bg 1 (Zo 1 Hl G) JU 0 19 [(0,(.pv (.sl 2 false (List.map enc l)))),(1,(.fn 188 [] [(.ptr 0 0)])),(7,(.pv (.int .i64 (↑(List.length (List.map enc l)):Int)))),(8,(.pv (.int .i64 0)))] [(.obj (.box [(.pv (.str v))]))]):Zc Bg 1 (Zo 1 Hl G) JU [] (YK 19 [.pv (enc l),.fn 188 [] [.ptr 0 0]] [.box [.pv (.str v)]]):=Zc.to (.nil) h (by kernel_rfl)
theorem b0o{G:AV×List AObj×List AObj->Prop}(l:List Coef)(v:List UInt8)(i:Int)(h:if (decide (i<(↑(List.length l):Int)))=true then(decide (0<=i)&&decide (Int.toNat i<List.length (List.map enc l))&&Enc.sz Coef==2)=true∧(∃ y0:Coef,AV.pv (PV.rptr (PV.cells (List.getD (List.map enc l) (Int.toNat i) default)))=AV.pv (PV.rptr (PV.cells ((enc) y0)))∧((GI [(.pv (.agg [(.str (PV.asStr (List.getD (PV.cells (enc y0)) 0 default))),(.int .i64 (PV.asInt (List.getD (PV.cells (enc y0)) (0+1) default)))])),(.ptr 0 0)] [(.box [(.pv (.str v))])])=true∧(if (Str.s (Coef.v (dec (PV.agg (Vk (PV.cells (enc y0)) 0 [Sh.str,Sh.int .i64]))))==v)=true then G (((.pv (.int .i64 i)),([(.box [(.pv (.str v))])],[])))else(At Bg 1 (Zo 1 Hl G) JU 0 19 [(0,(.pv (.sl 2 false (List.map enc l)))),(1,(.fn 188 [] [(.ptr 0 0)])),(7,(.pv (.int .i64 (↑(List.length l):Int)))),(8,(.pv (.int .i64 (IntKind.wrap IntKind.i64 (i+1)))))] [(.obj (.box [(.pv (.str v))]))]))))else(G (((.pv (.int .i64 (-1))),([(.box [(.pv (.str v))])],[]))))):At Bg 1 (Zo 1 Hl G) JU 0 19 [(0,.pv (enc l)),(1,.fn 188 [] [.ptr 0 0]),(7,.pv (.int .i64 l.length)),(8,.pv (.int .i64 i))] [.obj (.box [.pv (.str v)])]:=At.to (.lit (.ask (.req (.abs (Coef) (fun YY=>AV.pv (PV.rptr (PV.cells ((enc) YY)))) (.lit (.req (.keep (.ask (.nil) (.lit (.nil)))))))) (.nil))) h (by kernel_rfl)
def Q9:IC:=(.seq (.reg [⟨(some 4),(.mv (.c (.int .i64 0))),0,none⟩] none) (.seq (.seq (.reg [⟨(some 6),(.mv (.t 0)),0,none⟩,⟨(some 7),(.len 1 (.t 6)),0,none⟩,⟨(some 8),(.mv (.c (.int .i64 0))),0,none⟩] none) (.block 0 (.loop [8,7,1,0] (.seq (.reg [⟨(some 9),(.bin .num .lss (.t 8) (.t 7)),0,none⟩] none) (.seq (.cond (.t 9) .skip (.exit 0)) (.seq (.block 1 (.seq (.reg [⟨(some 10),(.mv (.t 8)),0,none⟩,⟨(some 5),(.mv (.t 10)),0,none⟩] none) (.seq (.reg [⟨(some 11),(.mv (.t 1)),0,none⟩,⟨(some 12),(.mv (.t 0)),0,none⟩,⟨(some 13),(.mv (.t 5)),0,none⟩,⟨(some 14),(.iaddr 1 (.t 12) (.t 13)),0,none⟩,⟨(some 15),(.load false [(.int .i64)] (.t 14)),0,none⟩,⟨(some 16),(.bin .num .eql (.t 11) (.t 15)),0,none⟩] none) (.cond (.t 16) (.seq (.reg [⟨(some 17),(.mv (.t 5)),0,none⟩,⟨(some 4),(.mv (.t 17)),0,none⟩] none) .ret) .skip)))) (.reg [⟨(some 18),(.bin .num .add (.t 8) (.c (.int .i64 1))),0,none⟩,⟨(some 8),(.mv (.t 18)),0,none⟩] none))))))) (.seq (.reg [⟨(some 4),(.mv (.c (.int .i64 (-1)))),0,none⟩] none) .ret)))
def Ki:List IRes:=[(.tmp 4)]
abbrev b9c:Nat:=19
def J2:ZF:=Xe []
theorem c3z{G:PV->Prop}(l:List Int)(n:Int)(h:At J2 0 (Za Ki G) Q9 0 19 [(0,(.pv (.sl 1 false (List.map enc l)))),(1,(.pv (.int .i64 n))),(7,(.pv (.int .i64 (↑(List.length (List.map enc l)):Int)))),(8,(.pv (.int .i64 0)))] []):Zc J2 0 (Za Ki G) Q9 [] (Ye 19 [enc l,enc n]):=Zc.tp (.nil) h (by kernel_rfl)
theorem a1i{G:PV->Prop}(l:List Int)(n:Int)(i:Int)(h:if (decide (i<(↑(List.length l):Int)))=true then(decide (0<=i)&&decide (Int.toNat i<List.length (List.map enc l))&&Enc.sz Int==1)=true∧(∃ y0:Int,AV.pv (PV.rptr (PV.cells (List.getD (List.map enc l) (Int.toNat i) default)))=AV.pv (PV.rptr (PV.cells ((enc) y0)))∧(if (n==PV.asInt (List.getD (PV.cells (enc y0)) 0 default))=true then G ((.int .i64 i))else(At J2 0 (Za Ki G) Q9 0 19 [(0,(.pv (.sl 1 false (List.map enc l)))),(1,(.pv (.int .i64 n))),(7,(.pv (.int .i64 (↑(List.length l):Int)))),(8,(.pv (.int .i64 (IntKind.wrap IntKind.i64 (i+1)))))] [])))else(G ((.int .i64 (-1))))):At J2 0 (Za Ki G) Q9 0 19 [(0,.pv (enc l)),(1,.pv (enc n)),(7,.pv (.int .i64 l.length)),(8,.pv (.int .i64 i))] []:=At.tp (.lit (.ask (.req (.abs (Int) (fun YY=>AV.pv (PV.rptr (PV.cells ((enc) YY)))) (.lit (.lit (.ask (.nil) (.lit (.nil))))))) (.nil))) h (by kernel_rfl)
def DD:IC:=(.seq (.reg [⟨(some 4),(.mv (.c (.bool false))),0,none⟩] none) (.seq (.reg [⟨(some 5),(.mv (.t 0)),0,none⟩,⟨(some 6),(.mv (.t 1)),0,none⟩,⟨(some 7),(.call (.c (.fn 284)) [(.t 5),(.t 6)]),0,none⟩,⟨(some 8),(.bin .num .geq (.t 7) (.c (.int .i64 0))),2,none⟩,⟨(some 4),(.mv (.t 8)),2,none⟩] none) .ret))
def G8:List IRes:=[(.tmp 4)]
abbrev a4k:Nat:=9
def Ad:ZF:=Xe [(284,.pure (preT (fun x:List Int×Int×Unit=>Zn x.1)) (Zf (fun x:List Int×Int×Unit=>Zz (fun n:Int=>decide (x.2.1=n)) x.1)))]
theorem b1k{G:PV->Prop}(l:List Int)(n:Int)(h:(Go.Pl.preT (fun(x:List Int×Int×Unit)=>Zn x.1) [(.sl 1 false (List.map enc l)),(.int .i64 n)])=true∧(∃ y0:Int,AV.pv (Zf (fun(x:List Int×Int×Unit)=>Zz (fun(n:Int)=>decide (x.2.1=n)) x.1) [(.sl 1 false (List.map enc l)),(.int .i64 n)])=AV.pv (enc y0)∧(G ((.bool (decide (y0 ≥ 0))))))):Zc Ad 0 (Za G8 G) DD [] (Ye 9 [enc l,enc n]):=Zc.tp (.req (.abs (Int) (fun YY=>AV.pv (enc YY)) (.lit (.nil)))) h (by kernel_rfl)
def UU:IC:=(.seq (.reg [⟨(some 2),(.mv (.c (.int .i64 0))),0,none⟩,⟨(some 3),(.mv (.c (.int .i64 0))),0,none⟩] none) (.seq (.seq (.reg [⟨(some 9),(.mv (.t 0)),0,none⟩,⟨(some 10),(.call (.c (.fn 246)) [(.t 9),(.c (.int .i64 0))]),0,none⟩] none) (.cond (.t 10) (.seq (.reg [⟨(some 2),(.mv (.c (.int .i64 0))),0,none⟩,⟨(some 3),(.mv (.c (.int .i64 0))),0,none⟩] none) .ret) .skip)) (.seq (.reg [⟨(some 4),(.mv (.c (.int .i64 1))),0,none⟩] none) (.seq (.seq (.reg [⟨(some 11),(.mv (.t 0)),0,none⟩,⟨(some 12),(.len 1 (.t 11)),0,none⟩,⟨(some 13),(.mv (.c (.int .i64 0))),0,none⟩] none) (.block 0 (.loop [13,12,11,4] (.seq (.reg [⟨(some 14),(.bin .num .lss (.t 13) (.t 12)),0,none⟩] none) (.seq (.cond (.t 14) .skip (.exit 0)) (.seq (.block 1 (.seq (.reg [⟨(some 15),(.iaddr 1 (.t 11) (.t 13)),0,none⟩,⟨(some 16),(.load false [(.int .i64)] (.t 15)),0,none⟩,⟨(some 6),(.mv (.t 16)),0,none⟩] none) (.seq (.reg [⟨(some 18),(.mv (.t 4)),0,none⟩,⟨(some 19),(.mv (.t 6)),0,none⟩,⟨(some 20),(.call (.c (.fn 247)) [(.t 18),(.t 19)]),0,none⟩,⟨(some 17),(.mv (.t 20)),2,none⟩,⟨(some 21),(.extract (.t 17) 0),2,none⟩,⟨(some 22),(.extract (.t 17) 1),2,none⟩,⟨(some 7),(.mv (.t 21)),2,none⟩,⟨(some 8),(.mv (.t 22)),2,none⟩] none) (.seq (.seq (.reg [⟨(some 23),(.mv (.t 8)),0,none⟩,⟨(some 24),(.bin .num .neq (.t 23) (.c (.int .i64 0))),0,none⟩] none) (.cond (.t 24) (.seq (.reg [⟨(some 25),(.mv (.t 8)),0,none⟩,⟨(some 2),(.mv (.c (.int .i64 0))),0,none⟩,⟨(some 3),(.mv (.t 25)),0,none⟩] none) .ret) .skip)) (.reg [⟨(some 26),(.mv (.t 7)),0,none⟩,⟨(some 4),(.mv (.t 26)),0,none⟩] none))))) (.reg [⟨(some 27),(.bin .num .add (.t 13) (.c (.int .i64 1))),0,none⟩,⟨(some 13),(.mv (.t 27)),0,none⟩] none))))))) (.seq (.reg [⟨(some 28),(.mv (.t 4)),0,none⟩,⟨(some 2),(.mv (.t 28)),0,none⟩,⟨(some 3),(.mv (.c (.int .i64 0))),0,none⟩] none) .ret)))))
def Un:List IRes:=[(.tmp 2),(.tmp 3)]
abbrev b6d:Nat:=29
def Qs:ZF:=Xe [(246,.pure (preT (fun x:List Int×Int×Unit=>Zn x.1)) (Zf (fun x:List Int×Int×Unit=>x.1.contains x.2.1))),(247,.pure (preT (fun _:Int×Int×Unit=>true)) (Zf (fun x:Int×Int×Unit=>Be x.1 x.2.1)))]
theorem c0k{G:PV->Prop}(l:List Int)(h:(Go.Pl.preT (fun(x:List Int×Int×Unit)=>Zn x.1) [(.sl 1 false (List.map enc l)),(.int .i64 0)])=true∧(∃ y0:Bool,AV.pv (Zf (fun(x:List Int×Int×Unit)=>List.contains x.1 x.2.1) [(.sl 1 false (List.map enc l)),(.int .i64 0)])=AV.pv (enc y0)∧(if (y0)=true then G ((.tup [(.int .i64 0),(.int .i64 0)]))else(At Qs 0 (Za Un G) UU 0 29 [(4,(.pv (.int .i64 1))),(11,(.pv (.sl 1 false (List.map enc l)))),(12,(.pv (.int .i64 (↑(List.length (List.map enc l)):Int)))),(13,(.pv (.int .i64 0)))] [])))):Zc Qs 0 (Za Un G) UU [] (Ye 29 [enc l]):=Zc.tp (.req (.abs (Bool) (fun YY=>AV.pv (enc YY)) (.ask (.nil) (.nil)))) h (by kernel_rfl)
theorem Lt{G:PV->Prop}(l:List Int)(o i:Int)(h:if (decide (i<(↑(List.length l):Int)))=true then(decide (0<=i)&&decide (Int.toNat i<List.length (List.map enc l))&&Enc.sz Int==1)=true∧(∃ y0:Int,AV.pv (PV.rptr (PV.cells (List.getD (List.map enc l) (Int.toNat i) default)))=AV.pv (PV.rptr (PV.cells ((enc) y0)))∧(∃ y1:Int×Int,AV.pv (Zf (fun(x:Int×Int×Unit)=>Be x.1 x.2.1) [(.int .i64 o),(.int .i64 (PV.asInt (List.getD (PV.cells (enc y0)) 0 default)))])=AV.pv (enc y1)∧(if (y1.2 != 0)=true then G ((.tup [(.int .i64 0),(.int .i64 y1.2)]))else(At Qs 0 (Za Un G) UU 0 29 [(4,(.pv (.int .i64 y1.1))),(11,(.pv (.sl 1 false (List.map enc l)))),(12,(.pv (.int .i64 (↑(List.length l):Int)))),(13,(.pv (.int .i64 (IntKind.wrap IntKind.i64 (i+1)))))] []))))else(G ((.tup [(.int .i64 o),(.int .i64 0)])))):At Qs 0 (Za Un G) UU 0 29 [(4,.pv (.int .i64 o)),(11,.pv (enc l)),(12,.pv (.int .i64 l.length)),(13,.pv (.int .i64 i))] []:=At.tp (.lit (.ask (.req (.abs (Int) (fun YY=>AV.pv (PV.rptr (PV.cells ((enc) YY)))) (.lit (.lit (.abs (Int×Int) (fun YY=>AV.pv (enc YY)) (.lit (.ask (.nil) (.lit (.nil))))))))) (.nil))) h (by kernel_rfl)
def ZJ:IC:=(.seq (.reg [⟨(some 4),(.mv (.c (.int .i64 0))),0,none⟩,⟨(some 5),(.mv (.c (.int .i64 0))),0,none⟩] none) (.seq (.seq (.reg [⟨(some 20),(.mv (.t 0)),0,none⟩,⟨(some 21),(.call (.c (.fn 122)) [(.t 20)]),0,none⟩,⟨(some 22),(.un .not (.t 21)),2,none⟩] none) (.cond (.t 22) (.seq (.reg [⟨(some 4),(.mv (.c (.int .i64 0))),0,none⟩,⟨(some 5),(.mv (.c (.int .i64 1))),0,none⟩] none) .ret) .skip)) (.seq (.reg [⟨(some 6),(.mv (.c (.sl 0 true []))),0,none⟩] none) (.seq (.reg [⟨(some 7),(.mv (.c (.bool false))),0,none⟩] none) (.seq (.seq (.reg [⟨(some 23),(.mv (.t 0)),0,none⟩,⟨(some 24),(.len 1 (.t 23)),0,none⟩,⟨(some 25),(.mv (.c (.int .i64 0))),0,none⟩] none) (.block 0 (.loop [25,24,23,1,7,6] (.seq (.reg [⟨(some 26),(.bin .num .lss (.t 25) (.t 24)),0,none⟩] none) (.seq (.cond (.t 26) .skip (.exit 0)) (.seq (.block 1 (.seq (.reg [⟨(some 27),(.iaddr 2 (.t 23) (.t 25)),0,none⟩,⟨(some 28),(.load true [(.int .i64),(.sl 1)] (.t 27)),0,none⟩,⟨(some 9),(.alloc (.agg [(.int .i64 0),(.sl 0 true [])])),0,none⟩,⟨none,(.store 2 (.t 9) (.t 28)),1,none⟩] none) (.seq (.reg [⟨(some 29),(.faddr 0 (.t 9)),0,none⟩,⟨(some 30),(.load false [(.int .i64)] (.t 29)),0,none⟩,⟨(some 31),(.bslice 3 1 1 (.int .i64 0) [(0,(.t 30))]),0,none⟩,⟨(some 10),(.mv (.t 31)),1,none⟩] none) (.seq (.seq (.reg [⟨(some 32),(.faddr 1 (.t 9)),0,none⟩,⟨(some 33),(.load false [(.sl 1)] (.t 32)),0,none⟩,⟨(some 34),(.len 1 (.t 33)),0,none⟩,⟨(some 35),(.mv (.c (.int .i64 0))),0,none⟩] none) (.block 2 (.loop [35,34,33,1,7,10,6,25,24,23] (.seq (.reg [⟨(some 36),(.bin .num .lss (.t 35) (.t 34)),0,none⟩] none) (.seq (.cond (.t 36) .skip (.exit 2)) (.seq (.block 3 (.seq (.reg [⟨(some 37),(.iaddr 1 (.t 33) (.t 35)),0,none⟩,⟨(some 38),(.load false [.str] (.t 37)),0,none⟩,⟨(some 12),(.alloc (.str [])),0,none⟩,⟨none,(.store 1 (.t 12) (.t 38)),1,none⟩] none) (.seq (.reg [⟨(some 39),(.mv (.t 1)),0,none⟩,⟨(some 40),(.mkfn 188 [] [(.t 12)]),0,none⟩,⟨(some 41),(.call (.c (.fn 109)) [(.t 39),(.t 40)]),0,none⟩,⟨(some 13),(.mv (.t 41)),2,none⟩] none) (.seq (.seq (.reg [⟨(some 42),(.mv (.t 13)),0,none⟩,⟨(some 43),(.bin .num .lss (.t 42) (.c (.int .i64 0))),0,none⟩] none) (.cond (.t 43) (.seq (.reg [⟨(some 4),(.mv (.c (.int .i64 0))),0,none⟩,⟨(some 5),(.mv (.c (.int .i64 7))),0,none⟩] none) .ret) .skip)) (.seq (.reg [⟨(some 44),(.mv (.t 1)),0,none⟩,⟨(some 45),(.mv (.t 13)),0,none⟩,⟨(some 46),(.iaddr 2 (.t 44) (.t 45)),0,none⟩,⟨(some 47),(.faddr 1 (.t 46)),0,none⟩,⟨(some 48),(.load false [(.int .i64)] (.t 47)),0,none⟩,⟨(some 14),(.mv (.t 48)),0,none⟩] none) (.seq (.reg [⟨(some 49),(.mv (.t 7)),0,none⟩,⟨(some 50),(.mv (.t 49)),0,none⟩,⟨(some 51),(.mv (.t 14)),0,(some (50,false))⟩,⟨(some 52),(.bin .num .lss (.t 51) (.c (.int .i64 (-4611686018427387904)))),0,(some (50,false))⟩,⟨(some 53),(.pick (.t 50) (.c (.bool true)) (.t 52)),0,none⟩,⟨(some 54),(.mv (.t 53)),0,none⟩,⟨(some 55),(.mv (.t 14)),0,(some (54,false))⟩,⟨(some 56),(.bin .num .gtr (.t 55) (.c (.int .i64 4611686018427387904))),0,(some (54,false))⟩,⟨(some 57),(.pick (.t 54) (.c (.bool true)) (.t 56)),0,none⟩,⟨(some 7),(.mv (.t 57)),0,none⟩] none) (.reg [⟨(some 58),(.mv (.t 10)),0,none⟩,⟨(some 59),(.mv (.t 14)),0,none⟩,⟨(some 60),(.bslice 3 1 1 (.int .i64 0) [(0,(.t 59))]),0,none⟩,⟨(some 61),(.append 3 1 8 (.t 58) (.t 60)),1,none⟩,⟨(some 10),(.mv (.t 61)),2,none⟩] none))))))) (.reg [⟨(some 62),(.bin .num .add (.t 35) (.c (.int .i64 1))),0,none⟩,⟨(some 35),(.mv (.t 62)),0,none⟩] none))))))) (.reg [⟨(some 63),(.mv (.t 6)),0,none⟩,⟨(some 64),(.mv (.t 10)),0,none⟩,⟨(some 65),(.bslice 34 1 1 (.sl 0 true []) [(0,(.t 64))]),0,none⟩,⟨(some 66),(.append 34 1 24 (.t 63) (.t 65)),1,none⟩,⟨(some 6),(.mv (.t 66)),2,none⟩] none))))) (.reg [⟨(some 67),(.bin .num .add (.t 25) (.c (.int .i64 1))),0,none⟩,⟨(some 25),(.mv (.t 67)),0,none⟩] none))))))) (.seq (.seq (.reg [⟨(some 68),(.mv (.t 7)),0,none⟩] none) (.cond (.t 68) (.seq (.reg [⟨(some 4),(.mv (.c (.int .i64 0))),0,none⟩,⟨(some 5),(.mv (.c (.int .i64 2))),0,none⟩] none) .ret) .skip)) (.seq (.reg [⟨(some 15),(.mv (.c (.sl 0 true []))),0,none⟩] none) (.seq (.seq (.reg [⟨(some 69),(.mv (.t 6)),0,none⟩,⟨(some 70),(.len 1 (.t 69)),0,none⟩,⟨(some 71),(.mv (.c (.int .i64 0))),0,none⟩] none) (.block 4 (.loop [71,70,69,15] (.seq (.reg [⟨(some 72),(.bin .num .lss (.t 71) (.t 70)),0,none⟩] none) (.seq (.cond (.t 72) .skip (.exit 4)) (.seq (.block 5 (.seq (.reg [⟨(some 73),(.iaddr 1 (.t 69) (.t 71)),0,none⟩,⟨(some 74),(.load false [(.sl 1)] (.t 73)),0,none⟩,⟨(some 17),(.mv (.t 74)),0,none⟩] none) (.seq (.reg [⟨(some 76),(.mv (.t 17)),0,none⟩,⟨(some 77),(.call (.c (.fn 189)) [(.t 76)]),0,none⟩,⟨(some 75),(.mv (.t 77)),2,none⟩,⟨(some 78),(.extract (.t 75) 0),2,none⟩,⟨(some 79),(.extract (.t 75) 1),2,none⟩,⟨(some 18),(.mv (.t 78)),2,none⟩,⟨(some 19),(.mv (.t 79)),2,none⟩] none) (.seq (.seq (.reg [⟨(some 80),(.mv (.t 19)),0,none⟩,⟨(some 81),(.bin .num .neq (.t 80) (.c (.int .i64 0))),0,none⟩] none) (.cond (.t 81) (.seq (.reg [⟨(some 4),(.mv (.c (.int .i64 0))),0,none⟩,⟨(some 5),(.mv (.c (.int .i64 2))),0,none⟩] none) .ret) .skip)) (.reg [⟨(some 82),(.mv (.t 15)),0,none⟩,⟨(some 83),(.mv (.t 18)),0,none⟩,⟨(some 84),(.bslice 3 1 1 (.int .i64 0) [(0,(.t 83))]),0,none⟩,⟨(some 85),(.append 3 1 8 (.t 82) (.t 84)),1,none⟩,⟨(some 15),(.mv (.t 85)),2,none⟩] none))))) (.reg [⟨(some 86),(.bin .num .add (.t 71) (.c (.int .i64 1))),0,none⟩,⟨(some 71),(.mv (.t 86)),0,none⟩] none))))))) (.seq (.reg [⟨(some 87),(.mv (.t 15)),0,none⟩,⟨(some 88),(.call (.c (.fn 190)) [(.t 87)]),0,none⟩,⟨(some 89),(.extract (.t 88) 0),2,none⟩,⟨(some 90),(.extract (.t 88) 1),2,none⟩,⟨(some 4),(.mv (.t 89)),2,none⟩,⟨(some 5),(.mv (.t 90)),2,none⟩] none) .ret)))))))))
def ZH:List IRes:=[(.tmp 4),(.tmp 5)]
abbrev b0v:Nat:=91
def ZT:ZF:=Xe [(122,.pure (preT (fun x:List Mono×Unit=>Yb x.1)) (Zf (fun x:List Mono×Unit=>ZI x.1))),(109,.own (Ue 188) Cw),(189,.pure (preT (fun x:List Int×Unit=>Zn x.1)) (Zf (fun x:List Int×Unit=>Xf x.1))),(190,.pure (preT (fun x:List Int×Unit=>decide (x.1.length<=10000))) (Zf (fun x:List Int×Unit=>VN x.1)))]
theorem c1e{G:PV->Prop}(p:List Mono)(vs:List Coef)(h:(Go.Pl.preT (fun(x:List Mono×Unit)=>Yb x.1) [(.sl 2 false (List.map enc p))])=true∧(∃ y0:Bool,AV.pv (Zf (fun(x:List Mono×Unit)=>ZI x.1) [(.sl 2 false (List.map enc p))])=AV.pv (enc y0)∧(if (!y0)=true then G ((.tup [(.int .i64 0),(.int .i64 1)]))else(At ZT 0 (Za ZH G) ZJ 0 91 [(1,(.pv (.sl 2 false (List.map enc vs)))),(6,(.pv (.sl 0 true []))),(7,(.pv (.bool false))),(23,(.pv (.sl 2 false (List.map enc p)))),(24,(.pv (.int .i64 (↑(List.length (List.map enc p)):Int)))),(25,(.pv (.int .i64 0)))] [])))):Zc ZT 0 (Za ZH G) ZJ [] (Ye 91 [enc p,enc vs]):=Zc.tp (.req (.abs (Bool) (fun YY=>AV.pv (enc YY)) (.ask (.nil) (.nil)))) h (by kernel_rfl)
theorem TR{G:PV->Prop}(p:List Mono)(vs:List Coef)(bd:Bool)(i:Int)(h:if (decide (i<(↑(List.length p):Int)))=true then(decide (0<=i)&&decide (Int.toNat i<List.length (List.map enc p))&&Enc.sz Mono==2)=true∧(∃ y0:Mono,AV.pv (PV.rptr (PV.cells (List.getD (List.map enc p) (Int.toNat i) default)))=AV.pv (PV.rptr (PV.cells ((enc) y0)))∧(At ZT 0 (Za ZH G) ZJ 1 91 [(1,(.pv (.sl 2 false (List.map enc vs)))),(6,(.pv (.sl 0 true []))),(7,(.pv (.bool bd))),(10,(.row 0 1 0 1)),(23,(.pv (.sl 2 false (List.map enc p)))),(24,(.pv (.int .i64 (↑(List.length p):Int)))),(25,(.pv (.int .i64 i))),(33,(.pv (.sl 1 false (PV.asXs (List.getD (PV.cells (enc y0)) (0+1) default))))),(34,(.pv (.int .i64 (↑(List.length (PV.asXs (List.getD (PV.cells (enc y0)) (0+1) default))):Int)))),(35,(.pv (.int .i64 0)))] [(.obj (.row false 3 1 [(.int .i64 (PV.asInt (List.getD (PV.cells (enc y0)) 0 default)))]))]))else(if (bd)=true then G ((.tup [(.int .i64 0),(.int .i64 2)]))else(At ZT 0 (Za ZH G) ZJ 2 91 [(15,(.pv (.sl 0 true []))),(69,(.pv (.sl 0 true []))),(70,(.pv (.int .i64 0))),(71,(.pv (.int .i64 0)))] []))):At ZT 0 (Za ZH G) ZJ 0 91 [(6,.pv (.sl 0 true [])),(1,.pv (enc vs)),(7,.pv (.bool bd)),(23,.pv (enc p)),(24,.pv (.int .i64 p.length)),(25,.pv (.int .i64 i))] []:=At.tp (.lit (.ask (.req (.abs (Mono) (fun YY=>AV.pv (PV.rptr (PV.cells ((enc) YY)))) (.lit (.lit (.nil))))) (.ask (.nil) (.nil)))) h (by kernel_rfl)
theorem TN{G:PV->Prop}(p:List Mono)(vs:List Coef)(bd:Bool)(i:Int)(q:Nat)(fs:List (List Int))(h:if (decide (i<(↑(List.length p):Int)))=true then(decide (0<=i)&&decide (Int.toNat i<List.length (List.map enc p))&&Enc.sz Mono==2)=true∧(∃ y0:Mono,AV.pv (PV.rptr (PV.cells (List.getD (List.map enc p) (Int.toNat i) default)))=AV.pv (PV.rptr (PV.cells ((enc) y0)))∧(At ZT 0 (Za ZH G) ZJ 1 91 [(1,(.pv (.sl 2 false (List.map enc vs)))),(6,(.row 0 q 0 q)),(7,(.pv (.bool bd))),(10,(.row 1 1 0 1)),(23,(.pv (.sl 2 false (List.map enc p)))),(24,(.pv (.int .i64 (↑(List.length p):Int)))),(25,(.pv (.int .i64 i))),(33,(.pv (.sl 1 false (PV.asXs (List.getD (PV.cells (enc y0)) (0+1) default))))),(34,(.pv (.int .i64 (↑(List.length (PV.asXs (List.getD (PV.cells (enc y0)) (0+1) default))):Int)))),(35,(.pv (.int .i64 0)))] [(.obj (.row false 34 1 (List.map enc fs))),(.obj (.row false 3 1 [(.int .i64 (PV.asInt (List.getD (PV.cells (enc y0)) 0 default)))]))]))else(if (bd)=true then G ((.tup [(.int .i64 0),(.int .i64 2)]))else(At ZT 0 (Za ZH G) ZJ 2 91 [(15,(.pv (.sl 0 true []))),(69,(.row 0 q 0 q)),(70,(.pv (.int .i64 (↑(q - 0):Int)))),(71,(.pv (.int .i64 0)))] [(.obj (.row false 34 1 (List.map enc fs)))]))):At ZT 0 (Za ZH G) ZJ 0 91 [(6,.row 0 q 0 q),(1,.pv (enc vs)),(7,.pv (.bool bd)),(23,.pv (enc p)),(24,.pv (.int .i64 p.length)),(25,.pv (.int .i64 i))] [.obj (.row false 34 1 (fs.map enc))]:=At.tp (.lit (.ask (.req (.abs (Mono) (fun YY=>AV.pv (PV.rptr (PV.cells ((enc) YY)))) (.lit (.lit (.nil))))) (.ask (.nil) (.nil)))) h (by kernel_rfl)
theorem Tw{G:PV->Prop}(p:List Mono)(vs:List Coef)(bd:Bool)(i j:Int)(ns:List Str)(r:Nat)(l:List Int)(h:if (decide (j<(↑(List.length ns):Int)))=true then(decide (0<=j)&&decide (Int.toNat j<List.length (List.map enc ns))&&Enc.sz Str==1)=true∧(∃ y0:Str,AV.pv (PV.rptr (PV.cells (List.getD (List.map enc ns) (Int.toNat j) default)))=AV.pv (PV.rptr (PV.cells ((enc) y0)))∧((Ue 188 [(.pv (.sl 2 false (List.map enc vs))),(.fn 188 [] [(.ptr 0 0)])] [(.box [(.pv (.str (PV.asStr (List.getD (PV.cells (enc y0)) 0 default))))])])=true∧(if (decide (Zz (fun(t:Coef)=>Str.s t.v==PV.asStr (List.getD (PV.cells (enc y0)) 0 default)) (Kt (enc vs))<0))=true then G ((.tup [(.int .i64 0),(.int .i64 7)]))else((decide (0<=Zz (fun(t:Coef)=>Str.s t.v==PV.asStr (List.getD (PV.cells (enc y0)) 0 default)) (Kt (enc vs)))&&decide (Int.toNat (Zz (fun(t:Coef)=>Str.s t.v==PV.asStr (List.getD (PV.cells (enc y0)) 0 default)) (Kt (enc vs)))<List.length (List.map enc vs))&&Enc.sz Coef==2)=true∧(∃ y1:Coef,AV.pv (PV.rptr (PV.cells (List.getD (List.map enc vs) (Int.toNat (Zz (fun(t:Coef)=>Str.s t.v==PV.asStr (List.getD (PV.cells (enc y0)) 0 default)) (Kt (enc vs)))) default)))=AV.pv (PV.rptr (PV.cells ((enc) y1)))∧(if (bd)=true then(List.length (List.map enc l)==r&&r==r&&decide ((r+List.length (List.drop 0 (List.take 1 [Sh.co (Sh.int .i64) (List.getD (List.drop 1 (PV.cells (enc y1))) 0 default)])))*8<=1099511627776)&&decide (r+List.length (List.drop 0 (List.take 1 [Sh.co (Sh.int .i64) (List.getD (List.drop 1 (PV.cells (enc y1))) 0 default)]))<=1099511627776))=true∧(At ZT 0 (Za ZH G) ZJ 1 91 [(1,(.pv (.sl 2 false (List.map enc vs)))),(6,(.pv (.sl 0 true []))),(7,(.pv (.bool true))),(10,(.row 0 (r+List.length (List.drop 0 (List.take 1 [Sh.co (Sh.int .i64) (List.getD (List.drop 1 (PV.cells (enc y1))) 0 default)]))) 0 (r+List.length (List.drop 0 (List.take 1 [Sh.co (Sh.int .i64) (List.getD (List.drop 1 (PV.cells (enc y1))) 0 default)]))))),(23,(.pv (.sl 2 false (List.map enc p)))),(24,(.pv (.int .i64 (↑(List.length p):Int)))),(25,(.pv (.int .i64 i))),(33,(.pv (.sl 1 false (List.map enc ns)))),(34,(.pv (.int .i64 (↑(List.length ns):Int)))),(35,(.pv (.int .i64 (IntKind.wrap IntKind.i64 (j+1)))))] [(.obj (.row false 3 1 (List.map enc l++List.drop 0 (List.take 1 [Sh.co (Sh.int .i64) (List.getD (List.drop 1 (PV.cells (enc y1))) 0 default)]))))])else(if (decide (PV.asInt (List.getD (List.drop 1 (PV.cells (enc y1))) 0 default)<(-4611686018427387904:Int)))=true then(List.length (List.map enc l)==r&&r==r&&decide ((r+List.length (List.drop 0 (List.take 1 [Sh.co (Sh.int .i64) (List.getD (List.drop 1 (PV.cells (enc y1))) 0 default)])))*8<=1099511627776)&&decide (r+List.length (List.drop 0 (List.take 1 [Sh.co (Sh.int .i64) (List.getD (List.drop 1 (PV.cells (enc y1))) 0 default)]))<=1099511627776))=true∧(At ZT 0 (Za ZH G) ZJ 1 91 [(1,(.pv (.sl 2 false (List.map enc vs)))),(6,(.pv (.sl 0 true []))),(7,(.pv (.bool true))),(10,(.row 0 (r+List.length (List.drop 0 (List.take 1 [Sh.co (Sh.int .i64) (List.getD (List.drop 1 (PV.cells (enc y1))) 0 default)]))) 0 (r+List.length (List.drop 0 (List.take 1 [Sh.co (Sh.int .i64) (List.getD (List.drop 1 (PV.cells (enc y1))) 0 default)]))))),(23,(.pv (.sl 2 false (List.map enc p)))),(24,(.pv (.int .i64 (↑(List.length p):Int)))),(25,(.pv (.int .i64 i))),(33,(.pv (.sl 1 false (List.map enc ns)))),(34,(.pv (.int .i64 (↑(List.length ns):Int)))),(35,(.pv (.int .i64 (IntKind.wrap IntKind.i64 (j+1)))))] [(.obj (.row false 3 1 (List.map enc l++List.drop 0 (List.take 1 [Sh.co (Sh.int .i64) (List.getD (List.drop 1 (PV.cells (enc y1))) 0 default)]))))])else((List.length (List.map enc l)==r&&r==r&&decide ((r+List.length (List.drop 0 (List.take 1 [Sh.co (Sh.int .i64) (List.getD (List.drop 1 (PV.cells (enc y1))) 0 default)])))*8<=1099511627776)&&decide (r+List.length (List.drop 0 (List.take 1 [Sh.co (Sh.int .i64) (List.getD (List.drop 1 (PV.cells (enc y1))) 0 default)]))<=1099511627776))=true∧(At ZT 0 (Za ZH G) ZJ 1 91 [(1,(.pv (.sl 2 false (List.map enc vs)))),(6,(.pv (.sl 0 true []))),(7,(.pv (.bool (decide (PV.asInt (List.getD (List.drop 1 (PV.cells (enc y1))) 0 default)>4611686018427387904))))),(10,(.row 0 (r+List.length (List.drop 0 (List.take 1 [Sh.co (Sh.int .i64) (List.getD (List.drop 1 (PV.cells (enc y1))) 0 default)]))) 0 (r+List.length (List.drop 0 (List.take 1 [Sh.co (Sh.int .i64) (List.getD (List.drop 1 (PV.cells (enc y1))) 0 default)]))))),(23,(.pv (.sl 2 false (List.map enc p)))),(24,(.pv (.int .i64 (↑(List.length p):Int)))),(25,(.pv (.int .i64 i))),(33,(.pv (.sl 1 false (List.map enc ns)))),(34,(.pv (.int .i64 (↑(List.length ns):Int)))),(35,(.pv (.int .i64 (IntKind.wrap IntKind.i64 (j+1)))))] [(.obj (.row false 3 1 (List.map enc l++List.drop 0 (List.take 1 [Sh.co (Sh.int .i64) (List.getD (List.drop 1 (PV.cells (enc y1))) 0 default)]))))])))))))))else((List.length (List.map enc l)==r)=true∧(At ZT 0 (Za ZH G) ZJ 0 91 [(1,(.pv (.sl 2 false (List.map enc vs)))),(6,(.row 0 1 0 1)),(7,(.pv (.bool bd))),(23,(.pv (.sl 2 false (List.map enc p)))),(24,(.pv (.int .i64 (↑(List.length p):Int)))),(25,(.pv (.int .i64 (IntKind.wrap IntKind.i64 (i+1)))))] [(.obj (.row false 34 1 [(.sl 1 false (List.drop 0 (List.take r (List.map enc l))))]))]))):At ZT 0 (Za ZH G) ZJ 1 91 [(6,.pv (.sl 0 true [])),(1,.pv (enc vs)),(7,.pv (.bool bd)),(23,.pv (enc p)),(24,.pv (.int .i64 p.length)),(25,.pv (.int .i64 i)),(33,.pv (enc ns)),(34,.pv (.int .i64 ns.length)),(35,.pv (.int .i64 j)),(10,.row 0 r 0 r)] [.obj (.row false 3 1 (l.map enc))]:=At.tp (.lit (.ask (.req (.abs (Str) (fun YY=>AV.pv (PV.rptr (PV.cells ((enc) YY)))) (.lit (.req (.keep (.lit (.ask (.nil) (.req (.abs (Coef) (fun YY=>AV.pv (PV.rptr (PV.cells ((enc) YY)))) (.lit (.ask (.lit (.lit (.lit (.lit (.lit (.lit (.lit (.req (.lit (.nil)))))))))) (.lit (.lit (.lit (.ask (.lit (.lit (.lit (.lit (.req (.lit (.nil))))))) (.lit (.lit (.lit (.lit (.lit (.req (.lit (.nil))))))))))))))))))))))) (.req (.lit (.lit (.lit (.lit (.lit (.lit (.nil)))))))))) h (by kernel_rfl)
theorem RN{G:PV->Prop}(p:List Mono)(vs:List Coef)(bd:Bool)(i j:Int)(ns:List Str)(r:Nat)(l:List Int)(q:Nat)(fs:List (List Int))(h:if (decide (j<(↑(List.length ns):Int)))=true then(decide (0<=j)&&decide (Int.toNat j<List.length (List.map enc ns))&&Enc.sz Str==1)=true∧(∃ y0:Str,AV.pv (PV.rptr (PV.cells (List.getD (List.map enc ns) (Int.toNat j) default)))=AV.pv (PV.rptr (PV.cells ((enc) y0)))∧((Ue 188 [(.pv (.sl 2 false (List.map enc vs))),(.fn 188 [] [(.ptr 0 0)])] [(.box [(.pv (.str (PV.asStr (List.getD (PV.cells (enc y0)) 0 default))))])])=true∧(if (decide (Zz (fun(t:Coef)=>Str.s t.v==PV.asStr (List.getD (PV.cells (enc y0)) 0 default)) (Kt (enc vs))<0))=true then G ((.tup [(.int .i64 0),(.int .i64 7)]))else((decide (0<=Zz (fun(t:Coef)=>Str.s t.v==PV.asStr (List.getD (PV.cells (enc y0)) 0 default)) (Kt (enc vs)))&&decide (Int.toNat (Zz (fun(t:Coef)=>Str.s t.v==PV.asStr (List.getD (PV.cells (enc y0)) 0 default)) (Kt (enc vs)))<List.length (List.map enc vs))&&Enc.sz Coef==2)=true∧(∃ y1:Coef,AV.pv (PV.rptr (PV.cells (List.getD (List.map enc vs) (Int.toNat (Zz (fun(t:Coef)=>Str.s t.v==PV.asStr (List.getD (PV.cells (enc y0)) 0 default)) (Kt (enc vs)))) default)))=AV.pv (PV.rptr (PV.cells ((enc) y1)))∧(if (bd)=true then(List.length (List.map enc l)==r&&r==r&&decide ((r+List.length (List.drop 0 (List.take 1 [Sh.co (Sh.int .i64) (List.getD (List.drop 1 (PV.cells (enc y1))) 0 default)])))*8<=1099511627776)&&decide (r+List.length (List.drop 0 (List.take 1 [Sh.co (Sh.int .i64) (List.getD (List.drop 1 (PV.cells (enc y1))) 0 default)]))<=1099511627776))=true∧(At ZT 0 (Za ZH G) ZJ 1 91 [(1,(.pv (.sl 2 false (List.map enc vs)))),(6,(.row 0 q 0 q)),(7,(.pv (.bool true))),(10,(.row 1 (r+List.length (List.drop 0 (List.take 1 [Sh.co (Sh.int .i64) (List.getD (List.drop 1 (PV.cells (enc y1))) 0 default)]))) 0 (r+List.length (List.drop 0 (List.take 1 [Sh.co (Sh.int .i64) (List.getD (List.drop 1 (PV.cells (enc y1))) 0 default)]))))),(23,(.pv (.sl 2 false (List.map enc p)))),(24,(.pv (.int .i64 (↑(List.length p):Int)))),(25,(.pv (.int .i64 i))),(33,(.pv (.sl 1 false (List.map enc ns)))),(34,(.pv (.int .i64 (↑(List.length ns):Int)))),(35,(.pv (.int .i64 (IntKind.wrap IntKind.i64 (j+1)))))] [(.obj (.row false 34 1 (List.map enc fs))),(.obj (.row false 3 1 (List.map enc l++List.drop 0 (List.take 1 [Sh.co (Sh.int .i64) (List.getD (List.drop 1 (PV.cells (enc y1))) 0 default)]))))])else(if (decide (PV.asInt (List.getD (List.drop 1 (PV.cells (enc y1))) 0 default)<(-4611686018427387904:Int)))=true then(List.length (List.map enc l)==r&&r==r&&decide ((r+List.length (List.drop 0 (List.take 1 [Sh.co (Sh.int .i64) (List.getD (List.drop 1 (PV.cells (enc y1))) 0 default)])))*8<=1099511627776)&&decide (r+List.length (List.drop 0 (List.take 1 [Sh.co (Sh.int .i64) (List.getD (List.drop 1 (PV.cells (enc y1))) 0 default)]))<=1099511627776))=true∧(At ZT 0 (Za ZH G) ZJ 1 91 [(1,(.pv (.sl 2 false (List.map enc vs)))),(6,(.row 0 q 0 q)),(7,(.pv (.bool true))),(10,(.row 1 (r+List.length (List.drop 0 (List.take 1 [Sh.co (Sh.int .i64) (List.getD (List.drop 1 (PV.cells (enc y1))) 0 default)]))) 0 (r+List.length (List.drop 0 (List.take 1 [Sh.co (Sh.int .i64) (List.getD (List.drop 1 (PV.cells (enc y1))) 0 default)]))))),(23,(.pv (.sl 2 false (List.map enc p)))),(24,(.pv (.int .i64 (↑(List.length p):Int)))),(25,(.pv (.int .i64 i))),(33,(.pv (.sl 1 false (List.map enc ns)))),(34,(.pv (.int .i64 (↑(List.length ns):Int)))),(35,(.pv (.int .i64 (IntKind.wrap IntKind.i64 (j+1)))))] [(.obj (.row false 34 1 (List.map enc fs))),(.obj (.row false 3 1 (List.map enc l++List.drop 0 (List.take 1 [Sh.co (Sh.int .i64) (List.getD (List.drop 1 (PV.cells (enc y1))) 0 default)]))))])else((List.length (List.map enc l)==r&&r==r&&decide ((r+List.length (List.drop 0 (List.take 1 [Sh.co (Sh.int .i64) (List.getD (List.drop 1 (PV.cells (enc y1))) 0 default)])))*8<=1099511627776)&&decide (r+List.length (List.drop 0 (List.take 1 [Sh.co (Sh.int .i64) (List.getD (List.drop 1 (PV.cells (enc y1))) 0 default)]))<=1099511627776))=true∧(At ZT 0 (Za ZH G) ZJ 1 91 [(1,(.pv (.sl 2 false (List.map enc vs)))),(6,(.row 0 q 0 q)),(7,(.pv (.bool (decide (PV.asInt (List.getD (List.drop 1 (PV.cells (enc y1))) 0 default)>4611686018427387904))))),(10,(.row 1 (r+List.length (List.drop 0 (List.take 1 [Sh.co (Sh.int .i64) (List.getD (List.drop 1 (PV.cells (enc y1))) 0 default)]))) 0 (r+List.length (List.drop 0 (List.take 1 [Sh.co (Sh.int .i64) (List.getD (List.drop 1 (PV.cells (enc y1))) 0 default)]))))),(23,(.pv (.sl 2 false (List.map enc p)))),(24,(.pv (.int .i64 (↑(List.length p):Int)))),(25,(.pv (.int .i64 i))),(33,(.pv (.sl 1 false (List.map enc ns)))),(34,(.pv (.int .i64 (↑(List.length ns):Int)))),(35,(.pv (.int .i64 (IntKind.wrap IntKind.i64 (j+1)))))] [(.obj (.row false 34 1 (List.map enc fs))),(.obj (.row false 3 1 (List.map enc l++List.drop 0 (List.take 1 [Sh.co (Sh.int .i64) (List.getD (List.drop 1 (PV.cells (enc y1))) 0 default)]))))])))))))))else((List.length (List.map enc l)==r)=true∧((List.length (List.map enc fs)==q&&q==q&&decide ((q+List.length (List.drop 0 (List.take 1 [PV.sl 1 false (List.drop 0 (List.take r (List.map enc l)))])))*24<=1099511627776)&&decide (q+List.length (List.drop 0 (List.take 1 [PV.sl 1 false (List.drop 0 (List.take r (List.map enc l)))]))<=1099511627776))=true∧(At ZT 0 (Za ZH G) ZJ 0 91 [(1,(.pv (.sl 2 false (List.map enc vs)))),(6,(.row 0 (q+List.length (List.drop 0 (List.take 1 [PV.sl 1 false (List.drop 0 (List.take r (List.map enc l)))]))) 0 (q+List.length (List.drop 0 (List.take 1 [PV.sl 1 false (List.drop 0 (List.take r (List.map enc l)))]))))),(7,(.pv (.bool bd))),(23,(.pv (.sl 2 false (List.map enc p)))),(24,(.pv (.int .i64 (↑(List.length p):Int)))),(25,(.pv (.int .i64 (IntKind.wrap IntKind.i64 (i+1)))))] [(.obj (.row false 34 1 (List.map enc fs++List.drop 0 (List.take 1 [PV.sl 1 false (List.drop 0 (List.take r (List.map enc l)))]))))])))):At ZT 0 (Za ZH G) ZJ 1 91 [(6,.row 0 q 0 q),(1,.pv (enc vs)),(7,.pv (.bool bd)),(23,.pv (enc p)),(24,.pv (.int .i64 p.length)),(25,.pv (.int .i64 i)),(33,.pv (enc ns)),(34,.pv (.int .i64 ns.length)),(35,.pv (.int .i64 j)),(10,.row 1 r 0 r)] [.obj (.row false 34 1 (fs.map enc)),.obj (.row false 3 1 (l.map enc))]:=At.tp (.lit (.ask (.req (.abs (Str) (fun YY=>AV.pv (PV.rptr (PV.cells ((enc) YY)))) (.lit (.req (.keep (.lit (.ask (.nil) (.req (.abs (Coef) (fun YY=>AV.pv (PV.rptr (PV.cells ((enc) YY)))) (.lit (.ask (.lit (.lit (.lit (.lit (.lit (.lit (.lit (.req (.lit (.nil)))))))))) (.lit (.lit (.lit (.ask (.lit (.lit (.lit (.lit (.req (.lit (.nil))))))) (.lit (.lit (.lit (.lit (.lit (.req (.lit (.nil))))))))))))))))))))))) (.req (.lit (.lit (.req (.lit (.nil)))))))) h (by kernel_rfl)
theorem a6u{G:PV->Prop}(p:List Mono)(vs:List Coef)(i:Int)(q:Nat)(fs:List (List Int))(h:if (decide (i<(↑q:Int)))=true then(decide (0<=i)&&decide (0+Int.toNat i<q)&&List.length (List.map enc fs)==q)=true∧((List.length (List.map enc fs)==q&&decide (0+Int.toNat i<List.length (List.map enc fs)))=true∧((decide (0+List.length [Sh.sl 1]<=List.length (PV.cells (List.getD (List.map enc fs) (0+Int.toNat i) default)))&&Xa (PV.cells (List.getD (List.map enc fs) (0+Int.toNat i) default)) 0 [Sh.sl 1])=true∧((Go.Pl.preT (fun(x:List Int×Unit)=>Zn x.1) [(.sl 1 (PV.asT (List.getD (PV.cells (List.getD (List.map enc fs) (0+Int.toNat i) default)) 0 default)) (PV.asXs (List.getD (PV.cells (List.getD (List.map enc fs) (0+Int.toNat i) default)) 0 default)))])=true∧(∃ y0:Int×Int,AV.pv (Zf (fun(x:List Int×Unit)=>Xf x.1) [(.sl 1 (PV.asT (List.getD (PV.cells (List.getD (List.map enc fs) (0+Int.toNat i) default)) 0 default)) (PV.asXs (List.getD (PV.cells (List.getD (List.map enc fs) (0+Int.toNat i) default)) 0 default)))])=AV.pv (enc y0)∧(if (y0.2 != 0)=true then G ((.tup [(.int .i64 0),(.int .i64 2)]))else(At ZT 0 (Za ZH G) ZJ 2 91 [(15,(.row 0 1 0 1)),(69,(.row 1 q 0 q)),(70,(.pv (.int .i64 (↑q:Int)))),(71,(.pv (.int .i64 (IntKind.wrap IntKind.i64 (i+1)))))] [(.obj (.row false 3 1 [(.int .i64 y0.1)])),(.obj (.row false 34 1 (List.map enc fs)))]))))))else(∃ y1:Int×Int,AV.pv (Zf (fun(x:List Int×Unit)=>VN x.1) [(.sl 0 true [])])=AV.pv (enc y1)∧(G ((.tup [(.int .i64 y1.1),(.int .i64 y1.2)]))))):At ZT 0 (Za ZH G) ZJ 2 91 [(15,.pv (.sl 0 true [])),(69,.row 0 q 0 q),(70,.pv (.int .i64 q)),(71,.pv (.int .i64 i))] [.obj (.row false 34 1 (fs.map enc))]:=At.tp (.lit (.ask (.req (.keep (.req (.req (.req (.abs (Int×Int) (fun YY=>AV.pv (enc YY)) (.lit (.ask (.nil) (.lit (.lit (.lit (.lit (.lit (.lit (.nil))))))))))))))) (.lit (.abs (Int×Int) (fun YY=>AV.pv (enc YY)) (.nil))))) h (by kernel_rfl)
theorem Ro{G:PV->Prop}(p:List Mono)(vs:List Coef)(i:Int)(q:Nat)(fs:List (List Int))(r:Nat)(ps:List Int)(h:if (decide (i<(↑q:Int)))=true then(decide (0<=i)&&decide (0+Int.toNat i<q)&&List.length (List.map enc fs)==q)=true∧((List.length (List.map enc fs)==q&&decide (0+Int.toNat i<List.length (List.map enc fs)))=true∧((decide (0+List.length [Sh.sl 1]<=List.length (PV.cells (List.getD (List.map enc fs) (0+Int.toNat i) default)))&&Xa (PV.cells (List.getD (List.map enc fs) (0+Int.toNat i) default)) 0 [Sh.sl 1])=true∧((Go.Pl.preT (fun(x:List Int×Unit)=>Zn x.1) [(.sl 1 (PV.asT (List.getD (PV.cells (List.getD (List.map enc fs) (0+Int.toNat i) default)) 0 default)) (PV.asXs (List.getD (PV.cells (List.getD (List.map enc fs) (0+Int.toNat i) default)) 0 default)))])=true∧(∃ y0:Int×Int,AV.pv (Zf (fun(x:List Int×Unit)=>Xf x.1) [(.sl 1 (PV.asT (List.getD (PV.cells (List.getD (List.map enc fs) (0+Int.toNat i) default)) 0 default)) (PV.asXs (List.getD (PV.cells (List.getD (List.map enc fs) (0+Int.toNat i) default)) 0 default)))])=AV.pv (enc y0)∧(if (y0.2 != 0)=true then G ((.tup [(.int .i64 0),(.int .i64 2)]))else((List.length (List.map enc ps)==r&&r==r&&decide ((r+List.length (List.drop 0 (List.take 1 [enc y0.1])))*8<=1099511627776)&&decide (r+List.length (List.drop 0 (List.take 1 [enc y0.1]))<=1099511627776))=true∧(At ZT 0 (Za ZH G) ZJ 2 91 [(15,(.row 0 (r+List.length (List.drop 0 (List.take 1 [enc y0.1]))) 0 (r+List.length (List.drop 0 (List.take 1 [enc y0.1]))))),(69,(.row 1 q 0 q)),(70,(.pv (.int .i64 (↑q:Int)))),(71,(.pv (.int .i64 (IntKind.wrap IntKind.i64 (i+1)))))] [(.obj (.row false 3 1 (List.map enc ps++List.drop 0 (List.take 1 [enc y0.1])))),(.obj (.row false 34 1 (List.map enc fs)))])))))))else((List.length (List.map enc ps)==r)=true∧((Go.Pl.preT (fun(x:List Int×Unit)=>decide (List.length x.1<=10000)) [(.sl 1 false (List.drop 0 (List.take r (List.map enc ps))))])=true∧(∃ y1:Int×Int,AV.pv (Zf (fun(x:List Int×Unit)=>VN x.1) [(.sl 1 false (List.drop 0 (List.take r (List.map enc ps))))])=AV.pv (enc y1)∧(G ((.tup [(.int .i64 y1.1),(.int .i64 y1.2)]))))))):At ZT 0 (Za ZH G) ZJ 2 91 [(15,.row 0 r 0 r),(69,.row 1 q 0 q),(70,.pv (.int .i64 q)),(71,.pv (.int .i64 i))] [.obj (.row false 3 1 (ps.map enc)),.obj (.row false 34 1 (fs.map enc))]:=At.tp (.lit (.ask (.req (.keep (.req (.req (.req (.abs (Int×Int) (fun YY=>AV.pv (enc YY)) (.lit (.ask (.nil) (.lit (.lit (.req (.lit (.nil))))))))))))) (.req (.req (.abs (Int×Int) (fun YY=>AV.pv (enc YY)) (.nil)))))) h (by kernel_rfl)
theorem a4v{G:PV->Prop}(p:List Mono)(vs:List Coef)(h : ∃ y0:Int×Int,AV.pv (Zf (fun(x:List Int×Unit)=>VN x.1) [(.sl 0 true [])])=AV.pv (enc y0)∧(G ((.tup [(.int .i64 y0.1),(.int .i64 y0.2)])))):At ZT 0 (Za ZH G) ZJ 2 91 [(15,.pv (.sl 0 true [])),(69,.pv (.sl 0 true [])),(70,.pv (.int .i64 0)),(71,.pv (.int .i64 0))] []:=At.tp (.lit (.lit (.lit (.abs (Int×Int) (fun YY=>AV.pv (enc YY)) (.nil))))) h (by kernel_rfl)
def CG:IC:=(.reg [⟨(some 4),(.load false [(.sl 1)] (.t 1)),0,none⟩,⟨(some 5),(.mv (.t 0)),0,none⟩,⟨(some 6),(.bin .num .shr (.t 5) (.c (.int .u64 31))),0,none⟩,⟨(some 7),(.bslice 3 1 1 (.int .i64 0) [(0,(.t 6))]),0,none⟩,⟨(some 8),(.append 3 1 8 (.t 4) (.t 7)),1,none⟩,⟨(some 9),(.load false [(.sl 1)] (.t 2)),2,none⟩,⟨(some 10),(.mv (.t 0)),2,none⟩,⟨(some 11),(.bin .num .and (.t 10) (.c (.int .i64 2147483647))),2,none⟩,⟨(some 12),(.bslice 3 1 1 (.int .i64 0) [(0,(.t 11))]),2,none⟩,⟨(some 13),(.append 3 1 8 (.t 9) (.t 12)),3,none⟩,⟨none,(.store 1 (.t 1) (.t 8)),4,none⟩,⟨none,(.store 1 (.t 2) (.t 13)),4,none⟩] (some [[],[],[1],[2,1],[0,3,2,1],[],[],[6],[7,6],[5,8,4,7,6,0,3,2,1],[4,9,0,1,2,3,5,8,7,6],[9,10,0,1,2,3,4,5,6,7,8]]))
def CF:List IRes:=[]
abbrev c2k:Nat:=14
def PT:ZF:=Xe []
theorem c6f{G:AV×List AObj×List AObj->Prop}(n:Int)(h:G (((.tup []),([(.box [(.row 2 1 0 1)]),(.box [(.row 3 1 0 1)])],[(.row false 3 1 [(.int .i64 (Int.fdiv n (2 ^ min (Int.toNat 31) (IntKind.bits IntKind.i64))))]),(.row false 3 1 [(.int .i64 (IntKind.wrap IntKind.i64 (↑(BitVec.toNat (BitVec.ofInt (IntKind.bits IntKind.i64) n &&& BitVec.ofInt (IntKind.bits IntKind.i64) 2147483647)):Int)))])])))):Zc PT 2 (Zo 2 CF G) CG [] (YK 14 [.pv (.int .i64 n),.ptr 0 0,.ptr 1 0] [.box [.pv (.sl 0 true [])],.box [.pv (.sl 0 true [])]]):=Zc.to (.lit (.lit (.lit (.lit (.lit (.lit (.lit (.lit (.lit (.lit (.lit (.lit (.nil))))))))))))) h (by kernel_rfl)
theorem c8b{G:AV×List AObj×List AObj->Prop}(n:Int)(q:Nat)(xs ys:List PV)(h:(List.length xs==q&&q==q&&decide ((q+List.length (List.drop 0 (List.take 1 [PV.int .i64 (Int.fdiv n (2 ^ min (Int.toNat 31) (IntKind.bits IntKind.i64)))])))*8<=1099511627776)&&decide (q+List.length (List.drop 0 (List.take 1 [PV.int .i64 (Int.fdiv n (2 ^ min (Int.toNat 31) (IntKind.bits IntKind.i64)))]))<=1099511627776))=true∧((List.length ys==q&&q==q&&decide ((q+List.length (List.drop 0 (List.take 1 [PV.int .i64 (IntKind.wrap IntKind.i64 (↑(BitVec.toNat (BitVec.ofInt (IntKind.bits IntKind.i64) n &&& BitVec.ofInt (IntKind.bits IntKind.i64) 2147483647)):Int))])))*8<=1099511627776)&&decide (q+List.length (List.drop 0 (List.take 1 [PV.int .i64 (IntKind.wrap IntKind.i64 (↑(BitVec.toNat (BitVec.ofInt (IntKind.bits IntKind.i64) n &&& BitVec.ofInt (IntKind.bits IntKind.i64) 2147483647)):Int))]))<=1099511627776))=true∧(G (((.tup []),([(.box [(.row 2 (q+List.length (List.drop 0 (List.take 1 [PV.int .i64 (Int.fdiv n (2 ^ min (Int.toNat 31) (IntKind.bits IntKind.i64)))]))) 0 (q+List.length (List.drop 0 (List.take 1 [PV.int .i64 (Int.fdiv n (2 ^ min (Int.toNat 31) (IntKind.bits IntKind.i64)))]))))]),(.box [(.row 3 (q+List.length (List.drop 0 (List.take 1 [PV.int .i64 (IntKind.wrap IntKind.i64 (↑(BitVec.toNat (BitVec.ofInt (IntKind.bits IntKind.i64) n &&& BitVec.ofInt (IntKind.bits IntKind.i64) 2147483647)):Int))]))) 0 (q+List.length (List.drop 0 (List.take 1 [PV.int .i64 (IntKind.wrap IntKind.i64 (↑(BitVec.toNat (BitVec.ofInt (IntKind.bits IntKind.i64) n &&& BitVec.ofInt (IntKind.bits IntKind.i64) 2147483647)):Int))]))))]),(.row false 3 1 (xs++List.drop 0 (List.take 1 [PV.int .i64 (Int.fdiv n (2 ^ min (Int.toNat 31) (IntKind.bits IntKind.i64)))]))),(.row false 3 1 (ys++List.drop 0 (List.take 1 [PV.int .i64 (IntKind.wrap IntKind.i64 (↑(BitVec.toNat (BitVec.ofInt (IntKind.bits IntKind.i64) n &&& BitVec.ofInt (IntKind.bits IntKind.i64) 2147483647)):Int))])))],[])))))):Zc PT 4 (Zo 4 CF G) CG [] (YK 14 [.pv (.int .i64 n),.ptr 0 0,.ptr 1 0] [.box [.row 2 q 0 q],.box [.row 3 q 0 q],.row false 3 1 xs,.row false 3 1 ys]):=Zc.to (.lit (.lit (.lit (.req (.lit (.lit (.lit (.req (.nil))))))))) h (by kernel_rfl)
end Go.Pl

namespace Go.Pl
open Go.RowKit
open Enc (enc dec is)
open EncL (encL decL isL)
def UY(p:List Mono)(i:Nat):List Str:=(p.take i).flatMap (·.v)
theorem MX(p:List Mono){i:Nat}(h:i<p.length):UY p (i+1)=UY p i++p[i].v:=by
 unfold UY
 rw[List.take_succ_eq_append_getElem h,List.flatMap_append]
 simp
theorem NP(p:List Mono)(hp : ∀ m∈p,m.v.length<=8): ∀ i,i<=p.length->(UY p i).length<=8*i:=by
 intro i
 induction i with
 | zero=>intro _;simp[UY]
 | succ i ih=>
  intro hi
  have:=ih (by omega)
  rw[MX p (by omega),List.length_append]
  have:=hp _ (List.getElem_mem (show i<p.length by omega))
  omega
theorem Gm{p:List Mono}(h:ZI p=true):p.length<=60∧ ∀ m∈p,m.v.length<=8:=by
 unfold ZI at h
 simp only[Bool.and_eq_true,decide_eq_true_eq]at h
 refine⟨h.1.1,fun m hm=> ?_⟩
 have:=List.all_eq_true.1 h.1.2 m hm
 unfold Ve at this
 simp only[Bool.and_eq_true,decide_eq_true_eq]at this
 exact this.1.1.2
theorem b5u(l:List Str):List.map Qb (List.map (enc:Str->PV) l)=l.map (·.s):=by
 rw[List.map_map];rfl
theorem b8l(l:List (List UInt8)):List.map Qb (List.map PV.str l)=l:=by
 rw[List.map_map];exact(List.map_congr_left (fun _ _=>rfl)).trans (List.map_id _)
theorem L8(l:List (List UInt8)):(WA l).length=l.length:=(List.mergeSort_perm l _).length_eq
def pvW(p:List Mono):AV×List AObj×List AObj:=if (XO p).isEmpty then(.pv (.sl 0 true []),[],[])else Pb [.pv (enc p)] []
theorem Oy(p:List Mono)(hp:ZI p=true): ∀ (k i:Nat),k+i=p.length ->
  if (UY p i).isEmpty then At XY 0 (Zo 0 Xn fun r=>r=pvW p) Xo 0 24 [(3,.pv (.sl 0 true [])),(9,.pv (enc p)),(10,.pv (.int .i64 p.length)),(11,.pv (.int .i64 i))] []
  else At XY 0 (Zo 0 Xn fun r=>r=pvW p) Xo 0 24 [(3,.row 0 (UY p i).length 0 (UY p i).length),(9,.pv (enc p)),(10,.pv (.int .i64 p.length)),(11,.pv (.int .i64 i))] [.obj (.row false 9 1 ((UY p i).map enc))]:=by
 obtain⟨hl,hm⟩:=Gm hp
 intro k
 induction k with
 | zero=>
  intro i hi
  obtain rfl:i=p.length:=by omega
  have e:UY p p.length=XO p:=by unfold UY XO;rw[List.take_length]
  rw[e]
  cases hc:(XO p).isEmpty
  ·rw[if_neg (by simp)]
   have hlen:(XO p).length<=480:=by have:=NP p hm p.length (Nat.le_refl _);rw[e]at this;omega
   refine TF p p.length _ (XO p) (ZK (Z4 (by omega)) ⟨?_,?_,?_⟩)
   ·show((XO p).length==((XO p).map (enc:Str->PV)).length&&(XO p).length==(XO p).length&&((XO p).map (enc:Str->PV)).all Hu&&decide ((XO p).length<4611686018427387904))=true
    have:((XO p).map (enc:Str->PV)).all Hu=true:=by rw[List.all_map];exact List.all_eq_true.2 fun _ _=>rfl
    rw[this,List.length_map,decide_eq_true (by omega)];simp
   ·rw[b5u]
    show((XO p).length==((WA ((XO p).map (·.s))).map PV.str).length&&(XO p).length==(XO p).length&&((WA ((XO p).map (·.s))).map PV.str).all Hu&&decide ((XO p).length<4611686018427387904))=true
    have:((WA ((XO p).map (·.s))).map PV.str).all Hu=true:=by rw[List.all_map];exact List.all_eq_true.2 fun _ _=>rfl
    rw[this,List.length_map,L8,List.length_map,decide_eq_true (by omega)];simp
   ·rw[b5u,b8l]
    unfold pvW
    rw[hc,if_neg (by simp)]
    show _=(AV.row 0 (Xr (dec (enc p:PV))).length 0 (Lib.compact (Xr (dec (enc p:PV)))).length,[],[AObj.row false 9 1 ((VH (Xr (dec (enc p:PV)))).map .str)])
    rw[Enc.dec_enc]
    have:(Xr p).length=(XO p).length:=by unfold Xr;rw[L8,List.length_map]
    rw[this]
    rfl
  ·rw[if_pos rfl]
   refine RV p p.length (ZK (Z4 (by omega)) ?_)
   unfold pvW
   rw[hc,if_pos rfl]
 | succ k ih=>
  intro i hi
  have hlt:i<p.length:=by omega
  have h1:=ih (i+1) (by omega)
  have hmi:=hm _ (List.getElem_mem hlt)
  have hoi:=NP p hm i (by omega)
  rw[MX p hlt]at h1
  cases hc:(UY p i).isEmpty
  ·rw[if_neg (by simp)]
   have hc2:(UY p i++p[i].v).isEmpty=false:=by
    rw[List.isEmpty_eq_false_iff]at hc ⊢
    simp[hc]
   rw[hc2,if_neg (by simp)]at h1
   refine TF p i _ (UY p i) (ZC (ZW hlt) ⟨Zt hlt rfl,Zx hlt ⟨by simp,?_,?_⟩⟩)
   ·show(((UY p i).map (enc:Str->PV)).length==(UY p i).length&&(UY p i).length==(UY p i).length&&decide (((UY p i).length+(p[i].v.map (enc:Str->PV)).length)*16<=1099511627776)&&decide ((UY p i).length+(p[i].v.map (enc:Str->PV)).length<=1099511627776))=true
    rw[List.length_map,List.length_map,decide_eq_true (by omega),decide_eq_true (by omega)];simp
   ·rw[next (by omega)]
    rw[List.length_append,List.map_append]at h1
    have e:(PV.asXs (List.getD (PV.cells (enc p[i])) (0+1) default)).length=p[i].v.length:=by
     show(p[i].v.map (enc:Str->PV)).length=_
     rw[List.length_map]
    rw[e]
    exact h1
  ·rw[if_pos rfl]
   have hnil:UY p i=[]:=List.isEmpty_iff.1 hc
   rw[hnil,List.nil_append]at h1
   refine RV p i (ZC (ZW hlt) ⟨Zt hlt rfl,Zx hlt ⟨by simp,?_⟩⟩)
   show if (p[i].v.map (enc:Str->PV)).isEmpty=true then _ else _
   rw[List.isEmpty_map]
   cases hv:p[i].v.isEmpty
   ·rw[hv,if_neg (by simp)]at h1
    refine ZK (by simp) ⟨?_,?_⟩
    ·show((List.isEmpty ([]:List PV)||0==1)&&decide ((List.length ([]:List PV)+(p[i].v.map (enc:Str->PV)).length)*16<=1099511627776)&&decide (List.length ([]:List PV)+(p[i].v.map (enc:Str->PV)).length<=1099511627776))=true
     rw[List.length_map,decide_eq_true (by simp;omega),decide_eq_true (by simp;omega)];rfl
    ·rw[next (by omega)]
     have e:List.length ([]:List PV)+(PV.asXs (List.getD (PV.cells (enc p[i])) (0+1) default)).length=p[i].v.length:=by
      show 0+(p[i].v.map (enc:Str->PV)).length=_
      rw[List.length_map,Nat.zero_add]
     rw[e]
     exact h1
   ·rw[hv,if_pos rfl]at h1
    refine ZC rfl ?_
    rw[next (by omega)]
    exact h1
theorem RJ(p:List Mono)(hs:Yb p=true)(hp:ZI p=true):Zc XY 0 (Zo 0 Xn fun r=>r=pvW p) Xo [] (YK Af [.pv (enc p)] []):=by
 refine a3p p ⟨Zj (p,()) rfl hs,Zh (p,()) rfl (ZK (by simp[hp]) ?_)⟩
 rw[List.length_map]
 have:=Oy p hp p.length 0 (by omega)
 rw[show(UY p 0).isEmpty=true from rfl,if_pos rfl]at this
 exact this
theorem EQ: ∀ args os,Qi args os=true->Zc XY os.length (Zo os.length Xn fun r=>r=Pb args os) Xo [] (YK Af args os):=by
 intro args os h
 unfold Qi at h
 split at h
 ·rename_i a
  simp only[Bool.and_eq_true,Bool.not_eq_true']at h
  obtain⟨⟨⟨h1,h2⟩,h3⟩,h4⟩:=h
  obtain⟨p,rfl⟩:=Yr h1
  rw[Enc.dec_enc]at h2 h3 h4
  have:=RJ p h2 h3
  unfold pvW at this
  rw[h4,if_neg (by simp)]at this
  exact this
 ·cases h
theorem O4: ∀ args os,Ja args os=true->Zc XY os.length (Zo os.length Xn fun r=>r=CW args os) Xo [] (YK Af args os):=by
 intro args os h
 unfold Ja at h
 split at h
 ·rename_i a
  simp only[Bool.and_eq_true]at h
  obtain⟨⟨h1,h2⟩,h3⟩:=h
  obtain⟨p,rfl⟩:=Yr h1
  rw[Enc.dec_enc]at h2 h3
  cases hv:ZI p
  ·exact a3p p ⟨Zj (p,()) rfl h2,Zh (p,()) rfl (ZC (by simp[hv]) rfl)⟩
  ·rw[hv]at h3
   have h3:(XO p).isEmpty=true:=by simpa using h3
   have:=RJ p h2 hv
   unfold pvW at this
   rw[h3,if_pos rfl]at this
   exact this
 ·cases h
theorem b9t: ∀ args os,GI args os=true->Zc b2o os.length (Zo os.length a0m fun r=>r=CY args os) Ol [] (YK c4t args os):=by
 intro args os h
 unfold GI at h
 split at h
 ·rename_i x v
  obtain⟨x,rfl⟩:=Yr h
  refine d0a x v ?_
  simp only[CY,Enc.dec_enc]
 ·cases h
theorem b7o(l:List Coef)(v:List UInt8)(hl:l.length<=9223372036854775807)(R:AV×List AObj×List AObj)(hR:R=(.pv (.int .i64 (Zz (fun t:Coef=>t.v.s==v) l)),[.box [.pv (.str v)]],[])): ∀ (m i:Nat),m+i=l.length->(∀ j (h:j<l.length),j<i->(l[j].v.s==v)=false) ->
  At Bg 1 (Zo 1 Hl fun r=>r=R) JU 0 19 [(0,.pv (enc l)),(1,.fn 188 [] [.ptr 0 0]),(7,.pv (.int .i64 l.length)),(8,.pv (.int .i64 i))] [.obj (.box [.pv (.str v)])]:=by
 intro m
 induction m with
 | zero=>
  intro i hi hno
  refine b0o l v i (ZK (Z4 (by omega)) ?_)
  rw[hR,Qt _ _ (fun j hj=>hno j hj (by omega))]
 | succ m ih=>
  intro i hi hno
  have hlt:i<l.length:=by omega
  have ed:(dec (PV.agg (Vk (PV.cells (enc l[i])) 0 [Sh.str,Sh.int .i64])):Coef)=l[i]:=Enc.dec_enc l[i]
  refine b0o l v i (ZC (ZW hlt) ⟨Zt hlt rfl,Zx hlt ⟨ZY l[i],?_⟩⟩)
  rw[ed]
  refine X3 (fun hb=> ?_) fun hb=> ?_
  ·rw[hR,Qp (fun t:Coef=>t.v.s==v) l i hlt hno hb]
  ·rw[next (by omega)]
   refine ih (i+1) (by omega) fun j hj hji=> ?_
   by_cases e:j=i
   ·subst e;exact hb
   ·exact hno j hj (by omega)
theorem b8a: ∀ args os,Ue 188 args os=true->Zc Bg os.length (Zo os.length Hl fun r=>r=Cw args os) JU [] (YK c5d args os):=by
 intro args os h
 unfold Ue at h
 split at h
 ·rename_i l g v
  simp only[Bool.and_eq_true,beq_iff_eq,decide_eq_true_eq]at h
  obtain⟨⟨rfl,h1⟩,h2⟩:=h
  obtain⟨l,rfl⟩:=Yr h1
  rw[Enc.dec_enc]at h2
  refine c9i l v ?_
  rw[List.length_map]
  exact b7o l v h2 _ (by simp only[Cw,Kt,Enc.dec_enc]) l.length 0 (by omega) (fun j hj h=>by omega)
 ·cases h
theorem a6f(l:List Int)(n:Int)(hl:l.length<=9223372036854775807): ∀ (m i:Nat),m+i=l.length->(∀ j (h:j<l.length),j<i->decide (n=l[j])=false) ->
  At J2 0 (Za Ki (Zg (Zz (fun x:Int=>decide (n=x)) l))) Q9 0 19 [(0,.pv (enc l)),(1,.pv (enc n)),(7,.pv (.int .i64 l.length)),(8,.pv (.int .i64 i))] []:=by
 intro m
 induction m with
 | zero=>
  intro i hi hno
  refine a1i l n i (ZK (Z4 (by omega)) (Uu ?_))
  rw[Qt _ _ (fun j hj=>hno j hj (by omega))]
 | succ m ih=>
  intro i hi hno
  have hlt:i<l.length:=by omega
  refine a1i l n i (ZC (ZW hlt) ⟨Zt hlt rfl,Zx hlt (Ka (fun hb=> ?_) fun hb=> ?_)⟩)
  ·have hb:n=l[i]:=hb
   exact Uu (Qp (fun x:Int=>decide (n=x)) l i hlt hno (by simp[hb])).symm
  ·have hb : ¬ n=l[i]:=hb
   rw[next (by omega)]
   refine ih (i+1) (by omega) fun j hj hji=> ?_
   by_cases e:j=i
   ·subst e;simp[hb]
   ·exact hno j hj (by omega)
theorem b6f: ∀ a:List Int×Int×Unit,Zn a.1=true->Zc J2 0 (Za Ki (Zg (Zz (fun x:Int=>decide (a.2.1=x)) a.1))) Q9 [] (Ye b9c (encL a)):=by
 rintro⟨l,n,⟨⟩⟩ h
 refine c3z l n ?_
 rw[List.length_map]
 exact a6f l n (Zy.1 h) l.length 0 (by omega) (fun j hj h=>by omega)
theorem Ey: ∀ a:List Int×Int×Unit,Zn a.1=true->Zc Ad 0 (Za G8 (Zg (a.1.contains a.2.1))) DD [] (Ye a4k (encL a)):=by
 rintro⟨l,n,⟨⟩⟩ h
 refine b1k l n ⟨Zj (l,n,()) rfl h,Zh (l,n,()) rfl (ZM ?_)⟩
 show decide (Zz (fun x:Int=>decide (n=x)) l ≥ 0)=_
 rw[XU,Bool.eq_iff_iff]
 simp[List.any_eq_true]
theorem Et(l:List Int)(hl:l.length<=9223372036854775807): ∀ (m i:Nat) (o:Int),m+i=l.length ->
  At Qs 0 (Za Un (Zg (a2q o (l.drop i)))) UU 0 29 [(4,.pv (.int .i64 o)),(11,.pv (enc l)),(12,.pv (.int .i64 l.length)),(13,.pv (.int .i64 i))] []:=by
 intro m
 induction m with
 | zero=>
  intro i o hi
  rw[List.drop_of_length_le (by omega)]
  exact Lt l o i (ZK (Z4 (by omega)) (ZQ (x:=(o,(0:Int))) rfl))
 | succ m ih=>
  intro i o hi
  have hlt:i<l.length:=by omega
  rw[List.drop_eq_getElem_cons hlt]
  refine Lt l o i (ZC (ZW hlt) ⟨Zt hlt rfl,Zx hlt (Zh (o,l[i],()) rfl ?_)⟩)
  show if ((Be o l[i]).2 != 0)=true then _ else _
  rw[a2q]
  by_cases h:(Be o l[i]).2=0
  ·rw[if_neg (by simp[h]),if_neg (by simp[h]),next (by omega)]
   exact ih (i+1) _ (by omega)
  ·rw[if_pos (by simp[h]),if_pos h]
   exact ZQ (x:=((0:Int),(Be o l[i]).2)) rfl
theorem a8p: ∀ a:List Int×Unit,Zn a.1=true->Zc Qs 0 (Za Un (Zg (Xf a.1))) UU [] (Ye b6d (encL a)):=by
 rintro⟨l,⟨⟩⟩ h
 refine c0k l ⟨Zj (l,0,()) rfl h,Zh (l,0,()) rfl (X3 (fun hc=> ?_) fun hc=> ?_)⟩
 ·have hc:l.contains 0=true:=hc
  show Zg (Xf l) _
  unfold Xf
  rw[hc,if_pos rfl]
  exact ZQ (x:=((0:Int),(0:Int))) rfl
 ·have hc:l.contains 0=false:=hc
  show At Qs 0 (Za Un (Zg (Xf l))) _ _ _ _ _
  unfold Xf
  rw[hc,if_neg (by simp),List.length_map]
  exact Et l (Zy.1 h) l.length 0 1 (by omega)
theorem QZ{α:Type}[Enc α]{l:List α}{i:Nat}(h:i<l.length):List.getD (List.map (enc:α->PV) l) (0+Int.toNat (i:Int)) default=enc l[i]:=by simp[List.getD,h]
def QD(ps:List Int)(o:Option (List Int)):Int×Int:=match o with|none=>(0,2)|some l=>VN (ps++l)
theorem a6y(p:List Mono)(vs:List Coef)(fs:List (List Int))(hf:fs.length<=60)(hl : ∀ l∈fs,Zn l=true): ∀ (d i:Nat) (ps:List Int),d+i=fs.length->ps.length=i->1<=i ->
  At ZT 0 (Za ZH (Zg (QD ps (YC (fs.drop i))))) ZJ 2 91 [(15,.row 0 i 0 i),(69,.row 1 fs.length 0 fs.length),(70,.pv (.int .i64 fs.length)),(71,.pv (.int .i64 i))] [.obj (.row false 3 1 (ps.map enc)),.obj (.row false 34 1 (fs.map enc))]:=by
 intro d
 induction d with
 | zero=>
  intro i ps hi hps h1
  rw[List.drop_of_length_le (by omega)]
  have hr:QD ps (YC [])=VN ps:=by show VN (ps++[])=_;rw[List.append_nil]
  rw[hr]
  have et:List.drop 0 (List.take i (List.map (enc:Int->PV) ps))=ps.map enc:=by rw[List.drop_zero,List.take_of_length_le (by simp[hps])]
  apply Ro (G:=Zg (VN ps)) p vs i fs.length fs i ps
  refine ZK (Z4 (by omega)) ⟨by simp[hps],?_⟩
  rw[et]
  exact⟨Zj (ps,()) rfl (by simp;omega),Zh (ps,()) rfl (ZQ (x:=VN ps) rfl)⟩
 | succ d ih=>
  intro i ps hi hps h1
  have hlt:i<fs.length:=by omega
  have e:=QZ hlt
  rw[List.drop_eq_getElem_cons hlt,YC]
  apply Ro (G:=Zg (QD ps (if (Xf fs[i]).2≠0 then none else(YC (fs.drop (i+1))).map ((Xf fs[i]).1:: ·)))) p vs i fs.length fs i ps
  apply ZC (ZW hlt)
  rw[e]
  refine⟨by simp;omega,by simp;omega,rfl,Zj (fs[i],()) rfl (hl _ (List.getElem_mem hlt)),Zh (fs[i],()) rfl ?_⟩
  show if ((Xf fs[i]).2 != 0)=true then _ else _
  by_cases h:(Xf fs[i]).2=0
  ·rw[if_neg (by simp[h])]
   have hr:QD ps (if (Xf fs[i]).2≠0 then none else(YC (fs.drop (i+1))).map ((Xf fs[i]).1:: ·))=QD (ps++[(Xf fs[i]).1]) (YC (fs.drop (i+1))):=by
    rw[if_neg (by simp[h])]
    cases YC (fs.drop (i+1))with
    | none=>rfl
    | some l=>show VN (ps++_::l)=VN (ps++[_]++l);rw[List.append_assoc];rfl
   rw[hr]
   refine⟨?_,?_⟩
   ·rw[List.length_map,hps]
    show((i==i)&&(i==i)&&decide ((i+1)*8<=1099511627776)&&decide (i+1<=1099511627776))=true
    rw[decide_eq_true (by omega),decide_eq_true (by omega)];simp
   ·rw[next (by omega)]
    have:=ih (i+1) (ps++[(Xf fs[i]).1]) (by omega) (by simp[hps]) (by omega)
    rw[List.map_append]at this
    exact this
  ·rw[if_pos (by simp[h])]
   have hr:QD ps (if (Xf fs[i]).2≠0 then none else(YC (fs.drop (i+1))).map ((Xf fs[i]).1:: ·))=((0:Int),(2:Int)):=by rw[if_pos h];rfl
   rw[hr]
   exact ZQ (x:=((0:Int),(2:Int))) rfl
theorem d0v(p:List Mono)(vs:List Coef)(fs:List (List Int))(hne:0<fs.length)(hf:fs.length<=60)(hl : ∀ l∈fs,Zn l=true):
  At ZT 0 (Za ZH (Zg (QD [] (YC fs)))) ZJ 2 91 [(15,.pv (.sl 0 true [])),(69,.row 0 fs.length 0 fs.length),(70,.pv (.int .i64 fs.length)),(71,.pv (.int .i64 0))] [.obj (.row false 34 1 (fs.map enc))]:=by
 have e:=QZ hne
 have hr:YC fs=if (Xf fs[0]).2≠0 then none else(YC (fs.drop 1)).map ((Xf fs[0]).1:: ·):=by
  cases fs with
  | nil=>simp at hne
  | cons l r=>rfl
 rw[hr]
 apply a6u (G:=Zg (QD [] (if (Xf fs[0]).2≠0 then none else(YC (fs.drop 1)).map ((Xf fs[0]).1:: ·)))) p vs ((0:Nat):Int) fs.length fs
 apply ZC (ZW hne)
 rw[e]
 refine⟨by simp;omega,by simp;omega,rfl,Zj (fs[0],()) rfl (hl _ (List.getElem_mem hne)),Zh (fs[0],()) rfl ?_⟩
 show if ((Xf fs[0]).2 != 0)=true then _ else _
 by_cases h:(Xf fs[0]).2=0
 ·rw[if_neg (by simp[h]),if_neg (by simp[h])]
  have hr:QD [] ((YC (fs.drop 1)).map ((Xf fs[0]).1:: ·))=QD [(Xf fs[0]).1] (YC (fs.drop 1)):=by
   cases YC (fs.drop 1)with
   | none=>rfl
   | some l=>rfl
  rw[hr,next (by omega)]
  exact a6y p vs fs hf hl (fs.length - 1) 1 [(Xf fs[0]).1] (by omega) rfl (by omega)
 ·rw[if_pos (by simp[h]),if_pos h]
  exact ZQ (x:=((0:Int),(2:Int))) rfl
theorem d1h(p:List Mono)(vs:List Coef):At ZT 0 (Za ZH (Zg (QD [] (YC [])))) ZJ 2 91 [(15,.pv (.sl 0 true [])),(69,.pv (.sl 0 true [])),(70,.pv (.int .i64 0)),(71,.pv (.int .i64 0))] []:=by
 have hr:QD [] (YC [])=VN []:=rfl
 rw[hr]
 apply a4v (G:=Zg (VN [])) p vs
 exact Dy ([],()) rfl (ZQ (x:=VN []) rfl)
def PK(vs:List Coef)(fs:List (List Int))(bd:Bool)(r:List Mono):Int×Int:=match Eh vs r with
 | none=>(0,7)
 | some gs=>if bd||Bq gs then(0,2)else QD [] (YC (fs++gs))
def evH(vs:List Coef)(fs:List (List Int))(bd:Bool)(l:List Int)(ns:List Str)(r:List Mono):Int×Int:=match La vs ns with
 | none=>(0,7)
 | some xs=>PK vs (fs++[l++xs]) (bd||xs.any fun x=> !Qc x) r
theorem MW(vs:List Coef)(fs:List (List Int))(bd:Bool)(m:Mono)(r:List Mono):PK vs fs bd (m::r)=evH vs fs bd [m.c] m.v r:=by
 unfold PK evH Eh
 cases La vs m.v with
 | none=>rfl
 | some xs=>
  show(match (Eh vs r).map ((m.c::xs):: ·)with|none=>_|some gs=>_)=PK vs (fs++[[m.c]++xs]) _ r
  unfold PK
  cases Eh vs r with
  | none=>rfl
  | some gs=>
   show(if bd||Bq ((m.c::xs)::gs)then _ else QD [] (YC (fs++(m.c::xs)::gs)))=(if (bd||xs.any fun x=> !Qc x)||Bq gs then _ else QD [] (YC (fs++[[m.c]++xs]++gs)))
   have e1:Bq ((m.c::xs)::gs)=((xs.any fun x=> !Qc x)||Bq gs):=rfl
   rw[e1,List.append_assoc,Bool.or_assoc]
   rfl
theorem GU(vs:List Coef)(s:Str)(r:List Str):La vs (s::r)=match Qm vs s with|none=>none|some x=>(La vs r).map (x:: ·):=rfl
theorem L6(vs:List Coef)(fs:List (List Int))(bd:Bool)(l:List Int)(s:Str)(ns:List Str)(r:List Mono)(x:Int)(h:Qm vs s=some x):evH vs fs bd l (s::ns) r=evH vs fs (bd || !Qc x) (l++[x]) ns r:=by
 unfold evH
 rw[GU,h]
 show(match (La vs ns).map (x:: ·)with|none=>_|some xs=>_)=_
 cases La vs ns with
 | none=>rfl
 | some xs=>
  show PK vs (fs++[l++x::xs]) (bd||(x::xs).any fun x=> !Qc x) r=PK vs (fs++[l++[x]++xs]) ((bd || !Qc x)||xs.any fun x=> !Qc x) r
  rw[List.append_assoc,List.any_cons,Bool.or_assoc]
  rfl
theorem CB(x:Int):(!Qc x)=(decide (x < -4611686018427387904)||decide (x>4611686018427387904)):=by
 unfold Qc
 by_cases h1:x < -4611686018427387904
 ·rw[decide_eq_true h1,decide_eq_false (show ¬ -4611686018427387904<=x by omega)];rfl
 ·rw[decide_eq_false h1,decide_eq_true (show -4611686018427387904<=x by omega)]
  by_cases h2:x>4611686018427387904
  ·rw[decide_eq_true h2,decide_eq_false (show ¬ x<=4611686018427387904 by omega)];rfl
  ·rw[decide_eq_false h2,decide_eq_true (show x<=4611686018427387904 by omega)];rfl
theorem d0t(p:List Mono)(vs:List Coef)(hv:vs.length<=9223372036854775807)(i:Nat)(hi:i<60)(hip:i<p.length)(ns:List Str)(hn:ns.length<=8)(R:Int×Int)
  (hnext : ∀ (l:List Int) (bd:Bool),l.length<=100->R=PK vs ([]++[l]) bd (p.drop (i+1))->At ZT 0 (Za ZH (Zg R)) ZJ 0 91 [(6,.row 0 1 0 1),(1,.pv (enc vs)),(7,.pv (.bool bd)),(23,.pv (enc p)),(24,.pv (.int .i64 p.length)),(25,.pv (.int .i64 ((i+1:Nat):Int)))] [.obj (.row false 34 1 (([]++[l]).map enc))]) :
  ∀ (d j:Nat) (l:List Int) (bd:Bool),d+j=ns.length->l.length=j+1->R=evH vs [] bd l (ns.drop j) (p.drop (i+1)) ->
  At ZT 0 (Za ZH (Zg R)) ZJ 1 91 [(6,.pv (.sl 0 true [])),(1,.pv (enc vs)),(7,.pv (.bool bd)),(23,.pv (enc p)),(24,.pv (.int .i64 p.length)),(25,.pv (.int .i64 i)),(33,.pv (enc ns)),(34,.pv (.int .i64 ns.length)),(35,.pv (.int .i64 j)),(10,.row 0 (j+1) 0 (j+1))] [.obj (.row false 3 1 (l.map enc))]:=by
 intro d
 induction d with
 | zero=>
  intro j l bd hd hl hR
  rw[List.drop_of_length_le (by omega)]at hR
  have hR2:R=PK vs ([]++[l]) bd (p.drop (i+1)):=by
   rw[hR]
   show PK vs ([]++[l++[]]) (bd||false) _=_
   rw[List.append_nil,Bool.or_false]
  have hn0:=hnext l bd (by omega) hR2
  have et:(PV.sl 1 false (List.drop 0 (List.take (j+1) (List.map (enc:Int->PV) l))))=enc l:=by rw[List.drop_zero,List.take_of_length_le (by simp[hl])];rfl
  apply Tw (G:=Zg R) p vs bd i j ns (j+1) l
  apply ZK (Z4 (by omega))
  refine⟨by simp[hl],?_⟩
  rw[et,next (by omega)]
  exact hn0
 | succ d ih=>
  intro j l bd hd hl hR
  have hlt:j<ns.length:=by omega
  rw[List.drop_eq_getElem_cons hlt]at hR
  have ecd:Kt (enc vs)=vs:=Enc.dec_enc vs
  apply Tw (G:=Zg R) p vs bd i j ns (j+1) l
  apply ZC (ZW hlt)
  refine⟨Zt hlt rfl,Zx hlt ?_⟩
  have e0:PV.asStr (List.getD (PV.cells (enc ns[j])) 0 default)=ns[j].s:=rfl
  rw[e0,ecd]
  refine⟨by show Ue _ [.pv (enc vs),_] _=true;simp[Ue,hv],?_⟩
  rcases P8 vs ns[j]with ⟨h1,h2⟩|⟨k,hk,h1,h2⟩
  ·have:R=(0,7):=by rw[hR];unfold evH;rw[GU,h2]
   rw[this]
   exact ZC (by simpa using h1) (ZQ (x:=((0:Int),(7:Int))) rfl)
  ·rw[h1]
   rw[L6 vs _ _ _ _ _ _ _ h2]at hR
   have hq : ∀ bd',(bd || !Qc vs[k].c)=bd'->At ZT 0 (Za ZH (Zg R)) ZJ 1 91 [(6,.pv (.sl 0 true [])),(1,.pv (enc vs)),(7,.pv (.bool bd')),(23,.pv (enc p)),(24,.pv (.int .i64 p.length)),(25,.pv (.int .i64 i)),(33,.pv (enc ns)),(34,.pv (.int .i64 ns.length)),(35,.pv (.int .i64 ((j+1:Nat):Int))),(10,.row 0 (j+1+1) 0 (j+1+1))] [.obj (.row false 3 1 ((l++[vs[k].c]).map enc))]:=fun bd' hb=>ih (j+1) (l++[vs[k].c]) bd' (by omega) (by simp[hl]) (by rw[<- hb];exact hR)
   have hap:(List.length (List.map (enc:Int->PV) l)==j+1&&(j+1==j+1)&&decide (((j+1)+List.length (List.drop 0 (List.take 1 [PV.int .i64 vs[k].c])))*8<=1099511627776)&&decide ((j+1)+List.length (List.drop 0 (List.take 1 [PV.int .i64 vs[k].c]))<=1099511627776))=true:=by
    rw[List.length_map,hl]
    show((j+1==j+1)&&(j+1==j+1)&&decide (((j+1)+1)*8<=1099511627776)&&decide ((j+1)+1<=1099511627776))=true
    rw[decide_eq_true (by omega),decide_eq_true (by omega)];simp
   refine ZK (by simp) ⟨Zt hk rfl,Zx hk ?_⟩
   rw[next (by omega)]
   rw[List.map_append]at hq
   refine X3 (fun hb=>⟨hap,hq true (by rw[hb];rfl)⟩) fun hb=>WJ (fun h3=>⟨hap,hq true ?_⟩) fun h3=>⟨hap,hq _ ?_⟩
   ·have h3:vs[k].c < -4611686018427387904:=h3
    rw[CB,decide_eq_true h3,hb];rfl
   ·have h3 : ¬ vs[k].c < -4611686018427387904:=h3
    rw[CB,decide_eq_false h3,hb];rfl
theorem d0r(p:List Mono)(vs:List Coef)(hv:vs.length<=9223372036854775807)(fs:List (List Int))(hfl:fs.length<=60)(i:Nat)(hi:i<60)(hip:i<p.length)(ns:List Str)(hn:ns.length<=8)(R:Int×Int)
  (hnext : ∀ (l:List Int) (bd:Bool),l.length<=100->R=PK vs (fs++[l]) bd (p.drop (i+1))->At ZT 0 (Za ZH (Zg R)) ZJ 0 91 [(6,.row 0 (fs.length+1) 0 (fs.length+1)),(1,.pv (enc vs)),(7,.pv (.bool bd)),(23,.pv (enc p)),(24,.pv (.int .i64 p.length)),(25,.pv (.int .i64 ((i+1:Nat):Int)))] [.obj (.row false 34 1 ((fs++[l]).map enc))]) :
  ∀ (d j:Nat) (l:List Int) (bd:Bool),d+j=ns.length->l.length=j+1->R=evH vs fs bd l (ns.drop j) (p.drop (i+1)) ->
  At ZT 0 (Za ZH (Zg R)) ZJ 1 91 [(6,.row 0 fs.length 0 fs.length),(1,.pv (enc vs)),(7,.pv (.bool bd)),(23,.pv (enc p)),(24,.pv (.int .i64 p.length)),(25,.pv (.int .i64 i)),(33,.pv (enc ns)),(34,.pv (.int .i64 ns.length)),(35,.pv (.int .i64 j)),(10,.row 1 (j+1) 0 (j+1))] [.obj (.row false 34 1 (fs.map enc)),.obj (.row false 3 1 (l.map enc))]:=by
 intro d
 induction d with
 | zero=>
  intro j l bd hd hl hR
  rw[List.drop_of_length_le (by omega)]at hR
  have hR2:R=PK vs (fs++[l]) bd (p.drop (i+1)):=by
   rw[hR]
   show PK vs (fs++[l++[]]) (bd||false) _=_
   rw[List.append_nil,Bool.or_false]
  have hn0:=hnext l bd (by omega) hR2
  have et:(PV.sl 1 false (List.drop 0 (List.take (j+1) (List.map (enc:Int->PV) l))))=enc l:=by rw[List.drop_zero,List.take_of_length_le (by simp[hl])];rfl
  apply RN (G:=Zg R) p vs bd i j ns (j+1) l fs.length fs
  apply ZK (Z4 (by omega))
  refine⟨by simp[hl],?_,?_⟩
  ·rw[et,List.length_map]
   show((fs.length==fs.length)&&(fs.length==fs.length)&&decide ((fs.length+1)*24<=1099511627776)&&decide (fs.length+1<=1099511627776))=true
   rw[decide_eq_true (by omega),decide_eq_true (by omega)];simp
  ·rw[et,next (by omega)]
   rw[List.map_append]at hn0
   exact hn0
 | succ d ih=>
  intro j l bd hd hl hR
  have hlt:j<ns.length:=by omega
  rw[List.drop_eq_getElem_cons hlt]at hR
  have ecd:Kt (enc vs)=vs:=Enc.dec_enc vs
  apply RN (G:=Zg R) p vs bd i j ns (j+1) l fs.length fs
  apply ZC (ZW hlt)
  refine⟨Zt hlt rfl,Zx hlt ?_⟩
  have e0:PV.asStr (List.getD (PV.cells (enc ns[j])) 0 default)=ns[j].s:=rfl
  rw[e0,ecd]
  refine⟨by show Ue _ [.pv (enc vs),_] _=true;simp[Ue,hv],?_⟩
  rcases P8 vs ns[j]with ⟨h1,h2⟩|⟨k,hk,h1,h2⟩
  ·have:R=(0,7):=by rw[hR];unfold evH;rw[GU,h2]
   rw[this]
   exact ZC (by simpa using h1) (ZQ (x:=((0:Int),(7:Int))) rfl)
  ·rw[h1]
   rw[L6 vs _ _ _ _ _ _ _ h2]at hR
   have hq : ∀ bd',(bd || !Qc vs[k].c)=bd'->At ZT 0 (Za ZH (Zg R)) ZJ 1 91 [(6,.row 0 fs.length 0 fs.length),(1,.pv (enc vs)),(7,.pv (.bool bd')),(23,.pv (enc p)),(24,.pv (.int .i64 p.length)),(25,.pv (.int .i64 i)),(33,.pv (enc ns)),(34,.pv (.int .i64 ns.length)),(35,.pv (.int .i64 ((j+1:Nat):Int))),(10,.row 1 (j+1+1) 0 (j+1+1))] [.obj (.row false 34 1 (fs.map enc)),.obj (.row false 3 1 ((l++[vs[k].c]).map enc))]:=fun bd' hb=>ih (j+1) (l++[vs[k].c]) bd' (by omega) (by simp[hl]) (by rw[<- hb];exact hR)
   have hap:(List.length (List.map (enc:Int->PV) l)==j+1&&(j+1==j+1)&&decide (((j+1)+List.length (List.drop 0 (List.take 1 [PV.int .i64 vs[k].c])))*8<=1099511627776)&&decide ((j+1)+List.length (List.drop 0 (List.take 1 [PV.int .i64 vs[k].c]))<=1099511627776))=true:=by
    rw[List.length_map,hl]
    show((j+1==j+1)&&(j+1==j+1)&&decide (((j+1)+1)*8<=1099511627776)&&decide ((j+1)+1<=1099511627776))=true
    rw[decide_eq_true (by omega),decide_eq_true (by omega)];simp
   refine ZK (by simp) ⟨Zt hk rfl,Zx hk ?_⟩
   rw[next (by omega)]
   rw[List.map_append]at hq
   refine X3 (fun hb=>⟨hap,hq true (by rw[hb];rfl)⟩) fun hb=>WJ (fun h3=>⟨hap,hq true ?_⟩) fun h3=>⟨hap,hq _ ?_⟩
   ·have h3:vs[k].c < -4611686018427387904:=h3
    rw[CB,decide_eq_true h3,hb];rfl
   ·have h3 : ¬ vs[k].c < -4611686018427387904:=h3
    rw[CB,decide_eq_false h3,hb];rfl
theorem b6y(vs:List Coef)(fs:List (List Int))(bd:Bool):PK vs fs bd []=if bd then(0,2)else QD [] (YC fs):=by
 show(if bd||Bq []then _ else QD [] (YC (fs++[])))=_
 have:Bq []=false:=rfl
 rw[this,Bool.or_false,List.append_nil]
theorem ES(p:List Mono)(vs:List Coef)(hp:ZI p=true)(hv:vs.length<=9223372036854775807): ∀ (d i:Nat) (fs:List (List Int)) (bd:Bool),d+i=p.length->fs.length=i->1<=i->(∀ l∈fs,l.length<=100) ->
  At ZT 0 (Za ZH (Zg (PK vs fs bd (p.drop i)))) ZJ 0 91 [(6,.row 0 fs.length 0 fs.length),(1,.pv (enc vs)),(7,.pv (.bool bd)),(23,.pv (enc p)),(24,.pv (.int .i64 p.length)),(25,.pv (.int .i64 i))] [.obj (.row false 34 1 (fs.map enc))]:=by
 obtain⟨hpl,hpm⟩:=Gm hp
 intro d
 induction d with
 | zero=>
  intro i fs bd hi hfi h1 hls
  rw[List.drop_of_length_le (by omega),b6y]
  apply TN (G:=Zg (if bd then((0:Int),(2:Int))else QD [] (YC fs))) p vs bd i fs.length fs
  apply ZK (Z4 (by omega))
  refine X3 (fun hb=> ?_) fun hb=> ?_
  ·rw[hb,if_pos rfl]
   exact ZQ (x:=((0:Int),(2:Int))) rfl
  ·rw[hb,if_neg (by simp),Nat.sub_zero]
   exact d0v p vs fs (by omega) (by omega) fun l hl=>Zy.2 (by have:=hls l hl;omega)
 | succ d ih=>
  intro i fs bd hi hfi h1 hls
  have hlt:i<p.length:=by omega
  have hm:=hpm _ (List.getElem_mem hlt)
  rw[List.drop_eq_getElem_cons hlt,MW]
  apply TN (G:=Zg (evH vs fs bd [p[i].c] p[i].v (p.drop (i+1)))) p vs bd i fs.length fs
  apply ZC (ZW hlt)
  refine⟨Zt hlt rfl,Zx hlt ?_⟩
  have:=d0r p vs hv fs (by omega) i (by omega) hlt p[i].v hm (evH vs fs bd [p[i].c] p[i].v (p.drop (i+1))) (fun l bd' hl hR=>by
   rw[hR]
   have:=ih (i+1) (fs++[l]) bd' (by omega) (by simp[hfi]) (by omega) (fun x hx=>by
    rcases List.mem_append.1 hx with hx|hx
    ·exact hls x hx
    ·rw[List.mem_singleton.1 hx];exact hl)
   rw[List.length_append]at this
   exact this) p[i].v.length 0 [p[i].c] bd (by omega) rfl rfl
  have eL:(((PV.asXs (List.getD (PV.cells (enc p[i])) (0+1) default)).length:Nat):Int)=(p[i].v.length:Int):=by
   show(((p[i].v.map (enc:Str->PV)).length:Nat):Int)=_
   rw[List.length_map]
  rw[eL]
  exact this
theorem b0c{p:List Mono}{vs:List Coef}(h:ZI p=true):PK vs [] false p=Y0 p vs:=by
 unfold PK Y0
 rw[h,if_pos rfl]
 cases Eh vs p with
 | none=>rfl
 | some fs=>
  show(if false||Bq fs then _ else QD [] (YC ([]++fs)))=_
  rw[Bool.false_or,List.nil_append]
  show _=if Bq fs then _ else _
  by_cases hb:Bq fs=true
  ·rw[if_pos hb,if_pos hb]
  ·rw[if_neg hb,if_neg hb]
   cases YC fs with
   | none=>rfl
   | some l=>rfl
theorem a6p: ∀ x:List Mono×List Coef×Unit,(Yb x.1&&Zn x.2.1)=true->Zc ZT 0 (Za ZH (Zg (Y0 x.1 x.2.1))) ZJ [] (Ye b0v (encL x)):=by
 rintro⟨p,vs,⟨⟩⟩ h
 simp only[Bool.and_eq_true]at h
 obtain⟨hs,hv⟩:=h
 have hv:=Zy.1 hv
 refine c1e p vs ⟨Zj (p,()) rfl hs,Zh (p,()) rfl ?_⟩
 show if (!(ZI p))=true then _ else _
 cases hp:ZI p
 ·rw[if_pos (by rfl)]
  have:Y0 p vs=(0,1):=by unfold Y0;rw[hp,if_neg (by simp)]
  show Zg (Y0 p vs) _
  rw[this]
  exact ZQ (x:=((0:Int),(1:Int))) rfl
 ·rw[if_neg (by simp)]
  obtain⟨hpl,hpm⟩:=Gm hp
  show At ZT 0 (Za ZH (Zg (Y0 p vs))) _ _ _ _ _
  rw[<- b0c hp,List.length_map]
  cases hpc:p with
  | nil=>
   have e:PK vs [] false []=QD [] (YC []):=by rw[b6y];rfl
   rw[e]
   apply TR (G:=Zg (QD [] (YC []))) [] vs false ((0:Nat):Int)
   apply ZK (Z4 (by simp))
   exact ZK (by simp) (d1h [] vs)
  | cons m r=>
   have hlt:0<p.length:=by rw[hpc];simp
   have e0:p[0]=m:=by simp[hpc]
   rw[<- hpc]
   have hm:=hpm _ (List.getElem_mem hlt)
   have ed:p=p[0]::p.drop 1:=(List.drop_eq_getElem_cons hlt).symm▸rfl
   have eg:PK vs [] false p=evH vs [] false [p[0].c] p[0].v (p.drop 1):=by
    rw[<- MW]
    have:=List.drop_eq_getElem_cons hlt
    rw[List.drop_zero]at this
    rw[<- this]
   rw[eg]
   apply TR (G:=Zg (evH vs [] false [p[0].c] p[0].v (p.drop 1))) p vs false ((0:Nat):Int)
   apply ZC (ZW hlt)
   refine⟨Zt hlt rfl,Zx hlt ?_⟩
   have:=d0t p vs hv 0 (by omega) hlt p[0].v hm (evH vs [] false [p[0].c] p[0].v (p.drop 1)) (fun l bd' hl hR=>by
    rw[hR]
    exact ES p vs hp hv (p.length - 1) 1 ([]++[l]) bd' (by omega) (by simp) (by omega) (fun x hx=>by
     rw[List.nil_append]at hx
     rw[List.mem_singleton.1 hx];exact hl)) p[0].v.length 0 [p[0].c] false (by omega) rfl rfl
   have eL:(((PV.asXs (List.getD (PV.cells (enc p[0])) (0+1) default)).length:Nat):Int)=(p[0].v.length:Int):=by
    show(((p[0].v.map (enc:Str->PV)).length:Nat):Int)=_
    rw[List.length_map]
   rw[eL]
   exact this
end Go.Pl

namespace Go.Pl
open Go.RowKit
open Enc (enc dec is)
open EncL (encL decL isL)
set_option maxRecDepth 100000
def YR:IC:=(.seq (.reg [⟨(some 3),(.box 2 (.t 0)),0,none⟩,⟨(some 5),(.box 1 (.t 2)),1,none⟩,⟨(some 6),(.alloc (.int .i64 0)),2,none⟩,⟨(some 7),(.alloc (.int .i64 0)),3,none⟩] none) (.seq (.seq (.reg [⟨(some 19),(.load true [(.sl 1),(.int .i64)] (.t 3)),0,none⟩,⟨(some 20),(.mv (.t 1)),0,none⟩,⟨(some 21),(.load false [(.sl 2)] (.t 5)),0,none⟩,⟨(some 22),(.call (.c (.fn 122)) [(.t 21)]),0,none⟩,⟨(some 23),(.load false [(.sl 2)] (.t 5)),2,none⟩,⟨(some 24),(.call (.c (.fn 123)) [(.t 23)]),2,none⟩,⟨(some 25),(.call (.c (.fn 116)) [(.t 19),(.t 20),(.t 22),(.t 24)]),4,none⟩,⟨(some 8),(.mv (.t 25)),6,none⟩] (some [[],[],[],[2],[],[4,3,2],[0,1,3,5,2,4],[6,0,1,2,3,4,5]])) (.seq (.reg [⟨(some 26),(.mv (.t 8)),0,none⟩,⟨(some 27),(.bin .num .neq (.t 26) (.c (.int .i64 0))),0,none⟩] none) (.cond (.t 27) (.seq (.reg [⟨(some 28),(.mv (.t 8)),0,none⟩,⟨none,(.store 1 (.t 6) (.c (.int .i64 0))),0,none⟩,⟨none,(.store 1 (.t 7) (.t 28)),0,none⟩] none) .ret) .skip))) (.seq (.reg [⟨(some 9),(.alloc (.sl 0 true [])),0,none⟩,⟨(some 10),(.alloc (.sl 0 true [])),1,none⟩] none) (.seq (.reg [⟨(some 29),(.mkfn 124 [] [(.t 9),(.t 10)]),0,none⟩,⟨(some 11),(.alloc .nilfn),0,none⟩,⟨none,(.store 1 (.t 11) (.t 29)),1,none⟩] none) (.seq (.seq (.reg [⟨(some 30),(.load true [(.sl 1),(.int .i64)] (.t 3)),0,none⟩,⟨(some 31),(.mv (.t 1)),0,none⟩,⟨(some 32),(.call (.c (.fn 117)) [(.t 30),(.t 31)]),0,none⟩] none) (.block 0 (.ext 0 [32,34,5,13,36,37,38,35,39,40,15,41,42,6,7,11,14,43,44,9,10]))) (.seq (.reg [⟨(some 16),(.mv (.c (.int .i64 0))),0,none⟩,⟨(some 17),(.mv (.c (.int .i64 0))),0,none⟩] none) (.seq (.seq (.reg [⟨(some 46),(.load false [(.sl 1)] (.t 9)),0,none⟩,⟨(some 47),(.len 1 (.t 46)),0,none⟩,⟨(some 48),(.mv (.c (.int .i64 0))),0,none⟩] none) (.block 2 (.loop [48,47,16,9,17,10,6,7] (.seq (.reg [⟨(some 49),(.bin .num .lss (.t 48) (.t 47)),0,none⟩] none) (.seq (.cond (.t 49) .skip (.exit 2)) (.seq (.block 3 (.seq (.reg [⟨(some 50),(.mv (.t 48)),0,none⟩,⟨(some 18),(.mv (.t 50)),0,none⟩] none) (.reg [⟨(some 51),(.mv (.t 16)),0,none⟩,⟨(some 52),(.load false [(.sl 1)] (.t 9)),0,none⟩,⟨(some 53),(.mv (.t 18)),0,none⟩,⟨(some 54),(.iaddr 1 (.t 52) (.t 53)),0,none⟩,⟨(some 55),(.load false [(.int .i64)] (.t 54)),0,none⟩,⟨(some 56),(.bin .num .add (.t 51) (.t 55)),0,none⟩,⟨(some 57),(.mv (.t 17)),0,none⟩,⟨(some 58),(.load false [(.sl 1)] (.t 10)),0,none⟩,⟨(some 59),(.mv (.t 18)),0,none⟩,⟨(some 60),(.iaddr 1 (.t 58) (.t 59)),0,none⟩,⟨(some 61),(.load false [(.int .i64)] (.t 60)),0,none⟩,⟨(some 62),(.bin .num .add (.t 57) (.t 61)),0,none⟩,⟨(some 16),(.mv (.t 56)),0,none⟩,⟨(some 17),(.mv (.t 62)),0,none⟩] (some [[],[],[],[1,2],[3,1,2],[0,4,3,1,2],[],[],[],[7,8],[9,7,8],[6,10,9,7,8],[5,0,1,2,3,4],[11,12,0,1,2,3,4,5,6,7,8,9,10]])))) (.reg [⟨(some 63),(.bin .num .add (.t 48) (.c (.int .i64 1))),0,none⟩,⟨(some 48),(.mv (.t 63)),0,none⟩] none))))))) (.seq (.reg [⟨(some 64),(.mv (.t 16)),0,none⟩,⟨(some 65),(.mv (.t 17)),0,none⟩,⟨(some 66),(.bin .num .shr (.t 65) (.c (.int .u64 31))),0,none⟩,⟨(some 67),(.bin .num .add (.t 64) (.t 66)),0,none⟩,⟨(some 68),(.mv (.t 17)),0,none⟩,⟨(some 69),(.bin .num .and (.t 68) (.c (.int .i64 2147483647))),0,none⟩,⟨(some 16),(.mv (.t 67)),0,none⟩,⟨(some 17),(.mv (.t 69)),0,none⟩] none) (.seq (.reg [⟨(some 70),(.mv (.t 16)),0,none⟩,⟨(some 71),(.mv (.t 17)),0,none⟩,⟨(some 72),(.bslice 3 1 2 (.int .i64 0) [(0,(.t 70)),(1,(.t 71))]),0,none⟩,⟨(some 73),(.bslice 3 1 2 (.int .i64 0) [(0,(.c (.int .i64 2147483648))),(1,(.c (.int .i64 1)))]),1,none⟩,⟨(some 74),(.call (.c (.fn 126)) [(.t 72),(.t 73)]),2,none⟩,⟨(some 75),(.extract (.t 74) 0),4,none⟩,⟨(some 76),(.extract (.t 74) 1),4,none⟩,⟨none,(.store 1 (.t 6) (.t 75)),4,none⟩,⟨none,(.store 1 (.t 7) (.t 76)),4,none⟩] none) .ret)))))))))
def Y5:List IRes:=[(.cell false 1 6),(.cell false 1 7)]
abbrev b3c:Nat:=77
def YP:ZF:=Xe [(122,.pure (preT (fun x:List Mono×Unit=>Yb x.1)) (Zf (fun x:List Mono×Unit=>ZI x.1))),(123,.own Ja CW),(116,.pure (preT (fun x:BoxT×List Fact×Bool×NilS×Unit=>ZG x.1&&Zk x.2.1&&decide (x.2.1.length<=100))) (Zf (fun x:BoxT×List Fact×Bool×NilS×Unit=>Zp x.1 x.2.1 x.2.2.1 []))),(117,.own Xc WP),(125,.pure (preT (fun x:List Mono×List Coef×Unit=>Yb x.1&&Zn x.2.1)) (Zf (fun x:List Mono×List Coef×Unit=>Y0 x.1 x.2.1))),(124,.own Uy Qn),(126,.pure (preT (fun x:List Int×List Int×Unit=>decide (x.1.length<=10000)&&decide (x.2.1.length<=10000))) (Zf (fun x:List Int×List Int×Unit=>Dp x.1 x.2.1)))]
theorem b9x{G:PV->Prop}(E:YB)(b:BoxT)(fs:List Fact)(p:List Mono)(h:(Go.Pl.preT (fun(x:List Mono×Unit)=>Yb x.1) [(.sl 2 false (List.map enc p))])=true∧(∃ y0:Bool,AV.pv (Zf (fun(x:List Mono×Unit)=>ZI x.1) [(.sl 2 false (List.map enc p))])=AV.pv (enc y0)∧((Ja [(.pv (.sl 2 false (List.map enc p)))] [])=true∧((Go.Pl.preT (fun(x:BoxT×List Fact×Bool×NilS×Unit)=>ZG x.1&&Zk x.2.1&&decide (List.length x.2.1<=100)) [(.agg [(.sl 1 false (List.map enc b.v)),(.int .i64 b.m)]),(.sl 3 false (List.map enc fs)),(.bool y0),(.sl 0 true [])])=true∧(∃ y1:Int,AV.pv (Zf (fun(x:BoxT×List Fact×Bool×NilS×Unit)=>Zp x.1 x.2.1 x.2.2.1 []) [(.agg [(.sl 1 false (List.map enc b.v)),(.int .i64 b.m)]),(.sl 3 false (List.map enc fs)),(.bool y0),(.sl 0 true [])])=AV.pv (enc y1)∧(if (y1 != 0)=true then G ((.tup [(.int .i64 0),(.int .i64 y1)]))else((Xc [(.pv (.agg [(.sl 1 false (List.map enc b.v)),(.int .i64 b.m)])),(.pv (.sl 3 false (List.map enc fs)))] [])=true∧(E 0 ⟨ZU 77 0 [(5,(.ptr 0 0)),(6,(.ptr 1 0)),(7,(.ptr 2 0)),(9,(.ptr 3 0)),(10,(.ptr 4 0)),(11,(.ptr 5 0)),(13,.undef),(14,.undef),(15,.undef),(32,(.fn 177 [] [(.ptr 6 0),(.ptr 7 0)])),(34,.undef),(35,.undef),(36,.undef),(37,.undef),(38,.undef),(39,.undef),(40,.undef),(41,.undef),(42,.undef),(43,.undef),(44,.undef)],[(.obj (.box [(.pv (.sl 2 false (List.map enc p)))])),(.obj (.box [(.pv (.int .i64 0))])),(.obj (.box [(.pv (.int .i64 0))])),(.obj (.box [(.pv (.sl 0 true []))])),(.obj (.box [(.pv (.sl 0 true []))])),(.obj (.box [(.fn 124 [] [(.ptr 3 0),(.ptr 4 0)])])),(.obj (.box [(.pv (.sl 1 false (List.map enc b.v))),(.pv (.int .i64 b.m))])),(.obj (.box [(.pv (.sl 3 false (List.map enc fs)))]))]⟩ (fun x S'=>Jw YP E 0 (Za Y5 G) YR 0 x S'))))))))):ZB YP E 0 (Za Y5 G) (.inl YR) [] (Ye 77 [enc b,enc fs,enc p]):=ZB.mp (.req (.abs (Bool) (fun YY=>AV.pv (enc YY)) (.req (.keep (.req (.abs (Int) (fun YY=>AV.pv (enc YY)) (.lit (.ask (.nil) (.req (.keep (.nil))))))))))) h (by kernel_rfl)
theorem a6s{G:PV->Prop}(E:YB)(b:BoxT)(fs:List Fact)(p:List Mono)(h : ∃ y0:Int×Int,AV.pv (Zf (fun(x:List Int×List Int×Unit)=>Dp x.1 x.2.1) [(.sl 1 false [(.int .i64 0),(.int .i64 0)]),(.sl 1 false [(.int .i64 2147483648),(.int .i64 1)])])=AV.pv (enc y0)∧(G ((.tup [(.int .i64 y0.1),(.int .i64 y0.2)])))):AtM YP E 0 (Za Y5 G) YR 0 77 [(6,.ptr 0 0),(7,.ptr 1 0),(9,.ptr 2 0),(10,.ptr 3 0),(16,.pv (.int .i64 0)),(17,.pv (.int .i64 0)),(47,.pv (.int .i64 0)),(48,.pv (.int .i64 0))] [.obj (.box [.pv (.int .i64 0)]),.obj (.box [.pv (.int .i64 0)]),.obj (.box [.pv (.sl 0 true [])]),.obj (.box [.pv (.sl 0 true [])])]:=ZB.mp (.lit (.lit (.lit (.lit (.lit (.lit (.lit (.lit (.lit (.lit (.abs (Int×Int) (fun YY=>AV.pv (enc YY)) (.nil)))))))))))) h (by kernel_rfl)
theorem Tx{G:PV->Prop}(E:YB)(b:BoxT)(fs:List Fact)(p:List Mono)(u z i:Int)(n:Nat)(xs ys:List Int)(h:if (decide (i<(↑n:Int)))=true then(decide (0<=i)&&decide (0+Int.toNat i<n)&&List.length (List.map enc xs)==n)=true∧((List.length (List.map enc xs)==n&&decide (0+Int.toNat i<List.length (List.map enc xs)))=true∧((decide (0+List.length [Sh.int .i64]<=List.length (PV.cells (List.getD (List.map enc xs) (0+Int.toNat i) default)))&&Xa (PV.cells (List.getD (List.map enc xs) (0+Int.toNat i) default)) 0 [Sh.int .i64])=true∧((decide (0<=i)&&decide (0+Int.toNat i<n)&&List.length (List.map enc ys)==n)=true∧((List.length (List.map enc ys)==n&&decide (0+Int.toNat i<List.length (List.map enc ys)))=true∧((decide (0+List.length [Sh.int .i64]<=List.length (PV.cells (List.getD (List.map enc ys) (0+Int.toNat i) default)))&&Xa (PV.cells (List.getD (List.map enc ys) (0+Int.toNat i) default)) 0 [Sh.int .i64])=true∧(AtM YP E 0 (Za Y5 G) YR 0 77 [(6,(.ptr 0 0)),(7,(.ptr 1 0)),(9,(.ptr 2 0)),(10,(.ptr 3 0)),(16,(.pv (.int .i64 (IntKind.wrap IntKind.i64 (u+PV.asInt (List.getD (PV.cells (List.getD (List.map enc xs) (0+Int.toNat i) default)) 0 default)))))),(17,(.pv (.int .i64 (IntKind.wrap IntKind.i64 (z+PV.asInt (List.getD (PV.cells (List.getD (List.map enc ys) (0+Int.toNat i) default)) 0 default)))))),(47,(.pv (.int .i64 (↑n:Int)))),(48,(.pv (.int .i64 (IntKind.wrap IntKind.i64 (i+1)))))] [(.obj (.box [(.pv (.int .i64 0))])),(.obj (.box [(.pv (.int .i64 0))])),(.obj (.box [(.row 4 n 0 n)])),(.obj (.box [(.row 5 n 0 n)])),(.obj (.row false 3 1 (List.map enc xs))),(.obj (.row false 3 1 (List.map enc ys)))]))))))else(∃ y0:Int×Int,AV.pv (Zf (fun(x:List Int×List Int×Unit)=>Dp x.1 x.2.1) [(.sl 1 false [(.int .i64 (IntKind.wrap IntKind.i64 (u+Int.fdiv z (2 ^ min (Int.toNat 31) (IntKind.bits IntKind.i64))))),(.int .i64 (IntKind.wrap IntKind.i64 (↑(BitVec.toNat (BitVec.ofInt (IntKind.bits IntKind.i64) z &&& BitVec.ofInt (IntKind.bits IntKind.i64) 2147483647)):Int)))]),(.sl 1 false [(.int .i64 2147483648),(.int .i64 1)])])=AV.pv (enc y0)∧(G ((.tup [(.int .i64 y0.1),(.int .i64 y0.2)]))))):AtM YP E 0 (Za Y5 G) YR 0 77 [(6,.ptr 0 0),(7,.ptr 1 0),(9,.ptr 2 0),(10,.ptr 3 0),(16,.pv (.int .i64 u)),(17,.pv (.int .i64 z)),(47,.pv (.int .i64 n)),(48,.pv (.int .i64 i))] [.obj (.box [.pv (.int .i64 0)]),.obj (.box [.pv (.int .i64 0)]),.obj (.box [.row 4 n 0 n]),.obj (.box [.row 5 n 0 n]),.obj (.row false 3 1 (xs.map enc)),.obj (.row false 3 1 (ys.map enc))]:=ZB.mp (.lit (.ask (.req (.keep (.req (.req (.lit (.req (.keep (.req (.req (.lit (.lit (.nil)))))))))))) (.lit (.lit (.lit (.lit (.lit (.lit (.lit (.lit (.abs (Int×Int) (fun YY=>AV.pv (enc YY)) (.nil)))))))))))) h (by kernel_rfl)
theorem a4y{G:PV->Prop}(E:YB)(b:BoxT)(fs:List Fact)(p:List Mono)(h:AtM YP E 0 (Za Y5 G) YR 0 77 [(6,(.ptr 0 0)),(7,(.ptr 1 0)),(9,(.ptr 2 0)),(10,(.ptr 3 0)),(16,(.pv (.int .i64 0))),(17,(.pv (.int .i64 0))),(47,(.pv (.int .i64 0))),(48,(.pv (.int .i64 0)))] [(.obj (.box [(.pv (.int .i64 0))])),(.obj (.box [(.pv (.int .i64 0))])),(.obj (.box [(.pv (.sl 0 true []))])),(.obj (.box [(.pv (.sl 0 true []))]))]):Jw YP E 0 (Za Y5 G) YR 0 .normal ⟨ZU 77 0 [(5,.ptr 0 0),(6,.ptr 1 0),(7,.ptr 2 0),(9,.ptr 3 0),(10,.ptr 4 0),(11,.ptr 5 0)],[.obj (.box [.pv (enc p)]),.obj (.box [.pv (.int .i64 0)]),.obj (.box [.pv (.int .i64 0)]),.obj (.box [.pv (.sl 0 true [])]),.obj (.box [.pv (.sl 0 true [])]),.obj (.box [.fn 124 [] [.ptr 3 0,.ptr 4 0]])]⟩:=ZB.mp (.nil) h (by kernel_rfl)
theorem a6d{G:PV->Prop}(E:YB)(b:BoxT)(fs:List Fact)(p:List Mono)(n:Nat)(xs ys:List Int)(h:AtM YP E 0 (Za Y5 G) YR 0 77 [(6,(.ptr 0 0)),(7,(.ptr 1 0)),(9,(.ptr 2 0)),(10,(.ptr 3 0)),(16,(.pv (.int .i64 0))),(17,(.pv (.int .i64 0))),(47,(.pv (.int .i64 (↑(n - 0):Int)))),(48,(.pv (.int .i64 0)))] [(.obj (.box [(.pv (.int .i64 0))])),(.obj (.box [(.pv (.int .i64 0))])),(.obj (.box [(.row 4 n 0 n)])),(.obj (.box [(.row 5 n 0 n)])),(.obj (.row false 3 1 (List.map enc xs))),(.obj (.row false 3 1 (List.map enc ys)))]):Jw YP E 0 (Za Y5 G) YR 0 .normal ⟨ZU 77 0 [(5,.ptr 0 0),(6,.ptr 1 0),(7,.ptr 2 0),(9,.ptr 3 0),(10,.ptr 4 0),(11,.ptr 5 0)],[.obj (.box [.pv (enc p)]),.obj (.box [.pv (.int .i64 0)]),.obj (.box [.pv (.int .i64 0)]),.obj (.box [.row 6 n 0 n]),.obj (.box [.row 7 n 0 n]),.obj (.box [.fn 124 [] [.ptr 3 0,.ptr 4 0]]),.obj (.row false 3 1 (xs.map enc)),.obj (.row false 3 1 (ys.map enc))]⟩:=ZB.mp (.nil) h (by kernel_rfl)
theorem EN{G:PV->Prop}(E:YB)(b:BoxT)(fs:List Fact)(p:List Mono)(h:G ((.tup [(.int .i64 0),(.int .i64 2)]))):Jw YP E 0 (Za Y5 G) YR 0 .ret ⟨ZU 77 0 [(5,.ptr 0 0),(6,.ptr 1 0),(7,.ptr 2 0),(9,.ptr 3 0),(10,.ptr 4 0),(11,.ptr 5 0)],[.obj (.box [.pv (enc p)]),.obj (.box [.pv (.int .i64 0)]),.obj (.box [.pv (.int .i64 2)]),.obj (.box [.pv (.sl 0 true [])]),.obj (.box [.pv (.sl 0 true [])]),.obj (.box [.fn 124 [] [.ptr 3 0,.ptr 4 0]]),.fresh,.fresh]⟩:=ZB.mp (.nil) h (by kernel_rfl)
theorem Ox{G:PV->Prop}(E:YB)(b:BoxT)(fs:List Fact)(p:List Mono)(n:Nat)(xs ys:List Int)(h:G ((.tup [(.int .i64 0),(.int .i64 2)]))):Jw YP E 0 (Za Y5 G) YR 0 .ret ⟨ZU 77 0 [(5,.ptr 0 0),(6,.ptr 1 0),(7,.ptr 2 0),(9,.ptr 3 0),(10,.ptr 4 0),(11,.ptr 5 0)],[.obj (.box [.pv (enc p)]),.obj (.box [.pv (.int .i64 0)]),.obj (.box [.pv (.int .i64 2)]),.obj (.box [.row 6 n 0 n]),.obj (.box [.row 7 n 0 n]),.obj (.box [.fn 124 [] [.ptr 3 0,.ptr 4 0]]),.obj (.row false 3 1 (xs.map enc)),.obj (.row false 3 1 (ys.map enc)),.fresh,.fresh]⟩:=ZB.mp (.nil) h (by kernel_rfl)
def Vu:IC:=(.block 1 (.seq (.reg [⟨(some 36),(.load false [(.sl 2)] (.t 5)),0,none⟩,⟨(some 37),(.mv (.t 13)),0,none⟩,⟨(some 38),(.call (.c (.fn 125)) [(.t 36),(.t 37)]),0,none⟩,⟨(some 35),(.mv (.t 38)),2,none⟩,⟨(some 39),(.extract (.t 35) 0),2,none⟩,⟨(some 40),(.extract (.t 35) 1),2,none⟩,⟨(some 14),(.mv (.t 39)),2,none⟩,⟨(some 15),(.mv (.t 40)),2,none⟩] none) (.seq (.seq (.reg [⟨(some 41),(.mv (.t 15)),0,none⟩,⟨(some 42),(.bin .num .neq (.t 41) (.c (.int .i64 0))),0,none⟩] none) (.cond (.t 42) (.seq (.reg [⟨none,(.store 1 (.t 6) (.c (.int .i64 0))),0,none⟩,⟨none,(.store 1 (.t 7) (.c (.int .i64 2))),0,none⟩] none) .ret) .skip)) (.reg [⟨(some 43),(.load false [.any] (.t 11)),0,none⟩,⟨(some 44),(.mv (.t 14)),0,none⟩,⟨(some 45),(.call (.t 43) [(.t 44)]),0,none⟩] none))))
def Cv:ZF:=Xe [(122,.pure (preT (fun x:List Mono×Unit=>Yb x.1)) (Zf (fun x:List Mono×Unit=>ZI x.1))),(123,.own Ja CW),(116,.pure (preT (fun x:BoxT×List Fact×Bool×NilS×Unit=>ZG x.1&&Zk x.2.1&&decide (x.2.1.length<=100))) (Zf (fun x:BoxT×List Fact×Bool×NilS×Unit=>Zp x.1 x.2.1 x.2.2.1 []))),(117,.own Xc WP),(125,.pure (preT (fun x:List Mono×List Coef×Unit=>Yb x.1&&Zn x.2.1)) (Zf (fun x:List Mono×List Coef×Unit=>Y0 x.1 x.2.1))),(124,.own Uy Qn),(126,.pure (preT (fun x:List Int×List Int×Unit=>decide (x.1.length<=10000)&&decide (x.2.1.length<=10000))) (Zf (fun x:List Int×List Int×Unit=>Dp x.1 x.2.1)))]
theorem b5c{G:Zv->Prop}(E:YB)(p:List Mono)(q:List Int)(vs:List Coef)(h:(Go.Pl.preT (fun(x:List Mono×List Coef×Unit)=>Yb x.1&&Zn x.2.1) [(.sl 2 false (List.map enc p)),(.sl 2 false (List.map enc vs))])=true∧(∃ y0:Int×Int,AV.pv (Zf (fun(x:List Mono×List Coef×Unit)=>Y0 x.1 x.2.1) [(.sl 2 false (List.map enc p)),(.sl 2 false (List.map enc vs))])=AV.pv (enc y0)∧(if (y0.2 != 0)=true then G ([(.obj (.box [(.pv (.sl 2 false (List.map enc p)))])),(.obj (.box [(.pv (.int .i64 0))])),(.obj (.box [(.pv (.int .i64 2))])),(.obj (.box [(.pv (.sl 0 true []))])),(.obj (.box [(.pv (.sl 0 true []))])),(.obj (.box [(.fn 124 [] [(.ptr 3 0),(.ptr 4 0)])])),.fresh,.fresh])else(E 99 ⟨ZU 77 0 [],[(.obj (.box [(.pv (.sl 2 false (List.map enc p)))])),(.obj (.box [(.pv (.int .i64 0))])),(.obj (.box [(.pv (.int .i64 0))])),(.obj (.box [(.row 6 1 0 1)])),(.obj (.box [(.row 7 1 0 1)])),(.obj (.box [(.fn 124 [] [(.ptr 3 0),(.ptr 4 0)])])),(.obj (.row false 3 1 [(.int .i64 (WE y0.1))])),(.obj (.row false 3 1 [(.int .i64 (X6 y0.1))]))]⟩ (fun x S'=>Jw Cv E 6 (fun st=>G st.heap) Vu 99 x S'))))):ZB Cv E 6 (fun st=>G st.heap) (.inl Vu) [.seq (.ext 99 [])] ⟨ZU 77 0 [(5,.ptr 0 0),(6,.ptr 1 0),(7,.ptr 2 0),(9,.ptr 3 0),(10,.ptr 4 0),(11,.ptr 5 0),(13,.pv (enc vs)),(33,.pv (enc q)),(34,.pv (enc vs))],[.obj (.box [.pv (enc p)]),.obj (.box [.pv (.int .i64 0)]),.obj (.box [.pv (.int .i64 0)]),.obj (.box [.pv (.sl 0 true [])]),.obj (.box [.pv (.sl 0 true [])]),.obj (.box [.fn 124 [] [.ptr 3 0,.ptr 4 0]])]⟩:=ZB.mh (.req (.abs (Int×Int) (fun YY=>AV.pv (enc YY)) (.lit (.ask (.nil) (.lit (.keep (.nil))))))) h (by kernel_rfl)
theorem b7s{G:Zv->Prop}(E:YB)(p:List Mono)(q:List Int)(vs:List Coef)(n:Nat)(xs ys:List Int)(h:(Go.Pl.preT (fun(x:List Mono×List Coef×Unit)=>Yb x.1&&Zn x.2.1) [(.sl 2 false (List.map enc p)),(.sl 2 false (List.map enc vs))])=true∧(∃ y0:Int×Int,AV.pv (Zf (fun(x:List Mono×List Coef×Unit)=>Y0 x.1 x.2.1) [(.sl 2 false (List.map enc p)),(.sl 2 false (List.map enc vs))])=AV.pv (enc y0)∧(if (y0.2 != 0)=true then G ([(.obj (.box [(.pv (.sl 2 false (List.map enc p)))])),(.obj (.box [(.pv (.int .i64 0))])),(.obj (.box [(.pv (.int .i64 2))])),(.obj (.box [(.row 6 n 0 n)])),(.obj (.box [(.row 7 n 0 n)])),(.obj (.box [(.fn 124 [] [(.ptr 3 0),(.ptr 4 0)])])),(.obj (.row false 3 1 (List.map enc xs))),(.obj (.row false 3 1 (List.map enc ys))),.fresh,.fresh])else((Uy [(.pv (.int .i64 y0.1)),(.ptr 0 0),(.ptr 1 0)] [(.box [(.row 2 n 0 n)]),(.box [(.row 3 n 0 n)]),(.row false 3 1 (List.map enc xs)),(.row false 3 1 (List.map enc ys))])=true∧(E 99 ⟨ZU 77 0 [],[(.obj (.box [(.pv (.sl 2 false (List.map enc p)))])),(.obj (.box [(.pv (.int .i64 0))])),(.obj (.box [(.pv (.int .i64 0))])),(.obj (.box [(.row 6 (n+1) 0 (n+1))])),(.obj (.box [(.row 7 (n+1) 0 (n+1))])),(.obj (.box [(.fn 124 [] [(.ptr 3 0),(.ptr 4 0)])])),(.obj (.row false 3 1 (List.map enc xs++[PV.int .i64 (WE y0.1)]))),(.obj (.row false 3 1 (List.map enc ys++[PV.int .i64 (X6 y0.1)])))]⟩ (fun x S'=>Jw Cv E 8 (fun st=>G st.heap) Vu 99 x S')))))):ZB Cv E 8 (fun st=>G st.heap) (.inl Vu) [.seq (.ext 99 [])] ⟨ZU 77 0 [(5,.ptr 0 0),(6,.ptr 1 0),(7,.ptr 2 0),(9,.ptr 3 0),(10,.ptr 4 0),(11,.ptr 5 0),(13,.pv (enc vs)),(33,.pv (enc q)),(34,.pv (enc vs))],[.obj (.box [.pv (enc p)]),.obj (.box [.pv (.int .i64 0)]),.obj (.box [.pv (.int .i64 0)]),.obj (.box [.row 6 n 0 n]),.obj (.box [.row 7 n 0 n]),.obj (.box [.fn 124 [] [.ptr 3 0,.ptr 4 0]]),.obj (.row false 3 1 (xs.map enc)),.obj (.row false 3 1 (ys.map enc))]⟩:=ZB.mh (.req (.abs (Int×Int) (fun YY=>AV.pv (enc YY)) (.lit (.ask (.nil) (.req (.keep (.nil))))))) h (by kernel_rfl)
def Y8:IC:=YR
def Xb:List IRes:=[(.cell false 1 6),(.cell false 1 7)]
abbrev b1h:Nat:=77
def YN:ZF:=Xe [(122,.pure (preT (fun x:List Mono×Unit=>Yb x.1)) (Zf (fun x:List Mono×Unit=>ZI x.1))),(123,.own Qi PZ),(116,.own UF Kg),(117,.own Xc WP),(125,.pure (preT (fun x:List Mono×List Coef×Unit=>Yb x.1&&Zn x.2.1)) (Zf (fun x:List Mono×List Coef×Unit=>Y0 x.1 x.2.1))),(124,.own Uy Qn),(126,.pure (preT (fun x:List Int×List Int×Unit=>decide (x.1.length<=10000)&&decide (x.2.1.length<=10000))) (Zf (fun x:List Int×List Int×Unit=>Dp x.1 x.2.1)))]
theorem c3d{G:PV->Prop}(E:YB)(b:BoxT)(fs:List Fact)(p:List Mono)(h:(Go.Pl.preT (fun(x:List Mono×Unit)=>Yb x.1) [(.sl 2 false (List.map enc p))])=true∧(∃ y0:Bool,AV.pv (Zf (fun(x:List Mono×Unit)=>ZI x.1) [(.sl 2 false (List.map enc p))])=AV.pv (enc y0)∧((Qi [(.pv (.sl 2 false (List.map enc p)))] [])=true∧((UF [(.pv (.agg [(.sl 1 false (List.map enc b.v)),(.int .i64 b.m)])),(.pv (.sl 3 false (List.map enc fs))),(.pv (.bool y0)),(.row 0 (List.length (Yz (Ul (enc p)))) 0 (List.length (Yz (Ul (enc p)))))] [(.row false 9 1 (List.map enc (Yz (Ul (enc p)))))])=true∧(if (Zp (a0n (PV.agg [enc b.v,enc b.m])) (Bc (enc fs)) y0 (KO (List.map enc (Yz (Ul (enc p))))) != 0)=true then G ((.tup [(.int .i64 0),(.int .i64 (Zp (a0n (PV.agg [enc b.v,enc b.m])) (Bc (enc fs)) y0 (KO (List.map enc (Yz (Ul (enc p)))))))]))else((Xc [(.pv (.agg [(.sl 1 false (List.map enc b.v)),(.int .i64 b.m)])),(.pv (.sl 3 false (List.map enc fs)))] [])=true∧(E 0 ⟨ZU 77 0 [(5,(.ptr 0 0)),(6,(.ptr 1 0)),(7,(.ptr 2 0)),(9,(.ptr 3 0)),(10,(.ptr 4 0)),(11,(.ptr 5 0)),(13,.undef),(14,.undef),(15,.undef),(32,(.fn 177 [] [(.ptr 6 0),(.ptr 7 0)])),(34,.undef),(35,.undef),(36,.undef),(37,.undef),(38,.undef),(39,.undef),(40,.undef),(41,.undef),(42,.undef),(43,.undef),(44,.undef)],[(.obj (.box [(.pv (.sl 2 false (List.map enc p)))])),(.obj (.box [(.pv (.int .i64 0))])),(.obj (.box [(.pv (.int .i64 0))])),(.obj (.box [(.pv (.sl 0 true []))])),(.obj (.box [(.pv (.sl 0 true []))])),(.obj (.box [(.fn 124 [] [(.ptr 3 0),(.ptr 4 0)])])),(.obj (.box [(.pv (.sl 1 false (List.map enc b.v))),(.pv (.int .i64 b.m))])),(.obj (.box [(.pv (.sl 3 false (List.map enc fs)))]))]⟩ (fun x S'=>Jw YN E 0 (Za Xb G) Y8 0 x S')))))))):ZB YN E 0 (Za Xb G) (.inl Y8) [] (Ye 77 [enc b,enc fs,enc p]):=ZB.mp (.req (.abs (Bool) (fun YY=>AV.pv (enc YY)) (.req (.keep (.req (.keep (.lit (.ask (.nil) (.req (.keep (.nil))))))))))) h (by kernel_rfl)
theorem a3r{G:PV->Prop}(E:YB)(b:BoxT)(fs:List Fact)(p:List Mono)(h : ∃ y0:Int×Int,AV.pv (Zf (fun(x:List Int×List Int×Unit)=>Dp x.1 x.2.1) [(.sl 1 false [(.int .i64 0),(.int .i64 0)]),(.sl 1 false [(.int .i64 2147483648),(.int .i64 1)])])=AV.pv (enc y0)∧(G ((.tup [(.int .i64 y0.1),(.int .i64 y0.2)])))):AtM YN E 0 (Za Xb G) Y8 0 77 [(6,.ptr 0 0),(7,.ptr 1 0),(9,.ptr 2 0),(10,.ptr 3 0),(16,.pv (.int .i64 0)),(17,.pv (.int .i64 0)),(47,.pv (.int .i64 0)),(48,.pv (.int .i64 0))] [.obj (.box [.pv (.int .i64 0)]),.obj (.box [.pv (.int .i64 0)]),.obj (.box [.pv (.sl 0 true [])]),.obj (.box [.pv (.sl 0 true [])])]:=ZB.mp (.lit (.lit (.lit (.lit (.lit (.lit (.lit (.lit (.lit (.lit (.abs (Int×Int) (fun YY=>AV.pv (enc YY)) (.nil)))))))))))) h (by kernel_rfl)
theorem RU{G:PV->Prop}(E:YB)(b:BoxT)(fs:List Fact)(p:List Mono)(u z i:Int)(n:Nat)(xs ys:List Int)(h:if (decide (i<(↑n:Int)))=true then(decide (0<=i)&&decide (0+Int.toNat i<n)&&List.length (List.map enc xs)==n)=true∧((List.length (List.map enc xs)==n&&decide (0+Int.toNat i<List.length (List.map enc xs)))=true∧((decide (0+List.length [Sh.int .i64]<=List.length (PV.cells (List.getD (List.map enc xs) (0+Int.toNat i) default)))&&Xa (PV.cells (List.getD (List.map enc xs) (0+Int.toNat i) default)) 0 [Sh.int .i64])=true∧((decide (0<=i)&&decide (0+Int.toNat i<n)&&List.length (List.map enc ys)==n)=true∧((List.length (List.map enc ys)==n&&decide (0+Int.toNat i<List.length (List.map enc ys)))=true∧((decide (0+List.length [Sh.int .i64]<=List.length (PV.cells (List.getD (List.map enc ys) (0+Int.toNat i) default)))&&Xa (PV.cells (List.getD (List.map enc ys) (0+Int.toNat i) default)) 0 [Sh.int .i64])=true∧(AtM YN E 0 (Za Xb G) Y8 0 77 [(6,(.ptr 0 0)),(7,(.ptr 1 0)),(9,(.ptr 2 0)),(10,(.ptr 3 0)),(16,(.pv (.int .i64 (IntKind.wrap IntKind.i64 (u+PV.asInt (List.getD (PV.cells (List.getD (List.map enc xs) (0+Int.toNat i) default)) 0 default)))))),(17,(.pv (.int .i64 (IntKind.wrap IntKind.i64 (z+PV.asInt (List.getD (PV.cells (List.getD (List.map enc ys) (0+Int.toNat i) default)) 0 default)))))),(47,(.pv (.int .i64 (↑n:Int)))),(48,(.pv (.int .i64 (IntKind.wrap IntKind.i64 (i+1)))))] [(.obj (.box [(.pv (.int .i64 0))])),(.obj (.box [(.pv (.int .i64 0))])),(.obj (.box [(.row 4 n 0 n)])),(.obj (.box [(.row 5 n 0 n)])),(.obj (.row false 3 1 (List.map enc xs))),(.obj (.row false 3 1 (List.map enc ys)))]))))))else(∃ y0:Int×Int,AV.pv (Zf (fun(x:List Int×List Int×Unit)=>Dp x.1 x.2.1) [(.sl 1 false [(.int .i64 (IntKind.wrap IntKind.i64 (u+Int.fdiv z (2 ^ min (Int.toNat 31) (IntKind.bits IntKind.i64))))),(.int .i64 (IntKind.wrap IntKind.i64 (↑(BitVec.toNat (BitVec.ofInt (IntKind.bits IntKind.i64) z &&& BitVec.ofInt (IntKind.bits IntKind.i64) 2147483647)):Int)))]),(.sl 1 false [(.int .i64 2147483648),(.int .i64 1)])])=AV.pv (enc y0)∧(G ((.tup [(.int .i64 y0.1),(.int .i64 y0.2)]))))):AtM YN E 0 (Za Xb G) Y8 0 77 [(6,.ptr 0 0),(7,.ptr 1 0),(9,.ptr 2 0),(10,.ptr 3 0),(16,.pv (.int .i64 u)),(17,.pv (.int .i64 z)),(47,.pv (.int .i64 n)),(48,.pv (.int .i64 i))] [.obj (.box [.pv (.int .i64 0)]),.obj (.box [.pv (.int .i64 0)]),.obj (.box [.row 4 n 0 n]),.obj (.box [.row 5 n 0 n]),.obj (.row false 3 1 (xs.map enc)),.obj (.row false 3 1 (ys.map enc))]:=ZB.mp (.lit (.ask (.req (.keep (.req (.req (.lit (.req (.keep (.req (.req (.lit (.lit (.nil)))))))))))) (.lit (.lit (.lit (.lit (.lit (.lit (.lit (.lit (.abs (Int×Int) (fun YY=>AV.pv (enc YY)) (.nil)))))))))))) h (by kernel_rfl)
theorem a5q{G:PV->Prop}(E:YB)(b:BoxT)(fs:List Fact)(p:List Mono)(h:AtM YN E 0 (Za Xb G) Y8 0 77 [(6,(.ptr 0 0)),(7,(.ptr 1 0)),(9,(.ptr 2 0)),(10,(.ptr 3 0)),(16,(.pv (.int .i64 0))),(17,(.pv (.int .i64 0))),(47,(.pv (.int .i64 0))),(48,(.pv (.int .i64 0)))] [(.obj (.box [(.pv (.int .i64 0))])),(.obj (.box [(.pv (.int .i64 0))])),(.obj (.box [(.pv (.sl 0 true []))])),(.obj (.box [(.pv (.sl 0 true []))]))]):Jw YN E 0 (Za Xb G) Y8 0 .normal ⟨ZU 77 0 [(5,.ptr 0 0),(6,.ptr 1 0),(7,.ptr 2 0),(9,.ptr 3 0),(10,.ptr 4 0),(11,.ptr 5 0)],[.obj (.box [.pv (enc p)]),.obj (.box [.pv (.int .i64 0)]),.obj (.box [.pv (.int .i64 0)]),.obj (.box [.pv (.sl 0 true [])]),.obj (.box [.pv (.sl 0 true [])]),.obj (.box [.fn 124 [] [.ptr 3 0,.ptr 4 0]])]⟩:=ZB.mp (.nil) h (by kernel_rfl)
theorem a5y{G:PV->Prop}(E:YB)(b:BoxT)(fs:List Fact)(p:List Mono)(n:Nat)(xs ys:List Int)(h:AtM YN E 0 (Za Xb G) Y8 0 77 [(6,(.ptr 0 0)),(7,(.ptr 1 0)),(9,(.ptr 2 0)),(10,(.ptr 3 0)),(16,(.pv (.int .i64 0))),(17,(.pv (.int .i64 0))),(47,(.pv (.int .i64 (↑(n - 0):Int)))),(48,(.pv (.int .i64 0)))] [(.obj (.box [(.pv (.int .i64 0))])),(.obj (.box [(.pv (.int .i64 0))])),(.obj (.box [(.row 4 n 0 n)])),(.obj (.box [(.row 5 n 0 n)])),(.obj (.row false 3 1 (List.map enc xs))),(.obj (.row false 3 1 (List.map enc ys)))]):Jw YN E 0 (Za Xb G) Y8 0 .normal ⟨ZU 77 0 [(5,.ptr 0 0),(6,.ptr 1 0),(7,.ptr 2 0),(9,.ptr 3 0),(10,.ptr 4 0),(11,.ptr 5 0)],[.obj (.box [.pv (enc p)]),.obj (.box [.pv (.int .i64 0)]),.obj (.box [.pv (.int .i64 0)]),.obj (.box [.row 6 n 0 n]),.obj (.box [.row 7 n 0 n]),.obj (.box [.fn 124 [] [.ptr 3 0,.ptr 4 0]]),.obj (.row false 3 1 (xs.map enc)),.obj (.row false 3 1 (ys.map enc))]⟩:=ZB.mp (.nil) h (by kernel_rfl)
theorem Oj{G:PV->Prop}(E:YB)(b:BoxT)(fs:List Fact)(p:List Mono)(h:G ((.tup [(.int .i64 0),(.int .i64 2)]))):Jw YN E 0 (Za Xb G) Y8 0 .ret ⟨ZU 77 0 [(5,.ptr 0 0),(6,.ptr 1 0),(7,.ptr 2 0),(9,.ptr 3 0),(10,.ptr 4 0),(11,.ptr 5 0)],[.obj (.box [.pv (enc p)]),.obj (.box [.pv (.int .i64 0)]),.obj (.box [.pv (.int .i64 2)]),.obj (.box [.pv (.sl 0 true [])]),.obj (.box [.pv (.sl 0 true [])]),.obj (.box [.fn 124 [] [.ptr 3 0,.ptr 4 0]]),.fresh,.fresh]⟩:=ZB.mp (.nil) h (by kernel_rfl)
theorem Om{G:PV->Prop}(E:YB)(b:BoxT)(fs:List Fact)(p:List Mono)(n:Nat)(xs ys:List Int)(h:G ((.tup [(.int .i64 0),(.int .i64 2)]))):Jw YN E 0 (Za Xb G) Y8 0 .ret ⟨ZU 77 0 [(5,.ptr 0 0),(6,.ptr 1 0),(7,.ptr 2 0),(9,.ptr 3 0),(10,.ptr 4 0),(11,.ptr 5 0)],[.obj (.box [.pv (enc p)]),.obj (.box [.pv (.int .i64 0)]),.obj (.box [.pv (.int .i64 2)]),.obj (.box [.row 6 n 0 n]),.obj (.box [.row 7 n 0 n]),.obj (.box [.fn 124 [] [.ptr 3 0,.ptr 4 0]]),.obj (.row false 3 1 (xs.map enc)),.obj (.row false 3 1 (ys.map enc)),.fresh,.fresh]⟩:=ZB.mp (.nil) h (by kernel_rfl)
def Uk:IC:=Vu
def CU:ZF:=Xe [(122,.pure (preT (fun x:List Mono×Unit=>Yb x.1)) (Zf (fun x:List Mono×Unit=>ZI x.1))),(123,.own Qi PZ),(116,.own UF Kg),(117,.own Xc WP),(125,.pure (preT (fun x:List Mono×List Coef×Unit=>Yb x.1&&Zn x.2.1)) (Zf (fun x:List Mono×List Coef×Unit=>Y0 x.1 x.2.1))),(124,.own Uy Qn),(126,.pure (preT (fun x:List Int×List Int×Unit=>decide (x.1.length<=10000)&&decide (x.2.1.length<=10000))) (Zf (fun x:List Int×List Int×Unit=>Dp x.1 x.2.1)))]
theorem b0y{G:Zv->Prop}(E:YB)(p:List Mono)(q:List Int)(vs:List Coef)(h:(Go.Pl.preT (fun(x:List Mono×List Coef×Unit)=>Yb x.1&&Zn x.2.1) [(.sl 2 false (List.map enc p)),(.sl 2 false (List.map enc vs))])=true∧(∃ y0:Int×Int,AV.pv (Zf (fun(x:List Mono×List Coef×Unit)=>Y0 x.1 x.2.1) [(.sl 2 false (List.map enc p)),(.sl 2 false (List.map enc vs))])=AV.pv (enc y0)∧(if (y0.2 != 0)=true then G ([(.obj (.box [(.pv (.sl 2 false (List.map enc p)))])),(.obj (.box [(.pv (.int .i64 0))])),(.obj (.box [(.pv (.int .i64 2))])),(.obj (.box [(.pv (.sl 0 true []))])),(.obj (.box [(.pv (.sl 0 true []))])),(.obj (.box [(.fn 124 [] [(.ptr 3 0),(.ptr 4 0)])])),.fresh,.fresh])else(E 99 ⟨ZU 77 0 [],[(.obj (.box [(.pv (.sl 2 false (List.map enc p)))])),(.obj (.box [(.pv (.int .i64 0))])),(.obj (.box [(.pv (.int .i64 0))])),(.obj (.box [(.row 6 1 0 1)])),(.obj (.box [(.row 7 1 0 1)])),(.obj (.box [(.fn 124 [] [(.ptr 3 0),(.ptr 4 0)])])),(.obj (.row false 3 1 [(.int .i64 (WE y0.1))])),(.obj (.row false 3 1 [(.int .i64 (X6 y0.1))]))]⟩ (fun x S'=>Jw CU E 6 (fun st=>G st.heap) Uk 99 x S'))))):ZB CU E 6 (fun st=>G st.heap) (.inl Uk) [.seq (.ext 99 [])] ⟨ZU 77 0 [(5,.ptr 0 0),(6,.ptr 1 0),(7,.ptr 2 0),(9,.ptr 3 0),(10,.ptr 4 0),(11,.ptr 5 0),(13,.pv (enc vs)),(33,.pv (enc q)),(34,.pv (enc vs))],[.obj (.box [.pv (enc p)]),.obj (.box [.pv (.int .i64 0)]),.obj (.box [.pv (.int .i64 0)]),.obj (.box [.pv (.sl 0 true [])]),.obj (.box [.pv (.sl 0 true [])]),.obj (.box [.fn 124 [] [.ptr 3 0,.ptr 4 0]])]⟩:=ZB.mh (.req (.abs (Int×Int) (fun YY=>AV.pv (enc YY)) (.lit (.ask (.nil) (.lit (.keep (.nil))))))) h (by kernel_rfl)
theorem b3s{G:Zv->Prop}(E:YB)(p:List Mono)(q:List Int)(vs:List Coef)(n:Nat)(xs ys:List Int)(h:(Go.Pl.preT (fun(x:List Mono×List Coef×Unit)=>Yb x.1&&Zn x.2.1) [(.sl 2 false (List.map enc p)),(.sl 2 false (List.map enc vs))])=true∧(∃ y0:Int×Int,AV.pv (Zf (fun(x:List Mono×List Coef×Unit)=>Y0 x.1 x.2.1) [(.sl 2 false (List.map enc p)),(.sl 2 false (List.map enc vs))])=AV.pv (enc y0)∧(if (y0.2 != 0)=true then G ([(.obj (.box [(.pv (.sl 2 false (List.map enc p)))])),(.obj (.box [(.pv (.int .i64 0))])),(.obj (.box [(.pv (.int .i64 2))])),(.obj (.box [(.row 6 n 0 n)])),(.obj (.box [(.row 7 n 0 n)])),(.obj (.box [(.fn 124 [] [(.ptr 3 0),(.ptr 4 0)])])),(.obj (.row false 3 1 (List.map enc xs))),(.obj (.row false 3 1 (List.map enc ys))),.fresh,.fresh])else((Uy [(.pv (.int .i64 y0.1)),(.ptr 0 0),(.ptr 1 0)] [(.box [(.row 2 n 0 n)]),(.box [(.row 3 n 0 n)]),(.row false 3 1 (List.map enc xs)),(.row false 3 1 (List.map enc ys))])=true∧(E 99 ⟨ZU 77 0 [],[(.obj (.box [(.pv (.sl 2 false (List.map enc p)))])),(.obj (.box [(.pv (.int .i64 0))])),(.obj (.box [(.pv (.int .i64 0))])),(.obj (.box [(.row 6 (n+1) 0 (n+1))])),(.obj (.box [(.row 7 (n+1) 0 (n+1))])),(.obj (.box [(.fn 124 [] [(.ptr 3 0),(.ptr 4 0)])])),(.obj (.row false 3 1 (List.map enc xs++[PV.int .i64 (WE y0.1)]))),(.obj (.row false 3 1 (List.map enc ys++[PV.int .i64 (X6 y0.1)])))]⟩ (fun x S'=>Jw CU E 8 (fun st=>G st.heap) Uk 99 x S')))))):ZB CU E 8 (fun st=>G st.heap) (.inl Uk) [.seq (.ext 99 [])] ⟨ZU 77 0 [(5,.ptr 0 0),(6,.ptr 1 0),(7,.ptr 2 0),(9,.ptr 3 0),(10,.ptr 4 0),(11,.ptr 5 0),(13,.pv (enc vs)),(33,.pv (enc q)),(34,.pv (enc vs))],[.obj (.box [.pv (enc p)]),.obj (.box [.pv (.int .i64 0)]),.obj (.box [.pv (.int .i64 0)]),.obj (.box [.row 6 n 0 n]),.obj (.box [.row 7 n 0 n]),.obj (.box [.fn 124 [] [.ptr 3 0,.ptr 4 0]]),.obj (.row false 3 1 (xs.map enc)),.obj (.row false 3 1 (ys.map enc))]⟩:=ZB.mh (.req (.abs (Int×Int) (fun YY=>AV.pv (enc YY)) (.lit (.ask (.nil) (.req (.keep (.nil))))))) h (by kernel_rfl)
end Go.Pl

namespace Go.Pl
open Go.RowKit
open Enc (enc dec is)
open EncL (encL decL isL)
theorem J8{a b:Int}: ∀ {l:List Int},(∀ x∈l,a<=x∧x<=b)->l.length*a<=l.sum∧l.sum<=l.length*b
 | [],_=>by simp
 | x::l,h=>by
  have h1:=h x (by simp)
  have h2:=J8 (l:=l) fun y hy=>h y (by simp[hy])
  rw[List.length_cons,List.sum_cons,Int.natCast_add,Int.add_mul,Int.add_mul]
  simp only[Int.natCast_one,Int.one_mul]
  omega
theorem c7b(n:Int):WE n*2147483648+X6 n=n:=by unfold WE X6;omega
theorem b5f{n:Int}(h:Qc n=true): -2147483648<=WE n∧WE n<=2147483648:=by
 unfold Qc at h
 simp only[Bool.and_eq_true,decide_eq_true_eq]at h
 unfold WE;omega
theorem b1o(n:Int):0<=X6 n∧X6 n<=2147483647:=by unfold X6;omega
theorem Aq: ∀ l:List Int,(l.map WE).sum*2147483648+(l.map X6).sum=l.sum
 | []=>rfl
 | n::l=>by
  have h1:=c7b n
  have h2:=Aq l
  simp only[List.map_cons,List.sum_cons,Int.add_mul]
  omega
theorem A8{l:List Int}(hl:l.length<=20000)(hr : ∀ x∈l,Qc x=true){H L:Int}(hH:H=(l.map WE).sum+(l.map X6).sum / 2147483648)(hL:L=(l.map X6).sum % 2147483648):
  Dp [H,L] [2147483648,1]=VN l:=by
 have h1:=J8 (l:=l.map WE) (a:= -2147483648) (b:=2147483648) (by
  intro x hx
  obtain⟨n,hn,rfl⟩:=List.mem_map.1 hx
  exact b5f (hr n hn))
 have h2:=J8 (l:=l.map X6) (a:=0) (b:=2147483647) (by
  intro x hx
  obtain⟨n,hn,rfl⟩:=List.mem_map.1 hx
  exact b1o n)
 have h3:=Aq l
 rw[List.length_map]at h1 h2
 have hd:O7 [H,L] [2147483648,1]=l.sum:=by
  show H*2147483648+(L*1+0)=_
  omega
 have ha:l.all Qc=true:=List.all_eq_true.2 hr
 have e1:Qc H=true:=by
  unfold Qc
  rw[decide_eq_true (by omega),decide_eq_true (by omega)];rfl
 have e2:Qc L=true:=by
  unfold Qc
  rw[decide_eq_true (by omega),decide_eq_true (by omega)];rfl
 unfold Dp VN
 rw[hd,ha,if_pos (by rfl)]
 have:(List.all [H,L] Qc&&List.all [(2147483648:Int),1] Qc)=true:=by
  simp only[List.all_cons,List.all_nil,Bool.and_true,e1,e2,Bool.and_eq_true]
  decide
 rw[this]
theorem c0t{l:List Int}:Qc (VN l).1=true:=by
 unfold VN
 split
 ·rename_i h
  simp only[Bool.and_eq_true]at h
  exact h.2
 ·decide
theorem a9m(p:List Mono)(vs:List Coef):Qc (Y0 p vs).1=true:=by
 unfold Y0
 split
 ·split
  ·decide
  ·split
   ·decide
   ·split
    ·decide
    ·exact c0t
 ·decide
theorem QQ{p:List Mono}{vs:List Str}: ∀ {qs:List (List Int)} {l:List Int},Um p vs qs=some l->l.length=qs.length
 | [],_,h=>by cases h;rfl
 | q::r,l,h=>by
  rw[Um]at h
  split at h
  ·cases h
  ·obtain⟨m,hm,rfl⟩:=Option.map_eq_some_iff.1 h
   simp[QQ hm]
theorem SG{p:List Mono}{vs:List Str}: ∀ {qs:List (List Int)} {l:List Int},Um p vs qs=some l-> ∀ x∈l,Qc x=true
 | [],_,h=>by cases h;simp
 | q::r,l,h=>by
  rw[Um]at h
  split at h
  ·cases h
  ·obtain⟨m,hm,rfl⟩:=Option.map_eq_some_iff.1 h
   intro x hx
   rcases List.mem_cons.1 hx with rfl|hx
   ·exact a9m _ _
   ·exact SG hm x hx
theorem UV{p:List Mono}{vs:List Str}{q:List Int}(hq:(Y0 p (Ze vs q)).2=0): ∀ {qs:List (List Int)} {l:List Int},Um p vs qs=some l->Um p vs (qs++[q])=some (l++[(Y0 p (Ze vs q)).1])
 | [],_,h=>by cases h;rw[List.nil_append,Um,if_neg (by simp[hq])];rfl
 | q'::r,l,h=>by
  rw[Um]at h
  split at h
  ·cases h
  ·rename_i h2
   obtain⟨m,hm,rfl⟩:=Option.map_eq_some_iff.1 h
   rw[List.cons_append,Um,if_neg h2,UV hq hm];rfl
theorem AZ{p:List Mono}{vs:List Str}{q:List Int}(hq:(Y0 p (Ze vs q)).2≠0){r:List (List Int)}: ∀ (qs:List (List Int)),Um p vs (qs++q::r)=none
 | []=>by rw[List.nil_append,Um,if_pos hq]
 | q'::qs=>by
  rw[List.cons_append,Um,AZ hq qs]
  split <;> rfl
section
variable {α:Type} [Inhabited α] [DecidableEq α]
theorem Ny{d:Array α}{x:α}: ∀ {m:Nat},m<=d.size->x∈Lib.compactUpTo d m-> ∃ j,j<m∧x=d[j]!
 | 0,_,h=>by simp[Lib.compactUpTo]at h
 | m+1,hm,h=>by
  rw[Lib.compactUpTo_succ,List.mem_append]at h
  rcases h with h|h
  ·obtain⟨j,h1,h2⟩:=Ny (by omega) h;exact⟨j,by omega,h2⟩
  ·split at h
   ·exact⟨m,by omega,by simpa using h⟩
   ·simp at h
theorem Nv{d:Array α}: ∀ {m:Nat},m<=d.size-> ∀ j,j<m->d[j]! ∈ Lib.compactUpTo d m
 | 0,_,j,h=>by omega
 | m+1,hm,j,h=>by
  rw[Lib.compactUpTo_succ,List.mem_append]
  by_cases hj:j<m
  ·exact .inl (Nv (by omega) j hj)
  ·have:j=m:=by omega
   subst this
   cases hk:Lib.keeps d j
   ·refine .inl ?_
    have h0:j≠0∧d[j]! = d[j - 1]! :=by
     unfold Lib.keeps at hk
     simpa [not_or]using hk
    rw[h0.2]
    exact Nv (by omega) (j - 1) (by omega)
   ·right;simp
theorem FO{zs:List α}{x:α}:x∈Lib.compact zs ↔ x∈zs:=by
 unfold Lib.compact
 constructor
 ·intro h
  obtain⟨j,h1,rfl⟩:=Ny (by simp) h
  simp[getElem!_pos,h1]
 ·intro h
  obtain⟨j,hj,rfl⟩:=List.getElem_of_mem h
  have:=Nv (d:=zs.toArray) (m:=zs.length) (by simp) j hj
  simpa [getElem!_pos,hj]using this
end
theorem a2l{d:Array (List UInt8)}(hs : ∀ i j,i<j->j<d.size->d[i]! <= d[j]!): ∀ {m:Nat},m<=d.size->(Lib.compactUpTo d m).Pairwise (· < ·)
 | 0,_=>by simp[Lib.compactUpTo]
 | m+1,hm=>by
  rw[Lib.compactUpTo_succ,List.pairwise_append]
  refine⟨a2l hs (by omega),by split <;> simp,?_⟩
  intro x hx y hy
  split at hy
  ·rename_i hk
   have hy:y=d[m]! :=by simpa using hy
   subst hy
   obtain⟨j,hj,rfl⟩:=Ny (by omega) hx
   have h0:m≠0:=by omega
   have hne:d[m]! ≠ d[m - 1]! :=by
    unfold Lib.keeps at hk
    simpa [h0]using hk
   have h1:d[m - 1]! <= d[m]! :=hs _ _ (by omega) (by omega)
   have h2:d[j]! <= d[m - 1]! :=by
    by_cases e:j=m - 1
    ·rw[e];exact List.le_refl _
    ·exact hs _ _ (by omega) (by omega)
   have h3:d[m - 1]! < d[m]! :=by
    rcases List.le_iff_lt_or_eq.1 h1 with h|h
    ·exact h
    ·exact absurd h.symm hne
   exact Std.lt_of_le_of_lt h2 h3
  ·simp at hy
theorem b7y(ss:List (List UInt8)):(WA ss).Pairwise (· <= ·):=by
 have:=List.pairwise_mergeSort (le:=fun x y:List UInt8=>decide (x<=y)) (fun a b c h1 h2=>by
  simp only[decide_eq_true_eq]at *;exact List.le_trans h1 h2) (fun a b=>by
  simp only[Bool.or_eq_true,decide_eq_true_eq];exact List.le_total a b) ss
 exact this.imp fun h=>by simpa using h
theorem b2f(ss:List (List UInt8)):(Lib.compact (WA ss)).Pairwise (· < ·):=by
 unfold Lib.compact
 refine a2l ?_ (by simp)
 intro i j hij hj
 have hj:j<(WA ss).length:=by simpa using hj
 have:=List.pairwise_iff_getElem.1 (b7y ss) i j (by omega) hj hij
 simpa [getElem!_pos,hj,show i<(WA ss).length by omega]using this
theorem TA(p:List Mono)(x:Str):x∈Yz p ↔ x∈XO p:=by
 unfold Yz
 rw[List.mem_map]
 constructor
 ·rintro⟨s,hs,rfl⟩
  have:=(List.mergeSort_perm _ _).mem_iff.1 (FO.1 hs)
  obtain⟨y,hy,e⟩:=List.mem_map.1 this
  cases y;cases e;exact hy
 ·intro h
  exact⟨x.s,FO.2 ((List.mergeSort_perm _ _).mem_iff.2 (List.mem_map.2 ⟨x,h,rfl⟩)),rfl⟩
theorem a4c(p:List Mono):(Yz p).Pairwise fun x y:Str=>x.s<y.s:=by
 unfold Yz Xr
 rw[List.pairwise_map]
 exact b2f _
theorem Bn{s x:Str}: ∀ {l:List Str},x∈GD l s ↔ x=s∨x∈l
 | []=>by simp[GD]
 | t::r=>by
  rw[GD]
  split
  ·rw[List.mem_cons,Bn,List.mem_cons]
   constructor
   ·rintro(h|h|h) <;> simp[h]
   ·rintro(h|h|h) <;> simp[h]
  ·split
   ·rename_i h;subst h
    simp
   ·simp
theorem Lc{s:Str}: ∀ {l:List Str},(l.Pairwise fun x y:Str=>x.s<y.s)->(GD l s).Pairwise fun x y:Str=>x.s<y.s
 | [],_=>by simp[GD]
 | t::r,h=>by
  have ht:=List.pairwise_cons.1 h
  rw[GD]
  split
  ·rename_i h1
   refine List.pairwise_cons.2 ⟨fun y hy=> ?_,Lc ht.2⟩
   rcases Bn.1 hy with rfl|hy
   ·exact h1
   ·exact ht.1 y hy
  ·split
   ·exact h
   ·rename_i h1 h2
    have h3:s.s<t.s:=by
     rcases List.le_iff_lt_or_eq.1 (List.not_lt.1 h1)with h|h
     ·exact h
     ·exact absurd (by cases s;cases t;simpa using h.symm) h2
    refine List.pairwise_cons.2 ⟨fun y hy=> ?_,h⟩
    rcases List.mem_cons.1 hy with rfl|hy
    ·exact h3
    ·exact List.lt_trans h3 (ht.1 y hy)
theorem Me: ∀ (l o:List Str),(o.Pairwise fun x y:Str=>x.s<y.s)->((l.foldl GD o).Pairwise fun x y:Str=>x.s<y.s)∧ ∀ x,x∈l.foldl GD o ↔ x∈l∨x∈o
 | [],o,h=>⟨h,by simp⟩
 | s::l,o,h=>by
  obtain⟨h1,h2⟩:=Me l (GD o s) (Lc h)
  refine⟨h1,fun x=> ?_⟩
  show x∈l.foldl GD (GD o s) ↔ _
  rw[h2,Bn,List.mem_cons]
  constructor
  ·rintro(h|h|h) <;> simp[h]
  ·rintro((h|h)|h) <;> simp[h]
theorem a2y: ∀ {a b:List Str},(a.Pairwise fun x y:Str=>x.s<y.s)->(b.Pairwise fun x y:Str=>x.s<y.s)->(∀ x,x∈a ↔ x∈b)->a=b
 | [],[],_,_,_=>rfl
 | [],y::b,_,_,h=>absurd ((h y).2 (by simp)) (by simp)
 | x::a,[],_,_,h=>absurd ((h x).1 (by simp)) (by simp)
 | x::a,y::b,ha,hb,h=>by
  have ha':=List.pairwise_cons.1 ha
  have hb':=List.pairwise_cons.1 hb
  have e:x=y:=by
   rcases List.mem_cons.1 ((h x).1 (by simp))with e|h1
   ·exact e
   ·rcases List.mem_cons.1 ((h y).2 (by simp))with e|h2
    ·exact e.symm
    ·exact absurd (List.lt_trans (hb'.1 x h1) (ha'.1 y h2)) (List.lt_irrefl _)
  subst e
  rw[a2y ha'.2 hb'.2 fun z=> ?_]
  constructor
  ·intro hz
   rcases List.mem_cons.1 ((h z).1 (by simp[hz]))with e|h1
   ·subst e;exact absurd (ha'.1 z hz) (List.lt_irrefl _)
   ·exact h1
  ·intro hz
   rcases List.mem_cons.1 ((h z).2 (by simp[hz]))with e|h1
   ·subst e;exact absurd (hb'.1 z hz) (List.lt_irrefl _)
   ·exact h1
theorem TU(p:List Mono):Yz p=(XO p).foldl GD []:=by
 obtain⟨h1,h2⟩:=Me (XO p) [] .nil
 exact a2y (a4c p) h1 fun x=>by rw[TA,h2];simp
theorem a7o{p:List Mono}(h:(XO p).isEmpty=true):Yz p=[]:=by
 rw[TU,List.isEmpty_iff.1 h];rfl
theorem b6w{p:List Mono}(h:(XO p).isEmpty=false):(Yz p).isEmpty=false:=by
 rw[List.isEmpty_eq_false_iff]at h ⊢
 intro e
 obtain⟨x,hx⟩:=List.exists_mem_of_ne_nil _ h
 have:=(TA p x).2 hx
 rw[e]at this;cases this
theorem a6l(p:List Mono):(Yz p).length<=(XO p).length:=by
 unfold Yz
 rw[List.length_map]
 refine Nat.le_trans (Gx _) ?_
 unfold Xr WA
 rw[(List.mergeSort_perm _ _).length_eq,List.length_map];exact Nat.le_refl _
end Go.Pl

namespace Go.Pl
open Go.RowKit
open Enc (enc dec is)
open EncL (encL decL isL)
theorem b9u(n:Int):Int.fdiv n (2 ^ min (Int.toNat 31) (IntKind.bits .i64))=WE n:=by
 show Int.fdiv n 2147483648=n / 2147483648
 exact Int.fdiv_eq_ediv_of_nonneg n (by decide)
theorem a2i(n:Int):IntKind.i64.wrap ((BitVec.toNat (BitVec.ofInt (IntKind.bits .i64) n &&& BitVec.ofInt (IntKind.bits .i64) 2147483647):Nat):Int)=X6 n:=by
 have e:BitVec.toNat (BitVec.ofInt (IntKind.bits .i64) n &&& BitVec.ofInt (IntKind.bits .i64) 2147483647)=(n % 2147483648).toNat:=by
  rw[BitVec.toNat_and]
  have e2:(BitVec.ofInt (IntKind.bits .i64) 2147483647).toNat=2 ^ 31 - 1:=rfl
  rw[e2,Nat.and_two_pow_sub_one_eq_mod,BitVec.toNat_ofInt]
  show(n % 18446744073709551616).toNat % 2147483648=_
  omega
 rw[e,Qy (by omega) (by omega)]
 unfold X6
 omega
theorem c0s: ∀ args os,Uy args os=true->Zc PT os.length (Zo os.length CF fun r=>r=Qn args os) CG [] (YK c2k args os):=by
 intro args os h
 unfold Uy at h
 split at h
 ·rename_i n
  apply c6f (G:=fun r=>r=Qn _ _) n
  rw[b9u,a2i]
  rfl
 ·rename_i n q q' r r' ty xs ty' ys
  simp only[Bool.and_eq_true,beq_iff_eq,decide_eq_true_eq]at h
  obtain⟨⟨⟨⟨⟨⟨⟨h1,h2⟩,h3⟩,h4⟩,h5⟩,h6⟩,h7⟩,h8⟩:=h
  subst h1 h2 h3 h4 h5
  apply c8b (G:=fun r=>r=Qn _ _) n r' xs ys
  rw[b9u,a2i,h6,h7]
  have hd:((r'==r')&&(r'==r')&&decide ((r'+1)*8<=1099511627776)&&decide (r'+1<=1099511627776))=true:=by
   rw[decide_eq_true (by omega),decide_eq_true (by omega)];simp
  exact⟨hd,hd,rfl⟩
 ·cases h
def hN(p:List Mono):Zv:=[.obj (.box [.pv (enc p)]),.obj (.box [.pv (.int .i64 0)]),.obj (.box [.pv (.int .i64 0)]),.obj (.box [.pv (.sl 0 true [])]),.obj (.box [.pv (.sl 0 true [])]),.obj (.box [.fn 124 [] [.ptr 3 0,.ptr 4 0]])]
def hR(p:List Mono)(n:Nat)(xs ys:List Int):Zv:=[.obj (.box [.pv (enc p)]),.obj (.box [.pv (.int .i64 0)]),.obj (.box [.pv (.int .i64 0)]),.obj (.box [.row 6 n 0 n]),.obj (.box [.row 7 n 0 n]),.obj (.box [.fn 124 [] [.ptr 3 0,.ptr 4 0]]),.obj (.row false 3 1 (xs.map enc)),.obj (.row false 3 1 (ys.map enc))]
def hNX(p:List Mono):Zv:=[.obj (.box [.pv (enc p)]),.obj (.box [.pv (.int .i64 0)]),.obj (.box [.pv (.int .i64 2)]),.obj (.box [.pv (.sl 0 true [])]),.obj (.box [.pv (.sl 0 true [])]),.obj (.box [.fn 124 [] [.ptr 3 0,.ptr 4 0]]),.fresh,.fresh]
def hRX(p:List Mono)(n:Nat)(xs ys:List Int):Zv:=[.obj (.box [.pv (enc p)]),.obj (.box [.pv (.int .i64 0)]),.obj (.box [.pv (.int .i64 2)]),.obj (.box [.row 6 n 0 n]),.obj (.box [.row 7 n 0 n]),.obj (.box [.fn 124 [] [.ptr 3 0,.ptr 4 0]]),.obj (.row false 3 1 (xs.map enc)),.obj (.row false 3 1 (ys.map enc)),.fresh,.fresh]
def gsI(b:BoxT)(fs:List Fact)(p:List Mono)(k:Nat)(σ:Zv):Prop:=
 ∃ l,Um p b.v ((ZR b fs).take k)=some l∧((k=0∧σ=hN p)∨(0<k∧k<=(ZR b fs).length∧σ=hR p k (l.map WE) (l.map X6)))
def gsX(b:BoxT)(fs:List Fact)(p:List Mono)(σ:Zv):Prop:=Um p b.v (ZR b fs)=none∧(σ=hNX p ∨ ∃ n xs ys,σ=hRX p n xs ys)
theorem P7{b:BoxT}{fs:List Fact}(hv:YI b=true):(ZR b fs).length<=20000:=by
 unfold ZR
 refine Nat.le_trans (List.length_filter_le _ _) ?_
 rw[VL hv,H6]
 exact CJ hv
theorem Gp{b:BoxT}{fs:List Fact}{p:List Mono}{k:Nat}{q:List Int}(hq:(ZR b fs)[k]? = some q)(h:(Y0 p (Ze b.v q)).2≠0):Um p b.v (ZR b fs)=none:=by
 have hk:=(List.getElem?_eq_some_iff.1 hq).1
 have hkp:=(List.getElem?_eq_some_iff.1 hq).2
 have e:ZR b fs=(ZR b fs).take k++q::(ZR b fs).drop (k+1):=by
  rw[<- hkp,<- List.drop_eq_getElem_cons hk,List.take_append_drop]
 rw[e]
 exact AZ h _
def Vw:YB:=fun n st q=>n=0∧Dl YP 0 (.t 32) 177 [33,34] [(13,34)] Vu Ky Qf D7 st q
theorem a5w(b:BoxT)(fs:List Fact)(p:List Mono)(hp:Yb p=true)(hv:YI b=true)(hb:b.v.length<=1000)(k:Nat)(q:List Int)(σ:Zv)(hq:(ZR b fs)[k]? = some q)(h:gsI b fs p k σ):
  ZB YP (fun n S' _=>n=99∧gsI b fs p (k+1) S'.heap) σ.length (fun st=>gsX b fs p st.heap) (.inl Vu) [.seq (.ext 99 [])]
   ⟨ZU 77 0 [(5,.ptr 0 0),(6,.ptr 1 0),(7,.ptr 2 0),(9,.ptr 3 0),(10,.ptr 4 0),(11,.ptr 5 0),(13,.pv (enc (Ze b.v q))),(33,.pv (enc q)),(34,.pv (enc (Ze b.v q)))],σ⟩:=by
 have hk:=(List.getElem?_eq_some_iff.1 hq).1
 have hkp:=(List.getElem?_eq_some_iff.1 hq).2
 have h20:=P7 (fs:=fs) hv
 have ht:(ZR b fs).take (k+1)=(ZR b fs).take k++[q]:=by rw[List.take_succ_eq_append_getElem hk,hkp]
 have hvl:(Ze b.v q).length<=9223372036854775807:=by unfold Ze;rw[List.length_zipWith];omega
 have hpre:preT (fun x:List Mono×List Coef×Unit=>Yb x.1&&Zn x.2.1) (encL (p,Ze b.v q,()))=true:=Zj (p,Ze b.v q,()) rfl (by rw[hp,Zy.2 hvl];rfl)
 obtain⟨l,hl,hσ⟩:=h
 have hlen:=QQ hl
 rw[List.length_take]at hlen
 rcases hσ with ⟨rfl,rfl⟩|⟨h0,h1,rfl⟩
 ·apply b5c (G:=gsX b fs p) (fun n S' _=>n=99∧gsI b fs p (0+1) S'.heap) p q (Ze b.v q)
  refine⟨hpre,Zh (p,Ze b.v q,()) rfl ?_⟩
  refine X3 (fun he=> ?_) fun he=> ?_
  ·have he:(Y0 p (Ze b.v q)).2≠0:=by simpa using he
   exact⟨Gp hq he,.inl rfl⟩
  ·have he:(Y0 p (Ze b.v q)).2=0:=by simpa using he
   have hs:=UV he hl
   rw[<- ht]at hs
   have hnil:l=[]:=List.length_eq_zero_iff.1 (by omega)
   subst hnil
   exact⟨rfl,_,hs,.inr ⟨by omega,by omega,rfl⟩⟩
 ·have hlk:l.length=k:=by omega
  apply b7s (G:=gsX b fs p) (fun n S' _=>n=99∧gsI b fs p (k+1) S'.heap) p q (Ze b.v q) k (l.map WE) (l.map X6)
  refine⟨hpre,Zh (p,Ze b.v q,()) rfl ?_⟩
  refine X3 (fun he=> ?_) fun he=> ?_
  ·have he:(Y0 p (Ze b.v q)).2≠0:=by simpa using he
   exact⟨Gp hq he,.inr ⟨k,_,_,rfl⟩⟩
  ·have he:(Y0 p (Ze b.v q)).2=0:=by simpa using he
   have hs:=UV he hl
   rw[<- ht]at hs
   refine⟨?_,rfl,_,hs,.inr ⟨by omega,by omega,?_⟩⟩
   ·show(k==k&&k==k&&k==k&&3==3&&3==3&&((l.map WE).map (enc:Int->PV)).length==k&&((l.map X6).map (enc:Int->PV)).length==k&&decide (k<=1000000))=true
    rw[List.length_map,List.length_map,List.length_map,List.length_map,hlk,decide_eq_true (by omega)];simp
   ·unfold hR
    rw[List.map_append,List.map_append,List.map_append,List.map_append]
    rfl
theorem b3g(b:BoxT)(fs:List Fact)(p:List Mono)(l:List Int)(hl:l.length<=20000)(hr : ∀ x∈l,Qc x=true)(R:Int×Int)(hR:R=VN l): ∀ (d i:Nat),d+i=l.length ->
  AtM YP Vw 0 (Za Y5 (Zg R)) YR 0 77 [(6,.ptr 0 0),(7,.ptr 1 0),(9,.ptr 2 0),(10,.ptr 3 0),(16,.pv (.int .i64 ((l.map WE).take i).sum)),(17,.pv (.int .i64 ((l.map X6).take i).sum)),(47,.pv (.int .i64 l.length)),(48,.pv (.int .i64 i))]
   [.obj (.box [.pv (.int .i64 0)]),.obj (.box [.pv (.int .i64 0)]),.obj (.box [.row 4 l.length 0 l.length]),.obj (.box [.row 5 l.length 0 l.length]),.obj (.row false 3 1 ((l.map WE).map enc)),.obj (.row false 3 1 ((l.map X6).map enc))]:=by
 have hb1 : ∀ i,((l.map WE).take i).length*(-2147483648:Int)<=((l.map WE).take i).sum∧((l.map WE).take i).sum<=((l.map WE).take i).length*(2147483648:Int):=fun i=>J8 (by
  intro x hx
  obtain⟨n,hn,rfl⟩:=List.mem_map.1 (List.mem_of_mem_take hx)
  exact b5f (hr n hn))
 have hb2 : ∀ i,((l.map X6).take i).length*(0:Int)<=((l.map X6).take i).sum∧((l.map X6).take i).sum<=((l.map X6).take i).length*(2147483647:Int):=fun i=>J8 (by
  intro x hx
  obtain⟨n,hn,rfl⟩:=List.mem_map.1 (List.mem_of_mem_take hx)
  exact b1o n)
 have hc1 : ∀ i,((l.map WE).take i).length<=20000:=fun i=>by rw[List.length_take,List.length_map];omega
 have hc2 : ∀ i,((l.map X6).take i).length<=20000:=fun i=>by rw[List.length_take,List.length_map];omega
 intro d
 induction d with
 | zero=>
  intro i hi
  apply Tx (G:=Zg R) Vw b fs p
  refine ZK (Z4 (by omega)) ?_
  have e1:(l.map WE).take i=l.map WE:=List.take_of_length_le (by rw[List.length_map];omega)
  have e2:(l.map X6).take i=l.map X6:=List.take_of_length_le (by rw[List.length_map];omega)
  have a1:=hb1 i
  have a2:=hb2 i
  have a3:=hc1 i
  have a4:=hc2 i
  rw[e1]at a1 a3
  rw[e2]at a2 a4
  rw[e1,e2,b9u,a2i]
  have hh:WE (l.map X6).sum=(l.map X6).sum / 2147483648:=rfl
  have hw:IntKind.i64.wrap ((l.map WE).sum+WE (l.map X6).sum)=(l.map WE).sum+WE (l.map X6).sum:=Qy (by rw[hh];omega) (by rw[hh];omega)
  rw[hw]
  refine Zh ([(l.map WE).sum+WE (l.map X6).sum,X6 (l.map X6).sum],[2147483648,1],()) rfl ?_
  rw[hR,<- A8 hl hr (H:=(l.map WE).sum+WE (l.map X6).sum) (L:=X6 (l.map X6).sum) rfl rfl]
  exact ZQ rfl
 | succ d ih=>
  intro i hi
  have hlt:i<l.length:=by omega
  have hl1:i<(l.map WE).length:=by rw[List.length_map];omega
  have hl2:i<(l.map X6).length:=by rw[List.length_map];omega
  apply Tx (G:=Zg R) Vw b fs p
  apply ZC (ZW hlt)
  rw[QZ hl1,QZ hl2]
  refine⟨by simp;omega,by simp;omega,rfl,by simp;omega,by simp;omega,rfl,?_⟩
  rw[next (by omega)]
  show AtM YP _ _ _ _ _ _ [_,_,_,_,(16,.pv (.int .i64 (IntKind.i64.wrap (((l.map WE).take i).sum+(l.map WE)[i])))),(17,.pv (.int .i64 (IntKind.i64.wrap (((l.map X6).take i).sum+(l.map X6)[i])))),_,_] _
  have s1:((l.map WE).take i).sum+(l.map WE)[i]=((l.map WE).take (i+1)).sum:=by rw[List.take_succ_eq_append_getElem hl1,List.sum_append];simp
  have s2:((l.map X6).take i).sum+(l.map X6)[i]=((l.map X6).take (i+1)).sum:=by rw[List.take_succ_eq_append_getElem hl2,List.sum_append];simp
  have a1:=hb1 (i+1)
  have a2:=hb2 (i+1)
  have a3:=hc1 (i+1)
  have a4:=hc2 (i+1)
  rw[s1,s2,Qy (by omega) (by omega),Qy (by omega) (by omega)]
  exact ih (i+1) (by omega)
theorem a5r: ∀ x:BoxT×List Fact×List Mono×Unit,(J3 x.1 x.2.1 x.2.2.1&&(!ZI x.2.2.1||(XO x.2.2.1).isEmpty))=true->Kw YP Vw 0 (Za Y5 (Zg (WG x.1 x.2.1 x.2.2.1))) YR [] (Ye b3c (encL x)):=by
 rintro⟨b,fs,p,⟨⟩⟩ hp
 simp only[J3,Bool.and_eq_true,decide_eq_true_eq]at hp
 obtain⟨⟨⟨⟨⟨h1,h2⟩,h3⟩,h4⟩,h5⟩,h6⟩:=hp
 have key:Zp b fs (ZI p) (Yz p)=0->Vw 0 ⟨ZU 77 0 [(5,.ptr 0 0),(6,.ptr 1 0),(7,.ptr 2 0),(9,.ptr 3 0),(10,.ptr 4 0),(11,.ptr 5 0),(13,.undef),(14,.undef),(15,.undef),(32,(.fn 177 [] [(.ptr 6 0),(.ptr 7 0)])),(34,.undef),(35,.undef),(36,.undef),(37,.undef),(38,.undef),(39,.undef),(40,.undef),(41,.undef),(42,.undef),(43,.undef),(44,.undef)],
   hN p++[(.obj (.box [(.pv (.sl 1 false (List.map enc b.v))),(.pv (.int .i64 b.m))])),(.obj (.box [(.pv (.sl 3 false (List.map enc fs)))]))]⟩ (fun x S'=>Jw YP Vw 0 (Za Y5 (Zg (WG b fs p))) YR 0 x S'):=by
  intro h0
  obtain⟨hv,_⟩:=Ui _ _ _ _ h0
  have h20:=P7 (fs:=fs) hv
  refine⟨rfl,[6,7],[[enc b.v,.int .i64 b.m],[enc fs]],[5,6,7,9,10,11],[],⟨ZU 77 0 [(5,.ptr 0 0),(6,.ptr 1 0),(7,.ptr 2 0),(9,.ptr 3 0),(10,.ptr 4 0),(11,.ptr 5 0)],hN p⟩,gsI b fs p,gsX b fs p,rfl,by simp,rfl,?_,by kernel_rfl,Bi hv h2 h4,⟨[],rfl,.inl ⟨rfl,rfl⟩⟩,?_,?_,?_⟩
  ·intro j l' ps hl hps
   match j with
   | 0=>cases hl;cases hps;rfl
   | 1=>cases hl;cases hps;rfl
   | j+2=>simp at hl
  ·intro k x σ hx hI
   rw[Tf,List.getElem?_map]at hx
   obtain⟨q,hq,rfl⟩:=Option.map_eq_some_iff.1 hx
   have e:Te [(13,34)] (Cq [33,34] ((Ky (q,Ze b.v q)).map .pv) (ZU 77 0 [(5,.ptr 0 0),(6,.ptr 1 0),(7,.ptr 2 0),(9,.ptr 3 0),(10,.ptr 4 0),(11,.ptr 5 0)]))=ZU 77 0 [(5,.ptr 0 0),(6,.ptr 1 0),(7,.ptr 2 0),(9,.ptr 3 0),(10,.ptr 4 0),(11,.ptr 5 0),(13,.pv (enc (Ze b.v q))),(33,.pv (enc q)),(34,.pv (enc (Ze b.v q)))]:=by kernel_rfl
   have:=a5w b fs p h5 hv h4 k q σ hq hI
   rw[<- e]at this
   exact this
  ·intro σ hI
   rw[Tf,List.length_map]at hI
   obtain⟨l,hl,hσ⟩:=hI
   rw[List.take_length]at hl
   have hT:WG b fs p=VN l:=by unfold WG;rw[if_pos h0,hl]
   have hlen:=QQ hl
   rcases hσ with ⟨e0,rfl⟩|⟨_,_,rfl⟩
   ·refine a4y (G:=Zg (WG b fs p)) Vw b fs p ?_
    refine a6s (G:=Zg (WG b fs p)) Vw b fs p (Zh ([0,0],[2147483648,1],()) rfl ?_)
    have:l=[]:=List.length_eq_zero_iff.1 (by omega)
    rw[hT,this]
    exact ZQ (x:=((0:Int),(0:Int))) rfl
   ·refine a6d (G:=Zg (WG b fs p)) Vw b fs p _ _ _ ?_
    have:=b3g b fs p l (by omega) (SG hl) (WG b fs p) hT l.length 0 (by omega)
    rw[hlen]at this
    exact this
  ·intro σ hX
   obtain⟨hn,hσ⟩:=hX
   have hT:WG b fs p=(0,2):=by unfold WG;rw[if_pos h0,hn]
   rcases hσ with rfl|⟨n,xs,ys,rfl⟩
   ·exact EN (G:=Zg (WG b fs p)) Vw b fs p (by rw[hT];exact ZQ (x:=((0:Int),(2:Int))) rfl)
   ·exact Ox (G:=Zg (WG b fs p)) Vw b fs p n xs ys (by rw[hT];exact ZQ (x:=((0:Int),(2:Int))) rfl)
 have hbad:Zp b fs (ZI p) (Yz p)≠0->Zg (WG b fs p) (.tup [.int .i64 0,.int .i64 (Zp b fs (ZI p) (Yz p))]):=by
  intro h0
  unfold WG
  rw[if_neg h0]
  exact ZQ (x:=((0:Int),Zp b fs (ZI p) (Yz p))) rfl
 have hn:Zp b fs (ZI p) (Yz p)=Zp b fs (ZI p) []:=by
  cases hv:ZI p
  ·unfold Zp;simp
  ·rw[hv]at h6
   rw[a7o (by simpa using h6)]
 rw[hn]at key hbad
 refine b9x Vw b fs p ⟨Zj (p,()) rfl h5,Zh (p,()) rfl ⟨?_,Zj (b,fs,ZI p,⟨⟩,()) rfl (by simp[h1,h2,h3]),Zh (b,fs,ZI p,⟨⟩,()) rfl ?_⟩⟩
 ·show(VG (List Mono) (enc p)&&Yb (dec (enc p:PV))&&(!ZI (dec (enc p:PV))||(XO (dec (enc p:PV))).isEmpty))=true
  rw[ZY,Enc.dec_enc,h5,h6];rfl
 ·show if (Zp b fs (ZI p) [] != 0)=true then _ else _
  by_cases h0:Zp b fs (ZI p) []=0
  ·rw[if_neg (by simp[h0])]
   refine⟨?_,key h0⟩
   show(VG (List Str) (enc b.v)&&VG (List Fact) (enc fs))=true
   rw[ZY,ZY];rfl
  ·rw[if_pos (by simpa using h0)]
   exact hbad h0
def VC:YB:=fun n st q=>n=0∧Dl YN 0 (.t 32) 177 [33,34] [(13,34)] Uk Ky Qf D7 st q
theorem a3z(b:BoxT)(fs:List Fact)(p:List Mono)(hp:Yb p=true)(hv:YI b=true)(hb:b.v.length<=1000)(k:Nat)(q:List Int)(σ:Zv)(hq:(ZR b fs)[k]? = some q)(h:gsI b fs p k σ):
  ZB YN (fun n S' _=>n=99∧gsI b fs p (k+1) S'.heap) σ.length (fun st=>gsX b fs p st.heap) (.inl Uk) [.seq (.ext 99 [])]
   ⟨ZU 77 0 [(5,.ptr 0 0),(6,.ptr 1 0),(7,.ptr 2 0),(9,.ptr 3 0),(10,.ptr 4 0),(11,.ptr 5 0),(13,.pv (enc (Ze b.v q))),(33,.pv (enc q)),(34,.pv (enc (Ze b.v q)))],σ⟩:=by
 have hk:=(List.getElem?_eq_some_iff.1 hq).1
 have hkp:=(List.getElem?_eq_some_iff.1 hq).2
 have h20:=P7 (fs:=fs) hv
 have ht:(ZR b fs).take (k+1)=(ZR b fs).take k++[q]:=by rw[List.take_succ_eq_append_getElem hk,hkp]
 have hvl:(Ze b.v q).length<=9223372036854775807:=by unfold Ze;rw[List.length_zipWith];omega
 have hpre:preT (fun x:List Mono×List Coef×Unit=>Yb x.1&&Zn x.2.1) (encL (p,Ze b.v q,()))=true:=Zj (p,Ze b.v q,()) rfl (by rw[hp,Zy.2 hvl];rfl)
 obtain⟨l,hl,hσ⟩:=h
 have hlen:=QQ hl
 rw[List.length_take]at hlen
 rcases hσ with ⟨rfl,rfl⟩|⟨h0,h1,rfl⟩
 ·apply b0y (G:=gsX b fs p) (fun n S' _=>n=99∧gsI b fs p (0+1) S'.heap) p q (Ze b.v q)
  refine⟨hpre,Zh (p,Ze b.v q,()) rfl ?_⟩
  refine X3 (fun he=> ?_) fun he=> ?_
  ·have he:(Y0 p (Ze b.v q)).2≠0:=by simpa using he
   exact⟨Gp hq he,.inl rfl⟩
  ·have he:(Y0 p (Ze b.v q)).2=0:=by simpa using he
   have hs:=UV he hl
   rw[<- ht]at hs
   have hnil:l=[]:=List.length_eq_zero_iff.1 (by omega)
   subst hnil
   exact⟨rfl,_,hs,.inr ⟨by omega,by omega,rfl⟩⟩
 ·have hlk:l.length=k:=by omega
  apply b3s (G:=gsX b fs p) (fun n S' _=>n=99∧gsI b fs p (k+1) S'.heap) p q (Ze b.v q) k (l.map WE) (l.map X6)
  refine⟨hpre,Zh (p,Ze b.v q,()) rfl ?_⟩
  refine X3 (fun he=> ?_) fun he=> ?_
  ·have he:(Y0 p (Ze b.v q)).2≠0:=by simpa using he
   exact⟨Gp hq he,.inr ⟨k,_,_,rfl⟩⟩
  ·have he:(Y0 p (Ze b.v q)).2=0:=by simpa using he
   have hs:=UV he hl
   rw[<- ht]at hs
   refine⟨?_,rfl,_,hs,.inr ⟨by omega,by omega,?_⟩⟩
   ·show(k==k&&k==k&&k==k&&3==3&&3==3&&((l.map WE).map (enc:Int->PV)).length==k&&((l.map X6).map (enc:Int->PV)).length==k&&decide (k<=1000000))=true
    rw[List.length_map,List.length_map,List.length_map,List.length_map,hlk,decide_eq_true (by omega)];simp
   ·unfold hR
    rw[List.map_append,List.map_append,List.map_append,List.map_append]
    rfl
theorem b4c(b:BoxT)(fs:List Fact)(p:List Mono)(l:List Int)(hl:l.length<=20000)(hr : ∀ x∈l,Qc x=true)(R:Int×Int)(hR:R=VN l): ∀ (d i:Nat),d+i=l.length ->
  AtM YN VC 0 (Za Xb (Zg R)) Y8 0 77 [(6,.ptr 0 0),(7,.ptr 1 0),(9,.ptr 2 0),(10,.ptr 3 0),(16,.pv (.int .i64 ((l.map WE).take i).sum)),(17,.pv (.int .i64 ((l.map X6).take i).sum)),(47,.pv (.int .i64 l.length)),(48,.pv (.int .i64 i))]
   [.obj (.box [.pv (.int .i64 0)]),.obj (.box [.pv (.int .i64 0)]),.obj (.box [.row 4 l.length 0 l.length]),.obj (.box [.row 5 l.length 0 l.length]),.obj (.row false 3 1 ((l.map WE).map enc)),.obj (.row false 3 1 ((l.map X6).map enc))]:=by
 have hb1 : ∀ i,((l.map WE).take i).length*(-2147483648:Int)<=((l.map WE).take i).sum∧((l.map WE).take i).sum<=((l.map WE).take i).length*(2147483648:Int):=fun i=>J8 (by
  intro x hx
  obtain⟨n,hn,rfl⟩:=List.mem_map.1 (List.mem_of_mem_take hx)
  exact b5f (hr n hn))
 have hb2 : ∀ i,((l.map X6).take i).length*(0:Int)<=((l.map X6).take i).sum∧((l.map X6).take i).sum<=((l.map X6).take i).length*(2147483647:Int):=fun i=>J8 (by
  intro x hx
  obtain⟨n,hn,rfl⟩:=List.mem_map.1 (List.mem_of_mem_take hx)
  exact b1o n)
 have hc1 : ∀ i,((l.map WE).take i).length<=20000:=fun i=>by rw[List.length_take,List.length_map];omega
 have hc2 : ∀ i,((l.map X6).take i).length<=20000:=fun i=>by rw[List.length_take,List.length_map];omega
 intro d
 induction d with
 | zero=>
  intro i hi
  apply RU (G:=Zg R) VC b fs p
  refine ZK (Z4 (by omega)) ?_
  have e1:(l.map WE).take i=l.map WE:=List.take_of_length_le (by rw[List.length_map];omega)
  have e2:(l.map X6).take i=l.map X6:=List.take_of_length_le (by rw[List.length_map];omega)
  have a1:=hb1 i
  have a2:=hb2 i
  have a3:=hc1 i
  have a4:=hc2 i
  rw[e1]at a1 a3
  rw[e2]at a2 a4
  rw[e1,e2,b9u,a2i]
  have hh:WE (l.map X6).sum=(l.map X6).sum / 2147483648:=rfl
  have hw:IntKind.i64.wrap ((l.map WE).sum+WE (l.map X6).sum)=(l.map WE).sum+WE (l.map X6).sum:=Qy (by rw[hh];omega) (by rw[hh];omega)
  rw[hw]
  refine Zh ([(l.map WE).sum+WE (l.map X6).sum,X6 (l.map X6).sum],[2147483648,1],()) rfl ?_
  rw[hR,<- A8 hl hr (H:=(l.map WE).sum+WE (l.map X6).sum) (L:=X6 (l.map X6).sum) rfl rfl]
  exact ZQ rfl
 | succ d ih=>
  intro i hi
  have hlt:i<l.length:=by omega
  have hl1:i<(l.map WE).length:=by rw[List.length_map];omega
  have hl2:i<(l.map X6).length:=by rw[List.length_map];omega
  apply RU (G:=Zg R) VC b fs p
  apply ZC (ZW hlt)
  rw[QZ hl1,QZ hl2]
  refine⟨by simp;omega,by simp;omega,rfl,by simp;omega,by simp;omega,rfl,?_⟩
  rw[next (by omega)]
  show AtM YN _ _ _ _ _ _ [_,_,_,_,(16,.pv (.int .i64 (IntKind.i64.wrap (((l.map WE).take i).sum+(l.map WE)[i])))),(17,.pv (.int .i64 (IntKind.i64.wrap (((l.map X6).take i).sum+(l.map X6)[i])))),_,_] _
  have s1:((l.map WE).take i).sum+(l.map WE)[i]=((l.map WE).take (i+1)).sum:=by rw[List.take_succ_eq_append_getElem hl1,List.sum_append];simp
  have s2:((l.map X6).take i).sum+(l.map X6)[i]=((l.map X6).take (i+1)).sum:=by rw[List.take_succ_eq_append_getElem hl2,List.sum_append];simp
  have a1:=hb1 (i+1)
  have a2:=hb2 (i+1)
  have a3:=hc1 (i+1)
  have a4:=hc2 (i+1)
  rw[s1,s2,Qy (by omega) (by omega),Qy (by omega) (by omega)]
  exact ih (i+1) (by omega)
theorem a7z: ∀ x:BoxT×List Fact×List Mono×Unit,(J3 x.1 x.2.1 x.2.2.1&&(ZI x.2.2.1&& !(XO x.2.2.1).isEmpty))=true->Kw YN VC 0 (Za Xb (Zg (WG x.1 x.2.1 x.2.2.1))) Y8 [] (Ye b1h (encL x)):=by
 rintro⟨b,fs,p,⟨⟩⟩ hp
 simp only[J3,Bool.and_eq_true,decide_eq_true_eq]at hp
 obtain⟨⟨⟨⟨⟨h1,h2⟩,h3⟩,h4⟩,h5⟩,h6⟩:=hp
 have key:Zp b fs (ZI p) (Yz p)=0->VC 0 ⟨ZU 77 0 [(5,.ptr 0 0),(6,.ptr 1 0),(7,.ptr 2 0),(9,.ptr 3 0),(10,.ptr 4 0),(11,.ptr 5 0),(13,.undef),(14,.undef),(15,.undef),(32,(.fn 177 [] [(.ptr 6 0),(.ptr 7 0)])),(34,.undef),(35,.undef),(36,.undef),(37,.undef),(38,.undef),(39,.undef),(40,.undef),(41,.undef),(42,.undef),(43,.undef),(44,.undef)],
   hN p++[(.obj (.box [(.pv (.sl 1 false (List.map enc b.v))),(.pv (.int .i64 b.m))])),(.obj (.box [(.pv (.sl 3 false (List.map enc fs)))]))]⟩ (fun x S'=>Jw YN VC 0 (Za Xb (Zg (WG b fs p))) Y8 0 x S'):=by
  intro h0
  obtain⟨hv,_⟩:=Ui _ _ _ _ h0
  have h20:=P7 (fs:=fs) hv
  refine⟨rfl,[6,7],[[enc b.v,.int .i64 b.m],[enc fs]],[5,6,7,9,10,11],[],⟨ZU 77 0 [(5,.ptr 0 0),(6,.ptr 1 0),(7,.ptr 2 0),(9,.ptr 3 0),(10,.ptr 4 0),(11,.ptr 5 0)],hN p⟩,gsI b fs p,gsX b fs p,rfl,by simp,rfl,?_,by kernel_rfl,Bi hv h2 h4,⟨[],rfl,.inl ⟨rfl,rfl⟩⟩,?_,?_,?_⟩
  ·intro j l' ps hl hps
   match j with
   | 0=>cases hl;cases hps;rfl
   | 1=>cases hl;cases hps;rfl
   | j+2=>simp at hl
  ·intro k x σ hx hI
   rw[Tf,List.getElem?_map]at hx
   obtain⟨q,hq,rfl⟩:=Option.map_eq_some_iff.1 hx
   have e:Te [(13,34)] (Cq [33,34] ((Ky (q,Ze b.v q)).map .pv) (ZU 77 0 [(5,.ptr 0 0),(6,.ptr 1 0),(7,.ptr 2 0),(9,.ptr 3 0),(10,.ptr 4 0),(11,.ptr 5 0)]))=ZU 77 0 [(5,.ptr 0 0),(6,.ptr 1 0),(7,.ptr 2 0),(9,.ptr 3 0),(10,.ptr 4 0),(11,.ptr 5 0),(13,.pv (enc (Ze b.v q))),(33,.pv (enc q)),(34,.pv (enc (Ze b.v q)))]:=by kernel_rfl
   have:=a3z b fs p h5 hv h4 k q σ hq hI
   rw[<- e]at this
   exact this
  ·intro σ hI
   rw[Tf,List.length_map]at hI
   obtain⟨l,hl,hσ⟩:=hI
   rw[List.take_length]at hl
   have hT:WG b fs p=VN l:=by unfold WG;rw[if_pos h0,hl]
   have hlen:=QQ hl
   rcases hσ with ⟨e0,rfl⟩|⟨_,_,rfl⟩
   ·refine a5q (G:=Zg (WG b fs p)) VC b fs p ?_
    refine a3r (G:=Zg (WG b fs p)) VC b fs p (Zh ([0,0],[2147483648,1],()) rfl ?_)
    have:l=[]:=List.length_eq_zero_iff.1 (by omega)
    rw[hT,this]
    exact ZQ (x:=((0:Int),(0:Int))) rfl
   ·refine a5y (G:=Zg (WG b fs p)) VC b fs p _ _ _ ?_
    have:=b4c b fs p l (by omega) (SG hl) (WG b fs p) hT l.length 0 (by omega)
    rw[hlen]at this
    exact this
  ·intro σ hX
   obtain⟨hn,hσ⟩:=hX
   have hT:WG b fs p=(0,2):=by unfold WG;rw[if_pos h0,hn]
   rcases hσ with rfl|⟨n,xs,ys,rfl⟩
   ·exact Oj (G:=Zg (WG b fs p)) VC b fs p (by rw[hT];exact ZQ (x:=((0:Int),(2:Int))) rfl)
   ·exact Om (G:=Zg (WG b fs p)) VC b fs p n xs ys (by rw[hT];exact ZQ (x:=((0:Int),(2:Int))) rfl)
 have hbad:Zp b fs (ZI p) (Yz p)≠0->Zg (WG b fs p) (.tup [.int .i64 0,.int .i64 (Zp b fs (ZI p) (Yz p))]):=by
  intro h0
  unfold WG
  rw[if_neg h0]
  exact ZQ (x:=((0:Int),Zp b fs (ZI p) (Yz p))) rfl
 have hpv:ZI p=true:=by simp at h6;exact h6.1
 have hne:(XO p).isEmpty=false:=by simp only[Bool.and_eq_true,Bool.not_eq_true']at h6;exact h6.2
 refine c3d VC b fs p ⟨Zj (p,()) rfl h5,Zh (p,()) rfl ⟨?_,?_⟩⟩
 ·show(VG (List Mono) (enc p)&&Yb (dec (enc p:PV))&&ZI (dec (enc p:PV))&& !(XO (dec (enc p:PV))).isEmpty)=true
  rw[ZY,Enc.dec_enc,h5,hpv,hne];rfl
 ·have hmd:Ul (enc p)=p:=Enc.dec_enc p
  rw[hmd,a1t,LJ,U1]
  have hnl:(Yz p).length<=480:=by
   have a:=a6l p
   have c:=NP p (Gm hpv).2 p.length (Nat.le_refl _)
   unfold UY at c
   rw[List.take_length]at c
   have:=(Gm hpv).1
   unfold XO at a
   omega
  refine⟨?_,?_⟩
  ·show(VG BoxT (enc b)&&VG (List Fact) (enc fs)&&9==9&&Ti (Yz p).length (Yz p).length ((Yz p).map enc)&&decide ((Yz p).length<=1000)&& !((Yz p).map (enc:Str->PV)).isEmpty&&ZG (dec (enc b:PV))&&Zk (dec (enc fs:PV))&&decide ((dec (enc fs:PV):List Fact).length<=100)&&decide (((Yz p).map (enc:Str->PV)).length<=1000))=true
   rw[List.length_map,ZY,ZY,Enc.dec_enc,Enc.dec_enc,CV rfl (by omega),h1,h2,decide_eq_true h3,decide_eq_true (show(Yz p).length<=1000 by omega)]
   have:((Yz p).map (enc:Str->PV)).isEmpty=false:=by
    have:=b6w hne
    rw[List.isEmpty_eq_false_iff]at this ⊢
    intro h
    exact this (List.map_eq_nil_iff.1 h)
   rw[this];simp
  ·show if (Zp b fs (ZI p) (Yz p) != 0)=true then _ else _
   by_cases h0:Zp b fs (ZI p) (Yz p)=0
   ·rw[if_neg (by simp[h0])]
    refine⟨?_,key h0⟩
    show(VG (List Str) (enc b.v)&&VG (List Fact) (enc fs))=true
    rw[ZY,ZY];rfl
   ·rw[if_pos (by simpa using h0)]
    exact hbad h0
end Go.Pl

namespace Go.Pl
open Go.RowKit
open Enc (enc dec is)
open EncL (encL decL isL)
def xN:Str:=⟨[110]⟩
def xM:Str:=⟨[109]⟩
def KF(a b c:Int):Fact:=⟨false,Vm (Vm ⟨c,[]⟩ xN a) xM b⟩
end Go.Pl

namespace Go.Pl
open Go.RowKit
open Enc (enc dec is)
open EncL (encL decL isL)
set_option maxRecDepth 100000
def Gz:IC:=(.seq (.reg [⟨(some 2),(.mv (.c (.bool false))),0,none⟩] none) (.seq (.seq (.reg [⟨(some 6),(.mv (.t 0)),0,none⟩,⟨(some 7),(.len 1 (.t 6)),0,none⟩,⟨(some 8),(.bin .num .gtr (.t 7) (.c (.int .i64 60))),0,none⟩] none) (.cond (.t 8) (.seq (.reg [⟨(some 2),(.mv (.c (.bool false))),0,none⟩] none) .ret) .skip)) (.seq (.seq (.reg [⟨(some 3),(.mv (.c (.int .i64 0))),0,none⟩] none) (.block 0 (.loop [3,0] (.seq (.seq (.reg [⟨(some 9),(.mv (.t 3)),0,none⟩,⟨(some 10),(.mv (.t 0)),0,none⟩,⟨(some 11),(.len 1 (.t 10)),0,none⟩,⟨(some 12),(.bin .num .lss (.t 9) (.t 11)),0,none⟩] none) (.cond (.t 12) .skip (.exit 0))) (.seq (.block 1 (.seq (.reg [⟨(some 15),(.mv (.t 0)),0,none⟩,⟨(some 16),(.mv (.t 3)),0,none⟩,⟨(some 17),(.iaddr 2 (.t 15) (.t 16)),0,none⟩,⟨(some 18),(.load true [(.int .i64),(.sl 1)] (.t 17)),0,none⟩,⟨(some 4),(.alloc (.agg [(.int .i64 0),(.sl 0 true [])])),0,none⟩,⟨none,(.store 2 (.t 4) (.t 18)),1,none⟩] none) (.seq (.seq (.reg [⟨(some 19),(.faddr 0 (.t 4)),0,none⟩,⟨(some 20),(.load false [(.int .i64)] (.t 19)),0,none⟩,⟨(some 21),(.bin .num .eql (.t 20) (.c (.int .i64 0))),0,none⟩,⟨(some 22),(.mv (.t 21)),0,none⟩,⟨(some 23),(.faddr 0 (.t 4)),0,(some (22,false))⟩,⟨(some 24),(.load false [(.int .i64)] (.t 23)),0,(some (22,false))⟩,⟨(some 25),(.bin .num .lss (.t 24) (.c (.int .i64 (-1099511627776)))),0,(some (22,false))⟩,⟨(some 26),(.pick (.t 22) (.c (.bool true)) (.t 25)),0,none⟩,⟨(some 27),(.mv (.t 26)),0,none⟩,⟨(some 28),(.faddr 0 (.t 4)),0,(some (27,false))⟩,⟨(some 29),(.load false [(.int .i64)] (.t 28)),0,(some (27,false))⟩,⟨(some 30),(.bin .num .gtr (.t 29) (.c (.int .i64 1099511627776))),0,(some (27,false))⟩,⟨(some 31),(.pick (.t 27) (.c (.bool true)) (.t 30)),0,none⟩,⟨(some 32),(.mv (.t 31)),0,none⟩,⟨(some 33),(.faddr 1 (.t 4)),0,(some (32,false))⟩,⟨(some 34),(.load false [(.sl 1)] (.t 33)),0,(some (32,false))⟩,⟨(some 35),(.len 1 (.t 34)),0,(some (32,false))⟩,⟨(some 36),(.bin .num .gtr (.t 35) (.c (.int .i64 8))),0,(some (32,false))⟩,⟨(some 37),(.pick (.t 32) (.c (.bool true)) (.t 36)),0,none⟩,⟨(some 38),(.mv (.t 37)),0,none⟩,⟨(some 39),(.mv (.t 3)),0,(some (38,false))⟩,⟨(some 40),(.bin .num .gtr (.t 39) (.c (.int .i64 0))),0,(some (38,false))⟩,⟨(some 41),(.mv (.t 40)),0,(some (38,false))⟩,⟨(some 42),(.mv (.t 0)),0,(some (41,true))⟩,⟨(some 43),(.mv (.t 3)),0,(some (41,true))⟩,⟨(some 44),(.bin .num .sub (.t 43) (.c (.int .i64 1))),0,(some (41,true))⟩,⟨(some 45),(.iaddr 2 (.t 42) (.t 44)),0,(some (41,true))⟩,⟨(some 46),(.faddr 1 (.t 45)),0,(some (41,true))⟩,⟨(some 47),(.load false [(.sl 1)] (.t 46)),0,(some (41,true))⟩,⟨(some 48),(.faddr 1 (.t 4)),0,(some (41,true))⟩,⟨(some 49),(.load false [(.sl 1)] (.t 48)),0,(some (41,true))⟩,⟨(some 50),(.call (.c (.fn 195)) [(.t 47),(.t 49)]),0,(some (41,true))⟩,⟨(some 51),(.bin .num .geq (.t 50) (.c (.int .i64 0))),2,(some (41,true))⟩,⟨(some 52),(.pick (.t 41) (.t 51) (.c (.bool false))),2,(some (38,false))⟩,⟨(some 53),(.pick (.t 38) (.c (.bool true)) (.t 52)),2,none⟩] (some [[],[0],[1,0],[2,1,0],[3,2,1,0],[4,3,2,1,0],[5,3,4,2,1,0],[3,6,2,1,0,5,4],[7,3,6,2,1,0,5,4],[8,7,3,6,2,1,0,5,4],[9,8,7,3,6,2,1,0,5,4],[10,8,9,7,3,6,2,1,0,5,4],[8,11,7,3,6,2,1,0,5,4,10,9],[12,8,11,7,3,6,2,1,0,5,4,10,9],[13,12,8,11,7,3,6,2,1,0,5,4,10,9],[14,13,12,8,11,7,3,6,2,1,0,5,4,10,9],[15,13,14,12,8,11,7,3,6,2,1,0,5,4,10,9],[16,13,15,14,12,8,11,7,3,6,2,1,0,5,4,10,9],[13,17,12,8,11,7,3,6,2,1,0,5,4,10,9,16,15,14],[18,13,17,12,8,11,7,3,6,2,1,0,5,4,10,9,16,15,14],[19,18,13,17,12,8,11,7,3,6,2,1,0,5,4,10,9,16,15,14],[20,19,18,13,17,12,8,11,7,3,6,2,1,0,5,4,10,9,16,15,14],[21,19,20,18,13,17,12,8,11,7,3,6,2,1,0,5,4,10,9,16,15,14],[22,21,19,20,18,13,17,12,8,11,7,3,6,2,1,0,5,4,10,9,16,15,14],[22,21,19,20,18,13,17,12,8,11,7,3,6,2,1,0,5,4,10,9,16,15,14],[24,22,21,19,20,18,13,17,12,8,11,7,3,6,2,1,0,5,4,10,9,16,15,14],[23,25,22,21,19,20,18,13,17,12,8,11,7,3,6,2,1,0,5,4,10,9,16,15,14,24],[26,22,23,25,21,19,20,18,13,17,12,8,11,7,3,6,2,1,0,5,4,10,9,16,15,14,24],[27,22,26,23,25,21,19,20,18,13,17,12,8,11,7,3,6,2,1,0,5,4,10,9,16,15,14,24],[22,21,19,20,18,13,17,12,8,11,7,3,6,2,1,0,5,4,10,9,16,15,14],[29,22,21,19,20,18,13,17,12,8,11,7,3,6,2,1,0,5,4,10,9,16,15,14],[28,30,22,27,26,23,25,21,19,20,18,13,17,12,8,11,7,3,6,2,1,0,5,4,10,9,16,15,14,24,29],[31,22,28,30,27,26,23,25,21,19,20,18,13,17,12,8,11,7,3,6,2,1,0,5,4,10,9,16,15,14,24,29],[22,32,19,21,20,18,13,17,12,8,11,7,3,6,2,1,0,5,4,10,9,16,15,14,31,28,30,27,26,23,25,24,29],[19,33,18,13,17,12,8,11,7,3,6,2,1,0,5,4,10,9,16,15,14,22,32,21,20,31,28,30,27,26,23,25,24,29]])) (.cond (.t 53) (.seq (.reg [⟨(some 2),(.mv (.c (.bool false))),0,none⟩] none) .ret) .skip)) (.seq (.reg [⟨(some 5),(.mv (.c (.int .i64 0))),0,none⟩] none) (.block 2 (.loop [5,4,3,0] (.seq (.seq (.reg [⟨(some 54),(.mv (.t 5)),0,none⟩,⟨(some 55),(.faddr 1 (.t 4)),0,none⟩,⟨(some 56),(.load false [(.sl 1)] (.t 55)),0,none⟩,⟨(some 57),(.len 1 (.t 56)),0,none⟩,⟨(some 58),(.bin .num .lss (.t 54) (.t 57)),0,none⟩] none) (.cond (.t 58) .skip (.exit 2))) (.seq (.block 3 (.seq (.reg [⟨(some 61),(.faddr 1 (.t 4)),0,none⟩,⟨(some 62),(.load false [(.sl 1)] (.t 61)),0,none⟩,⟨(some 63),(.mv (.t 5)),0,none⟩,⟨(some 64),(.iaddr 1 (.t 62) (.t 63)),0,none⟩,⟨(some 65),(.load false [.str] (.t 64)),0,none⟩,⟨(some 66),(.call (.c (.fn 84)) [(.t 65)]),0,none⟩,⟨(some 67),(.un .not (.t 66)),2,none⟩,⟨(some 68),(.mv (.t 67)),2,none⟩,⟨(some 69),(.mv (.t 5)),2,(some (68,false))⟩,⟨(some 70),(.bin .num .gtr (.t 69) (.c (.int .i64 0))),2,(some (68,false))⟩,⟨(some 71),(.mv (.t 70)),2,(some (68,false))⟩,⟨(some 72),(.faddr 1 (.t 4)),2,(some (71,true))⟩,⟨(some 73),(.load false [(.sl 1)] (.t 72)),2,(some (71,true))⟩,⟨(some 74),(.mv (.t 5)),2,(some (71,true))⟩,⟨(some 75),(.bin .num .sub (.t 74) (.c (.int .i64 1))),2,(some (71,true))⟩,⟨(some 76),(.iaddr 1 (.t 73) (.t 75)),2,(some (71,true))⟩,⟨(some 77),(.load false [.str] (.t 76)),2,(some (71,true))⟩,⟨(some 78),(.faddr 1 (.t 4)),2,(some (71,true))⟩,⟨(some 79),(.load false [(.sl 1)] (.t 78)),2,(some (71,true))⟩,⟨(some 80),(.mv (.t 5)),2,(some (71,true))⟩,⟨(some 81),(.iaddr 1 (.t 79) (.t 80)),2,(some (71,true))⟩,⟨(some 82),(.load false [.str] (.t 81)),2,(some (71,true))⟩,⟨(some 83),(.bin .num .gtr (.t 77) (.t 82)),2,(some (71,true))⟩,⟨(some 84),(.pick (.t 71) (.t 83) (.c (.bool false))),2,(some (68,false))⟩,⟨(some 85),(.pick (.t 68) (.c (.bool true)) (.t 84)),2,none⟩] (some [[],[0],[],[1,2,0],[3,1,2,0],[4,3,1,2,0],[5,4,3,1,2,0],[6,5,4,3,1,2,0],[7,6,5,4,3,1,2,0],[8,7,6,5,4,3,1,2,0],[9,7,8,6,5,4,3,1,2,0],[10,9,7,8,6,5,4,3,1,2,0],[11,10,9,7,8,6,5,4,3,1,2,0],[10,9,7,8,6,5,4,3,1,2,0],[13,10,9,7,8,6,5,4,3,1,2,0],[12,14,10,11,9,7,8,6,5,4,3,1,2,0,13],[15,10,12,14,11,9,7,8,6,5,4,3,1,2,0,13],[10,9,7,8,6,5,4,3,1,2,0],[17,10,9,7,8,6,5,4,3,1,2,0],[10,9,7,8,6,5,4,3,1,2,0],[18,19,10,17,9,7,8,6,5,4,3,1,2,0],[20,10,18,19,17,9,7,8,6,5,4,3,1,2,0],[16,21,10,15,12,14,11,9,7,8,6,5,4,3,1,2,0,13,20,18,19,17],[10,22,7,9,8,6,5,4,3,1,2,0,16,21,15,12,14,11,13,20,18,19,17],[7,23,6,5,4,3,1,2,0,10,22,9,8,16,21,15,12,14,11,13,20,18,19,17]])) (.cond (.t 85) (.seq (.reg [⟨(some 2),(.mv (.c (.bool false))),0,none⟩] none) .ret) .skip))) (.reg [⟨(some 59),(.mv (.t 5)),0,none⟩,⟨(some 60),(.bin .num .add (.t 59) (.c (.int .i64 1))),0,none⟩,⟨(some 5),(.mv (.t 60)),0,none⟩] none))))))))) (.reg [⟨(some 13),(.mv (.t 3)),0,none⟩,⟨(some 14),(.bin .num .add (.t 13) (.c (.int .i64 1))),0,none⟩,⟨(some 3),(.mv (.t 14)),0,none⟩] none)))))) (.seq (.reg [⟨(some 2),(.mv (.c (.bool true))),0,none⟩] none) .ret))))
def Gf:List IRes:=[(.tmp 2)]
abbrev c1v:Nat:=86
def AO:ZF:=Xe []
theorem c7i{G:PV->Prop}(h:At AO 0 (Za Gf G) Gz 0 86 [(0,(.pv (.sl 2 false []))),(3,(.pv (.int .i64 0)))] []):Zc AO 0 (Za Gf G) Gz [] (Ye 86 [.sl 2 false []]):=Zc.tp (.lit (.lit (.nil))) h (by kernel_rfl)
theorem b8x{G:PV->Prop}(h:G ((.bool true))):At AO 0 (Za Gf G) Gz 0 86 [(0,.pv (.sl 2 false [])),(3,.pv (.int .i64 0))] []:=At.tp (.lit (.lit (.nil))) h (by kernel_rfl)
def KR:IC:=(.seq (.reg [⟨(some 2),(.mv (.c (.sl 0 true []))),0,none⟩] none) (.seq (.reg [⟨(some 3),(.mv (.c (.sl 0 true []))),0,none⟩] none) (.seq (.seq (.reg [⟨(some 7),(.mv (.t 0)),0,none⟩,⟨(some 8),(.call (.c (.fn 131)) [(.t 7)]),0,none⟩,⟨(some 9),(.un .not (.t 8)),2,none⟩] none) (.cond (.t 9) (.seq (.reg [⟨(some 2),(.mv (.c (.sl 0 true []))),0,none⟩] none) .ret) .skip)) (.seq (.seq (.reg [⟨(some 4),(.mv (.c (.int .i64 0))),0,none⟩] none) (.block 0 (.loop [4,0,3] (.seq (.seq (.reg [⟨(some 10),(.mv (.t 4)),0,none⟩,⟨(some 11),(.mv (.t 0)),0,none⟩,⟨(some 12),(.len 1 (.t 11)),0,none⟩,⟨(some 13),(.bin .num .lss (.t 10) (.t 12)),0,none⟩] none) (.cond (.t 13) .skip (.exit 0))) (.seq (.block 1 (.seq (.reg [⟨(some 5),(.mv (.c (.int .i64 0))),0,none⟩] none) (.block 2 (.loop [5,0,4,3] (.seq (.seq (.reg [⟨(some 16),(.mv (.t 5)),0,none⟩,⟨(some 17),(.mv (.t 0)),0,none⟩,⟨(some 18),(.mv (.t 4)),0,none⟩,⟨(some 19),(.iaddr 2 (.t 17) (.t 18)),0,none⟩,⟨(some 20),(.faddr 1 (.t 19)),0,none⟩,⟨(some 21),(.load false [(.sl 1)] (.t 20)),0,none⟩,⟨(some 22),(.len 1 (.t 21)),0,none⟩,⟨(some 23),(.bin .num .lss (.t 16) (.t 22)),0,none⟩] none) (.cond (.t 23) .skip (.exit 2))) (.seq (.block 3 (.seq (.reg [⟨(some 6),(.mv (.c (.int .i64 0))),0,none⟩] none) (.seq (.block 4 (.loop [6,3,0,4,5] (.seq (.seq (.reg [⟨(some 26),(.mv (.t 6)),0,none⟩,⟨(some 27),(.mv (.t 3)),0,none⟩,⟨(some 28),(.len 1 (.t 27)),0,none⟩,⟨(some 29),(.bin .num .lss (.t 26) (.t 28)),0,none⟩,⟨(some 30),(.mv (.t 29)),0,none⟩,⟨(some 31),(.mv (.t 3)),0,(some (30,true))⟩,⟨(some 32),(.mv (.t 6)),0,(some (30,true))⟩,⟨(some 33),(.iaddr 1 (.t 31) (.t 32)),0,(some (30,true))⟩,⟨(some 34),(.load false [.str] (.t 33)),0,(some (30,true))⟩,⟨(some 35),(.mv (.t 0)),0,(some (30,true))⟩,⟨(some 36),(.mv (.t 4)),0,(some (30,true))⟩,⟨(some 37),(.iaddr 2 (.t 35) (.t 36)),0,(some (30,true))⟩,⟨(some 38),(.faddr 1 (.t 37)),0,(some (30,true))⟩,⟨(some 39),(.load false [(.sl 1)] (.t 38)),0,(some (30,true))⟩,⟨(some 40),(.mv (.t 5)),0,(some (30,true))⟩,⟨(some 41),(.iaddr 1 (.t 39) (.t 40)),0,(some (30,true))⟩,⟨(some 42),(.load false [.str] (.t 41)),0,(some (30,true))⟩,⟨(some 43),(.bin .num .lss (.t 34) (.t 42)),0,(some (30,true))⟩,⟨(some 44),(.pick (.t 30) (.t 43) (.c (.bool false))),0,none⟩] (some [[],[],[1],[0,2,1],[3,0,2,1],[4,3,0,2,1],[4,3,0,2,1],[5,6,4,3,0,2,1],[7,4,5,6,3,0,2,1],[4,3,0,2,1],[4,3,0,2,1],[9,10,4,3,0,2,1],[11,4,9,10,3,0,2,1],[12,4,11,9,10,3,0,2,1],[4,3,0,2,1],[13,14,4,12,11,9,10,3,0,2,1],[15,4,13,14,12,11,9,10,3,0,2,1],[8,16,4,7,5,6,3,0,2,1,15,13,14,12,11,9,10],[4,17,3,0,2,1,8,16,7,5,6,15,13,14,12,11,9,10]])) (.cond (.t 44) .skip (.exit 4))) (.block 5 (.reg [⟨(some 45),(.mv (.t 6)),0,none⟩,⟨(some 46),(.bin .num .add (.t 45) (.c (.int .i64 1))),0,none⟩,⟨(some 6),(.mv (.t 46)),0,none⟩] none))))) (.seq (.reg [⟨(some 47),(.mv (.t 6)),0,none⟩,⟨(some 48),(.mv (.t 3)),0,none⟩,⟨(some 49),(.len 1 (.t 48)),0,none⟩,⟨(some 50),(.bin .num .eql (.t 47) (.t 49)),0,none⟩,⟨(some 51),(.mv (.t 50)),0,none⟩,⟨(some 52),(.mv (.t 3)),0,(some (51,false))⟩,⟨(some 53),(.mv (.t 6)),0,(some (51,false))⟩,⟨(some 54),(.iaddr 1 (.t 52) (.t 53)),0,(some (51,false))⟩,⟨(some 55),(.load false [.str] (.t 54)),0,(some (51,false))⟩,⟨(some 56),(.mv (.t 0)),0,(some (51,false))⟩,⟨(some 57),(.mv (.t 4)),0,(some (51,false))⟩,⟨(some 58),(.iaddr 2 (.t 56) (.t 57)),0,(some (51,false))⟩,⟨(some 59),(.faddr 1 (.t 58)),0,(some (51,false))⟩,⟨(some 60),(.load false [(.sl 1)] (.t 59)),0,(some (51,false))⟩,⟨(some 61),(.mv (.t 5)),0,(some (51,false))⟩,⟨(some 62),(.iaddr 1 (.t 60) (.t 61)),0,(some (51,false))⟩,⟨(some 63),(.load false [.str] (.t 62)),0,(some (51,false))⟩,⟨(some 64),(.bin .num .neq (.t 55) (.t 63)),0,(some (51,false))⟩,⟨(some 65),(.pick (.t 51) (.c (.bool true)) (.t 64)),0,none⟩] (some [[],[],[1],[0,2,1],[3,0,2,1],[4,3,0,2,1],[4,3,0,2,1],[5,6,4,3,0,2,1],[7,4,5,6,3,0,2,1],[4,3,0,2,1],[4,3,0,2,1],[9,10,4,3,0,2,1],[11,4,9,10,3,0,2,1],[12,4,11,9,10,3,0,2,1],[4,3,0,2,1],[13,14,4,12,11,9,10,3,0,2,1],[15,4,13,14,12,11,9,10,3,0,2,1],[8,16,4,7,5,6,3,0,2,1,15,13,14,12,11,9,10],[4,17,3,0,2,1,8,16,7,5,6,15,13,14,12,11,9,10]])) (.cond (.t 65) (.reg [⟨(some 66),(.bslice 9 1 0 (.str []) []),0,none⟩,⟨(some 67),(.mv (.t 3)),1,none⟩,⟨(some 68),(.mv (.t 6)),1,none⟩,⟨(some 69),(.slc 1 (.t 67) none (some (.t 68)) none),1,none⟩,⟨(some 70),(.append 9 1 16 (.t 66) (.t 69)),1,none⟩,⟨(some 71),(.mv (.t 0)),2,none⟩,⟨(some 72),(.mv (.t 4)),2,none⟩,⟨(some 73),(.iaddr 2 (.t 71) (.t 72)),2,none⟩,⟨(some 74),(.faddr 1 (.t 73)),2,none⟩,⟨(some 75),(.load false [(.sl 1)] (.t 74)),2,none⟩,⟨(some 76),(.mv (.t 5)),2,none⟩,⟨(some 77),(.iaddr 1 (.t 75) (.t 76)),2,none⟩,⟨(some 78),(.load false [.str] (.t 77)),2,none⟩,⟨(some 79),(.bslice 9 1 1 (.str []) [(0,(.t 78))]),2,none⟩,⟨(some 80),(.append 9 1 16 (.t 70) (.t 79)),3,none⟩,⟨(some 81),(.mv (.t 3)),4,none⟩,⟨(some 82),(.mv (.t 6)),4,none⟩,⟨(some 83),(.slc 1 (.t 81) (some (.t 82)) none none),4,none⟩,⟨(some 84),(.append 9 1 16 (.t 80) (.t 83)),4,none⟩,⟨(some 3),(.mv (.t 84)),5,none⟩] (some [[],[],[],[1,2],[0,3,1,2],[],[],[5,6],[7,5,6],[8,7,5,6],[],[9,10,8,7,5,6],[11,9,10,8,7,5,6],[12,11,9,10,8,7,5,6],[4,13,0,3,1,2,12,11,9,10,8,7,5,6],[],[],[15,16],[14,17,4,13,0,3,1,2,12,11,9,10,8,7,5,6,15,16],[18,0,1,2,3,4,5,6,7,8,9,10,11,12,13,14,15,16,17]])) .skip))))) (.reg [⟨(some 24),(.mv (.t 5)),0,none⟩,⟨(some 25),(.bin .num .add (.t 24) (.c (.int .i64 1))),0,none⟩,⟨(some 5),(.mv (.t 25)),0,none⟩] none))))))) (.reg [⟨(some 14),(.mv (.t 4)),0,none⟩,⟨(some 15),(.bin .num .add (.t 14) (.c (.int .i64 1))),0,none⟩,⟨(some 4),(.mv (.t 15)),0,none⟩] none)))))) (.seq (.reg [⟨(some 85),(.mv (.t 3)),0,none⟩,⟨(some 2),(.mv (.t 85)),0,none⟩] none) .ret)))))
def K9:List IRes:=[(.tmp 2)]
abbrev a9j:Nat:=86
def Gt:ZF:=Xe [(131,.pure (preT (fun x:List Mono×Unit=>Xg x.1)) (Zf (fun x:List Mono×Unit=>ZI x.1)))]
theorem c3c{G:PV->Prop}(h : ∃ y0:Bool,AV.pv (Zf (fun(x:List Mono×Unit)=>ZI x.1) [(.sl 2 false [])])=AV.pv (enc y0)∧(if (!y0)=true then G ((.sl 0 true []))else(At Gt 0 (Za K9 G) KR 0 86 [(0,(.pv (.sl 2 false []))),(3,(.pv (.sl 0 true []))),(4,(.pv (.int .i64 0)))] []))):Zc Gt 0 (Za K9 G) KR [] (Ye 86 [.sl 2 false []]):=Zc.tp (.lit (.abs (Bool) (fun YY=>AV.pv (enc YY)) (.ask (.nil) (.nil)))) h (by kernel_rfl)
theorem b1g{G:PV->Prop}(h:G ((.sl 0 true []))):At Gt 0 (Za K9 G) KR 0 86 [(0,.pv (.sl 2 false [])),(3,.pv (.sl 0 true [])),(4,.pv (.int .i64 0))] []:=At.tp (.lit (.lit (.nil))) h (by kernel_rfl)
def Hy:IC:=(.seq (.reg [⟨(some 6),(.alloc (.agg [(.bool false),(.int .i64 0),(.sl 0 true [])])),0,none⟩] none) (.seq (.reg [⟨(some 7),(.mv (.t 2)),0,none⟩,⟨(some 8),(.call (.c (.fn 91)) [(.t 7)]),0,none⟩,⟨(some 9),(.mv (.t 0)),2,none⟩,⟨(some 10),(.call (.c (.fn 89)) [(.t 8),(.c (.str [110])),(.t 9)]),2,none⟩,⟨(some 11),(.mv (.t 1)),4,none⟩,⟨(some 12),(.call (.c (.fn 89)) [(.t 10),(.c (.str [109])),(.t 11)]),4,none⟩,⟨(some 13),(.build [(.bool false),(.int .i64 0),(.sl 0 true [])] [(1,(2,(.t 12)))]),6,none⟩,⟨none,(.store 3 (.t 6) (.t 13)),6,none⟩] none) .ret))
def Hd:List IRes:=[(.cell true 3 6)]
abbrev Oz:Nat:=14
def Dw:ZF:=Xe [(91,.pure (preT (fun _:Int×Unit=>true)) (Zf (fun x:Int×Unit=>(⟨x.1,[]⟩:Lin)))),(89,.pure (preT (fun x:Lin×Str×Int×Unit=>decide (x.1.t.length<=1000000))) (Zf (fun x:Lin×Str×Int×Unit=>Vm x.1 x.2.1 x.2.2.1)))]
theorem a7u{G:PV->Prop}(a b c:Int)(h : ∃ y0:Lin,AV.pv (Zf (fun(x:Int×Unit)=>Lin.mk x.1 []) [(.int .i64 c)])=AV.pv (enc y0)∧((Go.Pl.preT (fun(x:Lin×Str×Int×Unit)=>decide (List.length x.1.t<=1000000)) [(.agg [(.int .i64 y0.k),(.sl 2 false (List.map enc y0.t))]),(.str [(110:UInt8)]),(.int .i64 a)])=true∧(∃ y1:Lin,AV.pv (Zf (fun(x:Lin×Str×Int×Unit)=>Vm x.1 x.2.1 x.2.2.1) [(.agg [(.int .i64 y0.k),(.sl 2 false (List.map enc y0.t))]),(.str [(110:UInt8)]),(.int .i64 a)])=AV.pv (enc y1)∧((Go.Pl.preT (fun(x:Lin×Str×Int×Unit)=>decide (List.length x.1.t<=1000000)) [(.agg [(.int .i64 y1.k),(.sl 2 false (List.map enc y1.t))]),(.str [(109:UInt8)]),(.int .i64 b)])=true∧(∃ y2:Lin,AV.pv (Zf (fun(x:Lin×Str×Int×Unit)=>Vm x.1 x.2.1 x.2.2.1) [(.agg [(.int .i64 y1.k),(.sl 2 false (List.map enc y1.t))]),(.str [(109:UInt8)]),(.int .i64 b)])=AV.pv (enc y2)∧(G ((.agg [(.bool false),(.int .i64 y2.k),(.sl 2 false (List.map enc y2.t))])))))))):Zc Dw 0 (Za Hd G) Hy [] (Ye 14 [enc a,enc b,enc c]):=Zc.tp (.lit (.abs (Lin) (fun YY=>AV.pv (enc YY)) (.req (.abs (Lin) (fun YY=>AV.pv (enc YY)) (.req (.abs (Lin) (fun YY=>AV.pv (enc YY)) (.nil))))))) h (by kernel_rfl)
def J6:IC:=(.seq (.reg [⟨(some 0),(.mv (.c (.bool false))),0,none⟩] none) (.seq (.reg [⟨(some 9),(.bslice 9 1 2 (.str []) [(0,(.c (.str [110]))),(1,(.c (.str [109])))]),0,none⟩,⟨(some 10),(.build [(.sl 0 true []),(.int .i64 0)] [(0,(1,(.t 9))),(1,(1,(.c (.int .i64 3))))]),1,none⟩,⟨(some 1),(.alloc (.agg [(.sl 0 true []),(.int .i64 0)])),1,none⟩,⟨none,(.store 2 (.t 1) (.t 10)),2,none⟩] none) (.seq (.reg [⟨(some 11),(.call (.c (.fn 115)) [(.c (.int .i64 1)),(.c (.int .i64 (-1))),(.c (.int .i64 (-1)))]),0,none⟩,⟨(some 12),(.bslice 100 3 1 (.agg [(.bool false),(.int .i64 0),(.sl 0 true [])]) [(0,(.t 11))]),2,none⟩,⟨(some 2),(.mv (.t 12)),3,none⟩] none) (.seq (.reg [⟨(some 14),(.load true [(.sl 1),(.int .i64)] (.t 1)),0,none⟩,⟨(some 15),(.mv (.t 2)),0,none⟩,⟨(some 16),(.call (.c (.fn 47)) [(.t 14),(.t 15)]),0,none⟩,⟨(some 13),(.mv (.t 16)),2,none⟩,⟨(some 17),(.extract (.t 13) 0),2,none⟩,⟨(some 18),(.extract (.t 13) 1),2,none⟩,⟨(some 3),(.mv (.t 17)),2,none⟩,⟨(some 4),(.mv (.t 18)),2,none⟩] none) (.seq (.reg [⟨(some 20),(.load true [(.sl 1),(.int .i64)] (.t 1)),0,none⟩,⟨(some 21),(.mv (.t 2)),0,none⟩,⟨(some 22),(.call (.c (.fn 115)) [(.c (.int .i64 2)),(.c (.int .i64 1)),(.c (.int .i64 0))]),0,none⟩,⟨(some 23),(.field true 1 2 (.t 22)),2,none⟩,⟨(some 24),(.call (.c (.fn 58)) [(.t 20),(.t 21),(.t 23)]),2,none⟩,⟨(some 19),(.mv (.t 24)),4,none⟩,⟨(some 25),(.extract (.t 19) 0),4,none⟩,⟨(some 26),(.extract (.t 19) 1),4,none⟩,⟨(some 5),(.mv (.t 25)),4,none⟩,⟨(some 6),(.mv (.t 26)),4,none⟩] (some [[],[],[],[2],[0,1,3,2],[4,0,1,3,2],[5,4,0,1,3,2],[5,4,0,1,3,2],[6,4,0,1,2,3,5],[7,8,0,1,2,3,4,5,6]])) (.seq (.reg [⟨(some 28),(.load true [(.sl 1),(.int .i64)] (.t 1)),0,none⟩,⟨(some 29),(.mv (.t 2)),0,none⟩,⟨(some 30),(.bslice 9 1 2 (.str []) [(0,(.c (.str [109]))),(1,(.c (.str [110])))]),0,none⟩,⟨(some 31),(.build [(.int .i64 0),(.sl 0 true [])] [(0,(1,(.c (.int .i64 1)))),(1,(1,(.t 30)))]),1,none⟩,⟨(some 32),(.bslice 104 2 1 (.agg [(.int .i64 0),(.sl 0 true [])]) [(0,(.t 31))]),1,none⟩,⟨(some 33),(.call (.c (.fn 57)) [(.t 28),(.t 29),(.t 32)]),2,none⟩,⟨(some 27),(.mv (.t 33)),4,none⟩,⟨(some 34),(.extract (.t 27) 0),4,none⟩,⟨(some 35),(.extract (.t 27) 1),4,none⟩,⟨(some 7),(.mv (.t 34)),4,none⟩,⟨(some 8),(.mv (.t 35)),4,none⟩] none) (.seq (.reg [⟨(some 36),(.mv (.t 3)),0,none⟩,⟨(some 37),(.bin .num .eql (.t 36) (.c (.int .i64 6))),0,none⟩,⟨(some 38),(.mv (.t 37)),0,none⟩,⟨(some 39),(.mv (.t 5)),0,(some (38,true))⟩,⟨(some 40),(.bin .num .eql (.t 39) (.c (.int .i64 2))),0,(some (38,true))⟩,⟨(some 41),(.pick (.t 38) (.t 40) (.c (.bool false))),0,none⟩,⟨(some 42),(.mv (.t 41)),0,none⟩,⟨(some 43),(.mv (.t 7)),0,(some (42,true))⟩,⟨(some 44),(.bin .num .eql (.t 43) (.c (.int .i64 11))),0,(some (42,true))⟩,⟨(some 45),(.pick (.t 42) (.t 44) (.c (.bool false))),0,none⟩,⟨(some 46),(.mv (.t 45)),0,none⟩,⟨(some 47),(.mv (.t 4)),0,(some (46,true))⟩,⟨(some 48),(.bin .num .eql (.t 47) (.c (.int .i64 0))),0,(some (46,true))⟩,⟨(some 49),(.pick (.t 46) (.t 48) (.c (.bool false))),0,none⟩,⟨(some 50),(.mv (.t 49)),0,none⟩,⟨(some 51),(.mv (.t 6)),0,(some (50,true))⟩,⟨(some 52),(.bin .num .eql (.t 51) (.c (.int .i64 0))),0,(some (50,true))⟩,⟨(some 53),(.pick (.t 50) (.t 52) (.c (.bool false))),0,none⟩,⟨(some 54),(.mv (.t 53)),0,none⟩,⟨(some 55),(.mv (.t 8)),0,(some (54,true))⟩,⟨(some 56),(.bin .num .eql (.t 55) (.c (.int .i64 0))),0,(some (54,true))⟩,⟨(some 57),(.pick (.t 54) (.t 56) (.c (.bool false))),0,none⟩,⟨(some 58),(.mv (.t 57)),0,none⟩,⟨(some 59),(.load true [(.sl 1),(.int .i64)] (.t 1)),0,(some (58,true))⟩,⟨(some 60),(.call (.c (.fn 50)) [(.t 59)]),0,(some (58,true))⟩,⟨(some 61),(.pick (.t 58) (.t 60) (.c (.bool false))),2,none⟩,⟨(some 0),(.mv (.t 61)),2,none⟩] none) .ret)))))))
def JM:List IRes:=[(.tmp 0)]
abbrev OI:Nat:=62
def G9:ZF:=Xe [(115,.pure (preT (fun _:Int×Int×Int×Unit=>true)) (Zf (fun x:Int×Int×Int×Unit=>KF x.1 x.2.1 x.2.2.1))),(47,.pure (preT (fun x:BoxT×List Fact×Unit=>ZG x.1&&Zk x.2.1&&decide (x.2.1.length<=100)&&decide (x.1.v.length<=1000))) (Zf (fun x:BoxT×List Fact×Unit=>KN x.1 x.2.1))),(58,.pure (preT (fun x:BoxT×List Fact×Lin×Unit=>U8 x.1 x.2.1 x.2.2.1)) (Zf (fun x:BoxT×List Fact×Lin×Unit=>Qe Yo x.1 x.2.1 x.2.2.1))),(57,.pure (preT (fun x:BoxT×List Fact×List Mono×Unit=>J3 x.1 x.2.1 x.2.2.1)) (Zf (fun x:BoxT×List Fact×List Mono×Unit=>WG x.1 x.2.1 x.2.2.1))),(50,.pure (preT (fun x:BoxT×Unit=>ZG x.1)) (Zf (fun x:BoxT×Unit=>YI x.1)))]
theorem a5a{G:PV->Prop}(h : ∃ y0:Fact,AV.pv (Zf (fun(x:Int×Int×Int×Unit)=>KF x.1 x.2.1 x.2.2.1) [(.int .i64 1),(.int .i64 (-1)),(.int .i64 (-1))])=AV.pv (enc y0)∧((Go.Pl.preT (fun(x:BoxT×List Fact×Unit)=>ZG x.1&&Zk x.2.1&&decide (List.length x.2.1<=100)&&decide (List.length x.1.v<=1000)) [(.agg [(.sl 1 false [(.str [(110:UInt8)]),(.str [(109:UInt8)])]),(.int .i64 3)]),(.sl 3 false [(.agg [(.bool y0.eq),(.int .i64 (Lin.k y0.l)),(.sl 2 false (List.map enc (Lin.t y0.l)))])])])=true∧(∃ y1:Int×Int,AV.pv (Zf (fun(x:BoxT×List Fact×Unit)=>KN x.1 x.2.1) [(.agg [(.sl 1 false [(.str [(110:UInt8)]),(.str [(109:UInt8)])]),(.int .i64 3)]),(.sl 3 false [(.agg [(.bool y0.eq),(.int .i64 (Lin.k y0.l)),(.sl 2 false (List.map enc (Lin.t y0.l)))])])])=AV.pv (enc y1)∧(∃ y2:Fact,AV.pv (Zf (fun(x:Int×Int×Int×Unit)=>KF x.1 x.2.1 x.2.2.1) [(.int .i64 2),(.int .i64 1),(.int .i64 0)])=AV.pv (enc y2)∧((Go.Pl.preT (fun(x:BoxT×List Fact×Lin×Unit)=>U8 x.1 x.2.1 x.2.2.1) [(.agg [(.sl 1 false [(.str [(110:UInt8)]),(.str [(109:UInt8)])]),(.int .i64 3)]),(.sl 3 false [(.agg [(.bool y0.eq),(.int .i64 (Lin.k y0.l)),(.sl 2 false (List.map enc (Lin.t y0.l)))])]),(.agg [(.int .i64 (Lin.k y2.l)),(.sl 2 false (List.map enc (Lin.t y2.l)))])])=true∧(∃ y3:Int×Int,AV.pv (Zf (fun(x:BoxT×List Fact×Lin×Unit)=>Qe Yo x.1 x.2.1 x.2.2.1) [(.agg [(.sl 1 false [(.str [(110:UInt8)]),(.str [(109:UInt8)])]),(.int .i64 3)]),(.sl 3 false [(.agg [(.bool y0.eq),(.int .i64 (Lin.k y0.l)),(.sl 2 false (List.map enc (Lin.t y0.l)))])]),(.agg [(.int .i64 (Lin.k y2.l)),(.sl 2 false (List.map enc (Lin.t y2.l)))])])=AV.pv (enc y3)∧((Go.Pl.preT (fun(x:BoxT×List Fact×List Mono×Unit)=>J3 x.1 x.2.1 x.2.2.1) [(.agg [(.sl 1 false [(.str [(110:UInt8)]),(.str [(109:UInt8)])]),(.int .i64 3)]),(.sl 3 false [(.agg [(.bool y0.eq),(.int .i64 (Lin.k y0.l)),(.sl 2 false (List.map enc (Lin.t y0.l)))])]),(.sl 2 false [(.agg [(.int .i64 1),(.sl 1 false [(.str [(109:UInt8)]),(.str [(110:UInt8)])])])])])=true∧(∃ y4:Int×Int,AV.pv (Zf (fun(x:BoxT×List Fact×List Mono×Unit)=>WG x.1 x.2.1 x.2.2.1) [(.agg [(.sl 1 false [(.str [(110:UInt8)]),(.str [(109:UInt8)])]),(.int .i64 3)]),(.sl 3 false [(.agg [(.bool y0.eq),(.int .i64 (Lin.k y0.l)),(.sl 2 false (List.map enc (Lin.t y0.l)))])]),(.sl 2 false [(.agg [(.int .i64 1),(.sl 1 false [(.str [(109:UInt8)]),(.str [(110:UInt8)])])])])])=AV.pv (enc y4)∧(if (y1.1==6)=true then if (y3.1==2)=true then if (y4.1==11)=true then if (y1.2==0)=true then if (y3.2==0)=true then if (y4.2==0)=true then ∃ y5:Bool,AV.pv (Zf (fun(x:BoxT×Unit)=>YI x.1) [(.agg [(.sl 1 false [(.str [(110:UInt8)]),(.str [(109:UInt8)])]),(.int .i64 3)])])=AV.pv (enc y5)∧(G ((.bool y5)))else(G ((.bool false)))else(G ((.bool false)))else(G ((.bool false)))else(G ((.bool false)))else(G ((.bool false)))else(G ((.bool false)))))))))))):Zc G9 0 (Za JM G) J6 [] (Ye 62 []):=Zc.tp (.lit (.lit (.abs (Fact) (fun YY=>AV.pv (enc YY)) (.lit (.lit (.lit (.req (.abs (Int×Int) (fun YY=>AV.pv (enc YY)) (.lit (.abs (Fact) (fun YY=>AV.pv (enc YY)) (.lit (.lit (.req (.abs (Int×Int) (fun YY=>AV.pv (enc YY)) (.lit (.lit (.lit (.lit (.lit (.lit (.req (.abs (Int×Int) (fun YY=>AV.pv (enc YY)) (.lit (.ask (.lit (.lit (.lit (.ask (.lit (.lit (.lit (.ask (.lit (.lit (.lit (.ask (.lit (.lit (.lit (.ask (.lit (.lit (.lit (.ask (.lit (.lit (.lit (.abs (Bool) (fun YY=>AV.pv (enc YY)) (.lit (.nil)))))) (.lit (.lit (.nil))))))) (.lit (.lit (.lit (.lit (.lit (.nil)))))))))) (.lit (.lit (.lit (.lit (.lit (.lit (.lit (.lit (.nil))))))))))))) (.lit (.lit (.lit (.lit (.lit (.lit (.lit (.lit (.lit (.lit (.lit (.nil)))))))))))))))) (.lit (.lit (.lit (.lit (.lit (.lit (.lit (.lit (.lit (.lit (.lit (.lit (.lit (.lit (.nil))))))))))))))))))) (.lit (.lit (.lit (.lit (.lit (.lit (.lit (.lit (.lit (.lit (.lit (.lit (.lit (.lit (.lit (.lit (.lit (.nil)))))))))))))))))))))))))))))))))))))))))) h (by kernel_rfl)
end Go.Pl

namespace Go.Pl
open Go.RowKit
open Enc (enc dec is)
open EncL (encL decL isL)
theorem b7q: ∀ x:List Mono×Unit,Xg x.1=true->Zc AO 0 (Za Gf (Zg (ZI x.1))) Gz [] (Ye c1v (encL x)):=by
 rintro⟨p,⟨⟩⟩ h
 have h:p=[]:=by simpa [Xg]using h
 subst h
 exact c7i (b8x (ZM rfl))
theorem a8g: ∀ x:List Mono×Unit,Xg x.1=true->Zc Gt 0 (Za K9 (Zg (Vf x.1))) KR [] (Ye a9j (encL x)):=by
 rintro⟨p,⟨⟩⟩ h
 have h:p=[]:=by simpa [Xg]using h
 subst h
 exact c3c (Zh (([]:List Mono),()) rfl (ZK (by decide) (b1g ⟨rfl,rfl⟩)))
theorem FD: ∀ x:Int×Int×Int×Unit,(fun _:Int×Int×Int×Unit=>true) x=true->Zc Dw 0 (Za Hd (Zg (KF x.1 x.2.1 x.2.2.1))) Hy [] (Ye Oz (encL x)):=by
 rintro⟨a,b,c,⟨⟩⟩ -
 have h1:=AA ⟨c,[]⟩ xN a
 refine a7u a b c (Zh (c,()) rfl ⟨Zj ((⟨c,[]⟩:Lin),xN,a,()) rfl rfl,Zh ((⟨c,[]⟩:Lin),xN,a,()) rfl ⟨Zj (Vm ⟨c,[]⟩ xN a,xM,b,()) rfl ?_,Zh (Vm ⟨c,[]⟩ xN a,xM,b,()) rfl ?_⟩⟩)
 ·exact decide_eq_true (Nat.le_trans h1 (show 0+1<=1000000 by decide))
 ·exact ZQ (x:=KF a b c) rfl
def GV:BoxT:=⟨[xN,xM],3⟩
def De:Fact:=⟨false,⟨-1,[⟨xM,-1⟩,⟨xN,1⟩]⟩⟩
def a4h:Lin:=⟨0,[⟨xM,1⟩,⟨xN,2⟩]⟩
def a8s:List Mono:=[⟨1,[xM,xN]⟩]
theorem b9l:KF 1 (-1) (-1)=De:=by decide
theorem c4m:(KF 2 1 0).l=a4h:=by decide
theorem Oe:ZR GV [De]=[[1,0],[2,0],[2,1],[3,0],[3,1],[3,2]]:=by kernel_rfl
theorem b5i:Zp GV [De] true [xM,xN]=0:=by kernel_rfl
theorem c1y:Zp GV [De] true []=0:=by kernel_rfl
theorem b4b:KN GV [De]=(6,0):=by
 unfold KN Z0
 rw[if_pos c1y,Oe];rfl
theorem a9i:Qe Yo GV [De] a4h=(2,0):=by
 have h1:Zq a4h=true:=by kernel_rfl
 have h2:Zd a4h=[xM,xN]:=rfl
 unfold Qe YH
 rw[h1,h2,if_pos b5i,Oe]
 decide +kernel
theorem c4c:WG GV [De] a8s=(11,0):=by
 have h1:ZI a8s=true:=by kernel_rfl
 have h2:Yz a8s=[xM,xN]:=by rw[TU];kernel_rfl
 unfold WG
 rw[h1,h2,if_pos b5i,Oe]
 decide +kernel
theorem Lv: ∀ a:Unit,(fun _:Unit=>true) a=true->Zc G9 0 (Za JM (Zg true)) J6 [] (Ye OI (encL a)):=by
 rintro⟨⟩ -
 refine a5a (Zh ((1:Int),(-1:Int),(-1:Int),()) rfl ?_)
 simp only[b9l]
 refine⟨Zj (GV,[De],()) rfl (by decide),Zh (GV,[De],()) rfl (Zh ((2:Int),(1:Int),(0:Int),()) rfl ?_)⟩
 simp only[b4b,c4m]
 refine⟨Zj (GV,[De],a4h,()) rfl (by decide),Zh (GV,[De],a4h,()) rfl ?_⟩
 simp only[a9i]
 refine⟨Zj (GV,[De],a8s,()) rfl (by decide),Zh (GV,[De],a8s,()) rfl ?_⟩
 simp only[c4c]
 refine ZC rfl (ZC rfl (ZC rfl (ZC rfl (ZC rfl (ZC rfl (Zh (GV,()) rfl (ZM ?_)))))))
 kernel_rfl
end Go.Pl

namespace Go.Pl
open Go.RowKit
open Enc (enc dec is)
open EncL (encL decL isL)
set_option maxRecDepth 100000
def V3:IC:=(.seq (.reg [⟨(some 3),(.box 2 (.t 0)),0,none⟩,⟨(some 6),(.mv (.c (.bool false))),1,none⟩] none) (.seq (.seq (.reg [⟨(some 17),(.call (.c (.fn 43)) []),0,none⟩,⟨(some 18),(.un .not (.t 17)),2,none⟩] none) (.cond (.t 18) (.seq (.reg [⟨(some 6),(.mv (.c (.bool false))),0,none⟩] none) .ret) .skip)) (.seq (.seq (.reg [⟨(some 19),(.load true [(.sl 1),(.int .i64)] (.t 3)),0,none⟩,⟨(some 20),(.mv (.t 1)),0,none⟩,⟨(some 21),(.call (.c (.fn 44)) [(.t 19),(.t 20)]),0,none⟩,⟨(some 22),(.un .not (.t 21)),2,none⟩,⟨(some 23),(.mv (.t 22)),2,none⟩,⟨(some 24),(.mv (.t 2)),2,(some (23,false))⟩,⟨(some 25),(.len 1 (.t 24)),2,(some (23,false))⟩,⟨(some 26),(.bin .num .gtr (.t 25) (.c (.int .i64 8))),2,(some (23,false))⟩,⟨(some 27),(.pick (.t 23) (.c (.bool true)) (.t 26)),2,none⟩] none) (.cond (.t 27) (.seq (.reg [⟨(some 6),(.mv (.c (.bool true))),0,none⟩] none) .ret) .skip)) (.seq (.reg [⟨(some 28),(.load true [(.sl 1),(.int .i64)] (.t 3)),0,none⟩,⟨(some 7),(.alloc (.agg [(.sl 0 true []),(.int .i64 0)])),0,none⟩,⟨none,(.store 2 (.t 7) (.t 28)),1,none⟩] none) (.seq (.reg [⟨(some 30),(.load true [(.sl 1),(.int .i64)] (.t 7)),0,none⟩,⟨(some 31),(.mv (.t 1)),0,none⟩,⟨(some 32),(.call (.c (.fn 45)) [(.t 30),(.t 31)]),0,none⟩,⟨(some 29),(.mv (.t 32)),2,none⟩,⟨(some 33),(.extract (.t 29) 0),2,none⟩,⟨(some 34),(.extract (.t 29) 1),2,none⟩,⟨(some 8),(.mv (.t 33)),2,none⟩,⟨(some 9),(.mv (.t 34)),2,none⟩] none) (.seq (.reg [⟨(some 36),(.load true [(.sl 1),(.int .i64)] (.t 3)),0,none⟩,⟨(some 37),(.mv (.t 1)),0,none⟩,⟨(some 38),(.call (.c (.fn 46)) [(.t 36),(.t 37)]),0,none⟩,⟨(some 35),(.mv (.t 38)),2,none⟩,⟨(some 39),(.extract (.t 35) 0),2,none⟩,⟨(some 40),(.extract (.t 35) 1),2,none⟩,⟨(some 10),(.mv (.t 39)),2,none⟩,⟨(some 11),(.mv (.t 40)),2,none⟩] none) (.seq (.reg [⟨(some 42),(.load true [(.sl 1),(.int .i64)] (.t 7)),0,none⟩,⟨(some 43),(.mv (.t 1)),0,none⟩,⟨(some 44),(.call (.c (.fn 47)) [(.t 42),(.t 43)]),0,none⟩,⟨(some 41),(.mv (.t 44)),2,none⟩,⟨(some 45),(.extract (.t 41) 0),2,none⟩,⟨(some 46),(.extract (.t 41) 1),2,none⟩,⟨(some 12),(.mv (.t 45)),2,none⟩,⟨(some 13),(.mv (.t 46)),2,none⟩] none) (.seq (.reg [⟨(some 47),(.load true [(.sl 1),(.int .i64)] (.t 7)),0,none⟩,⟨(some 48),(.mv (.t 2)),0,none⟩,⟨(some 49),(.call (.c (.fn 48)) [(.t 47),(.t 48)]),0,none⟩,⟨(some 50),(.load true [(.sl 1),(.int .i64)] (.t 3)),2,none⟩,⟨(some 51),(.mv (.t 2)),2,none⟩,⟨(some 52),(.call (.c (.fn 49)) [(.t 50),(.t 51)]),2,none⟩,⟨(some 14),(.mv (.t 49)),4,none⟩,⟨(some 15),(.mv (.t 52)),4,none⟩] (some [[],[],[0,1],[],[],[3,4,2,0,1],[2,5,0,1,3,4],[5,6,0,1,2,3,4]])) (.seq (.seq (.reg [⟨(some 53),(.mv (.t 14)),0,none⟩,⟨(some 54),(.len 1 (.t 53)),0,none⟩,⟨(some 55),(.mv (.t 15)),0,none⟩,⟨(some 56),(.len 1 (.t 55)),0,none⟩,⟨(some 57),(.bin .num .neq (.t 54) (.t 56)),0,none⟩] none) (.cond (.t 57) (.seq (.reg [⟨(some 6),(.mv (.c (.bool false))),0,none⟩] none) .ret) .skip)) (.seq (.seq (.reg [⟨(some 16),(.mv (.c (.int .i64 0))),0,none⟩] none) (.block 0 (.loop [16,14,15,7,3,8,10,9,11,12,13] (.seq (.seq (.reg [⟨(some 58),(.mv (.t 16)),0,none⟩,⟨(some 59),(.mv (.t 14)),0,none⟩,⟨(some 60),(.len 1 (.t 59)),0,none⟩,⟨(some 61),(.bin .num .lss (.t 58) (.t 60)),0,none⟩] none) (.cond (.t 61) .skip (.exit 0))) (.seq (.block 1 (.seq (.reg [⟨(some 64),(.mv (.t 14)),0,none⟩,⟨(some 65),(.mv (.t 16)),0,none⟩,⟨(some 66),(.iaddr 2 (.t 64) (.t 65)),0,none⟩,⟨(some 67),(.load true [.str,(.int .i64)] (.t 66)),0,none⟩,⟨(some 68),(.mv (.t 15)),0,none⟩,⟨(some 69),(.mv (.t 16)),0,none⟩,⟨(some 70),(.iaddr 2 (.t 68) (.t 69)),0,none⟩,⟨(some 71),(.load true [.str,(.int .i64)] (.t 70)),0,none⟩,⟨(some 72),(.bin (.agg [1,0]) .neq (.t 67) (.t 71)),0,none⟩] (some [[],[],[0,1],[2,0,1],[],[],[4,5],[6,4,5],[3,7,2,0,1,6,4,5]])) (.cond (.t 72) (.seq (.reg [⟨(some 6),(.mv (.c (.bool false))),0,none⟩] none) .ret) .skip))) (.reg [⟨(some 62),(.mv (.t 16)),0,none⟩,⟨(some 63),(.bin .num .add (.t 62) (.c (.int .i64 1))),0,none⟩,⟨(some 16),(.mv (.t 63)),0,none⟩] none)))))) (.seq (.reg [⟨(some 73),(.load true [(.sl 1),(.int .i64)] (.t 7)),0,none⟩,⟨(some 74),(.call (.c (.fn 50)) [(.t 73)]),0,none⟩,⟨(some 75),(.load true [(.sl 1),(.int .i64)] (.t 3)),2,none⟩,⟨(some 76),(.call (.c (.fn 51)) [(.t 75)]),2,none⟩,⟨(some 77),(.bin .bool .eql (.t 74) (.t 76)),4,none⟩,⟨(some 78),(.mv (.t 77)),4,none⟩,⟨(some 79),(.mv (.t 8)),4,(some (78,true))⟩,⟨(some 80),(.mv (.t 10)),4,(some (78,true))⟩,⟨(some 81),(.call (.c (.fn 52)) [(.t 79),(.t 80)]),4,(some (78,true))⟩,⟨(some 82),(.pick (.t 78) (.t 81) (.c (.bool false))),6,none⟩,⟨(some 83),(.mv (.t 82)),6,none⟩,⟨(some 84),(.mv (.t 9)),6,(some (83,true))⟩,⟨(some 85),(.mv (.t 11)),6,(some (83,true))⟩,⟨(some 86),(.bin .num .eql (.t 84) (.t 85)),6,(some (83,true))⟩,⟨(some 87),(.pick (.t 83) (.t 86) (.c (.bool false))),6,none⟩,⟨(some 88),(.mv (.t 87)),6,none⟩,⟨(some 89),(.mv (.t 12)),6,(some (88,true))⟩,⟨(some 90),(.mv (.t 10)),6,(some (88,true))⟩,⟨(some 91),(.len 1 (.t 90)),6,(some (88,true))⟩,⟨(some 92),(.bin .num .eql (.t 89) (.t 91)),6,(some (88,true))⟩,⟨(some 93),(.pick (.t 88) (.t 92) (.c (.bool false))),6,none⟩,⟨(some 94),(.mv (.t 93)),6,none⟩,⟨(some 95),(.mv (.t 13)),6,(some (94,true))⟩,⟨(some 96),(.mv (.t 11)),6,(some (94,true))⟩,⟨(some 97),(.bin .num .eql (.t 95) (.t 96)),6,(some (94,true))⟩,⟨(some 98),(.pick (.t 94) (.t 97) (.c (.bool false))),6,none⟩,⟨(some 6),(.mv (.t 98)),6,none⟩] (some [[],[0],[],[2,1,0],[1,3,0,2],[4,3,1,0,2],[5,4,3,1,0,2],[5,4,3,1,0,2],[6,7,5,4,3,1,0,2],[5,8,4,3,1,0,2,6,7],[9,8,5,4,3,1,0,2,6,7],[10,9,8,5,4,3,1,0,2,6,7],[10,9,8,5,4,3,1,0,2,6,7],[11,12,10,9,8,5,4,3,1,0,2,6,7],[10,13,9,8,5,4,3,1,0,2,6,7,11,12],[14,10,13,9,8,5,4,3,1,0,2,6,7,11,12],[15,14,10,13,9,8,5,4,3,1,0,2,6,7,11,12],[15,14,10,13,9,8,5,4,3,1,0,2,6,7,11,12],[17,15,14,10,13,9,8,5,4,3,1,0,2,6,7,11,12],[16,18,15,14,10,13,9,8,5,4,3,1,0,2,6,7,11,12,17],[15,19,14,10,13,9,8,5,4,3,1,0,2,6,7,11,12,16,18,17],[20,15,19,14,10,13,9,8,5,4,3,1,0,2,6,7,11,12,16,18,17],[21,20,15,19,14,10,13,9,8,5,4,3,1,0,2,6,7,11,12,16,18,17],[21,20,15,19,14,10,13,9,8,5,4,3,1,0,2,6,7,11,12,16,18,17],[22,23,21,20,15,19,14,10,13,9,8,5,4,3,1,0,2,6,7,11,12,16,18,17],[21,24,20,15,19,14,10,13,9,8,5,4,3,1,0,2,6,7,11,12,16,18,17,22,23],[25,21,0,1,2,3,4,5,6,7,8,9,10,11,12,13,14,15,16,17,18,19,20,22,23,24]])) .ret)))))))))))
def V8:List IRes:=[(.tmp 6)]
abbrev a7e:Nat:=99
def U0:ZF:=Xe [(43,.pure (preT (fun _:Unit=>true)) (Zf (fun _:Unit=>true))),(44,.pure (preT (fun x:BoxT×List Fact×Unit=>ZG x.1&&YZ x.2.1)) (Zf (fun x:BoxT×List Fact×Unit=>Qj x.1 x.2.1))),(45,.pure (preT (fun x:BoxT×List Fact×Unit=>ZG x.1&&Zk x.2.1&&decide (x.2.1.length<=100)&&decide (x.1.v.length<=1000))) (Zf (fun x:BoxT×List Fact×Unit=>Z0 x.1 x.2.1))),(46,.pure (preT (fun x:BoxT×List Fact×Unit=>ZG x.1&&Zk x.2.1&&decide (x.2.1.length<=100)&&decide (x.1.v.length<=1000))) (Zf (fun x:BoxT×List Fact×Unit=>Z0 x.1 x.2.1))),(47,.pure (preT (fun x:BoxT×List Fact×Unit=>ZG x.1&&Zk x.2.1&&decide (x.2.1.length<=100)&&decide (x.1.v.length<=1000))) (Zf (fun x:BoxT×List Fact×Unit=>KN x.1 x.2.1))),(48,.pure (preT (fun x:BoxT×List Int×Unit=>decide (x.1.v.length<=1000)&&Zn x.2.1)) (Zf (fun x:BoxT×List Int×Unit=>Ze x.1.v x.2.1))),(49,.pure (preT (fun x:BoxT×List Int×Unit=>decide (x.1.v.length<=1000)&&Zn x.2.1)) (Zf (fun x:BoxT×List Int×Unit=>Ze x.1.v x.2.1))),(50,.pure (preT (fun x:BoxT×Unit=>ZG x.1)) (Zf (fun x:BoxT×Unit=>YI x.1))),(51,.pure (preT (fun x:BoxT×Unit=>ZG x.1)) (Zf (fun x:BoxT×Unit=>YI x.1))),(52,.pure (preT (fun x:List (List Int)×List (List Int)×Unit=>Zn x.1&&x.1.all Zn)) (Zf (fun x:List (List Int)×List (List Int)×Unit=>decide (x.1=x.2.1))))]
theorem b6r{G:PV->Prop}(b:BoxT)(fs:List Fact)(p:List Int)(h : ∃ y0:Bool,AV.pv (Zf (fun(x:Unit)=>true) [])=AV.pv (enc y0)∧(if (!y0)=true then G ((.bool false))else((Go.Pl.preT (fun(x:BoxT×List Fact×Unit)=>ZG x.1&&YZ x.2.1) [(.agg [(.sl 1 false (List.map enc b.v)),(.int .i64 b.m)]),(.sl 3 false (List.map enc fs))])=true∧(∃ y1:Bool,AV.pv (Zf (fun(x:BoxT×List Fact×Unit)=>Qj x.1 x.2.1) [(.agg [(.sl 1 false (List.map enc b.v)),(.int .i64 b.m)]),(.sl 3 false (List.map enc fs))])=AV.pv (enc y1)∧(if (!y1)=true then G ((.bool true))else(if (decide ((↑(List.length (List.map enc p)):Int)>8))=true then G ((.bool true))else((Go.Pl.preT (fun(x:BoxT×List Fact×Unit)=>ZG x.1&&Zk x.2.1&&decide (List.length x.2.1<=100)&&decide (List.length x.1.v<=1000)) [(.agg [(.sl 1 false (List.map enc b.v)),(.int .i64 b.m)]),(.sl 3 false (List.map enc fs))])=true∧(∃ y2:List (List Int)×Int,AV.pv (Zf (fun(x:BoxT×List Fact×Unit)=>Z0 x.1 x.2.1) [(.agg [(.sl 1 false (List.map enc b.v)),(.int .i64 b.m)]),(.sl 3 false (List.map enc fs))])=AV.pv (enc y2)∧((Go.Pl.preT (fun(x:BoxT×List Fact×Unit)=>ZG x.1&&Zk x.2.1&&decide (List.length x.2.1<=100)&&decide (List.length x.1.v<=1000)) [(.agg [(.sl 1 false (List.map enc b.v)),(.int .i64 b.m)]),(.sl 3 false (List.map enc fs))])=true∧(∃ y3:List (List Int)×Int,AV.pv (Zf (fun(x:BoxT×List Fact×Unit)=>Z0 x.1 x.2.1) [(.agg [(.sl 1 false (List.map enc b.v)),(.int .i64 b.m)]),(.sl 3 false (List.map enc fs))])=AV.pv (enc y3)∧((Go.Pl.preT (fun(x:BoxT×List Fact×Unit)=>ZG x.1&&Zk x.2.1&&decide (List.length x.2.1<=100)&&decide (List.length x.1.v<=1000)) [(.agg [(.sl 1 false (List.map enc b.v)),(.int .i64 b.m)]),(.sl 3 false (List.map enc fs))])=true∧(∃ y4:Int×Int,AV.pv (Zf (fun(x:BoxT×List Fact×Unit)=>KN x.1 x.2.1) [(.agg [(.sl 1 false (List.map enc b.v)),(.int .i64 b.m)]),(.sl 3 false (List.map enc fs))])=AV.pv (enc y4)∧((Go.Pl.preT (fun(x:BoxT×List Int×Unit)=>decide (List.length x.1.v<=1000)&&Zn x.2.1) [(.agg [(.sl 1 false (List.map enc b.v)),(.int .i64 b.m)]),(.sl 1 false (List.map enc p))])=true∧(∃ y5:List Coef,AV.pv (Zf (fun(x:BoxT×List Int×Unit)=>Ze x.1.v x.2.1) [(.agg [(.sl 1 false (List.map enc b.v)),(.int .i64 b.m)]),(.sl 1 false (List.map enc p))])=AV.pv (enc y5)∧((Go.Pl.preT (fun(x:BoxT×List Int×Unit)=>decide (List.length x.1.v<=1000)&&Zn x.2.1) [(.agg [(.sl 1 false (List.map enc b.v)),(.int .i64 b.m)]),(.sl 1 false (List.map enc p))])=true∧(∃ y6:List Coef,AV.pv (Zf (fun(x:BoxT×List Int×Unit)=>Ze x.1.v x.2.1) [(.agg [(.sl 1 false (List.map enc b.v)),(.int .i64 b.m)]),(.sl 1 false (List.map enc p))])=AV.pv (enc y6)∧(if ((↑(List.length (List.map enc y5)):Int) != (↑(List.length (List.map enc y6)):Int))=true then G ((.bool false))else(At U0 0 (Za V8 G) V3 0 99 [(3,(.ptr 0 0)),(7,(.ptr 1 0)),(8,(.pv (.sl 1 false (List.map enc y2.1)))),(9,(.pv (.int .i64 y2.2))),(10,(.pv (.sl 1 false (List.map enc y3.1)))),(11,(.pv (.int .i64 y3.2))),(12,(.pv (.int .i64 y4.1))),(13,(.pv (.int .i64 y4.2))),(14,(.pv (.sl 2 false (List.map enc y5)))),(15,(.pv (.sl 2 false (List.map enc y6)))),(16,(.pv (.int .i64 0)))] [(.obj (.box [(.pv (.sl 1 false (List.map enc b.v))),(.pv (.int .i64 b.m))])),(.obj (.box [(.pv (.sl 1 false (List.map enc b.v))),(.pv (.int .i64 b.m))]))])))))))))))))))))):Zc U0 0 (Za V8 G) V3 [] (Ye 99 [enc b,enc fs,enc p]):=Zc.tp (.lit (.abs (Bool) (fun YY=>AV.pv (enc YY)) (.ask (.nil) (.req (.abs (Bool) (fun YY=>AV.pv (enc YY)) (.ask (.lit (.lit (.lit (.lit (.nil))))) (.lit (.lit (.lit (.lit (.ask (.nil) (.req (.abs (List (List Int)×Int) (fun YY=>AV.pv (enc YY)) (.req (.abs (List (List Int)×Int) (fun YY=>AV.pv (enc YY)) (.req (.abs (Int×Int) (fun YY=>AV.pv (enc YY)) (.req (.abs (List Coef) (fun YY=>AV.pv (enc YY)) (.req (.abs (List Coef) (fun YY=>AV.pv (enc YY)) (.lit (.ask (.nil) (.nil)))))))))))))))))))))))) h (by kernel_rfl)
theorem Rm{G:PV->Prop}(b:BoxT)(fs:List Fact)(p:List Int)(x:List (List Int))(e:Int)(y:List (List Int))(f n g:Int)(v w:List Coef)(i:Int)(h:if (decide (i<(↑(List.length (List.map enc v)):Int)))=true then(decide (0<=i)&&decide (Int.toNat i<List.length (List.map enc v))&&Enc.sz Coef==2)=true∧(∃ y0:Coef,AV.pv (PV.rptr (PV.cells (List.getD (List.map enc v) (Int.toNat i) default)))=AV.pv (PV.rptr (PV.cells ((enc) y0)))∧((decide (0<=i)&&decide (Int.toNat i<List.length (List.map enc w))&&Enc.sz Coef==2)=true∧(∃ y1:Coef,AV.pv (PV.rptr (PV.cells (List.getD (List.map enc w) (Int.toNat i) default)))=AV.pv (PV.rptr (PV.cells ((enc) y1)))∧(if (!(PV.asStr (List.getD (PV.cells (enc y0)) 0 default)==PV.asStr (List.getD (PV.cells (enc y1)) 0 default)&&(PV.asInt (List.getD (PV.cells (enc y0)) (0+1) default)==PV.asInt (List.getD (PV.cells (enc y1)) (0+1) default)&&true)))=true then G ((.bool false))else(At U0 0 (Za V8 G) V3 0 99 [(3,(.ptr 0 0)),(7,(.ptr 1 0)),(8,(.pv (.sl 1 false (List.map enc x)))),(9,(.pv (.int .i64 e))),(10,(.pv (.sl 1 false (List.map enc y)))),(11,(.pv (.int .i64 f))),(12,(.pv (.int .i64 n))),(13,(.pv (.int .i64 g))),(14,(.pv (.sl 2 false (List.map enc v)))),(15,(.pv (.sl 2 false (List.map enc w)))),(16,(.pv (.int .i64 (IntKind.wrap IntKind.i64 (i+1)))))] [(.obj (.box [(.pv (.sl 1 false (List.map enc b.v))),(.pv (.int .i64 b.m))])),(.obj (.box [(.pv (.sl 1 false (List.map enc b.v))),(.pv (.int .i64 b.m))]))])))))else((Go.Pl.preT (fun(x:BoxT×Unit)=>ZG x.1) [(.agg [(.sl 1 false (List.map enc b.v)),(.int .i64 b.m)])])=true∧(∃ y2:Bool,AV.pv (Zf (fun(x:BoxT×Unit)=>YI x.1) [(.agg [(.sl 1 false (List.map enc b.v)),(.int .i64 b.m)])])=AV.pv (enc y2)∧((Go.Pl.preT (fun(x:BoxT×Unit)=>ZG x.1) [(.agg [(.sl 1 false (List.map enc b.v)),(.int .i64 b.m)])])=true∧(∃ y3:Bool,AV.pv (Zf (fun(x:BoxT×Unit)=>YI x.1) [(.agg [(.sl 1 false (List.map enc b.v)),(.int .i64 b.m)])])=AV.pv (enc y3)∧(if (y2==y3)=true then(Go.Pl.preT (fun(x:List (List Int)×List (List Int)×Unit)=>Zn x.1&&List.all x.1 Zn) [(.sl 1 false (List.map enc x)),(.sl 1 false (List.map enc y))])=true∧(∃ y4:Bool,AV.pv (Zf (fun(x:List (List Int)×List (List Int)×Unit)=>decide (x.1=x.2.1)) [(.sl 1 false (List.map enc x)),(.sl 1 false (List.map enc y))])=AV.pv (enc y4)∧(if (y4)=true then if (e==f)=true then if (n==(↑(List.length (List.map enc y)):Int))=true then G ((.bool (g==f)))else(G ((.bool false)))else(G ((.bool false)))else(G ((.bool false)))))else(G ((.bool false))))))))):At U0 0 (Za V8 G) V3 0 99 [(3,.ptr 0 0),(7,.ptr 1 0),(8,.pv (enc x)),(9,.pv (.int .i64 e)),(10,.pv (enc y)),(11,.pv (.int .i64 f)),(12,.pv (.int .i64 n)),(13,.pv (.int .i64 g)),(14,.pv (enc v)),(15,.pv (enc w)),(16,.pv (.int .i64 i))] [.obj (.box [.pv (enc b.v),.pv (.int .i64 b.m)]),.obj (.box [.pv (enc b.v),.pv (.int .i64 b.m)])]:=At.tp (.lit (.ask (.req (.abs (Coef) (fun YY=>AV.pv (PV.rptr (PV.cells ((enc) YY)))) (.lit (.req (.abs (Coef) (fun YY=>AV.pv (PV.rptr (PV.cells ((enc) YY)))) (.lit (.lit (.ask (.nil) (.lit (.nil)))))))))) (.req (.abs (Bool) (fun YY=>AV.pv (enc YY)) (.req (.abs (Bool) (fun YY=>AV.pv (enc YY)) (.lit (.ask (.lit (.lit (.req (.abs (Bool) (fun YY=>AV.pv (enc YY)) (.lit (.ask (.lit (.lit (.lit (.lit (.ask (.lit (.lit (.lit (.lit (.lit (.ask (.lit (.lit (.lit (.lit (.nil))))) (.lit (.lit (.lit (.nil)))))))))) (.lit (.lit (.lit (.lit (.lit (.lit (.lit (.lit (.nil)))))))))))))) (.lit (.lit (.lit (.lit (.lit (.lit (.lit (.lit (.lit (.lit (.lit (.lit (.nil))))))))))))))))))) (.lit (.lit (.lit (.lit (.lit (.lit (.lit (.lit (.lit (.lit (.lit (.lit (.lit (.lit (.lit (.lit (.nil))))))))))))))))))))))))) h (by kernel_rfl)
end Go.Pl

namespace Go.Pl
open Go.RowKit
open Enc (enc dec is)
open EncL (encL decL isL)
theorem b8u{l:Lin}{n:Int}(h:Gb l n=true)(hn:n<=1000):Yi l=true∧(l.t.length:Int)<=n:=by
 unfold Gb at h
 simp only[Bool.and_eq_true,decide_eq_true_eq]at h
 refine⟨?_,h.2⟩
 unfold Yi Yt
 rw[Bool.and_eq_true]
 refine⟨decide_eq_true (by omega),List.all_eq_true.2 fun t ht=> ?_⟩
 have:=List.all_eq_true.1 h.1 t ht
 have:=of_decide_eq_true this
 exact decide_eq_true (by omega)
theorem Tp{b:BoxT}{fs:List Fact}(h:Qj b fs=true):b.v.length<=5∧fs.length<=6∧Zk fs=true∧(∀ f∈fs,Gb f.l 8=true):=by
 unfold Qj Cj at h
 simp only[Bool.and_eq_true,decide_eq_true_eq]at h
 obtain⟨⟨⟨h1,h2⟩,h3⟩,h4,h5⟩:=h
 have h4:=List.all_eq_true.1 h4
 refine⟨h1,h3,?_,h4⟩
 unfold Zk
 rw[Bool.and_eq_true]
 exact⟨decide_eq_true (by omega),List.all_eq_true.2 fun f hf=>(b8u (h4 f hf) (by omega)).1⟩
theorem a6i{b:BoxT}{fs:List Fact}(hb:ZG b=true)(h:Qj b fs=true):(ZG b&&Zk fs&&decide (fs.length<=100)&&decide (b.v.length<=1000))=true:=by
 obtain⟨h1,h2,h3,_⟩:=Tp h
 rw[hb,h3,decide_eq_true (by omega),decide_eq_true (by omega)];rfl
theorem a7w(b:BoxT)(fs:List Fact)(p:List Int)(hb:ZG b=true)(x:List (List Int))(e n g:Int)(v:List Coef)(hx:x.length<=9223372036854775807)(hxs:x.all Zn=true)(hn:n=x.length)(hg:g=e)(hv:v.length<=9223372036854775807):
  ∀ (k i:Nat),k+i=v.length->At U0 0 (Za V8 (Zg true)) V3 0 99 [(3,.ptr 0 0),(7,.ptr 1 0),(8,.pv (enc x)),(9,.pv (.int .i64 e)),(10,.pv (enc x)),(11,.pv (.int .i64 e)),(12,.pv (.int .i64 n)),(13,.pv (.int .i64 g)),(14,.pv (enc v)),(15,.pv (enc v)),(16,.pv (.int .i64 i))] [.obj (.box [.pv (enc b.v),.pv (.int .i64 b.m)]),.obj (.box [.pv (enc b.v),.pv (.int .i64 b.m)])]:=by
 subst hn hg
 intro k
 induction k with
 | zero=>
  intro i hi
  apply Rm (G:=Zg true) b fs p x
  refine ZK (Xk (by omega)) ⟨Zj (b,()) rfl hb,Zh (b,()) rfl ⟨Zj (b,()) rfl hb,Zh (b,()) rfl ?_⟩⟩
  refine ZC (by simp) ⟨Zj (x,x,()) rfl (by show(Zn x&&x.all Zn)=true;rw[Zy.2 hx,hxs];rfl),Zh (x,x,()) rfl ?_⟩
  refine ZC (by simp) (ZC (by simp) (ZC (by simp) (ZM (by simp))))
 | succ k ih=>
  intro i hi
  have hlt:i<v.length:=by omega
  apply Rm (G:=Zg true) b fs p x
  refine ZC (YV hlt) ⟨Zt hlt rfl,Zx hlt ⟨Zt hlt rfl,Zx hlt (ZK (by simp) ?_)⟩⟩
  rw[next (by omega)]
  exact ih (i+1) (by omega)
theorem c6v{b:BoxT}{fs:List Fact}(hr:(Z0 b fs).1≠[]):YI b=true∧(Z0 b fs).1=ZR b fs:=by
 unfold Z0 at hr ⊢
 split at hr
 ·rename_i h0
  exact⟨(Ui _ _ _ _ h0).1,by rw[if_pos h0]⟩
 ·exact absurd rfl hr
theorem a6v{b:BoxT}{fs:List Fact}(hb:b.v.length<=1000):(Z0 b fs).1.length<=20000∧(Z0 b fs).1.all Zn=true:=by
 by_cases h:(Z0 b fs).1=[]
 ·rw[h];exact⟨by simp,rfl⟩
 ·obtain⟨hv,e⟩:=c6v h
  rw[e]
  constructor
  ·unfold ZR
   refine Nat.le_trans (List.length_filter_le _ _) ?_
   rw[VL hv,H6]
   exact CJ hv
  ·refine List.all_eq_true.2 fun p hp=>Zy.2 ?_
   unfold ZR at hp
   rw[VL hv]at hp
   have:=(Gn.1 (List.mem_filter.1 hp).1).1
   omega
theorem E9: ∀ x:BoxT×List Fact×List Int×Unit,(ZG x.1&&YZ x.2.1&&Zn x.2.2.1)=true->Zc U0 0 (Za V8 (Zg true)) V3 [] (Ye a7e (encL x)):=by
 rintro⟨b,fs,p,⟨⟩⟩ hp
 simp only[Bool.and_eq_true]at hp
 obtain⟨⟨h1,h2⟩,h3⟩:=hp
 refine b6r b fs p (Zh () rfl (ZK (by simp) ⟨Zj (b,fs,()) rfl (by rw[h1,h2];rfl),Zh (b,fs,()) rfl ?_⟩))
 refine X3 (fun _=>ZM rfl) fun hf=> ?_
 have hf:Qj b fs=true:=by simpa using hf
 have hP:=a6i h1 hf
 have h5:=(Tp hf).1
 refine X3 (fun _=>ZM rfl) fun _=> ?_
 have hpv:(decide (b.v.length<=1000)&&Zn p)=true:=by rw[h3,decide_eq_true (by omega)];rfl
 refine⟨Zj (b,fs,()) rfl hP,Zh (b,fs,()) rfl ⟨Zj (b,fs,()) rfl hP,Zh (b,fs,()) rfl ⟨Zj (b,fs,()) rfl hP,Zh (b,fs,()) rfl ⟨Zj (b,p,()) rfl hpv,Zh (b,p,()) rfl ⟨Zj (b,p,()) rfl hpv,Zh (b,p,()) rfl ?_⟩⟩⟩⟩⟩
 obtain⟨s1,s2⟩:=a6v (b:=b) (fs:=fs) (by omega)
 refine ZK (by simp) ?_
 have hvl:(Ze b.v p).length<=9223372036854775807:=by unfold Ze;rw[List.length_zipWith];omega
 exact a7w b fs p h1 (Z0 b fs).1 (Z0 b fs).2 _ _ (Ze b.v p) (by omega) s2 rfl rfl hvl _ 0 rfl
end Go.Pl

namespace Go.Pl
open Go.RowKit
open Enc (enc dec is)
open EncL (encL decL isL)
end Go.Pl

namespace Go.Pl
open Go.RowKit
end Go.Pl

namespace Go.Pl
open Go.RowKit
open Enc (enc dec is)
open EncL (encL decL isL)
end Go.Pl

namespace Go.Pl
open Go.RowKit
open Enc (enc dec is)
open EncL (encL decL isL)
set_option maxRecDepth 100000
end Go.Pl

namespace Go.Pl
open Go.RowKit
open Enc (enc dec is)
open EncL (encL decL isL)
end Go.Pl

