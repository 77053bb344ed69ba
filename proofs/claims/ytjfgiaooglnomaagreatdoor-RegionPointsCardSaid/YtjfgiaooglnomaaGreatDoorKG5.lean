/-
  Texts of mine that belong together (packed by pack.py), for every input: GPw, QPw, GPs, TyPs, QPs, TyAw, GAw, QAw, GLp10, QRh.
-/
import Derived.Test.YtjfgiaooglnomaaGreatDoorKG2
import Derived.Test.YtjfgiaooglnomaaGreatDoorKG3
import Derived.Test.YtjfgiaooglnomaaGreatDoorKG4
import Derived.KernelRfl
import Derived.Lib.SlicesCompact
set_option linter.unusedVariables false
set_option linter.unusedSimpArgs false
namespace Go.Pl
open Go.RowKit
open Enc (enc dec is)
open EncL (encL decL isL)
set_option maxRecDepth 100000
def Xm:IC:=(.seq (.reg [⟨(some 2),(.mv (.c (.sl 0 true []))),0,none⟩] none) (.seq (.seq (.reg [⟨(some 6),(.mv (.t 0)),0,none⟩,⟨(some 7),(.call (.c (.fn 122)) [(.t 6)]),0,none⟩,⟨(some 8),(.un .not (.t 7)),2,none⟩] none) (.cond (.t 8) (.seq (.reg [⟨(some 2),(.mv (.c (.sl 0 true []))),0,none⟩] none) .ret) .skip)) (.seq (.reg [⟨(some 3),(.mv (.c (.sl 0 true []))),0,none⟩] none) (.seq (.seq (.reg [⟨(some 9),(.mv (.t 0)),0,none⟩,⟨(some 10),(.len 1 (.t 9)),0,none⟩,⟨(some 11),(.mv (.c (.int .i64 0))),0,none⟩] none) (.block 0 (.loop [11,10,9,3] (.seq (.reg [⟨(some 12),(.bin .num .lss (.t 11) (.t 10)),0,none⟩] none) (.seq (.cond (.t 12) .skip (.exit 0)) (.seq (.block 1 (.seq (.reg [⟨(some 13),(.iaddr 2 (.t 9) (.t 11)),0,none⟩,⟨(some 14),(.load true [(.int .i64),(.sl 1)] (.t 13)),0,none⟩,⟨(some 5),(.alloc (.agg [(.int .i64 0),(.sl 0 true [])])),0,none⟩,⟨none,(.store 2 (.t 5) (.t 14)),1,none⟩] none) (.reg [⟨(some 15),(.mv (.t 3)),0,none⟩,⟨(some 16),(.faddr 1 (.t 5)),0,none⟩,⟨(some 17),(.load false [(.sl 1)] (.t 16)),0,none⟩,⟨(some 18),(.append 9 1 16 (.t 15) (.t 17)),0,none⟩,⟨(some 3),(.mv (.t 18)),1,none⟩] none))) (.reg [⟨(some 19),(.bin .num .add (.t 11) (.c (.int .i64 1))),0,none⟩,⟨(some 11),(.mv (.t 19)),0,none⟩] none))))))) (.seq (.reg [⟨(some 20),(.mv (.t 3)),0,none⟩,⟨(some 21),(.call (.c (.fn 154)) [(.t 20)]),0,none⟩] none) (.seq (.reg [⟨(some 22),(.mv (.t 3)),0,none⟩,⟨(some 23),(.call (.c (.fn 187)) [(.t 22)]),0,none⟩,⟨(some 2),(.mv (.t 23)),2,none⟩] none) .ret))))))
def Xj:List IRes:=[(.tmp 2)]
abbrev Cf:Nat:=24
def XQ:ZE:=Y6 [(122,.pure (preT (fun x:List Mono×Unit=>Z8 x.1)) (Ze (fun x:List Mono×Unit=>ZG x.1))),(154,.own XL Qk),(187,.own XL Qs)]
theorem MZ{G:AV×List AObj×List AObj->Prop}(p:List Mono)(h:(Go.Pl.preT (fun(x:List Mono×Unit)=>Z8 x.1) [(.sl 2 false (List.map enc p))])=true∧(∃ y0:Bool,AV.pv (Ze (fun(x:List Mono×Unit)=>ZG x.1) [(.sl 2 false (List.map enc p))])=AV.pv (enc y0)∧(if (!y0)=true then G (((.pv (.sl 0 true [])),([],[])))else(At XQ 0 (Zo 0 Xj G) Xm 0 24 [(3,(.pv (.sl 0 true []))),(9,(.pv (.sl 2 false (List.map enc p)))),(10,(.pv (.int .i64 (↑(List.length (List.map enc p)):Int)))),(11,(.pv (.int .i64 0)))] [])))):Zc XQ 0 (Zo 0 Xj G) Xm [] (YD 24 [.pv (enc p)] []):=Zc.to (.req (.abs (Bool) (fun YY=>AV.pv (enc YY)) (.ask (.nil) (.nil)))) h (by kernel_rfl)
theorem Bd{G:AV×List AObj×List AObj->Prop}(p:List Mono)(i:Int)(h:if (decide (i<(↑(List.length p):Int)))=true then(decide (0<=i)&&decide (Int.toNat i<List.length (List.map enc p))&&Enc.sz Mono==2)=true∧(∃ y0:Mono,AV.pv (PV.rptr (PV.cells (List.getD (List.map enc p) (Int.toNat i) default)))=AV.pv (PV.rptr (PV.cells ((enc) y0)))∧((List.isEmpty (PV.asXs (List.getD (PV.cells (enc y0)) (0+1) default))||1==1)=true∧(if (List.isEmpty (PV.asXs (List.getD (PV.cells (enc y0)) (0+1) default)))=true then At XQ 0 (Zo 0 Xj G) Xm 0 24 [(3,(.pv (.sl 0 true []))),(9,(.pv (.sl 2 false (List.map enc p)))),(10,(.pv (.int .i64 (↑(List.length p):Int)))),(11,(.pv (.int .i64 (IntKind.wrap IntKind.i64 (i+1)))))] []else(((List.isEmpty ([]:List PV)||0==1)&&decide ((List.length ([]:List PV)+List.length (PV.asXs (List.getD (PV.cells (enc y0)) (0+1) default)))*16<=1099511627776)&&decide (List.length ([]:List PV)+List.length (PV.asXs (List.getD (PV.cells (enc y0)) (0+1) default))<=1099511627776))=true∧(At XQ 0 (Zo 0 Xj G) Xm 0 24 [(3,(.row 0 (List.length ([]:List PV)+List.length (PV.asXs (List.getD (PV.cells (enc y0)) (0+1) default))) 0 (List.length ([]:List PV)+List.length (PV.asXs (List.getD (PV.cells (enc y0)) (0+1) default))))),(9,(.pv (.sl 2 false (List.map enc p)))),(10,(.pv (.int .i64 (↑(List.length p):Int)))),(11,(.pv (.int .i64 (IntKind.wrap IntKind.i64 (i+1)))))] [(.obj (.row false 9 1 (([]:List PV)++PV.asXs (List.getD (PV.cells (enc y0)) (0+1) default))))])))))else(G (((.pv (.sl 0 true [])),([],[]))))):At XQ 0 (Zo 0 Xj G) Xm 0 24 [(3,.pv (.sl 0 true [])),(9,.pv (enc p)),(10,.pv (.int .i64 p.length)),(11,.pv (.int .i64 i))] []:=At.to (.lit (.ask (.req (.abs (Mono) (fun YY=>AV.pv (PV.rptr (PV.cells ((enc) YY)))) (.lit (.req (.lit (.ask (.lit (.nil)) (.req (.lit (.nil))))))))) (.lit (.keep (.lit (.keep (.nil))))))) h (by kernel_rfl)
theorem BW{G:AV×List AObj×List AObj->Prop}(p:List Mono)(i:Int)(q:Nat)(xs:List Str)(h:if (decide (i<(↑(List.length p):Int)))=true then(decide (0<=i)&&decide (Int.toNat i<List.length (List.map enc p))&&Enc.sz Mono==2)=true∧(∃ y0:Mono,AV.pv (PV.rptr (PV.cells (List.getD (List.map enc p) (Int.toNat i) default)))=AV.pv (PV.rptr (PV.cells ((enc) y0)))∧((List.isEmpty (PV.asXs (List.getD (PV.cells (enc y0)) (0+1) default))||1==1)=true∧((List.length (List.map enc xs)==q&&q==q&&decide ((q+List.length (PV.asXs (List.getD (PV.cells (enc y0)) (0+1) default)))*16<=1099511627776)&&decide (q+List.length (PV.asXs (List.getD (PV.cells (enc y0)) (0+1) default))<=1099511627776))=true∧(At XQ 0 (Zo 0 Xj G) Xm 0 24 [(3,(.row 0 (q+List.length (PV.asXs (List.getD (PV.cells (enc y0)) (0+1) default))) 0 (q+List.length (PV.asXs (List.getD (PV.cells (enc y0)) (0+1) default))))),(9,(.pv (.sl 2 false (List.map enc p)))),(10,(.pv (.int .i64 (↑(List.length p):Int)))),(11,(.pv (.int .i64 (IntKind.wrap IntKind.i64 (i+1)))))] [(.obj (.row false 9 1 (List.map enc xs++PV.asXs (List.getD (PV.cells (enc y0)) (0+1) default))))]))))else((XL [(.row 0 q 0 q)] [(.row false 9 1 (List.map enc xs))])=true∧((XL [(.row 0 q 0 q)] [(.row false 9 1 (List.map PV.str (Wn (List.map Uw (List.map enc xs)))))])=true∧(G (((.row 0 q 0 (List.length (Lib.compact (List.map Uw (List.map PV.str (Wn (List.map Uw (List.map enc xs)))))))),([],[(.row false 9 1 (List.map PV.str (Vl (List.map Uw (List.map PV.str (Wn (List.map Uw (List.map enc xs))))))))]))))))):At XQ 0 (Zo 0 Xj G) Xm 0 24 [(3,.row 0 q 0 q),(9,.pv (enc p)),(10,.pv (.int .i64 p.length)),(11,.pv (.int .i64 i))] [.obj (.row false 9 1 (xs.map enc))]:=At.to (.lit (.ask (.req (.abs (Mono) (fun YY=>AV.pv (PV.rptr (PV.cells ((enc) YY)))) (.lit (.req (.req (.lit (.nil))))))) (.req (.keep (.req (.keep (.nil))))))) h (by kernel_rfl)
def Mp:IC:=(.seq (.reg [⟨(some 2),(.box 2 (.t 0)),0,none⟩,⟨(some 3),(.mv (.c (.bool false))),1,none⟩] none) (.seq (.reg [⟨(some 4),(.faddr 0 (.t 2)),0,none⟩,⟨(some 5),(.load false [.str] (.t 4)),0,none⟩,⟨(some 6),(.load false [.str] (.t 1)),0,none⟩,⟨(some 7),(.bin .num .eql (.t 5) (.t 6)),0,none⟩,⟨(some 3),(.mv (.t 7)),0,none⟩] none) .ret))
def Nx:List IRes:=[(.tmp 3)]
abbrev b2n:Nat:=8
def a3f:ZE:=Y6 []
theorem b8h{G:AV×List AObj×List AObj->Prop}(x:Coef)(v:List UInt8)(h:G (((.pv (.bool (Str.s x.v==v))),([(.box [(.pv (.str v))])],[])))):Zc a3f 1 (Zo 1 Nx G) Mp [] (YD 8 [.pv (enc x),.ptr 0 0] [.box [.pv (.str v)]]):=Zc.to (.lit (.nil)) h (by kernel_rfl)
def Je:IC:=QZ
def Jw:List IRes:=[(.tmp 4)]
abbrev b3l:Nat:=19
def Cr:ZE:=Y6 [(188,.own Hf GK)]
theorem b7g{G:AV×List AObj×List AObj->Prop}(l:List Coef)(v:List UInt8)(h:At Cr 1 (Zo 1 Jw G) Je 0 19 [(0,(.pv (.sl 2 false (List.map enc l)))),(1,(.fn 188 [] [(.ptr 0 0)])),(7,(.pv (.int .i64 (↑(List.length (List.map enc l)):Int)))),(8,(.pv (.int .i64 0)))] [(.obj (.box [(.pv (.str v))]))]):Zc Cr 1 (Zo 1 Jw G) Je [] (YD 19 [.pv (enc l),.fn 188 [] [.ptr 0 0]] [.box [.pv (.str v)]]):=Zc.to (.nil) h (by kernel_rfl)
theorem a4y{G:AV×List AObj×List AObj->Prop}(l:List Coef)(v:List UInt8)(i:Int)(h:if (decide (i<(↑(List.length l):Int)))=true then(decide (0<=i)&&decide (Int.toNat i<List.length (List.map enc l))&&Enc.sz Coef==2)=true∧(∃ y0:Coef,AV.pv (PV.rptr (PV.cells (List.getD (List.map enc l) (Int.toNat i) default)))=AV.pv (PV.rptr (PV.cells ((enc) y0)))∧((Hf [(.pv (.agg [(.str (PV.asStr (List.getD (PV.cells (enc y0)) 0 default))),(.int .i64 (PV.asInt (List.getD (PV.cells (enc y0)) (0+1) default)))])),(.ptr 0 0)] [(.box [(.pv (.str v))])])=true∧(if (Str.s (Coef.v (dec (PV.agg (WT (PV.cells (enc y0)) 0 [Sh.str,Sh.int .i64]))))==v)=true then G (((.pv (.int .i64 i)),([(.box [(.pv (.str v))])],[])))else(At Cr 1 (Zo 1 Jw G) Je 0 19 [(0,(.pv (.sl 2 false (List.map enc l)))),(1,(.fn 188 [] [(.ptr 0 0)])),(7,(.pv (.int .i64 (↑(List.length l):Int)))),(8,(.pv (.int .i64 (IntKind.wrap IntKind.i64 (i+1)))))] [(.obj (.box [(.pv (.str v))]))]))))else(G (((.pv (.int .i64 (-1))),([(.box [(.pv (.str v))])],[]))))):At Cr 1 (Zo 1 Jw G) Je 0 19 [(0,.pv (enc l)),(1,.fn 188 [] [.ptr 0 0]),(7,.pv (.int .i64 l.length)),(8,.pv (.int .i64 i))] [.obj (.box [.pv (.str v)])]:=At.to (.lit (.ask (.req (.abs (Coef) (fun YY=>AV.pv (PV.rptr (PV.cells ((enc) YY)))) (.lit (.req (.keep (.ask (.nil) (.lit (.nil)))))))) (.nil))) h (by kernel_rfl)
def QK:IC:=(.seq (.reg [⟨(some 4),(.mv (.c (.int .i64 0))),0,none⟩] none) (.seq (.seq (.reg [⟨(some 6),(.mv (.t 0)),0,none⟩,⟨(some 7),(.len 1 (.t 6)),0,none⟩,⟨(some 8),(.mv (.c (.int .i64 0))),0,none⟩] none) (.block 0 (.loop [8,7,1,0] (.seq (.reg [⟨(some 9),(.bin .num .lss (.t 8) (.t 7)),0,none⟩] none) (.seq (.cond (.t 9) .skip (.exit 0)) (.seq (.block 1 (.seq (.reg [⟨(some 10),(.mv (.t 8)),0,none⟩,⟨(some 5),(.mv (.t 10)),0,none⟩] none) (.seq (.reg [⟨(some 11),(.mv (.t 1)),0,none⟩,⟨(some 12),(.mv (.t 0)),0,none⟩,⟨(some 13),(.mv (.t 5)),0,none⟩,⟨(some 14),(.iaddr 1 (.t 12) (.t 13)),0,none⟩,⟨(some 15),(.load false [(.int .i64)] (.t 14)),0,none⟩,⟨(some 16),(.bin .num .eql (.t 11) (.t 15)),0,none⟩] none) (.cond (.t 16) (.seq (.reg [⟨(some 17),(.mv (.t 5)),0,none⟩,⟨(some 4),(.mv (.t 17)),0,none⟩] none) .ret) .skip)))) (.reg [⟨(some 18),(.bin .num .add (.t 8) (.c (.int .i64 1))),0,none⟩,⟨(some 8),(.mv (.t 18)),0,none⟩] none))))))) (.seq (.reg [⟨(some 4),(.mv (.c (.int .i64 (-1)))),0,none⟩] none) .ret)))
def QM:List IRes:=[(.tmp 4)]
abbrev a9c:Nat:=19
def Jn:ZE:=Y6 []
theorem b2y{G:PV->Prop}(l:List Int)(n:Int)(h:At Jn 0 (Za QM G) QK 0 19 [(0,(.pv (.sl 1 false (List.map enc l)))),(1,(.pv (.int .i64 n))),(7,(.pv (.int .i64 (↑(List.length (List.map enc l)):Int)))),(8,(.pv (.int .i64 0)))] []):Zc Jn 0 (Za QM G) QK [] (Z5 19 [enc l,enc n]):=Zc.tp (.nil) h (by kernel_rfl)
theorem Lz{G:PV->Prop}(l:List Int)(n:Int)(i:Int)(h:if (decide (i<(↑(List.length l):Int)))=true then(decide (0<=i)&&decide (Int.toNat i<List.length (List.map enc l))&&Enc.sz Int==1)=true∧(∃ y0:Int,AV.pv (PV.rptr (PV.cells (List.getD (List.map enc l) (Int.toNat i) default)))=AV.pv (PV.rptr (PV.cells ((enc) y0)))∧(if (n==PV.asInt (List.getD (PV.cells (enc y0)) 0 default))=true then G ((.int .i64 i))else(At Jn 0 (Za QM G) QK 0 19 [(0,(.pv (.sl 1 false (List.map enc l)))),(1,(.pv (.int .i64 n))),(7,(.pv (.int .i64 (↑(List.length l):Int)))),(8,(.pv (.int .i64 (IntKind.wrap IntKind.i64 (i+1)))))] [])))else(G ((.int .i64 (-1))))):At Jn 0 (Za QM G) QK 0 19 [(0,.pv (enc l)),(1,.pv (enc n)),(7,.pv (.int .i64 l.length)),(8,.pv (.int .i64 i))] []:=At.tp (.lit (.ask (.req (.abs (Int) (fun YY=>AV.pv (PV.rptr (PV.cells ((enc) YY)))) (.lit (.lit (.ask (.nil) (.lit (.nil))))))) (.nil))) h (by kernel_rfl)
def H4:IC:=(.seq (.reg [⟨(some 4),(.mv (.c (.bool false))),0,none⟩] none) (.seq (.reg [⟨(some 5),(.mv (.t 0)),0,none⟩,⟨(some 6),(.mv (.t 1)),0,none⟩,⟨(some 7),(.call (.c (.fn 284)) [(.t 5),(.t 6)]),0,none⟩,⟨(some 8),(.bin .num .geq (.t 7) (.c (.int .i64 0))),2,none⟩,⟨(some 4),(.mv (.t 8)),2,none⟩] none) .ret))
def H3:List IRes:=[(.tmp 4)]
abbrev L2:Nat:=9
def CD:ZE:=Y6 [(284,.pure (preT (fun x:List Int×Int×Unit=>Zn x.1)) (Ze (fun x:List Int×Int×Unit=>Zy (fun n:Int=>decide (x.2.1=n)) x.1)))]
theorem a1m{G:PV->Prop}(l:List Int)(n:Int)(h:(Go.Pl.preT (fun(x:List Int×Int×Unit)=>Zn x.1) [(.sl 1 false (List.map enc l)),(.int .i64 n)])=true∧(∃ y0:Int,AV.pv (Ze (fun(x:List Int×Int×Unit)=>Zy (fun(n:Int)=>decide (x.2.1=n)) x.1) [(.sl 1 false (List.map enc l)),(.int .i64 n)])=AV.pv (enc y0)∧(G ((.bool (decide (y0 ≥ 0))))))):Zc CD 0 (Za H3 G) H4 [] (Z5 9 [enc l,enc n]):=Zc.tp (.req (.abs (Int) (fun YY=>AV.pv (enc YY)) (.lit (.nil)))) h (by kernel_rfl)
def UA:IC:=(.seq (.reg [⟨(some 2),(.mv (.c (.int .i64 0))),0,none⟩,⟨(some 3),(.mv (.c (.int .i64 0))),0,none⟩] none) (.seq (.seq (.reg [⟨(some 9),(.mv (.t 0)),0,none⟩,⟨(some 10),(.call (.c (.fn 246)) [(.t 9),(.c (.int .i64 0))]),0,none⟩] none) (.cond (.t 10) (.seq (.reg [⟨(some 2),(.mv (.c (.int .i64 0))),0,none⟩,⟨(some 3),(.mv (.c (.int .i64 0))),0,none⟩] none) .ret) .skip)) (.seq (.reg [⟨(some 4),(.mv (.c (.int .i64 1))),0,none⟩] none) (.seq (.seq (.reg [⟨(some 11),(.mv (.t 0)),0,none⟩,⟨(some 12),(.len 1 (.t 11)),0,none⟩,⟨(some 13),(.mv (.c (.int .i64 0))),0,none⟩] none) (.block 0 (.loop [13,12,11,4] (.seq (.reg [⟨(some 14),(.bin .num .lss (.t 13) (.t 12)),0,none⟩] none) (.seq (.cond (.t 14) .skip (.exit 0)) (.seq (.block 1 (.seq (.reg [⟨(some 15),(.iaddr 1 (.t 11) (.t 13)),0,none⟩,⟨(some 16),(.load false [(.int .i64)] (.t 15)),0,none⟩,⟨(some 6),(.mv (.t 16)),0,none⟩] none) (.seq (.reg [⟨(some 18),(.mv (.t 4)),0,none⟩,⟨(some 19),(.mv (.t 6)),0,none⟩,⟨(some 20),(.call (.c (.fn 247)) [(.t 18),(.t 19)]),0,none⟩,⟨(some 17),(.mv (.t 20)),2,none⟩,⟨(some 21),(.extract (.t 17) 0),2,none⟩,⟨(some 22),(.extract (.t 17) 1),2,none⟩,⟨(some 7),(.mv (.t 21)),2,none⟩,⟨(some 8),(.mv (.t 22)),2,none⟩] none) (.seq (.seq (.reg [⟨(some 23),(.mv (.t 8)),0,none⟩,⟨(some 24),(.bin .num .neq (.t 23) (.c (.int .i64 0))),0,none⟩] none) (.cond (.t 24) (.seq (.reg [⟨(some 25),(.mv (.t 8)),0,none⟩,⟨(some 2),(.mv (.c (.int .i64 0))),0,none⟩,⟨(some 3),(.mv (.t 25)),0,none⟩] none) .ret) .skip)) (.reg [⟨(some 26),(.mv (.t 7)),0,none⟩,⟨(some 4),(.mv (.t 26)),0,none⟩] none))))) (.reg [⟨(some 27),(.bin .num .add (.t 13) (.c (.int .i64 1))),0,none⟩,⟨(some 13),(.mv (.t 27)),0,none⟩] none))))))) (.seq (.reg [⟨(some 28),(.mv (.t 4)),0,none⟩,⟨(some 2),(.mv (.t 28)),0,none⟩,⟨(some 3),(.mv (.c (.int .i64 0))),0,none⟩] none) .ret)))))
def VQ:List IRes:=[(.tmp 2),(.tmp 3)]
abbrev a0t:Nat:=29
def UW:ZE:=Y6 [(246,.pure (preT (fun x:List Int×Int×Unit=>Zn x.1)) (Ze (fun x:List Int×Int×Unit=>x.1.contains x.2.1))),(247,.pure (preT (fun _:Int×Int×Unit=>true)) (Ze (fun x:Int×Int×Unit=>D3 x.1 x.2.1)))]
theorem a7j{G:PV->Prop}(l:List Int)(h:(Go.Pl.preT (fun(x:List Int×Int×Unit)=>Zn x.1) [(.sl 1 false (List.map enc l)),(.int .i64 0)])=true∧(∃ y0:Bool,AV.pv (Ze (fun(x:List Int×Int×Unit)=>List.contains x.1 x.2.1) [(.sl 1 false (List.map enc l)),(.int .i64 0)])=AV.pv (enc y0)∧(if (y0)=true then G ((.tup [(.int .i64 0),(.int .i64 0)]))else(At UW 0 (Za VQ G) UA 0 29 [(4,(.pv (.int .i64 1))),(11,(.pv (.sl 1 false (List.map enc l)))),(12,(.pv (.int .i64 (↑(List.length (List.map enc l)):Int)))),(13,(.pv (.int .i64 0)))] [])))):Zc UW 0 (Za VQ G) UA [] (Z5 29 [enc l]):=Zc.tp (.req (.abs (Bool) (fun YY=>AV.pv (enc YY)) (.ask (.nil) (.nil)))) h (by kernel_rfl)
theorem RW{G:PV->Prop}(l:List Int)(o i:Int)(h:if (decide (i<(↑(List.length l):Int)))=true then(decide (0<=i)&&decide (Int.toNat i<List.length (List.map enc l))&&Enc.sz Int==1)=true∧(∃ y0:Int,AV.pv (PV.rptr (PV.cells (List.getD (List.map enc l) (Int.toNat i) default)))=AV.pv (PV.rptr (PV.cells ((enc) y0)))∧(∃ y1:Int×Int,AV.pv (Ze (fun(x:Int×Int×Unit)=>D3 x.1 x.2.1) [(.int .i64 o),(.int .i64 (PV.asInt (List.getD (PV.cells (enc y0)) 0 default)))])=AV.pv (enc y1)∧(if (y1.2 != 0)=true then G ((.tup [(.int .i64 0),(.int .i64 y1.2)]))else(At UW 0 (Za VQ G) UA 0 29 [(4,(.pv (.int .i64 y1.1))),(11,(.pv (.sl 1 false (List.map enc l)))),(12,(.pv (.int .i64 (↑(List.length l):Int)))),(13,(.pv (.int .i64 (IntKind.wrap IntKind.i64 (i+1)))))] []))))else(G ((.tup [(.int .i64 o),(.int .i64 0)])))):At UW 0 (Za VQ G) UA 0 29 [(4,.pv (.int .i64 o)),(11,.pv (enc l)),(12,.pv (.int .i64 l.length)),(13,.pv (.int .i64 i))] []:=At.tp (.lit (.ask (.req (.abs (Int) (fun YY=>AV.pv (PV.rptr (PV.cells ((enc) YY)))) (.lit (.lit (.abs (Int×Int) (fun YY=>AV.pv (enc YY)) (.lit (.ask (.nil) (.lit (.nil))))))))) (.nil))) h (by kernel_rfl)
def ZH:IC:=(.seq (.reg [⟨(some 4),(.mv (.c (.int .i64 0))),0,none⟩,⟨(some 5),(.mv (.c (.int .i64 0))),0,none⟩] none) (.seq (.seq (.reg [⟨(some 20),(.mv (.t 0)),0,none⟩,⟨(some 21),(.call (.c (.fn 122)) [(.t 20)]),0,none⟩,⟨(some 22),(.un .not (.t 21)),2,none⟩] none) (.cond (.t 22) (.seq (.reg [⟨(some 4),(.mv (.c (.int .i64 0))),0,none⟩,⟨(some 5),(.mv (.c (.int .i64 1))),0,none⟩] none) .ret) .skip)) (.seq (.reg [⟨(some 6),(.mv (.c (.sl 0 true []))),0,none⟩] none) (.seq (.reg [⟨(some 7),(.mv (.c (.bool false))),0,none⟩] none) (.seq (.seq (.reg [⟨(some 23),(.mv (.t 0)),0,none⟩,⟨(some 24),(.len 1 (.t 23)),0,none⟩,⟨(some 25),(.mv (.c (.int .i64 0))),0,none⟩] none) (.block 0 (.loop [25,24,23,1,7,6] (.seq (.reg [⟨(some 26),(.bin .num .lss (.t 25) (.t 24)),0,none⟩] none) (.seq (.cond (.t 26) .skip (.exit 0)) (.seq (.block 1 (.seq (.reg [⟨(some 27),(.iaddr 2 (.t 23) (.t 25)),0,none⟩,⟨(some 28),(.load true [(.int .i64),(.sl 1)] (.t 27)),0,none⟩,⟨(some 9),(.alloc (.agg [(.int .i64 0),(.sl 0 true [])])),0,none⟩,⟨none,(.store 2 (.t 9) (.t 28)),1,none⟩] none) (.seq (.reg [⟨(some 29),(.faddr 0 (.t 9)),0,none⟩,⟨(some 30),(.load false [(.int .i64)] (.t 29)),0,none⟩,⟨(some 31),(.bslice 3 1 1 (.int .i64 0) [(0,(.t 30))]),0,none⟩,⟨(some 10),(.mv (.t 31)),1,none⟩] none) (.seq (.seq (.reg [⟨(some 32),(.faddr 1 (.t 9)),0,none⟩,⟨(some 33),(.load false [(.sl 1)] (.t 32)),0,none⟩,⟨(some 34),(.len 1 (.t 33)),0,none⟩,⟨(some 35),(.mv (.c (.int .i64 0))),0,none⟩] none) (.block 2 (.loop [35,34,33,1,7,10,6,25,24,23] (.seq (.reg [⟨(some 36),(.bin .num .lss (.t 35) (.t 34)),0,none⟩] none) (.seq (.cond (.t 36) .skip (.exit 2)) (.seq (.block 3 (.seq (.reg [⟨(some 37),(.iaddr 1 (.t 33) (.t 35)),0,none⟩,⟨(some 38),(.load false [.str] (.t 37)),0,none⟩,⟨(some 12),(.alloc (.str [])),0,none⟩,⟨none,(.store 1 (.t 12) (.t 38)),1,none⟩] none) (.seq (.reg [⟨(some 39),(.mv (.t 1)),0,none⟩,⟨(some 40),(.mkfn 188 [] [(.t 12)]),0,none⟩,⟨(some 41),(.call (.c (.fn 109)) [(.t 39),(.t 40)]),0,none⟩,⟨(some 13),(.mv (.t 41)),2,none⟩] none) (.seq (.seq (.reg [⟨(some 42),(.mv (.t 13)),0,none⟩,⟨(some 43),(.bin .num .lss (.t 42) (.c (.int .i64 0))),0,none⟩] none) (.cond (.t 43) (.seq (.reg [⟨(some 4),(.mv (.c (.int .i64 0))),0,none⟩,⟨(some 5),(.mv (.c (.int .i64 7))),0,none⟩] none) .ret) .skip)) (.seq (.reg [⟨(some 44),(.mv (.t 1)),0,none⟩,⟨(some 45),(.mv (.t 13)),0,none⟩,⟨(some 46),(.iaddr 2 (.t 44) (.t 45)),0,none⟩,⟨(some 47),(.faddr 1 (.t 46)),0,none⟩,⟨(some 48),(.load false [(.int .i64)] (.t 47)),0,none⟩,⟨(some 14),(.mv (.t 48)),0,none⟩] none) (.seq (.reg [⟨(some 49),(.mv (.t 7)),0,none⟩,⟨(some 50),(.mv (.t 49)),0,none⟩,⟨(some 51),(.mv (.t 14)),0,(some (50,false))⟩,⟨(some 52),(.bin .num .lss (.t 51) (.c (.int .i64 (-4611686018427387904)))),0,(some (50,false))⟩,⟨(some 53),(.pick (.t 50) (.c (.bool true)) (.t 52)),0,none⟩,⟨(some 54),(.mv (.t 53)),0,none⟩,⟨(some 55),(.mv (.t 14)),0,(some (54,false))⟩,⟨(some 56),(.bin .num .gtr (.t 55) (.c (.int .i64 4611686018427387904))),0,(some (54,false))⟩,⟨(some 57),(.pick (.t 54) (.c (.bool true)) (.t 56)),0,none⟩,⟨(some 7),(.mv (.t 57)),0,none⟩] none) (.reg [⟨(some 58),(.mv (.t 10)),0,none⟩,⟨(some 59),(.mv (.t 14)),0,none⟩,⟨(some 60),(.bslice 3 1 1 (.int .i64 0) [(0,(.t 59))]),0,none⟩,⟨(some 61),(.append 3 1 8 (.t 58) (.t 60)),1,none⟩,⟨(some 10),(.mv (.t 61)),2,none⟩] none))))))) (.reg [⟨(some 62),(.bin .num .add (.t 35) (.c (.int .i64 1))),0,none⟩,⟨(some 35),(.mv (.t 62)),0,none⟩] none))))))) (.reg [⟨(some 63),(.mv (.t 6)),0,none⟩,⟨(some 64),(.mv (.t 10)),0,none⟩,⟨(some 65),(.bslice 34 1 1 (.sl 0 true []) [(0,(.t 64))]),0,none⟩,⟨(some 66),(.append 34 1 24 (.t 63) (.t 65)),1,none⟩,⟨(some 6),(.mv (.t 66)),2,none⟩] none))))) (.reg [⟨(some 67),(.bin .num .add (.t 25) (.c (.int .i64 1))),0,none⟩,⟨(some 25),(.mv (.t 67)),0,none⟩] none))))))) (.seq (.seq (.reg [⟨(some 68),(.mv (.t 7)),0,none⟩] none) (.cond (.t 68) (.seq (.reg [⟨(some 4),(.mv (.c (.int .i64 0))),0,none⟩,⟨(some 5),(.mv (.c (.int .i64 2))),0,none⟩] none) .ret) .skip)) (.seq (.reg [⟨(some 15),(.mv (.c (.sl 0 true []))),0,none⟩] none) (.seq (.seq (.reg [⟨(some 69),(.mv (.t 6)),0,none⟩,⟨(some 70),(.len 1 (.t 69)),0,none⟩,⟨(some 71),(.mv (.c (.int .i64 0))),0,none⟩] none) (.block 4 (.loop [71,70,69,15] (.seq (.reg [⟨(some 72),(.bin .num .lss (.t 71) (.t 70)),0,none⟩] none) (.seq (.cond (.t 72) .skip (.exit 4)) (.seq (.block 5 (.seq (.reg [⟨(some 73),(.iaddr 1 (.t 69) (.t 71)),0,none⟩,⟨(some 74),(.load false [(.sl 1)] (.t 73)),0,none⟩,⟨(some 17),(.mv (.t 74)),0,none⟩] none) (.seq (.reg [⟨(some 76),(.mv (.t 17)),0,none⟩,⟨(some 77),(.call (.c (.fn 189)) [(.t 76)]),0,none⟩,⟨(some 75),(.mv (.t 77)),2,none⟩,⟨(some 78),(.extract (.t 75) 0),2,none⟩,⟨(some 79),(.extract (.t 75) 1),2,none⟩,⟨(some 18),(.mv (.t 78)),2,none⟩,⟨(some 19),(.mv (.t 79)),2,none⟩] none) (.seq (.seq (.reg [⟨(some 80),(.mv (.t 19)),0,none⟩,⟨(some 81),(.bin .num .neq (.t 80) (.c (.int .i64 0))),0,none⟩] none) (.cond (.t 81) (.seq (.reg [⟨(some 4),(.mv (.c (.int .i64 0))),0,none⟩,⟨(some 5),(.mv (.c (.int .i64 2))),0,none⟩] none) .ret) .skip)) (.reg [⟨(some 82),(.mv (.t 15)),0,none⟩,⟨(some 83),(.mv (.t 18)),0,none⟩,⟨(some 84),(.bslice 3 1 1 (.int .i64 0) [(0,(.t 83))]),0,none⟩,⟨(some 85),(.append 3 1 8 (.t 82) (.t 84)),1,none⟩,⟨(some 15),(.mv (.t 85)),2,none⟩] none))))) (.reg [⟨(some 86),(.bin .num .add (.t 71) (.c (.int .i64 1))),0,none⟩,⟨(some 71),(.mv (.t 86)),0,none⟩] none))))))) (.seq (.reg [⟨(some 87),(.mv (.t 15)),0,none⟩,⟨(some 88),(.call (.c (.fn 190)) [(.t 87)]),0,none⟩,⟨(some 89),(.extract (.t 88) 0),2,none⟩,⟨(some 90),(.extract (.t 88) 1),2,none⟩,⟨(some 4),(.mv (.t 89)),2,none⟩,⟨(some 5),(.mv (.t 90)),2,none⟩] none) .ret)))))))))
def ZF:List IRes:=[(.tmp 4),(.tmp 5)]
abbrev O9:Nat:=91
def ZQ:ZE:=Y6 [(122,.pure (preT (fun x:List Mono×Unit=>Z8 x.1)) (Ze (fun x:List Mono×Unit=>ZG x.1))),(109,.own (VL 188) G9),(189,.pure (preT (fun x:List Int×Unit=>Zn x.1)) (Ze (fun x:List Int×Unit=>Y8 x.1))),(190,.pure (preT (fun x:List Int×Unit=>decide (x.1.length<=10000))) (Ze (fun x:List Int×Unit=>Vn x.1)))]
theorem a9j{G:PV->Prop}(p:List Mono)(vs:List Coef)(h:(Go.Pl.preT (fun(x:List Mono×Unit)=>Z8 x.1) [(.sl 2 false (List.map enc p))])=true∧(∃ y0:Bool,AV.pv (Ze (fun(x:List Mono×Unit)=>ZG x.1) [(.sl 2 false (List.map enc p))])=AV.pv (enc y0)∧(if (!y0)=true then G ((.tup [(.int .i64 0),(.int .i64 1)]))else(At ZQ 0 (Za ZF G) ZH 0 91 [(1,(.pv (.sl 2 false (List.map enc vs)))),(6,(.pv (.sl 0 true []))),(7,(.pv (.bool false))),(23,(.pv (.sl 2 false (List.map enc p)))),(24,(.pv (.int .i64 (↑(List.length (List.map enc p)):Int)))),(25,(.pv (.int .i64 0)))] [])))):Zc ZQ 0 (Za ZF G) ZH [] (Z5 91 [enc p,enc vs]):=Zc.tp (.req (.abs (Bool) (fun YY=>AV.pv (enc YY)) (.ask (.nil) (.nil)))) h (by kernel_rfl)
theorem BY{G:PV->Prop}(p:List Mono)(vs:List Coef)(bd:Bool)(i:Int)(h:if (decide (i<(↑(List.length p):Int)))=true then(decide (0<=i)&&decide (Int.toNat i<List.length (List.map enc p))&&Enc.sz Mono==2)=true∧(∃ y0:Mono,AV.pv (PV.rptr (PV.cells (List.getD (List.map enc p) (Int.toNat i) default)))=AV.pv (PV.rptr (PV.cells ((enc) y0)))∧(At ZQ 0 (Za ZF G) ZH 1 91 [(1,(.pv (.sl 2 false (List.map enc vs)))),(6,(.pv (.sl 0 true []))),(7,(.pv (.bool bd))),(10,(.row 0 1 0 1)),(23,(.pv (.sl 2 false (List.map enc p)))),(24,(.pv (.int .i64 (↑(List.length p):Int)))),(25,(.pv (.int .i64 i))),(33,(.pv (.sl 1 false (PV.asXs (List.getD (PV.cells (enc y0)) (0+1) default))))),(34,(.pv (.int .i64 (↑(List.length (PV.asXs (List.getD (PV.cells (enc y0)) (0+1) default))):Int)))),(35,(.pv (.int .i64 0)))] [(.obj (.row false 3 1 [(.int .i64 (PV.asInt (List.getD (PV.cells (enc y0)) 0 default)))]))]))else(if (bd)=true then G ((.tup [(.int .i64 0),(.int .i64 2)]))else(At ZQ 0 (Za ZF G) ZH 2 91 [(15,(.pv (.sl 0 true []))),(69,(.pv (.sl 0 true []))),(70,(.pv (.int .i64 0))),(71,(.pv (.int .i64 0)))] []))):At ZQ 0 (Za ZF G) ZH 0 91 [(6,.pv (.sl 0 true [])),(1,.pv (enc vs)),(7,.pv (.bool bd)),(23,.pv (enc p)),(24,.pv (.int .i64 p.length)),(25,.pv (.int .i64 i))] []:=At.tp (.lit (.ask (.req (.abs (Mono) (fun YY=>AV.pv (PV.rptr (PV.cells ((enc) YY)))) (.lit (.lit (.nil))))) (.ask (.nil) (.nil)))) h (by kernel_rfl)
theorem B9{G:PV->Prop}(p:List Mono)(vs:List Coef)(bd:Bool)(i:Int)(q:Nat)(fs:List (List Int))(h:if (decide (i<(↑(List.length p):Int)))=true then(decide (0<=i)&&decide (Int.toNat i<List.length (List.map enc p))&&Enc.sz Mono==2)=true∧(∃ y0:Mono,AV.pv (PV.rptr (PV.cells (List.getD (List.map enc p) (Int.toNat i) default)))=AV.pv (PV.rptr (PV.cells ((enc) y0)))∧(At ZQ 0 (Za ZF G) ZH 1 91 [(1,(.pv (.sl 2 false (List.map enc vs)))),(6,(.row 0 q 0 q)),(7,(.pv (.bool bd))),(10,(.row 1 1 0 1)),(23,(.pv (.sl 2 false (List.map enc p)))),(24,(.pv (.int .i64 (↑(List.length p):Int)))),(25,(.pv (.int .i64 i))),(33,(.pv (.sl 1 false (PV.asXs (List.getD (PV.cells (enc y0)) (0+1) default))))),(34,(.pv (.int .i64 (↑(List.length (PV.asXs (List.getD (PV.cells (enc y0)) (0+1) default))):Int)))),(35,(.pv (.int .i64 0)))] [(.obj (.row false 34 1 (List.map enc fs))),(.obj (.row false 3 1 [(.int .i64 (PV.asInt (List.getD (PV.cells (enc y0)) 0 default)))]))]))else(if (bd)=true then G ((.tup [(.int .i64 0),(.int .i64 2)]))else(At ZQ 0 (Za ZF G) ZH 2 91 [(15,(.pv (.sl 0 true []))),(69,(.row 0 q 0 q)),(70,(.pv (.int .i64 (↑(q - 0):Int)))),(71,(.pv (.int .i64 0)))] [(.obj (.row false 34 1 (List.map enc fs)))]))):At ZQ 0 (Za ZF G) ZH 0 91 [(6,.row 0 q 0 q),(1,.pv (enc vs)),(7,.pv (.bool bd)),(23,.pv (enc p)),(24,.pv (.int .i64 p.length)),(25,.pv (.int .i64 i))] [.obj (.row false 34 1 (fs.map enc))]:=At.tp (.lit (.ask (.req (.abs (Mono) (fun YY=>AV.pv (PV.rptr (PV.cells ((enc) YY)))) (.lit (.lit (.nil))))) (.ask (.nil) (.nil)))) h (by kernel_rfl)
theorem BV{G:PV->Prop}(p:List Mono)(vs:List Coef)(bd:Bool)(i j:Int)(ns:List Str)(r:Nat)(l:List Int)(h:if (decide (j<(↑(List.length ns):Int)))=true then(decide (0<=j)&&decide (Int.toNat j<List.length (List.map enc ns))&&Enc.sz Str==1)=true∧(∃ y0:Str,AV.pv (PV.rptr (PV.cells (List.getD (List.map enc ns) (Int.toNat j) default)))=AV.pv (PV.rptr (PV.cells ((enc) y0)))∧((VL 188 [(.pv (.sl 2 false (List.map enc vs))),(.fn 188 [] [(.ptr 0 0)])] [(.box [(.pv (.str (PV.asStr (List.getD (PV.cells (enc y0)) 0 default))))])])=true∧(if (decide (Zy (fun(t:Coef)=>Str.s t.v==PV.asStr (List.getD (PV.cells (enc y0)) 0 default)) (QS (enc vs))<0))=true then G ((.tup [(.int .i64 0),(.int .i64 7)]))else((decide (0<=Zy (fun(t:Coef)=>Str.s t.v==PV.asStr (List.getD (PV.cells (enc y0)) 0 default)) (QS (enc vs)))&&decide (Int.toNat (Zy (fun(t:Coef)=>Str.s t.v==PV.asStr (List.getD (PV.cells (enc y0)) 0 default)) (QS (enc vs)))<List.length (List.map enc vs))&&Enc.sz Coef==2)=true∧(∃ y1:Coef,AV.pv (PV.rptr (PV.cells (List.getD (List.map enc vs) (Int.toNat (Zy (fun(t:Coef)=>Str.s t.v==PV.asStr (List.getD (PV.cells (enc y0)) 0 default)) (QS (enc vs)))) default)))=AV.pv (PV.rptr (PV.cells ((enc) y1)))∧(if (bd)=true then(List.length (List.map enc l)==r&&r==r&&decide ((r+List.length (List.drop 0 (List.take 1 [Sh.co (Sh.int .i64) (List.getD (List.drop 1 (PV.cells (enc y1))) 0 default)])))*8<=1099511627776)&&decide (r+List.length (List.drop 0 (List.take 1 [Sh.co (Sh.int .i64) (List.getD (List.drop 1 (PV.cells (enc y1))) 0 default)]))<=1099511627776))=true∧(At ZQ 0 (Za ZF G) ZH 1 91 [(1,(.pv (.sl 2 false (List.map enc vs)))),(6,(.pv (.sl 0 true []))),(7,(.pv (.bool true))),(10,(.row 0 (r+List.length (List.drop 0 (List.take 1 [Sh.co (Sh.int .i64) (List.getD (List.drop 1 (PV.cells (enc y1))) 0 default)]))) 0 (r+List.length (List.drop 0 (List.take 1 [Sh.co (Sh.int .i64) (List.getD (List.drop 1 (PV.cells (enc y1))) 0 default)]))))),(23,(.pv (.sl 2 false (List.map enc p)))),(24,(.pv (.int .i64 (↑(List.length p):Int)))),(25,(.pv (.int .i64 i))),(33,(.pv (.sl 1 false (List.map enc ns)))),(34,(.pv (.int .i64 (↑(List.length ns):Int)))),(35,(.pv (.int .i64 (IntKind.wrap IntKind.i64 (j+1)))))] [(.obj (.row false 3 1 (List.map enc l++List.drop 0 (List.take 1 [Sh.co (Sh.int .i64) (List.getD (List.drop 1 (PV.cells (enc y1))) 0 default)]))))])else(if (decide (PV.asInt (List.getD (List.drop 1 (PV.cells (enc y1))) 0 default)<(-4611686018427387904:Int)))=true then(List.length (List.map enc l)==r&&r==r&&decide ((r+List.length (List.drop 0 (List.take 1 [Sh.co (Sh.int .i64) (List.getD (List.drop 1 (PV.cells (enc y1))) 0 default)])))*8<=1099511627776)&&decide (r+List.length (List.drop 0 (List.take 1 [Sh.co (Sh.int .i64) (List.getD (List.drop 1 (PV.cells (enc y1))) 0 default)]))<=1099511627776))=true∧(At ZQ 0 (Za ZF G) ZH 1 91 [(1,(.pv (.sl 2 false (List.map enc vs)))),(6,(.pv (.sl 0 true []))),(7,(.pv (.bool true))),(10,(.row 0 (r+List.length (List.drop 0 (List.take 1 [Sh.co (Sh.int .i64) (List.getD (List.drop 1 (PV.cells (enc y1))) 0 default)]))) 0 (r+List.length (List.drop 0 (List.take 1 [Sh.co (Sh.int .i64) (List.getD (List.drop 1 (PV.cells (enc y1))) 0 default)]))))),(23,(.pv (.sl 2 false (List.map enc p)))),(24,(.pv (.int .i64 (↑(List.length p):Int)))),(25,(.pv (.int .i64 i))),(33,(.pv (.sl 1 false (List.map enc ns)))),(34,(.pv (.int .i64 (↑(List.length ns):Int)))),(35,(.pv (.int .i64 (IntKind.wrap IntKind.i64 (j+1)))))] [(.obj (.row false 3 1 (List.map enc l++List.drop 0 (List.take 1 [Sh.co (Sh.int .i64) (List.getD (List.drop 1 (PV.cells (enc y1))) 0 default)]))))])else((List.length (List.map enc l)==r&&r==r&&decide ((r+List.length (List.drop 0 (List.take 1 [Sh.co (Sh.int .i64) (List.getD (List.drop 1 (PV.cells (enc y1))) 0 default)])))*8<=1099511627776)&&decide (r+List.length (List.drop 0 (List.take 1 [Sh.co (Sh.int .i64) (List.getD (List.drop 1 (PV.cells (enc y1))) 0 default)]))<=1099511627776))=true∧(At ZQ 0 (Za ZF G) ZH 1 91 [(1,(.pv (.sl 2 false (List.map enc vs)))),(6,(.pv (.sl 0 true []))),(7,(.pv (.bool (decide (PV.asInt (List.getD (List.drop 1 (PV.cells (enc y1))) 0 default)>4611686018427387904))))),(10,(.row 0 (r+List.length (List.drop 0 (List.take 1 [Sh.co (Sh.int .i64) (List.getD (List.drop 1 (PV.cells (enc y1))) 0 default)]))) 0 (r+List.length (List.drop 0 (List.take 1 [Sh.co (Sh.int .i64) (List.getD (List.drop 1 (PV.cells (enc y1))) 0 default)]))))),(23,(.pv (.sl 2 false (List.map enc p)))),(24,(.pv (.int .i64 (↑(List.length p):Int)))),(25,(.pv (.int .i64 i))),(33,(.pv (.sl 1 false (List.map enc ns)))),(34,(.pv (.int .i64 (↑(List.length ns):Int)))),(35,(.pv (.int .i64 (IntKind.wrap IntKind.i64 (j+1)))))] [(.obj (.row false 3 1 (List.map enc l++List.drop 0 (List.take 1 [Sh.co (Sh.int .i64) (List.getD (List.drop 1 (PV.cells (enc y1))) 0 default)]))))])))))))))else((List.length (List.map enc l)==r)=true∧(At ZQ 0 (Za ZF G) ZH 0 91 [(1,(.pv (.sl 2 false (List.map enc vs)))),(6,(.row 0 1 0 1)),(7,(.pv (.bool bd))),(23,(.pv (.sl 2 false (List.map enc p)))),(24,(.pv (.int .i64 (↑(List.length p):Int)))),(25,(.pv (.int .i64 (IntKind.wrap IntKind.i64 (i+1)))))] [(.obj (.row false 34 1 [(.sl 1 false (List.drop 0 (List.take r (List.map enc l))))]))]))):At ZQ 0 (Za ZF G) ZH 1 91 [(6,.pv (.sl 0 true [])),(1,.pv (enc vs)),(7,.pv (.bool bd)),(23,.pv (enc p)),(24,.pv (.int .i64 p.length)),(25,.pv (.int .i64 i)),(33,.pv (enc ns)),(34,.pv (.int .i64 ns.length)),(35,.pv (.int .i64 j)),(10,.row 0 r 0 r)] [.obj (.row false 3 1 (l.map enc))]:=At.tp (.lit (.ask (.req (.abs (Str) (fun YY=>AV.pv (PV.rptr (PV.cells ((enc) YY)))) (.lit (.req (.keep (.lit (.ask (.nil) (.req (.abs (Coef) (fun YY=>AV.pv (PV.rptr (PV.cells ((enc) YY)))) (.lit (.ask (.lit (.lit (.lit (.lit (.lit (.lit (.lit (.req (.lit (.nil)))))))))) (.lit (.lit (.lit (.ask (.lit (.lit (.lit (.lit (.req (.lit (.nil))))))) (.lit (.lit (.lit (.lit (.lit (.req (.lit (.nil))))))))))))))))))))))) (.req (.lit (.lit (.lit (.lit (.lit (.lit (.nil)))))))))) h (by kernel_rfl)
theorem Ar{G:PV->Prop}(p:List Mono)(vs:List Coef)(bd:Bool)(i j:Int)(ns:List Str)(r:Nat)(l:List Int)(q:Nat)(fs:List (List Int))(h:if (decide (j<(↑(List.length ns):Int)))=true then(decide (0<=j)&&decide (Int.toNat j<List.length (List.map enc ns))&&Enc.sz Str==1)=true∧(∃ y0:Str,AV.pv (PV.rptr (PV.cells (List.getD (List.map enc ns) (Int.toNat j) default)))=AV.pv (PV.rptr (PV.cells ((enc) y0)))∧((VL 188 [(.pv (.sl 2 false (List.map enc vs))),(.fn 188 [] [(.ptr 0 0)])] [(.box [(.pv (.str (PV.asStr (List.getD (PV.cells (enc y0)) 0 default))))])])=true∧(if (decide (Zy (fun(t:Coef)=>Str.s t.v==PV.asStr (List.getD (PV.cells (enc y0)) 0 default)) (QS (enc vs))<0))=true then G ((.tup [(.int .i64 0),(.int .i64 7)]))else((decide (0<=Zy (fun(t:Coef)=>Str.s t.v==PV.asStr (List.getD (PV.cells (enc y0)) 0 default)) (QS (enc vs)))&&decide (Int.toNat (Zy (fun(t:Coef)=>Str.s t.v==PV.asStr (List.getD (PV.cells (enc y0)) 0 default)) (QS (enc vs)))<List.length (List.map enc vs))&&Enc.sz Coef==2)=true∧(∃ y1:Coef,AV.pv (PV.rptr (PV.cells (List.getD (List.map enc vs) (Int.toNat (Zy (fun(t:Coef)=>Str.s t.v==PV.asStr (List.getD (PV.cells (enc y0)) 0 default)) (QS (enc vs)))) default)))=AV.pv (PV.rptr (PV.cells ((enc) y1)))∧(if (bd)=true then(List.length (List.map enc l)==r&&r==r&&decide ((r+List.length (List.drop 0 (List.take 1 [Sh.co (Sh.int .i64) (List.getD (List.drop 1 (PV.cells (enc y1))) 0 default)])))*8<=1099511627776)&&decide (r+List.length (List.drop 0 (List.take 1 [Sh.co (Sh.int .i64) (List.getD (List.drop 1 (PV.cells (enc y1))) 0 default)]))<=1099511627776))=true∧(At ZQ 0 (Za ZF G) ZH 1 91 [(1,(.pv (.sl 2 false (List.map enc vs)))),(6,(.row 0 q 0 q)),(7,(.pv (.bool true))),(10,(.row 1 (r+List.length (List.drop 0 (List.take 1 [Sh.co (Sh.int .i64) (List.getD (List.drop 1 (PV.cells (enc y1))) 0 default)]))) 0 (r+List.length (List.drop 0 (List.take 1 [Sh.co (Sh.int .i64) (List.getD (List.drop 1 (PV.cells (enc y1))) 0 default)]))))),(23,(.pv (.sl 2 false (List.map enc p)))),(24,(.pv (.int .i64 (↑(List.length p):Int)))),(25,(.pv (.int .i64 i))),(33,(.pv (.sl 1 false (List.map enc ns)))),(34,(.pv (.int .i64 (↑(List.length ns):Int)))),(35,(.pv (.int .i64 (IntKind.wrap IntKind.i64 (j+1)))))] [(.obj (.row false 34 1 (List.map enc fs))),(.obj (.row false 3 1 (List.map enc l++List.drop 0 (List.take 1 [Sh.co (Sh.int .i64) (List.getD (List.drop 1 (PV.cells (enc y1))) 0 default)]))))])else(if (decide (PV.asInt (List.getD (List.drop 1 (PV.cells (enc y1))) 0 default)<(-4611686018427387904:Int)))=true then(List.length (List.map enc l)==r&&r==r&&decide ((r+List.length (List.drop 0 (List.take 1 [Sh.co (Sh.int .i64) (List.getD (List.drop 1 (PV.cells (enc y1))) 0 default)])))*8<=1099511627776)&&decide (r+List.length (List.drop 0 (List.take 1 [Sh.co (Sh.int .i64) (List.getD (List.drop 1 (PV.cells (enc y1))) 0 default)]))<=1099511627776))=true∧(At ZQ 0 (Za ZF G) ZH 1 91 [(1,(.pv (.sl 2 false (List.map enc vs)))),(6,(.row 0 q 0 q)),(7,(.pv (.bool true))),(10,(.row 1 (r+List.length (List.drop 0 (List.take 1 [Sh.co (Sh.int .i64) (List.getD (List.drop 1 (PV.cells (enc y1))) 0 default)]))) 0 (r+List.length (List.drop 0 (List.take 1 [Sh.co (Sh.int .i64) (List.getD (List.drop 1 (PV.cells (enc y1))) 0 default)]))))),(23,(.pv (.sl 2 false (List.map enc p)))),(24,(.pv (.int .i64 (↑(List.length p):Int)))),(25,(.pv (.int .i64 i))),(33,(.pv (.sl 1 false (List.map enc ns)))),(34,(.pv (.int .i64 (↑(List.length ns):Int)))),(35,(.pv (.int .i64 (IntKind.wrap IntKind.i64 (j+1)))))] [(.obj (.row false 34 1 (List.map enc fs))),(.obj (.row false 3 1 (List.map enc l++List.drop 0 (List.take 1 [Sh.co (Sh.int .i64) (List.getD (List.drop 1 (PV.cells (enc y1))) 0 default)]))))])else((List.length (List.map enc l)==r&&r==r&&decide ((r+List.length (List.drop 0 (List.take 1 [Sh.co (Sh.int .i64) (List.getD (List.drop 1 (PV.cells (enc y1))) 0 default)])))*8<=1099511627776)&&decide (r+List.length (List.drop 0 (List.take 1 [Sh.co (Sh.int .i64) (List.getD (List.drop 1 (PV.cells (enc y1))) 0 default)]))<=1099511627776))=true∧(At ZQ 0 (Za ZF G) ZH 1 91 [(1,(.pv (.sl 2 false (List.map enc vs)))),(6,(.row 0 q 0 q)),(7,(.pv (.bool (decide (PV.asInt (List.getD (List.drop 1 (PV.cells (enc y1))) 0 default)>4611686018427387904))))),(10,(.row 1 (r+List.length (List.drop 0 (List.take 1 [Sh.co (Sh.int .i64) (List.getD (List.drop 1 (PV.cells (enc y1))) 0 default)]))) 0 (r+List.length (List.drop 0 (List.take 1 [Sh.co (Sh.int .i64) (List.getD (List.drop 1 (PV.cells (enc y1))) 0 default)]))))),(23,(.pv (.sl 2 false (List.map enc p)))),(24,(.pv (.int .i64 (↑(List.length p):Int)))),(25,(.pv (.int .i64 i))),(33,(.pv (.sl 1 false (List.map enc ns)))),(34,(.pv (.int .i64 (↑(List.length ns):Int)))),(35,(.pv (.int .i64 (IntKind.wrap IntKind.i64 (j+1)))))] [(.obj (.row false 34 1 (List.map enc fs))),(.obj (.row false 3 1 (List.map enc l++List.drop 0 (List.take 1 [Sh.co (Sh.int .i64) (List.getD (List.drop 1 (PV.cells (enc y1))) 0 default)]))))])))))))))else((List.length (List.map enc l)==r)=true∧((List.length (List.map enc fs)==q&&q==q&&decide ((q+List.length (List.drop 0 (List.take 1 [PV.sl 1 false (List.drop 0 (List.take r (List.map enc l)))])))*24<=1099511627776)&&decide (q+List.length (List.drop 0 (List.take 1 [PV.sl 1 false (List.drop 0 (List.take r (List.map enc l)))]))<=1099511627776))=true∧(At ZQ 0 (Za ZF G) ZH 0 91 [(1,(.pv (.sl 2 false (List.map enc vs)))),(6,(.row 0 (q+List.length (List.drop 0 (List.take 1 [PV.sl 1 false (List.drop 0 (List.take r (List.map enc l)))]))) 0 (q+List.length (List.drop 0 (List.take 1 [PV.sl 1 false (List.drop 0 (List.take r (List.map enc l)))]))))),(7,(.pv (.bool bd))),(23,(.pv (.sl 2 false (List.map enc p)))),(24,(.pv (.int .i64 (↑(List.length p):Int)))),(25,(.pv (.int .i64 (IntKind.wrap IntKind.i64 (i+1)))))] [(.obj (.row false 34 1 (List.map enc fs++List.drop 0 (List.take 1 [PV.sl 1 false (List.drop 0 (List.take r (List.map enc l)))]))))])))):At ZQ 0 (Za ZF G) ZH 1 91 [(6,.row 0 q 0 q),(1,.pv (enc vs)),(7,.pv (.bool bd)),(23,.pv (enc p)),(24,.pv (.int .i64 p.length)),(25,.pv (.int .i64 i)),(33,.pv (enc ns)),(34,.pv (.int .i64 ns.length)),(35,.pv (.int .i64 j)),(10,.row 1 r 0 r)] [.obj (.row false 34 1 (fs.map enc)),.obj (.row false 3 1 (l.map enc))]:=At.tp (.lit (.ask (.req (.abs (Str) (fun YY=>AV.pv (PV.rptr (PV.cells ((enc) YY)))) (.lit (.req (.keep (.lit (.ask (.nil) (.req (.abs (Coef) (fun YY=>AV.pv (PV.rptr (PV.cells ((enc) YY)))) (.lit (.ask (.lit (.lit (.lit (.lit (.lit (.lit (.lit (.req (.lit (.nil)))))))))) (.lit (.lit (.lit (.ask (.lit (.lit (.lit (.lit (.req (.lit (.nil))))))) (.lit (.lit (.lit (.lit (.lit (.req (.lit (.nil))))))))))))))))))))))) (.req (.lit (.lit (.req (.lit (.nil)))))))) h (by kernel_rfl)
theorem OW{G:PV->Prop}(p:List Mono)(vs:List Coef)(i:Int)(q:Nat)(fs:List (List Int))(h:if (decide (i<(↑q:Int)))=true then(decide (0<=i)&&decide (0+Int.toNat i<q)&&List.length (List.map enc fs)==q)=true∧((List.length (List.map enc fs)==q&&decide (0+Int.toNat i<List.length (List.map enc fs)))=true∧((decide (0+List.length [Sh.sl 1]<=List.length (PV.cells (List.getD (List.map enc fs) (0+Int.toNat i) default)))&&Y2 (PV.cells (List.getD (List.map enc fs) (0+Int.toNat i) default)) 0 [Sh.sl 1])=true∧((Go.Pl.preT (fun(x:List Int×Unit)=>Zn x.1) [(.sl 1 (PV.asT (List.getD (PV.cells (List.getD (List.map enc fs) (0+Int.toNat i) default)) 0 default)) (PV.asXs (List.getD (PV.cells (List.getD (List.map enc fs) (0+Int.toNat i) default)) 0 default)))])=true∧(∃ y0:Int×Int,AV.pv (Ze (fun(x:List Int×Unit)=>Y8 x.1) [(.sl 1 (PV.asT (List.getD (PV.cells (List.getD (List.map enc fs) (0+Int.toNat i) default)) 0 default)) (PV.asXs (List.getD (PV.cells (List.getD (List.map enc fs) (0+Int.toNat i) default)) 0 default)))])=AV.pv (enc y0)∧(if (y0.2 != 0)=true then G ((.tup [(.int .i64 0),(.int .i64 2)]))else(At ZQ 0 (Za ZF G) ZH 2 91 [(15,(.row 0 1 0 1)),(69,(.row 1 q 0 q)),(70,(.pv (.int .i64 (↑q:Int)))),(71,(.pv (.int .i64 (IntKind.wrap IntKind.i64 (i+1)))))] [(.obj (.row false 3 1 [(.int .i64 y0.1)])),(.obj (.row false 34 1 (List.map enc fs)))]))))))else(∃ y1:Int×Int,AV.pv (Ze (fun(x:List Int×Unit)=>Vn x.1) [(.sl 0 true [])])=AV.pv (enc y1)∧(G ((.tup [(.int .i64 y1.1),(.int .i64 y1.2)]))))):At ZQ 0 (Za ZF G) ZH 2 91 [(15,.pv (.sl 0 true [])),(69,.row 0 q 0 q),(70,.pv (.int .i64 q)),(71,.pv (.int .i64 i))] [.obj (.row false 34 1 (fs.map enc))]:=At.tp (.lit (.ask (.req (.keep (.req (.req (.req (.abs (Int×Int) (fun YY=>AV.pv (enc YY)) (.lit (.ask (.nil) (.lit (.lit (.lit (.lit (.lit (.lit (.nil))))))))))))))) (.lit (.abs (Int×Int) (fun YY=>AV.pv (enc YY)) (.nil))))) h (by kernel_rfl)
theorem BM{G:PV->Prop}(p:List Mono)(vs:List Coef)(i:Int)(q:Nat)(fs:List (List Int))(r:Nat)(ps:List Int)(h:if (decide (i<(↑q:Int)))=true then(decide (0<=i)&&decide (0+Int.toNat i<q)&&List.length (List.map enc fs)==q)=true∧((List.length (List.map enc fs)==q&&decide (0+Int.toNat i<List.length (List.map enc fs)))=true∧((decide (0+List.length [Sh.sl 1]<=List.length (PV.cells (List.getD (List.map enc fs) (0+Int.toNat i) default)))&&Y2 (PV.cells (List.getD (List.map enc fs) (0+Int.toNat i) default)) 0 [Sh.sl 1])=true∧((Go.Pl.preT (fun(x:List Int×Unit)=>Zn x.1) [(.sl 1 (PV.asT (List.getD (PV.cells (List.getD (List.map enc fs) (0+Int.toNat i) default)) 0 default)) (PV.asXs (List.getD (PV.cells (List.getD (List.map enc fs) (0+Int.toNat i) default)) 0 default)))])=true∧(∃ y0:Int×Int,AV.pv (Ze (fun(x:List Int×Unit)=>Y8 x.1) [(.sl 1 (PV.asT (List.getD (PV.cells (List.getD (List.map enc fs) (0+Int.toNat i) default)) 0 default)) (PV.asXs (List.getD (PV.cells (List.getD (List.map enc fs) (0+Int.toNat i) default)) 0 default)))])=AV.pv (enc y0)∧(if (y0.2 != 0)=true then G ((.tup [(.int .i64 0),(.int .i64 2)]))else((List.length (List.map enc ps)==r&&r==r&&decide ((r+List.length (List.drop 0 (List.take 1 [enc y0.1])))*8<=1099511627776)&&decide (r+List.length (List.drop 0 (List.take 1 [enc y0.1]))<=1099511627776))=true∧(At ZQ 0 (Za ZF G) ZH 2 91 [(15,(.row 0 (r+List.length (List.drop 0 (List.take 1 [enc y0.1]))) 0 (r+List.length (List.drop 0 (List.take 1 [enc y0.1]))))),(69,(.row 1 q 0 q)),(70,(.pv (.int .i64 (↑q:Int)))),(71,(.pv (.int .i64 (IntKind.wrap IntKind.i64 (i+1)))))] [(.obj (.row false 3 1 (List.map enc ps++List.drop 0 (List.take 1 [enc y0.1])))),(.obj (.row false 34 1 (List.map enc fs)))])))))))else((List.length (List.map enc ps)==r)=true∧((Go.Pl.preT (fun(x:List Int×Unit)=>decide (List.length x.1<=10000)) [(.sl 1 false (List.drop 0 (List.take r (List.map enc ps))))])=true∧(∃ y1:Int×Int,AV.pv (Ze (fun(x:List Int×Unit)=>Vn x.1) [(.sl 1 false (List.drop 0 (List.take r (List.map enc ps))))])=AV.pv (enc y1)∧(G ((.tup [(.int .i64 y1.1),(.int .i64 y1.2)]))))))):At ZQ 0 (Za ZF G) ZH 2 91 [(15,.row 0 r 0 r),(69,.row 1 q 0 q),(70,.pv (.int .i64 q)),(71,.pv (.int .i64 i))] [.obj (.row false 3 1 (ps.map enc)),.obj (.row false 34 1 (fs.map enc))]:=At.tp (.lit (.ask (.req (.keep (.req (.req (.req (.abs (Int×Int) (fun YY=>AV.pv (enc YY)) (.lit (.ask (.nil) (.lit (.lit (.req (.lit (.nil))))))))))))) (.req (.req (.abs (Int×Int) (fun YY=>AV.pv (enc YY)) (.nil)))))) h (by kernel_rfl)
theorem Oq{G:PV->Prop}(p:List Mono)(vs:List Coef)(h : ∃ y0:Int×Int,AV.pv (Ze (fun(x:List Int×Unit)=>Vn x.1) [(.sl 0 true [])])=AV.pv (enc y0)∧(G ((.tup [(.int .i64 y0.1),(.int .i64 y0.2)])))):At ZQ 0 (Za ZF G) ZH 2 91 [(15,.pv (.sl 0 true [])),(69,.pv (.sl 0 true [])),(70,.pv (.int .i64 0)),(71,.pv (.int .i64 0))] []:=At.tp (.lit (.lit (.lit (.abs (Int×Int) (fun YY=>AV.pv (enc YY)) (.nil))))) h (by kernel_rfl)
def GR:IC:=(.reg [⟨(some 4),(.load false [(.sl 1)] (.t 1)),0,none⟩,⟨(some 5),(.mv (.t 0)),0,none⟩,⟨(some 6),(.bin .num .shr (.t 5) (.c (.int .u64 31))),0,none⟩,⟨(some 7),(.bslice 3 1 1 (.int .i64 0) [(0,(.t 6))]),0,none⟩,⟨(some 8),(.append 3 1 8 (.t 4) (.t 7)),1,none⟩,⟨(some 9),(.load false [(.sl 1)] (.t 2)),2,none⟩,⟨(some 10),(.mv (.t 0)),2,none⟩,⟨(some 11),(.bin .num .and (.t 10) (.c (.int .i64 2147483647))),2,none⟩,⟨(some 12),(.bslice 3 1 1 (.int .i64 0) [(0,(.t 11))]),2,none⟩,⟨(some 13),(.append 3 1 8 (.t 9) (.t 12)),3,none⟩,⟨none,(.store 1 (.t 1) (.t 8)),4,none⟩,⟨none,(.store 1 (.t 2) (.t 13)),4,none⟩] (some [[],[],[1],[2,1],[0,3,2,1],[],[],[6],[7,6],[5,8,4,7,6,0,3,2,1],[4,9,0,1,2,3,5,8,7,6],[9,10,0,1,2,3,4,5,6,7,8]]))
def GY:List IRes:=[]
abbrev a9d:Nat:=14
def AU:ZE:=Y6 []
theorem b5e{G:AV×List AObj×List AObj->Prop}(n:Int)(h:G (((.tup []),([(.box [(.row 2 1 0 1)]),(.box [(.row 3 1 0 1)])],[(.row false 3 1 [(.int .i64 (Int.fdiv n (2 ^ min (Int.toNat 31) (IntKind.bits IntKind.i64))))]),(.row false 3 1 [(.int .i64 (IntKind.wrap IntKind.i64 (↑(BitVec.toNat (BitVec.ofInt (IntKind.bits IntKind.i64) n &&& BitVec.ofInt (IntKind.bits IntKind.i64) 2147483647)):Int)))])])))):Zc AU 2 (Zo 2 GY G) GR [] (YD 14 [.pv (.int .i64 n),.ptr 0 0,.ptr 1 0] [.box [.pv (.sl 0 true [])],.box [.pv (.sl 0 true [])]]):=Zc.to (.lit (.lit (.lit (.lit (.lit (.lit (.lit (.lit (.lit (.lit (.lit (.lit (.nil))))))))))))) h (by kernel_rfl)
theorem b6s{G:AV×List AObj×List AObj->Prop}(n:Int)(q:Nat)(xs ys:List PV)(h:(List.length xs==q&&q==q&&decide ((q+List.length (List.drop 0 (List.take 1 [PV.int .i64 (Int.fdiv n (2 ^ min (Int.toNat 31) (IntKind.bits IntKind.i64)))])))*8<=1099511627776)&&decide (q+List.length (List.drop 0 (List.take 1 [PV.int .i64 (Int.fdiv n (2 ^ min (Int.toNat 31) (IntKind.bits IntKind.i64)))]))<=1099511627776))=true∧((List.length ys==q&&q==q&&decide ((q+List.length (List.drop 0 (List.take 1 [PV.int .i64 (IntKind.wrap IntKind.i64 (↑(BitVec.toNat (BitVec.ofInt (IntKind.bits IntKind.i64) n &&& BitVec.ofInt (IntKind.bits IntKind.i64) 2147483647)):Int))])))*8<=1099511627776)&&decide (q+List.length (List.drop 0 (List.take 1 [PV.int .i64 (IntKind.wrap IntKind.i64 (↑(BitVec.toNat (BitVec.ofInt (IntKind.bits IntKind.i64) n &&& BitVec.ofInt (IntKind.bits IntKind.i64) 2147483647)):Int))]))<=1099511627776))=true∧(G (((.tup []),([(.box [(.row 2 (q+List.length (List.drop 0 (List.take 1 [PV.int .i64 (Int.fdiv n (2 ^ min (Int.toNat 31) (IntKind.bits IntKind.i64)))]))) 0 (q+List.length (List.drop 0 (List.take 1 [PV.int .i64 (Int.fdiv n (2 ^ min (Int.toNat 31) (IntKind.bits IntKind.i64)))]))))]),(.box [(.row 3 (q+List.length (List.drop 0 (List.take 1 [PV.int .i64 (IntKind.wrap IntKind.i64 (↑(BitVec.toNat (BitVec.ofInt (IntKind.bits IntKind.i64) n &&& BitVec.ofInt (IntKind.bits IntKind.i64) 2147483647)):Int))]))) 0 (q+List.length (List.drop 0 (List.take 1 [PV.int .i64 (IntKind.wrap IntKind.i64 (↑(BitVec.toNat (BitVec.ofInt (IntKind.bits IntKind.i64) n &&& BitVec.ofInt (IntKind.bits IntKind.i64) 2147483647)):Int))]))))]),(.row false 3 1 (xs++List.drop 0 (List.take 1 [PV.int .i64 (Int.fdiv n (2 ^ min (Int.toNat 31) (IntKind.bits IntKind.i64)))]))),(.row false 3 1 (ys++List.drop 0 (List.take 1 [PV.int .i64 (IntKind.wrap IntKind.i64 (↑(BitVec.toNat (BitVec.ofInt (IntKind.bits IntKind.i64) n &&& BitVec.ofInt (IntKind.bits IntKind.i64) 2147483647)):Int))])))],[])))))):Zc AU 4 (Zo 4 GY G) GR [] (YD 14 [.pv (.int .i64 n),.ptr 0 0,.ptr 1 0] [.box [.row 2 q 0 q],.box [.row 3 q 0 q],.row false 3 1 xs,.row false 3 1 ys]):=Zc.to (.lit (.lit (.lit (.req (.lit (.lit (.lit (.req (.nil))))))))) h (by kernel_rfl)
end Go.Pl

namespace Go.Pl
open Go.RowKit
open Enc (enc dec is)
open EncL (encL decL isL)
def Un(p:List Mono)(i:Nat):List Str:=(p.take i).flatMap (·.v)
theorem Ti(p:List Mono){i:Nat}(h:i<p.length):Un p (i+1)=Un p i++p[i].v:=by
 unfold Un
 rw[List.take_succ_eq_append_getElem h,List.flatMap_append]
 simp
theorem S4(p:List Mono)(hp : ∀ m∈p,m.v.length<=8): ∀ i,i<=p.length->(Un p i).length<=8*i:=by
 intro i
 induction i with
 | zero=>intro _;simp[Un]
 | succ i ih=>
  intro hi
  have:=ih (by omega)
  rw[Ti p (by omega),List.length_append]
  have:=hp _ (List.getElem_mem (show i<p.length by omega))
  omega
theorem J8{p:List Mono}(h:ZG p=true):p.length<=60∧ ∀ m∈p,m.v.length<=8:=by
 unfold ZG at h
 simp only[Bool.and_eq_true,decide_eq_true_eq]at h
 refine⟨h.1.1,fun m hm=> ?_⟩
 have:=List.all_eq_true.1 h.1.2 m hm
 unfold WJ at this
 simp only[Bool.and_eq_true,decide_eq_true_eq]at this
 exact this.1.1.2
theorem Ew(l:List Str):List.map Uw (List.map (enc:Str->PV) l)=l.map (·.s):=by
 rw[List.map_map];rfl
theorem a9m(l:List (List UInt8)):List.map Uw (List.map PV.str l)=l:=by
 rw[List.map_map];exact(List.map_congr_left (fun _ _=>rfl)).trans (List.map_id _)
theorem Rf(l:List (List UInt8)):(Wn l).length=l.length:=(List.mergeSort_perm l _).length_eq
def pvW(p:List Mono):AV×List AObj×List AObj:=if (XG p).isEmpty then(.pv (.sl 0 true []),[],[])else AY [.pv (enc p)] []
theorem Ps(p:List Mono)(hp:ZG p=true): ∀ (k i:Nat),k+i=p.length ->
  if (Un p i).isEmpty then At XQ 0 (Zo 0 Xj fun r=>r=pvW p) Xm 0 24 [(3,.pv (.sl 0 true [])),(9,.pv (enc p)),(10,.pv (.int .i64 p.length)),(11,.pv (.int .i64 i))] []
  else At XQ 0 (Zo 0 Xj fun r=>r=pvW p) Xm 0 24 [(3,.row 0 (Un p i).length 0 (Un p i).length),(9,.pv (enc p)),(10,.pv (.int .i64 p.length)),(11,.pv (.int .i64 i))] [.obj (.row false 9 1 ((Un p i).map enc))]:=by
 obtain⟨hl,hm⟩:=J8 hp
 intro k
 induction k with
 | zero=>
  intro i hi
  obtain rfl:i=p.length:=by omega
  have e:Un p p.length=XG p:=by unfold Un XG;rw[List.take_length]
  rw[e]
  cases hc:(XG p).isEmpty
  ·rw[if_neg (by simp)]
   have hlen:(XG p).length<=480:=by have:=S4 p hm p.length (Nat.le_refl _);rw[e]at this;omega
   refine BW p p.length _ (XG p) (ZI (ZY (by omega)) ⟨?_,?_,?_⟩)
   ·show((XG p).length==((XG p).map (enc:Str->PV)).length&&(XG p).length==(XG p).length&&((XG p).map (enc:Str->PV)).all Jl&&decide ((XG p).length<4611686018427387904))=true
    have:((XG p).map (enc:Str->PV)).all Jl=true:=by rw[List.all_map];exact List.all_eq_true.2 fun _ _=>rfl
    rw[this,List.length_map,decide_eq_true (by omega)];simp
   ·rw[Ew]
    show((XG p).length==((Wn ((XG p).map (·.s))).map PV.str).length&&(XG p).length==(XG p).length&&((Wn ((XG p).map (·.s))).map PV.str).all Jl&&decide ((XG p).length<4611686018427387904))=true
    have:((Wn ((XG p).map (·.s))).map PV.str).all Jl=true:=by rw[List.all_map];exact List.all_eq_true.2 fun _ _=>rfl
    rw[this,List.length_map,Rf,List.length_map,decide_eq_true (by omega)];simp
   ·rw[Ew,a9m]
    unfold pvW
    rw[hc,if_neg (by simp)]
    show _=(AV.row 0 (Xh (dec (enc p:PV))).length 0 (Lib.compact (Xh (dec (enc p:PV)))).length,[],[AObj.row false 9 1 ((Vl (Xh (dec (enc p:PV)))).map .str)])
    rw[Enc.dec_enc]
    have:(Xh p).length=(XG p).length:=by unfold Xh;rw[Rf,List.length_map]
    rw[this]
    rfl
  ·rw[if_pos rfl]
   refine Bd p p.length (ZI (ZY (by omega)) ?_)
   unfold pvW
   rw[hc,if_pos rfl]
 | succ k ih=>
  intro i hi
  have hlt:i<p.length:=by omega
  have h1:=ih (i+1) (by omega)
  have hmi:=hm _ (List.getElem_mem hlt)
  have hoi:=S4 p hm i (by omega)
  rw[Ti p hlt]at h1
  cases hc:(Un p i).isEmpty
  ·rw[if_neg (by simp)]
   have hc2:(Un p i++p[i].v).isEmpty=false:=by
    rw[List.isEmpty_eq_false_iff]at hc ⊢
    simp[hc]
   rw[hc2,if_neg (by simp)]at h1
   refine BW p i _ (Un p i) (ZC (ZU hlt) ⟨Zs hlt rfl,Zw hlt ⟨by simp,?_,?_⟩⟩)
   ·show(((Un p i).map (enc:Str->PV)).length==(Un p i).length&&(Un p i).length==(Un p i).length&&decide (((Un p i).length+(p[i].v.map (enc:Str->PV)).length)*16<=1099511627776)&&decide ((Un p i).length+(p[i].v.map (enc:Str->PV)).length<=1099511627776))=true
    rw[List.length_map,List.length_map,decide_eq_true (by omega),decide_eq_true (by omega)];simp
   ·rw[next (by omega)]
    rw[List.length_append,List.map_append]at h1
    have e:(PV.asXs (List.getD (PV.cells (enc p[i])) (0+1) default)).length=p[i].v.length:=by
     show(p[i].v.map (enc:Str->PV)).length=_
     rw[List.length_map]
    rw[e]
    exact h1
  ·rw[if_pos rfl]
   have hnil:Un p i=[]:=List.isEmpty_iff.1 hc
   rw[hnil,List.nil_append]at h1
   refine Bd p i (ZC (ZU hlt) ⟨Zs hlt rfl,Zw hlt ⟨by simp,?_⟩⟩)
   show if (p[i].v.map (enc:Str->PV)).isEmpty=true then _ else _
   rw[List.isEmpty_map]
   cases hv:p[i].v.isEmpty
   ·rw[hv,if_neg (by simp)]at h1
    refine ZI (by simp) ⟨?_,?_⟩
    ·show((List.isEmpty ([]:List PV)||0==1)&&decide ((List.length ([]:List PV)+(p[i].v.map (enc:Str->PV)).length)*16<=1099511627776)&&decide (List.length ([]:List PV)+(p[i].v.map (enc:Str->PV)).length<=1099511627776))=true
     rw[List.length_map,decide_eq_true (by simp;omega),decide_eq_true (by simp;omega)];rfl
    ·rw[next (by omega)]
     have e:List.length ([]:List PV)+(PV.asXs (List.getD (PV.cells (enc p[i])) (0+1) default)).length=p[i].v.length:=by
      show 0+(p[i].v.map (enc:Str->PV)).length=_
      rw[List.length_map,Nat.zero_add]
     rw[e]
     exact h1
   ·rw[hv,if_pos rfl]at h1
    refine ZC rfl ?_
    rw[next (by omega)]
    exact h1
theorem Bw(p:List Mono)(hs:Z8 p=true)(hp:ZG p=true):Zc XQ 0 (Zo 0 Xj fun r=>r=pvW p) Xm [] (YD Cf [.pv (enc p)] []):=by
 refine MZ p ⟨Zj (p,()) rfl hs,Zh (p,()) rfl (ZI (by simp[hp]) ?_)⟩
 rw[List.length_map]
 have:=Ps p hp p.length 0 (by omega)
 rw[show(Un p 0).isEmpty=true from rfl,if_pos rfl]at this
 exact this
theorem NS: ∀ args os,UN args os=true->Zc XQ os.length (Zo os.length Xj fun r=>r=AY args os) Xm [] (YD Cf args os):=by
 intro args os h
 unfold UN at h
 split at h
 ·rename_i a
  simp only[Bool.and_eq_true,Bool.not_eq_true']at h
  obtain⟨⟨⟨h1,h2⟩,h3⟩,h4⟩:=h
  obtain⟨p,rfl⟩:=Yl h1
  rw[Enc.dec_enc]at h2 h3 h4
  have:=Bw p h2 h3
  unfold pvW at this
  rw[h4,if_neg (by simp)]at this
  exact this
 ·cases h
theorem PD: ∀ args os,Ku args os=true->Zc XQ os.length (Zo os.length Xj fun r=>r=GP args os) Xm [] (YD Cf args os):=by
 intro args os h
 unfold Ku at h
 split at h
 ·rename_i a
  simp only[Bool.and_eq_true]at h
  obtain⟨⟨h1,h2⟩,h3⟩:=h
  obtain⟨p,rfl⟩:=Yl h1
  rw[Enc.dec_enc]at h2 h3
  cases hv:ZG p
  ·exact MZ p ⟨Zj (p,()) rfl h2,Zh (p,()) rfl (ZC (by simp[hv]) rfl)⟩
  ·rw[hv]at h3
   have h3:(XG p).isEmpty=true:=by simpa using h3
   have:=Bw p h2 hv
   unfold pvW at this
   rw[h3,if_pos rfl]at this
   exact this
 ·cases h
theorem a7f: ∀ args os,Hf args os=true->Zc a3f os.length (Zo os.length Nx fun r=>r=GK args os) Mp [] (YD b2n args os):=by
 intro args os h
 unfold Hf at h
 split at h
 ·rename_i x v
  obtain⟨x,rfl⟩:=Yl h
  refine b8h x v ?_
  simp only[GK,Enc.dec_enc]
 ·cases h
theorem a5r(l:List Coef)(v:List UInt8)(hl:l.length<=9223372036854775807)(R:AV×List AObj×List AObj)(hR:R=(.pv (.int .i64 (Zy (fun t:Coef=>t.v.s==v) l)),[.box [.pv (.str v)]],[])): ∀ (m i:Nat),m+i=l.length->(∀ j (h:j<l.length),j<i->(l[j].v.s==v)=false) ->
  At Cr 1 (Zo 1 Jw fun r=>r=R) Je 0 19 [(0,.pv (enc l)),(1,.fn 188 [] [.ptr 0 0]),(7,.pv (.int .i64 l.length)),(8,.pv (.int .i64 i))] [.obj (.box [.pv (.str v)])]:=by
 intro m
 induction m with
 | zero=>
  intro i hi hno
  refine a4y l v i (ZI (ZY (by omega)) ?_)
  rw[hR,UY _ _ (fun j hj=>hno j hj (by omega))]
 | succ m ih=>
  intro i hi hno
  have hlt:i<l.length:=by omega
  have ed:(dec (PV.agg (WT (PV.cells (enc l[i])) 0 [Sh.str,Sh.int .i64])):Coef)=l[i]:=Enc.dec_enc l[i]
  refine a4y l v i (ZC (ZU hlt) ⟨Zs hlt rfl,Zw hlt ⟨ZX l[i],?_⟩⟩)
  rw[ed]
  refine XU (fun hb=> ?_) fun hb=> ?_
  ·rw[hR,UX (fun t:Coef=>t.v.s==v) l i hlt hno hb]
  ·rw[next (by omega)]
   refine ih (i+1) (by omega) fun j hj hji=> ?_
   by_cases e:j=i
   ·subst e;exact hb
   ·exact hno j hj (by omega)
theorem a8z: ∀ args os,VL 188 args os=true->Zc Cr os.length (Zo os.length Jw fun r=>r=G9 args os) Je [] (YD b3l args os):=by
 intro args os h
 unfold VL at h
 split at h
 ·rename_i l g v
  simp only[Bool.and_eq_true,beq_iff_eq,decide_eq_true_eq]at h
  obtain⟨⟨rfl,h1⟩,h2⟩:=h
  obtain⟨l,rfl⟩:=Yl h1
  rw[Enc.dec_enc]at h2
  refine b7g l v ?_
  rw[List.length_map]
  exact a5r l v h2 _ (by simp only[G9,QS,Enc.dec_enc]) l.length 0 (by omega) (fun j hj h=>by omega)
 ·cases h
theorem LJ(l:List Int)(n:Int)(hl:l.length<=9223372036854775807): ∀ (m i:Nat),m+i=l.length->(∀ j (h:j<l.length),j<i->decide (n=l[j])=false) ->
  At Jn 0 (Za QM (Zg (Zy (fun x:Int=>decide (n=x)) l))) QK 0 19 [(0,.pv (enc l)),(1,.pv (enc n)),(7,.pv (.int .i64 l.length)),(8,.pv (.int .i64 i))] []:=by
 intro m
 induction m with
 | zero=>
  intro i hi hno
  refine Lz l n i (ZI (ZY (by omega)) (V3 ?_))
  rw[UY _ _ (fun j hj=>hno j hj (by omega))]
 | succ m ih=>
  intro i hi hno
  have hlt:i<l.length:=by omega
  refine Lz l n i (ZC (ZU hlt) ⟨Zs hlt rfl,Zw hlt (QR (fun hb=> ?_) fun hb=> ?_)⟩)
  ·have hb:n=l[i]:=hb
   exact V3 (UX (fun x:Int=>decide (n=x)) l i hlt hno (by simp[hb])).symm
  ·have hb : ¬ n=l[i]:=hb
   rw[next (by omega)]
   refine ih (i+1) (by omega) fun j hj hji=> ?_
   by_cases e:j=i
   ·subst e;simp[hb]
   ·exact hno j hj (by omega)
theorem a1f: ∀ a:List Int×Int×Unit,Zn a.1=true->Zc Jn 0 (Za QM (Zg (Zy (fun x:Int=>decide (a.2.1=x)) a.1))) QK [] (Z5 a9c (encL a)):=by
 rintro⟨l,n,⟨⟩⟩ h
 refine b2y l n ?_
 rw[List.length_map]
 exact LJ l n (Zx.1 h) l.length 0 (by omega) (fun j hj h=>by omega)
theorem NN: ∀ a:List Int×Int×Unit,Zn a.1=true->Zc CD 0 (Za H3 (Zg (a.1.contains a.2.1))) H4 [] (Z5 L2 (encL a)):=by
 rintro⟨l,n,⟨⟩⟩ h
 refine a1m l n ⟨Zj (l,n,()) rfl h,Zh (l,n,()) rfl (ZK ?_)⟩
 show decide (Zy (fun x:Int=>decide (n=x)) l ≥ 0)=_
 rw[XN,Bool.eq_iff_iff]
 simp[List.any_eq_true]
theorem PO(l:List Int)(hl:l.length<=9223372036854775807): ∀ (m i:Nat) (o:Int),m+i=l.length ->
  At UW 0 (Za VQ (Zg (Le o (l.drop i)))) UA 0 29 [(4,.pv (.int .i64 o)),(11,.pv (enc l)),(12,.pv (.int .i64 l.length)),(13,.pv (.int .i64 i))] []:=by
 intro m
 induction m with
 | zero=>
  intro i o hi
  rw[List.drop_of_length_le (by omega)]
  exact RW l o i (ZI (ZY (by omega)) (ZO (x:=(o,(0:Int))) rfl))
 | succ m ih=>
  intro i o hi
  have hlt:i<l.length:=by omega
  rw[List.drop_eq_getElem_cons hlt]
  refine RW l o i (ZC (ZU hlt) ⟨Zs hlt rfl,Zw hlt (Zh (o,l[i],()) rfl ?_)⟩)
  show if ((D3 o l[i]).2 != 0)=true then _ else _
  rw[Le]
  by_cases h:(D3 o l[i]).2=0
  ·rw[if_neg (by simp[h]),if_neg (by simp[h]),next (by omega)]
   exact ih (i+1) _ (by omega)
  ·rw[if_pos (by simp[h]),if_pos h]
   exact ZO (x:=((0:Int),(D3 o l[i]).2)) rfl
theorem OI: ∀ a:List Int×Unit,Zn a.1=true->Zc UW 0 (Za VQ (Zg (Y8 a.1))) UA [] (Z5 a0t (encL a)):=by
 rintro⟨l,⟨⟩⟩ h
 refine a7j l ⟨Zj (l,0,()) rfl h,Zh (l,0,()) rfl (XU (fun hc=> ?_) fun hc=> ?_)⟩
 ·have hc:l.contains 0=true:=hc
  show Zg (Y8 l) _
  unfold Y8
  rw[hc,if_pos rfl]
  exact ZO (x:=((0:Int),(0:Int))) rfl
 ·have hc:l.contains 0=false:=hc
  show At UW 0 (Za VQ (Zg (Y8 l))) _ _ _ _ _
  unfold Y8
  rw[hc,if_neg (by simp),List.length_map]
  exact PO l (Zx.1 h) l.length 0 1 (by omega)
theorem Ql{α:Type}[Enc α]{l:List α}{i:Nat}(h:i<l.length):List.getD (List.map (enc:α->PV) l) (0+Int.toNat (i:Int)) default=enc l[i]:=by simp[List.getD,h]
def U8(ps:List Int)(o:Option (List Int)):Int×Int:=match o with|none=>(0,2)|some l=>Vn (ps++l)
theorem Oi(p:List Mono)(vs:List Coef)(fs:List (List Int))(hf:fs.length<=60)(hl : ∀ l∈fs,Zn l=true): ∀ (d i:Nat) (ps:List Int),d+i=fs.length->ps.length=i->1<=i ->
  At ZQ 0 (Za ZF (Zg (U8 ps (Yu (fs.drop i))))) ZH 2 91 [(15,.row 0 i 0 i),(69,.row 1 fs.length 0 fs.length),(70,.pv (.int .i64 fs.length)),(71,.pv (.int .i64 i))] [.obj (.row false 3 1 (ps.map enc)),.obj (.row false 34 1 (fs.map enc))]:=by
 intro d
 induction d with
 | zero=>
  intro i ps hi hps h1
  rw[List.drop_of_length_le (by omega)]
  have hr:U8 ps (Yu [])=Vn ps:=by show Vn (ps++[])=_;rw[List.append_nil]
  rw[hr]
  have et:List.drop 0 (List.take i (List.map (enc:Int->PV) ps))=ps.map enc:=by rw[List.drop_zero,List.take_of_length_le (by simp[hps])]
  apply BM (G:=Zg (Vn ps)) p vs i fs.length fs i ps
  refine ZI (ZY (by omega)) ⟨by simp[hps],?_⟩
  rw[et]
  exact⟨Zj (ps,()) rfl (by simp;omega),Zh (ps,()) rfl (ZO (x:=Vn ps) rfl)⟩
 | succ d ih=>
  intro i ps hi hps h1
  have hlt:i<fs.length:=by omega
  have e:=Ql hlt
  rw[List.drop_eq_getElem_cons hlt,Yu]
  apply BM (G:=Zg (U8 ps (if (Y8 fs[i]).2≠0 then none else(Yu (fs.drop (i+1))).map ((Y8 fs[i]).1:: ·)))) p vs i fs.length fs i ps
  apply ZC (ZU hlt)
  rw[e]
  refine⟨by simp;omega,by simp;omega,rfl,Zj (fs[i],()) rfl (hl _ (List.getElem_mem hlt)),Zh (fs[i],()) rfl ?_⟩
  show if ((Y8 fs[i]).2 != 0)=true then _ else _
  by_cases h:(Y8 fs[i]).2=0
  ·rw[if_neg (by simp[h])]
   have hr:U8 ps (if (Y8 fs[i]).2≠0 then none else(Yu (fs.drop (i+1))).map ((Y8 fs[i]).1:: ·))=U8 (ps++[(Y8 fs[i]).1]) (Yu (fs.drop (i+1))):=by
    rw[if_neg (by simp[h])]
    cases Yu (fs.drop (i+1))with
    | none=>rfl
    | some l=>show Vn (ps++_::l)=Vn (ps++[_]++l);rw[List.append_assoc];rfl
   rw[hr]
   refine⟨?_,?_⟩
   ·rw[List.length_map,hps]
    show((i==i)&&(i==i)&&decide ((i+1)*8<=1099511627776)&&decide (i+1<=1099511627776))=true
    rw[decide_eq_true (by omega),decide_eq_true (by omega)];simp
   ·rw[next (by omega)]
    have:=ih (i+1) (ps++[(Y8 fs[i]).1]) (by omega) (by simp[hps]) (by omega)
    rw[List.map_append]at this
    exact this
  ·rw[if_pos (by simp[h])]
   have hr:U8 ps (if (Y8 fs[i]).2≠0 then none else(Yu (fs.drop (i+1))).map ((Y8 fs[i]).1:: ·))=((0:Int),(2:Int)):=by rw[if_pos h];rfl
   rw[hr]
   exact ZO (x:=((0:Int),(2:Int))) rfl
theorem b9g(p:List Mono)(vs:List Coef)(fs:List (List Int))(hne:0<fs.length)(hf:fs.length<=60)(hl : ∀ l∈fs,Zn l=true):
  At ZQ 0 (Za ZF (Zg (U8 [] (Yu fs)))) ZH 2 91 [(15,.pv (.sl 0 true [])),(69,.row 0 fs.length 0 fs.length),(70,.pv (.int .i64 fs.length)),(71,.pv (.int .i64 0))] [.obj (.row false 34 1 (fs.map enc))]:=by
 have e:=Ql hne
 have hr:Yu fs=if (Y8 fs[0]).2≠0 then none else(Yu (fs.drop 1)).map ((Y8 fs[0]).1:: ·):=by
  cases fs with
  | nil=>simp at hne
  | cons l r=>rfl
 rw[hr]
 apply OW (G:=Zg (U8 [] (if (Y8 fs[0]).2≠0 then none else(Yu (fs.drop 1)).map ((Y8 fs[0]).1:: ·)))) p vs ((0:Nat):Int) fs.length fs
 apply ZC (ZU hne)
 rw[e]
 refine⟨by simp;omega,by simp;omega,rfl,Zj (fs[0],()) rfl (hl _ (List.getElem_mem hne)),Zh (fs[0],()) rfl ?_⟩
 show if ((Y8 fs[0]).2 != 0)=true then _ else _
 by_cases h:(Y8 fs[0]).2=0
 ·rw[if_neg (by simp[h]),if_neg (by simp[h])]
  have hr:U8 [] ((Yu (fs.drop 1)).map ((Y8 fs[0]).1:: ·))=U8 [(Y8 fs[0]).1] (Yu (fs.drop 1)):=by
   cases Yu (fs.drop 1)with
   | none=>rfl
   | some l=>rfl
  rw[hr,next (by omega)]
  exact Oi p vs fs hf hl (fs.length - 1) 1 [(Y8 fs[0]).1] (by omega) rfl (by omega)
 ·rw[if_pos (by simp[h]),if_pos h]
  exact ZO (x:=((0:Int),(2:Int))) rfl
theorem b9m(p:List Mono)(vs:List Coef):At ZQ 0 (Za ZF (Zg (U8 [] (Yu [])))) ZH 2 91 [(15,.pv (.sl 0 true [])),(69,.pv (.sl 0 true [])),(70,.pv (.int .i64 0)),(71,.pv (.int .i64 0))] []:=by
 have hr:U8 [] (Yu [])=Vn []:=rfl
 rw[hr]
 apply Oq (G:=Zg (Vn [])) p vs
 exact H6 ([],()) rfl (ZO (x:=Vn []) rfl)
def SE(vs:List Coef)(fs:List (List Int))(bd:Bool)(r:List Mono):Int×Int:=match Nu vs r with
 | none=>(0,7)
 | some gs=>if bd||Cw gs then(0,2)else U8 [] (Yu (fs++gs))
def Lc(vs:List Coef)(fs:List (List Int))(bd:Bool)(l:List Int)(ns:List Str)(r:List Mono):Int×Int:=match R6 vs ns with
 | none=>(0,7)
 | some xs=>SE vs (fs++[l++xs]) (bd||xs.any fun x=> !UI x) r
theorem Ph(vs:List Coef)(fs:List (List Int))(bd:Bool)(m:Mono)(r:List Mono):SE vs fs bd (m::r)=Lc vs fs bd [m.c] m.v r:=by
 unfold SE Lc Nu
 cases R6 vs m.v with
 | none=>rfl
 | some xs=>
  show(match (Nu vs r).map ((m.c::xs):: ·)with|none=>_|some gs=>_)=SE vs (fs++[[m.c]++xs]) _ r
  unfold SE
  cases Nu vs r with
  | none=>rfl
  | some gs=>
   show(if bd||Cw ((m.c::xs)::gs)then _ else U8 [] (Yu (fs++(m.c::xs)::gs)))=(if (bd||xs.any fun x=> !UI x)||Cw gs then _ else U8 [] (Yu (fs++[[m.c]++xs]++gs)))
   have e1:Cw ((m.c::xs)::gs)=((xs.any fun x=> !UI x)||Cw gs):=rfl
   rw[e1,List.append_assoc,Bool.or_assoc]
   rfl
theorem Hl(vs:List Coef)(s:Str)(r:List Str):R6 vs (s::r)=match UZ vs s with|none=>none|some x=>(R6 vs r).map (x:: ·):=rfl
theorem T1(vs:List Coef)(fs:List (List Int))(bd:Bool)(l:List Int)(s:Str)(ns:List Str)(r:List Mono)(x:Int)(h:UZ vs s=some x):Lc vs fs bd l (s::ns) r=Lc vs fs (bd || !UI x) (l++[x]) ns r:=by
 unfold Lc
 rw[Hl,h]
 show(match (R6 vs ns).map (x:: ·)with|none=>_|some xs=>_)=_
 cases R6 vs ns with
 | none=>rfl
 | some xs=>
  show SE vs (fs++[l++x::xs]) (bd||(x::xs).any fun x=> !UI x) r=SE vs (fs++[l++[x]++xs]) ((bd || !UI x)||xs.any fun x=> !UI x) r
  rw[List.append_assoc,List.any_cons,Bool.or_assoc]
  rfl
theorem G4(x:Int):(!UI x)=(decide (x < -4611686018427387904)||decide (x>4611686018427387904)):=by
 unfold UI
 by_cases h1:x < -4611686018427387904
 ·rw[decide_eq_true h1,decide_eq_false (show ¬ -4611686018427387904<=x by omega)];rfl
 ·rw[decide_eq_false h1,decide_eq_true (show -4611686018427387904<=x by omega)]
  by_cases h2:x>4611686018427387904
  ·rw[decide_eq_true h2,decide_eq_false (show ¬ x<=4611686018427387904 by omega)];rfl
  ·rw[decide_eq_false h2,decide_eq_true (show x<=4611686018427387904 by omega)];rfl
theorem b9n(p:List Mono)(vs:List Coef)(hv:vs.length<=9223372036854775807)(i:Nat)(hi:i<60)(hip:i<p.length)(ns:List Str)(hn:ns.length<=8)(R:Int×Int)
  (hnext : ∀ (l:List Int) (bd:Bool),l.length<=100->R=SE vs ([]++[l]) bd (p.drop (i+1))->At ZQ 0 (Za ZF (Zg R)) ZH 0 91 [(6,.row 0 1 0 1),(1,.pv (enc vs)),(7,.pv (.bool bd)),(23,.pv (enc p)),(24,.pv (.int .i64 p.length)),(25,.pv (.int .i64 ((i+1:Nat):Int)))] [.obj (.row false 34 1 (([]++[l]).map enc))]) :
  ∀ (d j:Nat) (l:List Int) (bd:Bool),d+j=ns.length->l.length=j+1->R=Lc vs [] bd l (ns.drop j) (p.drop (i+1)) ->
  At ZQ 0 (Za ZF (Zg R)) ZH 1 91 [(6,.pv (.sl 0 true [])),(1,.pv (enc vs)),(7,.pv (.bool bd)),(23,.pv (enc p)),(24,.pv (.int .i64 p.length)),(25,.pv (.int .i64 i)),(33,.pv (enc ns)),(34,.pv (.int .i64 ns.length)),(35,.pv (.int .i64 j)),(10,.row 0 (j+1) 0 (j+1))] [.obj (.row false 3 1 (l.map enc))]:=by
 intro d
 induction d with
 | zero=>
  intro j l bd hd hl hR
  rw[List.drop_of_length_le (by omega)]at hR
  have hR2:R=SE vs ([]++[l]) bd (p.drop (i+1)):=by
   rw[hR]
   show SE vs ([]++[l++[]]) (bd||false) _=_
   rw[List.append_nil,Bool.or_false]
  have hn0:=hnext l bd (by omega) hR2
  have et:(PV.sl 1 false (List.drop 0 (List.take (j+1) (List.map (enc:Int->PV) l))))=enc l:=by rw[List.drop_zero,List.take_of_length_le (by simp[hl])];rfl
  apply BV (G:=Zg R) p vs bd i j ns (j+1) l
  apply ZI (ZY (by omega))
  refine⟨by simp[hl],?_⟩
  rw[et,next (by omega)]
  exact hn0
 | succ d ih=>
  intro j l bd hd hl hR
  have hlt:j<ns.length:=by omega
  rw[List.drop_eq_getElem_cons hlt]at hR
  have ecd:QS (enc vs)=vs:=Enc.dec_enc vs
  apply BV (G:=Zg R) p vs bd i j ns (j+1) l
  apply ZC (ZU hlt)
  refine⟨Zs hlt rfl,Zw hlt ?_⟩
  have e0:PV.asStr (List.getD (PV.cells (enc ns[j])) 0 default)=ns[j].s:=rfl
  rw[e0,ecd]
  refine⟨by show VL _ [.pv (enc vs),_] _=true;simp[VL,hv],?_⟩
  rcases A3 vs ns[j]with ⟨h1,h2⟩|⟨k,hk,h1,h2⟩
  ·have:R=(0,7):=by rw[hR];unfold Lc;rw[Hl,h2]
   rw[this]
   exact ZC (by simpa using h1) (ZO (x:=((0:Int),(7:Int))) rfl)
  ·rw[h1]
   rw[T1 vs _ _ _ _ _ _ _ h2]at hR
   have hq : ∀ bd',(bd || !UI vs[k].c)=bd'->At ZQ 0 (Za ZF (Zg R)) ZH 1 91 [(6,.pv (.sl 0 true [])),(1,.pv (enc vs)),(7,.pv (.bool bd')),(23,.pv (enc p)),(24,.pv (.int .i64 p.length)),(25,.pv (.int .i64 i)),(33,.pv (enc ns)),(34,.pv (.int .i64 ns.length)),(35,.pv (.int .i64 ((j+1:Nat):Int))),(10,.row 0 (j+1+1) 0 (j+1+1))] [.obj (.row false 3 1 ((l++[vs[k].c]).map enc))]:=fun bd' hb=>ih (j+1) (l++[vs[k].c]) bd' (by omega) (by simp[hl]) (by rw[<- hb];exact hR)
   have hap:(List.length (List.map (enc:Int->PV) l)==j+1&&(j+1==j+1)&&decide (((j+1)+List.length (List.drop 0 (List.take 1 [PV.int .i64 vs[k].c])))*8<=1099511627776)&&decide ((j+1)+List.length (List.drop 0 (List.take 1 [PV.int .i64 vs[k].c]))<=1099511627776))=true:=by
    rw[List.length_map,hl]
    show((j+1==j+1)&&(j+1==j+1)&&decide (((j+1)+1)*8<=1099511627776)&&decide ((j+1)+1<=1099511627776))=true
    rw[decide_eq_true (by omega),decide_eq_true (by omega)];simp
   refine ZI (by simp) ⟨Zs hk rfl,Zw hk ?_⟩
   rw[next (by omega)]
   rw[List.map_append]at hq
   refine XU (fun hb=>⟨hap,hq true (by rw[hb];rfl)⟩) fun hb=>Ww (fun h3=>⟨hap,hq true ?_⟩) fun h3=>⟨hap,hq _ ?_⟩
   ·have h3:vs[k].c < -4611686018427387904:=h3
    rw[G4,decide_eq_true h3,hb];rfl
   ·have h3 : ¬ vs[k].c < -4611686018427387904:=h3
    rw[G4,decide_eq_false h3,hb];rfl
theorem b9i(p:List Mono)(vs:List Coef)(hv:vs.length<=9223372036854775807)(fs:List (List Int))(hfl:fs.length<=60)(i:Nat)(hi:i<60)(hip:i<p.length)(ns:List Str)(hn:ns.length<=8)(R:Int×Int)
  (hnext : ∀ (l:List Int) (bd:Bool),l.length<=100->R=SE vs (fs++[l]) bd (p.drop (i+1))->At ZQ 0 (Za ZF (Zg R)) ZH 0 91 [(6,.row 0 (fs.length+1) 0 (fs.length+1)),(1,.pv (enc vs)),(7,.pv (.bool bd)),(23,.pv (enc p)),(24,.pv (.int .i64 p.length)),(25,.pv (.int .i64 ((i+1:Nat):Int)))] [.obj (.row false 34 1 ((fs++[l]).map enc))]) :
  ∀ (d j:Nat) (l:List Int) (bd:Bool),d+j=ns.length->l.length=j+1->R=Lc vs fs bd l (ns.drop j) (p.drop (i+1)) ->
  At ZQ 0 (Za ZF (Zg R)) ZH 1 91 [(6,.row 0 fs.length 0 fs.length),(1,.pv (enc vs)),(7,.pv (.bool bd)),(23,.pv (enc p)),(24,.pv (.int .i64 p.length)),(25,.pv (.int .i64 i)),(33,.pv (enc ns)),(34,.pv (.int .i64 ns.length)),(35,.pv (.int .i64 j)),(10,.row 1 (j+1) 0 (j+1))] [.obj (.row false 34 1 (fs.map enc)),.obj (.row false 3 1 (l.map enc))]:=by
 intro d
 induction d with
 | zero=>
  intro j l bd hd hl hR
  rw[List.drop_of_length_le (by omega)]at hR
  have hR2:R=SE vs (fs++[l]) bd (p.drop (i+1)):=by
   rw[hR]
   show SE vs (fs++[l++[]]) (bd||false) _=_
   rw[List.append_nil,Bool.or_false]
  have hn0:=hnext l bd (by omega) hR2
  have et:(PV.sl 1 false (List.drop 0 (List.take (j+1) (List.map (enc:Int->PV) l))))=enc l:=by rw[List.drop_zero,List.take_of_length_le (by simp[hl])];rfl
  apply Ar (G:=Zg R) p vs bd i j ns (j+1) l fs.length fs
  apply ZI (ZY (by omega))
  refine⟨by simp[hl],?_,?_⟩
  ·rw[et,List.length_map]
   show((fs.length==fs.length)&&(fs.length==fs.length)&&decide ((fs.length+1)*24<=1099511627776)&&decide (fs.length+1<=1099511627776))=true
   rw[decide_eq_true (by omega),decide_eq_true (by omega)];simp
  ·rw[et,next (by omega)]
   rw[List.map_append]at hn0
   exact hn0
 | succ d ih=>
  intro j l bd hd hl hR
  have hlt:j<ns.length:=by omega
  rw[List.drop_eq_getElem_cons hlt]at hR
  have ecd:QS (enc vs)=vs:=Enc.dec_enc vs
  apply Ar (G:=Zg R) p vs bd i j ns (j+1) l fs.length fs
  apply ZC (ZU hlt)
  refine⟨Zs hlt rfl,Zw hlt ?_⟩
  have e0:PV.asStr (List.getD (PV.cells (enc ns[j])) 0 default)=ns[j].s:=rfl
  rw[e0,ecd]
  refine⟨by show VL _ [.pv (enc vs),_] _=true;simp[VL,hv],?_⟩
  rcases A3 vs ns[j]with ⟨h1,h2⟩|⟨k,hk,h1,h2⟩
  ·have:R=(0,7):=by rw[hR];unfold Lc;rw[Hl,h2]
   rw[this]
   exact ZC (by simpa using h1) (ZO (x:=((0:Int),(7:Int))) rfl)
  ·rw[h1]
   rw[T1 vs _ _ _ _ _ _ _ h2]at hR
   have hq : ∀ bd',(bd || !UI vs[k].c)=bd'->At ZQ 0 (Za ZF (Zg R)) ZH 1 91 [(6,.row 0 fs.length 0 fs.length),(1,.pv (enc vs)),(7,.pv (.bool bd')),(23,.pv (enc p)),(24,.pv (.int .i64 p.length)),(25,.pv (.int .i64 i)),(33,.pv (enc ns)),(34,.pv (.int .i64 ns.length)),(35,.pv (.int .i64 ((j+1:Nat):Int))),(10,.row 1 (j+1+1) 0 (j+1+1))] [.obj (.row false 34 1 (fs.map enc)),.obj (.row false 3 1 ((l++[vs[k].c]).map enc))]:=fun bd' hb=>ih (j+1) (l++[vs[k].c]) bd' (by omega) (by simp[hl]) (by rw[<- hb];exact hR)
   have hap:(List.length (List.map (enc:Int->PV) l)==j+1&&(j+1==j+1)&&decide (((j+1)+List.length (List.drop 0 (List.take 1 [PV.int .i64 vs[k].c])))*8<=1099511627776)&&decide ((j+1)+List.length (List.drop 0 (List.take 1 [PV.int .i64 vs[k].c]))<=1099511627776))=true:=by
    rw[List.length_map,hl]
    show((j+1==j+1)&&(j+1==j+1)&&decide (((j+1)+1)*8<=1099511627776)&&decide ((j+1)+1<=1099511627776))=true
    rw[decide_eq_true (by omega),decide_eq_true (by omega)];simp
   refine ZI (by simp) ⟨Zs hk rfl,Zw hk ?_⟩
   rw[next (by omega)]
   rw[List.map_append]at hq
   refine XU (fun hb=>⟨hap,hq true (by rw[hb];rfl)⟩) fun hb=>Ww (fun h3=>⟨hap,hq true ?_⟩) fun h3=>⟨hap,hq _ ?_⟩
   ·have h3:vs[k].c < -4611686018427387904:=h3
    rw[G4,decide_eq_true h3,hb];rfl
   ·have h3 : ¬ vs[k].c < -4611686018427387904:=h3
    rw[G4,decide_eq_false h3,hb];rfl
theorem a1a(vs:List Coef)(fs:List (List Int))(bd:Bool):SE vs fs bd []=if bd then(0,2)else U8 [] (Yu fs):=by
 show(if bd||Cw []then _ else U8 [] (Yu (fs++[])))=_
 have:Cw []=false:=rfl
 rw[this,Bool.or_false,List.append_nil]
theorem Ny(p:List Mono)(vs:List Coef)(hp:ZG p=true)(hv:vs.length<=9223372036854775807): ∀ (d i:Nat) (fs:List (List Int)) (bd:Bool),d+i=p.length->fs.length=i->1<=i->(∀ l∈fs,l.length<=100) ->
  At ZQ 0 (Za ZF (Zg (SE vs fs bd (p.drop i)))) ZH 0 91 [(6,.row 0 fs.length 0 fs.length),(1,.pv (enc vs)),(7,.pv (.bool bd)),(23,.pv (enc p)),(24,.pv (.int .i64 p.length)),(25,.pv (.int .i64 i))] [.obj (.row false 34 1 (fs.map enc))]:=by
 obtain⟨hpl,hpm⟩:=J8 hp
 intro d
 induction d with
 | zero=>
  intro i fs bd hi hfi h1 hls
  rw[List.drop_of_length_le (by omega),a1a]
  apply B9 (G:=Zg (if bd then((0:Int),(2:Int))else U8 [] (Yu fs))) p vs bd i fs.length fs
  apply ZI (ZY (by omega))
  refine XU (fun hb=> ?_) fun hb=> ?_
  ·rw[hb,if_pos rfl]
   exact ZO (x:=((0:Int),(2:Int))) rfl
  ·rw[hb,if_neg (by simp),Nat.sub_zero]
   exact b9g p vs fs (by omega) (by omega) fun l hl=>Zx.2 (by have:=hls l hl;omega)
 | succ d ih=>
  intro i fs bd hi hfi h1 hls
  have hlt:i<p.length:=by omega
  have hm:=hpm _ (List.getElem_mem hlt)
  rw[List.drop_eq_getElem_cons hlt,Ph]
  apply B9 (G:=Zg (Lc vs fs bd [p[i].c] p[i].v (p.drop (i+1)))) p vs bd i fs.length fs
  apply ZC (ZU hlt)
  refine⟨Zs hlt rfl,Zw hlt ?_⟩
  have:=b9i p vs hv fs (by omega) i (by omega) hlt p[i].v hm (Lc vs fs bd [p[i].c] p[i].v (p.drop (i+1))) (fun l bd' hl hR=>by
   rw[hR]
   have:=ih (i+1) (fs++[l]) bd' (by omega) (by simp[hfi]) (by omega) (fun x hx=>by
    rcases List.mem_append.1 hx with hx|hx
    ·exact hls x hx
    ·rw[List.mem_singleton.1 hx];exact hl)
   rw[List.length_append]at this
   exact this) p[i].v.length 0 [p[i].c] bd (by omega) rfl rfl
  have eL:(((PV.asXs (List.getD (PV.cells (enc p[i])) (0+1) default)).length:Nat):Int)=(p[i].v.length:Int):=by
   show(((p[i].v.map (enc:Str->PV)).length:Nat):Int)=_
   rw[List.length_map]
  rw[eL]
  exact this
theorem a0m{p:List Mono}{vs:List Coef}(h:ZG p=true):SE vs [] false p=YT p vs:=by
 unfold SE YT
 rw[h,if_pos rfl]
 cases Nu vs p with
 | none=>rfl
 | some fs=>
  show(if false||Cw fs then _ else U8 [] (Yu ([]++fs)))=_
  rw[Bool.false_or,List.nil_append]
  show _=if Cw fs then _ else _
  by_cases hb:Cw fs=true
  ·rw[if_pos hb,if_pos hb]
  ·rw[if_neg hb,if_neg hb]
   cases Yu fs with
   | none=>rfl
   | some l=>rfl
theorem LX: ∀ x:List Mono×List Coef×Unit,(Z8 x.1&&Zn x.2.1)=true->Zc ZQ 0 (Za ZF (Zg (YT x.1 x.2.1))) ZH [] (Z5 O9 (encL x)):=by
 rintro⟨p,vs,⟨⟩⟩ h
 simp only[Bool.and_eq_true]at h
 obtain⟨hs,hv⟩:=h
 have hv:=Zx.1 hv
 refine a9j p vs ⟨Zj (p,()) rfl hs,Zh (p,()) rfl ?_⟩
 show if (!(ZG p))=true then _ else _
 cases hp:ZG p
 ·rw[if_pos (by rfl)]
  have:YT p vs=(0,1):=by unfold YT;rw[hp,if_neg (by simp)]
  show Zg (YT p vs) _
  rw[this]
  exact ZO (x:=((0:Int),(1:Int))) rfl
 ·rw[if_neg (by simp)]
  obtain⟨hpl,hpm⟩:=J8 hp
  show At ZQ 0 (Za ZF (Zg (YT p vs))) _ _ _ _ _
  rw[<- a0m hp,List.length_map]
  cases hpc:p with
  | nil=>
   have e:SE vs [] false []=U8 [] (Yu []):=by rw[a1a];rfl
   rw[e]
   apply BY (G:=Zg (U8 [] (Yu []))) [] vs false ((0:Nat):Int)
   apply ZI (ZY (by simp))
   exact ZI (by simp) (b9m [] vs)
  | cons m r=>
   have hlt:0<p.length:=by rw[hpc];simp
   have e0:p[0]=m:=by simp[hpc]
   rw[<- hpc]
   have hm:=hpm _ (List.getElem_mem hlt)
   have ed:p=p[0]::p.drop 1:=(List.drop_eq_getElem_cons hlt).symm▸rfl
   have eg:SE vs [] false p=Lc vs [] false [p[0].c] p[0].v (p.drop 1):=by
    rw[<- Ph]
    have:=List.drop_eq_getElem_cons hlt
    rw[List.drop_zero]at this
    rw[<- this]
   rw[eg]
   apply BY (G:=Zg (Lc vs [] false [p[0].c] p[0].v (p.drop 1))) p vs false ((0:Nat):Int)
   apply ZC (ZU hlt)
   refine⟨Zs hlt rfl,Zw hlt ?_⟩
   have:=b9n p vs hv 0 (by omega) hlt p[0].v hm (Lc vs [] false [p[0].c] p[0].v (p.drop 1)) (fun l bd' hl hR=>by
    rw[hR]
    exact Ny p vs hp hv (p.length - 1) 1 ([]++[l]) bd' (by omega) (by simp) (by omega) (fun x hx=>by
     rw[List.nil_append]at hx
     rw[List.mem_singleton.1 hx];exact hl)) p[0].v.length 0 [p[0].c] false (by omega) rfl rfl
   have eL:(((PV.asXs (List.getD (PV.cells (enc p[0])) (0+1) default)).length:Nat):Int)=(p[0].v.length:Int):=by
    show(((p[0].v.map (enc:Str->PV)).length:Nat):Int)=_
    rw[List.length_map]
   rw[eL]
   exact this
end Go.Pl

namespace Go.Pl
open Go.RowKit
open Enc (enc dec is)
open EncL (encL decL isL)
set_option maxRecDepth 100000
def YM:IC:=(.seq (.reg [⟨(some 3),(.box 2 (.t 0)),0,none⟩,⟨(some 5),(.box 1 (.t 2)),1,none⟩,⟨(some 6),(.alloc (.int .i64 0)),2,none⟩,⟨(some 7),(.alloc (.int .i64 0)),3,none⟩] none) (.seq (.seq (.reg [⟨(some 19),(.load true [(.sl 1),(.int .i64)] (.t 3)),0,none⟩,⟨(some 20),(.mv (.t 1)),0,none⟩,⟨(some 21),(.load false [(.sl 2)] (.t 5)),0,none⟩,⟨(some 22),(.call (.c (.fn 122)) [(.t 21)]),0,none⟩,⟨(some 23),(.load false [(.sl 2)] (.t 5)),2,none⟩,⟨(some 24),(.call (.c (.fn 123)) [(.t 23)]),2,none⟩,⟨(some 25),(.call (.c (.fn 116)) [(.t 19),(.t 20),(.t 22),(.t 24)]),4,none⟩,⟨(some 8),(.mv (.t 25)),6,none⟩] (some [[],[],[],[2],[],[4,3,2],[0,1,3,5,2,4],[6,0,1,2,3,4,5]])) (.seq (.reg [⟨(some 26),(.mv (.t 8)),0,none⟩,⟨(some 27),(.bin .num .neq (.t 26) (.c (.int .i64 0))),0,none⟩] none) (.cond (.t 27) (.seq (.reg [⟨(some 28),(.mv (.t 8)),0,none⟩,⟨none,(.store 1 (.t 6) (.c (.int .i64 0))),0,none⟩,⟨none,(.store 1 (.t 7) (.t 28)),0,none⟩] none) .ret) .skip))) (.seq (.reg [⟨(some 9),(.alloc (.sl 0 true [])),0,none⟩,⟨(some 10),(.alloc (.sl 0 true [])),1,none⟩] none) (.seq (.reg [⟨(some 29),(.mkfn 124 [] [(.t 9),(.t 10)]),0,none⟩,⟨(some 11),(.alloc .nilfn),0,none⟩,⟨none,(.store 1 (.t 11) (.t 29)),1,none⟩] none) (.seq (.seq (.reg [⟨(some 30),(.load true [(.sl 1),(.int .i64)] (.t 3)),0,none⟩,⟨(some 31),(.mv (.t 1)),0,none⟩,⟨(some 32),(.call (.c (.fn 117)) [(.t 30),(.t 31)]),0,none⟩] none) (.block 0 (.ext 0 [32,34,5,13,36,37,38,35,39,40,15,41,42,6,7,11,14,43,44,9,10]))) (.seq (.reg [⟨(some 16),(.mv (.c (.int .i64 0))),0,none⟩,⟨(some 17),(.mv (.c (.int .i64 0))),0,none⟩] none) (.seq (.seq (.reg [⟨(some 46),(.load false [(.sl 1)] (.t 9)),0,none⟩,⟨(some 47),(.len 1 (.t 46)),0,none⟩,⟨(some 48),(.mv (.c (.int .i64 0))),0,none⟩] none) (.block 2 (.loop [48,47,16,9,17,10,6,7] (.seq (.reg [⟨(some 49),(.bin .num .lss (.t 48) (.t 47)),0,none⟩] none) (.seq (.cond (.t 49) .skip (.exit 2)) (.seq (.block 3 (.seq (.reg [⟨(some 50),(.mv (.t 48)),0,none⟩,⟨(some 18),(.mv (.t 50)),0,none⟩] none) (.reg [⟨(some 51),(.mv (.t 16)),0,none⟩,⟨(some 52),(.load false [(.sl 1)] (.t 9)),0,none⟩,⟨(some 53),(.mv (.t 18)),0,none⟩,⟨(some 54),(.iaddr 1 (.t 52) (.t 53)),0,none⟩,⟨(some 55),(.load false [(.int .i64)] (.t 54)),0,none⟩,⟨(some 56),(.bin .num .add (.t 51) (.t 55)),0,none⟩,⟨(some 57),(.mv (.t 17)),0,none⟩,⟨(some 58),(.load false [(.sl 1)] (.t 10)),0,none⟩,⟨(some 59),(.mv (.t 18)),0,none⟩,⟨(some 60),(.iaddr 1 (.t 58) (.t 59)),0,none⟩,⟨(some 61),(.load false [(.int .i64)] (.t 60)),0,none⟩,⟨(some 62),(.bin .num .add (.t 57) (.t 61)),0,none⟩,⟨(some 16),(.mv (.t 56)),0,none⟩,⟨(some 17),(.mv (.t 62)),0,none⟩] (some [[],[],[],[1,2],[3,1,2],[0,4,3,1,2],[],[],[],[7,8],[9,7,8],[6,10,9,7,8],[5,0,1,2,3,4],[11,12,0,1,2,3,4,5,6,7,8,9,10]])))) (.reg [⟨(some 63),(.bin .num .add (.t 48) (.c (.int .i64 1))),0,none⟩,⟨(some 48),(.mv (.t 63)),0,none⟩] none))))))) (.seq (.reg [⟨(some 64),(.mv (.t 16)),0,none⟩,⟨(some 65),(.mv (.t 17)),0,none⟩,⟨(some 66),(.bin .num .shr (.t 65) (.c (.int .u64 31))),0,none⟩,⟨(some 67),(.bin .num .add (.t 64) (.t 66)),0,none⟩,⟨(some 68),(.mv (.t 17)),0,none⟩,⟨(some 69),(.bin .num .and (.t 68) (.c (.int .i64 2147483647))),0,none⟩,⟨(some 16),(.mv (.t 67)),0,none⟩,⟨(some 17),(.mv (.t 69)),0,none⟩] none) (.seq (.reg [⟨(some 70),(.mv (.t 16)),0,none⟩,⟨(some 71),(.mv (.t 17)),0,none⟩,⟨(some 72),(.bslice 3 1 2 (.int .i64 0) [(0,(.t 70)),(1,(.t 71))]),0,none⟩,⟨(some 73),(.bslice 3 1 2 (.int .i64 0) [(0,(.c (.int .i64 2147483648))),(1,(.c (.int .i64 1)))]),1,none⟩,⟨(some 74),(.call (.c (.fn 126)) [(.t 72),(.t 73)]),2,none⟩,⟨(some 75),(.extract (.t 74) 0),4,none⟩,⟨(some 76),(.extract (.t 74) 1),4,none⟩,⟨none,(.store 1 (.t 6) (.t 75)),4,none⟩,⟨none,(.store 1 (.t 7) (.t 76)),4,none⟩] none) .ret)))))))))
def Y0:List IRes:=[(.cell false 1 6),(.cell false 1 7)]
abbrev a2n:Nat:=77
def YH:ZE:=Y6 [(122,.pure (preT (fun x:List Mono×Unit=>Z8 x.1)) (Ze (fun x:List Mono×Unit=>ZG x.1))),(123,.own Ku GP),(116,.pure (preT (fun x:BoxT×List Fact×Bool×NilS×Unit=>ZA x.1&&Zi x.2.1&&decide (x.2.1.length<=100))) (Ze (fun x:BoxT×List Fact×Bool×NilS×Unit=>Zq x.1 x.2.1 x.2.2.1 []))),(117,.own Y5 WD),(125,.pure (preT (fun x:List Mono×List Coef×Unit=>Z8 x.1&&Zn x.2.1)) (Ze (fun x:List Mono×List Coef×Unit=>YT x.1 x.2.1))),(124,.own Uc UP),(126,.pure (preT (fun x:List Int×List Int×Unit=>decide (x.1.length<=10000)&&decide (x.2.1.length<=10000))) (Ze (fun x:List Int×List Int×Unit=>Hy x.1 x.2.1)))]
theorem a9e{G:PV->Prop}(E:Yv)(b:BoxT)(fs:List Fact)(p:List Mono)(h:(Go.Pl.preT (fun(x:List Mono×Unit)=>Z8 x.1) [(.sl 2 false (List.map enc p))])=true∧(∃ y0:Bool,AV.pv (Ze (fun(x:List Mono×Unit)=>ZG x.1) [(.sl 2 false (List.map enc p))])=AV.pv (enc y0)∧((Ku [(.pv (.sl 2 false (List.map enc p)))] [])=true∧((Go.Pl.preT (fun(x:BoxT×List Fact×Bool×NilS×Unit)=>ZA x.1&&Zi x.2.1&&decide (List.length x.2.1<=100)) [(.agg [(.sl 1 false (List.map enc b.v)),(.int .i64 b.m)]),(.sl 3 false (List.map enc fs)),(.bool y0),(.sl 0 true [])])=true∧(∃ y1:Int,AV.pv (Ze (fun(x:BoxT×List Fact×Bool×NilS×Unit)=>Zq x.1 x.2.1 x.2.2.1 []) [(.agg [(.sl 1 false (List.map enc b.v)),(.int .i64 b.m)]),(.sl 3 false (List.map enc fs)),(.bool y0),(.sl 0 true [])])=AV.pv (enc y1)∧(if (y1 != 0)=true then G ((.tup [(.int .i64 0),(.int .i64 y1)]))else((Y5 [(.pv (.agg [(.sl 1 false (List.map enc b.v)),(.int .i64 b.m)])),(.pv (.sl 3 false (List.map enc fs)))] [])=true∧(E 0 ⟨ZR 77 0 [(5,(.ptr 0 0)),(6,(.ptr 1 0)),(7,(.ptr 2 0)),(9,(.ptr 3 0)),(10,(.ptr 4 0)),(11,(.ptr 5 0)),(13,.undef),(14,.undef),(15,.undef),(32,(.fn 177 [] [(.ptr 6 0),(.ptr 7 0)])),(34,.undef),(35,.undef),(36,.undef),(37,.undef),(38,.undef),(39,.undef),(40,.undef),(41,.undef),(42,.undef),(43,.undef),(44,.undef)],[(.obj (.box [(.pv (.sl 2 false (List.map enc p)))])),(.obj (.box [(.pv (.int .i64 0))])),(.obj (.box [(.pv (.int .i64 0))])),(.obj (.box [(.pv (.sl 0 true []))])),(.obj (.box [(.pv (.sl 0 true []))])),(.obj (.box [(.fn 124 [] [(.ptr 3 0),(.ptr 4 0)])])),(.obj (.box [(.pv (.sl 1 false (List.map enc b.v))),(.pv (.int .i64 b.m))])),(.obj (.box [(.pv (.sl 3 false (List.map enc fs)))]))]⟩ (fun x S'=>KR YH E 0 (Za Y0 G) YM 0 x S'))))))))):ZB YH E 0 (Za Y0 G) (.inl YM) [] (Z5 77 [enc b,enc fs,enc p]):=ZB.mp (.req (.abs (Bool) (fun YY=>AV.pv (enc YY)) (.req (.keep (.req (.abs (Int) (fun YY=>AV.pv (enc YY)) (.lit (.ask (.nil) (.req (.keep (.nil))))))))))) h (by kernel_rfl)
theorem OM{G:PV->Prop}(E:Yv)(b:BoxT)(fs:List Fact)(p:List Mono)(h : ∃ y0:Int×Int,AV.pv (Ze (fun(x:List Int×List Int×Unit)=>Hy x.1 x.2.1) [(.sl 1 false [(.int .i64 0),(.int .i64 0)]),(.sl 1 false [(.int .i64 2147483648),(.int .i64 1)])])=AV.pv (enc y0)∧(G ((.tup [(.int .i64 y0.1),(.int .i64 y0.2)])))):MG YH E 0 (Za Y0 G) YM 0 77 [(6,.ptr 0 0),(7,.ptr 1 0),(9,.ptr 2 0),(10,.ptr 3 0),(16,.pv (.int .i64 0)),(17,.pv (.int .i64 0)),(47,.pv (.int .i64 0)),(48,.pv (.int .i64 0))] [.obj (.box [.pv (.int .i64 0)]),.obj (.box [.pv (.int .i64 0)]),.obj (.box [.pv (.sl 0 true [])]),.obj (.box [.pv (.sl 0 true [])])]:=ZB.mp (.lit (.lit (.lit (.lit (.lit (.lit (.lit (.lit (.lit (.lit (.abs (Int×Int) (fun YY=>AV.pv (enc YY)) (.nil)))))))))))) h (by kernel_rfl)
theorem BG{G:PV->Prop}(E:Yv)(b:BoxT)(fs:List Fact)(p:List Mono)(u z i:Int)(n:Nat)(xs ys:List Int)(h:if (decide (i<(↑n:Int)))=true then(decide (0<=i)&&decide (0+Int.toNat i<n)&&List.length (List.map enc xs)==n)=true∧((List.length (List.map enc xs)==n&&decide (0+Int.toNat i<List.length (List.map enc xs)))=true∧((decide (0+List.length [Sh.int .i64]<=List.length (PV.cells (List.getD (List.map enc xs) (0+Int.toNat i) default)))&&Y2 (PV.cells (List.getD (List.map enc xs) (0+Int.toNat i) default)) 0 [Sh.int .i64])=true∧((decide (0<=i)&&decide (0+Int.toNat i<n)&&List.length (List.map enc ys)==n)=true∧((List.length (List.map enc ys)==n&&decide (0+Int.toNat i<List.length (List.map enc ys)))=true∧((decide (0+List.length [Sh.int .i64]<=List.length (PV.cells (List.getD (List.map enc ys) (0+Int.toNat i) default)))&&Y2 (PV.cells (List.getD (List.map enc ys) (0+Int.toNat i) default)) 0 [Sh.int .i64])=true∧(MG YH E 0 (Za Y0 G) YM 0 77 [(6,(.ptr 0 0)),(7,(.ptr 1 0)),(9,(.ptr 2 0)),(10,(.ptr 3 0)),(16,(.pv (.int .i64 (IntKind.wrap IntKind.i64 (u+PV.asInt (List.getD (PV.cells (List.getD (List.map enc xs) (0+Int.toNat i) default)) 0 default)))))),(17,(.pv (.int .i64 (IntKind.wrap IntKind.i64 (z+PV.asInt (List.getD (PV.cells (List.getD (List.map enc ys) (0+Int.toNat i) default)) 0 default)))))),(47,(.pv (.int .i64 (↑n:Int)))),(48,(.pv (.int .i64 (IntKind.wrap IntKind.i64 (i+1)))))] [(.obj (.box [(.pv (.int .i64 0))])),(.obj (.box [(.pv (.int .i64 0))])),(.obj (.box [(.row 4 n 0 n)])),(.obj (.box [(.row 5 n 0 n)])),(.obj (.row false 3 1 (List.map enc xs))),(.obj (.row false 3 1 (List.map enc ys)))]))))))else(∃ y0:Int×Int,AV.pv (Ze (fun(x:List Int×List Int×Unit)=>Hy x.1 x.2.1) [(.sl 1 false [(.int .i64 (IntKind.wrap IntKind.i64 (u+Int.fdiv z (2 ^ min (Int.toNat 31) (IntKind.bits IntKind.i64))))),(.int .i64 (IntKind.wrap IntKind.i64 (↑(BitVec.toNat (BitVec.ofInt (IntKind.bits IntKind.i64) z &&& BitVec.ofInt (IntKind.bits IntKind.i64) 2147483647)):Int)))]),(.sl 1 false [(.int .i64 2147483648),(.int .i64 1)])])=AV.pv (enc y0)∧(G ((.tup [(.int .i64 y0.1),(.int .i64 y0.2)]))))):MG YH E 0 (Za Y0 G) YM 0 77 [(6,.ptr 0 0),(7,.ptr 1 0),(9,.ptr 2 0),(10,.ptr 3 0),(16,.pv (.int .i64 u)),(17,.pv (.int .i64 z)),(47,.pv (.int .i64 n)),(48,.pv (.int .i64 i))] [.obj (.box [.pv (.int .i64 0)]),.obj (.box [.pv (.int .i64 0)]),.obj (.box [.row 4 n 0 n]),.obj (.box [.row 5 n 0 n]),.obj (.row false 3 1 (xs.map enc)),.obj (.row false 3 1 (ys.map enc))]:=ZB.mp (.lit (.ask (.req (.keep (.req (.req (.lit (.req (.keep (.req (.req (.lit (.lit (.nil)))))))))))) (.lit (.lit (.lit (.lit (.lit (.lit (.lit (.lit (.abs (Int×Int) (fun YY=>AV.pv (enc YY)) (.nil)))))))))))) h (by kernel_rfl)
theorem Fo{G:PV->Prop}(E:Yv)(b:BoxT)(fs:List Fact)(p:List Mono)(h:MG YH E 0 (Za Y0 G) YM 0 77 [(6,(.ptr 0 0)),(7,(.ptr 1 0)),(9,(.ptr 2 0)),(10,(.ptr 3 0)),(16,(.pv (.int .i64 0))),(17,(.pv (.int .i64 0))),(47,(.pv (.int .i64 0))),(48,(.pv (.int .i64 0)))] [(.obj (.box [(.pv (.int .i64 0))])),(.obj (.box [(.pv (.int .i64 0))])),(.obj (.box [(.pv (.sl 0 true []))])),(.obj (.box [(.pv (.sl 0 true []))]))]):KR YH E 0 (Za Y0 G) YM 0 .normal ⟨ZR 77 0 [(5,.ptr 0 0),(6,.ptr 1 0),(7,.ptr 2 0),(9,.ptr 3 0),(10,.ptr 4 0),(11,.ptr 5 0)],[.obj (.box [.pv (enc p)]),.obj (.box [.pv (.int .i64 0)]),.obj (.box [.pv (.int .i64 0)]),.obj (.box [.pv (.sl 0 true [])]),.obj (.box [.pv (.sl 0 true [])]),.obj (.box [.fn 124 [] [.ptr 3 0,.ptr 4 0]])]⟩:=ZB.mp (.nil) h (by kernel_rfl)
theorem OY{G:PV->Prop}(E:Yv)(b:BoxT)(fs:List Fact)(p:List Mono)(n:Nat)(xs ys:List Int)(h:MG YH E 0 (Za Y0 G) YM 0 77 [(6,(.ptr 0 0)),(7,(.ptr 1 0)),(9,(.ptr 2 0)),(10,(.ptr 3 0)),(16,(.pv (.int .i64 0))),(17,(.pv (.int .i64 0))),(47,(.pv (.int .i64 (↑(n - 0):Int)))),(48,(.pv (.int .i64 0)))] [(.obj (.box [(.pv (.int .i64 0))])),(.obj (.box [(.pv (.int .i64 0))])),(.obj (.box [(.row 4 n 0 n)])),(.obj (.box [(.row 5 n 0 n)])),(.obj (.row false 3 1 (List.map enc xs))),(.obj (.row false 3 1 (List.map enc ys)))]):KR YH E 0 (Za Y0 G) YM 0 .normal ⟨ZR 77 0 [(5,.ptr 0 0),(6,.ptr 1 0),(7,.ptr 2 0),(9,.ptr 3 0),(10,.ptr 4 0),(11,.ptr 5 0)],[.obj (.box [.pv (enc p)]),.obj (.box [.pv (.int .i64 0)]),.obj (.box [.pv (.int .i64 0)]),.obj (.box [.row 6 n 0 n]),.obj (.box [.row 7 n 0 n]),.obj (.box [.fn 124 [] [.ptr 3 0,.ptr 4 0]]),.obj (.row false 3 1 (xs.map enc)),.obj (.row false 3 1 (ys.map enc))]⟩:=ZB.mp (.nil) h (by kernel_rfl)
theorem NT{G:PV->Prop}(E:Yv)(b:BoxT)(fs:List Fact)(p:List Mono)(h:G ((.tup [(.int .i64 0),(.int .i64 2)]))):KR YH E 0 (Za Y0 G) YM 0 .ret ⟨ZR 77 0 [(5,.ptr 0 0),(6,.ptr 1 0),(7,.ptr 2 0),(9,.ptr 3 0),(10,.ptr 4 0),(11,.ptr 5 0)],[.obj (.box [.pv (enc p)]),.obj (.box [.pv (.int .i64 0)]),.obj (.box [.pv (.int .i64 2)]),.obj (.box [.pv (.sl 0 true [])]),.obj (.box [.pv (.sl 0 true [])]),.obj (.box [.fn 124 [] [.ptr 3 0,.ptr 4 0]]),.fresh,.fresh]⟩:=ZB.mp (.nil) h (by kernel_rfl)
theorem Ng{G:PV->Prop}(E:Yv)(b:BoxT)(fs:List Fact)(p:List Mono)(n:Nat)(xs ys:List Int)(h:G ((.tup [(.int .i64 0),(.int .i64 2)]))):KR YH E 0 (Za Y0 G) YM 0 .ret ⟨ZR 77 0 [(5,.ptr 0 0),(6,.ptr 1 0),(7,.ptr 2 0),(9,.ptr 3 0),(10,.ptr 4 0),(11,.ptr 5 0)],[.obj (.box [.pv (enc p)]),.obj (.box [.pv (.int .i64 0)]),.obj (.box [.pv (.int .i64 2)]),.obj (.box [.row 6 n 0 n]),.obj (.box [.row 7 n 0 n]),.obj (.box [.fn 124 [] [.ptr 3 0,.ptr 4 0]]),.obj (.row false 3 1 (xs.map enc)),.obj (.row false 3 1 (ys.map enc)),.fresh,.fresh]⟩:=ZB.mp (.nil) h (by kernel_rfl)
def W4:IC:=(.block 1 (.seq (.reg [⟨(some 36),(.load false [(.sl 2)] (.t 5)),0,none⟩,⟨(some 37),(.mv (.t 13)),0,none⟩,⟨(some 38),(.call (.c (.fn 125)) [(.t 36),(.t 37)]),0,none⟩,⟨(some 35),(.mv (.t 38)),2,none⟩,⟨(some 39),(.extract (.t 35) 0),2,none⟩,⟨(some 40),(.extract (.t 35) 1),2,none⟩,⟨(some 14),(.mv (.t 39)),2,none⟩,⟨(some 15),(.mv (.t 40)),2,none⟩] none) (.seq (.seq (.reg [⟨(some 41),(.mv (.t 15)),0,none⟩,⟨(some 42),(.bin .num .neq (.t 41) (.c (.int .i64 0))),0,none⟩] none) (.cond (.t 42) (.seq (.reg [⟨none,(.store 1 (.t 6) (.c (.int .i64 0))),0,none⟩,⟨none,(.store 1 (.t 7) (.c (.int .i64 2))),0,none⟩] none) .ret) .skip)) (.reg [⟨(some 43),(.load false [.any] (.t 11)),0,none⟩,⟨(some 44),(.mv (.t 14)),0,none⟩,⟨(some 45),(.call (.t 43) [(.t 44)]),0,none⟩] none))))
def GJ:ZE:=Y6 [(122,.pure (preT (fun x:List Mono×Unit=>Z8 x.1)) (Ze (fun x:List Mono×Unit=>ZG x.1))),(123,.own Ku GP),(116,.pure (preT (fun x:BoxT×List Fact×Bool×NilS×Unit=>ZA x.1&&Zi x.2.1&&decide (x.2.1.length<=100))) (Ze (fun x:BoxT×List Fact×Bool×NilS×Unit=>Zq x.1 x.2.1 x.2.2.1 []))),(117,.own Y5 WD),(125,.pure (preT (fun x:List Mono×List Coef×Unit=>Z8 x.1&&Zn x.2.1)) (Ze (fun x:List Mono×List Coef×Unit=>YT x.1 x.2.1))),(124,.own Uc UP),(126,.pure (preT (fun x:List Int×List Int×Unit=>decide (x.1.length<=10000)&&decide (x.2.1.length<=10000))) (Ze (fun x:List Int×List Int×Unit=>Hy x.1 x.2.1)))]
theorem Ed{G:Zu->Prop}(E:Yv)(p:List Mono)(q:List Int)(vs:List Coef)(h:(Go.Pl.preT (fun(x:List Mono×List Coef×Unit)=>Z8 x.1&&Zn x.2.1) [(.sl 2 false (List.map enc p)),(.sl 2 false (List.map enc vs))])=true∧(∃ y0:Int×Int,AV.pv (Ze (fun(x:List Mono×List Coef×Unit)=>YT x.1 x.2.1) [(.sl 2 false (List.map enc p)),(.sl 2 false (List.map enc vs))])=AV.pv (enc y0)∧(if (y0.2 != 0)=true then G ([(.obj (.box [(.pv (.sl 2 false (List.map enc p)))])),(.obj (.box [(.pv (.int .i64 0))])),(.obj (.box [(.pv (.int .i64 2))])),(.obj (.box [(.pv (.sl 0 true []))])),(.obj (.box [(.pv (.sl 0 true []))])),(.obj (.box [(.fn 124 [] [(.ptr 3 0),(.ptr 4 0)])])),.fresh,.fresh])else(E 99 ⟨ZR 77 0 [],[(.obj (.box [(.pv (.sl 2 false (List.map enc p)))])),(.obj (.box [(.pv (.int .i64 0))])),(.obj (.box [(.pv (.int .i64 0))])),(.obj (.box [(.row 6 1 0 1)])),(.obj (.box [(.row 7 1 0 1)])),(.obj (.box [(.fn 124 [] [(.ptr 3 0),(.ptr 4 0)])])),(.obj (.row false 3 1 [(.int .i64 (Wo y0.1))])),(.obj (.row false 3 1 [(.int .i64 (XY y0.1))]))]⟩ (fun x S'=>KR GJ E 6 (fun st=>G st.heap) W4 99 x S'))))):ZB GJ E 6 (fun st=>G st.heap) (.inl W4) [.seq (.ext 99 [])] ⟨ZR 77 0 [(5,.ptr 0 0),(6,.ptr 1 0),(7,.ptr 2 0),(9,.ptr 3 0),(10,.ptr 4 0),(11,.ptr 5 0),(13,.pv (enc vs)),(33,.pv (enc q)),(34,.pv (enc vs))],[.obj (.box [.pv (enc p)]),.obj (.box [.pv (.int .i64 0)]),.obj (.box [.pv (.int .i64 0)]),.obj (.box [.pv (.sl 0 true [])]),.obj (.box [.pv (.sl 0 true [])]),.obj (.box [.fn 124 [] [.ptr 3 0,.ptr 4 0]])]⟩:=ZB.mh (.req (.abs (Int×Int) (fun YY=>AV.pv (enc YY)) (.lit (.ask (.nil) (.lit (.keep (.nil))))))) h (by kernel_rfl)
theorem Eg{G:Zu->Prop}(E:Yv)(p:List Mono)(q:List Int)(vs:List Coef)(n:Nat)(xs ys:List Int)(h:(Go.Pl.preT (fun(x:List Mono×List Coef×Unit)=>Z8 x.1&&Zn x.2.1) [(.sl 2 false (List.map enc p)),(.sl 2 false (List.map enc vs))])=true∧(∃ y0:Int×Int,AV.pv (Ze (fun(x:List Mono×List Coef×Unit)=>YT x.1 x.2.1) [(.sl 2 false (List.map enc p)),(.sl 2 false (List.map enc vs))])=AV.pv (enc y0)∧(if (y0.2 != 0)=true then G ([(.obj (.box [(.pv (.sl 2 false (List.map enc p)))])),(.obj (.box [(.pv (.int .i64 0))])),(.obj (.box [(.pv (.int .i64 2))])),(.obj (.box [(.row 6 n 0 n)])),(.obj (.box [(.row 7 n 0 n)])),(.obj (.box [(.fn 124 [] [(.ptr 3 0),(.ptr 4 0)])])),(.obj (.row false 3 1 (List.map enc xs))),(.obj (.row false 3 1 (List.map enc ys))),.fresh,.fresh])else((Uc [(.pv (.int .i64 y0.1)),(.ptr 0 0),(.ptr 1 0)] [(.box [(.row 2 n 0 n)]),(.box [(.row 3 n 0 n)]),(.row false 3 1 (List.map enc xs)),(.row false 3 1 (List.map enc ys))])=true∧(E 99 ⟨ZR 77 0 [],[(.obj (.box [(.pv (.sl 2 false (List.map enc p)))])),(.obj (.box [(.pv (.int .i64 0))])),(.obj (.box [(.pv (.int .i64 0))])),(.obj (.box [(.row 6 (n+1) 0 (n+1))])),(.obj (.box [(.row 7 (n+1) 0 (n+1))])),(.obj (.box [(.fn 124 [] [(.ptr 3 0),(.ptr 4 0)])])),(.obj (.row false 3 1 (List.map enc xs++[PV.int .i64 (Wo y0.1)]))),(.obj (.row false 3 1 (List.map enc ys++[PV.int .i64 (XY y0.1)])))]⟩ (fun x S'=>KR GJ E 8 (fun st=>G st.heap) W4 99 x S')))))):ZB GJ E 8 (fun st=>G st.heap) (.inl W4) [.seq (.ext 99 [])] ⟨ZR 77 0 [(5,.ptr 0 0),(6,.ptr 1 0),(7,.ptr 2 0),(9,.ptr 3 0),(10,.ptr 4 0),(11,.ptr 5 0),(13,.pv (enc vs)),(33,.pv (enc q)),(34,.pv (enc vs))],[.obj (.box [.pv (enc p)]),.obj (.box [.pv (.int .i64 0)]),.obj (.box [.pv (.int .i64 0)]),.obj (.box [.row 6 n 0 n]),.obj (.box [.row 7 n 0 n]),.obj (.box [.fn 124 [] [.ptr 3 0,.ptr 4 0]]),.obj (.row false 3 1 (xs.map enc)),.obj (.row false 3 1 (ys.map enc))]⟩:=ZB.mh (.req (.abs (Int×Int) (fun YY=>AV.pv (enc YY)) (.lit (.ask (.nil) (.req (.keep (.nil))))))) h (by kernel_rfl)
def Y1:IC:=YM
def Y3:List IRes:=[(.cell false 1 6),(.cell false 1 7)]
abbrev a1b:Nat:=77
def YG:ZE:=Y6 [(122,.pure (preT (fun x:List Mono×Unit=>Z8 x.1)) (Ze (fun x:List Mono×Unit=>ZG x.1))),(123,.own UN SQ),(116,.own V7 QH),(117,.own Y5 WD),(125,.pure (preT (fun x:List Mono×List Coef×Unit=>Z8 x.1&&Zn x.2.1)) (Ze (fun x:List Mono×List Coef×Unit=>YT x.1 x.2.1))),(124,.own Uc UP),(126,.pure (preT (fun x:List Int×List Int×Unit=>decide (x.1.length<=10000)&&decide (x.2.1.length<=10000))) (Ze (fun x:List Int×List Int×Unit=>Hy x.1 x.2.1)))]
theorem a8j{G:PV->Prop}(E:Yv)(b:BoxT)(fs:List Fact)(p:List Mono)(h:(Go.Pl.preT (fun(x:List Mono×Unit)=>Z8 x.1) [(.sl 2 false (List.map enc p))])=true∧(∃ y0:Bool,AV.pv (Ze (fun(x:List Mono×Unit)=>ZG x.1) [(.sl 2 false (List.map enc p))])=AV.pv (enc y0)∧((UN [(.pv (.sl 2 false (List.map enc p)))] [])=true∧((V7 [(.pv (.agg [(.sl 1 false (List.map enc b.v)),(.int .i64 b.m)])),(.pv (.sl 3 false (List.map enc fs))),(.pv (.bool y0)),(.row 0 (List.length (Yt (VW (enc p)))) 0 (List.length (Yt (VW (enc p)))))] [(.row false 9 1 (List.map enc (Yt (VW (enc p)))))])=true∧(if (Zq (NK (PV.agg [enc b.v,enc b.m])) (CJ (enc fs)) y0 (Ke (List.map enc (Yt (VW (enc p))))) != 0)=true then G ((.tup [(.int .i64 0),(.int .i64 (Zq (NK (PV.agg [enc b.v,enc b.m])) (CJ (enc fs)) y0 (Ke (List.map enc (Yt (VW (enc p)))))))]))else((Y5 [(.pv (.agg [(.sl 1 false (List.map enc b.v)),(.int .i64 b.m)])),(.pv (.sl 3 false (List.map enc fs)))] [])=true∧(E 0 ⟨ZR 77 0 [(5,(.ptr 0 0)),(6,(.ptr 1 0)),(7,(.ptr 2 0)),(9,(.ptr 3 0)),(10,(.ptr 4 0)),(11,(.ptr 5 0)),(13,.undef),(14,.undef),(15,.undef),(32,(.fn 177 [] [(.ptr 6 0),(.ptr 7 0)])),(34,.undef),(35,.undef),(36,.undef),(37,.undef),(38,.undef),(39,.undef),(40,.undef),(41,.undef),(42,.undef),(43,.undef),(44,.undef)],[(.obj (.box [(.pv (.sl 2 false (List.map enc p)))])),(.obj (.box [(.pv (.int .i64 0))])),(.obj (.box [(.pv (.int .i64 0))])),(.obj (.box [(.pv (.sl 0 true []))])),(.obj (.box [(.pv (.sl 0 true []))])),(.obj (.box [(.fn 124 [] [(.ptr 3 0),(.ptr 4 0)])])),(.obj (.box [(.pv (.sl 1 false (List.map enc b.v))),(.pv (.int .i64 b.m))])),(.obj (.box [(.pv (.sl 3 false (List.map enc fs)))]))]⟩ (fun x S'=>KR YG E 0 (Za Y3 G) Y1 0 x S')))))))):ZB YG E 0 (Za Y3 G) (.inl Y1) [] (Z5 77 [enc b,enc fs,enc p]):=ZB.mp (.req (.abs (Bool) (fun YY=>AV.pv (enc YY)) (.req (.keep (.req (.keep (.lit (.ask (.nil) (.req (.keep (.nil))))))))))) h (by kernel_rfl)
theorem Oj{G:PV->Prop}(E:Yv)(b:BoxT)(fs:List Fact)(p:List Mono)(h : ∃ y0:Int×Int,AV.pv (Ze (fun(x:List Int×List Int×Unit)=>Hy x.1 x.2.1) [(.sl 1 false [(.int .i64 0),(.int .i64 0)]),(.sl 1 false [(.int .i64 2147483648),(.int .i64 1)])])=AV.pv (enc y0)∧(G ((.tup [(.int .i64 y0.1),(.int .i64 y0.2)])))):MG YG E 0 (Za Y3 G) Y1 0 77 [(6,.ptr 0 0),(7,.ptr 1 0),(9,.ptr 2 0),(10,.ptr 3 0),(16,.pv (.int .i64 0)),(17,.pv (.int .i64 0)),(47,.pv (.int .i64 0)),(48,.pv (.int .i64 0))] [.obj (.box [.pv (.int .i64 0)]),.obj (.box [.pv (.int .i64 0)]),.obj (.box [.pv (.sl 0 true [])]),.obj (.box [.pv (.sl 0 true [])])]:=ZB.mp (.lit (.lit (.lit (.lit (.lit (.lit (.lit (.lit (.lit (.lit (.abs (Int×Int) (fun YY=>AV.pv (enc YY)) (.nil)))))))))))) h (by kernel_rfl)
theorem B3{G:PV->Prop}(E:Yv)(b:BoxT)(fs:List Fact)(p:List Mono)(u z i:Int)(n:Nat)(xs ys:List Int)(h:if (decide (i<(↑n:Int)))=true then(decide (0<=i)&&decide (0+Int.toNat i<n)&&List.length (List.map enc xs)==n)=true∧((List.length (List.map enc xs)==n&&decide (0+Int.toNat i<List.length (List.map enc xs)))=true∧((decide (0+List.length [Sh.int .i64]<=List.length (PV.cells (List.getD (List.map enc xs) (0+Int.toNat i) default)))&&Y2 (PV.cells (List.getD (List.map enc xs) (0+Int.toNat i) default)) 0 [Sh.int .i64])=true∧((decide (0<=i)&&decide (0+Int.toNat i<n)&&List.length (List.map enc ys)==n)=true∧((List.length (List.map enc ys)==n&&decide (0+Int.toNat i<List.length (List.map enc ys)))=true∧((decide (0+List.length [Sh.int .i64]<=List.length (PV.cells (List.getD (List.map enc ys) (0+Int.toNat i) default)))&&Y2 (PV.cells (List.getD (List.map enc ys) (0+Int.toNat i) default)) 0 [Sh.int .i64])=true∧(MG YG E 0 (Za Y3 G) Y1 0 77 [(6,(.ptr 0 0)),(7,(.ptr 1 0)),(9,(.ptr 2 0)),(10,(.ptr 3 0)),(16,(.pv (.int .i64 (IntKind.wrap IntKind.i64 (u+PV.asInt (List.getD (PV.cells (List.getD (List.map enc xs) (0+Int.toNat i) default)) 0 default)))))),(17,(.pv (.int .i64 (IntKind.wrap IntKind.i64 (z+PV.asInt (List.getD (PV.cells (List.getD (List.map enc ys) (0+Int.toNat i) default)) 0 default)))))),(47,(.pv (.int .i64 (↑n:Int)))),(48,(.pv (.int .i64 (IntKind.wrap IntKind.i64 (i+1)))))] [(.obj (.box [(.pv (.int .i64 0))])),(.obj (.box [(.pv (.int .i64 0))])),(.obj (.box [(.row 4 n 0 n)])),(.obj (.box [(.row 5 n 0 n)])),(.obj (.row false 3 1 (List.map enc xs))),(.obj (.row false 3 1 (List.map enc ys)))]))))))else(∃ y0:Int×Int,AV.pv (Ze (fun(x:List Int×List Int×Unit)=>Hy x.1 x.2.1) [(.sl 1 false [(.int .i64 (IntKind.wrap IntKind.i64 (u+Int.fdiv z (2 ^ min (Int.toNat 31) (IntKind.bits IntKind.i64))))),(.int .i64 (IntKind.wrap IntKind.i64 (↑(BitVec.toNat (BitVec.ofInt (IntKind.bits IntKind.i64) z &&& BitVec.ofInt (IntKind.bits IntKind.i64) 2147483647)):Int)))]),(.sl 1 false [(.int .i64 2147483648),(.int .i64 1)])])=AV.pv (enc y0)∧(G ((.tup [(.int .i64 y0.1),(.int .i64 y0.2)]))))):MG YG E 0 (Za Y3 G) Y1 0 77 [(6,.ptr 0 0),(7,.ptr 1 0),(9,.ptr 2 0),(10,.ptr 3 0),(16,.pv (.int .i64 u)),(17,.pv (.int .i64 z)),(47,.pv (.int .i64 n)),(48,.pv (.int .i64 i))] [.obj (.box [.pv (.int .i64 0)]),.obj (.box [.pv (.int .i64 0)]),.obj (.box [.row 4 n 0 n]),.obj (.box [.row 5 n 0 n]),.obj (.row false 3 1 (xs.map enc)),.obj (.row false 3 1 (ys.map enc))]:=ZB.mp (.lit (.ask (.req (.keep (.req (.req (.lit (.req (.keep (.req (.req (.lit (.lit (.nil)))))))))))) (.lit (.lit (.lit (.lit (.lit (.lit (.lit (.lit (.abs (Int×Int) (fun YY=>AV.pv (enc YY)) (.nil)))))))))))) h (by kernel_rfl)
theorem FT{G:PV->Prop}(E:Yv)(b:BoxT)(fs:List Fact)(p:List Mono)(h:MG YG E 0 (Za Y3 G) Y1 0 77 [(6,(.ptr 0 0)),(7,(.ptr 1 0)),(9,(.ptr 2 0)),(10,(.ptr 3 0)),(16,(.pv (.int .i64 0))),(17,(.pv (.int .i64 0))),(47,(.pv (.int .i64 0))),(48,(.pv (.int .i64 0)))] [(.obj (.box [(.pv (.int .i64 0))])),(.obj (.box [(.pv (.int .i64 0))])),(.obj (.box [(.pv (.sl 0 true []))])),(.obj (.box [(.pv (.sl 0 true []))]))]):KR YG E 0 (Za Y3 G) Y1 0 .normal ⟨ZR 77 0 [(5,.ptr 0 0),(6,.ptr 1 0),(7,.ptr 2 0),(9,.ptr 3 0),(10,.ptr 4 0),(11,.ptr 5 0)],[.obj (.box [.pv (enc p)]),.obj (.box [.pv (.int .i64 0)]),.obj (.box [.pv (.int .i64 0)]),.obj (.box [.pv (.sl 0 true [])]),.obj (.box [.pv (.sl 0 true [])]),.obj (.box [.fn 124 [] [.ptr 3 0,.ptr 4 0]])]⟩:=ZB.mp (.nil) h (by kernel_rfl)
theorem FW{G:PV->Prop}(E:Yv)(b:BoxT)(fs:List Fact)(p:List Mono)(n:Nat)(xs ys:List Int)(h:MG YG E 0 (Za Y3 G) Y1 0 77 [(6,(.ptr 0 0)),(7,(.ptr 1 0)),(9,(.ptr 2 0)),(10,(.ptr 3 0)),(16,(.pv (.int .i64 0))),(17,(.pv (.int .i64 0))),(47,(.pv (.int .i64 (↑(n - 0):Int)))),(48,(.pv (.int .i64 0)))] [(.obj (.box [(.pv (.int .i64 0))])),(.obj (.box [(.pv (.int .i64 0))])),(.obj (.box [(.row 4 n 0 n)])),(.obj (.box [(.row 5 n 0 n)])),(.obj (.row false 3 1 (List.map enc xs))),(.obj (.row false 3 1 (List.map enc ys)))]):KR YG E 0 (Za Y3 G) Y1 0 .normal ⟨ZR 77 0 [(5,.ptr 0 0),(6,.ptr 1 0),(7,.ptr 2 0),(9,.ptr 3 0),(10,.ptr 4 0),(11,.ptr 5 0)],[.obj (.box [.pv (enc p)]),.obj (.box [.pv (.int .i64 0)]),.obj (.box [.pv (.int .i64 0)]),.obj (.box [.row 6 n 0 n]),.obj (.box [.row 7 n 0 n]),.obj (.box [.fn 124 [] [.ptr 3 0,.ptr 4 0]]),.obj (.row false 3 1 (xs.map enc)),.obj (.row false 3 1 (ys.map enc))]⟩:=ZB.mp (.nil) h (by kernel_rfl)
theorem Me{G:PV->Prop}(E:Yv)(b:BoxT)(fs:List Fact)(p:List Mono)(h:G ((.tup [(.int .i64 0),(.int .i64 2)]))):KR YG E 0 (Za Y3 G) Y1 0 .ret ⟨ZR 77 0 [(5,.ptr 0 0),(6,.ptr 1 0),(7,.ptr 2 0),(9,.ptr 3 0),(10,.ptr 4 0),(11,.ptr 5 0)],[.obj (.box [.pv (enc p)]),.obj (.box [.pv (.int .i64 0)]),.obj (.box [.pv (.int .i64 2)]),.obj (.box [.pv (.sl 0 true [])]),.obj (.box [.pv (.sl 0 true [])]),.obj (.box [.fn 124 [] [.ptr 3 0,.ptr 4 0]]),.fresh,.fresh]⟩:=ZB.mp (.nil) h (by kernel_rfl)
theorem NJ{G:PV->Prop}(E:Yv)(b:BoxT)(fs:List Fact)(p:List Mono)(n:Nat)(xs ys:List Int)(h:G ((.tup [(.int .i64 0),(.int .i64 2)]))):KR YG E 0 (Za Y3 G) Y1 0 .ret ⟨ZR 77 0 [(5,.ptr 0 0),(6,.ptr 1 0),(7,.ptr 2 0),(9,.ptr 3 0),(10,.ptr 4 0),(11,.ptr 5 0)],[.obj (.box [.pv (enc p)]),.obj (.box [.pv (.int .i64 0)]),.obj (.box [.pv (.int .i64 2)]),.obj (.box [.row 6 n 0 n]),.obj (.box [.row 7 n 0 n]),.obj (.box [.fn 124 [] [.ptr 3 0,.ptr 4 0]]),.obj (.row false 3 1 (xs.map enc)),.obj (.row false 3 1 (ys.map enc)),.fresh,.fresh]⟩:=ZB.mp (.nil) h (by kernel_rfl)
def VZ:IC:=W4
def G3:ZE:=Y6 [(122,.pure (preT (fun x:List Mono×Unit=>Z8 x.1)) (Ze (fun x:List Mono×Unit=>ZG x.1))),(123,.own UN SQ),(116,.own V7 QH),(117,.own Y5 WD),(125,.pure (preT (fun x:List Mono×List Coef×Unit=>Z8 x.1&&Zn x.2.1)) (Ze (fun x:List Mono×List Coef×Unit=>YT x.1 x.2.1))),(124,.own Uc UP),(126,.pure (preT (fun x:List Int×List Int×Unit=>decide (x.1.length<=10000)&&decide (x.2.1.length<=10000))) (Ze (fun x:List Int×List Int×Unit=>Hy x.1 x.2.1)))]
theorem a4o{G:Zu->Prop}(E:Yv)(p:List Mono)(q:List Int)(vs:List Coef)(h:(Go.Pl.preT (fun(x:List Mono×List Coef×Unit)=>Z8 x.1&&Zn x.2.1) [(.sl 2 false (List.map enc p)),(.sl 2 false (List.map enc vs))])=true∧(∃ y0:Int×Int,AV.pv (Ze (fun(x:List Mono×List Coef×Unit)=>YT x.1 x.2.1) [(.sl 2 false (List.map enc p)),(.sl 2 false (List.map enc vs))])=AV.pv (enc y0)∧(if (y0.2 != 0)=true then G ([(.obj (.box [(.pv (.sl 2 false (List.map enc p)))])),(.obj (.box [(.pv (.int .i64 0))])),(.obj (.box [(.pv (.int .i64 2))])),(.obj (.box [(.pv (.sl 0 true []))])),(.obj (.box [(.pv (.sl 0 true []))])),(.obj (.box [(.fn 124 [] [(.ptr 3 0),(.ptr 4 0)])])),.fresh,.fresh])else(E 99 ⟨ZR 77 0 [],[(.obj (.box [(.pv (.sl 2 false (List.map enc p)))])),(.obj (.box [(.pv (.int .i64 0))])),(.obj (.box [(.pv (.int .i64 0))])),(.obj (.box [(.row 6 1 0 1)])),(.obj (.box [(.row 7 1 0 1)])),(.obj (.box [(.fn 124 [] [(.ptr 3 0),(.ptr 4 0)])])),(.obj (.row false 3 1 [(.int .i64 (Wo y0.1))])),(.obj (.row false 3 1 [(.int .i64 (XY y0.1))]))]⟩ (fun x S'=>KR G3 E 6 (fun st=>G st.heap) VZ 99 x S'))))):ZB G3 E 6 (fun st=>G st.heap) (.inl VZ) [.seq (.ext 99 [])] ⟨ZR 77 0 [(5,.ptr 0 0),(6,.ptr 1 0),(7,.ptr 2 0),(9,.ptr 3 0),(10,.ptr 4 0),(11,.ptr 5 0),(13,.pv (enc vs)),(33,.pv (enc q)),(34,.pv (enc vs))],[.obj (.box [.pv (enc p)]),.obj (.box [.pv (.int .i64 0)]),.obj (.box [.pv (.int .i64 0)]),.obj (.box [.pv (.sl 0 true [])]),.obj (.box [.pv (.sl 0 true [])]),.obj (.box [.fn 124 [] [.ptr 3 0,.ptr 4 0]])]⟩:=ZB.mh (.req (.abs (Int×Int) (fun YY=>AV.pv (enc YY)) (.lit (.ask (.nil) (.lit (.keep (.nil))))))) h (by kernel_rfl)
theorem a5w{G:Zu->Prop}(E:Yv)(p:List Mono)(q:List Int)(vs:List Coef)(n:Nat)(xs ys:List Int)(h:(Go.Pl.preT (fun(x:List Mono×List Coef×Unit)=>Z8 x.1&&Zn x.2.1) [(.sl 2 false (List.map enc p)),(.sl 2 false (List.map enc vs))])=true∧(∃ y0:Int×Int,AV.pv (Ze (fun(x:List Mono×List Coef×Unit)=>YT x.1 x.2.1) [(.sl 2 false (List.map enc p)),(.sl 2 false (List.map enc vs))])=AV.pv (enc y0)∧(if (y0.2 != 0)=true then G ([(.obj (.box [(.pv (.sl 2 false (List.map enc p)))])),(.obj (.box [(.pv (.int .i64 0))])),(.obj (.box [(.pv (.int .i64 2))])),(.obj (.box [(.row 6 n 0 n)])),(.obj (.box [(.row 7 n 0 n)])),(.obj (.box [(.fn 124 [] [(.ptr 3 0),(.ptr 4 0)])])),(.obj (.row false 3 1 (List.map enc xs))),(.obj (.row false 3 1 (List.map enc ys))),.fresh,.fresh])else((Uc [(.pv (.int .i64 y0.1)),(.ptr 0 0),(.ptr 1 0)] [(.box [(.row 2 n 0 n)]),(.box [(.row 3 n 0 n)]),(.row false 3 1 (List.map enc xs)),(.row false 3 1 (List.map enc ys))])=true∧(E 99 ⟨ZR 77 0 [],[(.obj (.box [(.pv (.sl 2 false (List.map enc p)))])),(.obj (.box [(.pv (.int .i64 0))])),(.obj (.box [(.pv (.int .i64 0))])),(.obj (.box [(.row 6 (n+1) 0 (n+1))])),(.obj (.box [(.row 7 (n+1) 0 (n+1))])),(.obj (.box [(.fn 124 [] [(.ptr 3 0),(.ptr 4 0)])])),(.obj (.row false 3 1 (List.map enc xs++[PV.int .i64 (Wo y0.1)]))),(.obj (.row false 3 1 (List.map enc ys++[PV.int .i64 (XY y0.1)])))]⟩ (fun x S'=>KR G3 E 8 (fun st=>G st.heap) VZ 99 x S')))))):ZB G3 E 8 (fun st=>G st.heap) (.inl VZ) [.seq (.ext 99 [])] ⟨ZR 77 0 [(5,.ptr 0 0),(6,.ptr 1 0),(7,.ptr 2 0),(9,.ptr 3 0),(10,.ptr 4 0),(11,.ptr 5 0),(13,.pv (enc vs)),(33,.pv (enc q)),(34,.pv (enc vs))],[.obj (.box [.pv (enc p)]),.obj (.box [.pv (.int .i64 0)]),.obj (.box [.pv (.int .i64 0)]),.obj (.box [.row 6 n 0 n]),.obj (.box [.row 7 n 0 n]),.obj (.box [.fn 124 [] [.ptr 3 0,.ptr 4 0]]),.obj (.row false 3 1 (xs.map enc)),.obj (.row false 3 1 (ys.map enc))]⟩:=ZB.mh (.req (.abs (Int×Int) (fun YY=>AV.pv (enc YY)) (.lit (.ask (.nil) (.req (.keep (.nil))))))) h (by kernel_rfl)
end Go.Pl

namespace Go.Pl
open Go.RowKit
open Enc (enc dec is)
open EncL (encL decL isL)
theorem Jk{a b:Int}: ∀ {l:List Int},(∀ x∈l,a<=x∧x<=b)->l.length*a<=l.sum∧l.sum<=l.length*b
 | [],_=>by simp
 | x::l,h=>by
  have h1:=h x (by simp)
  have h2:=Jk (l:=l) fun y hy=>h y (by simp[hy])
  rw[List.length_cons,List.sum_cons,Int.natCast_add,Int.add_mul,Int.add_mul]
  simp only[Int.natCast_one,Int.one_mul]
  omega
theorem b4h(n:Int):Wo n*2147483648+XY n=n:=by unfold Wo XY;omega
theorem a5n{n:Int}(h:UI n=true): -2147483648<=Wo n∧Wo n<=2147483648:=by
 unfold UI at h
 simp only[Bool.and_eq_true,decide_eq_true_eq]at h
 unfold Wo;omega
theorem Ek(n:Int):0<=XY n∧XY n<=2147483647:=by unfold XY;omega
theorem D6: ∀ l:List Int,(l.map Wo).sum*2147483648+(l.map XY).sum=l.sum
 | []=>rfl
 | n::l=>by
  have h1:=b4h n
  have h2:=D6 l
  simp only[List.map_cons,List.sum_cons,Int.add_mul]
  omega
theorem CH{l:List Int}(hl:l.length<=20000)(hr : ∀ x∈l,UI x=true){H L:Int}(hH:H=(l.map Wo).sum+(l.map XY).sum / 2147483648)(hL:L=(l.map XY).sum % 2147483648):
  Hy [H,L] [2147483648,1]=Vn l:=by
 have h1:=Jk (l:=l.map Wo) (a:= -2147483648) (b:=2147483648) (by
  intro x hx
  obtain⟨n,hn,rfl⟩:=List.mem_map.1 hx
  exact a5n (hr n hn))
 have h2:=Jk (l:=l.map XY) (a:=0) (b:=2147483647) (by
  intro x hx
  obtain⟨n,hn,rfl⟩:=List.mem_map.1 hx
  exact Ek n)
 have h3:=D6 l
 rw[List.length_map]at h1 h2
 have hd:Np [H,L] [2147483648,1]=l.sum:=by
  show H*2147483648+(L*1+0)=_
  omega
 have ha:l.all UI=true:=List.all_eq_true.2 hr
 have e1:UI H=true:=by
  unfold UI
  rw[decide_eq_true (by omega),decide_eq_true (by omega)];rfl
 have e2:UI L=true:=by
  unfold UI
  rw[decide_eq_true (by omega),decide_eq_true (by omega)];rfl
 unfold Hy Vn
 rw[hd,ha,if_pos (by rfl)]
 have:(List.all [H,L] UI&&List.all [(2147483648:Int),1] UI)=true:=by
  simp only[List.all_cons,List.all_nil,Bool.and_true,e1,e2,Bool.and_eq_true]
  decide
 rw[this]
theorem a8a{l:List Int}:UI (Vn l).1=true:=by
 unfold Vn
 split
 ·rename_i h
  simp only[Bool.and_eq_true]at h
  exact h.2
 ·decide
theorem a5q(p:List Mono)(vs:List Coef):UI (YT p vs).1=true:=by
 unfold YT
 split
 ·split
  ·decide
  ·split
   ·decide
   ·split
    ·decide
    ·exact a8a
 ·decide
theorem Qo{p:List Mono}{vs:List Str}: ∀ {qs:List (List Int)} {l:List Int},VT p vs qs=some l->l.length=qs.length
 | [],_,h=>by cases h;rfl
 | q::r,l,h=>by
  rw[VT]at h
  split at h
  ·cases h
  ·obtain⟨m,hm,rfl⟩:=Option.map_eq_some_iff.1 h
   simp[Qo hm]
theorem Cm{p:List Mono}{vs:List Str}: ∀ {qs:List (List Int)} {l:List Int},VT p vs qs=some l-> ∀ x∈l,UI x=true
 | [],_,h=>by cases h;simp
 | q::r,l,h=>by
  rw[VT]at h
  split at h
  ·cases h
  ·obtain⟨m,hm,rfl⟩:=Option.map_eq_some_iff.1 h
   intro x hx
   rcases List.mem_cons.1 hx with rfl|hx
   ·exact a5q _ _
   ·exact Cm hm x hx
theorem UH{p:List Mono}{vs:List Str}{q:List Int}(hq:(YT p (Zf vs q)).2=0): ∀ {qs:List (List Int)} {l:List Int},VT p vs qs=some l->VT p vs (qs++[q])=some (l++[(YT p (Zf vs q)).1])
 | [],_,h=>by cases h;rw[List.nil_append,VT,if_neg (by simp[hq])];rfl
 | q'::r,l,h=>by
  rw[VT]at h
  split at h
  ·cases h
  ·rename_i h2
   obtain⟨m,hm,rfl⟩:=Option.map_eq_some_iff.1 h
   rw[List.cons_append,VT,if_neg h2,UH hq hm];rfl
theorem DD{p:List Mono}{vs:List Str}{q:List Int}(hq:(YT p (Zf vs q)).2≠0){r:List (List Int)}: ∀ (qs:List (List Int)),VT p vs (qs++q::r)=none
 | []=>by rw[List.nil_append,VT,if_pos hq]
 | q'::qs=>by
  rw[List.cons_append,VT,DD hq qs]
  split <;> rfl
section
variable {α:Type} [Inhabited α] [DecidableEq α]
theorem So{d:Array α}{x:α}: ∀ {m:Nat},m<=d.size->x∈Lib.compactUpTo d m-> ∃ j,j<m∧x=d[j]!
 | 0,_,h=>by simp[Lib.compactUpTo]at h
 | m+1,hm,h=>by
  rw[Lib.compactUpTo_succ,List.mem_append]at h
  rcases h with h|h
  ·obtain⟨j,h1,h2⟩:=So (by omega) h;exact⟨j,by omega,h2⟩
  ·split at h
   ·exact⟨m,by omega,by simpa using h⟩
   ·simp at h
theorem SM{d:Array α}: ∀ {m:Nat},m<=d.size-> ∀ j,j<m->d[j]! ∈ Lib.compactUpTo d m
 | 0,_,j,h=>by omega
 | m+1,hm,j,h=>by
  rw[Lib.compactUpTo_succ,List.mem_append]
  by_cases hj:j<m
  ·exact .inl (SM (by omega) j hj)
  ·have:j=m:=by omega
   subst this
   cases hk:Lib.keeps d j
   ·refine .inl ?_
    have h0:j≠0∧d[j]! = d[j - 1]! :=by
     unfold Lib.keeps at hk
     simpa [not_or]using hk
    rw[h0.2]
    exact SM (by omega) (j - 1) (by omega)
   ·right;simp
theorem Rw{zs:List α}{x:α}:x∈Lib.compact zs ↔ x∈zs:=by
 unfold Lib.compact
 constructor
 ·intro h
  obtain⟨j,h1,rfl⟩:=So (by simp) h
  simp[getElem!_pos,h1]
 ·intro h
  obtain⟨j,hj,rfl⟩:=List.getElem_of_mem h
  have:=SM (d:=zs.toArray) (m:=zs.length) (by simp) j hj
  simpa [getElem!_pos,hj]using this
end
theorem LH{d:Array (List UInt8)}(hs : ∀ i j,i<j->j<d.size->d[i]! <= d[j]!): ∀ {m:Nat},m<=d.size->(Lib.compactUpTo d m).Pairwise (· < ·)
 | 0,_=>by simp[Lib.compactUpTo]
 | m+1,hm=>by
  rw[Lib.compactUpTo_succ,List.pairwise_append]
  refine⟨LH hs (by omega),by split <;> simp,?_⟩
  intro x hx y hy
  split at hy
  ·rename_i hk
   have hy:y=d[m]! :=by simpa using hy
   subst hy
   obtain⟨j,hj,rfl⟩:=So (by omega) hx
   have h0:m≠0:=by omega
   have hne:d[m]! ≠ d[m - 1]! :=by
    unfold Lib.keeps at hk
    simpa [h0]using hk
   have h1:d[m - 1]! <= d[m]! :=hs _ _ (by omega) (by omega)
   have h2:d[j]! <= d[m - 1]! :=by
    by_cases e:j=m - 1
    ·rw[e];exact List.le_refl _
    ·exact hs _ _ (by omega) (by omega)
   have h3:d[m - 1]! < d[m]! :=by
    rcases List.le_iff_lt_or_eq.1 h1 with h|h
    ·exact h
    ·exact absurd h.symm hne
   exact Std.lt_of_le_of_lt h2 h3
  ·simp at hy
theorem EB(ss:List (List UInt8)):(Wn ss).Pairwise (· <= ·):=by
 have:=List.pairwise_mergeSort (le:=fun x y:List UInt8=>decide (x<=y)) (fun a b c h1 h2=>by
  simp only[decide_eq_true_eq]at *;exact List.le_trans h1 h2) (fun a b=>by
  simp only[Bool.or_eq_true,decide_eq_true_eq];exact List.le_total a b) ss
 exact this.imp fun h=>by simpa using h
theorem Ez(ss:List (List UInt8)):(Lib.compact (Wn ss)).Pairwise (· < ·):=by
 unfold Lib.compact
 refine LH ?_ (by simp)
 intro i j hij hj
 have hj:j<(Wn ss).length:=by simpa using hj
 have:=List.pairwise_iff_getElem.1 (EB ss) i j (by omega) hj hij
 simpa [getElem!_pos,hj,show i<(Wn ss).length by omega]using this
theorem Ac(p:List Mono)(x:Str):x∈Yt p ↔ x∈XG p:=by
 unfold Yt
 rw[List.mem_map]
 constructor
 ·rintro⟨s,hs,rfl⟩
  have:=(List.mergeSort_perm _ _).mem_iff.1 (Rw.1 hs)
  obtain⟨y,hy,e⟩:=List.mem_map.1 this
  cases y;cases e;exact hy
 ·intro h
  exact⟨x.s,Rw.2 ((List.mergeSort_perm _ _).mem_iff.2 (List.mem_map.2 ⟨x,h,rfl⟩)),rfl⟩
theorem FR(p:List Mono):(Yt p).Pairwise fun x y:Str=>x.s<y.s:=by
 unfold Yt Xh
 rw[List.pairwise_map]
 exact Ez _
theorem Cj{s x:Str}: ∀ {l:List Str},x∈J0 l s ↔ x=s∨x∈l
 | []=>by simp[J0]
 | t::r=>by
  rw[J0]
  split
  ·rw[List.mem_cons,Cj,List.mem_cons]
   constructor
   ·rintro(h|h|h) <;> simp[h]
   ·rintro(h|h|h) <;> simp[h]
  ·split
   ·rename_i h;subst h
    simp
   ·simp
theorem TY{s:Str}: ∀ {l:List Str},(l.Pairwise fun x y:Str=>x.s<y.s)->(J0 l s).Pairwise fun x y:Str=>x.s<y.s
 | [],_=>by simp[J0]
 | t::r,h=>by
  have ht:=List.pairwise_cons.1 h
  rw[J0]
  split
  ·rename_i h1
   refine List.pairwise_cons.2 ⟨fun y hy=> ?_,TY ht.2⟩
   rcases Cj.1 hy with rfl|hy
   ·exact h1
   ·exact ht.1 y hy
  ·split
   ·exact h
   ·rename_i h1 h2
    have h3:s.s<t.s:=by
     rcases List.le_iff_lt_or_eq.1 (List.not_lt.1 h1)with h|h
     ·exact h
     ·exact absurd (by cases s;cases t;simpa using h.symm) h2
    refine List.pairwise_cons.2 ⟨fun y hy=> ?_,h⟩
    rcases List.mem_cons.1 hy with rfl|hy
    ·exact h3
    ·exact List.lt_trans h3 (ht.1 y hy)
theorem Ru: ∀ (l o:List Str),(o.Pairwise fun x y:Str=>x.s<y.s)->((l.foldl J0 o).Pairwise fun x y:Str=>x.s<y.s)∧ ∀ x,x∈l.foldl J0 o ↔ x∈l∨x∈o
 | [],o,h=>⟨h,by simp⟩
 | s::l,o,h=>by
  obtain⟨h1,h2⟩:=Ru l (J0 o s) (TY h)
  refine⟨h1,fun x=> ?_⟩
  show x∈l.foldl J0 (J0 o s) ↔ _
  rw[h2,Cj,List.mem_cons]
  constructor
  ·rintro(h|h|h) <;> simp[h]
  ·rintro((h|h)|h) <;> simp[h]
theorem M5: ∀ {a b:List Str},(a.Pairwise fun x y:Str=>x.s<y.s)->(b.Pairwise fun x y:Str=>x.s<y.s)->(∀ x,x∈a ↔ x∈b)->a=b
 | [],[],_,_,_=>rfl
 | [],y::b,_,_,h=>absurd ((h y).2 (by simp)) (by simp)
 | x::a,[],_,_,h=>absurd ((h x).1 (by simp)) (by simp)
 | x::a,y::b,ha,hb,h=>by
  have ha':=List.pairwise_cons.1 ha
  have hb':=List.pairwise_cons.1 hb
  have e:x=y:=by
   rcases List.mem_cons.1 ((h x).1 (by simp))with e|h1
   ·exact e
   ·rcases List.mem_cons.1 ((h y).2 (by simp))with e|h2
    ·exact e.symm
    ·exact absurd (List.lt_trans (hb'.1 x h1) (ha'.1 y h2)) (List.lt_irrefl _)
  subst e
  rw[M5 ha'.2 hb'.2 fun z=> ?_]
  constructor
  ·intro hz
   rcases List.mem_cons.1 ((h z).1 (by simp[hz]))with e|h1
   ·subst e;exact absurd (ha'.1 z hz) (List.lt_irrefl _)
   ·exact h1
  ·intro hz
   rcases List.mem_cons.1 ((h z).2 (by simp[hz]))with e|h1
   ·subst e;exact absurd (hb'.1 z hz) (List.lt_irrefl _)
   ·exact h1
theorem As(p:List Mono):Yt p=(XG p).foldl J0 []:=by
 obtain⟨h1,h2⟩:=Ru (XG p) [] .nil
 exact M5 (FR p) h1 fun x=>by rw[Ac,h2];simp
theorem OK{p:List Mono}(h:(XG p).isEmpty=true):Yt p=[]:=by
 rw[As,List.isEmpty_iff.1 h];rfl
theorem a1v{p:List Mono}(h:(XG p).isEmpty=false):(Yt p).isEmpty=false:=by
 rw[List.isEmpty_eq_false_iff]at h ⊢
 intro e
 obtain⟨x,hx⟩:=List.exists_mem_of_ne_nil _ h
 have:=(Ac p x).2 hx
 rw[e]at this;cases this
theorem F1(p:List Mono):(Yt p).length<=(XG p).length:=by
 unfold Yt
 rw[List.length_map]
 refine Nat.le_trans (JR _) ?_
 unfold Xh Wn
 rw[(List.mergeSort_perm _ _).length_eq,List.length_map];exact Nat.le_refl _
end Go.Pl

namespace Go.Pl
open Go.RowKit
open Enc (enc dec is)
open EncL (encL decL isL)
theorem b0j(n:Int):Int.fdiv n (2 ^ min (Int.toNat 31) (IntKind.bits .i64))=Wo n:=by
 show Int.fdiv n 2147483648=n / 2147483648
 exact Int.fdiv_eq_ediv_of_nonneg n (by decide)
theorem Mx(n:Int):IntKind.i64.wrap ((BitVec.toNat (BitVec.ofInt (IntKind.bits .i64) n &&& BitVec.ofInt (IntKind.bits .i64) 2147483647):Nat):Int)=XY n:=by
 have e:BitVec.toNat (BitVec.ofInt (IntKind.bits .i64) n &&& BitVec.ofInt (IntKind.bits .i64) 2147483647)=(n % 2147483648).toNat:=by
  rw[BitVec.toNat_and]
  have e2:(BitVec.ofInt (IntKind.bits .i64) 2147483647).toNat=2 ^ 31 - 1:=rfl
  rw[e2,Nat.and_two_pow_sub_one_eq_mod,BitVec.toNat_ofInt]
  show(n % 18446744073709551616).toNat % 2147483648=_
  omega
 rw[e,U4 (by omega) (by omega)]
 unfold XY
 omega
theorem a7n: ∀ args os,Uc args os=true->Zc AU os.length (Zo os.length GY fun r=>r=UP args os) GR [] (YD a9d args os):=by
 intro args os h
 unfold Uc at h
 split at h
 ·rename_i n
  apply b5e (G:=fun r=>r=UP _ _) n
  rw[b0j,Mx]
  rfl
 ·rename_i n q q' r r' ty xs ty' ys
  simp only[Bool.and_eq_true,beq_iff_eq,decide_eq_true_eq]at h
  obtain⟨⟨⟨⟨⟨⟨⟨h1,h2⟩,h3⟩,h4⟩,h5⟩,h6⟩,h7⟩,h8⟩:=h
  subst h1 h2 h3 h4 h5
  apply b6s (G:=fun r=>r=UP _ _) n r' xs ys
  rw[b0j,Mx,h6,h7]
  have hd:((r'==r')&&(r'==r')&&decide ((r'+1)*8<=1099511627776)&&decide (r'+1<=1099511627776))=true:=by
   rw[decide_eq_true (by omega),decide_eq_true (by omega)];simp
  exact⟨hd,hd,rfl⟩
 ·cases h
def hN(p:List Mono):Zu:=[.obj (.box [.pv (enc p)]),.obj (.box [.pv (.int .i64 0)]),.obj (.box [.pv (.int .i64 0)]),.obj (.box [.pv (.sl 0 true [])]),.obj (.box [.pv (.sl 0 true [])]),.obj (.box [.fn 124 [] [.ptr 3 0,.ptr 4 0]])]
def hR(p:List Mono)(n:Nat)(xs ys:List Int):Zu:=[.obj (.box [.pv (enc p)]),.obj (.box [.pv (.int .i64 0)]),.obj (.box [.pv (.int .i64 0)]),.obj (.box [.row 6 n 0 n]),.obj (.box [.row 7 n 0 n]),.obj (.box [.fn 124 [] [.ptr 3 0,.ptr 4 0]]),.obj (.row false 3 1 (xs.map enc)),.obj (.row false 3 1 (ys.map enc))]
def hNX(p:List Mono):Zu:=[.obj (.box [.pv (enc p)]),.obj (.box [.pv (.int .i64 0)]),.obj (.box [.pv (.int .i64 2)]),.obj (.box [.pv (.sl 0 true [])]),.obj (.box [.pv (.sl 0 true [])]),.obj (.box [.fn 124 [] [.ptr 3 0,.ptr 4 0]]),.fresh,.fresh]
def hRX(p:List Mono)(n:Nat)(xs ys:List Int):Zu:=[.obj (.box [.pv (enc p)]),.obj (.box [.pv (.int .i64 0)]),.obj (.box [.pv (.int .i64 2)]),.obj (.box [.row 6 n 0 n]),.obj (.box [.row 7 n 0 n]),.obj (.box [.fn 124 [] [.ptr 3 0,.ptr 4 0]]),.obj (.row false 3 1 (xs.map enc)),.obj (.row false 3 1 (ys.map enc)),.fresh,.fresh]
def gsI(b:BoxT)(fs:List Fact)(p:List Mono)(k:Nat)(σ:Zu):Prop:=
 ∃ l,VT p b.v ((ZP b fs).take k)=some l∧((k=0∧σ=hN p)∨(0<k∧k<=(ZP b fs).length∧σ=hR p k (l.map Wo) (l.map XY)))
def gsX(b:BoxT)(fs:List Fact)(p:List Mono)(σ:Zu):Prop:=VT p b.v (ZP b fs)=none∧(σ=hNX p ∨ ∃ n xs ys,σ=hRX p n xs ys)
theorem SN{b:BoxT}{fs:List Fact}(hv:YC b=true):(ZP b fs).length<=20000:=by
 unfold ZP
 refine Nat.le_trans (List.length_filter_le _ _) ?_
 rw[VG hv,Hd]
 exact GV hv
theorem He{b:BoxT}{fs:List Fact}{p:List Mono}{k:Nat}{q:List Int}(hq:(ZP b fs)[k]? = some q)(h:(YT p (Zf b.v q)).2≠0):VT p b.v (ZP b fs)=none:=by
 have hk:=(List.getElem?_eq_some_iff.1 hq).1
 have hkp:=(List.getElem?_eq_some_iff.1 hq).2
 have e:ZP b fs=(ZP b fs).take k++q::(ZP b fs).drop (k+1):=by
  rw[<- hkp,<- List.drop_eq_getElem_cons hk,List.take_append_drop]
 rw[e]
 exact DD h _
def WY:Yv:=fun n st q=>n=0∧Hq YH 0 (.t 32) 177 [33,34] [(13,34)] W4 QU UM Gm st q
theorem OP(b:BoxT)(fs:List Fact)(p:List Mono)(hp:Z8 p=true)(hv:YC b=true)(hb:b.v.length<=1000)(k:Nat)(q:List Int)(σ:Zu)(hq:(ZP b fs)[k]? = some q)(h:gsI b fs p k σ):
  ZB YH (fun n S' _=>n=99∧gsI b fs p (k+1) S'.heap) σ.length (fun st=>gsX b fs p st.heap) (.inl W4) [.seq (.ext 99 [])]
   ⟨ZR 77 0 [(5,.ptr 0 0),(6,.ptr 1 0),(7,.ptr 2 0),(9,.ptr 3 0),(10,.ptr 4 0),(11,.ptr 5 0),(13,.pv (enc (Zf b.v q))),(33,.pv (enc q)),(34,.pv (enc (Zf b.v q)))],σ⟩:=by
 have hk:=(List.getElem?_eq_some_iff.1 hq).1
 have hkp:=(List.getElem?_eq_some_iff.1 hq).2
 have h20:=SN (fs:=fs) hv
 have ht:(ZP b fs).take (k+1)=(ZP b fs).take k++[q]:=by rw[List.take_succ_eq_append_getElem hk,hkp]
 have hvl:(Zf b.v q).length<=9223372036854775807:=by unfold Zf;rw[List.length_zipWith];omega
 have hpre:preT (fun x:List Mono×List Coef×Unit=>Z8 x.1&&Zn x.2.1) (encL (p,Zf b.v q,()))=true:=Zj (p,Zf b.v q,()) rfl (by rw[hp,Zx.2 hvl];rfl)
 obtain⟨l,hl,hσ⟩:=h
 have hlen:=Qo hl
 rw[List.length_take]at hlen
 rcases hσ with ⟨rfl,rfl⟩|⟨h0,h1,rfl⟩
 ·apply Ed (G:=gsX b fs p) (fun n S' _=>n=99∧gsI b fs p (0+1) S'.heap) p q (Zf b.v q)
  refine⟨hpre,Zh (p,Zf b.v q,()) rfl ?_⟩
  refine XU (fun he=> ?_) fun he=> ?_
  ·have he:(YT p (Zf b.v q)).2≠0:=by simpa using he
   exact⟨He hq he,.inl rfl⟩
  ·have he:(YT p (Zf b.v q)).2=0:=by simpa using he
   have hs:=UH he hl
   rw[<- ht]at hs
   have hnil:l=[]:=List.length_eq_zero_iff.1 (by omega)
   subst hnil
   exact⟨rfl,_,hs,.inr ⟨by omega,by omega,rfl⟩⟩
 ·have hlk:l.length=k:=by omega
  apply Eg (G:=gsX b fs p) (fun n S' _=>n=99∧gsI b fs p (k+1) S'.heap) p q (Zf b.v q) k (l.map Wo) (l.map XY)
  refine⟨hpre,Zh (p,Zf b.v q,()) rfl ?_⟩
  refine XU (fun he=> ?_) fun he=> ?_
  ·have he:(YT p (Zf b.v q)).2≠0:=by simpa using he
   exact⟨He hq he,.inr ⟨k,_,_,rfl⟩⟩
  ·have he:(YT p (Zf b.v q)).2=0:=by simpa using he
   have hs:=UH he hl
   rw[<- ht]at hs
   refine⟨?_,rfl,_,hs,.inr ⟨by omega,by omega,?_⟩⟩
   ·show(k==k&&k==k&&k==k&&3==3&&3==3&&((l.map Wo).map (enc:Int->PV)).length==k&&((l.map XY).map (enc:Int->PV)).length==k&&decide (k<=1000000))=true
    rw[List.length_map,List.length_map,List.length_map,List.length_map,hlk,decide_eq_true (by omega)];simp
   ·unfold hR
    rw[List.map_append,List.map_append,List.map_append,List.map_append]
    rfl
theorem Ex(b:BoxT)(fs:List Fact)(p:List Mono)(l:List Int)(hl:l.length<=20000)(hr : ∀ x∈l,UI x=true)(R:Int×Int)(hR:R=Vn l): ∀ (d i:Nat),d+i=l.length ->
  MG YH WY 0 (Za Y0 (Zg R)) YM 0 77 [(6,.ptr 0 0),(7,.ptr 1 0),(9,.ptr 2 0),(10,.ptr 3 0),(16,.pv (.int .i64 ((l.map Wo).take i).sum)),(17,.pv (.int .i64 ((l.map XY).take i).sum)),(47,.pv (.int .i64 l.length)),(48,.pv (.int .i64 i))]
   [.obj (.box [.pv (.int .i64 0)]),.obj (.box [.pv (.int .i64 0)]),.obj (.box [.row 4 l.length 0 l.length]),.obj (.box [.row 5 l.length 0 l.length]),.obj (.row false 3 1 ((l.map Wo).map enc)),.obj (.row false 3 1 ((l.map XY).map enc))]:=by
 have hb1 : ∀ i,((l.map Wo).take i).length*(-2147483648:Int)<=((l.map Wo).take i).sum∧((l.map Wo).take i).sum<=((l.map Wo).take i).length*(2147483648:Int):=fun i=>Jk (by
  intro x hx
  obtain⟨n,hn,rfl⟩:=List.mem_map.1 (List.mem_of_mem_take hx)
  exact a5n (hr n hn))
 have hb2 : ∀ i,((l.map XY).take i).length*(0:Int)<=((l.map XY).take i).sum∧((l.map XY).take i).sum<=((l.map XY).take i).length*(2147483647:Int):=fun i=>Jk (by
  intro x hx
  obtain⟨n,hn,rfl⟩:=List.mem_map.1 (List.mem_of_mem_take hx)
  exact Ek n)
 have hc1 : ∀ i,((l.map Wo).take i).length<=20000:=fun i=>by rw[List.length_take,List.length_map];omega
 have hc2 : ∀ i,((l.map XY).take i).length<=20000:=fun i=>by rw[List.length_take,List.length_map];omega
 intro d
 induction d with
 | zero=>
  intro i hi
  apply BG (G:=Zg R) WY b fs p
  refine ZI (ZY (by omega)) ?_
  have e1:(l.map Wo).take i=l.map Wo:=List.take_of_length_le (by rw[List.length_map];omega)
  have e2:(l.map XY).take i=l.map XY:=List.take_of_length_le (by rw[List.length_map];omega)
  have a1:=hb1 i
  have a2:=hb2 i
  have a3:=hc1 i
  have a4:=hc2 i
  rw[e1]at a1 a3
  rw[e2]at a2 a4
  rw[e1,e2,b0j,Mx]
  have hh:Wo (l.map XY).sum=(l.map XY).sum / 2147483648:=rfl
  have hw:IntKind.i64.wrap ((l.map Wo).sum+Wo (l.map XY).sum)=(l.map Wo).sum+Wo (l.map XY).sum:=U4 (by rw[hh];omega) (by rw[hh];omega)
  rw[hw]
  refine Zh ([(l.map Wo).sum+Wo (l.map XY).sum,XY (l.map XY).sum],[2147483648,1],()) rfl ?_
  rw[hR,<- CH hl hr (H:=(l.map Wo).sum+Wo (l.map XY).sum) (L:=XY (l.map XY).sum) rfl rfl]
  exact ZO rfl
 | succ d ih=>
  intro i hi
  have hlt:i<l.length:=by omega
  have hl1:i<(l.map Wo).length:=by rw[List.length_map];omega
  have hl2:i<(l.map XY).length:=by rw[List.length_map];omega
  apply BG (G:=Zg R) WY b fs p
  apply ZC (ZU hlt)
  rw[Ql hl1,Ql hl2]
  refine⟨by simp;omega,by simp;omega,rfl,by simp;omega,by simp;omega,rfl,?_⟩
  rw[next (by omega)]
  show MG YH _ _ _ _ _ _ [_,_,_,_,(16,.pv (.int .i64 (IntKind.i64.wrap (((l.map Wo).take i).sum+(l.map Wo)[i])))),(17,.pv (.int .i64 (IntKind.i64.wrap (((l.map XY).take i).sum+(l.map XY)[i])))),_,_] _
  have s1:((l.map Wo).take i).sum+(l.map Wo)[i]=((l.map Wo).take (i+1)).sum:=by rw[List.take_succ_eq_append_getElem hl1,List.sum_append];simp
  have s2:((l.map XY).take i).sum+(l.map XY)[i]=((l.map XY).take (i+1)).sum:=by rw[List.take_succ_eq_append_getElem hl2,List.sum_append];simp
  have a1:=hb1 (i+1)
  have a2:=hb2 (i+1)
  have a3:=hc1 (i+1)
  have a4:=hc2 (i+1)
  rw[s1,s2,U4 (by omega) (by omega),U4 (by omega) (by omega)]
  exact ih (i+1) (by omega)
theorem Fj: ∀ x:BoxT×List Fact×List Mono×Unit,(JA x.1 x.2.1 x.2.2.1&&(!ZG x.2.2.1||(XG x.2.2.1).isEmpty))=true->QT YH WY 0 (Za Y0 (Zg (Wq x.1 x.2.1 x.2.2.1))) YM [] (Z5 a2n (encL x)):=by
 rintro⟨b,fs,p,⟨⟩⟩ hp
 simp only[JA,Bool.and_eq_true,decide_eq_true_eq]at hp
 obtain⟨⟨⟨⟨⟨h1,h2⟩,h3⟩,h4⟩,h5⟩,h6⟩:=hp
 have key:Zq b fs (ZG p) (Yt p)=0->WY 0 ⟨ZR 77 0 [(5,.ptr 0 0),(6,.ptr 1 0),(7,.ptr 2 0),(9,.ptr 3 0),(10,.ptr 4 0),(11,.ptr 5 0),(13,.undef),(14,.undef),(15,.undef),(32,(.fn 177 [] [(.ptr 6 0),(.ptr 7 0)])),(34,.undef),(35,.undef),(36,.undef),(37,.undef),(38,.undef),(39,.undef),(40,.undef),(41,.undef),(42,.undef),(43,.undef),(44,.undef)],
   hN p++[(.obj (.box [(.pv (.sl 1 false (List.map enc b.v))),(.pv (.int .i64 b.m))])),(.obj (.box [(.pv (.sl 3 false (List.map enc fs)))]))]⟩ (fun x S'=>KR YH WY 0 (Za Y0 (Zg (Wq b fs p))) YM 0 x S'):=by
  intro h0
  obtain⟨hv,_⟩:=VX _ _ _ _ h0
  have h20:=SN (fs:=fs) hv
  refine⟨rfl,[6,7],[[enc b.v,.int .i64 b.m],[enc fs]],[5,6,7,9,10,11],[],⟨ZR 77 0 [(5,.ptr 0 0),(6,.ptr 1 0),(7,.ptr 2 0),(9,.ptr 3 0),(10,.ptr 4 0),(11,.ptr 5 0)],hN p⟩,gsI b fs p,gsX b fs p,rfl,by simp,rfl,?_,by kernel_rfl,DL hv h2 h4,⟨[],rfl,.inl ⟨rfl,rfl⟩⟩,?_,?_,?_⟩
  ·intro j l' ps hl hps
   match j with
   | 0=>cases hl;cases hps;rfl
   | 1=>cases hl;cases hps;rfl
   | j+2=>simp at hl
  ·intro k x σ hx hI
   rw[C8,List.getElem?_map]at hx
   obtain⟨q,hq,rfl⟩:=Option.map_eq_some_iff.1 hx
   have e:CV [(13,34)] (GB [33,34] ((QU (q,Zf b.v q)).map .pv) (ZR 77 0 [(5,.ptr 0 0),(6,.ptr 1 0),(7,.ptr 2 0),(9,.ptr 3 0),(10,.ptr 4 0),(11,.ptr 5 0)]))=ZR 77 0 [(5,.ptr 0 0),(6,.ptr 1 0),(7,.ptr 2 0),(9,.ptr 3 0),(10,.ptr 4 0),(11,.ptr 5 0),(13,.pv (enc (Zf b.v q))),(33,.pv (enc q)),(34,.pv (enc (Zf b.v q)))]:=by kernel_rfl
   have:=OP b fs p h5 hv h4 k q σ hq hI
   rw[<- e]at this
   exact this
  ·intro σ hI
   rw[C8,List.length_map]at hI
   obtain⟨l,hl,hσ⟩:=hI
   rw[List.take_length]at hl
   have hT:Wq b fs p=Vn l:=by unfold Wq;rw[if_pos h0,hl]
   have hlen:=Qo hl
   rcases hσ with ⟨e0,rfl⟩|⟨_,_,rfl⟩
   ·refine Fo (G:=Zg (Wq b fs p)) WY b fs p ?_
    refine OM (G:=Zg (Wq b fs p)) WY b fs p (Zh ([0,0],[2147483648,1],()) rfl ?_)
    have:l=[]:=List.length_eq_zero_iff.1 (by omega)
    rw[hT,this]
    exact ZO (x:=((0:Int),(0:Int))) rfl
   ·refine OY (G:=Zg (Wq b fs p)) WY b fs p _ _ _ ?_
    have:=Ex b fs p l (by omega) (Cm hl) (Wq b fs p) hT l.length 0 (by omega)
    rw[hlen]at this
    exact this
  ·intro σ hX
   obtain⟨hn,hσ⟩:=hX
   have hT:Wq b fs p=(0,2):=by unfold Wq;rw[if_pos h0,hn]
   rcases hσ with rfl|⟨n,xs,ys,rfl⟩
   ·exact NT (G:=Zg (Wq b fs p)) WY b fs p (by rw[hT];exact ZO (x:=((0:Int),(2:Int))) rfl)
   ·exact Ng (G:=Zg (Wq b fs p)) WY b fs p n xs ys (by rw[hT];exact ZO (x:=((0:Int),(2:Int))) rfl)
 have hbad:Zq b fs (ZG p) (Yt p)≠0->Zg (Wq b fs p) (.tup [.int .i64 0,.int .i64 (Zq b fs (ZG p) (Yt p))]):=by
  intro h0
  unfold Wq
  rw[if_neg h0]
  exact ZO (x:=((0:Int),Zq b fs (ZG p) (Yt p))) rfl
 have hn:Zq b fs (ZG p) (Yt p)=Zq b fs (ZG p) []:=by
  cases hv:ZG p
  ·unfold Zq;simp
  ·rw[hv]at h6
   rw[OK (by simpa using h6)]
 rw[hn]at key hbad
 refine a9e WY b fs p ⟨Zj (p,()) rfl h5,Zh (p,()) rfl ⟨?_,Zj (b,fs,ZG p,⟨⟩,()) rfl (by simp[h1,h2,h3]),Zh (b,fs,ZG p,⟨⟩,()) rfl ?_⟩⟩
 ·show(Vh (List Mono) (enc p)&&Z8 (dec (enc p:PV))&&(!ZG (dec (enc p:PV))||(XG (dec (enc p:PV))).isEmpty))=true
  rw[ZX,Enc.dec_enc,h5,h6];rfl
 ·show if (Zq b fs (ZG p) [] != 0)=true then _ else _
  by_cases h0:Zq b fs (ZG p) []=0
  ·rw[if_neg (by simp[h0])]
   refine⟨?_,key h0⟩
   show(Vh (List Str) (enc b.v)&&Vh (List Fact) (enc fs))=true
   rw[ZX,ZX];rfl
  ·rw[if_pos (by simpa using h0)]
   exact hbad h0
def WS:Yv:=fun n st q=>n=0∧Hq YG 0 (.t 32) 177 [33,34] [(13,34)] VZ QU UM Gm st q
theorem Fm(b:BoxT)(fs:List Fact)(p:List Mono)(hp:Z8 p=true)(hv:YC b=true)(hb:b.v.length<=1000)(k:Nat)(q:List Int)(σ:Zu)(hq:(ZP b fs)[k]? = some q)(h:gsI b fs p k σ):
  ZB YG (fun n S' _=>n=99∧gsI b fs p (k+1) S'.heap) σ.length (fun st=>gsX b fs p st.heap) (.inl VZ) [.seq (.ext 99 [])]
   ⟨ZR 77 0 [(5,.ptr 0 0),(6,.ptr 1 0),(7,.ptr 2 0),(9,.ptr 3 0),(10,.ptr 4 0),(11,.ptr 5 0),(13,.pv (enc (Zf b.v q))),(33,.pv (enc q)),(34,.pv (enc (Zf b.v q)))],σ⟩:=by
 have hk:=(List.getElem?_eq_some_iff.1 hq).1
 have hkp:=(List.getElem?_eq_some_iff.1 hq).2
 have h20:=SN (fs:=fs) hv
 have ht:(ZP b fs).take (k+1)=(ZP b fs).take k++[q]:=by rw[List.take_succ_eq_append_getElem hk,hkp]
 have hvl:(Zf b.v q).length<=9223372036854775807:=by unfold Zf;rw[List.length_zipWith];omega
 have hpre:preT (fun x:List Mono×List Coef×Unit=>Z8 x.1&&Zn x.2.1) (encL (p,Zf b.v q,()))=true:=Zj (p,Zf b.v q,()) rfl (by rw[hp,Zx.2 hvl];rfl)
 obtain⟨l,hl,hσ⟩:=h
 have hlen:=Qo hl
 rw[List.length_take]at hlen
 rcases hσ with ⟨rfl,rfl⟩|⟨h0,h1,rfl⟩
 ·apply a4o (G:=gsX b fs p) (fun n S' _=>n=99∧gsI b fs p (0+1) S'.heap) p q (Zf b.v q)
  refine⟨hpre,Zh (p,Zf b.v q,()) rfl ?_⟩
  refine XU (fun he=> ?_) fun he=> ?_
  ·have he:(YT p (Zf b.v q)).2≠0:=by simpa using he
   exact⟨He hq he,.inl rfl⟩
  ·have he:(YT p (Zf b.v q)).2=0:=by simpa using he
   have hs:=UH he hl
   rw[<- ht]at hs
   have hnil:l=[]:=List.length_eq_zero_iff.1 (by omega)
   subst hnil
   exact⟨rfl,_,hs,.inr ⟨by omega,by omega,rfl⟩⟩
 ·have hlk:l.length=k:=by omega
  apply a5w (G:=gsX b fs p) (fun n S' _=>n=99∧gsI b fs p (k+1) S'.heap) p q (Zf b.v q) k (l.map Wo) (l.map XY)
  refine⟨hpre,Zh (p,Zf b.v q,()) rfl ?_⟩
  refine XU (fun he=> ?_) fun he=> ?_
  ·have he:(YT p (Zf b.v q)).2≠0:=by simpa using he
   exact⟨He hq he,.inr ⟨k,_,_,rfl⟩⟩
  ·have he:(YT p (Zf b.v q)).2=0:=by simpa using he
   have hs:=UH he hl
   rw[<- ht]at hs
   refine⟨?_,rfl,_,hs,.inr ⟨by omega,by omega,?_⟩⟩
   ·show(k==k&&k==k&&k==k&&3==3&&3==3&&((l.map Wo).map (enc:Int->PV)).length==k&&((l.map XY).map (enc:Int->PV)).length==k&&decide (k<=1000000))=true
    rw[List.length_map,List.length_map,List.length_map,List.length_map,hlk,decide_eq_true (by omega)];simp
   ·unfold hR
    rw[List.map_append,List.map_append,List.map_append,List.map_append]
    rfl
theorem a0w(b:BoxT)(fs:List Fact)(p:List Mono)(l:List Int)(hl:l.length<=20000)(hr : ∀ x∈l,UI x=true)(R:Int×Int)(hR:R=Vn l): ∀ (d i:Nat),d+i=l.length ->
  MG YG WS 0 (Za Y3 (Zg R)) Y1 0 77 [(6,.ptr 0 0),(7,.ptr 1 0),(9,.ptr 2 0),(10,.ptr 3 0),(16,.pv (.int .i64 ((l.map Wo).take i).sum)),(17,.pv (.int .i64 ((l.map XY).take i).sum)),(47,.pv (.int .i64 l.length)),(48,.pv (.int .i64 i))]
   [.obj (.box [.pv (.int .i64 0)]),.obj (.box [.pv (.int .i64 0)]),.obj (.box [.row 4 l.length 0 l.length]),.obj (.box [.row 5 l.length 0 l.length]),.obj (.row false 3 1 ((l.map Wo).map enc)),.obj (.row false 3 1 ((l.map XY).map enc))]:=by
 have hb1 : ∀ i,((l.map Wo).take i).length*(-2147483648:Int)<=((l.map Wo).take i).sum∧((l.map Wo).take i).sum<=((l.map Wo).take i).length*(2147483648:Int):=fun i=>Jk (by
  intro x hx
  obtain⟨n,hn,rfl⟩:=List.mem_map.1 (List.mem_of_mem_take hx)
  exact a5n (hr n hn))
 have hb2 : ∀ i,((l.map XY).take i).length*(0:Int)<=((l.map XY).take i).sum∧((l.map XY).take i).sum<=((l.map XY).take i).length*(2147483647:Int):=fun i=>Jk (by
  intro x hx
  obtain⟨n,hn,rfl⟩:=List.mem_map.1 (List.mem_of_mem_take hx)
  exact Ek n)
 have hc1 : ∀ i,((l.map Wo).take i).length<=20000:=fun i=>by rw[List.length_take,List.length_map];omega
 have hc2 : ∀ i,((l.map XY).take i).length<=20000:=fun i=>by rw[List.length_take,List.length_map];omega
 intro d
 induction d with
 | zero=>
  intro i hi
  apply B3 (G:=Zg R) WS b fs p
  refine ZI (ZY (by omega)) ?_
  have e1:(l.map Wo).take i=l.map Wo:=List.take_of_length_le (by rw[List.length_map];omega)
  have e2:(l.map XY).take i=l.map XY:=List.take_of_length_le (by rw[List.length_map];omega)
  have a1:=hb1 i
  have a2:=hb2 i
  have a3:=hc1 i
  have a4:=hc2 i
  rw[e1]at a1 a3
  rw[e2]at a2 a4
  rw[e1,e2,b0j,Mx]
  have hh:Wo (l.map XY).sum=(l.map XY).sum / 2147483648:=rfl
  have hw:IntKind.i64.wrap ((l.map Wo).sum+Wo (l.map XY).sum)=(l.map Wo).sum+Wo (l.map XY).sum:=U4 (by rw[hh];omega) (by rw[hh];omega)
  rw[hw]
  refine Zh ([(l.map Wo).sum+Wo (l.map XY).sum,XY (l.map XY).sum],[2147483648,1],()) rfl ?_
  rw[hR,<- CH hl hr (H:=(l.map Wo).sum+Wo (l.map XY).sum) (L:=XY (l.map XY).sum) rfl rfl]
  exact ZO rfl
 | succ d ih=>
  intro i hi
  have hlt:i<l.length:=by omega
  have hl1:i<(l.map Wo).length:=by rw[List.length_map];omega
  have hl2:i<(l.map XY).length:=by rw[List.length_map];omega
  apply B3 (G:=Zg R) WS b fs p
  apply ZC (ZU hlt)
  rw[Ql hl1,Ql hl2]
  refine⟨by simp;omega,by simp;omega,rfl,by simp;omega,by simp;omega,rfl,?_⟩
  rw[next (by omega)]
  show MG YG _ _ _ _ _ _ [_,_,_,_,(16,.pv (.int .i64 (IntKind.i64.wrap (((l.map Wo).take i).sum+(l.map Wo)[i])))),(17,.pv (.int .i64 (IntKind.i64.wrap (((l.map XY).take i).sum+(l.map XY)[i])))),_,_] _
  have s1:((l.map Wo).take i).sum+(l.map Wo)[i]=((l.map Wo).take (i+1)).sum:=by rw[List.take_succ_eq_append_getElem hl1,List.sum_append];simp
  have s2:((l.map XY).take i).sum+(l.map XY)[i]=((l.map XY).take (i+1)).sum:=by rw[List.take_succ_eq_append_getElem hl2,List.sum_append];simp
  have a1:=hb1 (i+1)
  have a2:=hb2 (i+1)
  have a3:=hc1 (i+1)
  have a4:=hc2 (i+1)
  rw[s1,s2,U4 (by omega) (by omega),U4 (by omega) (by omega)]
  exact ih (i+1) (by omega)
theorem LT: ∀ x:BoxT×List Fact×List Mono×Unit,(JA x.1 x.2.1 x.2.2.1&&(ZG x.2.2.1&& !(XG x.2.2.1).isEmpty))=true->QT YG WS 0 (Za Y3 (Zg (Wq x.1 x.2.1 x.2.2.1))) Y1 [] (Z5 a1b (encL x)):=by
 rintro⟨b,fs,p,⟨⟩⟩ hp
 simp only[JA,Bool.and_eq_true,decide_eq_true_eq]at hp
 obtain⟨⟨⟨⟨⟨h1,h2⟩,h3⟩,h4⟩,h5⟩,h6⟩:=hp
 have key:Zq b fs (ZG p) (Yt p)=0->WS 0 ⟨ZR 77 0 [(5,.ptr 0 0),(6,.ptr 1 0),(7,.ptr 2 0),(9,.ptr 3 0),(10,.ptr 4 0),(11,.ptr 5 0),(13,.undef),(14,.undef),(15,.undef),(32,(.fn 177 [] [(.ptr 6 0),(.ptr 7 0)])),(34,.undef),(35,.undef),(36,.undef),(37,.undef),(38,.undef),(39,.undef),(40,.undef),(41,.undef),(42,.undef),(43,.undef),(44,.undef)],
   hN p++[(.obj (.box [(.pv (.sl 1 false (List.map enc b.v))),(.pv (.int .i64 b.m))])),(.obj (.box [(.pv (.sl 3 false (List.map enc fs)))]))]⟩ (fun x S'=>KR YG WS 0 (Za Y3 (Zg (Wq b fs p))) Y1 0 x S'):=by
  intro h0
  obtain⟨hv,_⟩:=VX _ _ _ _ h0
  have h20:=SN (fs:=fs) hv
  refine⟨rfl,[6,7],[[enc b.v,.int .i64 b.m],[enc fs]],[5,6,7,9,10,11],[],⟨ZR 77 0 [(5,.ptr 0 0),(6,.ptr 1 0),(7,.ptr 2 0),(9,.ptr 3 0),(10,.ptr 4 0),(11,.ptr 5 0)],hN p⟩,gsI b fs p,gsX b fs p,rfl,by simp,rfl,?_,by kernel_rfl,DL hv h2 h4,⟨[],rfl,.inl ⟨rfl,rfl⟩⟩,?_,?_,?_⟩
  ·intro j l' ps hl hps
   match j with
   | 0=>cases hl;cases hps;rfl
   | 1=>cases hl;cases hps;rfl
   | j+2=>simp at hl
  ·intro k x σ hx hI
   rw[C8,List.getElem?_map]at hx
   obtain⟨q,hq,rfl⟩:=Option.map_eq_some_iff.1 hx
   have e:CV [(13,34)] (GB [33,34] ((QU (q,Zf b.v q)).map .pv) (ZR 77 0 [(5,.ptr 0 0),(6,.ptr 1 0),(7,.ptr 2 0),(9,.ptr 3 0),(10,.ptr 4 0),(11,.ptr 5 0)]))=ZR 77 0 [(5,.ptr 0 0),(6,.ptr 1 0),(7,.ptr 2 0),(9,.ptr 3 0),(10,.ptr 4 0),(11,.ptr 5 0),(13,.pv (enc (Zf b.v q))),(33,.pv (enc q)),(34,.pv (enc (Zf b.v q)))]:=by kernel_rfl
   have:=Fm b fs p h5 hv h4 k q σ hq hI
   rw[<- e]at this
   exact this
  ·intro σ hI
   rw[C8,List.length_map]at hI
   obtain⟨l,hl,hσ⟩:=hI
   rw[List.take_length]at hl
   have hT:Wq b fs p=Vn l:=by unfold Wq;rw[if_pos h0,hl]
   have hlen:=Qo hl
   rcases hσ with ⟨e0,rfl⟩|⟨_,_,rfl⟩
   ·refine FT (G:=Zg (Wq b fs p)) WS b fs p ?_
    refine Oj (G:=Zg (Wq b fs p)) WS b fs p (Zh ([0,0],[2147483648,1],()) rfl ?_)
    have:l=[]:=List.length_eq_zero_iff.1 (by omega)
    rw[hT,this]
    exact ZO (x:=((0:Int),(0:Int))) rfl
   ·refine FW (G:=Zg (Wq b fs p)) WS b fs p _ _ _ ?_
    have:=a0w b fs p l (by omega) (Cm hl) (Wq b fs p) hT l.length 0 (by omega)
    rw[hlen]at this
    exact this
  ·intro σ hX
   obtain⟨hn,hσ⟩:=hX
   have hT:Wq b fs p=(0,2):=by unfold Wq;rw[if_pos h0,hn]
   rcases hσ with rfl|⟨n,xs,ys,rfl⟩
   ·exact Me (G:=Zg (Wq b fs p)) WS b fs p (by rw[hT];exact ZO (x:=((0:Int),(2:Int))) rfl)
   ·exact NJ (G:=Zg (Wq b fs p)) WS b fs p n xs ys (by rw[hT];exact ZO (x:=((0:Int),(2:Int))) rfl)
 have hbad:Zq b fs (ZG p) (Yt p)≠0->Zg (Wq b fs p) (.tup [.int .i64 0,.int .i64 (Zq b fs (ZG p) (Yt p))]):=by
  intro h0
  unfold Wq
  rw[if_neg h0]
  exact ZO (x:=((0:Int),Zq b fs (ZG p) (Yt p))) rfl
 have hpv:ZG p=true:=by simp at h6;exact h6.1
 have hne:(XG p).isEmpty=false:=by simp only[Bool.and_eq_true,Bool.not_eq_true']at h6;exact h6.2
 refine a8j WS b fs p ⟨Zj (p,()) rfl h5,Zh (p,()) rfl ⟨?_,?_⟩⟩
 ·show(Vh (List Mono) (enc p)&&Z8 (dec (enc p:PV))&&ZG (dec (enc p:PV))&& !(XG (dec (enc p:PV))).isEmpty)=true
  rw[ZX,Enc.dec_enc,h5,hpv,hne];rfl
 ·have hmd:VW (enc p)=p:=Enc.dec_enc p
  rw[hmd,LD,TX,Ui]
  have hnl:(Yt p).length<=480:=by
   have a:=F1 p
   have c:=S4 p (J8 hpv).2 p.length (Nat.le_refl _)
   unfold Un at c
   rw[List.take_length]at c
   have:=(J8 hpv).1
   unfold XG at a
   omega
  refine⟨?_,?_⟩
  ·show(Vh BoxT (enc b)&&Vh (List Fact) (enc fs)&&9==9&&Bb (Yt p).length (Yt p).length ((Yt p).map enc)&&decide ((Yt p).length<=1000)&& !((Yt p).map (enc:Str->PV)).isEmpty&&ZA (dec (enc b:PV))&&Zi (dec (enc fs:PV))&&decide ((dec (enc fs:PV):List Fact).length<=100)&&decide (((Yt p).map (enc:Str->PV)).length<=1000))=true
   rw[List.length_map,ZX,ZX,Enc.dec_enc,Enc.dec_enc,GS rfl (by omega),h1,h2,decide_eq_true h3,decide_eq_true (show(Yt p).length<=1000 by omega)]
   have:((Yt p).map (enc:Str->PV)).isEmpty=false:=by
    have:=a1v hne
    rw[List.isEmpty_eq_false_iff]at this ⊢
    intro h
    exact this (List.map_eq_nil_iff.1 h)
   rw[this];simp
  ·show if (Zq b fs (ZG p) (Yt p) != 0)=true then _ else _
   by_cases h0:Zq b fs (ZG p) (Yt p)=0
   ·rw[if_neg (by simp[h0])]
    refine⟨?_,key h0⟩
    show(Vh (List Str) (enc b.v)&&Vh (List Fact) (enc fs))=true
    rw[ZX,ZX];rfl
   ·rw[if_pos (by simpa using h0)]
    exact hbad h0
end Go.Pl

namespace Go.Pl
open Go.RowKit
open Enc (enc dec is)
open EncL (encL decL isL)
def xN:Str:=⟨[110]⟩
def xM:Str:=⟨[109]⟩
def Q2(a b c:Int):Fact:=⟨false,W3 (W3 ⟨c,[]⟩ xN a) xM b⟩
end Go.Pl

namespace Go.Pl
open Go.RowKit
open Enc (enc dec is)
open EncL (encL decL isL)
set_option maxRecDepth 100000
def J9:IC:=(.seq (.reg [⟨(some 2),(.mv (.c (.bool false))),0,none⟩] none) (.seq (.seq (.reg [⟨(some 6),(.mv (.t 0)),0,none⟩,⟨(some 7),(.len 1 (.t 6)),0,none⟩,⟨(some 8),(.bin .num .gtr (.t 7) (.c (.int .i64 60))),0,none⟩] none) (.cond (.t 8) (.seq (.reg [⟨(some 2),(.mv (.c (.bool false))),0,none⟩] none) .ret) .skip)) (.seq (.seq (.reg [⟨(some 3),(.mv (.c (.int .i64 0))),0,none⟩] none) (.block 0 (.loop [3,0] (.seq (.seq (.reg [⟨(some 9),(.mv (.t 3)),0,none⟩,⟨(some 10),(.mv (.t 0)),0,none⟩,⟨(some 11),(.len 1 (.t 10)),0,none⟩,⟨(some 12),(.bin .num .lss (.t 9) (.t 11)),0,none⟩] none) (.cond (.t 12) .skip (.exit 0))) (.seq (.block 1 (.seq (.reg [⟨(some 15),(.mv (.t 0)),0,none⟩,⟨(some 16),(.mv (.t 3)),0,none⟩,⟨(some 17),(.iaddr 2 (.t 15) (.t 16)),0,none⟩,⟨(some 18),(.load true [(.int .i64),(.sl 1)] (.t 17)),0,none⟩,⟨(some 4),(.alloc (.agg [(.int .i64 0),(.sl 0 true [])])),0,none⟩,⟨none,(.store 2 (.t 4) (.t 18)),1,none⟩] none) (.seq (.seq (.reg [⟨(some 19),(.faddr 0 (.t 4)),0,none⟩,⟨(some 20),(.load false [(.int .i64)] (.t 19)),0,none⟩,⟨(some 21),(.bin .num .eql (.t 20) (.c (.int .i64 0))),0,none⟩,⟨(some 22),(.mv (.t 21)),0,none⟩,⟨(some 23),(.faddr 0 (.t 4)),0,(some (22,false))⟩,⟨(some 24),(.load false [(.int .i64)] (.t 23)),0,(some (22,false))⟩,⟨(some 25),(.bin .num .lss (.t 24) (.c (.int .i64 (-1099511627776)))),0,(some (22,false))⟩,⟨(some 26),(.pick (.t 22) (.c (.bool true)) (.t 25)),0,none⟩,⟨(some 27),(.mv (.t 26)),0,none⟩,⟨(some 28),(.faddr 0 (.t 4)),0,(some (27,false))⟩,⟨(some 29),(.load false [(.int .i64)] (.t 28)),0,(some (27,false))⟩,⟨(some 30),(.bin .num .gtr (.t 29) (.c (.int .i64 1099511627776))),0,(some (27,false))⟩,⟨(some 31),(.pick (.t 27) (.c (.bool true)) (.t 30)),0,none⟩,⟨(some 32),(.mv (.t 31)),0,none⟩,⟨(some 33),(.faddr 1 (.t 4)),0,(some (32,false))⟩,⟨(some 34),(.load false [(.sl 1)] (.t 33)),0,(some (32,false))⟩,⟨(some 35),(.len 1 (.t 34)),0,(some (32,false))⟩,⟨(some 36),(.bin .num .gtr (.t 35) (.c (.int .i64 8))),0,(some (32,false))⟩,⟨(some 37),(.pick (.t 32) (.c (.bool true)) (.t 36)),0,none⟩,⟨(some 38),(.mv (.t 37)),0,none⟩,⟨(some 39),(.mv (.t 3)),0,(some (38,false))⟩,⟨(some 40),(.bin .num .gtr (.t 39) (.c (.int .i64 0))),0,(some (38,false))⟩,⟨(some 41),(.mv (.t 40)),0,(some (38,false))⟩,⟨(some 42),(.mv (.t 0)),0,(some (41,true))⟩,⟨(some 43),(.mv (.t 3)),0,(some (41,true))⟩,⟨(some 44),(.bin .num .sub (.t 43) (.c (.int .i64 1))),0,(some (41,true))⟩,⟨(some 45),(.iaddr 2 (.t 42) (.t 44)),0,(some (41,true))⟩,⟨(some 46),(.faddr 1 (.t 45)),0,(some (41,true))⟩,⟨(some 47),(.load false [(.sl 1)] (.t 46)),0,(some (41,true))⟩,⟨(some 48),(.faddr 1 (.t 4)),0,(some (41,true))⟩,⟨(some 49),(.load false [(.sl 1)] (.t 48)),0,(some (41,true))⟩,⟨(some 50),(.call (.c (.fn 195)) [(.t 47),(.t 49)]),0,(some (41,true))⟩,⟨(some 51),(.bin .num .geq (.t 50) (.c (.int .i64 0))),2,(some (41,true))⟩,⟨(some 52),(.pick (.t 41) (.t 51) (.c (.bool false))),2,(some (38,false))⟩,⟨(some 53),(.pick (.t 38) (.c (.bool true)) (.t 52)),2,none⟩] (some [[],[0],[1,0],[2,1,0],[3,2,1,0],[4,3,2,1,0],[5,3,4,2,1,0],[3,6,2,1,0,5,4],[7,3,6,2,1,0,5,4],[8,7,3,6,2,1,0,5,4],[9,8,7,3,6,2,1,0,5,4],[10,8,9,7,3,6,2,1,0,5,4],[8,11,7,3,6,2,1,0,5,4,10,9],[12,8,11,7,3,6,2,1,0,5,4,10,9],[13,12,8,11,7,3,6,2,1,0,5,4,10,9],[14,13,12,8,11,7,3,6,2,1,0,5,4,10,9],[15,13,14,12,8,11,7,3,6,2,1,0,5,4,10,9],[16,13,15,14,12,8,11,7,3,6,2,1,0,5,4,10,9],[13,17,12,8,11,7,3,6,2,1,0,5,4,10,9,16,15,14],[18,13,17,12,8,11,7,3,6,2,1,0,5,4,10,9,16,15,14],[19,18,13,17,12,8,11,7,3,6,2,1,0,5,4,10,9,16,15,14],[20,19,18,13,17,12,8,11,7,3,6,2,1,0,5,4,10,9,16,15,14],[21,19,20,18,13,17,12,8,11,7,3,6,2,1,0,5,4,10,9,16,15,14],[22,21,19,20,18,13,17,12,8,11,7,3,6,2,1,0,5,4,10,9,16,15,14],[22,21,19,20,18,13,17,12,8,11,7,3,6,2,1,0,5,4,10,9,16,15,14],[24,22,21,19,20,18,13,17,12,8,11,7,3,6,2,1,0,5,4,10,9,16,15,14],[23,25,22,21,19,20,18,13,17,12,8,11,7,3,6,2,1,0,5,4,10,9,16,15,14,24],[26,22,23,25,21,19,20,18,13,17,12,8,11,7,3,6,2,1,0,5,4,10,9,16,15,14,24],[27,22,26,23,25,21,19,20,18,13,17,12,8,11,7,3,6,2,1,0,5,4,10,9,16,15,14,24],[22,21,19,20,18,13,17,12,8,11,7,3,6,2,1,0,5,4,10,9,16,15,14],[29,22,21,19,20,18,13,17,12,8,11,7,3,6,2,1,0,5,4,10,9,16,15,14],[28,30,22,27,26,23,25,21,19,20,18,13,17,12,8,11,7,3,6,2,1,0,5,4,10,9,16,15,14,24,29],[31,22,28,30,27,26,23,25,21,19,20,18,13,17,12,8,11,7,3,6,2,1,0,5,4,10,9,16,15,14,24,29],[22,32,19,21,20,18,13,17,12,8,11,7,3,6,2,1,0,5,4,10,9,16,15,14,31,28,30,27,26,23,25,24,29],[19,33,18,13,17,12,8,11,7,3,6,2,1,0,5,4,10,9,16,15,14,22,32,21,20,31,28,30,27,26,23,25,24,29]])) (.cond (.t 53) (.seq (.reg [⟨(some 2),(.mv (.c (.bool false))),0,none⟩] none) .ret) .skip)) (.seq (.reg [⟨(some 5),(.mv (.c (.int .i64 0))),0,none⟩] none) (.block 2 (.loop [5,4,3,0] (.seq (.seq (.reg [⟨(some 54),(.mv (.t 5)),0,none⟩,⟨(some 55),(.faddr 1 (.t 4)),0,none⟩,⟨(some 56),(.load false [(.sl 1)] (.t 55)),0,none⟩,⟨(some 57),(.len 1 (.t 56)),0,none⟩,⟨(some 58),(.bin .num .lss (.t 54) (.t 57)),0,none⟩] none) (.cond (.t 58) .skip (.exit 2))) (.seq (.block 3 (.seq (.reg [⟨(some 61),(.faddr 1 (.t 4)),0,none⟩,⟨(some 62),(.load false [(.sl 1)] (.t 61)),0,none⟩,⟨(some 63),(.mv (.t 5)),0,none⟩,⟨(some 64),(.iaddr 1 (.t 62) (.t 63)),0,none⟩,⟨(some 65),(.load false [.str] (.t 64)),0,none⟩,⟨(some 66),(.call (.c (.fn 84)) [(.t 65)]),0,none⟩,⟨(some 67),(.un .not (.t 66)),2,none⟩,⟨(some 68),(.mv (.t 67)),2,none⟩,⟨(some 69),(.mv (.t 5)),2,(some (68,false))⟩,⟨(some 70),(.bin .num .gtr (.t 69) (.c (.int .i64 0))),2,(some (68,false))⟩,⟨(some 71),(.mv (.t 70)),2,(some (68,false))⟩,⟨(some 72),(.faddr 1 (.t 4)),2,(some (71,true))⟩,⟨(some 73),(.load false [(.sl 1)] (.t 72)),2,(some (71,true))⟩,⟨(some 74),(.mv (.t 5)),2,(some (71,true))⟩,⟨(some 75),(.bin .num .sub (.t 74) (.c (.int .i64 1))),2,(some (71,true))⟩,⟨(some 76),(.iaddr 1 (.t 73) (.t 75)),2,(some (71,true))⟩,⟨(some 77),(.load false [.str] (.t 76)),2,(some (71,true))⟩,⟨(some 78),(.faddr 1 (.t 4)),2,(some (71,true))⟩,⟨(some 79),(.load false [(.sl 1)] (.t 78)),2,(some (71,true))⟩,⟨(some 80),(.mv (.t 5)),2,(some (71,true))⟩,⟨(some 81),(.iaddr 1 (.t 79) (.t 80)),2,(some (71,true))⟩,⟨(some 82),(.load false [.str] (.t 81)),2,(some (71,true))⟩,⟨(some 83),(.bin .num .gtr (.t 77) (.t 82)),2,(some (71,true))⟩,⟨(some 84),(.pick (.t 71) (.t 83) (.c (.bool false))),2,(some (68,false))⟩,⟨(some 85),(.pick (.t 68) (.c (.bool true)) (.t 84)),2,none⟩] (some [[],[0],[],[1,2,0],[3,1,2,0],[4,3,1,2,0],[5,4,3,1,2,0],[6,5,4,3,1,2,0],[7,6,5,4,3,1,2,0],[8,7,6,5,4,3,1,2,0],[9,7,8,6,5,4,3,1,2,0],[10,9,7,8,6,5,4,3,1,2,0],[11,10,9,7,8,6,5,4,3,1,2,0],[10,9,7,8,6,5,4,3,1,2,0],[13,10,9,7,8,6,5,4,3,1,2,0],[12,14,10,11,9,7,8,6,5,4,3,1,2,0,13],[15,10,12,14,11,9,7,8,6,5,4,3,1,2,0,13],[10,9,7,8,6,5,4,3,1,2,0],[17,10,9,7,8,6,5,4,3,1,2,0],[10,9,7,8,6,5,4,3,1,2,0],[18,19,10,17,9,7,8,6,5,4,3,1,2,0],[20,10,18,19,17,9,7,8,6,5,4,3,1,2,0],[16,21,10,15,12,14,11,9,7,8,6,5,4,3,1,2,0,13,20,18,19,17],[10,22,7,9,8,6,5,4,3,1,2,0,16,21,15,12,14,11,13,20,18,19,17],[7,23,6,5,4,3,1,2,0,10,22,9,8,16,21,15,12,14,11,13,20,18,19,17]])) (.cond (.t 85) (.seq (.reg [⟨(some 2),(.mv (.c (.bool false))),0,none⟩] none) .ret) .skip))) (.reg [⟨(some 59),(.mv (.t 5)),0,none⟩,⟨(some 60),(.bin .num .add (.t 59) (.c (.int .i64 1))),0,none⟩,⟨(some 5),(.mv (.t 60)),0,none⟩] none))))))))) (.reg [⟨(some 13),(.mv (.t 3)),0,none⟩,⟨(some 14),(.bin .num .add (.t 13) (.c (.int .i64 1))),0,none⟩,⟨(some 3),(.mv (.t 14)),0,none⟩] none)))))) (.seq (.reg [⟨(some 2),(.mv (.c (.bool true))),0,none⟩] none) .ret))))
def JS:List IRes:=[(.tmp 2)]
abbrev a9r:Nat:=86
def Ch:ZE:=Y6 []
theorem b6d{G:PV->Prop}(h:At Ch 0 (Za JS G) J9 0 86 [(0,(.pv (.sl 2 false []))),(3,(.pv (.int .i64 0)))] []):Zc Ch 0 (Za JS G) J9 [] (Z5 86 [.sl 2 false []]):=Zc.tp (.lit (.lit (.nil))) h (by kernel_rfl)
theorem b0h{G:PV->Prop}(h:G ((.bool true))):At Ch 0 (Za JS G) J9 0 86 [(0,.pv (.sl 2 false [])),(3,.pv (.int .i64 0))] []:=At.tp (.lit (.lit (.nil))) h (by kernel_rfl)
def Q4:IC:=(.seq (.reg [⟨(some 2),(.mv (.c (.sl 0 true []))),0,none⟩] none) (.seq (.reg [⟨(some 3),(.mv (.c (.sl 0 true []))),0,none⟩] none) (.seq (.seq (.reg [⟨(some 7),(.mv (.t 0)),0,none⟩,⟨(some 8),(.call (.c (.fn 131)) [(.t 7)]),0,none⟩,⟨(some 9),(.un .not (.t 8)),2,none⟩] none) (.cond (.t 9) (.seq (.reg [⟨(some 2),(.mv (.c (.sl 0 true []))),0,none⟩] none) .ret) .skip)) (.seq (.seq (.reg [⟨(some 4),(.mv (.c (.int .i64 0))),0,none⟩] none) (.block 0 (.loop [4,0,3] (.seq (.seq (.reg [⟨(some 10),(.mv (.t 4)),0,none⟩,⟨(some 11),(.mv (.t 0)),0,none⟩,⟨(some 12),(.len 1 (.t 11)),0,none⟩,⟨(some 13),(.bin .num .lss (.t 10) (.t 12)),0,none⟩] none) (.cond (.t 13) .skip (.exit 0))) (.seq (.block 1 (.seq (.reg [⟨(some 5),(.mv (.c (.int .i64 0))),0,none⟩] none) (.block 2 (.loop [5,0,4,3] (.seq (.seq (.reg [⟨(some 16),(.mv (.t 5)),0,none⟩,⟨(some 17),(.mv (.t 0)),0,none⟩,⟨(some 18),(.mv (.t 4)),0,none⟩,⟨(some 19),(.iaddr 2 (.t 17) (.t 18)),0,none⟩,⟨(some 20),(.faddr 1 (.t 19)),0,none⟩,⟨(some 21),(.load false [(.sl 1)] (.t 20)),0,none⟩,⟨(some 22),(.len 1 (.t 21)),0,none⟩,⟨(some 23),(.bin .num .lss (.t 16) (.t 22)),0,none⟩] none) (.cond (.t 23) .skip (.exit 2))) (.seq (.block 3 (.seq (.reg [⟨(some 6),(.mv (.c (.int .i64 0))),0,none⟩] none) (.seq (.block 4 (.loop [6,3,0,4,5] (.seq (.seq (.reg [⟨(some 26),(.mv (.t 6)),0,none⟩,⟨(some 27),(.mv (.t 3)),0,none⟩,⟨(some 28),(.len 1 (.t 27)),0,none⟩,⟨(some 29),(.bin .num .lss (.t 26) (.t 28)),0,none⟩,⟨(some 30),(.mv (.t 29)),0,none⟩,⟨(some 31),(.mv (.t 3)),0,(some (30,true))⟩,⟨(some 32),(.mv (.t 6)),0,(some (30,true))⟩,⟨(some 33),(.iaddr 1 (.t 31) (.t 32)),0,(some (30,true))⟩,⟨(some 34),(.load false [.str] (.t 33)),0,(some (30,true))⟩,⟨(some 35),(.mv (.t 0)),0,(some (30,true))⟩,⟨(some 36),(.mv (.t 4)),0,(some (30,true))⟩,⟨(some 37),(.iaddr 2 (.t 35) (.t 36)),0,(some (30,true))⟩,⟨(some 38),(.faddr 1 (.t 37)),0,(some (30,true))⟩,⟨(some 39),(.load false [(.sl 1)] (.t 38)),0,(some (30,true))⟩,⟨(some 40),(.mv (.t 5)),0,(some (30,true))⟩,⟨(some 41),(.iaddr 1 (.t 39) (.t 40)),0,(some (30,true))⟩,⟨(some 42),(.load false [.str] (.t 41)),0,(some (30,true))⟩,⟨(some 43),(.bin .num .lss (.t 34) (.t 42)),0,(some (30,true))⟩,⟨(some 44),(.pick (.t 30) (.t 43) (.c (.bool false))),0,none⟩] (some [[],[],[1],[0,2,1],[3,0,2,1],[4,3,0,2,1],[4,3,0,2,1],[5,6,4,3,0,2,1],[7,4,5,6,3,0,2,1],[4,3,0,2,1],[4,3,0,2,1],[9,10,4,3,0,2,1],[11,4,9,10,3,0,2,1],[12,4,11,9,10,3,0,2,1],[4,3,0,2,1],[13,14,4,12,11,9,10,3,0,2,1],[15,4,13,14,12,11,9,10,3,0,2,1],[8,16,4,7,5,6,3,0,2,1,15,13,14,12,11,9,10],[4,17,3,0,2,1,8,16,7,5,6,15,13,14,12,11,9,10]])) (.cond (.t 44) .skip (.exit 4))) (.block 5 (.reg [⟨(some 45),(.mv (.t 6)),0,none⟩,⟨(some 46),(.bin .num .add (.t 45) (.c (.int .i64 1))),0,none⟩,⟨(some 6),(.mv (.t 46)),0,none⟩] none))))) (.seq (.reg [⟨(some 47),(.mv (.t 6)),0,none⟩,⟨(some 48),(.mv (.t 3)),0,none⟩,⟨(some 49),(.len 1 (.t 48)),0,none⟩,⟨(some 50),(.bin .num .eql (.t 47) (.t 49)),0,none⟩,⟨(some 51),(.mv (.t 50)),0,none⟩,⟨(some 52),(.mv (.t 3)),0,(some (51,false))⟩,⟨(some 53),(.mv (.t 6)),0,(some (51,false))⟩,⟨(some 54),(.iaddr 1 (.t 52) (.t 53)),0,(some (51,false))⟩,⟨(some 55),(.load false [.str] (.t 54)),0,(some (51,false))⟩,⟨(some 56),(.mv (.t 0)),0,(some (51,false))⟩,⟨(some 57),(.mv (.t 4)),0,(some (51,false))⟩,⟨(some 58),(.iaddr 2 (.t 56) (.t 57)),0,(some (51,false))⟩,⟨(some 59),(.faddr 1 (.t 58)),0,(some (51,false))⟩,⟨(some 60),(.load false [(.sl 1)] (.t 59)),0,(some (51,false))⟩,⟨(some 61),(.mv (.t 5)),0,(some (51,false))⟩,⟨(some 62),(.iaddr 1 (.t 60) (.t 61)),0,(some (51,false))⟩,⟨(some 63),(.load false [.str] (.t 62)),0,(some (51,false))⟩,⟨(some 64),(.bin .num .neq (.t 55) (.t 63)),0,(some (51,false))⟩,⟨(some 65),(.pick (.t 51) (.c (.bool true)) (.t 64)),0,none⟩] (some [[],[],[1],[0,2,1],[3,0,2,1],[4,3,0,2,1],[4,3,0,2,1],[5,6,4,3,0,2,1],[7,4,5,6,3,0,2,1],[4,3,0,2,1],[4,3,0,2,1],[9,10,4,3,0,2,1],[11,4,9,10,3,0,2,1],[12,4,11,9,10,3,0,2,1],[4,3,0,2,1],[13,14,4,12,11,9,10,3,0,2,1],[15,4,13,14,12,11,9,10,3,0,2,1],[8,16,4,7,5,6,3,0,2,1,15,13,14,12,11,9,10],[4,17,3,0,2,1,8,16,7,5,6,15,13,14,12,11,9,10]])) (.cond (.t 65) (.reg [⟨(some 66),(.bslice 9 1 0 (.str []) []),0,none⟩,⟨(some 67),(.mv (.t 3)),1,none⟩,⟨(some 68),(.mv (.t 6)),1,none⟩,⟨(some 69),(.slc 1 (.t 67) none (some (.t 68)) none),1,none⟩,⟨(some 70),(.append 9 1 16 (.t 66) (.t 69)),1,none⟩,⟨(some 71),(.mv (.t 0)),2,none⟩,⟨(some 72),(.mv (.t 4)),2,none⟩,⟨(some 73),(.iaddr 2 (.t 71) (.t 72)),2,none⟩,⟨(some 74),(.faddr 1 (.t 73)),2,none⟩,⟨(some 75),(.load false [(.sl 1)] (.t 74)),2,none⟩,⟨(some 76),(.mv (.t 5)),2,none⟩,⟨(some 77),(.iaddr 1 (.t 75) (.t 76)),2,none⟩,⟨(some 78),(.load false [.str] (.t 77)),2,none⟩,⟨(some 79),(.bslice 9 1 1 (.str []) [(0,(.t 78))]),2,none⟩,⟨(some 80),(.append 9 1 16 (.t 70) (.t 79)),3,none⟩,⟨(some 81),(.mv (.t 3)),4,none⟩,⟨(some 82),(.mv (.t 6)),4,none⟩,⟨(some 83),(.slc 1 (.t 81) (some (.t 82)) none none),4,none⟩,⟨(some 84),(.append 9 1 16 (.t 80) (.t 83)),4,none⟩,⟨(some 3),(.mv (.t 84)),5,none⟩] (some [[],[],[],[1,2],[0,3,1,2],[],[],[5,6],[7,5,6],[8,7,5,6],[],[9,10,8,7,5,6],[11,9,10,8,7,5,6],[12,11,9,10,8,7,5,6],[4,13,0,3,1,2,12,11,9,10,8,7,5,6],[],[],[15,16],[14,17,4,13,0,3,1,2,12,11,9,10,8,7,5,6,15,16],[18,0,1,2,3,4,5,6,7,8,9,10,11,12,13,14,15,16,17]])) .skip))))) (.reg [⟨(some 24),(.mv (.t 5)),0,none⟩,⟨(some 25),(.bin .num .add (.t 24) (.c (.int .i64 1))),0,none⟩,⟨(some 5),(.mv (.t 25)),0,none⟩] none))))))) (.reg [⟨(some 14),(.mv (.t 4)),0,none⟩,⟨(some 15),(.bin .num .add (.t 14) (.c (.int .i64 1))),0,none⟩,⟨(some 4),(.mv (.t 15)),0,none⟩] none)))))) (.seq (.reg [⟨(some 85),(.mv (.t 3)),0,none⟩,⟨(some 2),(.mv (.t 85)),0,none⟩] none) .ret)))))
def Ka:List IRes:=[(.tmp 2)]
abbrev a6h:Nat:=86
def JP:ZE:=Y6 [(131,.pure (preT (fun x:List Mono×Unit=>Y9 x.1)) (Ze (fun x:List Mono×Unit=>ZG x.1)))]
theorem a7c{G:PV->Prop}(h : ∃ y0:Bool,AV.pv (Ze (fun(x:List Mono×Unit)=>ZG x.1) [(.sl 2 false [])])=AV.pv (enc y0)∧(if (!y0)=true then G ((.sl 0 true []))else(At JP 0 (Za Ka G) Q4 0 86 [(0,(.pv (.sl 2 false []))),(3,(.pv (.sl 0 true []))),(4,(.pv (.int .i64 0)))] []))):Zc JP 0 (Za Ka G) Q4 [] (Z5 86 [.sl 2 false []]):=Zc.tp (.lit (.abs (Bool) (fun YY=>AV.pv (enc YY)) (.ask (.nil) (.nil)))) h (by kernel_rfl)
theorem a3u{G:PV->Prop}(h:G ((.sl 0 true []))):At JP 0 (Za Ka G) Q4 0 86 [(0,.pv (.sl 2 false [])),(3,.pv (.sl 0 true [])),(4,.pv (.int .i64 0))] []:=At.tp (.lit (.lit (.nil))) h (by kernel_rfl)
def Ji:IC:=(.seq (.reg [⟨(some 6),(.alloc (.agg [(.bool false),(.int .i64 0),(.sl 0 true [])])),0,none⟩] none) (.seq (.reg [⟨(some 7),(.mv (.t 2)),0,none⟩,⟨(some 8),(.call (.c (.fn 91)) [(.t 7)]),0,none⟩,⟨(some 9),(.mv (.t 0)),2,none⟩,⟨(some 10),(.call (.c (.fn 89)) [(.t 8),(.c (.str [110])),(.t 9)]),2,none⟩,⟨(some 11),(.mv (.t 1)),4,none⟩,⟨(some 12),(.call (.c (.fn 89)) [(.t 10),(.c (.str [109])),(.t 11)]),4,none⟩,⟨(some 13),(.build [(.bool false),(.int .i64 0),(.sl 0 true [])] [(1,(2,(.t 12)))]),6,none⟩,⟨none,(.store 3 (.t 6) (.t 13)),6,none⟩] none) .ret))
def Jj:List IRes:=[(.cell true 3 6)]
abbrev Mn:Nat:=14
def HN:ZE:=Y6 [(91,.pure (preT (fun _:Int×Unit=>true)) (Ze (fun x:Int×Unit=>(⟨x.1,[]⟩:Lin)))),(89,.pure (preT (fun x:Lin×Str×Int×Unit=>decide (x.1.t.length<=1000000))) (Ze (fun x:Lin×Str×Int×Unit=>W3 x.1 x.2.1 x.2.2.1)))]
theorem O0{G:PV->Prop}(a b c:Int)(h : ∃ y0:Lin,AV.pv (Ze (fun(x:Int×Unit)=>Lin.mk x.1 []) [(.int .i64 c)])=AV.pv (enc y0)∧((Go.Pl.preT (fun(x:Lin×Str×Int×Unit)=>decide (List.length x.1.t<=1000000)) [(.agg [(.int .i64 y0.k),(.sl 2 false (List.map enc y0.t))]),(.str [(110:UInt8)]),(.int .i64 a)])=true∧(∃ y1:Lin,AV.pv (Ze (fun(x:Lin×Str×Int×Unit)=>W3 x.1 x.2.1 x.2.2.1) [(.agg [(.int .i64 y0.k),(.sl 2 false (List.map enc y0.t))]),(.str [(110:UInt8)]),(.int .i64 a)])=AV.pv (enc y1)∧((Go.Pl.preT (fun(x:Lin×Str×Int×Unit)=>decide (List.length x.1.t<=1000000)) [(.agg [(.int .i64 y1.k),(.sl 2 false (List.map enc y1.t))]),(.str [(109:UInt8)]),(.int .i64 b)])=true∧(∃ y2:Lin,AV.pv (Ze (fun(x:Lin×Str×Int×Unit)=>W3 x.1 x.2.1 x.2.2.1) [(.agg [(.int .i64 y1.k),(.sl 2 false (List.map enc y1.t))]),(.str [(109:UInt8)]),(.int .i64 b)])=AV.pv (enc y2)∧(G ((.agg [(.bool false),(.int .i64 y2.k),(.sl 2 false (List.map enc y2.t))])))))))):Zc HN 0 (Za Jj G) Ji [] (Z5 14 [enc a,enc b,enc c]):=Zc.tp (.lit (.abs (Lin) (fun YY=>AV.pv (enc YY)) (.req (.abs (Lin) (fun YY=>AV.pv (enc YY)) (.req (.abs (Lin) (fun YY=>AV.pv (enc YY)) (.nil))))))) h (by kernel_rfl)
def Jd:IC:=(.seq (.reg [⟨(some 0),(.mv (.c (.bool false))),0,none⟩] none) (.seq (.reg [⟨(some 9),(.bslice 9 1 2 (.str []) [(0,(.c (.str [110]))),(1,(.c (.str [109])))]),0,none⟩,⟨(some 10),(.build [(.sl 0 true []),(.int .i64 0)] [(0,(1,(.t 9))),(1,(1,(.c (.int .i64 3))))]),1,none⟩,⟨(some 1),(.alloc (.agg [(.sl 0 true []),(.int .i64 0)])),1,none⟩,⟨none,(.store 2 (.t 1) (.t 10)),2,none⟩] none) (.seq (.reg [⟨(some 11),(.call (.c (.fn 115)) [(.c (.int .i64 1)),(.c (.int .i64 (-1))),(.c (.int .i64 (-1)))]),0,none⟩,⟨(some 12),(.bslice 100 3 1 (.agg [(.bool false),(.int .i64 0),(.sl 0 true [])]) [(0,(.t 11))]),2,none⟩,⟨(some 2),(.mv (.t 12)),3,none⟩] none) (.seq (.reg [⟨(some 14),(.load true [(.sl 1),(.int .i64)] (.t 1)),0,none⟩,⟨(some 15),(.mv (.t 2)),0,none⟩,⟨(some 16),(.call (.c (.fn 47)) [(.t 14),(.t 15)]),0,none⟩,⟨(some 13),(.mv (.t 16)),2,none⟩,⟨(some 17),(.extract (.t 13) 0),2,none⟩,⟨(some 18),(.extract (.t 13) 1),2,none⟩,⟨(some 3),(.mv (.t 17)),2,none⟩,⟨(some 4),(.mv (.t 18)),2,none⟩] none) (.seq (.reg [⟨(some 20),(.load true [(.sl 1),(.int .i64)] (.t 1)),0,none⟩,⟨(some 21),(.mv (.t 2)),0,none⟩,⟨(some 22),(.call (.c (.fn 115)) [(.c (.int .i64 2)),(.c (.int .i64 1)),(.c (.int .i64 0))]),0,none⟩,⟨(some 23),(.field true 1 2 (.t 22)),2,none⟩,⟨(some 24),(.call (.c (.fn 58)) [(.t 20),(.t 21),(.t 23)]),2,none⟩,⟨(some 19),(.mv (.t 24)),4,none⟩,⟨(some 25),(.extract (.t 19) 0),4,none⟩,⟨(some 26),(.extract (.t 19) 1),4,none⟩,⟨(some 5),(.mv (.t 25)),4,none⟩,⟨(some 6),(.mv (.t 26)),4,none⟩] (some [[],[],[],[2],[0,1,3,2],[4,0,1,3,2],[5,4,0,1,3,2],[5,4,0,1,3,2],[6,4,0,1,2,3,5],[7,8,0,1,2,3,4,5,6]])) (.seq (.reg [⟨(some 28),(.load true [(.sl 1),(.int .i64)] (.t 1)),0,none⟩,⟨(some 29),(.mv (.t 2)),0,none⟩,⟨(some 30),(.bslice 9 1 2 (.str []) [(0,(.c (.str [109]))),(1,(.c (.str [110])))]),0,none⟩,⟨(some 31),(.build [(.int .i64 0),(.sl 0 true [])] [(0,(1,(.c (.int .i64 1)))),(1,(1,(.t 30)))]),1,none⟩,⟨(some 32),(.bslice 104 2 1 (.agg [(.int .i64 0),(.sl 0 true [])]) [(0,(.t 31))]),1,none⟩,⟨(some 33),(.call (.c (.fn 57)) [(.t 28),(.t 29),(.t 32)]),2,none⟩,⟨(some 27),(.mv (.t 33)),4,none⟩,⟨(some 34),(.extract (.t 27) 0),4,none⟩,⟨(some 35),(.extract (.t 27) 1),4,none⟩,⟨(some 7),(.mv (.t 34)),4,none⟩,⟨(some 8),(.mv (.t 35)),4,none⟩] none) (.seq (.reg [⟨(some 36),(.mv (.t 3)),0,none⟩,⟨(some 37),(.bin .num .eql (.t 36) (.c (.int .i64 6))),0,none⟩,⟨(some 38),(.mv (.t 37)),0,none⟩,⟨(some 39),(.mv (.t 5)),0,(some (38,true))⟩,⟨(some 40),(.bin .num .eql (.t 39) (.c (.int .i64 2))),0,(some (38,true))⟩,⟨(some 41),(.pick (.t 38) (.t 40) (.c (.bool false))),0,none⟩,⟨(some 42),(.mv (.t 41)),0,none⟩,⟨(some 43),(.mv (.t 7)),0,(some (42,true))⟩,⟨(some 44),(.bin .num .eql (.t 43) (.c (.int .i64 11))),0,(some (42,true))⟩,⟨(some 45),(.pick (.t 42) (.t 44) (.c (.bool false))),0,none⟩,⟨(some 46),(.mv (.t 45)),0,none⟩,⟨(some 47),(.mv (.t 4)),0,(some (46,true))⟩,⟨(some 48),(.bin .num .eql (.t 47) (.c (.int .i64 0))),0,(some (46,true))⟩,⟨(some 49),(.pick (.t 46) (.t 48) (.c (.bool false))),0,none⟩,⟨(some 50),(.mv (.t 49)),0,none⟩,⟨(some 51),(.mv (.t 6)),0,(some (50,true))⟩,⟨(some 52),(.bin .num .eql (.t 51) (.c (.int .i64 0))),0,(some (50,true))⟩,⟨(some 53),(.pick (.t 50) (.t 52) (.c (.bool false))),0,none⟩,⟨(some 54),(.mv (.t 53)),0,none⟩,⟨(some 55),(.mv (.t 8)),0,(some (54,true))⟩,⟨(some 56),(.bin .num .eql (.t 55) (.c (.int .i64 0))),0,(some (54,true))⟩,⟨(some 57),(.pick (.t 54) (.t 56) (.c (.bool false))),0,none⟩,⟨(some 58),(.mv (.t 57)),0,none⟩,⟨(some 59),(.load true [(.sl 1),(.int .i64)] (.t 1)),0,(some (58,true))⟩,⟨(some 60),(.call (.c (.fn 50)) [(.t 59)]),0,(some (58,true))⟩,⟨(some 61),(.pick (.t 58) (.t 60) (.c (.bool false))),2,none⟩,⟨(some 0),(.mv (.t 61)),2,none⟩] none) .ret)))))))
def Ju:List IRes:=[(.tmp 0)]
abbrev PW:Nat:=62
def Hv:ZE:=Y6 [(115,.pure (preT (fun _:Int×Int×Int×Unit=>true)) (Ze (fun x:Int×Int×Int×Unit=>Q2 x.1 x.2.1 x.2.2.1))),(47,.pure (preT (fun x:BoxT×List Fact×Unit=>ZA x.1&&Zi x.2.1&&decide (x.2.1.length<=100)&&decide (x.1.v.length<=1000))) (Ze (fun x:BoxT×List Fact×Unit=>Ko x.1 x.2.1))),(58,.pure (preT (fun x:BoxT×List Fact×Lin×Unit=>UD x.1 x.2.1 x.2.2.1)) (Ze (fun x:BoxT×List Fact×Lin×Unit=>UJ Yi x.1 x.2.1 x.2.2.1))),(57,.pure (preT (fun x:BoxT×List Fact×List Mono×Unit=>JA x.1 x.2.1 x.2.2.1)) (Ze (fun x:BoxT×List Fact×List Mono×Unit=>Wq x.1 x.2.1 x.2.2.1))),(50,.pure (preT (fun x:BoxT×Unit=>ZA x.1)) (Ze (fun x:BoxT×Unit=>YC x.1)))]
theorem F2{G:PV->Prop}(h : ∃ y0:Fact,AV.pv (Ze (fun(x:Int×Int×Int×Unit)=>Q2 x.1 x.2.1 x.2.2.1) [(.int .i64 1),(.int .i64 (-1)),(.int .i64 (-1))])=AV.pv (enc y0)∧((Go.Pl.preT (fun(x:BoxT×List Fact×Unit)=>ZA x.1&&Zi x.2.1&&decide (List.length x.2.1<=100)&&decide (List.length x.1.v<=1000)) [(.agg [(.sl 1 false [(.str [(110:UInt8)]),(.str [(109:UInt8)])]),(.int .i64 3)]),(.sl 3 false [(.agg [(.bool y0.eq),(.int .i64 (Lin.k y0.l)),(.sl 2 false (List.map enc (Lin.t y0.l)))])])])=true∧(∃ y1:Int×Int,AV.pv (Ze (fun(x:BoxT×List Fact×Unit)=>Ko x.1 x.2.1) [(.agg [(.sl 1 false [(.str [(110:UInt8)]),(.str [(109:UInt8)])]),(.int .i64 3)]),(.sl 3 false [(.agg [(.bool y0.eq),(.int .i64 (Lin.k y0.l)),(.sl 2 false (List.map enc (Lin.t y0.l)))])])])=AV.pv (enc y1)∧(∃ y2:Fact,AV.pv (Ze (fun(x:Int×Int×Int×Unit)=>Q2 x.1 x.2.1 x.2.2.1) [(.int .i64 2),(.int .i64 1),(.int .i64 0)])=AV.pv (enc y2)∧((Go.Pl.preT (fun(x:BoxT×List Fact×Lin×Unit)=>UD x.1 x.2.1 x.2.2.1) [(.agg [(.sl 1 false [(.str [(110:UInt8)]),(.str [(109:UInt8)])]),(.int .i64 3)]),(.sl 3 false [(.agg [(.bool y0.eq),(.int .i64 (Lin.k y0.l)),(.sl 2 false (List.map enc (Lin.t y0.l)))])]),(.agg [(.int .i64 (Lin.k y2.l)),(.sl 2 false (List.map enc (Lin.t y2.l)))])])=true∧(∃ y3:Int×Int,AV.pv (Ze (fun(x:BoxT×List Fact×Lin×Unit)=>UJ Yi x.1 x.2.1 x.2.2.1) [(.agg [(.sl 1 false [(.str [(110:UInt8)]),(.str [(109:UInt8)])]),(.int .i64 3)]),(.sl 3 false [(.agg [(.bool y0.eq),(.int .i64 (Lin.k y0.l)),(.sl 2 false (List.map enc (Lin.t y0.l)))])]),(.agg [(.int .i64 (Lin.k y2.l)),(.sl 2 false (List.map enc (Lin.t y2.l)))])])=AV.pv (enc y3)∧((Go.Pl.preT (fun(x:BoxT×List Fact×List Mono×Unit)=>JA x.1 x.2.1 x.2.2.1) [(.agg [(.sl 1 false [(.str [(110:UInt8)]),(.str [(109:UInt8)])]),(.int .i64 3)]),(.sl 3 false [(.agg [(.bool y0.eq),(.int .i64 (Lin.k y0.l)),(.sl 2 false (List.map enc (Lin.t y0.l)))])]),(.sl 2 false [(.agg [(.int .i64 1),(.sl 1 false [(.str [(109:UInt8)]),(.str [(110:UInt8)])])])])])=true∧(∃ y4:Int×Int,AV.pv (Ze (fun(x:BoxT×List Fact×List Mono×Unit)=>Wq x.1 x.2.1 x.2.2.1) [(.agg [(.sl 1 false [(.str [(110:UInt8)]),(.str [(109:UInt8)])]),(.int .i64 3)]),(.sl 3 false [(.agg [(.bool y0.eq),(.int .i64 (Lin.k y0.l)),(.sl 2 false (List.map enc (Lin.t y0.l)))])]),(.sl 2 false [(.agg [(.int .i64 1),(.sl 1 false [(.str [(109:UInt8)]),(.str [(110:UInt8)])])])])])=AV.pv (enc y4)∧(if (y1.1==6)=true then if (y3.1==2)=true then if (y4.1==11)=true then if (y1.2==0)=true then if (y3.2==0)=true then if (y4.2==0)=true then ∃ y5:Bool,AV.pv (Ze (fun(x:BoxT×Unit)=>YC x.1) [(.agg [(.sl 1 false [(.str [(110:UInt8)]),(.str [(109:UInt8)])]),(.int .i64 3)])])=AV.pv (enc y5)∧(G ((.bool y5)))else(G ((.bool false)))else(G ((.bool false)))else(G ((.bool false)))else(G ((.bool false)))else(G ((.bool false)))else(G ((.bool false)))))))))))):Zc Hv 0 (Za Ju G) Jd [] (Z5 62 []):=Zc.tp (.lit (.lit (.abs (Fact) (fun YY=>AV.pv (enc YY)) (.lit (.lit (.lit (.req (.abs (Int×Int) (fun YY=>AV.pv (enc YY)) (.lit (.abs (Fact) (fun YY=>AV.pv (enc YY)) (.lit (.lit (.req (.abs (Int×Int) (fun YY=>AV.pv (enc YY)) (.lit (.lit (.lit (.lit (.lit (.lit (.req (.abs (Int×Int) (fun YY=>AV.pv (enc YY)) (.lit (.ask (.lit (.lit (.lit (.ask (.lit (.lit (.lit (.ask (.lit (.lit (.lit (.ask (.lit (.lit (.lit (.ask (.lit (.lit (.lit (.ask (.lit (.lit (.lit (.abs (Bool) (fun YY=>AV.pv (enc YY)) (.lit (.nil)))))) (.lit (.lit (.nil))))))) (.lit (.lit (.lit (.lit (.lit (.nil)))))))))) (.lit (.lit (.lit (.lit (.lit (.lit (.lit (.lit (.nil))))))))))))) (.lit (.lit (.lit (.lit (.lit (.lit (.lit (.lit (.lit (.lit (.lit (.nil)))))))))))))))) (.lit (.lit (.lit (.lit (.lit (.lit (.lit (.lit (.lit (.lit (.lit (.lit (.lit (.lit (.nil))))))))))))))))))) (.lit (.lit (.lit (.lit (.lit (.lit (.lit (.lit (.lit (.lit (.lit (.lit (.lit (.lit (.lit (.lit (.lit (.nil)))))))))))))))))))))))))))))))))))))))))) h (by kernel_rfl)
end Go.Pl

namespace Go.Pl
open Go.RowKit
open Enc (enc dec is)
open EncL (encL decL isL)
theorem a4i: ∀ x:List Mono×Unit,Y9 x.1=true->Zc Ch 0 (Za JS (Zg (ZG x.1))) J9 [] (Z5 a9r (encL x)):=by
 rintro⟨p,⟨⟩⟩ h
 have h:p=[]:=by simpa [Y9]using h
 subst h
 exact b6d (b0h (ZK rfl))
theorem Ff: ∀ x:List Mono×Unit,Y9 x.1=true->Zc JP 0 (Za Ka (Zg (WO x.1))) Q4 [] (Z5 a6h (encL x)):=by
 rintro⟨p,⟨⟩⟩ h
 have h:p=[]:=by simpa [Y9]using h
 subst h
 exact a7c (Zh (([]:List Mono),()) rfl (ZI (by decide) (a3u ⟨rfl,rfl⟩)))
theorem TS: ∀ x:Int×Int×Int×Unit,(fun _:Int×Int×Int×Unit=>true) x=true->Zc HN 0 (Za Jj (Zg (Q2 x.1 x.2.1 x.2.2.1))) Ji [] (Z5 Mn (encL x)):=by
 rintro⟨a,b,c,⟨⟩⟩ -
 have h1:=D1 ⟨c,[]⟩ xN a
 refine O0 a b c (Zh (c,()) rfl ⟨Zj ((⟨c,[]⟩:Lin),xN,a,()) rfl rfl,Zh ((⟨c,[]⟩:Lin),xN,a,()) rfl ⟨Zj (W3 ⟨c,[]⟩ xN a,xM,b,()) rfl ?_,Zh (W3 ⟨c,[]⟩ xN a,xM,b,()) rfl ?_⟩⟩)
 ·exact decide_eq_true (Nat.le_trans h1 (show 0+1<=1000000 by decide))
 ·exact ZO (x:=Q2 a b c) rfl
def HF:BoxT:=⟨[xN,xM],3⟩
def Hr:Fact:=⟨false,⟨-1,[⟨xM,-1⟩,⟨xN,1⟩]⟩⟩
def Oc:Lin:=⟨0,[⟨xM,1⟩,⟨xN,2⟩]⟩
def O7:List Mono:=[⟨1,[xM,xN]⟩]
theorem a8y:Q2 1 (-1) (-1)=Hr:=by decide
theorem b3y:(Q2 2 1 0).l=Oc:=by decide
theorem Mc:ZP HF [Hr]=[[1,0],[2,0],[2,1],[3,0],[3,1],[3,2]]:=by kernel_rfl
theorem a5g:Zq HF [Hr] true [xM,xN]=0:=by kernel_rfl
theorem b1p:Zq HF [Hr] true []=0:=by kernel_rfl
theorem Ej:Ko HF [Hr]=(6,0):=by
 unfold Ko ZT
 rw[if_pos b1p,Mc];rfl
theorem E4:UJ Yi HF [Hr] Oc=(2,0):=by
 have h1:Zp Oc=true:=by kernel_rfl
 have h2:Zd Oc=[xM,xN]:=rfl
 unfold UJ YB
 rw[h1,h2,if_pos a5g,Mc]
 decide +kernel
theorem b4z:Wq HF [Hr] O7=(11,0):=by
 have h1:ZG O7=true:=by kernel_rfl
 have h2:Yt O7=[xM,xN]:=by rw[As];kernel_rfl
 unfold Wq
 rw[h1,h2,if_pos a5g,Mc]
 decide +kernel
theorem S7: ∀ a:Unit,(fun _:Unit=>true) a=true->Zc Hv 0 (Za Ju (Zg true)) Jd [] (Z5 PW (encL a)):=by
 rintro⟨⟩ -
 refine F2 (Zh ((1:Int),(-1:Int),(-1:Int),()) rfl ?_)
 simp only[a8y]
 refine⟨Zj (HF,[Hr],()) rfl (by decide),Zh (HF,[Hr],()) rfl (Zh ((2:Int),(1:Int),(0:Int),()) rfl ?_)⟩
 simp only[Ej,b3y]
 refine⟨Zj (HF,[Hr],Oc,()) rfl (by decide),Zh (HF,[Hr],Oc,()) rfl ?_⟩
 simp only[E4]
 refine⟨Zj (HF,[Hr],O7,()) rfl (by decide),Zh (HF,[Hr],O7,()) rfl ?_⟩
 simp only[b4z]
 refine ZC rfl (ZC rfl (ZC rfl (ZC rfl (ZC rfl (ZC rfl (Zh (HF,()) rfl (ZK ?_)))))))
 kernel_rfl
end Go.Pl

namespace Go.Pl
open Go.RowKit
open Enc (enc dec is)
open EncL (encL decL isL)
set_option maxRecDepth 100000
def VE:IC:=(.seq (.reg [⟨(some 3),(.box 2 (.t 0)),0,none⟩,⟨(some 6),(.mv (.c (.bool false))),1,none⟩] none) (.seq (.seq (.reg [⟨(some 17),(.call (.c (.fn 43)) []),0,none⟩,⟨(some 18),(.un .not (.t 17)),2,none⟩] none) (.cond (.t 18) (.seq (.reg [⟨(some 6),(.mv (.c (.bool false))),0,none⟩] none) .ret) .skip)) (.seq (.seq (.reg [⟨(some 19),(.load true [(.sl 1),(.int .i64)] (.t 3)),0,none⟩,⟨(some 20),(.mv (.t 1)),0,none⟩,⟨(some 21),(.call (.c (.fn 44)) [(.t 19),(.t 20)]),0,none⟩,⟨(some 22),(.un .not (.t 21)),2,none⟩,⟨(some 23),(.mv (.t 22)),2,none⟩,⟨(some 24),(.mv (.t 2)),2,(some (23,false))⟩,⟨(some 25),(.len 1 (.t 24)),2,(some (23,false))⟩,⟨(some 26),(.bin .num .gtr (.t 25) (.c (.int .i64 8))),2,(some (23,false))⟩,⟨(some 27),(.pick (.t 23) (.c (.bool true)) (.t 26)),2,none⟩] none) (.cond (.t 27) (.seq (.reg [⟨(some 6),(.mv (.c (.bool true))),0,none⟩] none) .ret) .skip)) (.seq (.reg [⟨(some 28),(.load true [(.sl 1),(.int .i64)] (.t 3)),0,none⟩,⟨(some 7),(.alloc (.agg [(.sl 0 true []),(.int .i64 0)])),0,none⟩,⟨none,(.store 2 (.t 7) (.t 28)),1,none⟩] none) (.seq (.reg [⟨(some 30),(.load true [(.sl 1),(.int .i64)] (.t 7)),0,none⟩,⟨(some 31),(.mv (.t 1)),0,none⟩,⟨(some 32),(.call (.c (.fn 45)) [(.t 30),(.t 31)]),0,none⟩,⟨(some 29),(.mv (.t 32)),2,none⟩,⟨(some 33),(.extract (.t 29) 0),2,none⟩,⟨(some 34),(.extract (.t 29) 1),2,none⟩,⟨(some 8),(.mv (.t 33)),2,none⟩,⟨(some 9),(.mv (.t 34)),2,none⟩] none) (.seq (.reg [⟨(some 36),(.load true [(.sl 1),(.int .i64)] (.t 3)),0,none⟩,⟨(some 37),(.mv (.t 1)),0,none⟩,⟨(some 38),(.call (.c (.fn 46)) [(.t 36),(.t 37)]),0,none⟩,⟨(some 35),(.mv (.t 38)),2,none⟩,⟨(some 39),(.extract (.t 35) 0),2,none⟩,⟨(some 40),(.extract (.t 35) 1),2,none⟩,⟨(some 10),(.mv (.t 39)),2,none⟩,⟨(some 11),(.mv (.t 40)),2,none⟩] none) (.seq (.reg [⟨(some 42),(.load true [(.sl 1),(.int .i64)] (.t 7)),0,none⟩,⟨(some 43),(.mv (.t 1)),0,none⟩,⟨(some 44),(.call (.c (.fn 47)) [(.t 42),(.t 43)]),0,none⟩,⟨(some 41),(.mv (.t 44)),2,none⟩,⟨(some 45),(.extract (.t 41) 0),2,none⟩,⟨(some 46),(.extract (.t 41) 1),2,none⟩,⟨(some 12),(.mv (.t 45)),2,none⟩,⟨(some 13),(.mv (.t 46)),2,none⟩] none) (.seq (.reg [⟨(some 47),(.load true [(.sl 1),(.int .i64)] (.t 7)),0,none⟩,⟨(some 48),(.mv (.t 2)),0,none⟩,⟨(some 49),(.call (.c (.fn 48)) [(.t 47),(.t 48)]),0,none⟩,⟨(some 50),(.load true [(.sl 1),(.int .i64)] (.t 3)),2,none⟩,⟨(some 51),(.mv (.t 2)),2,none⟩,⟨(some 52),(.call (.c (.fn 49)) [(.t 50),(.t 51)]),2,none⟩,⟨(some 14),(.mv (.t 49)),4,none⟩,⟨(some 15),(.mv (.t 52)),4,none⟩] (some [[],[],[0,1],[],[],[3,4,2,0,1],[2,5,0,1,3,4],[5,6,0,1,2,3,4]])) (.seq (.seq (.reg [⟨(some 53),(.mv (.t 14)),0,none⟩,⟨(some 54),(.len 1 (.t 53)),0,none⟩,⟨(some 55),(.mv (.t 15)),0,none⟩,⟨(some 56),(.len 1 (.t 55)),0,none⟩,⟨(some 57),(.bin .num .neq (.t 54) (.t 56)),0,none⟩] none) (.cond (.t 57) (.seq (.reg [⟨(some 6),(.mv (.c (.bool false))),0,none⟩] none) .ret) .skip)) (.seq (.seq (.reg [⟨(some 16),(.mv (.c (.int .i64 0))),0,none⟩] none) (.block 0 (.loop [16,14,15,7,3,8,10,9,11,12,13] (.seq (.seq (.reg [⟨(some 58),(.mv (.t 16)),0,none⟩,⟨(some 59),(.mv (.t 14)),0,none⟩,⟨(some 60),(.len 1 (.t 59)),0,none⟩,⟨(some 61),(.bin .num .lss (.t 58) (.t 60)),0,none⟩] none) (.cond (.t 61) .skip (.exit 0))) (.seq (.block 1 (.seq (.reg [⟨(some 64),(.mv (.t 14)),0,none⟩,⟨(some 65),(.mv (.t 16)),0,none⟩,⟨(some 66),(.iaddr 2 (.t 64) (.t 65)),0,none⟩,⟨(some 67),(.load true [.str,(.int .i64)] (.t 66)),0,none⟩,⟨(some 68),(.mv (.t 15)),0,none⟩,⟨(some 69),(.mv (.t 16)),0,none⟩,⟨(some 70),(.iaddr 2 (.t 68) (.t 69)),0,none⟩,⟨(some 71),(.load true [.str,(.int .i64)] (.t 70)),0,none⟩,⟨(some 72),(.bin (.agg [1,0]) .neq (.t 67) (.t 71)),0,none⟩] (some [[],[],[0,1],[2,0,1],[],[],[4,5],[6,4,5],[3,7,2,0,1,6,4,5]])) (.cond (.t 72) (.seq (.reg [⟨(some 6),(.mv (.c (.bool false))),0,none⟩] none) .ret) .skip))) (.reg [⟨(some 62),(.mv (.t 16)),0,none⟩,⟨(some 63),(.bin .num .add (.t 62) (.c (.int .i64 1))),0,none⟩,⟨(some 16),(.mv (.t 63)),0,none⟩] none)))))) (.seq (.reg [⟨(some 73),(.load true [(.sl 1),(.int .i64)] (.t 7)),0,none⟩,⟨(some 74),(.call (.c (.fn 50)) [(.t 73)]),0,none⟩,⟨(some 75),(.load true [(.sl 1),(.int .i64)] (.t 3)),2,none⟩,⟨(some 76),(.call (.c (.fn 51)) [(.t 75)]),2,none⟩,⟨(some 77),(.bin .bool .eql (.t 74) (.t 76)),4,none⟩,⟨(some 78),(.mv (.t 77)),4,none⟩,⟨(some 79),(.mv (.t 8)),4,(some (78,true))⟩,⟨(some 80),(.mv (.t 10)),4,(some (78,true))⟩,⟨(some 81),(.call (.c (.fn 52)) [(.t 79),(.t 80)]),4,(some (78,true))⟩,⟨(some 82),(.pick (.t 78) (.t 81) (.c (.bool false))),6,none⟩,⟨(some 83),(.mv (.t 82)),6,none⟩,⟨(some 84),(.mv (.t 9)),6,(some (83,true))⟩,⟨(some 85),(.mv (.t 11)),6,(some (83,true))⟩,⟨(some 86),(.bin .num .eql (.t 84) (.t 85)),6,(some (83,true))⟩,⟨(some 87),(.pick (.t 83) (.t 86) (.c (.bool false))),6,none⟩,⟨(some 88),(.mv (.t 87)),6,none⟩,⟨(some 89),(.mv (.t 12)),6,(some (88,true))⟩,⟨(some 90),(.mv (.t 10)),6,(some (88,true))⟩,⟨(some 91),(.len 1 (.t 90)),6,(some (88,true))⟩,⟨(some 92),(.bin .num .eql (.t 89) (.t 91)),6,(some (88,true))⟩,⟨(some 93),(.pick (.t 88) (.t 92) (.c (.bool false))),6,none⟩,⟨(some 94),(.mv (.t 93)),6,none⟩,⟨(some 95),(.mv (.t 13)),6,(some (94,true))⟩,⟨(some 96),(.mv (.t 11)),6,(some (94,true))⟩,⟨(some 97),(.bin .num .eql (.t 95) (.t 96)),6,(some (94,true))⟩,⟨(some 98),(.pick (.t 94) (.t 97) (.c (.bool false))),6,none⟩,⟨(some 6),(.mv (.t 98)),6,none⟩] (some [[],[0],[],[2,1,0],[1,3,0,2],[4,3,1,0,2],[5,4,3,1,0,2],[5,4,3,1,0,2],[6,7,5,4,3,1,0,2],[5,8,4,3,1,0,2,6,7],[9,8,5,4,3,1,0,2,6,7],[10,9,8,5,4,3,1,0,2,6,7],[10,9,8,5,4,3,1,0,2,6,7],[11,12,10,9,8,5,4,3,1,0,2,6,7],[10,13,9,8,5,4,3,1,0,2,6,7,11,12],[14,10,13,9,8,5,4,3,1,0,2,6,7,11,12],[15,14,10,13,9,8,5,4,3,1,0,2,6,7,11,12],[15,14,10,13,9,8,5,4,3,1,0,2,6,7,11,12],[17,15,14,10,13,9,8,5,4,3,1,0,2,6,7,11,12],[16,18,15,14,10,13,9,8,5,4,3,1,0,2,6,7,11,12,17],[15,19,14,10,13,9,8,5,4,3,1,0,2,6,7,11,12,16,18,17],[20,15,19,14,10,13,9,8,5,4,3,1,0,2,6,7,11,12,16,18,17],[21,20,15,19,14,10,13,9,8,5,4,3,1,0,2,6,7,11,12,16,18,17],[21,20,15,19,14,10,13,9,8,5,4,3,1,0,2,6,7,11,12,16,18,17],[22,23,21,20,15,19,14,10,13,9,8,5,4,3,1,0,2,6,7,11,12,16,18,17],[21,24,20,15,19,14,10,13,9,8,5,4,3,1,0,2,6,7,11,12,16,18,17,22,23],[25,21,0,1,2,3,4,5,6,7,8,9,10,11,12,13,14,15,16,17,18,19,20,22,23,24]])) .ret)))))))))))
def VH:List IRes:=[(.tmp 6)]
abbrev Fg:Nat:=99
def Uj:ZE:=Y6 [(43,.pure (preT (fun _:Unit=>true)) (Ze (fun _:Unit=>true))),(44,.pure (preT (fun x:BoxT×List Fact×Unit=>ZA x.1&&YP x.2.1)) (Ze (fun x:BoxT×List Fact×Unit=>UL x.1 x.2.1))),(45,.pure (preT (fun x:BoxT×List Fact×Unit=>ZA x.1&&Zi x.2.1&&decide (x.2.1.length<=100)&&decide (x.1.v.length<=1000))) (Ze (fun x:BoxT×List Fact×Unit=>ZT x.1 x.2.1))),(46,.pure (preT (fun x:BoxT×List Fact×Unit=>ZA x.1&&Zi x.2.1&&decide (x.2.1.length<=100)&&decide (x.1.v.length<=1000))) (Ze (fun x:BoxT×List Fact×Unit=>ZT x.1 x.2.1))),(47,.pure (preT (fun x:BoxT×List Fact×Unit=>ZA x.1&&Zi x.2.1&&decide (x.2.1.length<=100)&&decide (x.1.v.length<=1000))) (Ze (fun x:BoxT×List Fact×Unit=>Ko x.1 x.2.1))),(48,.pure (preT (fun x:BoxT×List Int×Unit=>decide (x.1.v.length<=1000)&&Zn x.2.1)) (Ze (fun x:BoxT×List Int×Unit=>Zf x.1.v x.2.1))),(49,.pure (preT (fun x:BoxT×List Int×Unit=>decide (x.1.v.length<=1000)&&Zn x.2.1)) (Ze (fun x:BoxT×List Int×Unit=>Zf x.1.v x.2.1))),(50,.pure (preT (fun x:BoxT×Unit=>ZA x.1)) (Ze (fun x:BoxT×Unit=>YC x.1))),(51,.pure (preT (fun x:BoxT×Unit=>ZA x.1)) (Ze (fun x:BoxT×Unit=>YC x.1))),(52,.pure (preT (fun x:List (List Int)×List (List Int)×Unit=>Zn x.1&&x.1.all Zn)) (Ze (fun x:List (List Int)×List (List Int)×Unit=>decide (x.1=x.2.1))))]
theorem a2l{G:PV->Prop}(b:BoxT)(fs:List Fact)(p:List Int)(h : ∃ y0:Bool,AV.pv (Ze (fun(x:Unit)=>true) [])=AV.pv (enc y0)∧(if (!y0)=true then G ((.bool false))else((Go.Pl.preT (fun(x:BoxT×List Fact×Unit)=>ZA x.1&&YP x.2.1) [(.agg [(.sl 1 false (List.map enc b.v)),(.int .i64 b.m)]),(.sl 3 false (List.map enc fs))])=true∧(∃ y1:Bool,AV.pv (Ze (fun(x:BoxT×List Fact×Unit)=>UL x.1 x.2.1) [(.agg [(.sl 1 false (List.map enc b.v)),(.int .i64 b.m)]),(.sl 3 false (List.map enc fs))])=AV.pv (enc y1)∧(if (!y1)=true then G ((.bool true))else(if (decide ((↑(List.length (List.map enc p)):Int)>8))=true then G ((.bool true))else((Go.Pl.preT (fun(x:BoxT×List Fact×Unit)=>ZA x.1&&Zi x.2.1&&decide (List.length x.2.1<=100)&&decide (List.length x.1.v<=1000)) [(.agg [(.sl 1 false (List.map enc b.v)),(.int .i64 b.m)]),(.sl 3 false (List.map enc fs))])=true∧(∃ y2:List (List Int)×Int,AV.pv (Ze (fun(x:BoxT×List Fact×Unit)=>ZT x.1 x.2.1) [(.agg [(.sl 1 false (List.map enc b.v)),(.int .i64 b.m)]),(.sl 3 false (List.map enc fs))])=AV.pv (enc y2)∧((Go.Pl.preT (fun(x:BoxT×List Fact×Unit)=>ZA x.1&&Zi x.2.1&&decide (List.length x.2.1<=100)&&decide (List.length x.1.v<=1000)) [(.agg [(.sl 1 false (List.map enc b.v)),(.int .i64 b.m)]),(.sl 3 false (List.map enc fs))])=true∧(∃ y3:List (List Int)×Int,AV.pv (Ze (fun(x:BoxT×List Fact×Unit)=>ZT x.1 x.2.1) [(.agg [(.sl 1 false (List.map enc b.v)),(.int .i64 b.m)]),(.sl 3 false (List.map enc fs))])=AV.pv (enc y3)∧((Go.Pl.preT (fun(x:BoxT×List Fact×Unit)=>ZA x.1&&Zi x.2.1&&decide (List.length x.2.1<=100)&&decide (List.length x.1.v<=1000)) [(.agg [(.sl 1 false (List.map enc b.v)),(.int .i64 b.m)]),(.sl 3 false (List.map enc fs))])=true∧(∃ y4:Int×Int,AV.pv (Ze (fun(x:BoxT×List Fact×Unit)=>Ko x.1 x.2.1) [(.agg [(.sl 1 false (List.map enc b.v)),(.int .i64 b.m)]),(.sl 3 false (List.map enc fs))])=AV.pv (enc y4)∧((Go.Pl.preT (fun(x:BoxT×List Int×Unit)=>decide (List.length x.1.v<=1000)&&Zn x.2.1) [(.agg [(.sl 1 false (List.map enc b.v)),(.int .i64 b.m)]),(.sl 1 false (List.map enc p))])=true∧(∃ y5:List Coef,AV.pv (Ze (fun(x:BoxT×List Int×Unit)=>Zf x.1.v x.2.1) [(.agg [(.sl 1 false (List.map enc b.v)),(.int .i64 b.m)]),(.sl 1 false (List.map enc p))])=AV.pv (enc y5)∧((Go.Pl.preT (fun(x:BoxT×List Int×Unit)=>decide (List.length x.1.v<=1000)&&Zn x.2.1) [(.agg [(.sl 1 false (List.map enc b.v)),(.int .i64 b.m)]),(.sl 1 false (List.map enc p))])=true∧(∃ y6:List Coef,AV.pv (Ze (fun(x:BoxT×List Int×Unit)=>Zf x.1.v x.2.1) [(.agg [(.sl 1 false (List.map enc b.v)),(.int .i64 b.m)]),(.sl 1 false (List.map enc p))])=AV.pv (enc y6)∧(if ((↑(List.length (List.map enc y5)):Int) != (↑(List.length (List.map enc y6)):Int))=true then G ((.bool false))else(At Uj 0 (Za VH G) VE 0 99 [(3,(.ptr 0 0)),(7,(.ptr 1 0)),(8,(.pv (.sl 1 false (List.map enc y2.1)))),(9,(.pv (.int .i64 y2.2))),(10,(.pv (.sl 1 false (List.map enc y3.1)))),(11,(.pv (.int .i64 y3.2))),(12,(.pv (.int .i64 y4.1))),(13,(.pv (.int .i64 y4.2))),(14,(.pv (.sl 2 false (List.map enc y5)))),(15,(.pv (.sl 2 false (List.map enc y6)))),(16,(.pv (.int .i64 0)))] [(.obj (.box [(.pv (.sl 1 false (List.map enc b.v))),(.pv (.int .i64 b.m))])),(.obj (.box [(.pv (.sl 1 false (List.map enc b.v))),(.pv (.int .i64 b.m))]))])))))))))))))))))):Zc Uj 0 (Za VH G) VE [] (Z5 99 [enc b,enc fs,enc p]):=Zc.tp (.lit (.abs (Bool) (fun YY=>AV.pv (enc YY)) (.ask (.nil) (.req (.abs (Bool) (fun YY=>AV.pv (enc YY)) (.ask (.lit (.lit (.lit (.lit (.nil))))) (.lit (.lit (.lit (.lit (.ask (.nil) (.req (.abs (List (List Int)×Int) (fun YY=>AV.pv (enc YY)) (.req (.abs (List (List Int)×Int) (fun YY=>AV.pv (enc YY)) (.req (.abs (Int×Int) (fun YY=>AV.pv (enc YY)) (.req (.abs (List Coef) (fun YY=>AV.pv (enc YY)) (.req (.abs (List Coef) (fun YY=>AV.pv (enc YY)) (.lit (.ask (.nil) (.nil)))))))))))))))))))))))) h (by kernel_rfl)
theorem Af{G:PV->Prop}(b:BoxT)(fs:List Fact)(p:List Int)(x:List (List Int))(e:Int)(y:List (List Int))(f n g:Int)(v w:List Coef)(i:Int)(h:if (decide (i<(↑(List.length (List.map enc v)):Int)))=true then(decide (0<=i)&&decide (Int.toNat i<List.length (List.map enc v))&&Enc.sz Coef==2)=true∧(∃ y0:Coef,AV.pv (PV.rptr (PV.cells (List.getD (List.map enc v) (Int.toNat i) default)))=AV.pv (PV.rptr (PV.cells ((enc) y0)))∧((decide (0<=i)&&decide (Int.toNat i<List.length (List.map enc w))&&Enc.sz Coef==2)=true∧(∃ y1:Coef,AV.pv (PV.rptr (PV.cells (List.getD (List.map enc w) (Int.toNat i) default)))=AV.pv (PV.rptr (PV.cells ((enc) y1)))∧(if (!(PV.asStr (List.getD (PV.cells (enc y0)) 0 default)==PV.asStr (List.getD (PV.cells (enc y1)) 0 default)&&(PV.asInt (List.getD (PV.cells (enc y0)) (0+1) default)==PV.asInt (List.getD (PV.cells (enc y1)) (0+1) default)&&true)))=true then G ((.bool false))else(At Uj 0 (Za VH G) VE 0 99 [(3,(.ptr 0 0)),(7,(.ptr 1 0)),(8,(.pv (.sl 1 false (List.map enc x)))),(9,(.pv (.int .i64 e))),(10,(.pv (.sl 1 false (List.map enc y)))),(11,(.pv (.int .i64 f))),(12,(.pv (.int .i64 n))),(13,(.pv (.int .i64 g))),(14,(.pv (.sl 2 false (List.map enc v)))),(15,(.pv (.sl 2 false (List.map enc w)))),(16,(.pv (.int .i64 (IntKind.wrap IntKind.i64 (i+1)))))] [(.obj (.box [(.pv (.sl 1 false (List.map enc b.v))),(.pv (.int .i64 b.m))])),(.obj (.box [(.pv (.sl 1 false (List.map enc b.v))),(.pv (.int .i64 b.m))]))])))))else((Go.Pl.preT (fun(x:BoxT×Unit)=>ZA x.1) [(.agg [(.sl 1 false (List.map enc b.v)),(.int .i64 b.m)])])=true∧(∃ y2:Bool,AV.pv (Ze (fun(x:BoxT×Unit)=>YC x.1) [(.agg [(.sl 1 false (List.map enc b.v)),(.int .i64 b.m)])])=AV.pv (enc y2)∧((Go.Pl.preT (fun(x:BoxT×Unit)=>ZA x.1) [(.agg [(.sl 1 false (List.map enc b.v)),(.int .i64 b.m)])])=true∧(∃ y3:Bool,AV.pv (Ze (fun(x:BoxT×Unit)=>YC x.1) [(.agg [(.sl 1 false (List.map enc b.v)),(.int .i64 b.m)])])=AV.pv (enc y3)∧(if (y2==y3)=true then(Go.Pl.preT (fun(x:List (List Int)×List (List Int)×Unit)=>Zn x.1&&List.all x.1 Zn) [(.sl 1 false (List.map enc x)),(.sl 1 false (List.map enc y))])=true∧(∃ y4:Bool,AV.pv (Ze (fun(x:List (List Int)×List (List Int)×Unit)=>decide (x.1=x.2.1)) [(.sl 1 false (List.map enc x)),(.sl 1 false (List.map enc y))])=AV.pv (enc y4)∧(if (y4)=true then if (e==f)=true then if (n==(↑(List.length (List.map enc y)):Int))=true then G ((.bool (g==f)))else(G ((.bool false)))else(G ((.bool false)))else(G ((.bool false)))))else(G ((.bool false))))))))):At Uj 0 (Za VH G) VE 0 99 [(3,.ptr 0 0),(7,.ptr 1 0),(8,.pv (enc x)),(9,.pv (.int .i64 e)),(10,.pv (enc y)),(11,.pv (.int .i64 f)),(12,.pv (.int .i64 n)),(13,.pv (.int .i64 g)),(14,.pv (enc v)),(15,.pv (enc w)),(16,.pv (.int .i64 i))] [.obj (.box [.pv (enc b.v),.pv (.int .i64 b.m)]),.obj (.box [.pv (enc b.v),.pv (.int .i64 b.m)])]:=At.tp (.lit (.ask (.req (.abs (Coef) (fun YY=>AV.pv (PV.rptr (PV.cells ((enc) YY)))) (.lit (.req (.abs (Coef) (fun YY=>AV.pv (PV.rptr (PV.cells ((enc) YY)))) (.lit (.lit (.ask (.nil) (.lit (.nil)))))))))) (.req (.abs (Bool) (fun YY=>AV.pv (enc YY)) (.req (.abs (Bool) (fun YY=>AV.pv (enc YY)) (.lit (.ask (.lit (.lit (.req (.abs (Bool) (fun YY=>AV.pv (enc YY)) (.lit (.ask (.lit (.lit (.lit (.lit (.ask (.lit (.lit (.lit (.lit (.lit (.ask (.lit (.lit (.lit (.lit (.nil))))) (.lit (.lit (.lit (.nil)))))))))) (.lit (.lit (.lit (.lit (.lit (.lit (.lit (.lit (.nil)))))))))))))) (.lit (.lit (.lit (.lit (.lit (.lit (.lit (.lit (.lit (.lit (.lit (.lit (.nil))))))))))))))))))) (.lit (.lit (.lit (.lit (.lit (.lit (.lit (.lit (.lit (.lit (.lit (.lit (.lit (.lit (.lit (.lit (.nil))))))))))))))))))))))))) h (by kernel_rfl)
def NB:IC:=(.seq (.reg [⟨(some 3),(.box 2 (.t 0)),0,none⟩,⟨(some 6),(.mv (.c (.bool false))),1,none⟩] none) (.seq (.reg [⟨(some 12),(.load true [(.sl 1),(.int .i64)] (.t 3)),0,none⟩,⟨(some 13),(.mv (.t 1)),0,none⟩,⟨(some 14),(.call (.c (.fn 45)) [(.t 12),(.t 13)]),0,none⟩,⟨(some 11),(.mv (.t 14)),2,none⟩,⟨(some 15),(.extract (.t 11) 0),2,none⟩,⟨(some 16),(.extract (.t 11) 1),2,none⟩,⟨(some 7),(.mv (.t 15)),2,none⟩,⟨(some 8),(.mv (.t 16)),2,none⟩] none) (.seq (.reg [⟨(some 18),(.load true [(.sl 1),(.int .i64)] (.t 3)),0,none⟩,⟨(some 19),(.mv (.t 2)),0,none⟩,⟨(some 20),(.call (.c (.fn 45)) [(.t 18),(.t 19)]),0,none⟩,⟨(some 17),(.mv (.t 20)),2,none⟩,⟨(some 21),(.extract (.t 17) 0),2,none⟩,⟨(some 22),(.extract (.t 17) 1),2,none⟩,⟨(some 9),(.mv (.t 21)),2,none⟩,⟨(some 10),(.mv (.t 22)),2,none⟩] none) (.seq (.reg [⟨(some 23),(.mv (.t 8)),0,none⟩,⟨(some 24),(.bin .num .eql (.t 23) (.c (.int .i64 0))),0,none⟩,⟨(some 25),(.mv (.t 24)),0,none⟩,⟨(some 26),(.mv (.t 10)),0,(some (25,true))⟩,⟨(some 27),(.bin .num .eql (.t 26) (.c (.int .i64 0))),0,(some (25,true))⟩,⟨(some 28),(.pick (.t 25) (.t 27) (.c (.bool false))),0,none⟩,⟨(some 29),(.mv (.t 28)),0,none⟩,⟨(some 30),(.mv (.t 7)),0,(some (29,true))⟩,⟨(some 31),(.mv (.t 9)),0,(some (29,true))⟩,⟨(some 32),(.call (.c (.fn 136)) [(.t 30),(.t 31),(.c (.fn 106))]),0,(some (29,true))⟩,⟨(some 33),(.pick (.t 29) (.t 32) (.c (.bool false))),2,none⟩,⟨(some 6),(.mv (.t 33)),2,none⟩] none) .ret))))
def PR:List IRes:=[(.tmp 6)]
def OT:ZE:=Y6 [(45,.pure (preT (fun x:BoxT×List Fact×Unit=>ZA x.1&&Zi x.2.1&&decide (x.2.1.length<=100)&&decide (x.1.v.length<=1000))) (Ze (fun x:BoxT×List Fact×Unit=>ZT x.1 x.2.1)))]
-- BAD 1 in OX
theorem OX{G:PV->Prop}(b:BoxT)(fs gs:List Fact)(h:(Go.Pl.preT (fun(x:BoxT×List Fact×Unit)=>ZA x.1&&Zi x.2.1&&decide (List.length x.2.1<=100)&&decide (List.length x.1.v<=1000)) [(.agg [(.sl 1 false (List.map enc b.v)),(.int .i64 b.m)]),(.sl 3 false (List.map enc fs))])=true∧(∃ y0:List (List Int)×Int,AV.pv (Ze (fun(x:BoxT×List Fact×Unit)=>ZT x.1 x.2.1) [(.agg [(.sl 1 false (List.map enc b.v)),(.int .i64 b.m)]),(.sl 3 false (List.map enc fs))])=AV.pv (enc y0)∧((Go.Pl.preT (fun(x:BoxT×List Fact×Unit)=>ZA x.1&&Zi x.2.1&&decide (List.length x.2.1<=100)&&decide (List.length x.1.v<=1000)) [(.agg [(.sl 1 false (List.map enc b.v)),(.int .i64 b.m)]),(.sl 3 false (List.map enc gs))])=true∧(∃ y1:List (List Int)×Int,AV.pv (Ze (fun(x:BoxT×List Fact×Unit)=>ZT x.1 x.2.1) [(.agg [(.sl 1 false (List.map enc b.v)),(.int .i64 b.m)]),(.sl 3 false (List.map enc gs))])=AV.pv (enc y1)∧(if (y0.2==0)=true then if (y1.2==0)=true then False else(G ((.bool false)))else(G ((.bool false)))))))):Zc OT 0 (Za PR G) NB [] (Z5 34 [enc b,enc fs,enc gs]):=Zc.tp (.req (.abs (List (List Int)×Int) (fun YY=>AV.pv (enc YY)) (.req (.abs (List (List Int)×Int) (fun YY=>AV.pv (enc YY)) (.lit (.ask (.lit (.lit (.lit (.ask (.lit (.lit (.nil))) (.lit (.lit (.lit (.nil)))))))) (.lit (.lit (.lit (.lit (.lit (.lit (.nil))))))))))))) h (by kernel_rfl)
end Go.Pl

namespace Go.Pl
open Go.RowKit
open Enc (enc dec is)
open EncL (encL decL isL)
theorem a8b{l:Lin}{n:Int}(h:JO l n=true)(hn:n<=1000):Yd l=true∧(l.t.length:Int)<=n:=by
 unfold JO at h
 simp only[Bool.and_eq_true,decide_eq_true_eq]at h
 refine⟨?_,h.2⟩
 unfold Yd Yq
 rw[Bool.and_eq_true]
 refine⟨decide_eq_true (by omega),List.all_eq_true.2 fun t ht=> ?_⟩
 have:=List.all_eq_true.1 h.1 t ht
 have:=of_decide_eq_true this
 exact decide_eq_true (by omega)
theorem B6{b:BoxT}{fs:List Fact}(h:UL b fs=true):b.v.length<=5∧fs.length<=6∧Zi fs=true∧(∀ f∈fs,JO f.l 8=true):=by
 unfold UL GE at h
 simp only[Bool.and_eq_true,decide_eq_true_eq]at h
 obtain⟨⟨⟨h1,h2⟩,h3⟩,h4,h5⟩:=h
 have h4:=List.all_eq_true.1 h4
 refine⟨h1,h3,?_,h4⟩
 unfold Zi
 rw[Bool.and_eq_true]
 exact⟨decide_eq_true (by omega),List.all_eq_true.2 fun f hf=>(a8b (h4 f hf) (by omega)).1⟩
theorem Fe{b:BoxT}{fs:List Fact}(hb:ZA b=true)(h:UL b fs=true):(ZA b&&Zi fs&&decide (fs.length<=100)&&decide (b.v.length<=1000))=true:=by
 obtain⟨h1,h2,h3,_⟩:=B6 h
 rw[hb,h3,decide_eq_true (by omega),decide_eq_true (by omega)];rfl
theorem OQ(b:BoxT)(fs:List Fact)(p:List Int)(hb:ZA b=true)(x:List (List Int))(e n g:Int)(v:List Coef)(hx:x.length<=9223372036854775807)(hxs:x.all Zn=true)(hn:n=x.length)(hg:g=e)(hv:v.length<=9223372036854775807):
  ∀ (k i:Nat),k+i=v.length->At Uj 0 (Za VH (Zg true)) VE 0 99 [(3,.ptr 0 0),(7,.ptr 1 0),(8,.pv (enc x)),(9,.pv (.int .i64 e)),(10,.pv (enc x)),(11,.pv (.int .i64 e)),(12,.pv (.int .i64 n)),(13,.pv (.int .i64 g)),(14,.pv (enc v)),(15,.pv (enc v)),(16,.pv (.int .i64 i))] [.obj (.box [.pv (enc b.v),.pv (.int .i64 b.m)]),.obj (.box [.pv (enc b.v),.pv (.int .i64 b.m)])]:=by
 subst hn hg
 intro k
 induction k with
 | zero=>
  intro i hi
  apply Af (G:=Zg true) b fs p x
  refine ZI (Xi (by omega)) ⟨Zj (b,()) rfl hb,Zh (b,()) rfl ⟨Zj (b,()) rfl hb,Zh (b,()) rfl ?_⟩⟩
  refine ZC (by simp) ⟨Zj (x,x,()) rfl (by show(Zn x&&x.all Zn)=true;rw[Zx.2 hx,hxs];rfl),Zh (x,x,()) rfl ?_⟩
  refine ZC (by simp) (ZC (by simp) (ZC (by simp) (ZK (by simp))))
 | succ k ih=>
  intro i hi
  have hlt:i<v.length:=by omega
  apply Af (G:=Zg true) b fs p x
  refine ZC (YN hlt) ⟨Zs hlt rfl,Zw hlt ⟨Zs hlt rfl,Zw hlt (ZI (by simp) ?_)⟩⟩
  rw[next (by omega)]
  exact ih (i+1) (by omega)
theorem b6h{b:BoxT}{fs:List Fact}(hr:(ZT b fs).1≠[]):YC b=true∧(ZT b fs).1=ZP b fs:=by
 unfold ZT at hr ⊢
 split at hr
 ·rename_i h0
  exact⟨(VX _ _ _ _ h0).1,by rw[if_pos h0]⟩
 ·exact absurd rfl hr
theorem FI{b:BoxT}{fs:List Fact}(hb:b.v.length<=1000):(ZT b fs).1.length<=20000∧(ZT b fs).1.all Zn=true:=by
 by_cases h:(ZT b fs).1=[]
 ·rw[h];exact⟨by simp,rfl⟩
 ·obtain⟨hv,e⟩:=b6h h
  rw[e]
  constructor
  ·unfold ZP
   refine Nat.le_trans (List.length_filter_le _ _) ?_
   rw[VG hv,Hd]
   exact GV hv
  ·refine List.all_eq_true.2 fun p hp=>Zx.2 ?_
   unfold ZP at hp
   rw[VG hv]at hp
   have:=(J7.1 (List.mem_filter.1 hp).1).1
   omega
theorem NE: ∀ x:BoxT×List Fact×List Int×Unit,(ZA x.1&&YP x.2.1&&Zn x.2.2.1)=true->Zc Uj 0 (Za VH (Zg true)) VE [] (Z5 Fg (encL x)):=by
 rintro⟨b,fs,p,⟨⟩⟩ hp
 simp only[Bool.and_eq_true]at hp
 obtain⟨⟨h1,h2⟩,h3⟩:=hp
 refine a2l b fs p (Zh () rfl (ZI (by simp) ⟨Zj (b,fs,()) rfl (by rw[h1,h2];rfl),Zh (b,fs,()) rfl ?_⟩))
 refine XU (fun _=>ZK rfl) fun hf=> ?_
 have hf:UL b fs=true:=by simpa using hf
 have hP:=Fe h1 hf
 have h5:=(B6 hf).1
 refine XU (fun _=>ZK rfl) fun _=> ?_
 have hpv:(decide (b.v.length<=1000)&&Zn p)=true:=by rw[h3,decide_eq_true (by omega)];rfl
 refine⟨Zj (b,fs,()) rfl hP,Zh (b,fs,()) rfl ⟨Zj (b,fs,()) rfl hP,Zh (b,fs,()) rfl ⟨Zj (b,fs,()) rfl hP,Zh (b,fs,()) rfl ⟨Zj (b,p,()) rfl hpv,Zh (b,p,()) rfl ⟨Zj (b,p,()) rfl hpv,Zh (b,p,()) rfl ?_⟩⟩⟩⟩⟩
 obtain⟨s1,s2⟩:=FI (b:=b) (fs:=fs) (by omega)
 refine ZI (by simp) ?_
 have hvl:(Zf b.v p).length<=9223372036854775807:=by unfold Zf;rw[List.length_zipWith];omega
 exact OQ b fs p h1 (ZT b fs).1 (ZT b fs).2 _ _ (Zf b.v p) (by omega) s2 rfl rfl hvl _ 0 rfl
end Go.Pl

