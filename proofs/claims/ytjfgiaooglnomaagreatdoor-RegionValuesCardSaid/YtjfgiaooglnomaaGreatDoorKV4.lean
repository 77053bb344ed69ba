/-
  Texts of mine that belong together (packed by pack.py), for every input: GRc, QRd, QRe, GRd, QRf, TyRd, GRx, QRg, GPv, QPv, GPw, QPw, GPs, TyPs.
-/
import Derived.Test.YtjfgiaooglnomaaGreatDoorChecked
import Derived.Test.YtjfgiaooglnomaaGreatDoorKV2
import Derived.Test.YtjfgiaooglnomaaGreatDoorKV3
import Derived.KernelRfl
import Derived.Lib.SlicesCompact
set_option linter.unusedVariables false
set_option linter.unusedSimpArgs false
namespace Go.Pl
open Go.RowKit
open Enc (enc dec is)
open EncL (encL decL isL)
set_option maxRecDepth 100000
noncomputable def UJ:IC:=Wn Proofs.Tryz.f51
def U3:List IRes:=[(.tmp 2)]
abbrev d7y:Nat:=55
def Ju:ZU:=Xe [(84,.pure (preT (fun _:Str×Unit=>true)) (Zw (fun x:Str×Unit=>ZH x.1)))]
theorem e1q{G:PV->Prop}(b:BoxT)(h:At Ju 0 (Za U3 G) UJ 0 55 [(1,(.ptr 0 0)),(3,(Zc 1)),(4,(Zc 0))] [(.obj (.box [(Y3 b.v),(Zc b.m)]))]):Ze Ju 0 (Za U3 G) UJ [] (Yn 55 [enc b]):=Ze.tp (.nil) h (by kernel_rfl)
theorem c1q{G:PV->Prop}(b:BoxT)(n i:Int)(h:if (decide (i<(↑(List.length (List.map enc b.v)):Int)))=true then(decide (0<=i)&&decide (Int.toNat i<List.length (List.map enc b.v))&&Enc.sz Str==1)=true∧(Xc b.v i fun y0:Str=>Yk (fun(x:Str×Unit)=>ZH x.1) [(.str (PV.asStr (Yp y0)))] fun y1:Bool=>if (!y1)=true then G ((.bool false))else(if (decide (BoxT.m b ≥ 20000))=true then G ((.bool false))else(At Ju 0 (Za U3 G) UJ 1 55 [(1,(.ptr 0 0)),(3,(Zc n)),(4,(Zc i)),(5,(Zc 0))] [(.obj (.box [(Y3 b.v),(Zc b.m)]))])))else(if (decide (BoxT.m b ≥ 0))=true then G ((.bool (decide (n<=20000))))else(G ((.bool false))))):At Ju 0 (Za U3 G) UJ 0 55 [(1,.ptr 0 0),(3,.pv (.int .i64 n)),(4,.pv (.int .i64 i))] [.obj (.box [.pv (enc b.v),.pv (.int .i64 b.m)])]:=At.tp (.lit (.ask (.req (Xa (Str) (ZK 2 (Yj (Bool) (.ask (Yo 4) (ZK 4 (.ask (.nil) (.nil)))))))) (.lit (.ask (Yo 3) (Yo 2))))) h (by kernel_rfl)
theorem c2u{G:PV->Prop}(b:BoxT)(n i k:Int)(h:if (decide (k<i))=true then(decide (0<=k)&&decide (Int.toNat k<List.length (List.map enc b.v))&&Enc.sz Str==1)=true∧(Xc b.v k fun y0:Str=>(decide (0<=i)&&decide (Int.toNat i<List.length (List.map enc b.v))&&Enc.sz Str==1)=true∧(Xc b.v i fun y1:Str=>if (PV.asStr (Yp y0)==PV.asStr (Yp y1))=true then G ((.bool false))else(At Ju 0 (Za U3 G) UJ 1 55 [(1,(.ptr 0 0)),(3,(Zc n)),(4,(Zc i)),(5,(Zc (IntKind.wrap IntKind.i64 (k+1))))] [(.obj (.box [(Y3 b.v),(Zc b.m)]))])))else(if (decide (n<=20000))=true then At Ju 0 (Za U3 G) UJ 0 55 [(1,(.ptr 0 0)),(3,(Zc (IntKind.wrap IntKind.i64 (n*IntKind.wrap IntKind.i64 (BoxT.m b+1))))),(4,(Zc (IntKind.wrap IntKind.i64 (i+1))))] [(.obj (.box [(Y3 b.v),(Zc b.m)]))]else(At Ju 0 (Za U3 G) UJ 0 55 [(1,(.ptr 0 0)),(3,(Zc n)),(4,(Zc (IntKind.wrap IntKind.i64 (i+1))))] [(.obj (.box [(Y3 b.v),(Zc b.m)]))]))):At Ju 0 (Za U3 G) UJ 1 55 [(1,.ptr 0 0),(3,.pv (.int .i64 n)),(4,.pv (.int .i64 i)),(5,.pv (.int .i64 k))] [.obj (.box [.pv (enc b.v),.pv (.int .i64 b.m)])]:=At.tp (.lit (.ask (.req (Xa (Str) (.lit (.req (Xa (Str) (ZK 2 (.ask (.nil) (.lit (.nil))))))))) (.lit (.ask (Yo 3) (.lit (.nil)))))) h (by kernel_rfl)
noncomputable def YP:IC:=Wn Proofs.Tryz.f49
def YO:List IRes:=[(.tmp 4)]
abbrev Mh:Nat:=34
def Y8:ZU:=Xe []
theorem c8a{G:PV->Prop}(b:BoxT)(p:List Int)(h:At Y8 0 (Za YO G) YP 0 34 [(1,(Y3 p)),(2,(.ptr 0 0)),(5,(.pv (.sl 0 true []))),(6,(Zc 0))] [(.obj (.box [(Y3 b.v),(Zc b.m)]))]):Ze Y8 0 (Za YO G) YP [] (Yn 34 [enc b,enc p]):=Ze.tp (.nil) h (by kernel_rfl)
theorem Ca{G:PV->Prop}(b:BoxT)(p:List Int)(i:Int)(h:if (decide (i<(↑(List.length (List.map enc b.v)):Int)))=true then if (Rx p i)=true then(decide (0<=i)&&decide (Int.toNat i<List.length (List.map enc b.v))&&Enc.sz Str==1)=true∧(Xc b.v i fun y0:Str=>Vt p i 1∧(Xc p i fun y1:Int=>At Y8 0 (Za YO G) YP 0 34 [(1,(Y3 p)),(2,(.ptr 0 0)),(5,(.row 1 1 0 1)),(6,(Zc (IntKind.wrap IntKind.i64 (i+1))))] [(.obj (.box [(Y3 b.v),(Zc b.m)])),(.obj (.row false 63 2 [(.agg [(.str (PV.asStr (Yp y0))),(.int .i64 (PV.asInt (Yp y1)))])]))]))else(G ((.sl 0 true [])))else(G ((.sl 0 true [])))):At Y8 0 (Za YO G) YP 0 34 [(1,.pv (enc p)),(2,.ptr 0 0),(5,.pv (.sl 0 true [])),(6,.pv (.int .i64 i))] [.obj (.box [.pv (enc b.v),.pv (.int .i64 b.m)])]:=At.tp (.lit (.ask (ZK 5 (.ask (.req (Xa (Str) (.lit (.req (Xa (Int) (Yo 7)))))) (.nil))) (Yo 5))) h (by kernel_rfl)
theorem DJ{G:PV->Prop}(b:BoxT)(p:List Int)(i:Int)(q:Nat)(vs:List Coef)(h:if (decide (i<(↑(List.length (List.map enc b.v)):Int)))=true then if (Rx p i)=true then(decide (0<=i)&&decide (Int.toNat i<List.length (List.map enc b.v))&&Enc.sz Str==1)=true∧(Xc b.v i fun y0:Str=>Vt p i 1∧(Xc p i fun y1:Int=>(List.length (List.map enc vs)==q&&q==q&&decide ((q+List.length (List.drop 0 (List.take 1 [PV.agg [Sh.co Sh.str (Yp y0),Sh.co (Sh.int .i64) (Yp y1)]])))*24<=1099511627776)&&decide (q+List.length (List.drop 0 (List.take 1 [PV.agg [Sh.co Sh.str (Yp y0),Sh.co (Sh.int .i64) (Yp y1)]]))<=1099511627776))=true∧(At Y8 0 (Za YO G) YP 0 34 [(1,(Y3 p)),(2,(.ptr 0 0)),(5,(.row 1 (q+List.length (List.drop 0 (List.take 1 [PV.agg [Sh.co Sh.str (Yp y0),Sh.co (Sh.int .i64) (Yp y1)]]))) 0 (q+List.length (List.drop 0 (List.take 1 [PV.agg [Sh.co Sh.str (Yp y0),Sh.co (Sh.int .i64) (Yp y1)]]))))),(6,(Zc (IntKind.wrap IntKind.i64 (i+1))))] [(.obj (.box [(Y3 b.v),(Zc b.m)])),(.obj (.row false 63 2 (List.map enc vs++List.drop 0 (List.take 1 [PV.agg [Sh.co Sh.str (Yp y0),Sh.co (Sh.int .i64) (Yp y1)]]))))])))else((List.length (List.map enc vs)==q)=true∧(G ((.sl 2 false (List.drop 0 (List.take q (List.map enc vs)))))))else((List.length (List.map enc vs)==q)=true∧(G ((.sl 2 false (List.drop 0 (List.take q (List.map enc vs)))))))):At Y8 0 (Za YO G) YP 0 34 [(1,.pv (enc p)),(2,.ptr 0 0),(5,.row 1 q 0 q),(6,.pv (.int .i64 i))] [.obj (.box [.pv (enc b.v),.pv (.int .i64 b.m)]),.obj (.row false 63 2 (vs.map enc))]:=At.tp (.lit (.ask (ZK 5 (.ask (.req (Xa (Str) (.lit (.req (Xa (Int) (ZK 3 (.req (.lit (.nil))))))))) (.req (.nil)))) (ZK 5 (.req (.nil))))) h (by kernel_rfl)
theorem b5p{G:AV×List AObj×List AObj->Prop}(b:BoxT)(m:Nat)(p:List Int)(h:At Y8 1 (Vw 1 YO G) YP 0 34 [(1,(.row 0 m 0 m)),(2,(.ptr 1 0)),(5,(.pv (.sl 0 true []))),(6,(Zc 0))] [(.obj (.row false 3 1 (List.map enc p))),(.obj (.box [(Y3 b.v),(Zc b.m)]))]):Ze Y8 1 (Vw 1 YO G) YP [] (Y5 34 [.pv (enc b),.row 0 m 0 m] [.row false 3 1 (p.map enc)]):=Ze.tf (.nil) h (by kernel_rfl)
theorem Gm{G:AV×List AObj×List AObj->Prop}(b:BoxT)(m:Nat)(p:List Int)(i:Int)(h:if (decide (i<(↑(List.length (List.map enc b.v)):Int)))=true then if (decide (i<(↑(m - 0):Int)))=true then(decide (0<=i)&&decide (Int.toNat i<List.length (List.map enc b.v))&&Enc.sz Str==1)=true∧(Xc b.v i fun y0:Str=>(decide (0<=i)&&decide (0+Int.toNat i<m)&&List.length (List.map enc p)==m)=true∧((List.length (List.map enc p)==m&&decide (0+Int.toNat i<List.length (List.map enc p)))=true∧((Jz [Sh.int .i64] (PV.cells (List.getD (List.map enc p) (0+Int.toNat i) default)))=true∧(At Y8 1 (Vw 1 YO G) YP 0 34 [(1,(.row 0 m 0 m)),(2,(.ptr 1 0)),(5,(.row 2 1 0 1)),(6,(Zc (IntKind.wrap IntKind.i64 (i+1))))] [(.obj (.row false 3 1 (List.map enc p))),(.obj (.box [(Y3 b.v),(Zc b.m)])),(.obj (.row false 63 2 [(.agg [(.str (PV.asStr (Yp y0))),(.int .i64 (PV.asInt (List.getD (PV.cells (List.getD (List.map enc p) (0+Int.toNat i) default)) 0 default)))])]))]))))else(G (((.pv (.sl 0 true [])),([(.row false 3 1 (List.map enc p))],[]))))else(G (((.pv (.sl 0 true [])),([(.row false 3 1 (List.map enc p))],[]))))):At Y8 1 (Vw 1 YO G) YP 0 34 [(1,.row 0 m 0 m),(2,.ptr 1 0),(5,.pv (.sl 0 true [])),(6,.pv (.int .i64 i))] [.obj (.row false 3 1 (p.map enc)),.obj (.box [.pv (enc b.v),.pv (.int .i64 b.m)])]:=At.tf (.lit (.ask (ZK 5 (.ask (.req (Xa (Str) (.lit (.req (.keep (.req (.req (Yo 6)))))))) (.nil))) (Yo 5))) h (by kernel_rfl)
theorem Hu{G:AV×List AObj×List AObj->Prop}(b:BoxT)(m:Nat)(p:List Int)(i:Int)(q:Nat)(vs:List Coef)(h:if (decide (i<(↑(List.length (List.map enc b.v)):Int)))=true then if (decide (i<(↑(m - 0):Int)))=true then(decide (0<=i)&&decide (Int.toNat i<List.length (List.map enc b.v))&&Enc.sz Str==1)=true∧(Xc b.v i fun y0:Str=>(decide (0<=i)&&decide (0+Int.toNat i<m)&&List.length (List.map enc p)==m)=true∧((List.length (List.map enc p)==m&&decide (0+Int.toNat i<List.length (List.map enc p)))=true∧((Jz [Sh.int .i64] (PV.cells (List.getD (List.map enc p) (0+Int.toNat i) default)))=true∧((List.length (List.map enc vs)==q&&q==q&&decide ((q+List.length (List.drop 0 (List.take 1 [PV.agg [Sh.co Sh.str (Yp y0),Sh.co (Sh.int .i64) (List.getD (PV.cells (List.getD (List.map enc p) (0+Int.toNat i) default)) 0 default)]])))*24<=1099511627776)&&decide (q+List.length (List.drop 0 (List.take 1 [PV.agg [Sh.co Sh.str (Yp y0),Sh.co (Sh.int .i64) (List.getD (PV.cells (List.getD (List.map enc p) (0+Int.toNat i) default)) 0 default)]]))<=1099511627776))=true∧(At Y8 1 (Vw 1 YO G) YP 0 34 [(1,(.row 0 m 0 m)),(2,(.ptr 1 0)),(5,(.row 2 (q+List.length (List.drop 0 (List.take 1 [PV.agg [Sh.co Sh.str (Yp y0),Sh.co (Sh.int .i64) (List.getD (PV.cells (List.getD (List.map enc p) (0+Int.toNat i) default)) 0 default)]]))) 0 (q+List.length (List.drop 0 (List.take 1 [PV.agg [Sh.co Sh.str (Yp y0),Sh.co (Sh.int .i64) (List.getD (PV.cells (List.getD (List.map enc p) (0+Int.toNat i) default)) 0 default)]]))))),(6,(Zc (IntKind.wrap IntKind.i64 (i+1))))] [(.obj (.row false 3 1 (List.map enc p))),(.obj (.box [(Y3 b.v),(Zc b.m)])),(.obj (.row false 63 2 (List.map enc vs++List.drop 0 (List.take 1 [PV.agg [Sh.co Sh.str (Yp y0),Sh.co (Sh.int .i64) (List.getD (PV.cells (List.getD (List.map enc p) (0+Int.toNat i) default)) 0 default)]]))))])))))else((List.length (List.map enc vs)==q)=true∧(G (((.pv (.sl 2 false (List.drop 0 (List.take q (List.map enc vs))))),([(.row false 3 1 (List.map enc p))],[])))))else((List.length (List.map enc vs)==q)=true∧(G (((.pv (.sl 2 false (List.drop 0 (List.take q (List.map enc vs))))),([(.row false 3 1 (List.map enc p))],[])))))):At Y8 1 (Vw 1 YO G) YP 0 34 [(1,.row 0 m 0 m),(2,.ptr 1 0),(5,.row 2 q 0 q),(6,.pv (.int .i64 i))] [.obj (.row false 3 1 (p.map enc)),.obj (.box [.pv (enc b.v),.pv (.int .i64 b.m)]),.obj (.row false 63 2 (vs.map enc))]:=At.tf (.lit (.ask (ZK 5 (.ask (.req (Xa (Str) (.lit (.req (.keep (.req (.req (ZK 2 (.req (.lit (.nil))))))))))) (.req (.nil)))) (ZK 5 (.req (.nil))))) h (by kernel_rfl)
noncomputable def Xw:IC:=Wn Proofs.Tryz.f179
def Xz:List IRes:=[(.tmp 4)]
abbrev b2d:Nat:=36
def X8:ZU:=Xe []
theorem c1l{G:PV->Prop}(b:BoxT)(ns:List Str)(h:At X8 0 (Za Xz G) Xw 0 36 [(1,(Y3 ns)),(2,(.ptr 0 0)),(5,(Zc 0))] [(.obj (.box [(Y3 b.v),(Zc b.m)]))]):Ze X8 0 (Za Xz G) Xw [] (Yn 36 [enc b,enc ns]):=Ze.tp (.nil) h (by kernel_rfl)
theorem N8{G:PV->Prop}(b:BoxT)(ns:List Str)(i:Int)(h:if (Rx ns i)=true then At X8 0 (Za Xz G) Xw 1 36 [(1,(Y3 ns)),(2,(.ptr 0 0)),(5,(Zc i)),(6,(.pv (.bool false))),(7,(Zc 0))] [(.obj (.box [(Y3 b.v),(Zc b.m)]))]else(G ((.bool true)))):At X8 0 (Za Xz G) Xw 0 36 [(1,.pv (enc ns)),(2,.ptr 0 0),(5,.pv (.int .i64 i))] [.obj (.box [.pv (enc b.v),.pv (.int .i64 b.m)])]:=At.tp (.lit (.ask (.nil) (.nil))) h (by kernel_rfl)
theorem NK{G:PV->Prop}(b:BoxT)(ns:List Str)(i k:Int)(o:Bool)(h:if (decide (k<(↑(List.length (List.map enc b.v)):Int)))=true then if (o)=true then At X8 0 (Za Xz G) Xw 1 36 [(1,(Y3 ns)),(2,(.ptr 0 0)),(5,(Zc i)),(6,(.pv (.bool true))),(7,(Zc (IntKind.wrap IntKind.i64 (k+1))))] [(.obj (.box [(Y3 b.v),(Zc b.m)]))]else((decide (0<=k)&&decide (Int.toNat k<List.length (List.map enc b.v))&&Enc.sz Str==1)=true∧(Xc b.v k fun y0:Str=>Vt ns i 1∧(Xc ns i fun y1:Str=>At X8 0 (Za Xz G) Xw 1 36 [(1,(Y3 ns)),(2,(.ptr 0 0)),(5,(Zc i)),(6,(.pv (.bool (PV.asStr (Yp y0)==PV.asStr (Yp y1))))),(7,(Zc (IntKind.wrap IntKind.i64 (k+1))))] [(.obj (.box [(Y3 b.v),(Zc b.m)]))])))else(if (!o)=true then G ((.bool false))else(At X8 0 (Za Xz G) Xw 0 36 [(1,(Y3 ns)),(2,(.ptr 0 0)),(5,(Zc (IntKind.wrap IntKind.i64 (i+1))))] [(.obj (.box [(Y3 b.v),(Zc b.m)]))]))):At X8 0 (Za Xz G) Xw 1 36 [(1,.pv (enc ns)),(2,.ptr 0 0),(5,.pv (.int .i64 i)),(6,.pv (.bool o)),(7,.pv (.int .i64 k))] [.obj (.box [.pv (enc b.v),.pv (.int .i64 b.m)])]:=At.tp (.lit (.ask (.ask (Yo 11) (ZK 3 (.req (Xa (Str) (ZK 5 (.req (Xa (Str) (Yo 6)))))))) (.ask (.nil) (.lit (.nil))))) h (by kernel_rfl)
noncomputable def Ve:IC:=Wn Proofs.Tryz.f241
def W9:List IRes:=[(.tmp 2)]
abbrev b5w:Nat:=22
def Uq:ZU:=Xe []
theorem c4y{G:PV->Prop}(l:Lin)(h:At Uq 0 (Za W9 G) Ve 0 22 [(1,(.ptr 0 0)),(3,(.pv (.sl 0 true []))),(4,(Zc 0))] [(.obj (.box [(Zc l.k),(ZM l.t)]))]):Ze Uq 0 (Za W9 G) Ve [] (Yn 22 [enc l]):=Ze.tp (.nil) h (by kernel_rfl)
theorem Rl{G:PV->Prop}(l:Lin)(i:Int)(h:if (decide (i<(↑(List.length (List.map enc l.t)):Int)))=true then(decide (0<=i)&&decide (Int.toNat i<List.length (List.map enc l.t))&&Enc.sz Coef==2)=true∧(Xc l.t i fun y0:Coef=>At Uq 0 (Za W9 G) Ve 0 22 [(1,(.ptr 0 0)),(3,(.row 1 1 0 1)),(4,(Zc (IntKind.wrap IntKind.i64 (i+1))))] [(.obj (.box [(Zc l.k),(ZM l.t)])),(.obj (.row false 9 1 [(.str (PV.asStr (List.getD (List.drop 0 (PV.cells (enc y0))) 0 default)))]))])else(G ((.sl 0 true [])))):At Uq 0 (Za W9 G) Ve 0 22 [(1,.ptr 0 0),(3,.pv (.sl 0 true [])),(4,.pv (.int .i64 i))] [.obj (.box [.pv (.int .i64 l.k),.pv (enc l.t)])]:=At.tp (.lit (.ask (.req (Xa (Coef) (Yo 7))) (.nil))) h (by kernel_rfl)
theorem Pn{G:PV->Prop}(l:Lin)(i:Int)(q:Nat)(ns:List Str)(h:if (decide (i<(↑(List.length (List.map enc l.t)):Int)))=true then(decide (0<=i)&&decide (Int.toNat i<List.length (List.map enc l.t))&&Enc.sz Coef==2)=true∧(Xc l.t i fun y0:Coef=>(List.length (List.map enc ns)==q&&q==q&&decide ((q+List.length (List.drop 0 (List.take 1 [Sh.co Sh.str (List.getD (List.drop 0 (PV.cells (enc y0))) 0 default)])))*16<=1099511627776)&&decide (q+List.length (List.drop 0 (List.take 1 [Sh.co Sh.str (List.getD (List.drop 0 (PV.cells (enc y0))) 0 default)]))<=1099511627776))=true∧(At Uq 0 (Za W9 G) Ve 0 22 [(1,(.ptr 0 0)),(3,(.row 1 (q+List.length (List.drop 0 (List.take 1 [Sh.co Sh.str (List.getD (List.drop 0 (PV.cells (enc y0))) 0 default)]))) 0 (q+List.length (List.drop 0 (List.take 1 [Sh.co Sh.str (List.getD (List.drop 0 (PV.cells (enc y0))) 0 default)]))))),(4,(Zc (IntKind.wrap IntKind.i64 (i+1))))] [(.obj (.box [(Zc l.k),(ZM l.t)])),(.obj (.row false 9 1 (List.map enc ns++List.drop 0 (List.take 1 [Sh.co Sh.str (List.getD (List.drop 0 (PV.cells (enc y0))) 0 default)]))))]))else((List.length (List.map enc ns)==q)=true∧(G ((.sl 1 false (List.drop 0 (List.take q (List.map enc ns)))))))):At Uq 0 (Za W9 G) Ve 0 22 [(1,.ptr 0 0),(3,.row 1 q 0 q),(4,.pv (.int .i64 i))] [.obj (.box [.pv (.int .i64 l.k),.pv (enc l.t)]),.obj (.row false 9 1 (ns.map enc))]:=At.tp (.lit (.ask (.req (Xa (Coef) (ZK 3 (.req (.lit (.nil)))))) (.req (.nil)))) h (by kernel_rfl)
noncomputable def U2:IC:=Wn Proofs.Tryz.f240
def UO:List IRes:=[(.tmp 4)]
abbrev b2m:Nat:=27
def Q8:ZU:=Xe []
theorem c8j{G:PV->Prop}(l:Lin)(s:List UInt8)(h:At Q8 0 (Za UO G) U2 0 27 [(1,(.pv (.str s))),(2,(.ptr 0 0)),(5,(Zc 0))] [(.obj (.box [(Zc l.k),(ZM l.t)]))]):Ze Q8 0 (Za UO G) U2 [] (Yn 27 [enc l,.str s]):=Ze.tp (.nil) h (by kernel_rfl)
theorem MV{G:PV->Prop}(l:Lin)(s:List UInt8)(i:Int)(h:if (decide (i<(↑(List.length (List.map enc l.t)):Int)))=true then(decide (0<=i)&&decide (Int.toNat i<List.length (List.map enc l.t))&&Enc.sz Coef==2)=true∧(Xc l.t i fun y0:Coef=>if (PV.asStr (List.getD (List.drop 0 (PV.cells (enc y0))) 0 default)==s)=true then(decide (0<=i)&&decide (Int.toNat i<List.length (List.map enc l.t))&&Enc.sz Coef==2)=true∧(Xc l.t i fun y1:Coef=>G ((.int .i64 (PV.asInt (WY y1)))))else(At Q8 0 (Za UO G) U2 0 27 [(1,(.pv (.str s))),(2,(.ptr 0 0)),(5,(Zc (IntKind.wrap IntKind.i64 (i+1))))] [(.obj (.box [(Zc l.k),(ZM l.t)]))]))else(G ((.int .i64 0)))):At Q8 0 (Za UO G) U2 0 27 [(1,.pv (.str s)),(2,.ptr 0 0),(5,.pv (.int .i64 i))] [.obj (.box [.pv (.int .i64 l.k),.pv (enc l.t)])]:=At.tp (.lit (.ask (.req (Xa (Coef) (ZK 2 (.ask (.req (Xa (Coef) (.lit (.nil)))) (.lit (.nil)))))) (.nil))) h (by kernel_rfl)
noncomputable def Xy:IC:=Wn Proofs.Tryz.f180
def XB:List IRes:=[(.tmp 2)]
abbrev b5y:Nat:=41
def X7:ZU:=Xe [(240,.pure (preT (fun x:Lin×Str×Unit=>Zr x.1.t)) (Zw (fun x:Lin×Str×Unit=>Yl x.1.t x.2.1.s))),(89,.pure (preT (fun x:Lin×Str×Int×Unit=>decide (x.1.t.length<=1000000))) (Zw (fun x:Lin×Str×Int×Unit=>Wu x.1 x.2.1 x.2.2.1))),(241,.pure (preT (fun x:Lin×Unit=>decide (x.1.t.length<=1000000))) (Zw (fun x:Lin×Unit=>Zd x.1)))]
theorem c3i{G:PV->Prop}(ls:List Lin)(h:At X7 0 (Za XB G) Xy 0 41 [(0,(ZM ls)),(3,(.ptr 0 0)),(4,(Zc 0))] [(.obj (.box [(Zc 0),(.pv (.sl 0 true []))]))]):Ze X7 0 (Za XB G) Xy [] (Yn 41 [enc ls]):=Ze.tp (.nil) h (by kernel_rfl)
theorem Mi{G:PV->Prop}(ls:List Lin)(k:Int)(p:PV)(i:Int)(h:if (Rx ls i)=true then At X7 0 (Za XB G) Xy 1 41 [(0,(ZM ls)),(3,(.ptr 0 0)),(4,(Zc i)),(5,(Zc 0))] [(.obj (.box [(Zc k),(.pv p)]))]else((Go.Pl.preT (fun(x:Lin×Unit)=>decide (List.length x.1.t<=1000000)) [(.agg [(.int .i64 k),p])])=true∧(Yk (fun(x:Lin×Unit)=>Zd x.1) [(.agg [(.int .i64 k),p])] fun y0:List Str=>G ((.sl 1 false (List.map enc y0)))))):At X7 0 (Za XB G) Xy 0 41 [(0,.pv (enc ls)),(3,.ptr 0 0),(4,.pv (.int .i64 i))] [.obj (.box [.pv (.int .i64 k),.pv p])]:=At.tp (.lit (.ask (.nil) (.req (Yj (List Str) (.nil))))) h (by kernel_rfl)
theorem Mj{G:PV->Prop}(ls:List Lin)(k:Int)(p:PV)(i j:Int)(h:Vt ls i 2∧(Xc ls i fun y0:Lin=>if (decide (j<(↑(List.length (SA y0)):Int)))=true then Vt ls i 2∧(Xc ls i fun y1:Lin=>(decide (0<=j)&&decide (Int.toNat j<List.length (SA y1))&&2==2)=true∧((decide (0+List.length [Sh.str]<=List.length (List.drop 0 (PV.cells (Vs y1 j))))&&Ga (List.drop 0 (PV.cells (Vs y1 j))) 0 [Sh.str])=true∧((Go.Pl.preT (fun(x:Lin×Str×Unit)=>Zr x.1.t) [(.agg [(.int .i64 k),p]),(.str (PV.asStr (List.getD (List.drop 0 (PV.cells (Vs y1 j))) 0 default)))])=true∧(Yk (fun(x:Lin×Str×Unit)=>Yl x.1.t (Str.s x.2.1)) [(.agg [(.int .i64 k),p]),(.str (PV.asStr (List.getD (List.drop 0 (PV.cells (Vs y1 j))) 0 default)))] fun y2:Int=>if (y2==0)=true then(Go.Pl.preT (fun(x:Lin×Str×Int×Unit)=>decide (List.length x.1.t<=1000000)) [(.agg [(.int .i64 k),p]),(.str (PV.asStr (List.getD (List.drop 0 (PV.cells (Vs y1 j))) 0 default))),(.int .i64 1)])=true∧(Yk (fun(x:Lin×Str×Int×Unit)=>Wu x.1 x.2.1 x.2.2.1) [(.agg [(.int .i64 k),p]),(.str (PV.asStr (List.getD (List.drop 0 (PV.cells (Vs y1 j))) 0 default))),(.int .i64 1)] fun y3:Lin=>At X7 0 (Za XB G) Xy 1 41 [(0,(ZM ls)),(3,(.ptr 0 0)),(4,(Zc i)),(5,(Zc (IntKind.wrap IntKind.i64 (j+1))))] [(.obj (.box [(Zc y3.k),(ZM y3.t)]))])else(At X7 0 (Za XB G) Xy 1 41 [(0,(ZM ls)),(3,(.ptr 0 0)),(4,(Zc i)),(5,(Zc (IntKind.wrap IntKind.i64 (j+1))))] [(.obj (.box [(Zc k),(.pv p)]))])))))else(At X7 0 (Za XB G) Xy 0 41 [(0,(ZM ls)),(3,(.ptr 0 0)),(4,(Zc (IntKind.wrap IntKind.i64 (i+1))))] [(.obj (.box [(Zc k),(.pv p)]))]))):At X7 0 (Za XB G) Xy 1 41 [(0,.pv (enc ls)),(3,.ptr 0 0),(4,.pv (.int .i64 i)),(5,.pv (.int .i64 j))] [.obj (.box [.pv (.int .i64 k),.pv p])]:=At.tp (.req (Xa (Lin) (ZK 2 (.ask (.req (Xa (Lin) (.lit (.req (.keep (.req (.req (Yj (Int) (.lit (.ask (.req (Yj (Lin) (.lit (.nil)))) (.lit (.nil)))))))))))) (.lit (.nil)))))) h (by kernel_rfl)
noncomputable def UU:IC:=Wn Proofs.Tryz.f44
def Vk:List IRes:=[(.tmp 4)]
abbrev b7a:Nat:=40
def Uw:ZU:=Xe [(51,.pure (preT (fun x:BoxT×Unit=>ZJ x.1)) (Zw (fun x:BoxT×Unit=>Xd x.1))),(31,.pure (preT (fun x:List Fact×Int×Unit=>Xu x.1)) (Zw (fun x:List Fact×Int×Unit=>Sn x.1 x.2.1)))]
theorem c8e{G:PV->Prop}(b:BoxT)(fs:List Fact)(h:At Uw 0 (Za Vk G) UU 0 40 [(1,(.pv (.sl 3 false (List.map enc fs)))),(2,(.ptr 0 0)),(5,(Zc 1)),(6,(Zc 0))] [(.obj (.box [(Y3 b.v),(Zc b.m)]))]):Ze Uw 0 (Za Vk G) UU [] (Yn 40 [enc b,enc fs]):=Ze.tp (.nil) h (by kernel_rfl)
theorem GD{G:PV->Prop}(b:BoxT)(fs:List Fact)(n i:Int)(h:if (decide (i<(↑(List.length (List.map enc b.v)):Int)))=true then(Go.Pl.preT (fun(x:BoxT×Unit)=>ZJ x.1) [(.agg [(.sl 1 false (List.map enc b.v)),(.int .i64 b.m)])])=true∧(Yk (fun(x:BoxT×Unit)=>Xd x.1) [(.agg [(.sl 1 false (List.map enc b.v)),(.int .i64 b.m)])] fun y0:Bool=>if (y0)=true then At Uw 0 (Za Vk G) UU 0 40 [(1,(.pv (.sl 3 false (List.map enc fs)))),(2,(.ptr 0 0)),(5,(Zc (IntKind.wrap IntKind.i64 (n*IntKind.wrap IntKind.i64 (BoxT.m b+1))))),(6,(Zc (IntKind.wrap IntKind.i64 (i+1))))] [(.obj (.box [(Y3 b.v),(Zc b.m)]))]else(if (decide ((↑(List.length (List.map enc b.v)):Int)<=5))=true then if (decide (n<=300))=true then if (decide ((↑(List.length (List.map enc fs)):Int)<=6))=true then(Go.Pl.preT (fun(x:List Fact×Int×Unit)=>Xu x.1) [(.sl 3 false (List.map enc fs)),(.int .i64 6)])=true∧(Yk (fun(x:List Fact×Int×Unit)=>Sn x.1 x.2.1) [(.sl 3 false (List.map enc fs)),(.int .i64 6)] fun y1:Bool=>G ((.bool y1)))else(G ((.bool false)))else(G ((.bool false)))else(G ((.bool false)))))else(if (decide ((↑(List.length (List.map enc b.v)):Int)<=5))=true then if (decide (n<=300))=true then if (decide ((↑(List.length (List.map enc fs)):Int)<=6))=true then(Go.Pl.preT (fun(x:List Fact×Int×Unit)=>Xu x.1) [(.sl 3 false (List.map enc fs)),(.int .i64 6)])=true∧(Yk (fun(x:List Fact×Int×Unit)=>Sn x.1 x.2.1) [(.sl 3 false (List.map enc fs)),(.int .i64 6)] fun y2:Bool=>G ((.bool y2)))else(G ((.bool false)))else(G ((.bool false)))else(G ((.bool false))))):At Uw 0 (Za Vk G) UU 0 40 [(1,.pv (enc fs)),(2,.ptr 0 0),(5,.pv (.int .i64 n)),(6,.pv (.int .i64 i))] [.obj (.box [.pv (enc b.v),.pv (.int .i64 b.m)])]:=At.tp (.lit (.ask (.lit (.req (Yj (Bool) (.lit (.ask (Yo 3) (.lit (.ask (ZK 3 (.ask (ZK 4 (.ask (.lit (.req (Yj (Bool) (.lit (.nil))))) (Yo 2))) (Yo 6))) (Yo 9)))))))) (ZK 4 (.ask (ZK 3 (.ask (ZK 4 (.ask (.lit (.req (Yj (Bool) (.lit (.nil))))) (Yo 2))) (Yo 6))) (Yo 9))))) h (by kernel_rfl)
end Go.Pl
namespace Go.Pl
open Go.RowKit
open Enc (enc dec is)
open EncL (encL decL isL)
def gwL(m:Int):List Str->List Str->Int->Bool
 | _,[],n=>decide (m ≥ 0)&&decide (n<=20000)
 | seen,s::r,n=>ZH s&& !decide (m ≥ 20000)&& !seen.contains s&&gwL m (seen++[s]) r (if n<=20000 then XI (n*XI (m+1))else n)
theorem a9l{m:Int}(hm:m<0): ∀ (r seen:List Str) (n:Int),gwL m seen r n=false
 | [],seen,n=>by rw[gwL,decide_eq_false (by omega)];rfl
 | s::r,seen,n=>by rw[gwL,a9l hm r];simp
theorem d4g{m:Int}(hm:m<0): ∀ (r seen:List Str) (n:Int),gvL m seen r n=false
 | [],seen,n=>by rw[gvL,decide_eq_false (by omega)]
 | s::r,seen,n=>by rw[gvL,decide_eq_true hm];simp
theorem b1j(m:Int): ∀ (r seen:List Str) (n:Int),20000<n->gwL m seen r n=false
 | [],seen,n,h=>by rw[gwL,decide_eq_false (show ¬ n<=20000 by omega),Bool.and_false]
 | s::r,seen,n,h=>by rw[gwL,if_neg (by omega),b1j m r _ n h];simp
theorem a9e(m:Int): ∀ (r seen:List Str) (n:Int),1<=n->n<=20000->gwL m seen r n=gvL m seen r n
 | [],seen,n,h1,h2=>by rw[gwL,gvL,decide_eq_true h2,Bool.and_true]
 | s::r,seen,n,h1,h2=>by
  by_cases hm:m<0
  ·rw[a9l hm,d4g hm]
  ·rw[gwL,gvL,if_pos h2,decide_eq_false hm]
   by_cases hb:m ≥ 20000
   ·rw[decide_eq_true hb];simp
   ·have q1:m+1<=20000:=by omega
    have q2:1<=m+1:=by omega
    have hm2:n*(m+1)<=20000*20000:=Int.le_trans (Int.mul_le_mul_of_nonneg_left q1 (by omega)) (Int.mul_le_mul_of_nonneg_right h2 (by omega))
    have hm1:1<=n*(m+1):=by
     have:=Int.mul_le_mul h1 q2 (by omega) (by omega)
     omega
    rw[Y2 (n:=m+1) (by omega) (by omega),Y2 (n:=n*(m+1)) (by omega) (by omega),decide_eq_false hb]
    by_cases hn:n*(m+1)>20000
    ·rw[decide_eq_true hn,b1j _ _ _ _ hn];simp
    ·rw[decide_eq_false hn,a9e m r _ _ hm1 (by omega)]
     cases ZH s <;> cases seen.contains s <;> rfl
theorem d8i(b:BoxT)(R:Bool)(n:Int){i:Nat}(hi:i<b.v.length)(hl:b.v.length<=9223372036854775807)(hyes:(b.v.take i).contains b.v[i]=true->R=false)
  (hno:(b.v.take i).contains b.v[i]=false->At Ju 0 (Za U3 (Zi R)) UJ 0 55 [(1,.ptr 0 0),(3,.pv (.int .i64 (if n<=20000 then XI (n*XI (b.m+1))else n))),(4,.pv (.int .i64 ((i+1:Nat):Int)))] [.obj (.box [.pv (enc b.v),.pv (.int .i64 b.m)])]) :
  ∀ (d k:Nat),d+k=i->(∀ j (h:j<b.v.length),j<k->b.v[j]≠b.v[i]) ->
  At Ju 0 (Za U3 (Zi R)) UJ 1 55 [(1,.ptr 0 0),(3,.pv (.int .i64 n)),(4,.pv (.int .i64 i)),(5,.pv (.int .i64 k))] [.obj (.box [.pv (enc b.v),.pv (.int .i64 b.m)])]:=by
 intro d
 induction d with
 | zero=>
  intro k hk hne
  obtain rfl:k=i:=by omega
  have hc:(b.v.take k).contains b.v[k]=false:=by
   rw[<- Bool.not_eq_true,List.contains_iff_mem]
   intro hm
   obtain⟨j,hj,e⟩:=List.getElem_of_mem hm
   rw[List.length_take]at hj
   rw[List.getElem_take]at e
   exact hne j (by omega) (by omega) e
  have:=hno hc
  refine c2u b n k k (ZG (Yt (by omega)) (XJ (fun h=> ?_) fun h=> ?_))
  ·rw[if_pos h]at this
   rw[next (by omega)]
   exact this
  ·rw[if_neg h]at this
   rw[next (by omega)]
   exact this
 | succ d ih=>
  intro k hk hne
  have hkl:k<b.v.length:=by omega
  refine c2u b n i k (ZA (Yi (by omega)) ⟨Zn hkl rfl,Zu hkl ⟨Zn hi rfl,Zu hi (Ko (fun h=> ?_) fun h=> ?_)⟩⟩)
  ·have e:b.v[k]=b.v[i]:=by
    have h:b.v[k].s=b.v[i].s:=h
    cases hx:b.v[k];cases hy:b.v[i]
    rw[hx,hy]at h
    exact congrArg Str.mk h
   refine ZW (hyes ?_).symm
   rw[List.contains_iff_mem,<- e,List.mem_take_iff_getElem]
   exact⟨k,by omega,rfl⟩
  ·rw[next (by omega)]
   refine ih (k+1) (by omega) fun j hj hjk=> ?_
   by_cases e:j=k
   ·subst e
    intro e2
    exact h (congrArg Str.s e2)
   ·exact hne j hj (by omega)
theorem c1z(b:BoxT)(hl:b.v.length<=9223372036854775807): ∀ (d i:Nat) (n:Int),d+i=b.v.length ->
  At Ju 0 (Za U3 (Zi (gwL b.m (b.v.take i) (b.v.drop i) n))) UJ 0 55 [(1,.ptr 0 0),(3,.pv (.int .i64 n)),(4,.pv (.int .i64 i))] [.obj (.box [.pv (enc b.v),.pv (.int .i64 b.m)])]:=by
 intro d
 induction d with
 | zero=>
  intro i n hi
  rw[List.drop_of_length_le (by omega)]
  refine c1q b n i (ZG (YY (by omega)) ?_)
  rw[gwL]
  refine XJ (fun h=> ?_) fun h=> ?_
  ·rw[decide_eq_true h];exact ZW rfl
  ·rw[decide_eq_false h];exact ZW rfl
 | succ d ih=>
  intro i n hi
  have hlt:i<b.v.length:=by omega
  have hd:b.v.drop i=b.v[i]::b.v.drop (i+1):=List.drop_eq_getElem_cons hlt
  have ht:b.v.take (i+1)=b.v.take i++[b.v[i]]:=List.take_succ_eq_append_getElem hlt
  rw[hd,gwL]
  refine c1q b n i (ZA (Yy hlt) ⟨Zn hlt rfl,Zu hlt (Zg (b.v[i],()) rfl (Xt (fun h=> ?_) fun h=>XJ (fun h2=> ?_) fun h2=> ?_))⟩)
  ·have h:ZH b.v[i]=false:=h
   rw[h];exact ZW rfl
  ·rw[decide_eq_true h2];simp only[Bool.not_true,Bool.and_false,Bool.false_and];exact ZW rfl
  ·have h:ZH b.v[i]=true:=h
   rw[decide_eq_false h2,h]
   simp only[Bool.not_false,Bool.true_and,Bool.and_true]
   refine d8i b _ n hlt hl (fun hc=>by rw[hc];rfl) (fun hc=> ?_) i 0 (by omega) (fun j _ hj=>by omega)
   rw[hc,Bool.not_false,Bool.true_and,<- ht]
   exact ih (i+1) _ (by omega)
theorem d1e: ∀ a:BoxT×Unit,ZJ a.1=true->Ze Ju 0 (Za U3 (Zi (Xd a.1))) UJ [] (Yn d7y (encL a)):=by
 rintro⟨b,⟨⟩⟩ h
 simp only[ZJ,XW,Bool.and_eq_true]at h
 rw[<- a8n,<- a9e b.m b.v [] 1 (by decide) (by decide)]
 exact e1q b (c1z b (Zz.1 h.1) b.v.length 0 1 (by omega))
theorem EF(b:BoxT)(p:List Int)(hb:b.v.length<=1000)(hp:p.length<=9223372036854775807): ∀ (k i:Nat),k+i=min b.v.length p.length->1<=i ->
  At Y8 0 (Za YO (Zi (Zf b.v p))) YP 0 34 [(1,.pv (enc p)),(2,.ptr 0 0),(5,.row 1 i 0 i),(6,.pv (.int .i64 i))] [.obj (.box [.pv (enc b.v),.pv (.int .i64 b.m)]),.obj (.row false 63 2 ((Zf (b.v.take i) (p.take i)).map enc))]:=by
 intro k
 induction k with
 | zero=>
  intro i hi h1
  have hl:=Jv b.v p (i:=i) (by omega) (by omega)
  have fin:Zi (Zf b.v p) (PV.sl 2 false (List.drop 0 (List.take i (List.map enc (Zf (b.v.take i) (p.take i)))))):=by
   rw[List.drop_zero,List.take_of_length_le (by rw[List.length_map,hl];exact Nat.le_refl _),Ty b.v p (by omega)]
   exact ZC (x:=Zf b.v p) rfl
  by_cases hbl:i<b.v.length
  ·exact DJ b p i i (Zf (b.v.take i) (p.take i)) (ZA (Yy hbl) (ZG (YY (by omega)) ⟨by simp[hl],fin⟩))
  ·exact DJ b p i i (Zf (b.v.take i) (p.take i)) (ZG (YY hbl) ⟨by simp[hl],fin⟩)
 | succ k ih=>
  intro i hi h1
  have hl:=Jv b.v p (i:=i) (by omega) (by omega)
  have hlt:i<b.v.length:=by omega
  have hlt2:i<p.length:=by omega
  refine DJ b p i i (Zf (b.v.take i) (p.take i)) (ZA (Yy hlt) (ZA (Yy hlt2) ⟨Zn hlt rfl,Zu hlt ⟨Zn hlt2 rfl,Zu hlt2 ⟨?_,?_⟩⟩⟩))
  ·rw[List.length_map,hl]
   show((i==i)&&(i==i)&&decide ((i+1)*24<=1099511627776)&&decide (i+1<=1099511627776))=true
   rw[decide_eq_true (by omega),decide_eq_true (by omega)];simp
  ·have:=ih (i+1) (by omega) (by omega)
   rw[QU b.v p hlt hlt2,List.map_append,<- next (by omega)]at this
   exact this
theorem a7r: ∀ a:BoxT×List Int×Unit,(decide (a.1.v.length<=1000)&&Zr a.2.1)=true->Ze Y8 0 (Za YO (Zi (Zf a.1.v a.2.1))) YP [] (Yn Mh (encL a)):=by
 rintro⟨b,p,⟨⟩⟩ h
 simp only[Bool.and_eq_true,decide_eq_true_eq]at h
 obtain⟨h1,h2⟩:=h
 refine c8a b p ?_
 have hl2:=Zz.1 h2
 by_cases h0:min b.v.length p.length=0
 ·have:Zf b.v p=[]:=by
   rw[<- List.length_eq_zero_iff];unfold Zf;rw[List.length_zipWith];exact h0
  rw[this]
  by_cases hbl:0<b.v.length
  ·exact Ca b p ((0:Nat):Int) (ZA (Yy hbl) (ZG (YY (by omega)) ⟨rfl,rfl⟩))
  ·exact Ca b p ((0:Nat):Int) (ZG (YY hbl) ⟨rfl,rfl⟩)
 ·have hlt:0<b.v.length:=by omega
  have hlt2:0<p.length:=by omega
  refine Ca b p ((0:Nat):Int) (ZA (Yy hlt) (ZA (Yy hlt2) ⟨Zn hlt rfl,Zu hlt ⟨Zn hlt2 rfl,Zu hlt2 ?_⟩⟩))
  have:=EF b p h1 hl2 (min b.v.length p.length - 1) 1 (by omega) (by omega)
  rw[show(1:Nat)=0+1 from rfl,QU b.v p hlt hlt2]at this
  exact this
theorem b5l(b:BoxT)(ns:List Str)(R:Bool){i:Nat}(hi:i<ns.length)(hl:b.v.length<=9223372036854775807)(hn:ns.length<=9223372036854775807)(hyes:b.v.contains ns[i]=false->R=false)
  (hno:b.v.contains ns[i]=true->At X8 0 (Za Xz (Zi R)) Xw 0 36 [(1,.pv (enc ns)),(2,.ptr 0 0),(5,.pv (.int .i64 ((i+1:Nat):Int)))] [.obj (.box [.pv (enc b.v),.pv (.int .i64 b.m)])]) :
  ∀ (d k:Nat),d+k=b.v.length->At X8 0 (Za Xz (Zi R)) Xw 1 36 [(1,.pv (enc ns)),(2,.ptr 0 0),(5,.pv (.int .i64 i)),(6,.pv (.bool ((b.v.take k).contains ns[i]))),(7,.pv (.int .i64 k))] [.obj (.box [.pv (enc b.v),.pv (.int .i64 b.m)])]:=by
 intro d
 induction d with
 | zero=>
  intro k hk
  obtain rfl:k=b.v.length:=by omega
  rw[List.take_length]
  refine NK b ns i b.v.length _ (ZG (YY (by omega)) (Xt (fun h=>ZW (hyes h).symm) fun h=> ?_))
  rw[next (by omega)]
  exact hno h
 | succ d ih=>
  intro k hk
  have hkl:k<b.v.length:=by omega
  have h1:=ih (k+1) (by omega)
  have ht:(b.v.take (k+1)).contains ns[i]=((b.v.take k).contains ns[i]||(b.v[k].s==ns[i].s)):=by
   rw[List.take_succ_eq_append_getElem hkl]
   have e:((b.v[k].s==ns[i].s):Bool)=(b.v[k]==ns[i]):=by
    rw[Bool.eq_iff_iff]
    simp only[beq_iff_eq]
    constructor
    ·intro h
     cases hx:b.v[k];cases hy:ns[i]
     rw[hx,hy]at h
     exact congrArg Str.mk h
    ·intro h;rw[h]
   rw[e]
   rw[Bool.eq_iff_iff]
   simp only[List.contains_iff_mem,List.mem_append,List.mem_singleton,Bool.or_eq_true,beq_iff_eq]
   exact⟨fun h=>h.imp_right Eq.symm,fun h=>h.imp_right Eq.symm⟩
  refine NK b ns i k _ (ZA (Yy hkl) (WP (fun h=> ?_) fun h=>⟨Zn hkl rfl,Zu hkl ⟨Zn hi rfl,Zu hi ?_⟩⟩))
  ·rw[ht,h,Bool.true_or]at h1
   rw[next (by omega)]
   exact h1
  ·rw[ht,h,Bool.false_or]at h1
   rw[next (by omega)]
   exact h1
theorem O0(b:BoxT)(ns:List Str)(hl:b.v.length<=9223372036854775807)(hn:ns.length<=9223372036854775807): ∀ (d i:Nat),d+i=ns.length ->
  At X8 0 (Za Xz (Zi (Y7 b.v (ns.drop i)))) Xw 0 36 [(1,.pv (enc ns)),(2,.ptr 0 0),(5,.pv (.int .i64 i))] [.obj (.box [.pv (enc b.v),.pv (.int .i64 b.m)])]:=by
 intro d
 induction d with
 | zero=>
  intro i hi
  rw[List.drop_of_length_le (by omega)]
  exact N8 b ns i (ZG (YY (by omega)) (ZW rfl))
 | succ d ih=>
  intro i hi
  have hlt:i<ns.length:=by omega
  have hd:ns.drop i=ns[i]::ns.drop (i+1):=List.drop_eq_getElem_cons hlt
  have e:Y7 b.v (ns.drop i)=(b.v.contains ns[i]&&Y7 b.v (ns.drop (i+1))):=by rw[hd];rfl
  rw[e]
  refine N8 b ns i (ZA (Yy hlt) ?_)
  have:=b5l b ns (b.v.contains ns[i]&&Y7 b.v (ns.drop (i+1))) hlt hl hn (fun h=>by rw[h];rfl) (fun h=>by rw[h,Bool.true_and];exact ih (i+1) (by omega)) b.v.length 0 (by omega)
  exact this
theorem a4g: ∀ a:BoxT×List Str×Unit,(Zr a.1.v&&Zr a.2.1)=true->Ze X8 0 (Za Xz (Zi (Y7 a.1.v a.2.1))) Xw [] (Yn b2d (encL a)):=by
 rintro⟨b,ns,⟨⟩⟩ h
 simp only[Bool.and_eq_true]at h
 exact c1l b ns (O0 b ns (Zz.1 h.1) (Zz.1 h.2) ns.length 0 (by omega))
theorem Ld(b:BoxT)(p:List Int)(hb:b.v.length<=1000)(hp:p.length<=1000): ∀ (k i:Nat),k+i=min b.v.length p.length->1<=i ->
  At Y8 1 (Vw 1 YO fun r=> ∃ q q',r.1 = .pv q∧Sub q q'∧((.pv (.sl 2 false ((Zf b.v p).map enc)),[.row false 3 1 (p.map enc)],[]):AV×List AObj×List AObj)=(.pv q',r.2)) YP 0 34 [(1,.row 0 p.length 0 p.length),(2,.ptr 1 0),(5,.row 2 i 0 i),(6,.pv (.int .i64 i))] [.obj (.row false 3 1 (p.map enc)),.obj (.box [.pv (enc b.v),.pv (.int .i64 b.m)]),.obj (.row false 63 2 ((Zf (b.v.take i) (p.take i)).map enc))]:=by
 intro k
 induction k with
 | zero=>
  intro i hi h1
  have hl:=Jv b.v p (i:=i) (by omega) (by omega)
  have fin : ∀ os,∃ q q',(AV.pv (PV.sl 2 false (List.drop 0 (List.take i (List.map (enc:Coef->PV) (Zf (b.v.take i) (p.take i))))))) = .pv q∧Sub q q'∧((.pv (.sl 2 false ((Zf b.v p).map enc)),os):AV×List AObj×List AObj)=(.pv q',os):=by
   intro os
   rw[List.drop_zero,List.take_of_length_le (by rw[List.length_map,hl];exact Nat.le_refl _),Ty b.v p (by omega)]
   exact⟨_,_,rfl,Sub.refl _,rfl⟩
  by_cases hbl:i<b.v.length
  ·exact Hu b p.length p i i (Zf (b.v.take i) (p.take i)) (ZA (Yy hbl) (ZG (Yt (by omega)) ⟨by simp[hl],fin _⟩))
  ·exact Hu b p.length p i i (Zf (b.v.take i) (p.take i)) (ZG (YY hbl) ⟨by simp[hl],fin _⟩)
 | succ k ih=>
  intro i hi h1
  have hl:=Jv b.v p (i:=i) (by omega) (by omega)
  have hlt:i<b.v.length:=by omega
  have hlt2:i<p.length:=by omega
  have e:=Ke hlt2
  refine Hu b p.length p i i (Zf (b.v.take i) (p.take i)) (ZA (Yy hlt) (ZA (Yi (by omega)) ⟨Zn hlt rfl,Zu hlt ⟨by simp;omega,by simp;omega,?_,?_,?_⟩⟩))
  ·rw[e];rfl
  ·rw[List.length_map,hl]
   show((i==i)&&(i==i)&&decide ((i+1)*24<=1099511627776)&&decide (i+1<=1099511627776))=true
   rw[decide_eq_true (by omega),decide_eq_true (by omega)];simp
  ·have:=ih (i+1) (by omega) (by omega)
   rw[QU b.v p hlt hlt2,List.map_append,<- next (by omega)]at this
   rw[e]
   exact this
theorem O6: ∀ args os,WM args os=true->Ze Y8 os.length (Vw os.length YO fun r=> ∃ p p',r.1 = .pv p∧Sub p p'∧Qg args os=(.pv p',r.2)) YP [] (Y5 Mh args os):=by
 intro args os h
 unfold WM at h
 split at h
 ·rename_i v k n m ty xs
  simp only[Bool.and_eq_true,beq_iff_eq,decide_eq_true_eq]at h
  obtain⟨⟨⟨⟨⟨⟨rfl,h2⟩,rfl⟩,h4⟩,h5⟩,h6⟩,h7⟩:=h
  obtain⟨p,hp⟩:=YG h4
  have hp:PV.sl 1 false xs=PV.sl 1 false (p.map enc):=hp
  injection hp with _ _ hx
  subst hx
  obtain⟨bv,rfl⟩:=YG h5
  rw[Enc.dec_enc]at h6
  rw[List.length_map]at h2
  subst h2
  have ev:Qg [.pv (.agg [enc bv,.int .i64 k]),.row 0 p.length 0 p.length] [.row false 3 1 (p.map enc)]=(.pv (.sl 2 false ((Zf bv p).map enc)),[.row false 3 1 (p.map enc)],[]):=by
   show(AV.pv (.sl 2 false ((Zf (dec (enc bv:PV)) (PD (p.map enc))).map enc)),_,_)=_
   rw[Enc.dec_enc,CO]
  rw[ev]
  refine b5p ⟨bv,k⟩ p.length p ?_
  by_cases h0:min bv.length p.length=0
  ·have hz:Zf bv p=[]:=by
    rw[<- List.length_eq_zero_iff];unfold Zf;rw[List.length_zipWith];exact h0
   rw[hz]
   by_cases hbl:0<bv.length
   ·exact Gm ⟨bv,k⟩ p.length p ((0:Nat):Int) (ZA (Yy hbl) (ZG (Yt (by omega)) ⟨_,_,rfl,Sub.sl0 0 2 true,rfl⟩))
   ·exact Gm ⟨bv,k⟩ p.length p ((0:Nat):Int) (ZG (YY hbl) ⟨_,_,rfl,Sub.sl0 0 2 true,rfl⟩)
  ·have hlt:0<bv.length:=by omega
   have hlt2:0<p.length:=by omega
   have e:=Ke hlt2
   refine Gm ⟨bv,k⟩ p.length p ((0:Nat):Int) (ZA (Yy hlt) (ZA (Yi (by omega)) ⟨Zn hlt rfl,Zu hlt ⟨by simp;omega,by simp;omega,?_,?_⟩⟩))
   ·rw[e];rfl
   ·have:=Ld ⟨bv,k⟩ p h6 h7 (min bv.length p.length - 1) 1 (by show min bv.length p.length - 1+1=min bv.length p.length;omega) (by omega)
    rw[show(1:Nat)=0+1 from rfl,QU bv p hlt hlt2]at this
    rw[e]
    exact this
 ·cases h
theorem OD(l:Lin)(hl:l.t.length<=1000000): ∀ (k i:Nat),k+i=l.t.length->1<=i ->
  At Uq 0 (Za W9 (Zi (Zd l))) Ve 0 22 [(1,.ptr 0 0),(3,.row 1 i 0 i),(4,.pv (.int .i64 i))] [.obj (.box [.pv (.int .i64 l.k),.pv (enc l.t)]),.obj (.row false 9 1 ((nmI l i).map enc))]:=by
 intro k
 induction k with
 | zero=>
  intro i hi h1
  obtain rfl:i=l.t.length:=by omega
  refine Pn l _ _ (nmI l l.t.length) (ZG (YY (by omega)) ⟨by simp[Gf],?_⟩)
  rw[List.drop_zero,List.take_of_length_le (by rw[List.length_map,Gf l (Nat.le_refl _)];exact Nat.le_refl _),FD]
  exact ZC (x:=Zd l) rfl
 | succ k ih=>
  intro i hi h1
  have hlt:i<l.t.length:=by omega
  refine Pn l i i (nmI l i) (ZA (Yy hlt) ⟨Zn hlt rfl,Zu hlt ⟨J7 (m:=1) (by rw[List.length_map,Gf l (by omega)]) (by omega) (by omega),?_⟩⟩)
  have:=ih (i+1) (by omega) (by omega)
  rw[GQ l hlt,<- next (by omega)]at this
  exact this
theorem a3l: ∀ a:Lin×Unit,decide (a.1.t.length<=1000000)=true->Ze Uq 0 (Za W9 (Zi (Zd a.1))) Ve [] (Yn b5w (encL a)):=by
 rintro⟨l,⟨⟩⟩ h
 have h:l.t.length<=1000000:=of_decide_eq_true h
 refine c4y l ?_
 by_cases h0:l.t.length=0
 ·refine Rl l ((0:Nat):Int) (ZG (YY (by omega)) ?_)
  have:Zd l=[]:=by unfold Zd;rw[List.length_eq_zero_iff.1 h0];rfl
  rw[this]
  exact⟨rfl,rfl⟩
 ·have hlt:0<l.t.length:=by omega
  refine Rl l ((0:Nat):Int) (ZA (Yy hlt) ⟨Zn hlt rfl,Zu hlt ?_⟩)
  have:=OD l h (l.t.length - 1) 1 (by omega) (by omega)
  rw[show(1:Nat)=0+1 from rfl,GQ l hlt]at this
  exact this
theorem Eg(l:Lin)(s:List UInt8)(hl:l.t.length<=9223372036854775807): ∀ (k i:Nat),k+i=l.t.length ->
  At Q8 0 (Za UO (Zi (Yl (l.t.drop i) s))) U2 0 27 [(1,.pv (.str s)),(2,.ptr 0 0),(5,.pv (.int .i64 i))] [.obj (.box [.pv (.int .i64 l.k),.pv (enc l.t)])]:=by
 intro k
 induction k with
 | zero=>
  intro i hi
  rw[List.drop_of_length_le (by omega)]
  exact MV l s i (ZG (YY (by omega)) (Ut rfl))
 | succ k ih=>
  intro i hi
  have hlt:i<l.t.length:=by omega
  have h:=ih (i+1) (by omega)
  rw[List.drop_eq_getElem_cons hlt,ZY]
  refine MV l s i (ZA (Yy hlt) ⟨Zn hlt rfl,Zu hlt (Ko (fun h1=> ?_) fun h1=> ?_)⟩)
  ·have h1:l.t[i].v.s=s:=h1
   rw[if_pos h1]
   exact⟨Zn hlt rfl,Zu hlt (Ut rfl)⟩
  ·have h1 : ¬ l.t[i].v.s=s:=h1
   rw[if_neg h1,next (by omega)]
   exact h
theorem a4t: ∀ a:Lin×Str×Unit,Zr a.1.t=true->Ze Q8 0 (Za UO (Zi (Yl a.1.t a.2.1.s))) U2 [] (Yn b2m (encL a)):=by
 rintro⟨l,⟨s⟩,⟨⟩⟩ h
 exact c8j l s (Eg l s (Zz.1 h) l.t.length 0 (by omega))
theorem c2z(l:Lin)(s:Str):(JZ l s).t.length<=l.t.length+1:=by
 unfold JZ
 split
 ·exact Ro l s 1
 ·omega
def c2n(l:Lin)(k:Int)(p:PV):Prop:=is (List Coef) p=true∧(dec p:List Coef)=l.t∧k=l.k
theorem EZ{l:Lin}{k:Int}{p:PV}(h:c2n l k p):(dec (.agg [.int .i64 k,p]):Lin)=l∧is Lin (.agg [.int .i64 k,p])=true:=by
 obtain⟨h1,h2,h3⟩:=h
 refine⟨?_,?_⟩
 ·show(⟨k,dec p⟩:Lin)=l
  rw[h2,h3]
 ·show(true&&is (List Coef) p)=true
  rw[h1];rfl
theorem b8m(l:Lin):c2n l l.k (enc l.t):=⟨Enc.is_enc _,Enc.dec_enc _,rfl⟩
def Df(o l:Lin):Lin:=(Zd l).foldl JZ o
theorem b4x(ls:List Lin)(hls:ls.length<=1000)(hl : ∀ l∈ls,l.t.length<=1000)(R:List Str){i:Nat}(hi:i<ls.length)
  (hnext : ∀ l k p,c2n l k p->l=l->l.t.length<=1000*(i+1)->R=Zd ((ls.drop (i+1)).foldl Df l)->At X7 0 (Za XB (Zi R)) Xy 0 41 [(0,.pv (enc ls)),(3,.ptr 0 0),(4,.pv (.int .i64 ((i+1:Nat):Int)))] [.obj (.box [.pv (.int .i64 k),.pv p])]) :
  ∀ (d j:Nat) (l:Lin) (k:Int) (p:PV),d+j=ls[i].t.length->c2n l k p->l.t.length<=1000*i+j->R=Zd ((ls.drop (i+1)).foldl Df (((Zd ls[i]).drop j).foldl JZ l)) ->
  At X7 0 (Za XB (Zi R)) Xy 1 41 [(0,.pv (enc ls)),(3,.ptr 0 0),(4,.pv (.int .i64 i)),(5,.pv (.int .i64 j))] [.obj (.box [.pv (.int .i64 k),.pv p])]:=by
 have hli:=hl _ (List.getElem_mem hi)
 have hnl:(Zd ls[i]).length=ls[i].t.length:=by unfold Zd;rw[List.length_map]
 intro d
 induction d with
 | zero=>
  intro j l k p hd hp hlen hR
  refine Mj ls k p i j ⟨Zn hi rfl,Zu hi (ZG (YY (show ¬ j<ls[i].t.length by omega)) ?_)⟩
  rw[next (by omega)]
  refine hnext l k p hp rfl (by omega) ?_
  rw[hR,List.drop_of_length_le (by omega)]
  rfl
 | succ d ih=>
  intro j l k p hd hp hlen hR
  have hj:j<ls[i].t.length:=by omega
  have e1:List.getD (List.map (enc:Coef->PV) ls[i].t) (Int.toNat (j:Int)) default=enc ls[i].t[j]:=by simp[List.getD,hj]
  obtain⟨q1,q2⟩:=EZ hp
  have hdr:(Zd ls[i]).drop j=ls[i].t[j].v::(Zd ls[i]).drop (j+1):=by
   rw[List.drop_eq_getElem_cons (by omega)]
   unfold Zd
   rw[List.getElem_map]
  rw[hdr,List.foldl_cons]at hR
  refine Mj ls k p i j ⟨Zn hi rfl,Zu hi (ZA (Yy hj) ⟨Zn hi rfl,Zu hi ⟨?_,?_,?_⟩⟩)⟩
  ·show(decide (0<=(j:Int))&&decide (Int.toNat (j:Int)<List.length (List.map (enc:Coef->PV) ls[i].t))&&2==2)=true
   simp;omega
  ·show(decide (0+List.length [Sh.str]<=List.length (List.drop 0 (PV.cells (List.getD (List.map (enc:Coef->PV) ls[i].t) (Int.toNat (j:Int)) default))))&&Ga (List.drop 0 (PV.cells (List.getD (List.map (enc:Coef->PV) ls[i].t) (Int.toNat (j:Int)) default))) 0 [Sh.str])=true
   rw[e1];rfl
  ·have es:PV.asStr (List.getD (List.drop 0 (PV.cells (List.getD (PV.asXs (List.getD (List.drop 1 (PV.cells (enc ls[i]))) 0 default)) (Int.toNat (j:Int)) default))) 0 default)=ls[i].t[j].v.s:=by
    show PV.asStr (List.getD (List.drop 0 (PV.cells (List.getD (List.map (enc:Coef->PV) ls[i].t) (Int.toNat (j:Int)) default))) 0 default)=_
    rw[e1];rfl
   rw[es]
   refine⟨QE (l,ls[i].t[j].v,()) ?_ ?_ (Zz.2 (by show l.t.length<=_;omega)),UV (l,ls[i].t[j].v,()) ?_ (Ko (fun h=> ?_) fun h=> ?_)⟩
   ·show(is Lin _&&(true&&true))=true
    rw[q2];rfl
   ·exact congrArg (fun z:Lin=>(z,ls[i].t[j].v,())) q1
   ·exact congrArg (fun z:Lin=>(z,ls[i].t[j].v,())) q1
   ·have h:Yl l.t ls[i].t[j].v.s=0:=h
    have hput:JZ l ls[i].t[j].v=Wu l ls[i].t[j].v 1:=by unfold JZ;rw[if_pos h]
    refine⟨QE (l,ls[i].t[j].v,1,()) ?_ ?_ (by simp;omega),UV (l,ls[i].t[j].v,1,()) ?_ ?_⟩
    ·show(is Lin _&&(true&&(true&&true)))=true
     rw[q2];rfl
    ·exact congrArg (fun z:Lin=>(z,ls[i].t[j].v,(1:Int),())) q1
    ·exact congrArg (fun z:Lin=>(z,ls[i].t[j].v,(1:Int),())) q1
    ·rw[next (by omega)]
     rw[hput]at hR
     have:=Ro l ls[i].t[j].v 1
     exact ih (j+1) _ _ _ (by omega) (b8m _) (by show(Wu l ls[i].t[j].v 1).t.length<=_;omega) hR
   ·have h : ¬ Yl l.t ls[i].t[j].v.s=0:=h
    have hput:JZ l ls[i].t[j].v=l:=by unfold JZ;rw[if_neg h]
    rw[next (by omega)]
    rw[hput]at hR
    exact ih (j+1) _ _ _ (by omega) hp (by omega) hR
theorem a0l(ls:List Lin)(hls:ls.length<=1000)(hl : ∀ l∈ls,l.t.length<=1000): ∀ (d i:Nat) (l:Lin) (k:Int) (p:PV) (R:List Str),d+i=ls.length->c2n l k p->l.t.length<=1000*i->R=Zd ((ls.drop i).foldl Df l) ->
  At X7 0 (Za XB (Zi R)) Xy 0 41 [(0,.pv (enc ls)),(3,.ptr 0 0),(4,.pv (.int .i64 i))] [.obj (.box [.pv (.int .i64 k),.pv p])]:=by
 intro d
 induction d with
 | zero=>
  intro i l k p R hi hp hlen hR
  obtain⟨q1,q2⟩:=EZ hp
  rw[List.drop_of_length_le (by omega)]at hR
  refine Mi ls k p i (ZG (YY (by omega)) ⟨QE (l,()) ?_ ?_ (by simp;omega),UV (l,()) ?_ ?_⟩)
  ·show(is Lin _&&true)=true
   rw[q2];rfl
  ·exact congrArg (fun z:Lin=>(z,())) q1
  ·exact congrArg (fun z:Lin=>(z,())) q1
  ·rw[hR]
   exact ZC (x:=Zd l) rfl
 | succ d ih=>
  intro i l k p R hi hp hlen hR
  have hlt:i<ls.length:=by omega
  rw[List.drop_eq_getElem_cons hlt,List.foldl_cons]at hR
  refine Mi ls k p i (ZA (Yy hlt) ?_)
  exact b4x ls hls hl R hlt (fun l' k' p' hp' _ hlen' hR'=>ih (i+1) l' k' p' R (by omega) hp' hlen' hR') ls[i].t.length 0 l k p (by omega) hp (by omega) hR
theorem a3h: ∀ a:List Lin×Unit,Uh a.1=true->Ze X7 0 (Za XB (Zi (QB a.1))) Xy [] (Yn b5y (encL a)):=by
 rintro⟨ls,⟨⟩⟩ h
 simp only[Uh,Bool.and_eq_true,decide_eq_true_eq,List.all_eq_true]at h
 obtain⟨h1,h2⟩:=h
 exact c3i ls (a0l ls h1 h2 ls.length 0 ⟨0,[]⟩ 0 _ _ (by omega) ⟨rfl,rfl,rfl⟩ (by simp) rfl)
def c4l(m:Int):Nat->Int->Int
 | 0,n=>n
 | k+1,n=>c4l m k (XI (n*XI (m+1)))
theorem Dl(b:BoxT)(fs:List Fact)(hl:b.v.length<=9223372036854775807)(hf:Xu fs=true)(n:Int){P:Prop}{G:PV->Prop}(hG : ∀ x,x=(decide (b.v.length<=5)&&decide (n<=300)&&decide (fs.length<=6)&&Sn fs 6)->G (.bool x)):
  if (decide ((↑(List.length (List.map (enc:Str->PV) (BoxT.v b))):Int)<=5))=true then if (decide (n<=300))=true then if (decide ((↑(List.length (List.map (enc:Fact->PV) fs)):Int)<=6))=true then
   (Go.Pl.preT (fun(x:List Fact×Int×Unit)=>Xu (Prod.fst x)) [(.sl 3 false (List.map enc fs)),(.int .i64 6)])=true∧(∃ y1:Bool,AV.pv (Zw (fun(x:List Fact×Int×Unit)=>Sn (Prod.fst x) (Prod.fst (Prod.snd x))) [(.sl 3 false (List.map enc fs)),(.int .i64 6)])=AV.pv (enc y1)∧(G ((.bool y1))))else(G ((.bool false)))else(G ((.bool false)))else(G ((.bool false))):=by
 simp only[List.length_map]
 refine XJ (fun h1=>XJ (fun h2=>XJ (fun h3=>⟨Zk (fs,6,()) rfl hf,Zg (fs,6,()) rfl (hG _ ?_)⟩) fun h3=>hG _ ?_) fun h2=>hG _ ?_) fun h1=>hG _ ?_
 ·rw[decide_eq_true (show b.v.length<=5 by omega),decide_eq_true h2,decide_eq_true (show fs.length<=6 by omega)];rfl
 ·rw[decide_eq_false (show ¬ fs.length<=6 by omega)];simp
 ·rw[decide_eq_false h2];simp
 ·rw[decide_eq_false (show ¬ b.v.length<=5 by omega)];simp
theorem a2d(b:BoxT)(fs:List Fact)(hb:ZJ b=true)(hv:Xd b=true)(hf:Xu fs=true): ∀ (k i:Nat) (n:Int),k+i=b.v.length ->
  At Uw 0 (Za Vk (Zi (decide (b.v.length<=5)&&decide (c4l b.m k n<=300)&&decide (fs.length<=6)&&Sn fs 6))) UU 0 40 [(1,.pv (enc fs)),(2,.ptr 0 0),(5,.pv (.int .i64 n)),(6,.pv (.int .i64 i))] [.obj (.box [.pv (enc b.v),.pv (.int .i64 b.m)])]:=by
 have hbo:=hb
 simp only[ZJ,XW,Bool.and_eq_true]at hb
 have hl:=Zz.1 hb.1
 intro k
 induction k with
 | zero=>
  intro i n hi
  exact GD b fs n i (ZG (YY (by omega)) (Dl (P:=True) b fs hl hf n fun x hx=>ZW hx))
 | succ k ih=>
  intro i n hi
  have hlt:i<b.v.length:=by omega
  refine GD b fs n i (ZA (Yy hlt) ⟨Zk (b,()) rfl hbo,Zg (b,()) rfl (ZA hv ?_)⟩)
  rw[next (by omega)]
  exact ih (i+1) _ (by omega)
theorem a1q(m:Nat): ∀ (l:List Str) (n r:Int),0<=n->n<=20000->DD m l n=some r->m<=20000->c4l m l.length n=RJ m l n
 | [],n,r,_,_,_,_=>rfl
 | s::l,n,r,h0,h1,h,hm=>by
  rw[DD]at h
  split at h
  ·cases h
  ·rename_i hn
   show c4l m l.length (XI (n*XI ((m:Int)+1)))=RJ m l (n*((m:Int)+1))
   have e0:0<=n*((m:Int)+1):=Int.mul_nonneg h0 (by omega)
   rw[Y2 (n:=(m:Int)+1) (by omega) (by omega),Y2 (by omega) (by omega)]
   exact a1q m l _ r e0 (by omega) h hm
theorem a3w: ∀ x:BoxT×List Fact×Unit,(ZJ x.1&&Xu x.2.1)=true->Ze Uw 0 (Za Vk (Zi (QA x.1 x.2.1))) UU [] (Yn b7a (encL x)):=by
 rintro⟨b,fs,⟨⟩⟩ h
 simp only[Bool.and_eq_true]at h
 obtain⟨hb,hf⟩:=h
 have hbo:=hb
 simp only[ZJ,XW,Bool.and_eq_true]at hb
 have hl:=Zz.1 hb.1
 refine c8e b fs ?_
 cases hv:Xd b
 ·have ef:QA b fs=(decide (b.v.length<=5)&&decide ((1:Int)<=300)&&decide (fs.length<=6)&&Sn fs 6):=by unfold QA;rw[hv];rfl
  show At Uw 0 (Za Vk (Zi (QA b fs))) _ _ _ _ _
  rw[ef]
  by_cases h0:0<b.v.length
  ·refine GD b fs 1 ((0:Nat):Int) (ZA (Yy h0) ⟨Zk (b,()) rfl hbo,Zg (b,()) rfl (ZG (show ¬ Xd b=true by simp[hv]) ?_)⟩)
   exact Dl (P:=True) b fs hl hf 1 fun x hx=>ZW hx
  ·exact GD b fs 1 ((0:Nat):Int) (ZG (YY h0) (Dl (P:=True) b fs hl hf 1 fun x hx=>ZW hx))
 ·have ef:QA b fs=(decide (b.v.length<=5)&&decide (c4l b.m b.v.length 1<=300)&&decide (fs.length<=6)&&Sn fs 6):=by
   unfold QA
   rw[hv,if_pos rfl]
   obtain⟨_,_,h3,h4,h5⟩:=VG.1 hv
   obtain⟨r,hr⟩:=Option.isSome_iff_exists.1 h5
   rcases h3 with h3|h3
   ·rw[h3];rfl
   ·have e:b.m=(b.m.toNat:Int):=by omega
    rw[e]at hr ⊢
    rw[a1q _ _ _ _ (by decide) (by decide) hr (by omega)]
  show At Uw 0 (Za Vk (Zi (QA b fs))) _ _ _ _ _
  rw[ef]
  exact a2d b fs hbo hv hf b.v.length 0 1 (by omega)
end Go.Pl
namespace Go.Pl
open Go.RowKit
open Enc (enc dec is)
open EncL (encL decL isL)
set_option maxRecDepth 100000
noncomputable def Vo:IC:=Wn Proofs.Tryz.f118
def Wz:List IRes:=[(.tmp 8)]
abbrev b3p:Nat:=58
def VB:ZU:=Xe [(51,.pure (preT (fun x:BoxT×Unit=>ZJ x.1)) (Zw (fun x:BoxT×Unit=>Xd x.1))),(35,.pure (preT (fun x:List Fact×Unit=>Zl x.1)) (Zw (fun x:List Fact×Unit=>YU x.1))),(20,.pure (preT (fun x:Lin×Unit=>Z9 x.1)) (Zw (fun x:Lin×Unit=>Zh x.1))),(131,.pure (preT (fun x:List Mono×Unit=>Ya x.1)) (Zw (fun x:List Mono×Unit=>Zx x.1))),(180,.pure (preT (fun x:List Lin×Unit=>Uh x.1)) (Zw (fun x:List Lin×Unit=>QB x.1))),(179,.pure (preT (fun x:BoxT×List Str×Unit=>Zr x.1.v&&Zr x.2.1)) (Zw (fun x:BoxT×List Str×Unit=>Y7 x.1.v x.2.1))),(181,.pure (preT (fun x:List Mono×Unit=>Ya x.1)) (Zw (fun x:List Mono×Unit=>Y9 x.1)))]
theorem c5o{G:PV->Prop}(b:BoxT)(fs:List Fact)(l:Lin)(p:List Mono)(h:(Go.Pl.preT (fun(x:BoxT×Unit)=>ZJ x.1) [(.agg [(.sl 1 false (List.map enc b.v)),(.int .i64 b.m)])])=true∧(Yk (fun(x:BoxT×Unit)=>Xd x.1) [(.agg [(.sl 1 false (List.map enc b.v)),(.int .i64 b.m)])] fun y0:Bool=>if (!y0)=true then G ((.int .i64 1))else((Go.Pl.preT (fun(x:List Fact×Unit)=>Zl x.1) [(.sl 3 false (List.map enc fs))])=true∧(Yk (fun(x:List Fact×Unit)=>YU x.1) [(.sl 3 false (List.map enc fs))] fun y1:Bool=>if (!y1)=true then G ((.int .i64 1))else((Go.Pl.preT (fun(x:Lin×Unit)=>Z9 x.1) [(.agg [(.int .i64 l.k),(.sl 2 false (List.map enc l.t))])])=true∧(Yk (fun(x:Lin×Unit)=>Zh x.1) [(.agg [(.int .i64 l.k),(.sl 2 false (List.map enc l.t))])] fun y2:Bool=>if (!y2)=true then G ((.int .i64 1))else((Go.Pl.preT (fun(x:List Mono×Unit)=>Ya x.1) [(.sl 2 false (List.map enc p))])=true∧(Yk (fun(x:List Mono×Unit)=>Zx x.1) [(.sl 2 false (List.map enc p))] fun y3:Bool=>if (!y3)=true then G ((.int .i64 1))else(At VB 0 (Za Wz G) Vo 0 58 [(1,(.pv (.sl 3 false (List.map enc fs)))),(3,(ZM p)),(4,(.ptr 0 0)),(6,(.ptr 1 0)),(9,(.pv (.sl 0 true []))),(10,(Zc 0))] [(.obj (.box [(Y3 b.v),(Zc b.m)])),(.obj (.box [(Zc l.k),(ZM l.t)]))]))))))))):Ze VB 0 (Za Wz G) Vo [] (Yn 58 [enc b,enc fs,enc l,enc p]):=Ze.tp (.req (Yj (Bool) (.ask (Yo 12) (.lit (.req (Yj (Bool) (ZK 2 (.ask (Yo 8) (.lit (.req (Yj (Bool) (ZK 2 (.ask (Yo 4) (.lit (.req (Yj (Bool) (ZK 2 (.ask (.nil) (.nil))))))))))))))))))) h (by kernel_rfl)
theorem PM{G:PV->Prop}(b:BoxT)(fs:List Fact)(l:Lin)(p:List Mono)(i:Int)(h:if (Rx fs i)=true then Vt fs i 3∧(Xc fs i fun y0:Fact=>At VB 0 (Za Wz G) Vo 0 58 [(1,(.pv (.sl 3 false (List.map enc fs)))),(3,(ZM p)),(4,(.ptr 0 0)),(6,(.ptr 1 0)),(9,(.row 2 1 0 1)),(10,(Zc (IntKind.wrap IntKind.i64 (i+1))))] [(.obj (.box [(Y3 b.v),(Zc b.m)])),(.obj (.box [(Zc l.k),(ZM l.t)])),(.obj (.row false 24 2 [(.agg [(.int .i64 (PV.asInt (WY y0))),(.sl 2 false (PV.asXs (List.getD (List.drop 1 (PV.cells (enc y0))) (0+1) default)))])]))])else((Go.Pl.preT (fun(x:List Lin×Unit)=>Uh x.1) [(.sl 2 false [(.agg [(.int .i64 l.k),(.sl 2 false (List.map enc l.t))])])])=true∧(Yk (fun(x:List Lin×Unit)=>QB x.1) [(.sl 2 false [(.agg [(.int .i64 l.k),(.sl 2 false (List.map enc l.t))])])] fun y1:List Str=>(Go.Pl.preT (fun(x:BoxT×List Str×Unit)=>Zr x.1.v&&Zr x.2.1) [(.agg [(.sl 1 false (List.map enc b.v)),(.int .i64 b.m)]),(.sl 1 false (List.map enc y1))])=true∧(Yk (fun(x:BoxT×List Str×Unit)=>Y7 x.1.v x.2.1) [(.agg [(.sl 1 false (List.map enc b.v)),(.int .i64 b.m)]),(.sl 1 false (List.map enc y1))] fun y2:Bool=>if (!y2)=true then G ((.int .i64 7))else((Go.Pl.preT (fun(x:List Mono×Unit)=>Ya x.1) [(.sl 2 false (List.map enc p))])=true∧(Yk (fun(x:List Mono×Unit)=>Y9 x.1) [(.sl 2 false (List.map enc p))] fun y3:List Str=>(Go.Pl.preT (fun(x:BoxT×List Str×Unit)=>Zr x.1.v&&Zr x.2.1) [(.agg [(.sl 1 false (List.map enc b.v)),(.int .i64 b.m)]),(.sl 1 false (List.map enc y3))])=true∧(Yk (fun(x:BoxT×List Str×Unit)=>Y7 x.1.v x.2.1) [(.agg [(.sl 1 false (List.map enc b.v)),(.int .i64 b.m)]),(.sl 1 false (List.map enc y3))] fun y4:Bool=>if (!y4)=true then G ((.int .i64 7))else(G ((.int .i64 0)))))))))):At VB 0 (Za Wz G) Vo 0 58 [(1,.pv (enc fs)),(3,.pv (enc p)),(4,.ptr 0 0),(6,.ptr 1 0),(9,.pv (.sl 0 true [])),(10,.pv (.int .i64 i))] [.obj (.box [.pv (enc b.v),.pv (.int .i64 b.m)]),.obj (.box [.pv (.int .i64 l.k),.pv (enc l.t)])]:=At.tp (.lit (.ask (.req (Xa (Fact) (Yo 7))) (ZK 6 (.req (Yj (List Str) (.req (Yj (Bool) (.ask (Yo 6) (ZK 2 (.req (Yj (List Str) (.lit (.req (Yj (Bool) (ZK 2 (.ask (.nil) (.nil))))))))))))))))) h (by kernel_rfl)
theorem Rq{G:PV->Prop}(b:BoxT)(fs:List Fact)(l:Lin)(p:List Mono)(i:Int)(q:Nat)(ls:List Lin)(h:if (Rx fs i)=true then Vt fs i 3∧(Xc fs i fun y0:Fact=>(List.length (List.map enc ls)==q&&q==q&&decide ((q+List.length (List.drop 0 (List.take 1 [PV.agg (UA (List.drop 1 (PV.cells (enc y0))) 0 [Sh.int .i64,Sh.sl 2])])))*32<=1099511627776)&&decide (q+List.length (List.drop 0 (List.take 1 [PV.agg (UA (List.drop 1 (PV.cells (enc y0))) 0 [Sh.int .i64,Sh.sl 2])]))<=1099511627776))=true∧(At VB 0 (Za Wz G) Vo 0 58 [(1,(.pv (.sl 3 false (List.map enc fs)))),(3,(ZM p)),(4,(.ptr 0 0)),(6,(.ptr 1 0)),(9,(.row 2 (q+List.length (List.drop 0 (List.take 1 [PV.agg (UA (List.drop 1 (PV.cells (enc y0))) 0 [Sh.int .i64,Sh.sl 2])]))) 0 (q+List.length (List.drop 0 (List.take 1 [PV.agg (UA (List.drop 1 (PV.cells (enc y0))) 0 [Sh.int .i64,Sh.sl 2])]))))),(10,(Zc (IntKind.wrap IntKind.i64 (i+1))))] [(.obj (.box [(Y3 b.v),(Zc b.m)])),(.obj (.box [(Zc l.k),(ZM l.t)])),(.obj (.row false 24 2 (List.map enc ls++List.drop 0 (List.take 1 [PV.agg (UA (List.drop 1 (PV.cells (enc y0))) 0 [Sh.int .i64,Sh.sl 2])]))))]))else((List.length (List.map enc ls)==q&&q==q&&decide ((q+List.length (List.drop 0 (List.take 1 [PV.agg [PV.int .i64 l.k,enc l.t]])))*32<=1099511627776)&&decide (q+List.length (List.drop 0 (List.take 1 [PV.agg [PV.int .i64 l.k,enc l.t]]))<=1099511627776))=true∧((List.length (List.map enc ls++List.drop 0 (List.take 1 [PV.agg [PV.int .i64 l.k,enc l.t]]))==q+List.length (List.drop 0 (List.take 1 [PV.agg [PV.int .i64 l.k,enc l.t]])))=true∧((Go.Pl.preT (fun(x:List Lin×Unit)=>Uh x.1) [(.sl 2 false (List.drop 0 (List.take (q+List.length (List.drop 0 (List.take 1 [PV.agg [PV.int .i64 l.k,enc l.t]]))) (List.map enc ls++List.drop 0 (List.take 1 [PV.agg [PV.int .i64 l.k,enc l.t]])))))])=true∧(Yk (fun(x:List Lin×Unit)=>QB x.1) [(.sl 2 false (List.drop 0 (List.take (q+List.length (List.drop 0 (List.take 1 [PV.agg [PV.int .i64 l.k,enc l.t]]))) (List.map enc ls++List.drop 0 (List.take 1 [PV.agg [PV.int .i64 l.k,enc l.t]])))))] fun y1:List Str=>(Go.Pl.preT (fun(x:BoxT×List Str×Unit)=>Zr x.1.v&&Zr x.2.1) [(.agg [(.sl 1 false (List.map enc b.v)),(.int .i64 b.m)]),(.sl 1 false (List.map enc y1))])=true∧(Yk (fun(x:BoxT×List Str×Unit)=>Y7 x.1.v x.2.1) [(.agg [(.sl 1 false (List.map enc b.v)),(.int .i64 b.m)]),(.sl 1 false (List.map enc y1))] fun y2:Bool=>if (!y2)=true then G ((.int .i64 7))else((Go.Pl.preT (fun(x:List Mono×Unit)=>Ya x.1) [(.sl 2 false (List.map enc p))])=true∧(Yk (fun(x:List Mono×Unit)=>Y9 x.1) [(.sl 2 false (List.map enc p))] fun y3:List Str=>(Go.Pl.preT (fun(x:BoxT×List Str×Unit)=>Zr x.1.v&&Zr x.2.1) [(.agg [(.sl 1 false (List.map enc b.v)),(.int .i64 b.m)]),(.sl 1 false (List.map enc y3))])=true∧(Yk (fun(x:BoxT×List Str×Unit)=>Y7 x.1.v x.2.1) [(.agg [(.sl 1 false (List.map enc b.v)),(.int .i64 b.m)]),(.sl 1 false (List.map enc y3))] fun y4:Bool=>if (!y4)=true then G ((.int .i64 7))else(G ((.int .i64 0)))))))))))):At VB 0 (Za Wz G) Vo 0 58 [(1,.pv (enc fs)),(3,.pv (enc p)),(4,.ptr 0 0),(6,.ptr 1 0),(9,.row 2 q 0 q),(10,.pv (.int .i64 i))] [.obj (.box [.pv (enc b.v),.pv (.int .i64 b.m)]),.obj (.box [.pv (.int .i64 l.k),.pv (enc l.t)]),.obj (.row false 24 2 (ls.map enc))]:=At.tp (.lit (.ask (.req (Xa (Fact) (ZK 3 (.req (.lit (.nil)))))) (ZK 2 (.req (.req (.req (Yj (List Str) (.req (Yj (Bool) (.ask (Yo 6) (ZK 2 (.req (Yj (List Str) (.lit (.req (Yj (Bool) (ZK 2 (.ask (.nil) (.nil))))))))))))))))))) h (by kernel_rfl)
noncomputable def YA:IC:=Wn Proofs.Tryz.f46
def Yz:List IRes:=[(.tmp 4),(.tmp 5)]
abbrev c9i:Nat:=60
def Y6:ZU:=Xe [(118,.pure (preT (fun x:BoxT×List Fact×Lin×List Mono×Unit=>ZJ x.1&&Zl x.2.1&&decide (x.2.1.length<=100)&&Z9 x.2.2.1&&Ya x.2.2.2.1)) (Zw (fun x:BoxT×List Fact×Lin×List Mono×Unit=>Zj x.1 x.2.1 (Zh x.2.2.1&&Zx x.2.2.2.1) (Zd x.2.2.1++Y9 x.2.2.2.1)))),(49,.own WM Qg),(53,.pure (preT (fun x:List Fact×List Coef×Unit=>Zl x.1&&decide (x.2.1.length<=9223372036854775807))) (Zw (fun x:List Fact×List Coef×Unit=>x.1.all fun f=>Yx f x.2.1)))]
theorem d8h{G:PV->Prop}(b:BoxT)(fs:List Fact)(h:(Go.Pl.preT (fun(x:BoxT×List Fact×Lin×List Mono×Unit)=>ZJ x.1&&Zl x.2.1&&decide (List.length x.2.1<=100)&&Z9 x.2.2.1&&Ya x.2.2.2.1) [(.agg [(.sl 1 false (List.map enc b.v)),(.int .i64 b.m)]),(.sl 3 false (List.map enc fs)),(.agg [(.int .i64 0),(.sl 0 true [])]),(.sl 0 true [])])=true∧(Yk (fun(x:BoxT×List Fact×Lin×List Mono×Unit)=>Zj x.1 x.2.1 (Zh x.2.2.1&&Zx x.2.2.2.1) (Zd x.2.2.1++Y9 x.2.2.2.1)) [(.agg [(.sl 1 false (List.map enc b.v)),(.int .i64 b.m)]),(.sl 3 false (List.map enc fs)),(.agg [(.int .i64 0),(.sl 0 true [])]),(.sl 0 true [])] fun y0:Int=>if (y0 != 0)=true then G ((.tup [(.sl 0 true []),(.int .i64 y0)]))else((decide (0<=(↑(List.length (List.map enc b.v)):Int))&&(↑(List.length (List.map enc b.v)):Int)==(↑(List.length (List.map enc b.v)):Int)&&decide ((↑(List.length (List.map enc b.v)):Int)*(↑8:Int)<=1099511627776)&&decide ((↑(List.length (List.map enc b.v)):Int)<=1099511627776))=true∧(At Y6 0 (Za Yz G) YA 0 60 [(1,(.pv (.sl 3 false (List.map enc fs)))),(2,(.ptr 0 0)),(7,(.pv (.sl 0 true []))),(8,(.row 1 (Int.toNat (↑(List.length (List.map enc b.v)):Int)) 0 (Int.toNat (↑(List.length (List.map enc b.v)):Int))))] [(.obj (.box [(Y3 b.v),(Zc b.m)])),(.obj (.row false 3 1 (List.replicate (Int.toNat (↑(List.length (List.map enc b.v)):Int)) (PV.int .i64 0))))])))):Ze Y6 0 (Za Yz G) YA [] (Yn 60 [enc b,enc fs]):=Ze.tp (.req (Yj (Int) (.lit (.ask (.nil) (.req (.nil)))))) h (by kernel_rfl)
theorem Oo{G:PV->Prop}(b:BoxT)(fs:List Fact)(n:Nat)(p:List Int)(h:(WM [(.pv (.agg [(.sl 1 false (List.map enc b.v)),(.int .i64 b.m)])),(.row 0 n 0 n)] [(.row false 3 1 (List.map enc p))])=true∧((Go.Pl.preT (fun(x:List Fact×List Coef×Unit)=>Zl x.1&&decide (List.length x.2.1<=9223372036854775807)) [(.sl 3 false (List.map enc fs)),(.sl 2 false (List.map enc (Zf (dec (enc b.v)) (PD (List.map enc p)))))])=true∧(Yk (fun(x:List Fact×List Coef×Unit)=>List.all x.1 fun(f:Fact)=>Yx f x.2.1) [(.sl 3 false (List.map enc fs)),(.sl 2 false (List.map enc (Zf (dec (enc b.v)) (PD (List.map enc p)))))] fun y0:Bool=>if (y0)=true then(List.length (List.map enc p)==n)=true∧((List.length ([]:List PV)==0&&0==0&&decide ((0+List.length (List.drop 0 (List.take n (List.map enc p))))*8<=1099511627776)&&decide (0+List.length (List.drop 0 (List.take n (List.map enc p)))<=1099511627776))=true∧((List.length (([]:List PV)++List.drop 0 (List.take n (List.map enc p)))==0+List.length (List.drop 0 (List.take n (List.map enc p))))=true∧(At Y6 0 (Za Yz G) YA 1 60 [(1,(.pv (.sl 3 false (List.map enc fs)))),(2,(.ptr 0 0)),(7,(.row 1 1 0 1)),(8,(.row 2 n 0 n)),(9,(Zc (IntKind.wrap IntKind.i64 ((↑(n - 0):Int) - 1))))] [(.obj (.box [(Y3 b.v),(Zc b.m)])),(.obj (.row false 34 1 [(.sl 1 false (List.drop 0 (List.take (0+List.length (List.drop 0 (List.take n (List.map enc p)))) (([]:List PV)++List.drop 0 (List.take n (List.map enc p))))))])),(.obj (.row false 3 1 (List.map enc p)))])))else(At Y6 0 (Za Yz G) YA 1 60 [(1,(.pv (.sl 3 false (List.map enc fs)))),(2,(.ptr 0 0)),(7,(.pv (.sl 0 true []))),(8,(.row 1 n 0 n)),(9,(Zc (IntKind.wrap IntKind.i64 ((↑(n - 0):Int) - 1))))] [(.obj (.box [(Y3 b.v),(Zc b.m)])),(.obj (.row false 3 1 (List.map enc p)))])))):At Y6 0 (Za Yz G) YA 0 60 [(1,.pv (enc fs)),(2,.ptr 0 0),(8,.row 1 n 0 n),(7,.pv (.sl 0 true []))] [.obj (.box [.pv (enc b.v),.pv (.int .i64 b.m)]),.obj (.row false 3 1 (p.map enc))]:=At.tp (.req (.keep (.req (Yj (Bool) (.ask (.lit (.req (.req (.req (Yo 6))))) (.lit (.nil))))))) h (by kernel_rfl)
theorem OT{G:PV->Prop}(b:BoxT)(fs:List Fact)(n:Nat)(p:List Int)(q:Nat)(xs:List (List Int))(h:(WM [(.pv (.agg [(.sl 1 false (List.map enc b.v)),(.int .i64 b.m)])),(.row 0 n 0 n)] [(.row false 3 1 (List.map enc p))])=true∧((Go.Pl.preT (fun(x:List Fact×List Coef×Unit)=>Zl x.1&&decide (List.length x.2.1<=9223372036854775807)) [(.sl 3 false (List.map enc fs)),(.sl 2 false (List.map enc (Zf (dec (enc b.v)) (PD (List.map enc p)))))])=true∧(Yk (fun(x:List Fact×List Coef×Unit)=>List.all x.1 fun(f:Fact)=>Yx f x.2.1) [(.sl 3 false (List.map enc fs)),(.sl 2 false (List.map enc (Zf (dec (enc b.v)) (PD (List.map enc p)))))] fun y0:Bool=>if (y0)=true then(List.length (List.map enc p)==n)=true∧((List.length ([]:List PV)==0&&0==0&&decide ((0+List.length (List.drop 0 (List.take n (List.map enc p))))*8<=1099511627776)&&decide (0+List.length (List.drop 0 (List.take n (List.map enc p)))<=1099511627776))=true∧((List.length (([]:List PV)++List.drop 0 (List.take n (List.map enc p)))==0+List.length (List.drop 0 (List.take n (List.map enc p))))=true∧((List.length (List.map enc xs)==q&&q==q&&decide ((q+List.length (List.drop 0 (List.take 1 [PV.sl 1 false (List.drop 0 (List.take (0+List.length (List.drop 0 (List.take n (List.map enc p)))) (([]:List PV)++List.drop 0 (List.take n (List.map enc p)))))])))*24<=1099511627776)&&decide (q+List.length (List.drop 0 (List.take 1 [PV.sl 1 false (List.drop 0 (List.take (0+List.length (List.drop 0 (List.take n (List.map enc p)))) (([]:List PV)++List.drop 0 (List.take n (List.map enc p)))))]))<=1099511627776))=true∧(At Y6 0 (Za Yz G) YA 1 60 [(1,(.pv (.sl 3 false (List.map enc fs)))),(2,(.ptr 0 0)),(7,(.row 1 (q+List.length (List.drop 0 (List.take 1 [PV.sl 1 false (List.drop 0 (List.take (0+List.length (List.drop 0 (List.take n (List.map enc p)))) (([]:List PV)++List.drop 0 (List.take n (List.map enc p)))))]))) 0 (q+List.length (List.drop 0 (List.take 1 [PV.sl 1 false (List.drop 0 (List.take (0+List.length (List.drop 0 (List.take n (List.map enc p)))) (([]:List PV)++List.drop 0 (List.take n (List.map enc p)))))]))))),(8,(.row 2 n 0 n)),(9,(Zc (IntKind.wrap IntKind.i64 ((↑(n - 0):Int) - 1))))] [(.obj (.box [(Y3 b.v),(Zc b.m)])),(.obj (.row false 34 1 (List.map enc xs++List.drop 0 (List.take 1 [PV.sl 1 false (List.drop 0 (List.take (0+List.length (List.drop 0 (List.take n (List.map enc p)))) (([]:List PV)++List.drop 0 (List.take n (List.map enc p)))))])))),(.obj (.row false 3 1 (List.map enc p)))]))))else(At Y6 0 (Za Yz G) YA 1 60 [(1,(.pv (.sl 3 false (List.map enc fs)))),(2,(.ptr 0 0)),(7,(.row 1 q 0 q)),(8,(.row 2 n 0 n)),(9,(Zc (IntKind.wrap IntKind.i64 ((↑(n - 0):Int) - 1))))] [(.obj (.box [(Y3 b.v),(Zc b.m)])),(.obj (.row false 34 1 (List.map enc xs))),(.obj (.row false 3 1 (List.map enc p)))])))):At Y6 0 (Za Yz G) YA 0 60 [(1,.pv (enc fs)),(2,.ptr 0 0),(7,.row 1 q 0 q),(8,.row 2 n 0 n)] [.obj (.box [.pv (enc b.v),.pv (.int .i64 b.m)]),.obj (.row false 34 1 (xs.map enc)),.obj (.row false 3 1 (p.map enc))]:=At.tp (.req (.keep (.req (Yj (Bool) (.ask (.lit (.req (.req (.req (ZK 2 (.req (.lit (.nil)))))))) (.lit (.nil))))))) h (by kernel_rfl)
theorem a2c{G:PV->Prop}(b:BoxT)(fs:List Fact)(n:Nat)(p:List Int)(k:Int)(h:if (decide (k ≥ 0))=true then(decide (0<=k)&&decide (0+Int.toNat k<n)&&List.length (List.map enc p)==n)=true∧((List.length (List.map enc p)==n&&decide (0+Int.toNat k<List.length (List.map enc p)))=true∧((Jz [Sh.int .i64] (PV.cells (List.getD (List.map enc p) (0+Int.toNat k) default)))=true∧(if (PV.asInt (List.getD (PV.cells (List.getD (List.map enc p) (0+Int.toNat k) default)) 0 default)==BoxT.m b)=true then(decide (0<=k)&&decide (0+Int.toNat k<n)&&List.length (List.map enc p)==n)=true∧((List.length (List.map enc p)==n&&decide (0+Int.toNat k<List.length (List.map enc p))&&List.length (PV.cells (PV.int .i64 0))==1&&decide (0+1<=List.length (PV.cells (List.getD (List.map enc p) (0+Int.toNat k) default)))&&PV.cellsOk (PV.int .i64 0))=true∧(At Y6 0 (Za Yz G) YA 1 60 [(1,(.pv (.sl 3 false (List.map enc fs)))),(2,(.ptr 0 0)),(7,(.pv (.sl 0 true []))),(8,(.row 1 n 0 n)),(9,(Zc (IntKind.wrap IntKind.i64 (k - 1))))] [(.obj (.box [(Y3 b.v),(Zc b.m)])),(.obj (.row false 3 1 (List.set (List.map enc p) (0+Int.toNat k) (PV.withCells (List.getD (List.map enc p) (0+Int.toNat k) default) (splice (PV.cells (List.getD (List.map enc p) (0+Int.toNat k) default)) 0 (PV.cells (PV.int .i64 0)))))))]))else(if (decide (k<0))=true then G ((.tup [(.sl 0 true []),(.int .i64 0)]))else((decide (0<=k)&&decide (0+Int.toNat k<n)&&List.length (List.map enc p)==n)=true∧((List.length (List.map enc p)==n&&decide (0+Int.toNat k<List.length (List.map enc p)))=true∧((Jz [Sh.int .i64] (PV.cells (List.getD (List.map enc p) (0+Int.toNat k) default)))=true∧((decide (0<=k)&&decide (0+Int.toNat k<n)&&List.length (List.map enc p)==n)=true∧((List.length (List.map enc p)==n&&decide (0+Int.toNat k<List.length (List.map enc p))&&List.length (PV.cells (PV.int .i64 (IntKind.wrap IntKind.i64 (PV.asInt (List.getD (PV.cells (List.getD (List.map enc p) (0+Int.toNat k) default)) 0 default)+1))))==1&&decide (0+1<=List.length (PV.cells (List.getD (List.map enc p) (0+Int.toNat k) default)))&&PV.cellsOk (PV.int .i64 (IntKind.wrap IntKind.i64 (PV.asInt (List.getD (PV.cells (List.getD (List.map enc p) (0+Int.toNat k) default)) 0 default)+1))))=true∧(At Y6 0 (Za Yz G) YA 0 60 [(1,(.pv (.sl 3 false (List.map enc fs)))),(2,(.ptr 0 0)),(7,(.pv (.sl 0 true []))),(8,(.row 1 n 0 n))] [(.obj (.box [(Y3 b.v),(Zc b.m)])),(.obj (.row false 3 1 (List.set (List.map enc p) (0+Int.toNat k) (PV.withCells (List.getD (List.map enc p) (0+Int.toNat k) default) (splice (PV.cells (List.getD (List.map enc p) (0+Int.toNat k) default)) 0 (PV.cells (PV.int .i64 (IntKind.wrap IntKind.i64 (PV.asInt (List.getD (PV.cells (List.getD (List.map enc p) (0+Int.toNat k) default)) 0 default)+1)))))))))]))))))))))else(if (decide (k<0))=true then G ((.tup [(.sl 0 true []),(.int .i64 0)]))else((decide (0<=k)&&decide (0+Int.toNat k<n)&&List.length (List.map enc p)==n)=true∧((List.length (List.map enc p)==n&&decide (0+Int.toNat k<List.length (List.map enc p)))=true∧((Jz [Sh.int .i64] (PV.cells (List.getD (List.map enc p) (0+Int.toNat k) default)))=true∧((decide (0<=k)&&decide (0+Int.toNat k<n)&&List.length (List.map enc p)==n)=true∧((List.length (List.map enc p)==n&&decide (0+Int.toNat k<List.length (List.map enc p))&&List.length (PV.cells (PV.int .i64 (IntKind.wrap IntKind.i64 (PV.asInt (List.getD (PV.cells (List.getD (List.map enc p) (0+Int.toNat k) default)) 0 default)+1))))==1&&decide (0+1<=List.length (PV.cells (List.getD (List.map enc p) (0+Int.toNat k) default)))&&PV.cellsOk (PV.int .i64 (IntKind.wrap IntKind.i64 (PV.asInt (List.getD (PV.cells (List.getD (List.map enc p) (0+Int.toNat k) default)) 0 default)+1))))=true∧(At Y6 0 (Za Yz G) YA 0 60 [(1,(.pv (.sl 3 false (List.map enc fs)))),(2,(.ptr 0 0)),(7,(.pv (.sl 0 true []))),(8,(.row 1 n 0 n))] [(.obj (.box [(Y3 b.v),(Zc b.m)])),(.obj (.row false 3 1 (List.set (List.map enc p) (0+Int.toNat k) (PV.withCells (List.getD (List.map enc p) (0+Int.toNat k) default) (splice (PV.cells (List.getD (List.map enc p) (0+Int.toNat k) default)) 0 (PV.cells (PV.int .i64 (IntKind.wrap IntKind.i64 (PV.asInt (List.getD (PV.cells (List.getD (List.map enc p) (0+Int.toNat k) default)) 0 default)+1)))))))))])))))))):At Y6 0 (Za Yz G) YA 1 60 [(1,.pv (enc fs)),(2,.ptr 0 0),(8,.row 1 n 0 n),(7,.pv (.sl 0 true [])),(9,.pv (.int .i64 k))] [.obj (.box [.pv (enc b.v),.pv (.int .i64 b.m)]),.obj (.row false 3 1 (p.map enc))]:=At.tp (.lit (.ask (ZK 2 (.req (.keep (.lit (.req (.req (ZK 5 (.ask (.req (.keep (.req (.lit (.nil))))) (.lit (.ask (.nil) (.req (.keep (.req (.req (.lit (.req (.keep (.req (.nil))))))))))))))))))) (ZK 9 (.ask (.nil) (.req (.keep (.req (.req (.lit (.req (.keep (.req (.nil))))))))))))) h (by kernel_rfl)
theorem a1l{G:PV->Prop}(b:BoxT)(fs:List Fact)(n:Nat)(p:List Int)(k:Int)(q:Nat)(xs:List (List Int))(h:if (decide (k ≥ 0))=true then(decide (0<=k)&&decide (0+Int.toNat k<n)&&List.length (List.map enc p)==n)=true∧((List.length (List.map enc p)==n&&decide (0+Int.toNat k<List.length (List.map enc p)))=true∧((Jz [Sh.int .i64] (PV.cells (List.getD (List.map enc p) (0+Int.toNat k) default)))=true∧(if (PV.asInt (List.getD (PV.cells (List.getD (List.map enc p) (0+Int.toNat k) default)) 0 default)==BoxT.m b)=true then(decide (0<=k)&&decide (0+Int.toNat k<n)&&List.length (List.map enc p)==n)=true∧((List.length (List.map enc p)==n&&decide (0+Int.toNat k<List.length (List.map enc p))&&List.length (PV.cells (PV.int .i64 0))==1&&decide (0+1<=List.length (PV.cells (List.getD (List.map enc p) (0+Int.toNat k) default)))&&PV.cellsOk (PV.int .i64 0))=true∧(At Y6 0 (Za Yz G) YA 1 60 [(1,(.pv (.sl 3 false (List.map enc fs)))),(2,(.ptr 0 0)),(7,(.row 1 q 0 q)),(8,(.row 2 n 0 n)),(9,(Zc (IntKind.wrap IntKind.i64 (k - 1))))] [(.obj (.box [(Y3 b.v),(Zc b.m)])),(.obj (.row false 34 1 (List.map enc xs))),(.obj (.row false 3 1 (List.set (List.map enc p) (0+Int.toNat k) (PV.withCells (List.getD (List.map enc p) (0+Int.toNat k) default) (splice (PV.cells (List.getD (List.map enc p) (0+Int.toNat k) default)) 0 (PV.cells (PV.int .i64 0)))))))]))else(if (decide (k<0))=true then(List.length (List.map enc xs)==q)=true∧(G ((.tup [(.sl 1 false (List.drop 0 (List.take q (List.map enc xs)))),(.int .i64 0)])))else((decide (0<=k)&&decide (0+Int.toNat k<n)&&List.length (List.map enc p)==n)=true∧((List.length (List.map enc p)==n&&decide (0+Int.toNat k<List.length (List.map enc p)))=true∧((Jz [Sh.int .i64] (PV.cells (List.getD (List.map enc p) (0+Int.toNat k) default)))=true∧((decide (0<=k)&&decide (0+Int.toNat k<n)&&List.length (List.map enc p)==n)=true∧((List.length (List.map enc p)==n&&decide (0+Int.toNat k<List.length (List.map enc p))&&List.length (PV.cells (PV.int .i64 (IntKind.wrap IntKind.i64 (PV.asInt (List.getD (PV.cells (List.getD (List.map enc p) (0+Int.toNat k) default)) 0 default)+1))))==1&&decide (0+1<=List.length (PV.cells (List.getD (List.map enc p) (0+Int.toNat k) default)))&&PV.cellsOk (PV.int .i64 (IntKind.wrap IntKind.i64 (PV.asInt (List.getD (PV.cells (List.getD (List.map enc p) (0+Int.toNat k) default)) 0 default)+1))))=true∧(At Y6 0 (Za Yz G) YA 0 60 [(1,(.pv (.sl 3 false (List.map enc fs)))),(2,(.ptr 0 0)),(7,(.row 1 q 0 q)),(8,(.row 2 n 0 n))] [(.obj (.box [(Y3 b.v),(Zc b.m)])),(.obj (.row false 34 1 (List.map enc xs))),(.obj (.row false 3 1 (List.set (List.map enc p) (0+Int.toNat k) (PV.withCells (List.getD (List.map enc p) (0+Int.toNat k) default) (splice (PV.cells (List.getD (List.map enc p) (0+Int.toNat k) default)) 0 (PV.cells (PV.int .i64 (IntKind.wrap IntKind.i64 (PV.asInt (List.getD (PV.cells (List.getD (List.map enc p) (0+Int.toNat k) default)) 0 default)+1)))))))))]))))))))))else(if (decide (k<0))=true then(List.length (List.map enc xs)==q)=true∧(G ((.tup [(.sl 1 false (List.drop 0 (List.take q (List.map enc xs)))),(.int .i64 0)])))else((decide (0<=k)&&decide (0+Int.toNat k<n)&&List.length (List.map enc p)==n)=true∧((List.length (List.map enc p)==n&&decide (0+Int.toNat k<List.length (List.map enc p)))=true∧((Jz [Sh.int .i64] (PV.cells (List.getD (List.map enc p) (0+Int.toNat k) default)))=true∧((decide (0<=k)&&decide (0+Int.toNat k<n)&&List.length (List.map enc p)==n)=true∧((List.length (List.map enc p)==n&&decide (0+Int.toNat k<List.length (List.map enc p))&&List.length (PV.cells (PV.int .i64 (IntKind.wrap IntKind.i64 (PV.asInt (List.getD (PV.cells (List.getD (List.map enc p) (0+Int.toNat k) default)) 0 default)+1))))==1&&decide (0+1<=List.length (PV.cells (List.getD (List.map enc p) (0+Int.toNat k) default)))&&PV.cellsOk (PV.int .i64 (IntKind.wrap IntKind.i64 (PV.asInt (List.getD (PV.cells (List.getD (List.map enc p) (0+Int.toNat k) default)) 0 default)+1))))=true∧(At Y6 0 (Za Yz G) YA 0 60 [(1,(.pv (.sl 3 false (List.map enc fs)))),(2,(.ptr 0 0)),(7,(.row 1 q 0 q)),(8,(.row 2 n 0 n))] [(.obj (.box [(Y3 b.v),(Zc b.m)])),(.obj (.row false 34 1 (List.map enc xs))),(.obj (.row false 3 1 (List.set (List.map enc p) (0+Int.toNat k) (PV.withCells (List.getD (List.map enc p) (0+Int.toNat k) default) (splice (PV.cells (List.getD (List.map enc p) (0+Int.toNat k) default)) 0 (PV.cells (PV.int .i64 (IntKind.wrap IntKind.i64 (PV.asInt (List.getD (PV.cells (List.getD (List.map enc p) (0+Int.toNat k) default)) 0 default)+1)))))))))])))))))):At Y6 0 (Za Yz G) YA 1 60 [(1,.pv (enc fs)),(2,.ptr 0 0),(7,.row 1 q 0 q),(8,.row 2 n 0 n),(9,.pv (.int .i64 k))] [.obj (.box [.pv (enc b.v),.pv (.int .i64 b.m)]),.obj (.row false 34 1 (xs.map enc)),.obj (.row false 3 1 (p.map enc))]:=At.tp (.lit (.ask (ZK 2 (.req (.keep (.lit (.req (.req (ZK 5 (.ask (.req (.keep (.req (.lit (.nil))))) (.lit (.ask (.req (.nil)) (.req (.keep (.req (.req (.lit (.req (.keep (.req (.nil))))))))))))))))))) (ZK 9 (.ask (.req (.nil)) (.req (.keep (.req (.req (.lit (.req (.keep (.req (.nil))))))))))))) h (by kernel_rfl)
end Go.Pl
namespace Go.Pl
open Go.RowKit
open Enc (enc dec is)
open EncL (encL decL isL)
theorem BP{ts:List Coef}(hn:nzP ts)(x:Str):x∈ts.map (·.v) ↔ Yl ts x.s≠0:=by
 induction ts with
 | nil=>simp[Yl]
 | cons t ts ih=>
  have h1:t.c≠0:=hn t (by simp)
  have h2:nzP ts:=fun u hu=>hn u (by simp[hu])
  rw[ZY,List.map_cons,List.mem_cons]
  by_cases e:t.v.s=x.s
  ·rw[if_pos e]
   have:x=t.v:=by cases x;cases h:t.v;rw[h]at e;exact congrArg Str.mk e.symm
   exact⟨fun _=>h1,fun _=>.inl this⟩
  ·rw[if_neg e,<- ih h2]
   exact⟨fun h=>h.resolve_left fun e2=>e (by rw[e2]),.inr⟩
theorem d2b{l:Lin}(s:Str)(ha:Qt l.t)(hn:nzP l.t):Qt (JZ l s).t∧nzP (JZ l s).t∧ ∀ x,x∈Zd (JZ l s) ↔ x=s∨x∈Zd l:=by
 unfold JZ
 by_cases h:Yl l.t s.s=0
 ·rw[if_pos h]
  refine⟨CP s 1 ha,LA l s 1,fun x=> ?_⟩
  unfold Zd
  rw[BP (LA l s 1),BP hn,Nn s (c:=1) (by decide) ha]
  by_cases e:s.s=x.s
  ·rw[if_pos e,h]
   have:x=s:=by cases x;cases s;exact congrArg Str.mk e.symm
   exact⟨fun _=>.inl this,fun _=>by decide⟩
  ·rw[if_neg e]
   exact⟨.inr,fun h=>h.resolve_left fun e2=>e (by rw[e2])⟩
 ·rw[if_neg h]
  refine⟨ha,hn,fun x=>⟨.inr,fun hx=> ?_⟩⟩
  rcases hx with rfl|hx
  ·unfold Zd;rw[BP hn];exact h
  ·exact hx
theorem a0c: ∀ (ss:List Str) {l:Lin},Qt l.t->nzP l.t->Qt (ss.foldl JZ l).t∧nzP (ss.foldl JZ l).t∧ ∀ x,x∈Zd (ss.foldl JZ l) ↔ x∈ss∨x∈Zd l
 | [],l,ha,hn=>⟨ha,hn,fun x=>by simp⟩
 | s::ss,l,ha,hn=>by
  obtain⟨h1,h2,h3⟩:=d2b s ha hn
  obtain⟨k1,k2,k3⟩:=a0c ss h1 h2
  refine⟨k1,k2,fun x=> ?_⟩
  rw[List.foldl_cons,k3,h3,List.mem_cons]
  constructor
  ·rintro(h|h|h)
   ·exact .inl (.inr h)
   ·exact .inl (.inl h)
   ·exact .inr h
  ·rintro((h|h)|h)
   ·exact .inr (.inl h)
   ·exact .inl h
   ·exact .inr (.inr h)
theorem Mf: ∀ (ls:List Lin) {l:Lin},Qt l.t->nzP l.t-> ∀ x,x∈Zd (ls.foldl Df l) ↔ x∈ls.flatMap Zd∨x∈Zd l
 | [],l,ha,hn,x=>by simp
 | a::ls,l,ha,hn,x=>by
  obtain⟨h1,h2,h3⟩:=a0c (Zd a) ha hn
  rw[List.foldl_cons,Mf ls (l:=Df l a) h1 h2,List.flatMap_cons,List.mem_append]
  show _∨x∈Zd (List.foldl JZ l (Zd a)) ↔ _
  rw[h3]
  constructor
  ·rintro(h|h|h)
   ·exact .inl (.inr h)
   ·exact .inl (.inl h)
   ·exact .inr h
  ·rintro((h|h)|h)
   ·exact .inr (.inl h)
   ·exact .inl h
   ·exact .inr (.inr h)
theorem b4t(ls:List Lin)(x:Str):x∈QB ls ↔ x∈ls.flatMap Zd:=by
 have:=Mf ls (l:=⟨0,[]⟩) (List.Pairwise.nil) (fun t ht=>by cases ht) x
 exact this.trans ⟨fun h=>h.resolve_right (fun h=>by cases h),Or.inl⟩
theorem b1y{v a b:List Str}(h : ∀ x,x∈a ↔ x∈b):Y7 v a=Y7 v b:=by
 rw[Bool.eq_iff_iff]
 unfold Y7
 rw[List.all_eq_true,List.all_eq_true]
 exact⟨fun k x hx=>k x ((h x).2 hx),fun k x hx=>k x ((h x).1 hx)⟩
theorem QO(v a b:List Str):Y7 v (a++b)=(Y7 v a&&Y7 v b):=by unfold Y7;rw[List.all_append]
def AJ(b:BoxT)(fs:List Fact)(l:Lin)(p:List Mono):Int:=Zj b fs (Zh l&&Zx p) (Zd l++Y9 p)
theorem d7z{b:BoxT}{fs:List Fact}{l:Lin}{p:List Mono}(h1:Xd b=true)(h2:YU fs=true)(h3:Zh l=true)(h4:Zx p=true):
  AJ b fs l p=if !(Y7 b.v (QB (fs.map (·.l)++[l])))then 7 else if !(Y7 b.v (Y9 p))then 7 else 0:=by
 unfold AJ Zj
 have e:Y7 b.v (QB (fs.map (·.l)++[l]))=(Y7 b.v (Zd l)&&Y7 b.v (fs.flatMap fun f=>Zd f.l)):=by
  rw[<- QO]
  refine b1y fun x=> ?_
  rw[b4t,List.flatMap_append,List.mem_append,List.mem_append,List.flatMap_map]
  simp only[List.flatMap_cons,List.flatMap_nil,List.append_nil]
  exact Or.comm
 rw[h1,h2,h3,h4,e,if_neg (by simp),QO,QO]
 cases Y7 b.v (Zd l) <;> cases Y7 b.v (Y9 p) <;> cases Y7 b.v (fs.flatMap fun f=>Zd f.l) <;> rfl
theorem c7k(ls:List Lin)(h:Uh ls=true):(QB ls).length<=9223372036854775807:=by
 simp only[Uh,Bool.and_eq_true,decide_eq_true_eq,List.all_eq_true]at h
 have in1 : ∀ (ss:List Str) (l:Lin),(ss.foldl JZ l).t.length<=l.t.length+ss.length:=by
  intro ss
  induction ss with
  | nil=>intro l;simp
  | cons s ss ih=>intro l;rw[List.foldl_cons];have:=ih (JZ l s);have:=c2z l s;rw[List.length_cons];omega
 have in2 : ∀ (ls:List Lin),(∀ l∈ls,l.t.length<=1000)-> ∀ l:Lin,(ls.foldl Df l).t.length<=l.t.length+1000*ls.length:=by
  intro ls
  induction ls with
  | nil=>intro _ l;simp
  | cons a ls ih=>
   intro hl l
   rw[List.foldl_cons]
   have h1:=ih (fun x hx=>hl x (by simp[hx])) (Df l a)
   have h2:=in1 (Zd a) l
   have h3:=hl a (by simp)
   have h4:(Zd a).length=a.t.length:=by unfold Zd;rw[List.length_map]
   unfold Df at h1 ⊢
   rw[List.length_cons]
   omega
 have:=in2 ls h.2 ⟨0,[]⟩
 have e:(QB ls).length=(ls.foldl Df ⟨0,[]⟩).t.length:=by
  show(Zd (ls.foldl Df ⟨0,[]⟩)).length=_
  unfold Zd
  rw[List.length_map]
 have e0:((⟨0,[]⟩:Lin).t).length=0:=rfl
 omega
theorem c9x(p:List Mono)(h:Ya p=true):(Y9 p).length<=9223372036854775807:=Nat.le_trans (b3t p) (by decide)
theorem Tw(b:BoxT)(fs:List Fact)(l:Lin)(p:List Mono)(h1:Xd b=true)(h2:YU fs=true)(h3:Zh l=true)(h4:Zx p=true)(hb:Zr b.v=true)(hp:Ya p=true)(hfl:fs.length<=100):
  (Go.Pl.preT (fun(x:List Lin×Unit)=>Uh (Prod.fst x)) [(.sl 2 false (List.map enc (fs.map (·.l)++[l])))])=true∧(∃ y1:List Str,AV.pv (Zw (fun(x:List Lin×Unit)=>QB (Prod.fst x)) [(.sl 2 false (List.map enc (fs.map (·.l)++[l])))])=AV.pv (enc y1) ∧
   ((Go.Pl.preT (fun(x:BoxT×List Str×Unit)=>Zr (BoxT.v (Prod.fst x))&&Zr (Prod.fst (Prod.snd x))) [(.agg [(.sl 1 false (List.map enc (BoxT.v b))),(.int .i64 (BoxT.m b))]),(.sl 1 false (List.map enc y1))])=true ∧
   (∃ y2:Bool,AV.pv (Zw (fun(x:BoxT×List Str×Unit)=>Y7 (BoxT.v (Prod.fst x)) (Prod.fst (Prod.snd x))) [(.agg [(.sl 1 false (List.map enc (BoxT.v b))),(.int .i64 (BoxT.m b))]),(.sl 1 false (List.map enc y1))])=AV.pv (enc y2) ∧
   (if (!y2)=true then Zi (AJ b fs l p) ((.int .i64 7))else((Go.Pl.preT (fun(x:List Mono×Unit)=>Ya (Prod.fst x)) [(.sl 2 false (List.map enc p))])=true ∧
   (∃ y3:List Str,AV.pv (Zw (fun(x:List Mono×Unit)=>Y9 (Prod.fst x)) [(.sl 2 false (List.map enc p))])=AV.pv (enc y3) ∧
   ((Go.Pl.preT (fun(x:BoxT×List Str×Unit)=>Zr (BoxT.v (Prod.fst x))&&Zr (Prod.fst (Prod.snd x))) [(.agg [(.sl 1 false (List.map enc (BoxT.v b))),(.int .i64 (BoxT.m b))]),(.sl 1 false (List.map enc y3))])=true ∧
   (∃ y4:Bool,AV.pv (Zw (fun(x:BoxT×List Str×Unit)=>Y7 (BoxT.v (Prod.fst x)) (Prod.fst (Prod.snd x))) [(.agg [(.sl 1 false (List.map enc (BoxT.v b))),(.int .i64 (BoxT.m b))]),(.sl 1 false (List.map enc y3))])=AV.pv (enc y4) ∧
   (if (!y4)=true then Zi (AJ b fs l p) ((.int .i64 7))else(Zi (AJ b fs l p) ((.int .i64 0)))))))))))):=by
 have hv6:Uh (fs.map (·.l)++[l])=true:=by
  simp only[Uh,Bool.and_eq_true,decide_eq_true_eq,List.all_eq_true]
  refine⟨by simp;omega,fun x hx=> ?_⟩
  have hx2:Zh x=true:=by
   rcases List.mem_append.1 hx with hx|hx
   ·obtain⟨f,hf,rfl⟩:=List.mem_map.1 hx
    exact List.all_eq_true.1 h2 f hf
   ·rw[List.mem_singleton.1 hx];exact h3
  have:=GJ hx2
  omega
 refine⟨Zk ((fs.map (·.l)++[l]),()) rfl hv6,Zg ((fs.map (·.l)++[l]),()) rfl ⟨Zk (b,QB (fs.map (·.l)++[l]),()) rfl (by
  show(Zr b.v&&Zr (QB (fs.map (·.l)++[l])))=true
  rw[hb,Zz.2 (c7k _ hv6)];rfl),Zg (b,QB (fs.map (·.l)++[l]),()) rfl ?_⟩⟩
 rw[d7z h1 h2 h3 h4]
 refine Xt (fun h=> ?_) fun h=>⟨Zk (p,()) rfl hp,Zg (p,()) rfl ⟨Zk (b,Y9 p,()) rfl (by
  show(Zr b.v&&Zr (Y9 p))=true
  rw[hb,Zz.2 (c9x p hp)];rfl),Zg (b,Y9 p,()) rfl ?_⟩⟩
 ·have h:Y7 b.v (QB (fs.map (·.l)++[l]))=false:=h
  rw[h];exact Ut rfl
 ·have h:Y7 b.v (QB (fs.map (·.l)++[l]))=true:=h
  rw[h]
  refine Xt (fun h5=> ?_) fun h5=> ?_
  ·have h5:Y7 b.v (Y9 p)=false:=h5
   rw[h5];exact Ut rfl
  ·have h5:Y7 b.v (Y9 p)=true:=h5
   rw[h5];exact Ut rfl
theorem c8d(f:Fact):PV.agg (UA (List.drop 1 (PV.cells (enc f))) 0 [Sh.int .i64,Sh.sl 2])=enc f.l:=rfl
theorem En(b:BoxT)(fs:List Fact)(l:Lin)(p:List Mono)(h1:Xd b=true)(h2:YU fs=true)(h3:Zh l=true)(h4:Zx p=true)(hb:Zr b.v=true)(hp:Ya p=true)(hfl:fs.length<=100): ∀ (d i:Nat),d+i=fs.length->1<=i ->
  At VB 0 (Za Wz (Zi (AJ b fs l p))) Vo 0 58 [(1,.pv (enc fs)),(3,.pv (enc p)),(4,.ptr 0 0),(6,.ptr 1 0),(9,.row 2 i 0 i),(10,.pv (.int .i64 i))] [.obj (.box [.pv (enc b.v),.pv (.int .i64 b.m)]),.obj (.box [.pv (.int .i64 l.k),.pv (enc l.t)]),.obj (.row false 24 2 (((fs.take i).map (·.l)).map enc))]:=by
 intro d
 induction d with
 | zero=>
  intro i hi h1'
  have htk:fs.take i=fs:=List.take_of_length_le (by omega)
  have hmi:(List.map (enc:Lin->PV) (fs.map (·.l))).length=i:=by simp;omega
  rw[htk]
  apply Rq (G:=Zi (AJ b fs l p)) b fs l p i i (fs.map (·.l))
  apply ZG (YY (by omega))
  refine⟨?_,?_,?_⟩
  ·rw[hmi]
   show((i==i)&&(i==i)&&decide ((i+1)*32<=1099511627776)&&decide (i+1<=1099511627776))=true
   rw[decide_eq_true (by omega),decide_eq_true (by omega)];simp
  ·rw[List.length_append,hmi];simp
  ·have e:List.map (enc:Lin->PV) (fs.map (·.l))++List.drop 0 (List.take 1 [PV.agg [PV.int .i64 l.k,enc l.t]])=List.map enc (fs.map (·.l)++[l]):=by rw[List.map_append];rfl
   have e2:List.drop 0 (List.take (i+List.length (List.drop 0 (List.take 1 [PV.agg [PV.int .i64 l.k,enc l.t]]))) (List.map (enc:Lin->PV) (fs.map (·.l)++[l])))=List.map enc (fs.map (·.l)++[l]):=by
    rw[List.drop_zero,List.take_of_length_le (by rw[List.map_append,List.length_append,hmi];simp)]
   rw[e,e2]
   exact Tw b fs l p h1 h2 h3 h4 hb hp hfl
 | succ d ih=>
  intro i hi h1'
  have hlt:i<fs.length:=by omega
  apply Rq (G:=Zi (AJ b fs l p)) b fs l p i i ((fs.take i).map (·.l))
  apply ZA (Yy hlt)
  refine⟨Zn hlt rfl,Zu hlt ⟨?_,?_⟩⟩
  ·rw[c8d]
   have hq:(List.map (enc:Lin->PV) ((fs.take i).map (·.l))).length=i:=by simp;omega
   rw[hq]
   show((i==i)&&(i==i)&&decide ((i+1)*32<=1099511627776)&&decide (i+1<=1099511627776))=true
   rw[decide_eq_true (by omega),decide_eq_true (by omega)];simp
  ·rw[c8d,next (by omega)]
   have:=ih (i+1) (by omega) (by omega)
   rw[List.take_succ_eq_append_getElem hlt,List.map_append,List.map_append]at this
   exact this
theorem a4c: ∀ x:BoxT×List Fact×Lin×List Mono×Unit,(ZJ x.1&&Zl x.2.1&&decide (x.2.1.length<=100)&&Z9 x.2.2.1&&Ya x.2.2.2.1)=true ->
  Ze VB 0 (Za Wz (Zi (Zj x.1 x.2.1 (Zh x.2.2.1&&Zx x.2.2.2.1) (Zd x.2.2.1++Y9 x.2.2.2.1)))) Vo [] (Yn b3p (encL x)):=by
 rintro⟨b,fs,l,p,⟨⟩⟩ h
 simp only[Bool.and_eq_true,decide_eq_true_eq]at h
 obtain⟨⟨⟨⟨hb,hf⟩,hfl⟩,hl⟩,hp⟩:=h
 have hbo:=hb
 simp only[ZJ,XW,Bool.and_eq_true]at hb
 show Ze VB 0 (Za Wz (Zi (AJ b fs l p))) _ _ _
 have bad : ∀ q:Bool,q=(Xd b&&YU fs&&(Zh l&&Zx p))->q=false->Zi (AJ b fs l p) (.int .i64 1):=by
  intro q hq hq0
  refine Ut ?_
  unfold AJ Zj
  rw[if_pos]
  rw[hq0]at hq
  cases h1:Xd b
  ·simp
  ·cases h2:YU fs
   ·simp
   ·rw[h1,h2]at hq
    revert hq
    cases Zh l <;> cases Zx p <;> simp
 refine c5o b fs l p ⟨Zk (b,()) rfl hbo,Zg (b,()) rfl (Xt (fun h1=>bad _ rfl ?_) fun h1=>⟨Zk (fs,()) rfl hf,Zg (fs,()) rfl (Xt (fun h2=>bad _ rfl ?_) fun h2=>⟨Zk (l,()) rfl hl,Zg (l,()) rfl (Xt (fun h3=>bad _ rfl ?_) fun h3=>⟨Zk (p,()) rfl hp,Zg (p,()) rfl (Xt (fun h4=>bad _ rfl ?_) fun h4=> ?_)⟩)⟩)⟩)⟩
 ·have h1:Xd b=false:=h1
  rw[h1];rfl
 ·have h2:YU fs=false:=h2
  rw[h2];simp
 ·have h3:Zh l=false:=h3
  rw[h3];simp
 ·have h4:Zx p=false:=h4
  rw[h4];simp
 ·have h1:Xd b=true:=h1
  have h2:YU fs=true:=h2
  have h3:Zh l=true:=h3
  have h4:Zx p=true:=h4
  cases hfs:fs with
  | nil=>
   subst hfs
   apply PM (G:=Zi (AJ b [] l p)) b [] l p ((0:Nat):Int)
   apply ZG (YY (by simp))
   exact Tw b [] l p h1 h2 h3 h4 hb.1 hp hfl
  | cons f r=>
   have hlt:0<fs.length:=by rw[hfs];simp
   rw[<- hfs]
   apply PM (G:=Zi (AJ b fs l p)) b fs l p ((0:Nat):Int)
   apply ZA (Yy hlt)
   refine⟨Zn hlt rfl,Zu hlt ?_⟩
   rw[next (by omega)]
   have:=En b fs l p h1 h2 h3 h4 hb.1 hp hfl (fs.length - 1) 1 (by omega) (by omega)
   rw[show(1:Nat)=0+1 from rfl,List.take_succ_eq_append_getElem hlt]at this
   exact this
theorem b8u(b:BoxT)(fs:List Fact)(R:List (List Int)×Int)(n:Nat)(p0:List Int)(hend:UI b.m p0=none->Zi R (.tup [.sl 0 true [],.int .i64 0]))
  (hcont : ∀ p,UI b.m p0=some p->At Y6 0 (Za Yz (Zi R)) YA 0 60 [(1,.pv (enc fs)),(2,.ptr 0 0),(8,.row 1 n 0 n),(7,.pv (.sl 0 true []))] [.obj (.box [.pv (enc b.v),.pv (.int .i64 b.m)]),.obj (.row false 3 1 (p.map enc))]) :
  ∀ (k:Nat) (p:List Int),p.length=n->n<=1000->k<=n->(∀ x∈p,-1<=x∧x<=20000)->Xj b.m k p=UI b.m p0 ->
  At Y6 0 (Za Yz (Zi R)) YA 1 60 [(1,.pv (enc fs)),(2,.ptr 0 0),(8,.row 1 n 0 n),(7,.pv (.sl 0 true [])),(9,.pv (.int .i64 ((k:Int) - 1)))] [.obj (.box [.pv (enc b.v),.pv (.int .i64 b.m)]),.obj (.row false 3 1 (p.map enc))]:=by
 intro k
 induction k with
 | zero=>
  intro p hpn hn hk hx hnk
  refine a2c b fs n p _ (ZG (by simp) (ZA (by simp) ?_))
  exact hend hnk.symm
 | succ k ih=>
  intro p hpn hn hk hx hnk
  have hlt:k<p.length:=by omega
  have ek:((k+1:Nat):Int) - 1=(k:Int):=by omega
  rw[ek]
  have e:=Ke hlt
  have eg:p.getD k 0=p[k]:=by simp[List.getD,hlt]
  have hxk:=hx _ (List.getElem_mem hlt)
  have q1:(decide (0<=(k:Int))&&decide (0+Int.toNat (k:Int)<n)&&List.length (List.map (enc:Int->PV) p)==n)=true:=by simp;omega
  have q2:(List.length (List.map (enc:Int->PV) p)==n&&decide (0+Int.toNat (k:Int)<List.length (List.map (enc:Int->PV) p)))=true:=by simp;omega
  have hset : ∀ y:Int,List.set (List.map (enc:Int->PV) p) (0+Int.toNat (k:Int)) (enc y)=(p.set k y).map enc:=fun y=>by rw[Nat.zero_add,Int.toNat_natCast,List.map_set]
  refine a2c b fs n p k (ZA (by simp) ?_)
  rw[e]
  refine⟨q1,q2,rfl,Ko (fun h=>⟨q1,?_,?_⟩) fun h=>ZG (by simp) ⟨q1,q2,rfl,q1,?_,?_⟩⟩
  ·rw[q2];rfl
  ·have h:p[k]=b.m:=h
   have hn':Xj b.m (k+1) p=Xj b.m k (p.set k 0):=by rw[Xj,eg,if_pos h]
   have hw:IntKind.i64.wrap ((k:Int) - 1)=(k:Int) - 1:=Y2 (by omega) (by omega)
   rw[hw]
   have:=ih (p.set k 0) (by rw[List.length_set];exact hpn) hn (by omega) (fun x hx'=>by
    rcases List.mem_or_eq_of_mem_set hx' with h|rfl
    ·exact hx x h
    ·omega) (by rw[<- hn'];exact hnk)
   have e0:=hset 0
   rw[<- e0]at this
   exact this
  ·rw[q2];rfl
  ·have h : ¬ p[k]=b.m:=h
   have hn':Xj b.m (k+1) p=some (p.set k (p[k]+1)):=by rw[Xj,eg,if_neg h]
   have hw:IntKind.i64.wrap (p[k]+1)=p[k]+1:=Y2 (by omega) (by omega)
   have:=hcont _ (hnk.symm.trans hn')
   have e0:=hset (IntKind.i64.wrap (p[k]+1))
   rw[hw]at e0
   rw[<- e0]at this
   have hww:(PV.int .i64 (IntKind.i64.wrap (p[k]+1)))=enc (p[k]+1):=by rw[hw];rfl
   show At Y6 0 (Za Yz (Zi R)) YA 0 60 _ [_,.obj (.row false 3 1 (List.set (List.map enc p) (0+Int.toNat (k:Int)) (PV.int .i64 (IntKind.i64.wrap (p[k]+1)))))]
   rw[hww]
   exact this
theorem c3t(b:BoxT)(fs:List Fact)(R:List (List Int)×Int)(n:Nat)(q:Nat)(xs:List (List Int))(hq:xs.length=q)(p0:List Int)(hend:UI b.m p0=none->Zi R (.tup [.sl 1 false (xs.map enc),.int .i64 0]))
  (hcont : ∀ p,UI b.m p0=some p->At Y6 0 (Za Yz (Zi R)) YA 0 60 [(1,.pv (enc fs)),(2,.ptr 0 0),(7,.row 1 q 0 q),(8,.row 2 n 0 n)] [.obj (.box [.pv (enc b.v),.pv (.int .i64 b.m)]),.obj (.row false 34 1 (xs.map enc)),.obj (.row false 3 1 (p.map enc))]) :
  ∀ (k:Nat) (p:List Int),p.length=n->n<=1000->k<=n->(∀ x∈p,-1<=x∧x<=20000)->Xj b.m k p=UI b.m p0 ->
  At Y6 0 (Za Yz (Zi R)) YA 1 60 [(1,.pv (enc fs)),(2,.ptr 0 0),(7,.row 1 q 0 q),(8,.row 2 n 0 n),(9,.pv (.int .i64 ((k:Int) - 1)))] [.obj (.box [.pv (enc b.v),.pv (.int .i64 b.m)]),.obj (.row false 34 1 (xs.map enc)),.obj (.row false 3 1 (p.map enc))]:=by
 intro k
 induction k with
 | zero=>
  intro p hpn hn hk hx hnk
  refine a1l b fs n p _ q xs (ZG (by simp) (ZA (by simp) ?_))
  refine⟨by simp[hq],?_⟩
  rw[List.drop_zero,List.take_of_length_le (by simp[hq])]
  exact hend hnk.symm
 | succ k ih=>
  intro p hpn hn hk hx hnk
  have hlt:k<p.length:=by omega
  have ek:((k+1:Nat):Int) - 1=(k:Int):=by omega
  rw[ek]
  have e:=Ke hlt
  have eg:p.getD k 0=p[k]:=by simp[List.getD,hlt]
  have hxk:=hx _ (List.getElem_mem hlt)
  have q1:(decide (0<=(k:Int))&&decide (0+Int.toNat (k:Int)<n)&&List.length (List.map (enc:Int->PV) p)==n)=true:=by simp;omega
  have q2:(List.length (List.map (enc:Int->PV) p)==n&&decide (0+Int.toNat (k:Int)<List.length (List.map (enc:Int->PV) p)))=true:=by simp;omega
  have hset : ∀ y:Int,List.set (List.map (enc:Int->PV) p) (0+Int.toNat (k:Int)) (enc y)=(p.set k y).map enc:=fun y=>by rw[Nat.zero_add,Int.toNat_natCast,List.map_set]
  refine a1l b fs n p k q xs (ZA (by simp) ?_)
  rw[e]
  refine⟨q1,q2,rfl,Ko (fun h=>⟨q1,?_,?_⟩) fun h=>ZG (by simp) ⟨q1,q2,rfl,q1,?_,?_⟩⟩
  ·rw[q2];rfl
  ·have h:p[k]=b.m:=h
   have hn':Xj b.m (k+1) p=Xj b.m k (p.set k 0):=by rw[Xj,eg,if_pos h]
   have hw:IntKind.i64.wrap ((k:Int) - 1)=(k:Int) - 1:=Y2 (by omega) (by omega)
   rw[hw]
   have:=ih (p.set k 0) (by rw[List.length_set];exact hpn) hn (by omega) (fun x hx'=>by
    rcases List.mem_or_eq_of_mem_set hx' with h|rfl
    ·exact hx x h
    ·omega) (by rw[<- hn'];exact hnk)
   have e0:=hset 0
   rw[<- e0]at this
   exact this
  ·rw[q2];rfl
  ·have h : ¬ p[k]=b.m:=h
   have hn':Xj b.m (k+1) p=some (p.set k (p[k]+1)):=by rw[Xj,eg,if_neg h]
   have hw:IntKind.i64.wrap (p[k]+1)=p[k]+1:=Y2 (by omega) (by omega)
   have:=hcont _ (hnk.symm.trans hn')
   have e0:=hset (IntKind.i64.wrap (p[k]+1))
   rw[hw]at e0
   rw[<- e0]at this
   have hww:(PV.int .i64 (IntKind.i64.wrap (p[k]+1)))=enc (p[k]+1):=by rw[hw];rfl
   show At Y6 0 (Za Yz (Zi R)) YA 0 60 _ [_,_,.obj (.row false 3 1 (List.set (List.map enc p) (0+Int.toNat (k:Int)) (PV.int .i64 (IntKind.i64.wrap (p[k]+1)))))]
   rw[hww]
   exact this
def a7i(b:BoxT)(fs:List Fact)(R:List (List Int)×Int)(n:Nat)(p:List Int)(k:Nat):Prop:=
 if k=0 then At Y6 0 (Za Yz (Zi R)) YA 0 60 [(1,.pv (enc fs)),(2,.ptr 0 0),(8,.row 1 n 0 n),(7,.pv (.sl 0 true []))] [.obj (.box [.pv (enc b.v),.pv (.int .i64 b.m)]),.obj (.row false 3 1 (p.map enc))]
 else At Y6 0 (Za Yz (Zi R)) YA 0 60 [(1,.pv (enc fs)),(2,.ptr 0 0),(7,.row 1 k 0 k),(8,.row 2 n 0 n)] [.obj (.box [.pv (enc b.v),.pv (.int .i64 b.m)]),.obj (.row false 34 1 (((Zv b fs).take k).map enc)),.obj (.row false 3 1 (p.map enc))]
theorem F6(p:List Int)(n:Nat)(h:p.length=n):(PV.sl 1 false (List.drop 0 (List.take (0+List.length (List.drop 0 (List.take n (List.map (enc:Int->PV) p)))) (([]:List PV)++List.drop 0 (List.take n (List.map enc p))))))=enc p:=by
 subst h
 rw[List.nil_append,List.drop_zero,List.take_of_length_le (by simp:(List.map (enc:Int->PV) p).length<=p.length),List.drop_zero,List.take_of_length_le (by simp)]
 rfl
theorem b6c(b:BoxT)(fs:List Fact)(hv:Xd b=true)(hf:Zl fs=true)(hl:b.v.length<=1000): ∀ (lst:List (List Int)) (p:List Int) (k:Nat),Walk b.m p lst->p.length=b.v.length->(∀ y∈lst,∀ x∈y,-1<=x∧x<=20000)->(Zv b fs).drop k=lst.filter (XV b.v fs)->k<=(Zv b fs).length ->
  a7i b fs (Zv b fs,0) b.v.length p k:=by
 intro lst
 induction lst with
 | nil=>intro p k hw;cases hw
 | cons p' rest ih=>
  intro p k hw hpl hpx hdr hk
  obtain⟨t,ht⟩ : ∃ t,p'::rest=p::t:=by
   cases hw with
   | last h=>exact⟨[],rfl⟩
   | step h k=>exact⟨_,rfl⟩
  injection ht with ht1 ht2
  subst ht1 ht2
  have hlen:=b0c (fs:=fs) hv
  have hp:p'.length<=1000:=by omega
  have hpre:WM [(.pv (.agg [(.sl 1 false (List.map enc (BoxT.v b))),(.int .i64 (BoxT.m b))])),(.row 0 b.v.length 0 b.v.length)] [(.row false 3 1 (List.map enc p'))]=true:=by
   show(b.v.length==b.v.length&&(p'.map enc).length==b.v.length&&3==3&&WN (List Int) (enc p')&&WN (List Str) (enc b.v)&&decide ((dec (enc b.v:PV):List Str).length<=1000)&&decide (b.v.length<=1000))=true
   rw[ZR,ZR,Enc.dec_enc,decide_eq_true hl,List.length_map,hpl];simp
  have hvals:Zf (dec (enc b.v:PV)) (PD (List.map enc p'))=Zf b.v p':=by rw[CO,Enc.dec_enc]
  have hh:(fs,Zf b.v p',()).1=fs:=rfl
  have hpreH:(Go.Pl.preT (fun(x:List Fact×List Coef×Unit)=>Zl (Prod.fst x)&&decide (List.length (Prod.fst (Prod.snd x))<=9223372036854775807)) [(.sl 3 false (List.map enc fs)),(.sl 2 false (List.map enc (Zf b.v p')))])=true:=by
   refine Zk (fs,Zf b.v p',()) rfl ?_
   show(Zl fs&&decide ((Zf b.v p').length<=9223372036854775807))=true
   rw[hf,decide_eq_true (by unfold Zf;rw[List.length_zipWith];omega)];rfl
  -- what comes behind the point
  have hend : ∀ k',(Zv b fs).drop k'=rest.filter (XV b.v fs)->k'<=(Zv b fs).length->UI b.m p'=none->k'=(Zv b fs).length:=by
   intro k' h1 h2 h3
   cases hw with
   | step h _=>rw[h]at h3;cases h3
   | last h=>
    have e:=congrArg List.length h1
    rw[List.length_drop]at e
    simp at e
    omega
  have hcont : ∀ k',(Zv b fs).drop k'=rest.filter (XV b.v fs)->k'<=(Zv b fs).length-> ∀ q,UI b.m p'=some q->a7i b fs (Zv b fs,0) b.v.length q k':=by
   intro k' h1 h2 q hq
   cases hw with
   | last h=>rw[h]at hq;cases hq
   | step h hw'=>
    rw[h]at hq
    cases hq
    exact ih q k' hw' ((BK _ _ _ _ h).trans hpl) (fun y hy=>hpx y (by simp[hy])) h1 h2
  have hx:=hpx p' (by simp)
  -- the two ways on
  have goA:(Zv b fs).drop 0=rest.filter (XV b.v fs)->At Y6 0 (Za Yz (Zi (Zv b fs,(0:Int)))) YA 1 60 [(1,.pv (enc fs)),(2,.ptr 0 0),(8,.row 1 b.v.length 0 b.v.length),(7,.pv (.sl 0 true [])),(9,.pv (.int .i64 ((b.v.length:Int) - 1)))] [.obj (.box [.pv (enc b.v),.pv (.int .i64 b.m)]),.obj (.row false 3 1 (p'.map enc))]:=by
   intro h1
   refine b8u b fs (Zv b fs,0) b.v.length p' (fun hn=> ?_) (fun q hq=> ?_) b.v.length p' hpl hl (Nat.le_refl _) hx (by unfold UI;rw[hpl])
   ·have:=hend 0 h1 (Nat.zero_le _) hn
    rw[List.length_eq_zero_iff.1 this.symm]
    exact⟨rfl,rfl⟩
   ·have:=hcont 0 h1 (Nat.zero_le _) q hq
    unfold a7i at this
    rw[if_pos rfl]at this
    exact this
  have goB : ∀ k',k'≠0->(Zv b fs).drop k'=rest.filter (XV b.v fs)->k'<=(Zv b fs).length->At Y6 0 (Za Yz (Zi (Zv b fs,(0:Int)))) YA 1 60 [(1,.pv (enc fs)),(2,.ptr 0 0),(7,.row 1 k' 0 k'),(8,.row 2 b.v.length 0 b.v.length),(9,.pv (.int .i64 ((b.v.length:Int) - 1)))] [.obj (.box [.pv (enc b.v),.pv (.int .i64 b.m)]),.obj (.row false 34 1 (((Zv b fs).take k').map enc)),.obj (.row false 3 1 (p'.map enc))]:=by
   intro k' hk0 h1 h2
   refine c3t b fs (Zv b fs,0) b.v.length k' ((Zv b fs).take k') (by rw[List.length_take];omega) p' (fun hn=> ?_) (fun q hq=> ?_) b.v.length p' hpl hl (Nat.le_refl _) hx (by unfold UI;rw[hpl])
   ·have:=hend k' h1 h2 hn
    rw[this,List.take_length]
    exact ZC (x:=(Zv b fs,(0:Int))) rfl
   ·have:=hcont k' h1 h2 q hq
    unfold a7i at this
    rw[if_neg hk0]at this
    exact this
  have hw0:IntKind.i64.wrap (((b.v.length - 0:Nat):Int) - 1)=(b.v.length:Int) - 1:=by rw[Nat.sub_zero];exact Y2 (by omega) (by omega)
  have c1:(List.length (List.map (enc:Int->PV) p')==b.v.length)=true:=by simp[hpl]
  have c2:(List.length ([]:List PV)==0&&0==0&&decide ((0+List.length (List.drop 0 (List.take b.v.length (List.map (enc:Int->PV) p'))))*8<=1099511627776)&&decide (0+List.length (List.drop 0 (List.take b.v.length (List.map (enc:Int->PV) p')))<=1099511627776))=true:=by simp;omega
  have c3:(List.length (([]:List PV)++List.drop 0 (List.take b.v.length (List.map (enc:Int->PV) p')))==0+List.length (List.drop 0 (List.take b.v.length (List.map (enc:Int->PV) p'))))=true:=by simp
  by_cases hin:XV b.v fs p'=true
  ·rw[List.filter_cons,if_pos hin]at hdr
   have hk1:k<(Zv b fs).length:=by
    have e:=congrArg List.length hdr
    rw[List.length_drop]at e
    simp at e
    omega
   have hpk:(Zv b fs)[k]=p':=by
    have:=List.drop_eq_getElem_cons hk1
    rw[hdr]at this
    injection this with this _
    exact this.symm
   have hdr2:(Zv b fs).drop (k+1)=rest.filter (XV b.v fs):=by
    have:=List.drop_eq_getElem_cons hk1
    rw[hdr]at this
    injection this with _ this
    exact this.symm
   have ht:(Zv b fs).take (k+1)=(Zv b fs).take k++[p']:=by rw[List.take_succ_eq_append_getElem hk1,hpk]
   have hb:=goB (k+1) (by omega) hdr2 hk1
   unfold a7i
   by_cases hk0:k=0
   ·subst hk0
    rw[if_pos rfl]
    refine Oo b fs b.v.length p' ⟨hpre,?_⟩
    rw[hvals]
    refine⟨hpreH,Zg (fs,Zf b.v p',()) rfl (ZA hin ⟨c1,c2,c3,?_⟩)⟩
    rw[F6 p' _ hpl,hw0]
    rw[ht]at hb
    exact hb
   ·rw[if_neg hk0]
    have el:((Zv b fs).take k).length=k:=by rw[List.length_take];omega
    refine OT b fs b.v.length p' k ((Zv b fs).take k) ⟨hpre,?_⟩
    rw[hvals]
    refine⟨hpreH,Zg (fs,Zf b.v p',()) rfl (ZA hin ⟨c1,c2,c3,?_,?_⟩)⟩
    ·rw[F6 p' _ hpl,List.length_map,el]
     show((k==k)&&(k==k)&&decide ((k+1)*24<=1099511627776)&&decide (k+1<=1099511627776))=true
     rw[decide_eq_true (by omega),decide_eq_true (by omega)];simp
    ·rw[F6 p' _ hpl,hw0]
     rw[ht,List.map_append]at hb
     exact hb
  ·rw[List.filter_cons,if_neg hin]at hdr
   unfold a7i
   by_cases hk0:k=0
   ·subst hk0
    rw[if_pos rfl]
    refine Oo b fs b.v.length p' ⟨hpre,?_⟩
    rw[hvals]
    refine⟨hpreH,Zg (fs,Zf b.v p',()) rfl (ZG hin ?_)⟩
    rw[hw0]
    exact goA hdr
   ·rw[if_neg hk0]
    refine OT b fs b.v.length p' k ((Zv b fs).take k) ⟨hpre,?_⟩
    rw[hvals]
    refine⟨hpreH,Zg (fs,Zf b.v p',()) rfl (ZG hin ?_)⟩
    rw[hw0]
    exact goB k hk0 hdr hk
theorem a9m{b:BoxT}(h:Xd b=true): ∀ y∈H5 b.m.toNat b.v.length,∀ x∈y,-1<=x∧x<=20000:=by
 intro y hy x hx
 obtain⟨q1,q2⟩:=CF.1 hy
 have:=q2 x hx
 obtain⟨_,_,h3,h4,_⟩:=VG.1 h
 rcases h3 with h3|h3
 ·rw[h3]at q1
  rw[List.length_eq_zero_iff.1 q1]at hx
  cases hx
 ·omega
theorem c5j{b:BoxT}(h:Xd b=true):Walk b.m (WS b.v) (H5 b.m.toNat b.v.length):=by
 have:=BJ b.m.toNat b.v.length
 have e:(b.m.toNat:Int)=b.m:=by
  have:0<=b.m:=(VG.1 h).2.2.2.1
  omega
 have hz:WS b.v=List.replicate b.v.length 0:=List.map_const' ..
 rw[e,<- hz]at this
 exact this
theorem c6b: ∀ x:BoxT×List Fact×Unit,(ZJ x.1&&Zl x.2.1&&decide (x.2.1.length<=100)&&decide (x.1.v.length<=1000))=true->Ze Y6 0 (Za Yz (Zi (YQ x.1 x.2.1))) YA [] (Yn c9i (encL x)):=by
 rintro⟨b,fs,⟨⟩⟩ hp
 simp only[Bool.and_eq_true,decide_eq_true_eq]at hp
 obtain⟨⟨⟨h1,h2⟩,h3⟩,h4⟩:=hp
 have hrd:Zj b fs (Zh ⟨0,[]⟩&&Zx []) (Zd ⟨0,[]⟩++Y9 [])=Zj b fs true []:=rfl
 refine d8h b fs ⟨QE (b,fs,⟨0,[]⟩,[],()) ?_ ?_ (by simp[h1,h2,h3,Z9,Ya,Zr]),UV (b,fs,⟨0,[]⟩,[],()) ?_ ?_⟩
 ·show(is BoxT (enc b)&&(is (List Fact) (enc fs)&&(true&&(true&&true))))=true
  rw[Enc.is_enc,Enc.is_enc];rfl
 ·show((dec (enc b:PV):BoxT),(dec (enc fs:PV):List Fact),(⟨0,[]⟩:Lin),([]:List Mono),())=_
  rw[Enc.dec_enc,Enc.dec_enc]
 ·show((dec (enc b:PV):BoxT),(dec (enc fs:PV):List Fact),(⟨0,[]⟩:Lin),([]:List Mono),())=_
  rw[Enc.dec_enc,Enc.dec_enc]
 ·show if (Zj b fs true [] != 0)=true then _ else _
  by_cases h0:Zj b fs true []=0
  ·rw[if_neg (by simp[h0])]
   obtain⟨hv,_⟩:=Xh b fs true [] h0
   have hpt:YQ b fs=(Zv b fs,0):=by unfold YQ;rw[if_pos h0]
   rw[hpt]
   have hp0:(Zv b fs).drop 0=(H5 b.m.toNat b.v.length).filter (XV b.v fs):=by
    unfold Zv
    rw[V7 hv];rfl
   have:=b6c b fs hv h2 h4 _ _ 0 (c5j hv) (by simp[WS]) (a9m hv) hp0 (Nat.zero_le _)
   unfold a7i at this
   rw[if_pos rfl]at this
   refine⟨by simp;omega,?_⟩
   have en:Int.toNat ((List.length (List.map (enc:Str->PV) b.v):Nat):Int)=b.v.length:=by simp
   have ez:List.replicate b.v.length (PV.int .i64 0)=(WS b.v).map enc:=by
    unfold WS
    rw[List.map_map]
    exact(List.map_const' ..).symm
   rw[en,ez]
   exact this
  ·rw[if_pos (by simpa using h0)]
   have hpt:YQ b fs=([],Zj b fs true []):=by unfold YQ;rw[if_neg h0]
   rw[hpt]
   exact⟨rfl,rfl⟩
def lessB(m n:Int):Bool:=decide (m<n)
def moreB(m n:Int):Bool:=decide (m>n)
def WK(g:Nat):List AV->List AObj->Bool
 | [.pv (.int .i64 n),.ptr 0 0,.ptr 1 0,.ptr 2 0],[.box [.pv (.bool s)],.box [.pv (.fn g')],.box [.pv (.int .i64 z)]]=>g'==g
 | _,_=>false
def VR(f:Int->Int->Bool):List AV->List AObj->AV×List AObj×List AObj
 | [.pv (.int .i64 n),_,_,_],[.box [.pv (.bool s)],.box [.pv (.fn g)],.box [.pv (.int .i64 z)]]=>(.tup [],[.box [.pv (.bool true)],.box [.pv (.fn g)],.box [.pv (.int .i64 (if !s||f n z then n else z))]],[])
 | _,_=>VH
def Vz(f:Int->Int->Bool):List Int->Option Int
 | []=>none
 | x::l=>some (l.foldl (fun z n=>if f n z then n else z) x)
def ZB(b:BoxT)(fs:List Fact)(l:Lin):List Int:=(Zv b fs).map fun p=>(ZZ l (Zf b.v p)).1
def Yh(b:BoxT)(fs:List Fact)(l:Lin):Bool:=ZJ b&&Zl fs&&decide (fs.length<=100)&&decide (b.v.length<=1000)&&Z0 l&&decide (l.t.length<=1000)
def YM(f:Int->Int->Bool)(b:BoxT)(fs:List Fact)(l:Lin):Int×Int:=
 if Zj b fs (Zh l) (Zd l)=0 then(match Vz f (ZB b fs l)with|none=>(0,9)|some z=>(z,0))else(0,Zj b fs (Zh l) (Zd l))
end Go.Pl
namespace Go.Pl
open Go.RowKit
open Enc (enc dec is)
open EncL (encL decL isL)
set_option maxRecDepth 100000
noncomputable def a3p:IC:=Wn Proofs.Tryz.f128
def a4v:List IRes:=[(.tmp 4)]
abbrev d6n:Nat:=8
def c2e:ZU:=Xe []
theorem e1c{G:PV->Prop}(m n:Int)(h:G ((.bool (decide (m<n))))):Ze c2e 0 (Za a4v G) a3p [] (Yn 8 [enc m,enc n]):=Ze.tp (.lit (.nil)) h (by kernel_rfl)
noncomputable def a6i:IC:=Wn Proofs.Tryz.f133
def a6z:List IRes:=[(.tmp 4)]
abbrev d9d:Nat:=8
def c7h:ZU:=Xe []
theorem e0r{G:PV->Prop}(m n:Int)(h:G ((.bool (decide (m>n))))):Ze c7h 0 (Za a6z G) a6i [] (Yn 8 [enc m,enc n]):=Ze.tp (.lit (.nil)) h (by kernel_rfl)
noncomputable def SC:IC:=Wn Proofs.Tryz.f194
def FZ:List IRes:=[]
abbrev d0a:Nat:=14
def a6f:ZU:=Xe [(128,.pure (preT (fun _:Int×Int×Unit=>true)) (Zw (fun x:Int×Int×Unit=>decide (x.1<x.2.1))))]
theorem d9k{G:AV×List AObj×List AObj->Prop}(n:Int)(s:Bool)(z:Int)(h:if (!s)=true then G (((.tup []),([(.box [(.pv (.bool true))]),(.box [(.pv (.fn 128))]),(.box [(Zc n)])],[])))else(Yk (fun(x:Int×Int×Unit)=>decide (x.1<x.2.1)) [(.int .i64 n),(.int .i64 z)] fun y0:Bool=>if (y0)=true then G (((.tup []),([(.box [(.pv (.bool true))]),(.box [(.pv (.fn 128))]),(.box [(Zc n)])],[])))else(G (((.tup []),([(.box [(.pv (.bool s))]),(.box [(.pv (.fn 128))]),(.box [(Zc z)])],[])))))):Ze a6f 3 (Zq 3 FZ G) SC [] (Y5 14 [.pv (.int .i64 n),.ptr 0 0,.ptr 1 0,.ptr 2 0] [.box [.pv (.bool s)],.box [.pv (.fn 128)],.box [.pv (.int .i64 z)]]):=Ze.to (.ask (Yo 5) (ZK 4 (Yj (Bool) (.lit (.ask (.nil) (.nil)))))) h (by kernel_rfl)
noncomputable def Uk:IC:=icx VU Proofs.Tryz.f127
def Ja:List IRes:=[(.cell false 1 8),(.cell false 1 9)]
abbrev b9d:Nat:=49
def U7:ZU:=Xe [(73,.pure (preT (fun x:Lin×Unit=>Z0 x.1)) (Zw (fun x:Lin×Unit=>Zh x.1))),(174,.own QI GH),(116,.pure (preT (fun x:BoxT×List Fact×Bool×NilS×Unit=>ZJ x.1&&Zl x.2.1&&decide (x.2.1.length<=100))) (Zw (fun x:BoxT×List Fact×Bool×NilS×Unit=>Zj x.1 x.2.1 x.2.2.1 []))),(117,.own Y1 XZ),(38,.pure (preT (fun x:Lin×List Coef×Unit=>Z0 x.1&&decide (x.2.1.length<=9223372036854775807))) (Zw (fun x:Lin×List Coef×Unit=>ZZ x.1 x.2.1))),(194,.own (WK 128) (VR lessB))]
theorem d0k{G:PV->Prop}(E:YN)(b:BoxT)(fs:List Fact)(l:Lin)(h:(Go.Pl.preT (fun(x:Lin×Unit)=>Z0 x.1) [(.agg [(.int .i64 l.k),(.sl 2 false (List.map enc l.t))])])=true∧(Yk (fun(x:Lin×Unit)=>Zh x.1) [(.agg [(.int .i64 l.k),(.sl 2 false (List.map enc l.t))])] fun y0:Bool=>(QI [(.pv (.agg [(.int .i64 l.k),(.sl 2 false (List.map enc l.t))]))] [])=true∧((Go.Pl.preT (fun(x:BoxT×List Fact×Bool×NilS×Unit)=>ZJ x.1&&Zl x.2.1&&decide (List.length x.2.1<=100)) [(.agg [(.sl 1 false (List.map enc b.v)),(.int .i64 b.m)]),(.sl 3 false (List.map enc fs)),(.bool y0),(.sl 0 true [])])=true∧(Yk (fun(x:BoxT×List Fact×Bool×NilS×Unit)=>Zj x.1 x.2.1 x.2.2.1 []) [(.agg [(.sl 1 false (List.map enc b.v)),(.int .i64 b.m)]),(.sl 3 false (List.map enc fs)),(.bool y0),(.sl 0 true [])] fun y1:Int=>if (y1 != 0)=true then G ((.tup [(.int .i64 0),(.int .i64 y1)]))else((Y1 [(.pv (.agg [(.sl 1 false (List.map enc b.v)),(.int .i64 b.m)])),(.pv (.sl 3 false (List.map enc fs)))] [])=true∧(E 0 ⟨Z4 49 0 [(6,(.ptr 0 0)),(8,(.ptr 1 0)),(9,(.ptr 2 0)),(11,(.ptr 3 0)),(12,(.ptr 4 0)),(13,(.ptr 5 0)),(15,.undef),(16,.undef),(17,.undef),(31,(.fn 177 [] [(.ptr 6 0),(.ptr 7 0)])),(33,.undef),(34,.undef),(35,.undef),(36,.undef),(37,.undef),(38,.undef),(39,.undef),(40,.undef),(41,.undef),(42,.undef),(43,.undef),(44,.undef)],[(.obj (.box [(Zc l.k),(ZM l.t)])),(.obj (.box [(Zc 0)])),(.obj (.box [(Zc 0)])),(.obj (.box [(Zc 0)])),(.obj (.box [(.pv (.bool false))])),(.obj (.box [(.fn 194 [] [(.ptr 4 0),(.ptr 8 0),(.ptr 3 0)])])),(.obj (.box [(Y3 b.v),(Zc b.m)])),(.obj (.box [(.pv (.sl 3 false (List.map enc fs)))])),(.obj (.box [(.pv (.fn 128))]))]⟩ (fun x S'=>KZ U7 E 0 (Za Ja G) Uk 0 x S'))))))):ZF U7 E 0 (Za Ja G) (.inl Uk) [] (Yn 49 [enc b,enc fs,enc l,.fn 128]):=ZF.mp (.req (Yj (Bool) (.req (.keep (.req (Yj (Int) (.lit (.ask (.nil) (.req (.keep (.nil))))))))))) h (by kernel_rfl)
theorem c8k{G:PV->Prop}(E:YN)(b:BoxT)(fs:List Fact)(l:Lin)(z:Int)(s:Bool)(h:if (!s)=true then G ((.tup [(.int .i64 0),(.int .i64 9)]))else(G ((.tup [(.int .i64 z),(.int .i64 0)])))):KZ U7 E 0 (Za Ja G) Uk 0 .normal ⟨Z4 49 0 [(6,.ptr 0 0),(8,.ptr 1 0),(9,.ptr 2 0),(11,.ptr 3 0),(12,.ptr 4 0),(13,.ptr 5 0)],[.obj (.box [.pv (.int .i64 l.k),.pv (enc l.t)]),.obj (.box [.pv (.int .i64 0)]),.obj (.box [.pv (.int .i64 0)]),.obj (.box [.pv (.int .i64 z)]),.obj (.box [.pv (.bool s)]),.obj (.box [.fn 194 [] [.ptr 4 0,.ptr 6 0,.ptr 3 0]]),.obj (.box [.pv (.fn 128)])]⟩:=ZF.mp (.ask (.nil) (.nil)) h (by kernel_rfl)
noncomputable def Jb:IC:=Uk
def K4:List IRes:=[(.cell false 1 8),(.cell false 1 9)]
abbrev c5r:Nat:=49
def Qc:ZU:=Xe [(73,.pure (preT (fun x:Lin×Unit=>Z0 x.1)) (Zw (fun x:Lin×Unit=>Zh x.1))),(174,.own QG JY),(116,.own VL QH),(117,.own Y1 XZ),(38,.pure (preT (fun x:Lin×List Coef×Unit=>Z0 x.1&&decide (x.2.1.length<=9223372036854775807))) (Zw (fun x:Lin×List Coef×Unit=>ZZ x.1 x.2.1))),(194,.own (WK 128) (VR lessB))]
theorem c9e{G:PV->Prop}(E:YN)(b:BoxT)(fs:List Fact)(l:Lin)(h:(Go.Pl.preT (fun(x:Lin×Unit)=>Z0 x.1) [(.agg [(.int .i64 l.k),(.sl 2 false (List.map enc l.t))])])=true∧(Yk (fun(x:Lin×Unit)=>Zh x.1) [(.agg [(.int .i64 l.k),(.sl 2 false (List.map enc l.t))])] fun y0:Bool=>(QG [(.pv (.agg [(.int .i64 l.k),(.sl 2 false (List.map enc l.t))]))] [])=true∧((VL [(.pv (.agg [(.sl 1 false (List.map enc b.v)),(.int .i64 b.m)])),(.pv (.sl 3 false (List.map enc fs))),(.pv (.bool y0)),(.row 0 (List.length (Zd (Sw (PV.agg [enc l.k,enc l.t])))) 0 (List.length (Zd (Sw (PV.agg [enc l.k,enc l.t])))))] [(.row false 9 1 (List.map enc (Zd (Sw (PV.agg [enc l.k,enc l.t])))))])=true∧(if (Zj (Oi (PV.agg [enc b.v,enc b.m])) (Bh (enc fs)) y0 (JV (List.map enc (Zd (Sw (PV.agg [enc l.k,enc l.t]))))) != 0)=true then G ((.tup [(.int .i64 0),(.int .i64 (Zj (Oi (PV.agg [enc b.v,enc b.m])) (Bh (enc fs)) y0 (JV (List.map enc (Zd (Sw (PV.agg [enc l.k,enc l.t])))))))]))else((Y1 [(.pv (.agg [(.sl 1 false (List.map enc b.v)),(.int .i64 b.m)])),(.pv (.sl 3 false (List.map enc fs)))] [])=true∧(E 0 ⟨Z4 49 0 [(6,(.ptr 0 0)),(8,(.ptr 1 0)),(9,(.ptr 2 0)),(11,(.ptr 3 0)),(12,(.ptr 4 0)),(13,(.ptr 5 0)),(15,.undef),(16,.undef),(17,.undef),(31,(.fn 177 [] [(.ptr 6 0),(.ptr 7 0)])),(33,.undef),(34,.undef),(35,.undef),(36,.undef),(37,.undef),(38,.undef),(39,.undef),(40,.undef),(41,.undef),(42,.undef),(43,.undef),(44,.undef)],[(.obj (.box [(Zc l.k),(ZM l.t)])),(.obj (.box [(Zc 0)])),(.obj (.box [(Zc 0)])),(.obj (.box [(Zc 0)])),(.obj (.box [(.pv (.bool false))])),(.obj (.box [(.fn 194 [] [(.ptr 4 0),(.ptr 8 0),(.ptr 3 0)])])),(.obj (.box [(Y3 b.v),(Zc b.m)])),(.obj (.box [(.pv (.sl 3 false (List.map enc fs)))])),(.obj (.box [(.pv (.fn 128))]))]⟩ (fun x S'=>KZ Qc E 0 (Za K4 G) Jb 0 x S'))))))):ZF Qc E 0 (Za K4 G) (.inl Jb) [] (Yn 49 [enc b,enc fs,enc l,.fn 128]):=ZF.mp (.req (Yj (Bool) (.req (.keep (.req (.keep (.lit (.ask (.nil) (.req (.keep (.nil))))))))))) h (by kernel_rfl)
theorem b7w{G:PV->Prop}(E:YN)(b:BoxT)(fs:List Fact)(l:Lin)(z:Int)(s:Bool)(h:if (!s)=true then G ((.tup [(.int .i64 0),(.int .i64 9)]))else(G ((.tup [(.int .i64 z),(.int .i64 0)])))):KZ Qc E 0 (Za K4 G) Jb 0 .normal ⟨Z4 49 0 [(6,.ptr 0 0),(8,.ptr 1 0),(9,.ptr 2 0),(11,.ptr 3 0),(12,.ptr 4 0),(13,.ptr 5 0)],[.obj (.box [.pv (.int .i64 l.k),.pv (enc l.t)]),.obj (.box [.pv (.int .i64 0)]),.obj (.box [.pv (.int .i64 0)]),.obj (.box [.pv (.int .i64 z)]),.obj (.box [.pv (.bool s)]),.obj (.box [.fn 194 [] [.ptr 4 0,.ptr 6 0,.ptr 3 0]]),.obj (.box [.pv (.fn 128)])]⟩:=ZF.mp (.ask (.nil) (.nil)) h (by kernel_rfl)
noncomputable def LY:IC:=Wn Proofs.Tryz.f58
def LG:List IRes:=[(.tmp 6),(.tmp 7)]
abbrev d1q:Nat:=14
def a7v:ZU:=Xe [(127,.pure (preT (fun x:BoxT×List Fact×Lin×FnV 128×Unit=>Yh x.1 x.2.1 x.2.2.1)) (Zw (fun x:BoxT×List Fact×Lin×FnV 128×Unit=>YM lessB x.1 x.2.1 x.2.2.1)))]
theorem d8f{G:PV->Prop}(b:BoxT)(fs:List Fact)(l:Lin)(h:(Go.Pl.preT (fun(x:BoxT×List Fact×Lin×FnV 128×Unit)=>Yh x.1 x.2.1 x.2.2.1) [(.agg [(.sl 1 false (List.map enc b.v)),(.int .i64 b.m)]),(.sl 3 false (List.map enc fs)),(.agg [(.int .i64 l.k),(.sl 2 false (List.map enc l.t))]),(.fn 128)])=true∧(Yk (fun(x:BoxT×List Fact×Lin×FnV 128×Unit)=>YM lessB x.1 x.2.1 x.2.2.1) [(.agg [(.sl 1 false (List.map enc b.v)),(.int .i64 b.m)]),(.sl 3 false (List.map enc fs)),(.agg [(.int .i64 l.k),(.sl 2 false (List.map enc l.t))]),(.fn 128)] fun y0:Int×Int=>G ((.tup [(.int .i64 y0.1),(.int .i64 y0.2)])))):Ze a7v 0 (Za LG G) LY [] (Yn 14 [enc b,enc fs,enc l]):=Ze.tp (.req (Yj (Int×Int) (.nil))) h (by kernel_rfl)
def Uf:IC:=(.block 1 (s'' [V6 35 (.load true [(.int .i64),(.sl 2)] (.t 6)) 0,V6 36 (Cr 15) 0,V6 37 (c'' 38 [(.t 35),(.t 36)]) 0,V6 34 (Cr 37) 2,V6 38 (.extract (.t 34) 0) 2,V6 39 (.extract (.t 34) 1) 2,V6 16 (Cr 38) 2,V6 17 (Cr 39) 2] (.seq (s'' [V6 40 (Cr 17) 0,V6 41 (b'' .neq (.t 40) (z'' 0)) 0] (.cond (.t 41) (s'' [V6 42 (Cr 17) 0,o'' (.store 1 (.t 8) (z'' 0)) 0,o'' (.store 1 (.t 9) (.t 42)) 0] .ret) .skip)) (.reg [V6 43 (.load false [.any] (.t 13)) 0,V6 44 (Cr 16) 0,V6 45 (.call (.t 43) [(.t 44)]) 0] none))))
def b1i:ZU:=Xe [(73,.pure (preT (fun x:Lin×Unit=>Z0 x.1)) (Zw (fun x:Lin×Unit=>Zh x.1))),(174,.own QI GH),(116,.pure (preT (fun x:BoxT×List Fact×Bool×NilS×Unit=>ZJ x.1&&Zl x.2.1&&decide (x.2.1.length<=100))) (Zw (fun x:BoxT×List Fact×Bool×NilS×Unit=>Zj x.1 x.2.1 x.2.2.1 []))),(117,.own Y1 XZ),(38,.pure (preT (fun x:Lin×List Coef×Unit=>Z0 x.1&&decide (x.2.1.length<=9223372036854775807))) (Zw (fun x:Lin×List Coef×Unit=>ZZ x.1 x.2.1))),(194,.own (WK 128) (VR lessB))]
theorem c3u{G:ZE->Prop}(E:YN)(l:Lin)(p:List Int)(vs:List Coef)(z:Int)(s:Bool)(h:(Go.Pl.preT (fun(x:Lin×List Coef×Unit)=>Z0 x.1&&decide (List.length x.2.1<=9223372036854775807)) [(.agg [(.int .i64 l.k),(.sl 2 false (List.map enc l.t))]),(.sl 2 false (List.map enc vs))])=true∧(Yk (fun(x:Lin×List Coef×Unit)=>ZZ x.1 x.2.1) [(.agg [(.int .i64 l.k),(.sl 2 false (List.map enc l.t))]),(.sl 2 false (List.map enc vs))] fun y0:Int×Int=>if (y0.2 != 0)=true then G ([(.obj (.box [(Zc l.k),(ZM l.t)])),(.obj (.box [(Zc 0)])),(.obj (.box [(Zc y0.2)])),(.obj (.box [(Zc z)])),(.obj (.box [(.pv (.bool s))])),(.obj (.box [(.fn 194 [] [(.ptr 4 0),(.ptr 6 0),(.ptr 3 0)])])),(.obj (.box [(.pv (.fn 128))])),.fresh,.fresh])else(E 99 ⟨Z4 49 0 [],[(.obj (.box [(Zc l.k),(ZM l.t)])),(.obj (.box [(Zc 0)])),(.obj (.box [(Zc 0)])),(.obj (.box [(Zc (if (!s||lessB y0.1 z)=true then y0.1 else z))])),(.obj (.box [(.pv (.bool true))])),(.obj (.box [(.fn 194 [] [(.ptr 4 0),(.ptr 6 0),(.ptr 3 0)])])),(.obj (.box [(.pv (.fn 128))]))]⟩ (fun x S'=>KZ b1i E 7 (fun st=>G st.heap) Uf 99 x S')))):ZF b1i E 7 (fun st=>G st.heap) (.inl Uf) [.seq (.ext 99 [])] ⟨Z4 49 0 [(6,.ptr 0 0),(8,.ptr 1 0),(9,.ptr 2 0),(11,.ptr 3 0),(12,.ptr 4 0),(13,.ptr 5 0),(15,.pv (enc vs)),(32,.pv (enc p)),(33,.pv (enc vs))],[.obj (.box [.pv (.int .i64 l.k),.pv (enc l.t)]),.obj (.box [.pv (.int .i64 0)]),.obj (.box [.pv (.int .i64 0)]),.obj (.box [.pv (.int .i64 z)]),.obj (.box [.pv (.bool s)]),.obj (.box [.fn 194 [] [.ptr 4 0,.ptr 6 0,.ptr 3 0]]),.obj (.box [.pv (.fn 128)])]⟩:=ZF.mh (.req (Yj (Int×Int) (.lit (.ask (.nil) (.lit (.keep (.nil))))))) h (by kernel_rfl)
def Jo:IC:=Uf
def a9s:ZU:=Xe [(73,.pure (preT (fun x:Lin×Unit=>Z0 x.1)) (Zw (fun x:Lin×Unit=>Zh x.1))),(174,.own QG JY),(116,.own VL QH),(117,.own Y1 XZ),(38,.pure (preT (fun x:Lin×List Coef×Unit=>Z0 x.1&&decide (x.2.1.length<=9223372036854775807))) (Zw (fun x:Lin×List Coef×Unit=>ZZ x.1 x.2.1))),(194,.own (WK 128) (VR lessB))]
theorem c4q{G:ZE->Prop}(E:YN)(l:Lin)(p:List Int)(vs:List Coef)(z:Int)(s:Bool)(h:(Go.Pl.preT (fun(x:Lin×List Coef×Unit)=>Z0 x.1&&decide (List.length x.2.1<=9223372036854775807)) [(.agg [(.int .i64 l.k),(.sl 2 false (List.map enc l.t))]),(.sl 2 false (List.map enc vs))])=true∧(Yk (fun(x:Lin×List Coef×Unit)=>ZZ x.1 x.2.1) [(.agg [(.int .i64 l.k),(.sl 2 false (List.map enc l.t))]),(.sl 2 false (List.map enc vs))] fun y0:Int×Int=>if (y0.2 != 0)=true then G ([(.obj (.box [(Zc l.k),(ZM l.t)])),(.obj (.box [(Zc 0)])),(.obj (.box [(Zc y0.2)])),(.obj (.box [(Zc z)])),(.obj (.box [(.pv (.bool s))])),(.obj (.box [(.fn 194 [] [(.ptr 4 0),(.ptr 6 0),(.ptr 3 0)])])),(.obj (.box [(.pv (.fn 128))])),.fresh,.fresh])else(E 99 ⟨Z4 49 0 [],[(.obj (.box [(Zc l.k),(ZM l.t)])),(.obj (.box [(Zc 0)])),(.obj (.box [(Zc 0)])),(.obj (.box [(Zc (if (!s||lessB y0.1 z)=true then y0.1 else z))])),(.obj (.box [(.pv (.bool true))])),(.obj (.box [(.fn 194 [] [(.ptr 4 0),(.ptr 6 0),(.ptr 3 0)])])),(.obj (.box [(.pv (.fn 128))]))]⟩ (fun x S'=>KZ a9s E 7 (fun st=>G st.heap) Jo 99 x S')))):ZF a9s E 7 (fun st=>G st.heap) (.inl Jo) [.seq (.ext 99 [])] ⟨Z4 49 0 [(6,.ptr 0 0),(8,.ptr 1 0),(9,.ptr 2 0),(11,.ptr 3 0),(12,.ptr 4 0),(13,.ptr 5 0),(15,.pv (enc vs)),(32,.pv (enc p)),(33,.pv (enc vs))],[.obj (.box [.pv (.int .i64 l.k),.pv (enc l.t)]),.obj (.box [.pv (.int .i64 0)]),.obj (.box [.pv (.int .i64 0)]),.obj (.box [.pv (.int .i64 z)]),.obj (.box [.pv (.bool s)]),.obj (.box [.fn 194 [] [.ptr 4 0,.ptr 6 0,.ptr 3 0]]),.obj (.box [.pv (.fn 128)])]⟩:=ZF.mh (.req (Yj (Int×Int) (.lit (.ask (.nil) (.lit (.keep (.nil))))))) h (by kernel_rfl)
noncomputable def LJ:IC:=SC
def FN:List IRes:=[]
abbrev c8x:Nat:=14
def a5i:ZU:=Xe [(133,.pure (preT (fun _:Int×Int×Unit=>true)) (Zw (fun x:Int×Int×Unit=>decide (x.1>x.2.1))))]
theorem d6c{G:AV×List AObj×List AObj->Prop}(n:Int)(s:Bool)(z:Int)(h:if (!s)=true then G (((.tup []),([(.box [(.pv (.bool true))]),(.box [(.pv (.fn 133))]),(.box [(Zc n)])],[])))else(Yk (fun(x:Int×Int×Unit)=>decide (x.1>x.2.1)) [(.int .i64 n),(.int .i64 z)] fun y0:Bool=>if (y0)=true then G (((.tup []),([(.box [(.pv (.bool true))]),(.box [(.pv (.fn 133))]),(.box [(Zc n)])],[])))else(G (((.tup []),([(.box [(.pv (.bool s))]),(.box [(.pv (.fn 133))]),(.box [(Zc z)])],[])))))):Ze a5i 3 (Zq 3 FN G) LJ [] (Y5 14 [.pv (.int .i64 n),.ptr 0 0,.ptr 1 0,.ptr 2 0] [.box [.pv (.bool s)],.box [.pv (.fn 133)],.box [.pv (.int .i64 z)]]):=Ze.to (.ask (Yo 5) (ZK 4 (Yj (Bool) (.lit (.ask (.nil) (.nil)))))) h (by kernel_rfl)
noncomputable def Jg:IC:=Uk
def Jw:List IRes:=[(.cell false 1 8),(.cell false 1 9)]
abbrev c0x:Nat:=49
def U9:ZU:=Xe [(73,.pure (preT (fun x:Lin×Unit=>Z0 x.1)) (Zw (fun x:Lin×Unit=>Zh x.1))),(174,.own QI GH),(116,.pure (preT (fun x:BoxT×List Fact×Bool×NilS×Unit=>ZJ x.1&&Zl x.2.1&&decide (x.2.1.length<=100))) (Zw (fun x:BoxT×List Fact×Bool×NilS×Unit=>Zj x.1 x.2.1 x.2.2.1 []))),(117,.own Y1 XZ),(38,.pure (preT (fun x:Lin×List Coef×Unit=>Z0 x.1&&decide (x.2.1.length<=9223372036854775807))) (Zw (fun x:Lin×List Coef×Unit=>ZZ x.1 x.2.1))),(194,.own (WK 133) (VR moreB))]
theorem d0f{G:PV->Prop}(E:YN)(b:BoxT)(fs:List Fact)(l:Lin)(h:(Go.Pl.preT (fun(x:Lin×Unit)=>Z0 x.1) [(.agg [(.int .i64 l.k),(.sl 2 false (List.map enc l.t))])])=true∧(Yk (fun(x:Lin×Unit)=>Zh x.1) [(.agg [(.int .i64 l.k),(.sl 2 false (List.map enc l.t))])] fun y0:Bool=>(QI [(.pv (.agg [(.int .i64 l.k),(.sl 2 false (List.map enc l.t))]))] [])=true∧((Go.Pl.preT (fun(x:BoxT×List Fact×Bool×NilS×Unit)=>ZJ x.1&&Zl x.2.1&&decide (List.length x.2.1<=100)) [(.agg [(.sl 1 false (List.map enc b.v)),(.int .i64 b.m)]),(.sl 3 false (List.map enc fs)),(.bool y0),(.sl 0 true [])])=true∧(Yk (fun(x:BoxT×List Fact×Bool×NilS×Unit)=>Zj x.1 x.2.1 x.2.2.1 []) [(.agg [(.sl 1 false (List.map enc b.v)),(.int .i64 b.m)]),(.sl 3 false (List.map enc fs)),(.bool y0),(.sl 0 true [])] fun y1:Int=>if (y1 != 0)=true then G ((.tup [(.int .i64 0),(.int .i64 y1)]))else((Y1 [(.pv (.agg [(.sl 1 false (List.map enc b.v)),(.int .i64 b.m)])),(.pv (.sl 3 false (List.map enc fs)))] [])=true∧(E 0 ⟨Z4 49 0 [(6,(.ptr 0 0)),(8,(.ptr 1 0)),(9,(.ptr 2 0)),(11,(.ptr 3 0)),(12,(.ptr 4 0)),(13,(.ptr 5 0)),(15,.undef),(16,.undef),(17,.undef),(31,(.fn 177 [] [(.ptr 6 0),(.ptr 7 0)])),(33,.undef),(34,.undef),(35,.undef),(36,.undef),(37,.undef),(38,.undef),(39,.undef),(40,.undef),(41,.undef),(42,.undef),(43,.undef),(44,.undef)],[(.obj (.box [(Zc l.k),(ZM l.t)])),(.obj (.box [(Zc 0)])),(.obj (.box [(Zc 0)])),(.obj (.box [(Zc 0)])),(.obj (.box [(.pv (.bool false))])),(.obj (.box [(.fn 194 [] [(.ptr 4 0),(.ptr 8 0),(.ptr 3 0)])])),(.obj (.box [(Y3 b.v),(Zc b.m)])),(.obj (.box [(.pv (.sl 3 false (List.map enc fs)))])),(.obj (.box [(.pv (.fn 133))]))]⟩ (fun x S'=>KZ U9 E 0 (Za Jw G) Jg 0 x S'))))))):ZF U9 E 0 (Za Jw G) (.inl Jg) [] (Yn 49 [enc b,enc fs,enc l,.fn 133]):=ZF.mp (.req (Yj (Bool) (.req (.keep (.req (Yj (Int) (.lit (.ask (.nil) (.req (.keep (.nil))))))))))) h (by kernel_rfl)
theorem c7v{G:PV->Prop}(E:YN)(b:BoxT)(fs:List Fact)(l:Lin)(z:Int)(s:Bool)(h:if (!s)=true then G ((.tup [(.int .i64 0),(.int .i64 9)]))else(G ((.tup [(.int .i64 z),(.int .i64 0)])))):KZ U9 E 0 (Za Jw G) Jg 0 .normal ⟨Z4 49 0 [(6,.ptr 0 0),(8,.ptr 1 0),(9,.ptr 2 0),(11,.ptr 3 0),(12,.ptr 4 0),(13,.ptr 5 0)],[.obj (.box [.pv (.int .i64 l.k),.pv (enc l.t)]),.obj (.box [.pv (.int .i64 0)]),.obj (.box [.pv (.int .i64 0)]),.obj (.box [.pv (.int .i64 z)]),.obj (.box [.pv (.bool s)]),.obj (.box [.fn 194 [] [.ptr 4 0,.ptr 6 0,.ptr 3 0]]),.obj (.box [.pv (.fn 133)])]⟩:=ZF.mp (.ask (.nil) (.nil)) h (by kernel_rfl)
noncomputable def KU:IC:=Uk
def KX:List IRes:=[(.cell false 1 8),(.cell false 1 9)]
abbrev c4n:Nat:=49
def U8:ZU:=Xe [(73,.pure (preT (fun x:Lin×Unit=>Z0 x.1)) (Zw (fun x:Lin×Unit=>Zh x.1))),(174,.own QG JY),(116,.own VL QH),(117,.own Y1 XZ),(38,.pure (preT (fun x:Lin×List Coef×Unit=>Z0 x.1&&decide (x.2.1.length<=9223372036854775807))) (Zw (fun x:Lin×List Coef×Unit=>ZZ x.1 x.2.1))),(194,.own (WK 133) (VR moreB))]
theorem d3e{G:PV->Prop}(E:YN)(b:BoxT)(fs:List Fact)(l:Lin)(h:(Go.Pl.preT (fun(x:Lin×Unit)=>Z0 x.1) [(.agg [(.int .i64 l.k),(.sl 2 false (List.map enc l.t))])])=true∧(Yk (fun(x:Lin×Unit)=>Zh x.1) [(.agg [(.int .i64 l.k),(.sl 2 false (List.map enc l.t))])] fun y0:Bool=>(QG [(.pv (.agg [(.int .i64 l.k),(.sl 2 false (List.map enc l.t))]))] [])=true∧((VL [(.pv (.agg [(.sl 1 false (List.map enc b.v)),(.int .i64 b.m)])),(.pv (.sl 3 false (List.map enc fs))),(.pv (.bool y0)),(.row 0 (List.length (Zd (Sw (PV.agg [enc l.k,enc l.t])))) 0 (List.length (Zd (Sw (PV.agg [enc l.k,enc l.t])))))] [(.row false 9 1 (List.map enc (Zd (Sw (PV.agg [enc l.k,enc l.t])))))])=true∧(if (Zj (Oi (PV.agg [enc b.v,enc b.m])) (Bh (enc fs)) y0 (JV (List.map enc (Zd (Sw (PV.agg [enc l.k,enc l.t]))))) != 0)=true then G ((.tup [(.int .i64 0),(.int .i64 (Zj (Oi (PV.agg [enc b.v,enc b.m])) (Bh (enc fs)) y0 (JV (List.map enc (Zd (Sw (PV.agg [enc l.k,enc l.t])))))))]))else((Y1 [(.pv (.agg [(.sl 1 false (List.map enc b.v)),(.int .i64 b.m)])),(.pv (.sl 3 false (List.map enc fs)))] [])=true∧(E 0 ⟨Z4 49 0 [(6,(.ptr 0 0)),(8,(.ptr 1 0)),(9,(.ptr 2 0)),(11,(.ptr 3 0)),(12,(.ptr 4 0)),(13,(.ptr 5 0)),(15,.undef),(16,.undef),(17,.undef),(31,(.fn 177 [] [(.ptr 6 0),(.ptr 7 0)])),(33,.undef),(34,.undef),(35,.undef),(36,.undef),(37,.undef),(38,.undef),(39,.undef),(40,.undef),(41,.undef),(42,.undef),(43,.undef),(44,.undef)],[(.obj (.box [(Zc l.k),(ZM l.t)])),(.obj (.box [(Zc 0)])),(.obj (.box [(Zc 0)])),(.obj (.box [(Zc 0)])),(.obj (.box [(.pv (.bool false))])),(.obj (.box [(.fn 194 [] [(.ptr 4 0),(.ptr 8 0),(.ptr 3 0)])])),(.obj (.box [(Y3 b.v),(Zc b.m)])),(.obj (.box [(.pv (.sl 3 false (List.map enc fs)))])),(.obj (.box [(.pv (.fn 133))]))]⟩ (fun x S'=>KZ U8 E 0 (Za KX G) KU 0 x S'))))))):ZF U8 E 0 (Za KX G) (.inl KU) [] (Yn 49 [enc b,enc fs,enc l,.fn 133]):=ZF.mp (.req (Yj (Bool) (.req (.keep (.req (.keep (.lit (.ask (.nil) (.req (.keep (.nil))))))))))) h (by kernel_rfl)
theorem b7x{G:PV->Prop}(E:YN)(b:BoxT)(fs:List Fact)(l:Lin)(z:Int)(s:Bool)(h:if (!s)=true then G ((.tup [(.int .i64 0),(.int .i64 9)]))else(G ((.tup [(.int .i64 z),(.int .i64 0)])))):KZ U8 E 0 (Za KX G) KU 0 .normal ⟨Z4 49 0 [(6,.ptr 0 0),(8,.ptr 1 0),(9,.ptr 2 0),(11,.ptr 3 0),(12,.ptr 4 0),(13,.ptr 5 0)],[.obj (.box [.pv (.int .i64 l.k),.pv (enc l.t)]),.obj (.box [.pv (.int .i64 0)]),.obj (.box [.pv (.int .i64 0)]),.obj (.box [.pv (.int .i64 z)]),.obj (.box [.pv (.bool s)]),.obj (.box [.fn 194 [] [.ptr 4 0,.ptr 6 0,.ptr 3 0]]),.obj (.box [.pv (.fn 133)])]⟩:=ZF.mp (.ask (.nil) (.nil)) h (by kernel_rfl)
noncomputable def LP:IC:=Wn Proofs.Tryz.f62
def L8:List IRes:=[(.tmp 6),(.tmp 7)]
abbrev d4a:Nat:=14
def a5l:ZU:=Xe [(127,.pure (preT (fun x:BoxT×List Fact×Lin×FnV 133×Unit=>Yh x.1 x.2.1 x.2.2.1)) (Zw (fun x:BoxT×List Fact×Lin×FnV 133×Unit=>YM moreB x.1 x.2.1 x.2.2.1)))]
theorem d9f{G:PV->Prop}(b:BoxT)(fs:List Fact)(l:Lin)(h:(Go.Pl.preT (fun(x:BoxT×List Fact×Lin×FnV 133×Unit)=>Yh x.1 x.2.1 x.2.2.1) [(.agg [(.sl 1 false (List.map enc b.v)),(.int .i64 b.m)]),(.sl 3 false (List.map enc fs)),(.agg [(.int .i64 l.k),(.sl 2 false (List.map enc l.t))]),(.fn 133)])=true∧(Yk (fun(x:BoxT×List Fact×Lin×FnV 133×Unit)=>YM moreB x.1 x.2.1 x.2.2.1) [(.agg [(.sl 1 false (List.map enc b.v)),(.int .i64 b.m)]),(.sl 3 false (List.map enc fs)),(.agg [(.int .i64 l.k),(.sl 2 false (List.map enc l.t))]),(.fn 133)] fun y0:Int×Int=>G ((.tup [(.int .i64 y0.1),(.int .i64 y0.2)])))):Ze a5l 0 (Za L8 G) LP [] (Yn 14 [enc b,enc fs,enc l]):=Ze.tp (.req (Yj (Int×Int) (.nil))) h (by kernel_rfl)
def KV:IC:=Uf
def b0v:ZU:=Xe [(73,.pure (preT (fun x:Lin×Unit=>Z0 x.1)) (Zw (fun x:Lin×Unit=>Zh x.1))),(174,.own QI GH),(116,.pure (preT (fun x:BoxT×List Fact×Bool×NilS×Unit=>ZJ x.1&&Zl x.2.1&&decide (x.2.1.length<=100))) (Zw (fun x:BoxT×List Fact×Bool×NilS×Unit=>Zj x.1 x.2.1 x.2.2.1 []))),(117,.own Y1 XZ),(38,.pure (preT (fun x:Lin×List Coef×Unit=>Z0 x.1&&decide (x.2.1.length<=9223372036854775807))) (Zw (fun x:Lin×List Coef×Unit=>ZZ x.1 x.2.1))),(194,.own (WK 133) (VR moreB))]
theorem c1k{G:ZE->Prop}(E:YN)(l:Lin)(p:List Int)(vs:List Coef)(z:Int)(s:Bool)(h:(Go.Pl.preT (fun(x:Lin×List Coef×Unit)=>Z0 x.1&&decide (List.length x.2.1<=9223372036854775807)) [(.agg [(.int .i64 l.k),(.sl 2 false (List.map enc l.t))]),(.sl 2 false (List.map enc vs))])=true∧(Yk (fun(x:Lin×List Coef×Unit)=>ZZ x.1 x.2.1) [(.agg [(.int .i64 l.k),(.sl 2 false (List.map enc l.t))]),(.sl 2 false (List.map enc vs))] fun y0:Int×Int=>if (y0.2 != 0)=true then G ([(.obj (.box [(Zc l.k),(ZM l.t)])),(.obj (.box [(Zc 0)])),(.obj (.box [(Zc y0.2)])),(.obj (.box [(Zc z)])),(.obj (.box [(.pv (.bool s))])),(.obj (.box [(.fn 194 [] [(.ptr 4 0),(.ptr 6 0),(.ptr 3 0)])])),(.obj (.box [(.pv (.fn 133))])),.fresh,.fresh])else(E 99 ⟨Z4 49 0 [],[(.obj (.box [(Zc l.k),(ZM l.t)])),(.obj (.box [(Zc 0)])),(.obj (.box [(Zc 0)])),(.obj (.box [(Zc (if (!s||moreB y0.1 z)=true then y0.1 else z))])),(.obj (.box [(.pv (.bool true))])),(.obj (.box [(.fn 194 [] [(.ptr 4 0),(.ptr 6 0),(.ptr 3 0)])])),(.obj (.box [(.pv (.fn 133))]))]⟩ (fun x S'=>KZ b0v E 7 (fun st=>G st.heap) KV 99 x S')))):ZF b0v E 7 (fun st=>G st.heap) (.inl KV) [.seq (.ext 99 [])] ⟨Z4 49 0 [(6,.ptr 0 0),(8,.ptr 1 0),(9,.ptr 2 0),(11,.ptr 3 0),(12,.ptr 4 0),(13,.ptr 5 0),(15,.pv (enc vs)),(32,.pv (enc p)),(33,.pv (enc vs))],[.obj (.box [.pv (.int .i64 l.k),.pv (enc l.t)]),.obj (.box [.pv (.int .i64 0)]),.obj (.box [.pv (.int .i64 0)]),.obj (.box [.pv (.int .i64 z)]),.obj (.box [.pv (.bool s)]),.obj (.box [.fn 194 [] [.ptr 4 0,.ptr 6 0,.ptr 3 0]]),.obj (.box [.pv (.fn 133)])]⟩:=ZF.mh (.req (Yj (Int×Int) (.lit (.ask (.nil) (.lit (.keep (.nil))))))) h (by kernel_rfl)
def K6:IC:=Uf
def a9d:ZU:=Xe [(73,.pure (preT (fun x:Lin×Unit=>Z0 x.1)) (Zw (fun x:Lin×Unit=>Zh x.1))),(174,.own QG JY),(116,.own VL QH),(117,.own Y1 XZ),(38,.pure (preT (fun x:Lin×List Coef×Unit=>Z0 x.1&&decide (x.2.1.length<=9223372036854775807))) (Zw (fun x:Lin×List Coef×Unit=>ZZ x.1 x.2.1))),(194,.own (WK 133) (VR moreB))]
theorem c5l{G:ZE->Prop}(E:YN)(l:Lin)(p:List Int)(vs:List Coef)(z:Int)(s:Bool)(h:(Go.Pl.preT (fun(x:Lin×List Coef×Unit)=>Z0 x.1&&decide (List.length x.2.1<=9223372036854775807)) [(.agg [(.int .i64 l.k),(.sl 2 false (List.map enc l.t))]),(.sl 2 false (List.map enc vs))])=true∧(Yk (fun(x:Lin×List Coef×Unit)=>ZZ x.1 x.2.1) [(.agg [(.int .i64 l.k),(.sl 2 false (List.map enc l.t))]),(.sl 2 false (List.map enc vs))] fun y0:Int×Int=>if (y0.2 != 0)=true then G ([(.obj (.box [(Zc l.k),(ZM l.t)])),(.obj (.box [(Zc 0)])),(.obj (.box [(Zc y0.2)])),(.obj (.box [(Zc z)])),(.obj (.box [(.pv (.bool s))])),(.obj (.box [(.fn 194 [] [(.ptr 4 0),(.ptr 6 0),(.ptr 3 0)])])),(.obj (.box [(.pv (.fn 133))])),.fresh,.fresh])else(E 99 ⟨Z4 49 0 [],[(.obj (.box [(Zc l.k),(ZM l.t)])),(.obj (.box [(Zc 0)])),(.obj (.box [(Zc 0)])),(.obj (.box [(Zc (if (!s||moreB y0.1 z)=true then y0.1 else z))])),(.obj (.box [(.pv (.bool true))])),(.obj (.box [(.fn 194 [] [(.ptr 4 0),(.ptr 6 0),(.ptr 3 0)])])),(.obj (.box [(.pv (.fn 133))]))]⟩ (fun x S'=>KZ a9d E 7 (fun st=>G st.heap) K6 99 x S')))):ZF a9d E 7 (fun st=>G st.heap) (.inl K6) [.seq (.ext 99 [])] ⟨Z4 49 0 [(6,.ptr 0 0),(8,.ptr 1 0),(9,.ptr 2 0),(11,.ptr 3 0),(12,.ptr 4 0),(13,.ptr 5 0),(15,.pv (enc vs)),(32,.pv (enc p)),(33,.pv (enc vs))],[.obj (.box [.pv (.int .i64 l.k),.pv (enc l.t)]),.obj (.box [.pv (.int .i64 0)]),.obj (.box [.pv (.int .i64 0)]),.obj (.box [.pv (.int .i64 z)]),.obj (.box [.pv (.bool s)]),.obj (.box [.fn 194 [] [.ptr 4 0,.ptr 6 0,.ptr 3 0]]),.obj (.box [.pv (.fn 133)])]⟩:=ZF.mh (.req (Yj (Int×Int) (.lit (.ask (.nil) (.lit (.keep (.nil))))))) h (by kernel_rfl)
end Go.Pl
namespace Go.Pl
open Go.RowKit
open Enc (enc dec is)
open EncL (encL decL isL)
theorem BZ{s:Str}: ∀ {vs:List Str} {p:List Int},s∈vs->p.length=vs.length-> ∃ x∈p,Wj (Zf vs p) s=some x
 | [],_,h,_=>by cases h
 | v::vs,[],_,h=>by simp at h
 | v::vs,x::p,h,hl=>by
  by_cases e:v=s
  ·refine⟨x,by simp,?_⟩
   show((List.find? (fun t:Coef=>decide (t.v=s)) (⟨v,x⟩::Zf vs p)).map (·.c))=some x
   rw[List.find?_cons_of_pos (by simpa using e)];rfl
  ·obtain⟨y,hy,h2⟩:=BZ (s:=s) (vs:=vs) (p:=p) ((List.mem_cons.1 h).resolve_left fun h=>e h.symm) (by simpa using hl)
   refine⟨y,by simp[hy],?_⟩
   show((List.find? (fun t:Coef=>decide (t.v=s)) (⟨v,x⟩::Zf vs p)).map (·.c))=some y
   rw[List.find?_cons_of_neg (by simpa using e)]
   exact h2
theorem Tp{vs:List Str}{p:List Int}(hl:p.length=vs.length)(hx : ∀ x∈p,-1000000000<=x∧x<=1000000000): ∀ (ts:List Coef) (n:Int),(∀ t∈ts,t.v∈vs)->(UF (Zf vs p) n ts).2=0
 | [],n,_=>rfl
 | t::r,n,h=>by
  obtain⟨x,h1,h2⟩:=BZ (h t (by simp)) hl
  have:=hx x h1
  rw[UF,h2]
  show(if x < -1000000000 then((0:Int),(2:Int))else if x>1000000000 then(0,2)else _).2=0
  rw[if_neg (by omega),if_neg (by omega)]
  exact Tp hl hx r _ fun u hu=>h u (by simp[hu])
theorem FX{b:BoxT}{fs:List Fact}{p:List Int}(hv:Xd b=true)(h:p∈Zv b fs):p.length=b.v.length∧(∀ x∈p,0<=x∧x<=b.m)∧ ∀ x∈p,-1<=x∧x<=20000:=by
 unfold Zv at h
 rw[V7 hv]at h
 have h:=(List.mem_filter.1 h).1
 obtain⟨h1,h2⟩:=CF.1 h
 have:0<=b.m:=(VG.1 hv).2.2.2.1
 exact⟨h1,fun x hx=>by have:=h2 x hx;omega,a9m hv p h⟩
theorem Ji{b:BoxT}{fs:List Fact}{l:Lin}{p:List Int}(hr:Zj b fs (Zh l) (Zd l)=0)(h:p∈Zv b fs):(ZZ l (Zf b.v p)).2=0:=by
 obtain⟨hv,_,hl,hin⟩:=Xh _ _ _ _ hr
 obtain⟨h1,_,h3⟩:=FX hv h
 rw[QO,Bool.and_eq_true]at hin
 unfold ZZ
 rw[if_pos hl]
 refine Tp h1 (fun x hx=>by have:=h3 x hx;omega) _ _ fun t ht=> ?_
 have:=List.all_eq_true.1 hin.1 t.v (by unfold Zd;exact List.mem_map.2 ⟨t,ht,rfl⟩)
 simpa using this
theorem Nf(f:Int->Int->Bool)(l:List Int)(x:Int):Vz f (l++[x])=some (match Vz f l with|none=>x|some z=>if f x z then x else z):=by
 cases l with
 | nil=>rfl
 | cons y l=>simp[Vz,List.foldl_append]
def Xp(f:Int->Int->Bool)(l:List Int):Int×Bool:=match Vz f l with|none=>(0,false)|some z=>(z,true)
theorem GM(f:Int->Int->Bool)(l:List Int)(x:Int):Xp f (l++[x])=(if !(Xp f l).2||f x (Xp f l).1 then x else(Xp f l).1,true):=by
 unfold Xp
 rw[Nf]
 cases Vz f l <;> rfl
theorem c5n(l:Lin):Sw (PV.agg [enc l.k,enc l.t])=l:=Enc.dec_enc l
theorem Fe(b:BoxT):Oi (PV.agg [enc b.v,enc b.m])=b:=Enc.dec_enc b
theorem Rk(fs:List Fact):Bh (enc fs)=fs:=Enc.dec_enc fs
def E9(l:Lin)(z:Int)(s:Bool):ZE:=[.obj (.box [.pv (.int .i64 l.k),.pv (enc l.t)]),.obj (.box [.pv (.int .i64 0)]),.obj (.box [.pv (.int .i64 0)]),.obj (.box [.pv (.int .i64 z)]),.obj (.box [.pv (.bool s)]),.obj (.box [.fn 194 [] [.ptr 4 0,.ptr 6 0,.ptr 3 0]]),.obj (.box [.pv (.fn 128)])]
theorem c6n: ∀ args os,WK 128 args os=true->Ze a6f os.length (Zq os.length FZ fun r=>r=VR lessB args os) SC [] (Y5 d0a args os):=by
 intro args os h
 unfold WK at h
 split at h
 ·rename_i n s g z
  have h:g=128:=by simpa using h
  subst h
  refine d9k n s z (Xt (fun h=> ?_) fun h=>Zg (n,z,()) rfl (WP (fun h2=> ?_) fun h2=> ?_))
  ·subst h;rfl
  ·subst h
   have h2:lessB n z=true:=h2
   show _=(AV.tup [],[AObj.box [.pv (.bool true)],.box [.pv (.fn 128)],.box [.pv (.int .i64 (if !true||lessB n z then n else z))]],[])
   rw[h2];rfl
  ·subst h
   have h2:lessB n z=false:=h2
   show _=(AV.tup [],[AObj.box [.pv (.bool true)],.box [.pv (.fn 128)],.box [.pv (.int .i64 (if !true||lessB n z then n else z))]],[])
   rw[h2];rfl
 ·cases h
def Dv:YN:=fun n st q=>n=0∧H9 U7 0 (.t 31) 177 [32,33] [(15,33)] Uf QC Qd De st q
theorem a2i(b:BoxT)(fs:List Fact)(l:Lin)(hl:Z0 l=true)(hb:b.v.length<=1000)(hr:Zj b fs (Zh l) (Zd l)=0)(k:Nat)(p:List Int)(hp:(Zv b fs)[k]? = some p):
  ZF U7 (fun n S' _=>n=99∧S'.heap=E9 l (Xp lessB ((ZB b fs l).take (k+1))).1 (Xp lessB ((ZB b fs l).take (k+1))).2) 7 (fun st=>False) (.inl Uf) [.seq (.ext 99 [])]
   ⟨Z4 49 0 [(6,.ptr 0 0),(8,.ptr 1 0),(9,.ptr 2 0),(11,.ptr 3 0),(12,.ptr 4 0),(13,.ptr 5 0),(15,.pv (enc (Zf b.v p))),(32,.pv (enc p)),(33,.pv (enc (Zf b.v p)))],E9 l (Xp lessB ((ZB b fs l).take k)).1 (Xp lessB ((ZB b fs l).take k)).2⟩:=by
 have hk:=(List.getElem?_eq_some_iff.1 hp).1
 have hkp:=(List.getElem?_eq_some_iff.1 hp).2
 have hm:p∈Zv b fs:=List.mem_of_getElem? hp
 have hkv:k<(ZB b fs l).length:=by unfold ZB;rw[List.length_map];exact hk
 have hgv:(ZB b fs l)[k]=(ZZ l (Zf b.v p)).1:=by
  have:(ZB b fs l)[k]? = some (ZZ l (Zf b.v p)).1:=by unfold ZB;rw[List.getElem?_map,hp];rfl
  exact(List.getElem?_eq_some_iff.1 this).2
 have ht:(ZB b fs l).take (k+1)=(ZB b fs l).take k++[(ZZ l (Zf b.v p)).1]:=by rw[List.take_succ_eq_append_getElem hkv,hgv]
 rw[ht,GM]
 refine c3u (G:=fun _=>False) _ l p (Zf b.v p) _ _ ⟨Zk (l,Zf b.v p,()) rfl ?_,Zg (l,Zf b.v p,()) rfl ?_⟩
 ·show(Z0 l&&decide ((Zf b.v p).length<=9223372036854775807))=true
  rw[hl,decide_eq_true (by unfold Zf;rw[List.length_zipWith];omega)];rfl
 ·refine ZG (by rw[Ji hr hm];simp) ⟨rfl,rfl⟩
theorem b2k: ∀ x:BoxT×List Fact×Lin×FnV 128×Unit,(Yh x.1 x.2.1 x.2.2.1&&x.2.2.1.t.isEmpty)=true->Jt U7 Dv 0 (Za Ja (Zi (YM lessB x.1 x.2.1 x.2.2.1))) Uk [] (Yn b9d (encL x)):=by
 rintro⟨b,fs,l,⟨⟩,⟨⟩⟩ hp
 simp only[Yh,Bool.and_eq_true,decide_eq_true_eq]at hp
 obtain⟨⟨⟨⟨⟨⟨h1,h2⟩,h3⟩,h4⟩,h5⟩,h6⟩,h7⟩:=hp
 have key:Zj b fs (Zh l) (Zd l)=0->Dv 0 ⟨Z4 49 0 [(6,(.ptr 0 0)),(8,(.ptr 1 0)),(9,(.ptr 2 0)),(11,(.ptr 3 0)),(12,(.ptr 4 0)),(13,(.ptr 5 0)),(15,.undef),(16,.undef),(17,.undef),(31,(.fn 177 [] [(.ptr 6 0),(.ptr 7 0)])),(33,.undef),(34,.undef),(35,.undef),(36,.undef),(37,.undef),(38,.undef),(39,.undef),(40,.undef),(41,.undef),(42,.undef),(43,.undef),(44,.undef)],[(.obj (.box [(.pv (.int .i64 (Lin.k l))),(.pv (.sl 2 false (List.map enc (Lin.t l))))])),(.obj (.box [(.pv (.int .i64 0))])),(.obj (.box [(.pv (.int .i64 0))])),(.obj (.box [(.pv (.int .i64 0))])),(.obj (.box [(.pv (.bool false))])),(.obj (.box [(.fn 194 [] [(.ptr 4 0),(.ptr 8 0),(.ptr 3 0)])])),(.obj (.box [(.pv (.sl 1 false (List.map enc (BoxT.v b)))),(.pv (.int .i64 (BoxT.m b)))])),(.obj (.box [(.pv (.sl 3 false (List.map enc fs)))])),(.obj (.box [(.pv (.fn 128))]))]⟩ (fun x S'=>KZ U7 Dv 0 (Za Ja (Zi (YM lessB b fs l))) Uk 0 x S'):=by
  intro h0
  obtain⟨hv,_⟩:=Xh _ _ _ _ h0
  refine⟨rfl,[6,7],[[enc b.v,.int .i64 b.m],[enc fs]],[6,8,9,11,12,13],[],⟨Z4 49 0 [(6,.ptr 0 0),(8,.ptr 1 0),(9,.ptr 2 0),(11,.ptr 3 0),(12,.ptr 4 0),(13,.ptr 5 0)],E9 l 0 false⟩,(fun k σ=>σ=E9 l (Xp lessB ((ZB b fs l).take k)).1 (Xp lessB ((ZB b fs l).take k)).2),fun _=>False,rfl,by simp,rfl,?_,by kernel_rfl,DU hv h2 h4,rfl,?_,?_,fun σ h=>h.elim⟩
  ·intro j l' ps hl hps
   match j with
   | 0=>cases hl;cases hps;rfl
   | 1=>cases hl;cases hps;rfl
   | j+2=>simp at hl
  ·intro k x σ hx hI
   rw[CK,List.getElem?_map]at hx
   obtain⟨p,hp,rfl⟩:=Option.map_eq_some_iff.1 hx
   subst hI
   have e:Sr [(15,33)] (C8 [32,33] ((QC (p,Zf b.v p)).map .pv) (Z4 49 0 [(6,.ptr 0 0),(8,.ptr 1 0),(9,.ptr 2 0),(11,.ptr 3 0),(12,.ptr 4 0),(13,.ptr 5 0)]))=Z4 49 0 [(6,.ptr 0 0),(8,.ptr 1 0),(9,.ptr 2 0),(11,.ptr 3 0),(12,.ptr 4 0),(13,.ptr 5 0),(15,.pv (enc (Zf b.v p))),(32,.pv (enc p)),(33,.pv (enc (Zf b.v p)))]:=by kernel_rfl
   have:=a2i b fs l h5 h4 h0 k p hp
   rw[<- e]at this
   exact this
  ·intro σ hI
   rw[CK,List.length_map]at hI
   subst hI
   have hall:(ZB b fs l).take (Zv b fs).length=ZB b fs l:=List.take_of_length_le (by unfold ZB;rw[List.length_map];exact Nat.le_refl _)
   rw[hall]
   refine c8k (G:=Zi (YM lessB b fs l)) Dv b fs l _ _ ?_
   unfold YM Xp
   rw[if_pos h0]
   cases Vz lessB (ZB b fs l)with
   | none=>exact ZA rfl (ZC (x:=((0:Int),(9:Int))) rfl)
   | some z=>exact ZG (by simp) (ZC (x:=((z:Int),(0:Int))) rfl)
 have hbad:Zj b fs (Zh l) (Zd l)≠0->Zi (YM lessB b fs l) (.tup [.int .i64 0,.int .i64 (Zj b fs (Zh l) (Zd l))]):=by
  intro h0
  unfold YM
  rw[if_neg h0]
  exact ZC (x:=((0:Int),Zj b fs (Zh l) (Zd l))) rfl
 have ht:l.t=[]:=List.isEmpty_iff.1 h7
 have hn:Zd l=[]:=by unfold Zd;rw[ht];rfl
 refine d0k Dv b fs l ⟨Zk (l,()) rfl h5,Zg (l,()) rfl ⟨?_,Zk (b,fs,Zh l,⟨⟩,()) rfl (by simp[h1,h2,h3]),Zg (b,fs,Zh l,⟨⟩,()) rfl ?_⟩⟩
 ·show(WN Lin (enc l)&&(dec (enc l:PV):Lin).t.isEmpty)=true
  rw[ZR,Enc.dec_enc,ht];rfl
 ·show if (Zj b fs (Zh l) [] != 0)=true then _ else _
  rw[hn]at key hbad
  by_cases h0:Zj b fs (Zh l) []=0
  ·rw[if_neg (by simp[h0])]
   refine⟨?_,key h0⟩
   show(WN (List Str) (enc b.v)&&WN (List Fact) (enc fs))=true
   rw[ZR,ZR];rfl
  ·rw[if_pos (by simpa using h0)]
   exact hbad h0
def DL:YN:=fun n st q=>n=0∧H9 Qc 0 (.t 31) 177 [32,33] [(15,33)] Jo QC Qd De st q
theorem O3(b:BoxT)(fs:List Fact)(l:Lin)(hl:Z0 l=true)(hb:b.v.length<=1000)(hr:Zj b fs (Zh l) (Zd l)=0)(k:Nat)(p:List Int)(hp:(Zv b fs)[k]? = some p):
  ZF Qc (fun n S' _=>n=99∧S'.heap=E9 l (Xp lessB ((ZB b fs l).take (k+1))).1 (Xp lessB ((ZB b fs l).take (k+1))).2) 7 (fun st=>False) (.inl Jo) [.seq (.ext 99 [])]
   ⟨Z4 49 0 [(6,.ptr 0 0),(8,.ptr 1 0),(9,.ptr 2 0),(11,.ptr 3 0),(12,.ptr 4 0),(13,.ptr 5 0),(15,.pv (enc (Zf b.v p))),(32,.pv (enc p)),(33,.pv (enc (Zf b.v p)))],E9 l (Xp lessB ((ZB b fs l).take k)).1 (Xp lessB ((ZB b fs l).take k)).2⟩:=by
 have hk:=(List.getElem?_eq_some_iff.1 hp).1
 have hkp:=(List.getElem?_eq_some_iff.1 hp).2
 have hm:p∈Zv b fs:=List.mem_of_getElem? hp
 have hkv:k<(ZB b fs l).length:=by unfold ZB;rw[List.length_map];exact hk
 have hgv:(ZB b fs l)[k]=(ZZ l (Zf b.v p)).1:=by
  have:(ZB b fs l)[k]? = some (ZZ l (Zf b.v p)).1:=by unfold ZB;rw[List.getElem?_map,hp];rfl
  exact(List.getElem?_eq_some_iff.1 this).2
 have ht:(ZB b fs l).take (k+1)=(ZB b fs l).take k++[(ZZ l (Zf b.v p)).1]:=by rw[List.take_succ_eq_append_getElem hkv,hgv]
 rw[ht,GM]
 refine c4q (G:=fun _=>False) _ l p (Zf b.v p) _ _ ⟨Zk (l,Zf b.v p,()) rfl ?_,Zg (l,Zf b.v p,()) rfl ?_⟩
 ·show(Z0 l&&decide ((Zf b.v p).length<=9223372036854775807))=true
  rw[hl,decide_eq_true (by unfold Zf;rw[List.length_zipWith];omega)];rfl
 ·refine ZG (by rw[Ji hr hm];simp) ⟨rfl,rfl⟩
theorem b6w: ∀ x:BoxT×List Fact×Lin×FnV 128×Unit,(Yh x.1 x.2.1 x.2.2.1&& !x.2.2.1.t.isEmpty)=true->Jt Qc DL 0 (Za K4 (Zi (YM lessB x.1 x.2.1 x.2.2.1))) Jb [] (Yn c5r (encL x)):=by
 rintro⟨b,fs,l,⟨⟩,⟨⟩⟩ hp
 simp only[Yh,Bool.and_eq_true,decide_eq_true_eq]at hp
 obtain⟨⟨⟨⟨⟨⟨h1,h2⟩,h3⟩,h4⟩,h5⟩,h6⟩,h7⟩:=hp
 have key:Zj b fs (Zh l) (Zd l)=0->DL 0 ⟨Z4 49 0 [(6,(.ptr 0 0)),(8,(.ptr 1 0)),(9,(.ptr 2 0)),(11,(.ptr 3 0)),(12,(.ptr 4 0)),(13,(.ptr 5 0)),(15,.undef),(16,.undef),(17,.undef),(31,(.fn 177 [] [(.ptr 6 0),(.ptr 7 0)])),(33,.undef),(34,.undef),(35,.undef),(36,.undef),(37,.undef),(38,.undef),(39,.undef),(40,.undef),(41,.undef),(42,.undef),(43,.undef),(44,.undef)],[(.obj (.box [(.pv (.int .i64 (Lin.k l))),(.pv (.sl 2 false (List.map enc (Lin.t l))))])),(.obj (.box [(.pv (.int .i64 0))])),(.obj (.box [(.pv (.int .i64 0))])),(.obj (.box [(.pv (.int .i64 0))])),(.obj (.box [(.pv (.bool false))])),(.obj (.box [(.fn 194 [] [(.ptr 4 0),(.ptr 8 0),(.ptr 3 0)])])),(.obj (.box [(.pv (.sl 1 false (List.map enc (BoxT.v b)))),(.pv (.int .i64 (BoxT.m b)))])),(.obj (.box [(.pv (.sl 3 false (List.map enc fs)))])),(.obj (.box [(.pv (.fn 128))]))]⟩ (fun x S'=>KZ Qc DL 0 (Za K4 (Zi (YM lessB b fs l))) Jb 0 x S'):=by
  intro h0
  obtain⟨hv,_⟩:=Xh _ _ _ _ h0
  refine⟨rfl,[6,7],[[enc b.v,.int .i64 b.m],[enc fs]],[6,8,9,11,12,13],[],⟨Z4 49 0 [(6,.ptr 0 0),(8,.ptr 1 0),(9,.ptr 2 0),(11,.ptr 3 0),(12,.ptr 4 0),(13,.ptr 5 0)],E9 l 0 false⟩,(fun k σ=>σ=E9 l (Xp lessB ((ZB b fs l).take k)).1 (Xp lessB ((ZB b fs l).take k)).2),fun _=>False,rfl,by simp,rfl,?_,by kernel_rfl,DU hv h2 h4,rfl,?_,?_,fun σ h=>h.elim⟩
  ·intro j l' ps hl hps
   match j with
   | 0=>cases hl;cases hps;rfl
   | 1=>cases hl;cases hps;rfl
   | j+2=>simp at hl
  ·intro k x σ hx hI
   rw[CK,List.getElem?_map]at hx
   obtain⟨p,hp,rfl⟩:=Option.map_eq_some_iff.1 hx
   subst hI
   have e:Sr [(15,33)] (C8 [32,33] ((QC (p,Zf b.v p)).map .pv) (Z4 49 0 [(6,.ptr 0 0),(8,.ptr 1 0),(9,.ptr 2 0),(11,.ptr 3 0),(12,.ptr 4 0),(13,.ptr 5 0)]))=Z4 49 0 [(6,.ptr 0 0),(8,.ptr 1 0),(9,.ptr 2 0),(11,.ptr 3 0),(12,.ptr 4 0),(13,.ptr 5 0),(15,.pv (enc (Zf b.v p))),(32,.pv (enc p)),(33,.pv (enc (Zf b.v p)))]:=by kernel_rfl
   have:=O3 b fs l h5 h4 h0 k p hp
   rw[<- e]at this
   exact this
  ·intro σ hI
   rw[CK,List.length_map]at hI
   subst hI
   have hall:(ZB b fs l).take (Zv b fs).length=ZB b fs l:=List.take_of_length_le (by unfold ZB;rw[List.length_map];exact Nat.le_refl _)
   rw[hall]
   refine b7w (G:=Zi (YM lessB b fs l)) DL b fs l _ _ ?_
   unfold YM Xp
   rw[if_pos h0]
   cases Vz lessB (ZB b fs l)with
   | none=>exact ZA rfl (ZC (x:=((0:Int),(9:Int))) rfl)
   | some z=>exact ZG (by simp) (ZC (x:=((z:Int),(0:Int))) rfl)
 have hbad:Zj b fs (Zh l) (Zd l)≠0->Zi (YM lessB b fs l) (.tup [.int .i64 0,.int .i64 (Zj b fs (Zh l) (Zd l))]):=by
  intro h0
  unfold YM
  rw[if_neg h0]
  exact ZC (x:=((0:Int),Zj b fs (Zh l) (Zd l))) rfl
 have hne:l.t≠[]:=by intro h;rw[h]at h7;simp at h7
 refine c9e DL b fs l ⟨Zk (l,()) rfl h5,Zg (l,()) rfl ⟨?_,?_⟩⟩
 ·show(WN Lin (enc l)&& !(dec (enc l:PV):Lin).t.isEmpty&&decide ((dec (enc l:PV):Lin).t.length<=1000000))=true
  rw[ZR,Enc.dec_enc,decide_eq_true (by omega)]
  simpa using hne
 ·rw[c5n,Fe,Rk,Qr]
  have hnl:(Zd l).length=l.t.length:=by unfold Zd;rw[List.length_map]
  refine⟨?_,?_⟩
  ·show(WN BoxT (enc b)&&WN (List Fact) (enc fs)&&9==9&&Px (Zd l).length (Zd l).length ((Zd l).map enc)&&decide ((Zd l).length<=1000)&& !((Zd l).map (enc:Str->PV)).isEmpty&&ZJ (dec (enc b:PV))&&Zl (dec (enc fs:PV))&&decide ((dec (enc fs:PV):List Fact).length<=100)&&decide (((Zd l).map (enc:Str->PV)).length<=1000))=true
   rw[List.length_map,ZR,ZR,Enc.dec_enc,Enc.dec_enc,Bd rfl (by omega),h1,h2,decide_eq_true h3,decide_eq_true (show(Zd l).length<=1000 by omega)]
   have:((Zd l).map (enc:Str->PV)).isEmpty=false:=by
    rw[List.isEmpty_eq_false_iff]
    intro h
    have:=congrArg List.length h
    rw[List.length_map,hnl]at this
    exact hne (List.length_eq_zero_iff.1 this)
   rw[this];simp
  ·show if (Zj b fs (Zh l) (Zd l) != 0)=true then _ else _
   by_cases h0:Zj b fs (Zh l) (Zd l)=0
   ·rw[if_neg (by simp[h0])]
    refine⟨?_,key h0⟩
    show(WN (List Str) (enc b.v)&&WN (List Fact) (enc fs))=true
    rw[ZR,ZR];rfl
   ·rw[if_pos (by simpa using h0)]
    exact hbad h0
theorem c6p: ∀ x:BoxT×List Fact×Lin×Unit,Yh x.1 x.2.1 x.2.2.1=true->Ze a7v 0 (Za LG (Zi (YM lessB x.1 x.2.1 x.2.2.1))) LY [] (Yn d1q (encL x)):=by
 rintro⟨b,fs,l,⟨⟩⟩ hp
 exact d8f b fs l ⟨Zk (b,fs,l,⟨()⟩,()) rfl hp,Zg (b,fs,l,⟨()⟩,()) rfl (ZC (x:=YM lessB b fs l) rfl)⟩
def EC(l:Lin)(z:Int)(s:Bool):ZE:=[.obj (.box [.pv (.int .i64 l.k),.pv (enc l.t)]),.obj (.box [.pv (.int .i64 0)]),.obj (.box [.pv (.int .i64 0)]),.obj (.box [.pv (.int .i64 z)]),.obj (.box [.pv (.bool s)]),.obj (.box [.fn 194 [] [.ptr 4 0,.ptr 6 0,.ptr 3 0]]),.obj (.box [.pv (.fn 133)])]
theorem c4r: ∀ args os,WK 133 args os=true->Ze a5i os.length (Zq os.length FN fun r=>r=VR moreB args os) LJ [] (Y5 c8x args os):=by
 intro args os h
 unfold WK at h
 split at h
 ·rename_i n s g z
  have h:g=133:=by simpa using h
  subst h
  refine d6c n s z (Xt (fun h=> ?_) fun h=>Zg (n,z,()) rfl (WP (fun h2=> ?_) fun h2=> ?_))
  ·subst h;rfl
  ·subst h
   have h2:moreB n z=true:=h2
   show _=(AV.tup [],[AObj.box [.pv (.bool true)],.box [.pv (.fn 133)],.box [.pv (.int .i64 (if !true||moreB n z then n else z))]],[])
   rw[h2];rfl
  ·subst h
   have h2:moreB n z=false:=h2
   show _=(AV.tup [],[AObj.box [.pv (.bool true)],.box [.pv (.fn 133)],.box [.pv (.int .i64 (if !true||moreB n z then n else z))]],[])
   rw[h2];rfl
 ·cases h
def Cf:YN:=fun n st q=>n=0∧H9 U9 0 (.t 31) 177 [32,33] [(15,33)] KV QC Qd De st q
theorem Eb(b:BoxT)(fs:List Fact)(l:Lin)(hl:Z0 l=true)(hb:b.v.length<=1000)(hr:Zj b fs (Zh l) (Zd l)=0)(k:Nat)(p:List Int)(hp:(Zv b fs)[k]? = some p):
  ZF U9 (fun n S' _=>n=99∧S'.heap=EC l (Xp moreB ((ZB b fs l).take (k+1))).1 (Xp moreB ((ZB b fs l).take (k+1))).2) 7 (fun st=>False) (.inl KV) [.seq (.ext 99 [])]
   ⟨Z4 49 0 [(6,.ptr 0 0),(8,.ptr 1 0),(9,.ptr 2 0),(11,.ptr 3 0),(12,.ptr 4 0),(13,.ptr 5 0),(15,.pv (enc (Zf b.v p))),(32,.pv (enc p)),(33,.pv (enc (Zf b.v p)))],EC l (Xp moreB ((ZB b fs l).take k)).1 (Xp moreB ((ZB b fs l).take k)).2⟩:=by
 have hk:=(List.getElem?_eq_some_iff.1 hp).1
 have hkp:=(List.getElem?_eq_some_iff.1 hp).2
 have hm:p∈Zv b fs:=List.mem_of_getElem? hp
 have hkv:k<(ZB b fs l).length:=by unfold ZB;rw[List.length_map];exact hk
 have hgv:(ZB b fs l)[k]=(ZZ l (Zf b.v p)).1:=by
  have:(ZB b fs l)[k]? = some (ZZ l (Zf b.v p)).1:=by unfold ZB;rw[List.getElem?_map,hp];rfl
  exact(List.getElem?_eq_some_iff.1 this).2
 have ht:(ZB b fs l).take (k+1)=(ZB b fs l).take k++[(ZZ l (Zf b.v p)).1]:=by rw[List.take_succ_eq_append_getElem hkv,hgv]
 rw[ht,GM]
 refine c1k (G:=fun _=>False) _ l p (Zf b.v p) _ _ ⟨Zk (l,Zf b.v p,()) rfl ?_,Zg (l,Zf b.v p,()) rfl ?_⟩
 ·show(Z0 l&&decide ((Zf b.v p).length<=9223372036854775807))=true
  rw[hl,decide_eq_true (by unfold Zf;rw[List.length_zipWith];omega)];rfl
 ·refine ZG (by rw[Ji hr hm];simp) ⟨rfl,rfl⟩
theorem b5s: ∀ x:BoxT×List Fact×Lin×FnV 133×Unit,(Yh x.1 x.2.1 x.2.2.1&&x.2.2.1.t.isEmpty)=true->Jt U9 Cf 0 (Za Jw (Zi (YM moreB x.1 x.2.1 x.2.2.1))) Jg [] (Yn c0x (encL x)):=by
 rintro⟨b,fs,l,⟨⟩,⟨⟩⟩ hp
 simp only[Yh,Bool.and_eq_true,decide_eq_true_eq]at hp
 obtain⟨⟨⟨⟨⟨⟨h1,h2⟩,h3⟩,h4⟩,h5⟩,h6⟩,h7⟩:=hp
 have key:Zj b fs (Zh l) (Zd l)=0->Cf 0 ⟨Z4 49 0 [(6,(.ptr 0 0)),(8,(.ptr 1 0)),(9,(.ptr 2 0)),(11,(.ptr 3 0)),(12,(.ptr 4 0)),(13,(.ptr 5 0)),(15,.undef),(16,.undef),(17,.undef),(31,(.fn 177 [] [(.ptr 6 0),(.ptr 7 0)])),(33,.undef),(34,.undef),(35,.undef),(36,.undef),(37,.undef),(38,.undef),(39,.undef),(40,.undef),(41,.undef),(42,.undef),(43,.undef),(44,.undef)],[(.obj (.box [(.pv (.int .i64 (Lin.k l))),(.pv (.sl 2 false (List.map enc (Lin.t l))))])),(.obj (.box [(.pv (.int .i64 0))])),(.obj (.box [(.pv (.int .i64 0))])),(.obj (.box [(.pv (.int .i64 0))])),(.obj (.box [(.pv (.bool false))])),(.obj (.box [(.fn 194 [] [(.ptr 4 0),(.ptr 8 0),(.ptr 3 0)])])),(.obj (.box [(.pv (.sl 1 false (List.map enc (BoxT.v b)))),(.pv (.int .i64 (BoxT.m b)))])),(.obj (.box [(.pv (.sl 3 false (List.map enc fs)))])),(.obj (.box [(.pv (.fn 133))]))]⟩ (fun x S'=>KZ U9 Cf 0 (Za Jw (Zi (YM moreB b fs l))) Jg 0 x S'):=by
  intro h0
  obtain⟨hv,_⟩:=Xh _ _ _ _ h0
  refine⟨rfl,[6,7],[[enc b.v,.int .i64 b.m],[enc fs]],[6,8,9,11,12,13],[],⟨Z4 49 0 [(6,.ptr 0 0),(8,.ptr 1 0),(9,.ptr 2 0),(11,.ptr 3 0),(12,.ptr 4 0),(13,.ptr 5 0)],EC l 0 false⟩,(fun k σ=>σ=EC l (Xp moreB ((ZB b fs l).take k)).1 (Xp moreB ((ZB b fs l).take k)).2),fun _=>False,rfl,by simp,rfl,?_,by kernel_rfl,DU hv h2 h4,rfl,?_,?_,fun σ h=>h.elim⟩
  ·intro j l' ps hl hps
   match j with
   | 0=>cases hl;cases hps;rfl
   | 1=>cases hl;cases hps;rfl
   | j+2=>simp at hl
  ·intro k x σ hx hI
   rw[CK,List.getElem?_map]at hx
   obtain⟨p,hp,rfl⟩:=Option.map_eq_some_iff.1 hx
   subst hI
   have e:Sr [(15,33)] (C8 [32,33] ((QC (p,Zf b.v p)).map .pv) (Z4 49 0 [(6,.ptr 0 0),(8,.ptr 1 0),(9,.ptr 2 0),(11,.ptr 3 0),(12,.ptr 4 0),(13,.ptr 5 0)]))=Z4 49 0 [(6,.ptr 0 0),(8,.ptr 1 0),(9,.ptr 2 0),(11,.ptr 3 0),(12,.ptr 4 0),(13,.ptr 5 0),(15,.pv (enc (Zf b.v p))),(32,.pv (enc p)),(33,.pv (enc (Zf b.v p)))]:=by kernel_rfl
   have:=Eb b fs l h5 h4 h0 k p hp
   rw[<- e]at this
   exact this
  ·intro σ hI
   rw[CK,List.length_map]at hI
   subst hI
   have hall:(ZB b fs l).take (Zv b fs).length=ZB b fs l:=List.take_of_length_le (by unfold ZB;rw[List.length_map];exact Nat.le_refl _)
   rw[hall]
   refine c7v (G:=Zi (YM moreB b fs l)) Cf b fs l _ _ ?_
   unfold YM Xp
   rw[if_pos h0]
   cases Vz moreB (ZB b fs l)with
   | none=>exact ZA rfl (ZC (x:=((0:Int),(9:Int))) rfl)
   | some z=>exact ZG (by simp) (ZC (x:=((z:Int),(0:Int))) rfl)
 have hbad:Zj b fs (Zh l) (Zd l)≠0->Zi (YM moreB b fs l) (.tup [.int .i64 0,.int .i64 (Zj b fs (Zh l) (Zd l))]):=by
  intro h0
  unfold YM
  rw[if_neg h0]
  exact ZC (x:=((0:Int),Zj b fs (Zh l) (Zd l))) rfl
 have ht:l.t=[]:=List.isEmpty_iff.1 h7
 have hn:Zd l=[]:=by unfold Zd;rw[ht];rfl
 refine d0f Cf b fs l ⟨Zk (l,()) rfl h5,Zg (l,()) rfl ⟨?_,Zk (b,fs,Zh l,⟨⟩,()) rfl (by simp[h1,h2,h3]),Zg (b,fs,Zh l,⟨⟩,()) rfl ?_⟩⟩
 ·show(WN Lin (enc l)&&(dec (enc l:PV):Lin).t.isEmpty)=true
  rw[ZR,Enc.dec_enc,ht];rfl
 ·show if (Zj b fs (Zh l) [] != 0)=true then _ else _
  rw[hn]at key hbad
  by_cases h0:Zj b fs (Zh l) []=0
  ·rw[if_neg (by simp[h0])]
   refine⟨?_,key h0⟩
   show(WN (List Str) (enc b.v)&&WN (List Fact) (enc fs))=true
   rw[ZR,ZR];rfl
  ·rw[if_pos (by simpa using h0)]
   exact hbad h0
def D7:YN:=fun n st q=>n=0∧H9 U8 0 (.t 31) 177 [32,33] [(15,33)] K6 QC Qd De st q
theorem ED(b:BoxT)(fs:List Fact)(l:Lin)(hl:Z0 l=true)(hb:b.v.length<=1000)(hr:Zj b fs (Zh l) (Zd l)=0)(k:Nat)(p:List Int)(hp:(Zv b fs)[k]? = some p):
  ZF U8 (fun n S' _=>n=99∧S'.heap=EC l (Xp moreB ((ZB b fs l).take (k+1))).1 (Xp moreB ((ZB b fs l).take (k+1))).2) 7 (fun st=>False) (.inl K6) [.seq (.ext 99 [])]
   ⟨Z4 49 0 [(6,.ptr 0 0),(8,.ptr 1 0),(9,.ptr 2 0),(11,.ptr 3 0),(12,.ptr 4 0),(13,.ptr 5 0),(15,.pv (enc (Zf b.v p))),(32,.pv (enc p)),(33,.pv (enc (Zf b.v p)))],EC l (Xp moreB ((ZB b fs l).take k)).1 (Xp moreB ((ZB b fs l).take k)).2⟩:=by
 have hk:=(List.getElem?_eq_some_iff.1 hp).1
 have hkp:=(List.getElem?_eq_some_iff.1 hp).2
 have hm:p∈Zv b fs:=List.mem_of_getElem? hp
 have hkv:k<(ZB b fs l).length:=by unfold ZB;rw[List.length_map];exact hk
 have hgv:(ZB b fs l)[k]=(ZZ l (Zf b.v p)).1:=by
  have:(ZB b fs l)[k]? = some (ZZ l (Zf b.v p)).1:=by unfold ZB;rw[List.getElem?_map,hp];rfl
  exact(List.getElem?_eq_some_iff.1 this).2
 have ht:(ZB b fs l).take (k+1)=(ZB b fs l).take k++[(ZZ l (Zf b.v p)).1]:=by rw[List.take_succ_eq_append_getElem hkv,hgv]
 rw[ht,GM]
 refine c5l (G:=fun _=>False) _ l p (Zf b.v p) _ _ ⟨Zk (l,Zf b.v p,()) rfl ?_,Zg (l,Zf b.v p,()) rfl ?_⟩
 ·show(Z0 l&&decide ((Zf b.v p).length<=9223372036854775807))=true
  rw[hl,decide_eq_true (by unfold Zf;rw[List.length_zipWith];omega)];rfl
 ·refine ZG (by rw[Ji hr hm];simp) ⟨rfl,rfl⟩
theorem b7b: ∀ x:BoxT×List Fact×Lin×FnV 133×Unit,(Yh x.1 x.2.1 x.2.2.1&& !x.2.2.1.t.isEmpty)=true->Jt U8 D7 0 (Za KX (Zi (YM moreB x.1 x.2.1 x.2.2.1))) KU [] (Yn c4n (encL x)):=by
 rintro⟨b,fs,l,⟨⟩,⟨⟩⟩ hp
 simp only[Yh,Bool.and_eq_true,decide_eq_true_eq]at hp
 obtain⟨⟨⟨⟨⟨⟨h1,h2⟩,h3⟩,h4⟩,h5⟩,h6⟩,h7⟩:=hp
 have key:Zj b fs (Zh l) (Zd l)=0->D7 0 ⟨Z4 49 0 [(6,(.ptr 0 0)),(8,(.ptr 1 0)),(9,(.ptr 2 0)),(11,(.ptr 3 0)),(12,(.ptr 4 0)),(13,(.ptr 5 0)),(15,.undef),(16,.undef),(17,.undef),(31,(.fn 177 [] [(.ptr 6 0),(.ptr 7 0)])),(33,.undef),(34,.undef),(35,.undef),(36,.undef),(37,.undef),(38,.undef),(39,.undef),(40,.undef),(41,.undef),(42,.undef),(43,.undef),(44,.undef)],[(.obj (.box [(.pv (.int .i64 (Lin.k l))),(.pv (.sl 2 false (List.map enc (Lin.t l))))])),(.obj (.box [(.pv (.int .i64 0))])),(.obj (.box [(.pv (.int .i64 0))])),(.obj (.box [(.pv (.int .i64 0))])),(.obj (.box [(.pv (.bool false))])),(.obj (.box [(.fn 194 [] [(.ptr 4 0),(.ptr 8 0),(.ptr 3 0)])])),(.obj (.box [(.pv (.sl 1 false (List.map enc (BoxT.v b)))),(.pv (.int .i64 (BoxT.m b)))])),(.obj (.box [(.pv (.sl 3 false (List.map enc fs)))])),(.obj (.box [(.pv (.fn 133))]))]⟩ (fun x S'=>KZ U8 D7 0 (Za KX (Zi (YM moreB b fs l))) KU 0 x S'):=by
  intro h0
  obtain⟨hv,_⟩:=Xh _ _ _ _ h0
  refine⟨rfl,[6,7],[[enc b.v,.int .i64 b.m],[enc fs]],[6,8,9,11,12,13],[],⟨Z4 49 0 [(6,.ptr 0 0),(8,.ptr 1 0),(9,.ptr 2 0),(11,.ptr 3 0),(12,.ptr 4 0),(13,.ptr 5 0)],EC l 0 false⟩,(fun k σ=>σ=EC l (Xp moreB ((ZB b fs l).take k)).1 (Xp moreB ((ZB b fs l).take k)).2),fun _=>False,rfl,by simp,rfl,?_,by kernel_rfl,DU hv h2 h4,rfl,?_,?_,fun σ h=>h.elim⟩
  ·intro j l' ps hl hps
   match j with
   | 0=>cases hl;cases hps;rfl
   | 1=>cases hl;cases hps;rfl
   | j+2=>simp at hl
  ·intro k x σ hx hI
   rw[CK,List.getElem?_map]at hx
   obtain⟨p,hp,rfl⟩:=Option.map_eq_some_iff.1 hx
   subst hI
   have e:Sr [(15,33)] (C8 [32,33] ((QC (p,Zf b.v p)).map .pv) (Z4 49 0 [(6,.ptr 0 0),(8,.ptr 1 0),(9,.ptr 2 0),(11,.ptr 3 0),(12,.ptr 4 0),(13,.ptr 5 0)]))=Z4 49 0 [(6,.ptr 0 0),(8,.ptr 1 0),(9,.ptr 2 0),(11,.ptr 3 0),(12,.ptr 4 0),(13,.ptr 5 0),(15,.pv (enc (Zf b.v p))),(32,.pv (enc p)),(33,.pv (enc (Zf b.v p)))]:=by kernel_rfl
   have:=ED b fs l h5 h4 h0 k p hp
   rw[<- e]at this
   exact this
  ·intro σ hI
   rw[CK,List.length_map]at hI
   subst hI
   have hall:(ZB b fs l).take (Zv b fs).length=ZB b fs l:=List.take_of_length_le (by unfold ZB;rw[List.length_map];exact Nat.le_refl _)
   rw[hall]
   refine b7x (G:=Zi (YM moreB b fs l)) D7 b fs l _ _ ?_
   unfold YM Xp
   rw[if_pos h0]
   cases Vz moreB (ZB b fs l)with
   | none=>exact ZA rfl (ZC (x:=((0:Int),(9:Int))) rfl)
   | some z=>exact ZG (by simp) (ZC (x:=((z:Int),(0:Int))) rfl)
 have hbad:Zj b fs (Zh l) (Zd l)≠0->Zi (YM moreB b fs l) (.tup [.int .i64 0,.int .i64 (Zj b fs (Zh l) (Zd l))]):=by
  intro h0
  unfold YM
  rw[if_neg h0]
  exact ZC (x:=((0:Int),Zj b fs (Zh l) (Zd l))) rfl
 have hne:l.t≠[]:=by intro h;rw[h]at h7;simp at h7
 refine d3e D7 b fs l ⟨Zk (l,()) rfl h5,Zg (l,()) rfl ⟨?_,?_⟩⟩
 ·show(WN Lin (enc l)&& !(dec (enc l:PV):Lin).t.isEmpty&&decide ((dec (enc l:PV):Lin).t.length<=1000000))=true
  rw[ZR,Enc.dec_enc,decide_eq_true (by omega)]
  simpa using hne
 ·rw[c5n,Fe,Rk,Qr]
  have hnl:(Zd l).length=l.t.length:=by unfold Zd;rw[List.length_map]
  refine⟨?_,?_⟩
  ·show(WN BoxT (enc b)&&WN (List Fact) (enc fs)&&9==9&&Px (Zd l).length (Zd l).length ((Zd l).map enc)&&decide ((Zd l).length<=1000)&& !((Zd l).map (enc:Str->PV)).isEmpty&&ZJ (dec (enc b:PV))&&Zl (dec (enc fs:PV))&&decide ((dec (enc fs:PV):List Fact).length<=100)&&decide (((Zd l).map (enc:Str->PV)).length<=1000))=true
   rw[List.length_map,ZR,ZR,Enc.dec_enc,Enc.dec_enc,Bd rfl (by omega),h1,h2,decide_eq_true h3,decide_eq_true (show(Zd l).length<=1000 by omega)]
   have:((Zd l).map (enc:Str->PV)).isEmpty=false:=by
    rw[List.isEmpty_eq_false_iff]
    intro h
    have:=congrArg List.length h
    rw[List.length_map,hnl]at this
    exact hne (List.length_eq_zero_iff.1 this)
   rw[this];simp
  ·show if (Zj b fs (Zh l) (Zd l) != 0)=true then _ else _
   by_cases h0:Zj b fs (Zh l) (Zd l)=0
   ·rw[if_neg (by simp[h0])]
    refine⟨?_,key h0⟩
    show(WN (List Str) (enc b.v)&&WN (List Fact) (enc fs))=true
    rw[ZR,ZR];rfl
   ·rw[if_pos (by simpa using h0)]
    exact hbad h0
theorem c5u: ∀ x:BoxT×List Fact×Lin×Unit,Yh x.1 x.2.1 x.2.2.1=true->Ze a5l 0 (Za L8 (Zi (YM moreB x.1 x.2.1 x.2.2.1))) LP [] (Yn d4a (encL x)):=by
 rintro⟨b,fs,l,⟨⟩⟩ hp
 exact d9f b fs l ⟨Zk (b,fs,l,⟨()⟩,()) rfl hp,Zg (b,fs,l,⟨()⟩,()) rfl (ZC (x:=YM moreB b fs l) rfl)⟩
theorem d1j: ∀ x:Int×Int×Unit,(fun _:Int×Int×Unit=>true) x=true->Ze c2e 0 (Za a4v (Zi (decide (x.1<x.2.1)))) a3p [] (Yn d6n (encL x)):=by
 rintro⟨m,n,⟨⟩⟩ _
 exact e1c m n (ZW rfl)
theorem d4m: ∀ x:Int×Int×Unit,(fun _:Int×Int×Unit=>true) x=true->Ze c7h 0 (Za a6z (Zi (decide (x.1>x.2.1)))) a6i [] (Yn d9d (encL x)):=by
 rintro⟨m,n,⟨⟩⟩ _
 exact e0r m n (ZW rfl)
end Go.Pl
namespace Go.Pl
open Go.RowKit
open Enc (enc dec is)
open EncL (encL decL isL)
set_option maxRecDepth 100000
noncomputable def Fp:IC:=Wn Proofs.Tryz.f185
def FL:List IRes:=[(.tmp 2)]
abbrev d2p:Nat:=6
def a4m:ZU:=Xe [(119,.pure (preT (fun x:Str×Unit=>decide (x.1.s.length<=281474976710656))) (Zw (fun x:Str×Unit=>ZH x.1)))]
theorem d9e{G:PV->Prop}(s:List UInt8)(h:(Go.Pl.preT (fun(x:Str×Unit)=>decide (List.length (Str.s x.1)<=281474976710656)) [(.str s)])=true∧(Yk (fun(x:Str×Unit)=>ZH x.1) [(.str s)] fun y0:Bool=>G ((.bool !y0)))):Ze a4m 0 (Za FL G) Fp [] (Yn 6 [.str s]):=Ze.tp (.req (Yj (Bool) (.nil))) h (by kernel_rfl)
noncomputable def Dy:IC:=Q4
def DZ:List IRes:=[(.tmp 4)]
abbrev d5m:Nat:=19
def Pb:ZU:=Xe [(185,.pure (preT (fun x:Str×Unit=>decide (x.1.s.length<=281474976710656))) (Zw (fun x:Str×Unit=> !(ZH x.1))))]
theorem e0q{G:PV->Prop}(l:List Str)(h:At Pb 0 (Za DZ G) Dy 0 19 [(0,(Y3 l)),(1,(.pv (.fn 185))),(7,(Zc (↑(List.length (List.map enc l)):Int))),(8,(Zc 0))] []):Ze Pb 0 (Za DZ G) Dy [] (Yn 19 [enc l,.fn 185]):=Ze.tp (.nil) h (by kernel_rfl)
theorem c7g{G:PV->Prop}(l:List Str)(i:Int)(h:if (decide (i<(↑(List.length l):Int)))=true then Vt l i 1∧(Xc l i fun y0:Str=>(Go.Pl.preT (fun(x:Str×Unit)=>decide (List.length (Str.s x.1)<=281474976710656)) [(.str (PV.asStr (Yp y0)))])=true∧(Yk (fun(x:Str×Unit)=> !ZH x.1) [(.str (PV.asStr (Yp y0)))] fun y1:Bool=>if (y1)=true then G ((.int .i64 i))else(At Pb 0 (Za DZ G) Dy 0 19 [(0,(Y3 l)),(1,(.pv (.fn 185))),(7,(Zc (↑(List.length l):Int))),(8,(Zc (IntKind.wrap IntKind.i64 (i+1))))] [])))else(G ((.int .i64 (-1))))):At Pb 0 (Za DZ G) Dy 0 19 [(0,.pv (enc l)),(1,.pv (.fn 185)),(7,.pv (.int .i64 l.length)),(8,.pv (.int .i64 i))] []:=At.tp (.lit (.ask (.req (Xa (Str) (.lit (.req (Yj (Bool) (.ask (.nil) (.lit (.nil)))))))) (.nil))) h (by kernel_rfl)
noncomputable def a6r:IC:=RN
def a5j:List IRes:=[(.tmp 4)]
abbrev e0a:Nat:=9
def b9x:ZU:=Xe [(238,.pure (preT (fun x:List Str×FnV 185×Unit=>XW x.1)) (Zw (fun x:List Str×FnV 185×Unit=>ZL (fun s:Str=> !(ZH s)) x.1)))]
theorem e0f{G:PV->Prop}(l:List Str)(h:(Go.Pl.preT (fun(x:List Str×FnV 185×Unit)=>XW x.1) [(.sl 1 false (List.map enc l)),(.fn 185)])=true∧(Yk (fun(x:List Str×FnV 185×Unit)=>ZL (fun(s:Str)=> !ZH s) x.1) [(.sl 1 false (List.map enc l)),(.fn 185)] fun y0:Int=>G ((.bool (decide (y0 ≥ 0)))))):Ze b9x 0 (Za a5j G) a6r [] (Yn 9 [enc l,.fn 185]):=Ze.tp (.req (Yj (Int) (.lit (.nil)))) h (by kernel_rfl)
noncomputable def Lv:IC:=Wn Proofs.Tryz.f283
def Fv:List IRes:=[(.tmp 2)]
abbrev d3x:Nat:=6
def a3b:ZU:=Xe []
theorem d6a{G:PV->Prop}(s:List UInt8)(h:G ((.bool (!s==s)))):Ze a3b 0 (Za Fv G) Lv [] (Yn 6 [.str s]):=Ze.tp (.lit (.nil)) h (by kernel_rfl)
noncomputable def Ri:IC:=Wn Proofs.Tryz.f244
def RF:List IRes:=[(.tmp 4)]
abbrev c7y:Nat:=17
def FQ:ZU:=Xe [(283,.pure (preT (fun _:Str×Unit=>true)) (Zw (fun _:Str×Unit=>false)))]
theorem c9u{G:PV->Prop}(s t:List UInt8)(h:Yk (fun(x:Str×Unit)=>false) [(.str s)] fun y0:Bool=>if (y0)=true then Yk (fun(x:Str×Unit)=>false) [(.str t)] fun y1:Bool=>if (!y1)=true then G ((.bool true))else(G ((.bool (Op.bytesLess s t))))else(G ((.bool (Op.bytesLess s t))))):Ze FQ 0 (Za RF G) Ri [] (Yn 17 [.str s,.str t]):=Ze.tp (.lit (Yj (Bool) (.ask (ZK 2 (Yj (Bool) (ZK 2 (.ask (Yo 3) (Yo 4))))) (Yo 8)))) h (by kernel_rfl)
noncomputable def Oj:IC:=Wn Proofs.Tryz.f245
def Oe:List IRes:=[(.tmp 4)]
abbrev d3k:Nat:=20
def a4a:ZU:=Xe [(283,.pure (preT (fun _:Str×Unit=>true)) (Zw (fun _:Str×Unit=>false)))]
theorem d6l{G:PV->Prop}(s t:List UInt8)(h:Yk (fun(x:Str×Unit)=>false) [(.str s)] fun y0:Bool=>Yk (fun(x:Str×Unit)=>false) [(.str t)] fun y1:Bool=>if (y0)=true then if (y1)=true then G ((.int .i64 0))else(G ((.int .i64 (-1))))else(if (y1)=true then G ((.int .i64 1))else(if (Op.bytesLess s t)=true then G ((.int .i64 (-1)))else(if (!(Op.bytesLess s t||s==t))=true then G ((.int .i64 1))else(G ((.int .i64 0))))))):Ze a4a 0 (Za Oe G) Oj [] (Yn 20 [.str s,.str t]):=Ze.tp (.lit (Yj (Bool) (.lit (Yj (Bool) (.ask (.ask (.nil) (.nil)) (.ask (.nil) (.lit (.ask (.nil) (.lit (.ask (.nil) (.nil))))))))))) h (by kernel_rfl)
noncomputable def VV:IC:=Wn Proofs.Tryz.f184
def V3:List IRes:=[(.tmp 2)]
abbrev a4w:Nat:=21
def UY:ZU:=Xe [(244,.pure (preT (fun _:Str×Str×Unit=>true)) (Zw (fun x:Str×Str×Unit=>decide (x.1.s<x.2.1.s))))]
theorem b5m{G:PV->Prop}(l:List Str)(h:At UY 0 (Za V3 G) VV 0 21 [(0,(Y3 l)),(3,(Zc (IntKind.wrap IntKind.i64 ((↑(List.length (List.map enc l)):Int) - 1))))] []):Ze UY 0 (Za V3 G) VV [] (Yn 21 [enc l]):=Ze.tp (.lit (.nil)) h (by kernel_rfl)
theorem Cj{G:PV->Prop}(l:List Str)(i:Int)(h:if (decide (i>0))=true then Vt l i 1∧(Xc l i fun y0:Str=>(decide (0<=IntKind.wrap IntKind.i64 (i - 1))&&decide (Int.toNat (IntKind.wrap IntKind.i64 (i - 1))<List.length (List.map enc l))&&Enc.sz Str==1)=true∧(Xc l (IntKind.wrap IntKind.i64 (i - 1)) fun y1:Str=>Yk (fun(x:Str×Str×Unit)=>decide (Str.s x.1<Str.s x.2.1)) [(.str (PV.asStr (Yp y0))),(.str (PV.asStr (Yp y1)))] fun y2:Bool=>if (y2)=true then G ((.bool false))else(At UY 0 (Za V3 G) VV 0 21 [(0,(Y3 l)),(3,(Zc (IntKind.wrap IntKind.i64 (i - 1))))] [])))else(G ((.bool true)))):At UY 0 (Za V3 G) VV 0 21 [(0,.pv (enc l)),(3,.pv (.int .i64 i))] []:=At.tp (.lit (.ask (.req (Xa (Str) (ZK 2 (.req (Xa (Str) (ZK 2 (Yj (Bool) (.ask (.nil) (.lit (.nil)))))))))) (.nil))) h (by kernel_rfl)
noncomputable def UQ:IC:=Wn Proofs.Tryz.f186
def UZ:List IRes:=[(.tmp 4)]
abbrev b4h:Nat:=36
def Kb:ZU:=Xe [(245,.pure (preT (fun _:Str×Str×Unit=>true)) (Zw (fun x:Str×Str×Unit=>Nc x.1 x.2.1)))]
theorem c6a{G:PV->Prop}(a b:List Str)(h:At Kb 0 (Za UZ G) UQ 0 36 [(0,(Y3 a)),(1,(Y3 b)),(9,(Y3 a)),(10,(Zc (↑(List.length (List.map enc a)):Int))),(11,(Zc 0))] []):Ze Kb 0 (Za UZ G) UQ [] (Yn 36 [enc a,enc b]):=Ze.tp (.nil) h (by kernel_rfl)
theorem Mv{G:PV->Prop}(a b:List Str)(i:Int)(h:if (decide (i<(↑(List.length a):Int)))=true then Vt a i 1∧(Xc a i fun y0:Str=>if (decide (i ≥ (↑(List.length (List.map enc b)):Int)))=true then G ((.int .i64 1))else(Vt b i 1∧(Xc b i fun y1:Str=>Yk (fun(x:Str×Str×Unit)=>Nc x.1 x.2.1) [(.str (PV.asStr (Yp y0))),(.str (PV.asStr (Yp y1)))] fun y2:Int=>if (y2 != 0)=true then G ((.int .i64 y2))else(At Kb 0 (Za UZ G) UQ 0 36 [(0,(Y3 a)),(1,(Y3 b)),(9,(Y3 a)),(10,(Zc (↑(List.length a):Int))),(11,(Zc (IntKind.wrap IntKind.i64 (i+1))))] []))))else(if (decide ((↑(List.length (List.map enc a)):Int)<(↑(List.length (List.map enc b)):Int)))=true then G ((.int .i64 (-1)))else(G ((.int .i64 0))))):At Kb 0 (Za UZ G) UQ 0 36 [(0,.pv (enc a)),(1,.pv (enc b)),(9,.pv (enc a)),(10,.pv (.int .i64 a.length)),(11,.pv (.int .i64 i))] []:=At.tp (.lit (.ask (.req (Xa (Str) (ZK 2 (.ask (.nil) (.req (Xa (Str) (ZK 2 (Yj (Int) (.lit (.ask (.nil) (.lit (.nil)))))))))))) (.lit (.ask (.nil) (.nil))))) h (by kernel_rfl)
noncomputable def V5:IC:=Wn Proofs.Tryz.f122
def WZ:List IRes:=[(.tmp 2)]
abbrev b5e:Nat:=58
def Ui:ZU:=Xe [(184,.pure (preT (fun x:List Str×Unit=>Zr x.1)) (Zw (fun x:List Str×Unit=>Jn x.1))),(175,.pure (preT (fun x:List Str×FnV 185×Unit=>XW x.1)) (Zw (fun x:List Str×FnV 185×Unit=>x.1.any fun s:Str=> !(ZH s)))),(186,.pure (preT (fun x:List Str×List Str×Unit=>Zr x.1&&Zr x.2.1)) (Zw (fun x:List Str×List Str×Unit=>BL x.1 x.2.1)))]
theorem c2d{G:PV->Prop}(p:List Mono)(h:At Ui 0 (Za WZ G) V5 0 58 [(0,(ZM p)),(5,(ZM p)),(6,(Zc (↑(List.length (List.map enc p)):Int))),(7,(Zc 0))] []):Ze Ui 0 (Za WZ G) V5 [] (Yn 58 [enc p]):=Ze.tp (.nil) h (by kernel_rfl)
theorem MN{G:PV->Prop}(p:List Mono)(i:Int)(h:if (decide (i<(↑(List.length p):Int)))=true then Vt p i 2∧(Xc p i fun y0:Mono=>if (PV.asInt (Yp y0)==0)=true then G ((.bool false))else(if (decide (PV.asInt (Yp y0)<(-1099511627776:Int)))=true then G ((.bool false))else(if (decide (PV.asInt (Yp y0)>1099511627776))=true then G ((.bool false))else(if (decide ((↑(List.length (PV.asXs (X9 y0))):Int)>8))=true then G ((.bool false))else((Go.Pl.preT (fun(x:List Str×Unit)=>Zr x.1) [(.sl 1 false (PV.asXs (X9 y0)))])=true∧(Yk (fun(x:List Str×Unit)=>Jn x.1) [(.sl 1 false (PV.asXs (X9 y0)))] fun y1:Bool=>if (!y1)=true then G ((.bool false))else((Go.Pl.preT (fun(x:List Str×FnV 185×Unit)=>XW x.1) [(.sl 1 false (PV.asXs (X9 y0))),(.fn 185)])=true∧(Yk (fun(x:List Str×FnV 185×Unit)=>List.any x.1 fun(s:Str)=> !ZH s) [(.sl 1 false (PV.asXs (X9 y0))),(.fn 185)] fun y2:Bool=>if (y2)=true then G ((.bool false))else(if (decide (i>0))=true then(decide (0<=IntKind.wrap IntKind.i64 (i - 1))&&decide (Int.toNat (IntKind.wrap IntKind.i64 (i - 1))<List.length (List.map enc p))&&Enc.sz Mono==2)=true∧(Xc p (IntKind.wrap IntKind.i64 (i - 1)) fun y3:Mono=>(Go.Pl.preT (fun(x:List Str×List Str×Unit)=>Zr x.1&&Zr x.2.1) [(.sl 1 false (SA y3)),(.sl 1 false (PV.asXs (X9 y0)))])=true∧(Yk (fun(x:List Str×List Str×Unit)=>BL x.1 x.2.1) [(.sl 1 false (SA y3)),(.sl 1 false (PV.asXs (X9 y0)))] fun y4:Int=>if (decide (y4 ≥ 0))=true then G ((.bool false))else(At Ui 0 (Za WZ G) V5 0 58 [(0,(ZM p)),(5,(ZM p)),(6,(Zc (↑(List.length p):Int))),(7,(Zc (IntKind.wrap IntKind.i64 (i+1))))] [])))else(At Ui 0 (Za WZ G) V5 0 58 [(0,(ZM p)),(5,(ZM p)),(6,(Zc (↑(List.length p):Int))),(7,(Zc (IntKind.wrap IntKind.i64 (i+1))))] []))))))))))else(G ((.bool (decide ((↑(List.length (List.map enc p)):Int)<=60)))))):At Ui 0 (Za WZ G) V5 0 58 [(0,.pv (enc p)),(5,.pv (enc p)),(6,.pv (.int .i64 p.length)),(7,.pv (.int .i64 i))] []:=At.tp (.lit (.ask (.req (Xa (Mono) (ZK 2 (.ask (Yo 18) (ZK 4 (.ask (Yo 14) (ZK 4 (.ask (Yo 10) (ZK 5 (.ask (Yo 5) (ZK 2 (.req (Yj (Bool) (ZK 2 (.ask (.nil) (.req (Yj (Bool) (.ask (.nil) (.lit (.ask (ZK 4 (.req (Xa (Mono) (ZK 6 (.req (Yj (Int) (ZK 3 (.ask (.nil) (.lit (.nil)))))))))) (Yo 12))))))))))))))))))))) (.lit (.nil)))) h (by kernel_rfl)
end Go.Pl
namespace Go.Pl
open Go.RowKit
open Enc (enc dec is)
open EncL (encL decL isL)
theorem c2a: ∀ x:Str×Unit,decide (x.1.s.length<=281474976710656)=true->Ze a4m 0 (Za FL (Zi (!(ZH x.1)))) Fp [] (Yn d2p (encL x)):=by
 rintro⟨⟨s⟩,⟨⟩⟩ h
 exact d9e s ⟨Zk (⟨s⟩,()) rfl h,Zg (⟨s⟩,()) rfl (ZW rfl)⟩
theorem c3k(l:List Str)(hs : ∀ s∈l,decide (s.s.length<=281474976710656)=true)(hl:l.length<=9223372036854775807): ∀ (m i:Nat),m+i=l.length->(∀ j (h:j<l.length),j<i->(!(ZH l[j]))=false) ->
  At Pb 0 (Za DZ (Zi (ZL (fun s:Str=> !(ZH s)) l))) Dy 0 19 [(0,.pv (enc l)),(1,.pv (.fn 185)),(7,.pv (.int .i64 l.length)),(8,.pv (.int .i64 i))] []:=by
 intro m
 induction m with
 | zero=>
  intro i hi hno
  refine c7g l i (ZG (Yt (by omega)) (Ut ?_))
  rw[KG _ _ (fun j hj=>hno j hj (by omega))]
 | succ m ih=>
  intro i hi hno
  have hlt:i<l.length:=by omega
  refine c7g l i (ZA (Yi hlt) ⟨Zn hlt rfl,Zu hlt ⟨Zk (l[i],()) rfl (hs _ (List.getElem_mem hlt)),Zg (l[i],()) rfl (WP (fun hb=> ?_) fun hb=> ?_)⟩⟩)
  ·exact Ut (Kz (fun s:Str=> !(ZH s)) l i hlt hno hb).symm
  ·rw[next (by omega)]
   refine ih (i+1) (by omega) fun j hj hji=> ?_
   by_cases e:j=i
   ·subst e;exact hb
   ·exact hno j hj (by omega)
theorem d0r: ∀ a:List Str×FnV 185×Unit,XW a.1=true->Ze Pb 0 (Za DZ (Zi (ZL (fun s:Str=> !(ZH s)) a.1))) Dy [] (Yn d5m (encL a)):=by
 rintro⟨l,g,⟨⟩⟩ h
 have h':=h
 simp only[XW,Bool.and_eq_true,List.all_eq_true]at h'
 refine e0q l ?_
 rw[List.length_map]
 exact c3k l h'.2 (Zz.1 h'.1) l.length 0 (by omega) (fun j hj h=>by omega)
theorem d3t: ∀ a:List Str×FnV 185×Unit,XW a.1=true->Ze b9x 0 (Za a5j (Zi (a.1.any fun s:Str=> !(ZH s)))) a6r [] (Yn e0a (encL a)):=by
 rintro⟨l,g,⟨⟩⟩ h
 exact e0f l ⟨Zk (l,{},()) rfl h,Zg (l,{},()) rfl (ZW (WE _ _))⟩
theorem c3m: ∀ a:Str×Unit,(fun _:Str×Unit=>true) a=true->Ze a3b 0 (Za Fv (Zi (false:Bool))) Lv [] (Yn d3x (encL a)):=by
 rintro⟨⟨s⟩,⟨⟩⟩ _
 exact d6a s (ZW (by simp))
theorem b4i: ∀ a:Str×Str×Unit,(fun _:Str×Str×Unit=>true) a=true->Ze FQ 0 (Za RF (Zi (decide (a.1.s<a.2.1.s)))) Ri [] (Yn c7y (encL a)):=by
 rintro⟨⟨s⟩,⟨t⟩,⟨⟩⟩ _
 exact c9u s t (Zg (⟨s⟩,()) rfl (ZG (by simp) (ZW (YH s t))))
theorem c6y: ∀ a:Str×Str×Unit,(fun _:Str×Str×Unit=>true) a=true->Ze a4a 0 (Za Oe (Zi (Nc a.1 a.2.1))) Oj [] (Yn d3k (encL a)):=by
 rintro⟨⟨s⟩,⟨t⟩,⟨⟩⟩ _
 refine d6l s t (Zg (⟨s⟩,()) rfl (Zg (⟨t⟩,()) rfl (ZG (by simp) (ZG (by simp) ?_))))
 show if (Op.bytesLess s t)=true then Zi (Nc ⟨s⟩ ⟨t⟩) _ else if (!(Op.bytesLess s t||s==t))=true then Zi (Nc ⟨s⟩ ⟨t⟩) _ else Zi (Nc ⟨s⟩ ⟨t⟩) _
 rw[YH]
 unfold Nc
 by_cases h1:s<t
 ·rw[decide_eq_true h1,if_pos rfl,if_pos h1];exact Ut rfl
 ·rw[decide_eq_false h1,if_neg (by simp),if_neg h1]
  by_cases h2:s=t
  ·subst h2
   rw[if_neg (by simp),if_neg h1];exact Ut rfl
  ·have h3:t<s:=by
    rcases List.le_total s t with h|h
    ·exact absurd (Std.lt_of_le_of_ne h h2) h1
    ·exact Std.lt_of_le_of_ne h (Ne.symm h2)
   rw[if_pos (by simp[h2]),if_pos h3];exact Ut rfl
theorem b7s(l:List Str):Jn l=true ↔ ∀ i (h:i+1<l.length),¬ l[i+1].s<l[i].s:=by
 induction l with
 | nil=>simp[Jn]
 | cons x l ih=>
  cases l with
  | nil=>simp[Jn]
  | cons y r=>
   rw[Jn,Bool.and_eq_true,ih]
   constructor
   ·rintro⟨h1,h2⟩ i hi
    cases i with
    | zero=>simpa using h1
    | succ i=>exact h2 i (by simpa using hi)
   ·intro h
    exact⟨by simpa using h 0 (by simp),fun i hi=>h (i+1) (by simpa using hi)⟩
theorem LC(l:List Str)(hl:l.length<=9223372036854775807): ∀ (i:Nat),i<l.length->(∀ j (h:j+1<l.length),i<=j-> ¬ l[j+1].s<l[j].s) ->
  At UY 0 (Za V3 (Zi (Jn l))) VV 0 21 [(0,.pv (enc l)),(3,.pv (.int .i64 i))] []:=by
 intro i
 induction i with
 | zero=>
  intro hi hok
  refine Cj l ((0:Nat):Int) (ZG (by decide) (ZW ?_))
  exact((b7s l).2 fun j hj=>hok j hj (Nat.zero_le _)).symm
 | succ i ih=>
  intro hi hok
  have hi2:i<l.length:=by omega
  have e:((i+1:Nat):Int) - 1=(i:Int):=by omega
  have hw:IntKind.i64.wrap (((i+1:Nat):Int) - 1)=(i:Int):=by rw[e];exact Y2 (by omega) (by omega)
  refine Cj l ((i+1:Nat):Int) (ZA (by simp) ⟨Zn hi rfl,Zu hi ?_⟩)
  rw[hw]
  refine⟨Zn hi2 rfl,Zu hi2 (Zg (l[i+1],l[i],()) rfl (WP (fun h=>ZW ?_) fun h=>ih hi2 fun j hj hij=> ?_))⟩
  ·have h:l[i+1].s<l[i].s:=of_decide_eq_true h
   cases hc:Jn l
   ·rfl
   ·exact absurd h ((b7s l).1 hc i hi)
  ·have h : ¬ l[i+1].s<l[i].s:=of_decide_eq_false h
   by_cases ej:j=i
   ·subst ej;exact h
   ·exact hok j hj (by omega)
theorem a1v: ∀ a:List Str×Unit,Zr a.1=true->Ze UY 0 (Za V3 (Zi (Jn a.1))) VV [] (Yn a4w (encL a)):=by
 rintro⟨l,⟨⟩⟩ h
 have hl:=Zz.1 h
 refine b5m l ?_
 rw[List.length_map]
 cases hc:l with
 | nil=>
  refine Cj [] _ (ZG (by decide) (ZW rfl))
 | cons x r=>
  have hw:IntKind.i64.wrap (((x::r).length:Int) - 1)=((r.length:Nat):Int):=by
   rw[List.length_cons]
   rw[hc,List.length_cons]at hl
   rw[show((r.length+1:Nat):Int) - 1=(r.length:Int) by omega]
   exact Y2 (by omega) (by omega)
  rw[hw]
  exact LC (x::r) (by rw[<- hc];exact hl) r.length (by simp) (fun j hj h=>by simp at hj;omega)
theorem a0s(a b:List Str)(ha:a.length<=9223372036854775807)(hb:b.length<=9223372036854775807): ∀ (k i:Nat),k+i=a.length->i<=b.length ->
  At Kb 0 (Za UZ (Zi (BL (a.drop i) (b.drop i)))) UQ 0 36 [(0,.pv (enc a)),(1,.pv (enc b)),(9,.pv (enc a)),(10,.pv (.int .i64 a.length)),(11,.pv (.int .i64 i))] []:=by
 intro k
 induction k with
 | zero=>
  intro i hi hib
  rw[List.drop_of_length_le (show a.length<=i by omega)]
  refine Mv a b i (ZG (Yt (by omega)) ?_)
  simp only[List.length_map]
  refine XJ (fun h=> ?_) fun h=> ?_
  ·rw[List.drop_eq_getElem_cons (show i<b.length by omega)]
   exact Ut rfl
  ·rw[List.drop_of_length_le (show b.length<=i by omega)]
   exact Ut rfl
 | succ k ih=>
  intro i hi hib
  have hlt:i<a.length:=by omega
  rw[List.drop_eq_getElem_cons hlt]
  refine Mv a b i (ZA (Yi hlt) ⟨Zn hlt rfl,Zu hlt ?_⟩)
  simp only[List.length_map]
  refine XJ (fun h=> ?_) fun h=> ?_
  ·rw[List.drop_of_length_le (show b.length<=i by omega)]
   exact Ut rfl
  ·have hlt2:i<b.length:=by omega
   have h1:=ih (i+1) (by omega) (by omega)
   rw[List.drop_eq_getElem_cons hlt2]
   refine⟨by simp[hlt2],Zu hlt2 (Zg (a[i],b[i],()) rfl ?_)⟩
   show if (Nc a[i] b[i] != 0)=true then _ else _
   unfold BL Nc
   by_cases q1:a[i].s<b[i].s
   ·rw[if_pos q1,if_pos (by simp),if_pos q1];exact Ut rfl
   ·rw[if_neg q1,if_neg q1]
    by_cases q2:b[i].s<a[i].s
    ·rw[if_pos q2,if_pos (by simp),if_pos q2];exact Ut rfl
    ·rw[if_neg q2,if_neg (by simp),if_neg q2,next (by omega)]
     exact h1
theorem a8a: ∀ x:List Str×List Str×Unit,(Zr x.1&&Zr x.2.1)=true->Ze Kb 0 (Za UZ (Zi (BL x.1 x.2.1))) UQ [] (Yn b4h (encL x)):=by
 rintro⟨a,b,⟨⟩⟩ h
 simp only[Bool.and_eq_true]at h
 refine c6a a b ?_
 rw[List.length_map]
 exact a0s a b (Zz.1 h.1) (Zz.1 h.2) a.length 0 (by omega) (Nat.zero_le _)
theorem RV: ∀ a b:List Str,BL a b<0 ↔ Wi a b<0
 | [],[]=>by decide
 | [],y::b=>by
  have e1:BL [] (y::b) = -1:=rfl
  have e2:Wi [] (y::b) = -((y::b).length:Int):=rfl
  rw[e1,e2,List.length_cons];omega
 | x::a,[]=>by
  have e1:BL (x::a) []=1:=rfl
  have e2:Wi (x::a) []=((x::a).length:Int):=rfl
  rw[e1,e2];omega
 | x::a,y::b=>by
  rw[BL,Wi]
  split
  ·exact Iff.rfl
  ·split
   ·exact Iff.rfl
   ·exact RV a b
def pvL:Option Mono->List Mono->Bool
 | _,[]=>true
 | o,m::r=>Xg m&&(match o with|none=>true|some q=>decide (Wi q.v m.v<0))&&pvL (some m) r
theorem b8c(o:Option Mono)(m:Mono)(r:List Mono):pvL o (m::r)=(Xg m&&(match o with|none=>true|some q=>decide (Wi q.v m.v<0))&&pvL (some m) r):=by cases o <;> rfl
theorem Oq: ∀ (l:List Mono) (q:Mono),pvL (some q) l=(l.all Xg&&Sm (q::l))
 | [],q=>rfl
 | m::r,q=>by
  rw[pvL,Oq r m,Sm,List.all_cons]
  cases Xg m <;> cases decide (Wi q.v m.v<0) <;> cases r.all Xg <;> cases Sm (m::r) <;> rfl
theorem c6s(l:List Mono):(pvL none l&&decide (l.length<=60))=Zx l:=by
 unfold Zx
 cases l with
 | nil=>rfl
 | cons m r=>
  rw[pvL,Oq,List.all_cons,Bool.and_true]
  cases Xg m <;> cases decide ((m::r).length<=60) <;> cases r.all Xg <;> cases Sm (m::r) <;> rfl
def a1j(p:List Mono):Nat->Option Mono
 | 0=>none
 | i+1=>p[i]?
theorem Ej(p:List Mono)(hp:YD p=true): ∀ (k i:Nat),k+i=p.length ->
  At Ui 0 (Za WZ (Zi (pvL (a1j p i) (p.drop i)&&decide (p.length<=60)))) V5 0 58 [(0,.pv (enc p)),(5,.pv (enc p)),(6,.pv (.int .i64 p.length)),(7,.pv (.int .i64 i))] []:=by
 simp only[YD,Bool.and_eq_true,List.all_eq_true]at hp
 have hl:=Zz.1 hp.1
 intro k
 induction k with
 | zero=>
  intro i hi
  rw[List.drop_of_length_le (by omega)]
  refine MN p i (ZG (Yt (by omega)) (ZW ?_))
  rw[List.length_map,pvL,Bool.true_and]
  exact decide_eq_decide.2 (by omega)
 | succ k ih=>
  intro i hi
  have hlt:i<p.length:=by omega
  have hm:=hp.2 _ (List.getElem_mem hlt)
  have hml:Zr p[i].v=true:=by
   simp only[XW,Bool.and_eq_true]at hm
   exact hm.1
  have h1:=ih (i+1) (by omega)
  have hpr:a1j p (i+1)=some p[i]:=List.getElem?_eq_getElem hlt
  rw[hpr]at h1
  rw[List.drop_eq_getElem_cons hlt,b8c]
  have bad:Xg p[i]=false->Zi (Xg p[i]&&(match a1j p i with|none=>true|some q=>decide (Wi q.v p[i].v<0))&&pvL (some p[i]) (p.drop (i+1))&&decide (p.length<=60)) (.bool false):=fun h=>ZW (by rw[h];simp)
  apply MN (G:=Zi (Xg p[i]&&(match a1j p i with|none=>true|some q=>decide (Wi q.v p[i].v<0))&&pvL (some p[i]) (p.drop (i+1))&&decide (p.length<=60))) p i
  apply ZA (Yi hlt)
  refine⟨Zn hlt rfl,Zu hlt (Ko (fun h=>bad ?_) fun h2=>XJ (fun h=>bad ?_) fun h3=>XJ (fun h=>bad ?_) fun h4=>XJ (fun h=>bad ?_) fun h5=>⟨Zk (p[i].v,()) rfl hml,Zg (p[i].v,()) rfl (Xt (fun h=>bad ?_) fun h6=>⟨Zk (p[i].v,{},()) rfl hm,Zg (p[i].v,{},()) rfl (WP (fun h=>bad ?_) fun h7=> ?_)⟩)⟩)⟩
  ·have h:p[i].c=0:=h
   simp[Xg,h]
  ·have h:p[i].c < -1099511627776:=h
   unfold Xg
   rw[decide_eq_false (show ¬ -1099511627776<=p[i].c by omega)];simp
  ·have h:p[i].c>1099511627776:=h
   unfold Xg
   rw[decide_eq_false (show ¬ p[i].c<=1099511627776 by omega)];simp
  ·have h:((p[i].v.map (enc:Str->PV)).length:Int)>8:=h
   rw[List.length_map]at h
   unfold Xg
   rw[decide_eq_false (show ¬ p[i].v.length<=8 by omega)];simp
  ·have h:Jn p[i].v=false:=h
   simp[Xg,h]
  ·have h:(p[i].v.any fun s=> !(ZH s))=true:=h
   have h2:p[i].v.all ZH=false:=by
    rw[<- Bool.not_eq_true]
    intro h3
    obtain⟨s,hs,h4⟩:=List.any_eq_true.1 h
    rw[List.all_eq_true.1 h3 s hs]at h4
    cases h4
   unfold Xg
   rw[h2];simp
  ·have hok:Xg p[i]=true:=by
    have h2 : ¬ p[i].c=0:=h2
    have h3 : ¬ p[i].c < -1099511627776:=h3
    have h4 : ¬ p[i].c>1099511627776:=h4
    have h5 : ¬ ((p[i].v.map (enc:Str->PV)).length:Int)>8:=h5
    rw[List.length_map]at h5
    have h6:Jn p[i].v=true:=h6
    have h7:(p[i].v.any fun s=> !(ZH s))=false:=h7
    have h8:p[i].v.all ZH=true:=by
     rw[List.all_eq_true]
     intro s hs
     cases hn:ZH s
     ·rw[<- Bool.not_eq_true]at h7
      exact absurd (List.any_eq_true.2 ⟨s,hs,by rw[hn];rfl⟩) h7
     ·rfl
    unfold Xg
    rw[decide_eq_true h2,decide_eq_true (show -1099511627776<=p[i].c by omega),decide_eq_true (show p[i].c<=1099511627776 by omega),decide_eq_true (show p[i].v.length<=8 by omega),h6,h8]
    rfl
   rw[hok,Bool.true_and]
   cases i with
   | zero=>
    refine ZG (by decide) ?_
    rw[next (by omega)]
    exact h1
   | succ j=>
    have hj:j<p.length:=by omega
    have e:((j+1:Nat):Int) - 1=(j:Int):=by omega
    have hw:IntKind.i64.wrap (((j+1:Nat):Int) - 1)=(j:Int):=by rw[e];exact Y2 (by omega) (by omega)
    have hprev:a1j p (j+1)=some p[j]:=List.getElem?_eq_getElem hj
    rw[hprev]
    have hjl:Zr p[j].v=true:=by
     have:=hp.2 _ (List.getElem_mem hj)
     simp only[XW,Bool.and_eq_true]at this
     exact this.1
    refine ZA (by simp) ?_
    rw[hw]
    refine⟨Zn hj rfl,Zu hj ⟨Zk (p[j].v,p[j+1].v,()) rfl (by show(Zr p[j].v&&Zr p[j+1].v)=true;rw[hjl,hml];rfl),Zg (p[j].v,p[j+1].v,()) rfl (XJ (fun h=> ?_) fun h=> ?_)⟩⟩
    ·have h:BL p[j].v p[j+1].v ≥ 0:=h
     have : ¬ Wi p[j].v p[j+1].v<0:=fun h2=>by have:=(RV _ _).2 h2;omega
     exact ZW (by simp[this])
    ·have h : ¬ BL p[j].v p[j+1].v ≥ 0:=h
     have:Wi p[j].v p[j+1].v<0:=(RV _ _).1 (by omega)
     show At Ui 0 (Za WZ (Zi (decide (Wi p[j].v p[j+1].v<0)&&_&&_))) _ _ _ _ _
     rw[decide_eq_true this,Bool.true_and,next (by omega)]
     exact h1
theorem a6a: ∀ x:List Mono×Unit,YD x.1=true->Ze Ui 0 (Za WZ (Zi (Zx x.1))) V5 [] (Yn b5e (encL x)):=by
 rintro⟨p,⟨⟩⟩ h
 refine c2d p ?_
 rw[List.length_map,<- c6s]
 exact Ej p h p.length 0 (by omega)
end Go.Pl
namespace Go.Pl
open Go.RowKit
open Enc (enc dec is)
open EncL (encL decL isL)
set_option maxRecDepth 100000
noncomputable def XT:IC:=Wn Proofs.Tryz.f123
def XN:List IRes:=[(.tmp 2)]
abbrev Pm:Nat:=24
def WJ:ZU:=Xe [(122,.pure (preT (fun x:List Mono×Unit=>YD x.1)) (Zw (fun x:List Mono×Unit=>Zx x.1))),(154,.own WC Jf),(187,.own WC Jh)]
theorem a8q{G:AV×List AObj×List AObj->Prop}(p:List Mono)(h:(Go.Pl.preT (fun(x:List Mono×Unit)=>YD x.1) [(.sl 2 false (List.map enc p))])=true∧(Yk (fun(x:List Mono×Unit)=>Zx x.1) [(.sl 2 false (List.map enc p))] fun y0:Bool=>if (!y0)=true then G (((.pv (.sl 0 true [])),([],[])))else(At WJ 0 (Zq 0 XN G) XT 0 24 [(3,(.pv (.sl 0 true []))),(9,(ZM p)),(10,(Zc (↑(List.length (List.map enc p)):Int))),(11,(Zc 0))] []))):Ze WJ 0 (Zq 0 XN G) XT [] (Y5 24 [.pv (enc p)] []):=Ze.to (.req (Yj (Bool) (.ask (.nil) (.nil)))) h (by kernel_rfl)
theorem Ma{G:AV×List AObj×List AObj->Prop}(p:List Mono)(i:Int)(h:if (decide (i<(↑(List.length p):Int)))=true then Vt p i 2∧(Xc p i fun y0:Mono=>(List.isEmpty (PV.asXs (X9 y0))||1==1)=true∧(if (List.isEmpty (PV.asXs (X9 y0)))=true then At WJ 0 (Zq 0 XN G) XT 0 24 [(3,(.pv (.sl 0 true []))),(9,(ZM p)),(10,(Zc (↑(List.length p):Int))),(11,(Zc (IntKind.wrap IntKind.i64 (i+1))))] []else(((List.isEmpty ([]:List PV)||0==1)&&decide ((List.length ([]:List PV)+List.length (PV.asXs (X9 y0)))*16<=1099511627776)&&decide (List.length ([]:List PV)+List.length (PV.asXs (X9 y0))<=1099511627776))=true∧(At WJ 0 (Zq 0 XN G) XT 0 24 [(3,(.row 0 (List.length ([]:List PV)+List.length (PV.asXs (X9 y0))) 0 (List.length ([]:List PV)+List.length (PV.asXs (X9 y0))))),(9,(ZM p)),(10,(Zc (↑(List.length p):Int))),(11,(Zc (IntKind.wrap IntKind.i64 (i+1))))] [(.obj (.row false 9 1 (([]:List PV)++PV.asXs (X9 y0))))]))))else(G (((.pv (.sl 0 true [])),([],[]))))):At WJ 0 (Zq 0 XN G) XT 0 24 [(3,.pv (.sl 0 true [])),(9,.pv (enc p)),(10,.pv (.int .i64 p.length)),(11,.pv (.int .i64 i))] []:=At.to (.lit (.ask (.req (Xa (Mono) (.lit (.req (.lit (.ask (.lit (.nil)) (.req (.lit (.nil))))))))) (.lit (.keep (.lit (.keep (.nil))))))) h (by kernel_rfl)
theorem NU{G:AV×List AObj×List AObj->Prop}(p:List Mono)(i:Int)(q:Nat)(xs:List Str)(h:if (decide (i<(↑(List.length p):Int)))=true then Vt p i 2∧(Xc p i fun y0:Mono=>(List.isEmpty (PV.asXs (X9 y0))||1==1)=true∧((List.length (List.map enc xs)==q&&q==q&&decide ((q+List.length (PV.asXs (X9 y0)))*16<=1099511627776)&&decide (q+List.length (PV.asXs (X9 y0))<=1099511627776))=true∧(At WJ 0 (Zq 0 XN G) XT 0 24 [(3,(.row 0 (q+List.length (PV.asXs (X9 y0))) 0 (q+List.length (PV.asXs (X9 y0))))),(9,(ZM p)),(10,(Zc (↑(List.length p):Int))),(11,(Zc (IntKind.wrap IntKind.i64 (i+1))))] [(.obj (.row false 9 1 (List.map enc xs++PV.asXs (X9 y0))))])))else((WC [(.row 0 q 0 q)] [(.row false 9 1 (List.map enc xs))])=true∧((WC [(.row 0 q 0 q)] [(.row false 9 1 (List.map PV.str (Vv (List.map QZ (List.map enc xs)))))])=true∧(G (((.row 0 q 0 (List.length (Lib.compact (List.map QZ (List.map PV.str (Vv (List.map QZ (List.map enc xs)))))))),([],[(.row false 9 1 (List.map PV.str (UG (List.map QZ (List.map PV.str (Vv (List.map QZ (List.map enc xs))))))))]))))))):At WJ 0 (Zq 0 XN G) XT 0 24 [(3,.row 0 q 0 q),(9,.pv (enc p)),(10,.pv (.int .i64 p.length)),(11,.pv (.int .i64 i))] [.obj (.row false 9 1 (xs.map enc))]:=At.to (.lit (.ask (.req (Xa (Mono) (.lit (.req (.req (.lit (.nil))))))) (.req (.keep (.req (.keep (.nil))))))) h (by kernel_rfl)
noncomputable def a5x:IC:=Wn Proofs.Tryz.f188
def a6t:List IRes:=[(.tmp 3)]
abbrev d8l:Nat:=8
def b7p:ZU:=Xe []
theorem e1j{G:AV×List AObj×List AObj->Prop}(x:Coef)(v:List UInt8)(h:G (((.pv (.bool (Str.s x.v==v))),([(.box [(.pv (.str v))])],[])))):Ze b7p 1 (Zq 1 a6t G) a5x [] (Y5 8 [.pv (enc x),.ptr 0 0] [.box [.pv (.str v)]]):=Ze.to (.lit (.nil)) h (by kernel_rfl)
noncomputable def Dw:IC:=Hz
def D8:List IRes:=[(.tmp 4)]
abbrev d9q:Nat:=19
def RO:ZU:=Xe [(188,.own CB SL)]
theorem e0t{G:AV×List AObj×List AObj->Prop}(l:List Coef)(v:List UInt8)(h:At RO 1 (Zq 1 D8 G) Dw 0 19 [(0,(ZM l)),(1,(.fn 188 [] [(.ptr 0 0)])),(7,(Zc (↑(List.length (List.map enc l)):Int))),(8,(Zc 0))] [(.obj (.box [(.pv (.str v))]))]):Ze RO 1 (Zq 1 D8 G) Dw [] (Y5 19 [.pv (enc l),.fn 188 [] [.ptr 0 0]] [.box [.pv (.str v)]]):=Ze.to (.nil) h (by kernel_rfl)
theorem c6k{G:AV×List AObj×List AObj->Prop}(l:List Coef)(v:List UInt8)(i:Int)(h:if (decide (i<(↑(List.length l):Int)))=true then Vt l i 2∧(Xc l i fun y0:Coef=>(CB [(.pv (.agg [(.str (PV.asStr (Yp y0))),(.int .i64 (PV.asInt (X9 y0)))])),(.ptr 0 0)] [(.box [(.pv (.str v))])])=true∧(if (Str.s (Coef.v (dec (PV.agg (UA (PV.cells (enc y0)) 0 [Sh.str,Sh.int .i64]))))==v)=true then G (((Zc i),([(.box [(.pv (.str v))])],[])))else(At RO 1 (Zq 1 D8 G) Dw 0 19 [(0,(ZM l)),(1,(.fn 188 [] [(.ptr 0 0)])),(7,(Zc (↑(List.length l):Int))),(8,(Zc (IntKind.wrap IntKind.i64 (i+1))))] [(.obj (.box [(.pv (.str v))]))])))else(G (((Zc (-1)),([(.box [(.pv (.str v))])],[]))))):At RO 1 (Zq 1 D8 G) Dw 0 19 [(0,.pv (enc l)),(1,.fn 188 [] [.ptr 0 0]),(7,.pv (.int .i64 l.length)),(8,.pv (.int .i64 i))] [.obj (.box [.pv (.str v)])]:=At.to (.lit (.ask (.req (Xa (Coef) (.lit (.req (.keep (.ask (.nil) (.lit (.nil)))))))) (.nil))) h (by kernel_rfl)
noncomputable def JJ:IC:=Wn Proofs.Tryz.f284
def JG:List IRes:=[(.tmp 4)]
abbrev c9h:Nat:=19
def D6:ZU:=Xe []
theorem d6r{G:PV->Prop}(l:List Int)(n:Int)(h:At D6 0 (Za JG G) JJ 0 19 [(0,(Y3 l)),(1,(Zc n)),(7,(Zc (↑(List.length (List.map enc l)):Int))),(8,(Zc 0))] []):Ze D6 0 (Za JG G) JJ [] (Yn 19 [enc l,enc n]):=Ze.tp (.nil) h (by kernel_rfl)
theorem a9q{G:PV->Prop}(l:List Int)(n:Int)(i:Int)(h:if (decide (i<(↑(List.length l):Int)))=true then Vt l i 1∧(Xc l i fun y0:Int=>if (n==PV.asInt (Yp y0))=true then G ((.int .i64 i))else(At D6 0 (Za JG G) JJ 0 19 [(0,(Y3 l)),(1,(Zc n)),(7,(Zc (↑(List.length l):Int))),(8,(Zc (IntKind.wrap IntKind.i64 (i+1))))] []))else(G ((.int .i64 (-1))))):At D6 0 (Za JG G) JJ 0 19 [(0,.pv (enc l)),(1,.pv (enc n)),(7,.pv (.int .i64 l.length)),(8,.pv (.int .i64 i))] []:=At.tp (.lit (.ask (.req (Xa (Int) (ZK 2 (.ask (.nil) (.lit (.nil)))))) (.nil))) h (by kernel_rfl)
noncomputable def BH:IC:=Wn Proofs.Tryz.f246
def AC:List IRes:=[(.tmp 4)]
abbrev b5b:Nat:=9
def Rv:ZU:=Xe [(284,.pure (preT (fun x:List Int×Int×Unit=>Zr x.1)) (Zw (fun x:List Int×Int×Unit=>ZL (fun n:Int=>decide (x.2.1=n)) x.1)))]
theorem b8d{G:PV->Prop}(l:List Int)(n:Int)(h:(Go.Pl.preT (fun(x:List Int×Int×Unit)=>Zr x.1) [(.sl 1 false (List.map enc l)),(.int .i64 n)])=true∧(Yk (fun(x:List Int×Int×Unit)=>ZL (fun(n:Int)=>decide (x.2.1=n)) x.1) [(.sl 1 false (List.map enc l)),(.int .i64 n)] fun y0:Int=>G ((.bool (decide (y0 ≥ 0)))))):Ze Rv 0 (Za AC G) BH [] (Yn 9 [enc l,enc n]):=Ze.tp (.req (Yj (Int) (.lit (.nil)))) h (by kernel_rfl)
noncomputable def Kk:IC:=Wn Proofs.Tryz.f189
def Qq:List IRes:=[(.tmp 2),(.tmp 3)]
abbrev c1d:Nat:=29
def KH:ZU:=Xe [(246,.pure (preT (fun x:List Int×Int×Unit=>Zr x.1)) (Zw (fun x:List Int×Int×Unit=>x.1.contains x.2.1))),(247,.pure (preT (fun _:Int×Int×Unit=>true)) (Zw (fun x:Int×Int×Unit=>X3 x.1 x.2.1)))]
theorem d0t{G:PV->Prop}(l:List Int)(h:(Go.Pl.preT (fun(x:List Int×Int×Unit)=>Zr x.1) [(.sl 1 false (List.map enc l)),(.int .i64 0)])=true∧(Yk (fun(x:List Int×Int×Unit)=>List.contains x.1 x.2.1) [(.sl 1 false (List.map enc l)),(.int .i64 0)] fun y0:Bool=>if (y0)=true then G ((.tup [(.int .i64 0),(.int .i64 0)]))else(At KH 0 (Za Qq G) Kk 0 29 [(4,(Zc 1)),(11,(Y3 l)),(12,(Zc (↑(List.length (List.map enc l)):Int))),(13,(Zc 0))] []))):Ze KH 0 (Za Qq G) Kk [] (Yn 29 [enc l]):=Ze.tp (.req (Yj (Bool) (.ask (.nil) (.nil)))) h (by kernel_rfl)
theorem a0o{G:PV->Prop}(l:List Int)(o i:Int)(h:if (decide (i<(↑(List.length l):Int)))=true then Vt l i 1∧(Xc l i fun y0:Int=>Yk (fun(x:Int×Int×Unit)=>X3 x.1 x.2.1) [(.int .i64 o),(.int .i64 (PV.asInt (Yp y0)))] fun y1:Int×Int=>if (y1.2 != 0)=true then G ((.tup [(.int .i64 0),(.int .i64 y1.2)]))else(At KH 0 (Za Qq G) Kk 0 29 [(4,(Zc y1.1)),(11,(Y3 l)),(12,(Zc (↑(List.length l):Int))),(13,(Zc (IntKind.wrap IntKind.i64 (i+1))))] []))else(G ((.tup [(.int .i64 o),(.int .i64 0)])))):At KH 0 (Za Qq G) Kk 0 29 [(4,.pv (.int .i64 o)),(11,.pv (enc l)),(12,.pv (.int .i64 l.length)),(13,.pv (.int .i64 i))] []:=At.tp (.lit (.ask (.req (Xa (Int) (ZK 2 (Yj (Int×Int) (.lit (.ask (.nil) (.lit (.nil)))))))) (.nil))) h (by kernel_rfl)
noncomputable def ZV:IC:=Wn Proofs.Tryz.f125
def ZT:List IRes:=[(.tmp 4),(.tmp 5)]
abbrev c0j:Nat:=91
def Z7:ZU:=Xe [(122,.pure (preT (fun x:List Mono×Unit=>YD x.1)) (Zw (fun x:List Mono×Unit=>Zx x.1))),(109,.own (Qf 188) SY),(189,.pure (preT (fun x:List Int×Unit=>Zr x.1)) (Zw (fun x:List Int×Unit=>Xn x.1))),(190,.pure (preT (fun x:List Int×Unit=>decide (x.1.length<=10000))) (Zw (fun x:List Int×Unit=>Xr x.1)))]
theorem d3r{G:PV->Prop}(p:List Mono)(vs:List Coef)(h:(Go.Pl.preT (fun(x:List Mono×Unit)=>YD x.1) [(.sl 2 false (List.map enc p))])=true∧(Yk (fun(x:List Mono×Unit)=>Zx x.1) [(.sl 2 false (List.map enc p))] fun y0:Bool=>if (!y0)=true then G ((.tup [(.int .i64 0),(.int .i64 1)]))else(At Z7 0 (Za ZT G) ZV 0 91 [(1,(ZM vs)),(6,(.pv (.sl 0 true []))),(7,(.pv (.bool false))),(23,(ZM p)),(24,(Zc (↑(List.length (List.map enc p)):Int))),(25,(Zc 0))] []))):Ze Z7 0 (Za ZT G) ZV [] (Yn 91 [enc p,enc vs]):=Ze.tp (.req (Yj (Bool) (.ask (.nil) (.nil)))) h (by kernel_rfl)
theorem NQ{G:PV->Prop}(p:List Mono)(vs:List Coef)(bd:Bool)(i:Int)(h:if (decide (i<(↑(List.length p):Int)))=true then Vt p i 2∧(Xc p i fun y0:Mono=>At Z7 0 (Za ZT G) ZV 1 91 [(1,(ZM vs)),(6,(.pv (.sl 0 true []))),(7,(.pv (.bool bd))),(10,(.row 0 1 0 1)),(23,(ZM p)),(24,(Zc (↑(List.length p):Int))),(25,(Zc i)),(33,(.pv (.sl 1 false (PV.asXs (X9 y0))))),(34,(Zc (↑(List.length (PV.asXs (X9 y0))):Int))),(35,(Zc 0))] [(.obj (.row false 3 1 [(.int .i64 (PV.asInt (Yp y0)))]))])else(if (bd)=true then G ((.tup [(.int .i64 0),(.int .i64 2)]))else(At Z7 0 (Za ZT G) ZV 2 91 [(15,(.pv (.sl 0 true []))),(69,(.pv (.sl 0 true []))),(70,(Zc 0)),(71,(Zc 0))] []))):At Z7 0 (Za ZT G) ZV 0 91 [(6,.pv (.sl 0 true [])),(1,.pv (enc vs)),(7,.pv (.bool bd)),(23,.pv (enc p)),(24,.pv (.int .i64 p.length)),(25,.pv (.int .i64 i))] []:=At.tp (.lit (.ask (.req (Xa (Mono) (Yo 2))) (.ask (.nil) (.nil)))) h (by kernel_rfl)
theorem NM{G:PV->Prop}(p:List Mono)(vs:List Coef)(bd:Bool)(i:Int)(q:Nat)(fs:List (List Int))(h:if (decide (i<(↑(List.length p):Int)))=true then Vt p i 2∧(Xc p i fun y0:Mono=>At Z7 0 (Za ZT G) ZV 1 91 [(1,(ZM vs)),(6,(.row 0 q 0 q)),(7,(.pv (.bool bd))),(10,(.row 1 1 0 1)),(23,(ZM p)),(24,(Zc (↑(List.length p):Int))),(25,(Zc i)),(33,(.pv (.sl 1 false (PV.asXs (X9 y0))))),(34,(Zc (↑(List.length (PV.asXs (X9 y0))):Int))),(35,(Zc 0))] [(.obj (.row false 34 1 (List.map enc fs))),(.obj (.row false 3 1 [(.int .i64 (PV.asInt (Yp y0)))]))])else(if (bd)=true then G ((.tup [(.int .i64 0),(.int .i64 2)]))else(At Z7 0 (Za ZT G) ZV 2 91 [(15,(.pv (.sl 0 true []))),(69,(.row 0 q 0 q)),(70,(Zc (↑(q - 0):Int))),(71,(Zc 0))] [(.obj (.row false 34 1 (List.map enc fs)))]))):At Z7 0 (Za ZT G) ZV 0 91 [(6,.row 0 q 0 q),(1,.pv (enc vs)),(7,.pv (.bool bd)),(23,.pv (enc p)),(24,.pv (.int .i64 p.length)),(25,.pv (.int .i64 i))] [.obj (.row false 34 1 (fs.map enc))]:=At.tp (.lit (.ask (.req (Xa (Mono) (Yo 2))) (.ask (.nil) (.nil)))) h (by kernel_rfl)
theorem MH{G:PV->Prop}(p:List Mono)(vs:List Coef)(bd:Bool)(i j:Int)(ns:List Str)(r:Nat)(l:List Int)(h:if (decide (j<(↑(List.length ns):Int)))=true then Vt ns j 1∧(Xc ns j fun y0:Str=>(Qf 188 [(ZM vs),(.fn 188 [] [(.ptr 0 0)])] [(.box [(.pv (.str (PV.asStr (Yp y0))))])])=true∧(if (decide (ZL (fun(t:Coef)=>Str.s t.v==PV.asStr (Yp y0)) (Ha (enc vs))<0))=true then G ((.tup [(.int .i64 0),(.int .i64 7)]))else((decide (0<=ZL (fun(t:Coef)=>Str.s t.v==PV.asStr (Yp y0)) (Ha (enc vs)))&&decide (Int.toNat (ZL (fun(t:Coef)=>Str.s t.v==PV.asStr (Yp y0)) (Ha (enc vs)))<List.length (List.map enc vs))&&Enc.sz Coef==2)=true∧(Xc vs (ZL (fun(t:Coef)=>Str.s t.v==PV.asStr (Yp y0)) (Ha (enc vs))) fun y1:Coef=>if (bd)=true then(List.length (List.map enc l)==r&&r==r&&decide ((r+List.length (List.drop 0 (List.take 1 [Sh.co (Sh.int .i64) (WY y1)])))*8<=1099511627776)&&decide (r+List.length (List.drop 0 (List.take 1 [Sh.co (Sh.int .i64) (WY y1)]))<=1099511627776))=true∧(At Z7 0 (Za ZT G) ZV 1 91 [(1,(ZM vs)),(6,(.pv (.sl 0 true []))),(7,(.pv (.bool true))),(10,(.row 0 (r+List.length (List.drop 0 (List.take 1 [Sh.co (Sh.int .i64) (WY y1)]))) 0 (r+List.length (List.drop 0 (List.take 1 [Sh.co (Sh.int .i64) (WY y1)]))))),(23,(ZM p)),(24,(Zc (↑(List.length p):Int))),(25,(Zc i)),(33,(Y3 ns)),(34,(Zc (↑(List.length ns):Int))),(35,(Zc (IntKind.wrap IntKind.i64 (j+1))))] [(.obj (.row false 3 1 (List.map enc l++List.drop 0 (List.take 1 [Sh.co (Sh.int .i64) (WY y1)]))))])else(if (decide (PV.asInt (WY y1)<(-4611686018427387904:Int)))=true then(List.length (List.map enc l)==r&&r==r&&decide ((r+List.length (List.drop 0 (List.take 1 [Sh.co (Sh.int .i64) (WY y1)])))*8<=1099511627776)&&decide (r+List.length (List.drop 0 (List.take 1 [Sh.co (Sh.int .i64) (WY y1)]))<=1099511627776))=true∧(At Z7 0 (Za ZT G) ZV 1 91 [(1,(ZM vs)),(6,(.pv (.sl 0 true []))),(7,(.pv (.bool true))),(10,(.row 0 (r+List.length (List.drop 0 (List.take 1 [Sh.co (Sh.int .i64) (WY y1)]))) 0 (r+List.length (List.drop 0 (List.take 1 [Sh.co (Sh.int .i64) (WY y1)]))))),(23,(ZM p)),(24,(Zc (↑(List.length p):Int))),(25,(Zc i)),(33,(Y3 ns)),(34,(Zc (↑(List.length ns):Int))),(35,(Zc (IntKind.wrap IntKind.i64 (j+1))))] [(.obj (.row false 3 1 (List.map enc l++List.drop 0 (List.take 1 [Sh.co (Sh.int .i64) (WY y1)]))))])else((List.length (List.map enc l)==r&&r==r&&decide ((r+List.length (List.drop 0 (List.take 1 [Sh.co (Sh.int .i64) (WY y1)])))*8<=1099511627776)&&decide (r+List.length (List.drop 0 (List.take 1 [Sh.co (Sh.int .i64) (WY y1)]))<=1099511627776))=true∧(At Z7 0 (Za ZT G) ZV 1 91 [(1,(ZM vs)),(6,(.pv (.sl 0 true []))),(7,(.pv (.bool (decide (PV.asInt (WY y1)>4611686018427387904))))),(10,(.row 0 (r+List.length (List.drop 0 (List.take 1 [Sh.co (Sh.int .i64) (WY y1)]))) 0 (r+List.length (List.drop 0 (List.take 1 [Sh.co (Sh.int .i64) (WY y1)]))))),(23,(ZM p)),(24,(Zc (↑(List.length p):Int))),(25,(Zc i)),(33,(Y3 ns)),(34,(Zc (↑(List.length ns):Int))),(35,(Zc (IntKind.wrap IntKind.i64 (j+1))))] [(.obj (.row false 3 1 (List.map enc l++List.drop 0 (List.take 1 [Sh.co (Sh.int .i64) (WY y1)]))))])))))))else((List.length (List.map enc l)==r)=true∧(At Z7 0 (Za ZT G) ZV 0 91 [(1,(ZM vs)),(6,(.row 0 1 0 1)),(7,(.pv (.bool bd))),(23,(ZM p)),(24,(Zc (↑(List.length p):Int))),(25,(Zc (IntKind.wrap IntKind.i64 (i+1))))] [(.obj (.row false 34 1 [(.sl 1 false (List.drop 0 (List.take r (List.map enc l))))]))]))):At Z7 0 (Za ZT G) ZV 1 91 [(6,.pv (.sl 0 true [])),(1,.pv (enc vs)),(7,.pv (.bool bd)),(23,.pv (enc p)),(24,.pv (.int .i64 p.length)),(25,.pv (.int .i64 i)),(33,.pv (enc ns)),(34,.pv (.int .i64 ns.length)),(35,.pv (.int .i64 j)),(10,.row 0 r 0 r)] [.obj (.row false 3 1 (l.map enc))]:=At.tp (.lit (.ask (.req (Xa (Str) (.lit (.req (.keep (.lit (.ask (.nil) (.req (Xa (Coef) (.lit (.ask (ZK 7 (.req (.lit (.nil)))) (ZK 3 (.ask (ZK 4 (.req (.lit (.nil)))) (ZK 5 (.req (.lit (.nil))))))))))))))))) (.req (Yo 6)))) h (by kernel_rfl)
theorem N7{G:PV->Prop}(p:List Mono)(vs:List Coef)(bd:Bool)(i j:Int)(ns:List Str)(r:Nat)(l:List Int)(q:Nat)(fs:List (List Int))(h:if (decide (j<(↑(List.length ns):Int)))=true then Vt ns j 1∧(Xc ns j fun y0:Str=>(Qf 188 [(ZM vs),(.fn 188 [] [(.ptr 0 0)])] [(.box [(.pv (.str (PV.asStr (Yp y0))))])])=true∧(if (decide (ZL (fun(t:Coef)=>Str.s t.v==PV.asStr (Yp y0)) (Ha (enc vs))<0))=true then G ((.tup [(.int .i64 0),(.int .i64 7)]))else((decide (0<=ZL (fun(t:Coef)=>Str.s t.v==PV.asStr (Yp y0)) (Ha (enc vs)))&&decide (Int.toNat (ZL (fun(t:Coef)=>Str.s t.v==PV.asStr (Yp y0)) (Ha (enc vs)))<List.length (List.map enc vs))&&Enc.sz Coef==2)=true∧(Xc vs (ZL (fun(t:Coef)=>Str.s t.v==PV.asStr (Yp y0)) (Ha (enc vs))) fun y1:Coef=>if (bd)=true then(List.length (List.map enc l)==r&&r==r&&decide ((r+List.length (List.drop 0 (List.take 1 [Sh.co (Sh.int .i64) (WY y1)])))*8<=1099511627776)&&decide (r+List.length (List.drop 0 (List.take 1 [Sh.co (Sh.int .i64) (WY y1)]))<=1099511627776))=true∧(At Z7 0 (Za ZT G) ZV 1 91 [(1,(ZM vs)),(6,(.row 0 q 0 q)),(7,(.pv (.bool true))),(10,(.row 1 (r+List.length (List.drop 0 (List.take 1 [Sh.co (Sh.int .i64) (WY y1)]))) 0 (r+List.length (List.drop 0 (List.take 1 [Sh.co (Sh.int .i64) (WY y1)]))))),(23,(ZM p)),(24,(Zc (↑(List.length p):Int))),(25,(Zc i)),(33,(Y3 ns)),(34,(Zc (↑(List.length ns):Int))),(35,(Zc (IntKind.wrap IntKind.i64 (j+1))))] [(.obj (.row false 34 1 (List.map enc fs))),(.obj (.row false 3 1 (List.map enc l++List.drop 0 (List.take 1 [Sh.co (Sh.int .i64) (WY y1)]))))])else(if (decide (PV.asInt (WY y1)<(-4611686018427387904:Int)))=true then(List.length (List.map enc l)==r&&r==r&&decide ((r+List.length (List.drop 0 (List.take 1 [Sh.co (Sh.int .i64) (WY y1)])))*8<=1099511627776)&&decide (r+List.length (List.drop 0 (List.take 1 [Sh.co (Sh.int .i64) (WY y1)]))<=1099511627776))=true∧(At Z7 0 (Za ZT G) ZV 1 91 [(1,(ZM vs)),(6,(.row 0 q 0 q)),(7,(.pv (.bool true))),(10,(.row 1 (r+List.length (List.drop 0 (List.take 1 [Sh.co (Sh.int .i64) (WY y1)]))) 0 (r+List.length (List.drop 0 (List.take 1 [Sh.co (Sh.int .i64) (WY y1)]))))),(23,(ZM p)),(24,(Zc (↑(List.length p):Int))),(25,(Zc i)),(33,(Y3 ns)),(34,(Zc (↑(List.length ns):Int))),(35,(Zc (IntKind.wrap IntKind.i64 (j+1))))] [(.obj (.row false 34 1 (List.map enc fs))),(.obj (.row false 3 1 (List.map enc l++List.drop 0 (List.take 1 [Sh.co (Sh.int .i64) (WY y1)]))))])else((List.length (List.map enc l)==r&&r==r&&decide ((r+List.length (List.drop 0 (List.take 1 [Sh.co (Sh.int .i64) (WY y1)])))*8<=1099511627776)&&decide (r+List.length (List.drop 0 (List.take 1 [Sh.co (Sh.int .i64) (WY y1)]))<=1099511627776))=true∧(At Z7 0 (Za ZT G) ZV 1 91 [(1,(ZM vs)),(6,(.row 0 q 0 q)),(7,(.pv (.bool (decide (PV.asInt (WY y1)>4611686018427387904))))),(10,(.row 1 (r+List.length (List.drop 0 (List.take 1 [Sh.co (Sh.int .i64) (WY y1)]))) 0 (r+List.length (List.drop 0 (List.take 1 [Sh.co (Sh.int .i64) (WY y1)]))))),(23,(ZM p)),(24,(Zc (↑(List.length p):Int))),(25,(Zc i)),(33,(Y3 ns)),(34,(Zc (↑(List.length ns):Int))),(35,(Zc (IntKind.wrap IntKind.i64 (j+1))))] [(.obj (.row false 34 1 (List.map enc fs))),(.obj (.row false 3 1 (List.map enc l++List.drop 0 (List.take 1 [Sh.co (Sh.int .i64) (WY y1)]))))])))))))else((List.length (List.map enc l)==r)=true∧((List.length (List.map enc fs)==q&&q==q&&decide ((q+List.length (List.drop 0 (List.take 1 [PV.sl 1 false (List.drop 0 (List.take r (List.map enc l)))])))*24<=1099511627776)&&decide (q+List.length (List.drop 0 (List.take 1 [PV.sl 1 false (List.drop 0 (List.take r (List.map enc l)))]))<=1099511627776))=true∧(At Z7 0 (Za ZT G) ZV 0 91 [(1,(ZM vs)),(6,(.row 0 (q+List.length (List.drop 0 (List.take 1 [PV.sl 1 false (List.drop 0 (List.take r (List.map enc l)))]))) 0 (q+List.length (List.drop 0 (List.take 1 [PV.sl 1 false (List.drop 0 (List.take r (List.map enc l)))]))))),(7,(.pv (.bool bd))),(23,(ZM p)),(24,(Zc (↑(List.length p):Int))),(25,(Zc (IntKind.wrap IntKind.i64 (i+1))))] [(.obj (.row false 34 1 (List.map enc fs++List.drop 0 (List.take 1 [PV.sl 1 false (List.drop 0 (List.take r (List.map enc l)))]))))])))):At Z7 0 (Za ZT G) ZV 1 91 [(6,.row 0 q 0 q),(1,.pv (enc vs)),(7,.pv (.bool bd)),(23,.pv (enc p)),(24,.pv (.int .i64 p.length)),(25,.pv (.int .i64 i)),(33,.pv (enc ns)),(34,.pv (.int .i64 ns.length)),(35,.pv (.int .i64 j)),(10,.row 1 r 0 r)] [.obj (.row false 34 1 (fs.map enc)),.obj (.row false 3 1 (l.map enc))]:=At.tp (.lit (.ask (.req (Xa (Str) (.lit (.req (.keep (.lit (.ask (.nil) (.req (Xa (Coef) (.lit (.ask (ZK 7 (.req (.lit (.nil)))) (ZK 3 (.ask (ZK 4 (.req (.lit (.nil)))) (ZK 5 (.req (.lit (.nil))))))))))))))))) (.req (ZK 2 (.req (.lit (.nil))))))) h (by kernel_rfl)
theorem b5u{G:PV->Prop}(p:List Mono)(vs:List Coef)(i:Int)(q:Nat)(fs:List (List Int))(h:if (decide (i<(↑q:Int)))=true then(decide (0<=i)&&decide (0+Int.toNat i<q)&&List.length (List.map enc fs)==q)=true∧((List.length (List.map enc fs)==q&&decide (0+Int.toNat i<List.length (List.map enc fs)))=true∧((Jz [Sh.sl 1] (PV.cells (List.getD (List.map enc fs) (0+Int.toNat i) default)))=true∧((Go.Pl.preT (fun(x:List Int×Unit)=>Zr x.1) [(.sl 1 (PV.asT (List.getD (PV.cells (List.getD (List.map enc fs) (0+Int.toNat i) default)) 0 default)) (PV.asXs (List.getD (PV.cells (List.getD (List.map enc fs) (0+Int.toNat i) default)) 0 default)))])=true∧(Yk (fun(x:List Int×Unit)=>Xn x.1) [(.sl 1 (PV.asT (List.getD (PV.cells (List.getD (List.map enc fs) (0+Int.toNat i) default)) 0 default)) (PV.asXs (List.getD (PV.cells (List.getD (List.map enc fs) (0+Int.toNat i) default)) 0 default)))] fun y0:Int×Int=>if (y0.2 != 0)=true then G ((.tup [(.int .i64 0),(.int .i64 2)]))else(At Z7 0 (Za ZT G) ZV 2 91 [(15,(.row 0 1 0 1)),(69,(.row 1 q 0 q)),(70,(Zc (↑q:Int))),(71,(Zc (IntKind.wrap IntKind.i64 (i+1))))] [(.obj (.row false 3 1 [(.int .i64 y0.1)])),(.obj (.row false 34 1 (List.map enc fs)))])))))else(Yk (fun(x:List Int×Unit)=>Xr x.1) [(.sl 0 true [])] fun y1:Int×Int=>G ((.tup [(.int .i64 y1.1),(.int .i64 y1.2)])))):At Z7 0 (Za ZT G) ZV 2 91 [(15,.pv (.sl 0 true [])),(69,.row 0 q 0 q),(70,.pv (.int .i64 q)),(71,.pv (.int .i64 i))] [.obj (.row false 34 1 (fs.map enc))]:=At.tp (.lit (.ask (.req (.keep (.req (.req (.req (Yj (Int×Int) (.lit (.ask (.nil) (Yo 6))))))))) (.lit (Yj (Int×Int) (.nil))))) h (by kernel_rfl)
theorem MC{G:PV->Prop}(p:List Mono)(vs:List Coef)(i:Int)(q:Nat)(fs:List (List Int))(r:Nat)(ps:List Int)(h:if (decide (i<(↑q:Int)))=true then(decide (0<=i)&&decide (0+Int.toNat i<q)&&List.length (List.map enc fs)==q)=true∧((List.length (List.map enc fs)==q&&decide (0+Int.toNat i<List.length (List.map enc fs)))=true∧((Jz [Sh.sl 1] (PV.cells (List.getD (List.map enc fs) (0+Int.toNat i) default)))=true∧((Go.Pl.preT (fun(x:List Int×Unit)=>Zr x.1) [(.sl 1 (PV.asT (List.getD (PV.cells (List.getD (List.map enc fs) (0+Int.toNat i) default)) 0 default)) (PV.asXs (List.getD (PV.cells (List.getD (List.map enc fs) (0+Int.toNat i) default)) 0 default)))])=true∧(Yk (fun(x:List Int×Unit)=>Xn x.1) [(.sl 1 (PV.asT (List.getD (PV.cells (List.getD (List.map enc fs) (0+Int.toNat i) default)) 0 default)) (PV.asXs (List.getD (PV.cells (List.getD (List.map enc fs) (0+Int.toNat i) default)) 0 default)))] fun y0:Int×Int=>if (y0.2 != 0)=true then G ((.tup [(.int .i64 0),(.int .i64 2)]))else((List.length (List.map enc ps)==r&&r==r&&decide ((r+List.length (List.drop 0 (List.take 1 [enc y0.1])))*8<=1099511627776)&&decide (r+List.length (List.drop 0 (List.take 1 [enc y0.1]))<=1099511627776))=true∧(At Z7 0 (Za ZT G) ZV 2 91 [(15,(.row 0 (r+List.length (List.drop 0 (List.take 1 [enc y0.1]))) 0 (r+List.length (List.drop 0 (List.take 1 [enc y0.1]))))),(69,(.row 1 q 0 q)),(70,(Zc (↑q:Int))),(71,(Zc (IntKind.wrap IntKind.i64 (i+1))))] [(.obj (.row false 3 1 (List.map enc ps++List.drop 0 (List.take 1 [enc y0.1])))),(.obj (.row false 34 1 (List.map enc fs)))]))))))else((List.length (List.map enc ps)==r)=true∧((Go.Pl.preT (fun(x:List Int×Unit)=>decide (List.length x.1<=10000)) [(.sl 1 false (List.drop 0 (List.take r (List.map enc ps))))])=true∧(Yk (fun(x:List Int×Unit)=>Xr x.1) [(.sl 1 false (List.drop 0 (List.take r (List.map enc ps))))] fun y1:Int×Int=>G ((.tup [(.int .i64 y1.1),(.int .i64 y1.2)])))))):At Z7 0 (Za ZT G) ZV 2 91 [(15,.row 0 r 0 r),(69,.row 1 q 0 q),(70,.pv (.int .i64 q)),(71,.pv (.int .i64 i))] [.obj (.row false 3 1 (ps.map enc)),.obj (.row false 34 1 (fs.map enc))]:=At.tp (.lit (.ask (.req (.keep (.req (.req (.req (Yj (Int×Int) (.lit (.ask (.nil) (ZK 2 (.req (.lit (.nil)))))))))))) (.req (.req (Yj (Int×Int) (.nil)))))) h (by kernel_rfl)
theorem b5n{G:PV->Prop}(p:List Mono)(vs:List Coef)(h:Yk (fun(x:List Int×Unit)=>Xr x.1) [(.sl 0 true [])] fun y0:Int×Int=>G ((.tup [(.int .i64 y0.1),(.int .i64 y0.2)]))):At Z7 0 (Za ZT G) ZV 2 91 [(15,.pv (.sl 0 true [])),(69,.pv (.sl 0 true [])),(70,.pv (.int .i64 0)),(71,.pv (.int .i64 0))] []:=At.tp (ZK 3 (Yj (Int×Int) (.nil))) h (by kernel_rfl)
noncomputable def S9:IC:=Wn Proofs.Tryz.f124
def Ti:List IRes:=[]
abbrev d2r:Nat:=14
def Ol:ZU:=Xe []
theorem d6p{G:AV×List AObj×List AObj->Prop}(n:Int)(h:G (((.tup []),([(.box [(.row 2 1 0 1)]),(.box [(.row 3 1 0 1)])],[(.row false 3 1 [(.int .i64 (Int.fdiv n (2 ^ min (Int.toNat 31) (IntKind.bits IntKind.i64))))]),(.row false 3 1 [(.int .i64 (IntKind.wrap IntKind.i64 (↑(BitVec.toNat (BitVec.ofInt (IntKind.bits IntKind.i64) n &&& BitVec.ofInt (IntKind.bits IntKind.i64) 2147483647)):Int)))])])))):Ze Ol 2 (Zq 2 Ti G) S9 [] (Y5 14 [.pv (.int .i64 n),.ptr 0 0,.ptr 1 0] [.box [.pv (.sl 0 true [])],.box [.pv (.sl 0 true [])]]):=Ze.to (Yo 12) h (by kernel_rfl)
theorem d6u{G:AV×List AObj×List AObj->Prop}(n:Int)(q:Nat)(xs ys:List PV)(h:(List.length xs==q&&q==q&&decide ((q+List.length (List.drop 0 (List.take 1 [PV.int .i64 (Int.fdiv n (2 ^ min (Int.toNat 31) (IntKind.bits IntKind.i64)))])))*8<=1099511627776)&&decide (q+List.length (List.drop 0 (List.take 1 [PV.int .i64 (Int.fdiv n (2 ^ min (Int.toNat 31) (IntKind.bits IntKind.i64)))]))<=1099511627776))=true∧((List.length ys==q&&q==q&&decide ((q+List.length (List.drop 0 (List.take 1 [PV.int .i64 (IntKind.wrap IntKind.i64 (↑(BitVec.toNat (BitVec.ofInt (IntKind.bits IntKind.i64) n &&& BitVec.ofInt (IntKind.bits IntKind.i64) 2147483647)):Int))])))*8<=1099511627776)&&decide (q+List.length (List.drop 0 (List.take 1 [PV.int .i64 (IntKind.wrap IntKind.i64 (↑(BitVec.toNat (BitVec.ofInt (IntKind.bits IntKind.i64) n &&& BitVec.ofInt (IntKind.bits IntKind.i64) 2147483647)):Int))]))<=1099511627776))=true∧(G (((.tup []),([(.box [(.row 2 (q+List.length (List.drop 0 (List.take 1 [PV.int .i64 (Int.fdiv n (2 ^ min (Int.toNat 31) (IntKind.bits IntKind.i64)))]))) 0 (q+List.length (List.drop 0 (List.take 1 [PV.int .i64 (Int.fdiv n (2 ^ min (Int.toNat 31) (IntKind.bits IntKind.i64)))]))))]),(.box [(.row 3 (q+List.length (List.drop 0 (List.take 1 [PV.int .i64 (IntKind.wrap IntKind.i64 (↑(BitVec.toNat (BitVec.ofInt (IntKind.bits IntKind.i64) n &&& BitVec.ofInt (IntKind.bits IntKind.i64) 2147483647)):Int))]))) 0 (q+List.length (List.drop 0 (List.take 1 [PV.int .i64 (IntKind.wrap IntKind.i64 (↑(BitVec.toNat (BitVec.ofInt (IntKind.bits IntKind.i64) n &&& BitVec.ofInt (IntKind.bits IntKind.i64) 2147483647)):Int))]))))]),(.row false 3 1 (xs++List.drop 0 (List.take 1 [PV.int .i64 (Int.fdiv n (2 ^ min (Int.toNat 31) (IntKind.bits IntKind.i64)))]))),(.row false 3 1 (ys++List.drop 0 (List.take 1 [PV.int .i64 (IntKind.wrap IntKind.i64 (↑(BitVec.toNat (BitVec.ofInt (IntKind.bits IntKind.i64) n &&& BitVec.ofInt (IntKind.bits IntKind.i64) 2147483647)):Int))])))],[])))))):Ze Ol 4 (Zq 4 Ti G) S9 [] (Y5 14 [.pv (.int .i64 n),.ptr 0 0,.ptr 1 0] [.box [.row 2 q 0 q],.box [.row 3 q 0 q],.row false 3 1 xs,.row false 3 1 ys]):=Ze.to (ZK 3 (.req (ZK 3 (.req (.nil))))) h (by kernel_rfl)
end Go.Pl
namespace Go.Pl
open Go.RowKit
open Enc (enc dec is)
open EncL (encL decL isL)
def Q9(p:List Mono)(i:Nat):List Str:=(p.take i).flatMap (·.v)
theorem OL(p:List Mono){i:Nat}(h:i<p.length):Q9 p (i+1)=Q9 p i++p[i].v:=by
 unfold Q9
 rw[List.take_succ_eq_append_getElem h,List.flatMap_append]
 simp
theorem M6(p:List Mono)(hp : ∀ m∈p,m.v.length<=8): ∀ i,i<=p.length->(Q9 p i).length<=8*i:=by
 intro i
 induction i with
 | zero=>intro _;simp[Q9]
 | succ i ih=>
  intro hi
  have:=ih (by omega)
  rw[OL p (by omega),List.length_append]
  have:=hp _ (List.getElem_mem (show i<p.length by omega))
  omega
theorem CV{p:List Mono}(h:Zx p=true):p.length<=60∧ ∀ m∈p,m.v.length<=8:=by
 unfold Zx at h
 simp only[Bool.and_eq_true,decide_eq_true_eq]at h
 refine⟨h.1.1,fun m hm=> ?_⟩
 have:=List.all_eq_true.1 h.1.2 m hm
 unfold Xg at this
 simp only[Bool.and_eq_true,decide_eq_true_eq]at this
 exact this.1.1.2
theorem b9e(l:List Str):List.map QZ (List.map (enc:Str->PV) l)=l.map (·.s):=by
 rw[List.map_map];rfl
theorem d3a(l:List (List UInt8)):List.map QZ (List.map PV.str l)=l:=by
 rw[List.map_map];exact(List.map_congr_left (fun _ _=>rfl)).trans (List.map_id _)
theorem a0y(l:List (List UInt8)):(Vv l).length=l.length:=(List.mergeSort_perm l _).length_eq
def pvW(p:List Mono):AV×List AObj×List AObj:=if (Ww p).isEmpty then(.pv (.sl 0 true []),[],[])else LW [.pv (enc p)] []
theorem a7n(p:List Mono)(hp:Zx p=true): ∀ (k i:Nat),k+i=p.length ->
  if (Q9 p i).isEmpty then At WJ 0 (Zq 0 XN fun r=>r=pvW p) XT 0 24 [(3,.pv (.sl 0 true [])),(9,.pv (enc p)),(10,.pv (.int .i64 p.length)),(11,.pv (.int .i64 i))] []
  else At WJ 0 (Zq 0 XN fun r=>r=pvW p) XT 0 24 [(3,.row 0 (Q9 p i).length 0 (Q9 p i).length),(9,.pv (enc p)),(10,.pv (.int .i64 p.length)),(11,.pv (.int .i64 i))] [.obj (.row false 9 1 ((Q9 p i).map enc))]:=by
 obtain⟨hl,hm⟩:=CV hp
 intro k
 induction k with
 | zero=>
  intro i hi
  obtain rfl:i=p.length:=by omega
  have e:Q9 p p.length=Ww p:=by unfold Q9 Ww;rw[List.take_length]
  rw[e]
  cases hc:(Ww p).isEmpty
  ·rw[if_neg (by simp)]
   have hlen:(Ww p).length<=480:=by have:=M6 p hm p.length (Nat.le_refl _);rw[e]at this;omega
   refine NU p p.length _ (Ww p) (ZG (Yt (by omega)) ⟨?_,?_,?_⟩)
   ·show((Ww p).length==((Ww p).map (enc:Str->PV)).length&&(Ww p).length==(Ww p).length&&((Ww p).map (enc:Str->PV)).all Cg&&decide ((Ww p).length<4611686018427387904))=true
    have:((Ww p).map (enc:Str->PV)).all Cg=true:=by rw[List.all_map];exact List.all_eq_true.2 fun _ _=>rfl
    rw[this,List.length_map,decide_eq_true (by omega)];simp
   ·rw[b9e]
    show((Ww p).length==((Vv ((Ww p).map (·.s))).map PV.str).length&&(Ww p).length==(Ww p).length&&((Vv ((Ww p).map (·.s))).map PV.str).all Cg&&decide ((Ww p).length<4611686018427387904))=true
    have:((Vv ((Ww p).map (·.s))).map PV.str).all Cg=true:=by rw[List.all_map];exact List.all_eq_true.2 fun _ _=>rfl
    rw[this,List.length_map,a0y,List.length_map,decide_eq_true (by omega)];simp
   ·rw[b9e,d3a]
    unfold pvW
    rw[hc,if_neg (by simp)]
    show _=(AV.row 0 (XM (dec (enc p:PV))).length 0 (Lib.compact (XM (dec (enc p:PV)))).length,[],[AObj.row false 9 1 ((UG (XM (dec (enc p:PV)))).map .str)])
    rw[Enc.dec_enc]
    have:(XM p).length=(Ww p).length:=by unfold XM;rw[a0y,List.length_map]
    rw[this]
    rfl
  ·rw[if_pos rfl]
   refine Ma p p.length (ZG (Yt (by omega)) ?_)
   unfold pvW
   rw[hc,if_pos rfl]
 | succ k ih=>
  intro i hi
  have hlt:i<p.length:=by omega
  have h1:=ih (i+1) (by omega)
  have hmi:=hm _ (List.getElem_mem hlt)
  have hoi:=M6 p hm i (by omega)
  rw[OL p hlt]at h1
  cases hc:(Q9 p i).isEmpty
  ·rw[if_neg (by simp)]
   have hc2:(Q9 p i++p[i].v).isEmpty=false:=by
    rw[List.isEmpty_eq_false_iff]at hc ⊢
    simp[hc]
   rw[hc2,if_neg (by simp)]at h1
   refine NU p i _ (Q9 p i) (ZA (Yi hlt) ⟨Zn hlt rfl,Zu hlt ⟨by simp,?_,?_⟩⟩)
   ·show(((Q9 p i).map (enc:Str->PV)).length==(Q9 p i).length&&(Q9 p i).length==(Q9 p i).length&&decide (((Q9 p i).length+(p[i].v.map (enc:Str->PV)).length)*16<=1099511627776)&&decide ((Q9 p i).length+(p[i].v.map (enc:Str->PV)).length<=1099511627776))=true
    rw[List.length_map,List.length_map,decide_eq_true (by omega),decide_eq_true (by omega)];simp
   ·rw[next (by omega)]
    rw[List.length_append,List.map_append]at h1
    have e:(PV.asXs (List.getD (PV.cells (enc p[i])) (0+1) default)).length=p[i].v.length:=by
     show(p[i].v.map (enc:Str->PV)).length=_
     rw[List.length_map]
    rw[e]
    exact h1
  ·rw[if_pos rfl]
   have hnil:Q9 p i=[]:=List.isEmpty_iff.1 hc
   rw[hnil,List.nil_append]at h1
   refine Ma p i (ZA (Yi hlt) ⟨Zn hlt rfl,Zu hlt ⟨by simp,?_⟩⟩)
   show if (p[i].v.map (enc:Str->PV)).isEmpty=true then _ else _
   rw[List.isEmpty_map]
   cases hv:p[i].v.isEmpty
   ·rw[hv,if_neg (by simp)]at h1
    refine ZG (by simp) ⟨?_,?_⟩
    ·show((List.isEmpty ([]:List PV)||0==1)&&decide ((List.length ([]:List PV)+(p[i].v.map (enc:Str->PV)).length)*16<=1099511627776)&&decide (List.length ([]:List PV)+(p[i].v.map (enc:Str->PV)).length<=1099511627776))=true
     rw[List.length_map,decide_eq_true (by simp;omega),decide_eq_true (by simp;omega)];rfl
    ·rw[next (by omega)]
     have e:List.length ([]:List PV)+(PV.asXs (List.getD (PV.cells (enc p[i])) (0+1) default)).length=p[i].v.length:=by
      show 0+(p[i].v.map (enc:Str->PV)).length=_
      rw[List.length_map,Nat.zero_add]
     rw[e]
     exact h1
   ·rw[hv,if_pos rfl]at h1
    refine ZA rfl ?_
    rw[next (by omega)]
    exact h1
theorem NN(p:List Mono)(hs:YD p=true)(hp:Zx p=true):Ze WJ 0 (Zq 0 XN fun r=>r=pvW p) XT [] (Y5 Pm [.pv (enc p)] []):=by
 refine a8q p ⟨Zk (p,()) rfl hs,Zg (p,()) rfl (ZG (by simp[hp]) ?_)⟩
 rw[List.length_map]
 have:=a7n p hp p.length 0 (by omega)
 rw[show(Q9 p 0).isEmpty=true from rfl,if_pos rfl]at this
 exact this
theorem a4d: ∀ args os,KC args os=true->Ze WJ os.length (Zq os.length XN fun r=>r=LW args os) XT [] (Y5 Pm args os):=by
 intro args os h
 unfold KC at h
 split at h
 ·rename_i a
  simp only[Bool.and_eq_true,Bool.not_eq_true']at h
  obtain⟨⟨⟨h1,h2⟩,h3⟩,h4⟩:=h
  obtain⟨p,rfl⟩:=YG h1
  rw[Enc.dec_enc]at h2 h3 h4
  have:=NN p h2 h3
  unfold pvW at this
  rw[h4,if_neg (by simp)]at this
  exact this
 ·cases h
theorem a6v: ∀ args os,Gv args os=true->Ze WJ os.length (Zq os.length XN fun r=>r=Ta args os) XT [] (Y5 Pm args os):=by
 intro args os h
 unfold Gv at h
 split at h
 ·rename_i a
  simp only[Bool.and_eq_true]at h
  obtain⟨⟨h1,h2⟩,h3⟩:=h
  obtain⟨p,rfl⟩:=YG h1
  rw[Enc.dec_enc]at h2 h3
  cases hv:Zx p
  ·exact a8q p ⟨Zk (p,()) rfl h2,Zg (p,()) rfl (ZA (by simp[hv]) rfl)⟩
  ·rw[hv]at h3
   have h3:(Ww p).isEmpty=true:=by simpa using h3
   have:=NN p h2 hv
   unfold pvW at this
   rw[h3,if_pos rfl]at this
   exact this
 ·cases h
theorem d3y: ∀ args os,CB args os=true->Ze b7p os.length (Zq os.length a6t fun r=>r=SL args os) a5x [] (Y5 d8l args os):=by
 intro args os h
 unfold CB at h
 split at h
 ·rename_i x v
  obtain⟨x,rfl⟩:=YG h
  refine e1j x v ?_
  simp only[SL,Enc.dec_enc]
 ·cases h
theorem c8q(l:List Coef)(v:List UInt8)(hl:l.length<=9223372036854775807)(R:AV×List AObj×List AObj)(hR:R=(.pv (.int .i64 (ZL (fun t:Coef=>t.v.s==v) l)),[.box [.pv (.str v)]],[])): ∀ (m i:Nat),m+i=l.length->(∀ j (h:j<l.length),j<i->(l[j].v.s==v)=false) ->
  At RO 1 (Zq 1 D8 fun r=>r=R) Dw 0 19 [(0,.pv (enc l)),(1,.fn 188 [] [.ptr 0 0]),(7,.pv (.int .i64 l.length)),(8,.pv (.int .i64 i))] [.obj (.box [.pv (.str v)])]:=by
 intro m
 induction m with
 | zero=>
  intro i hi hno
  refine c6k l v i (ZG (Yt (by omega)) ?_)
  rw[hR,KG _ _ (fun j hj=>hno j hj (by omega))]
 | succ m ih=>
  intro i hi hno
  have hlt:i<l.length:=by omega
  have ed:(dec (PV.agg (UA (PV.cells (enc l[i])) 0 [Sh.str,Sh.int .i64])):Coef)=l[i]:=Enc.dec_enc l[i]
  refine c6k l v i (ZA (Yi hlt) ⟨Zn hlt rfl,Zu hlt ⟨ZR l[i],?_⟩⟩)
  rw[ed]
  refine WP (fun hb=> ?_) fun hb=> ?_
  ·rw[hR,Kz (fun t:Coef=>t.v.s==v) l i hlt hno hb]
  ·rw[next (by omega)]
   refine ih (i+1) (by omega) fun j hj hji=> ?_
   by_cases e:j=i
   ·subst e;exact hb
   ·exact hno j hj (by omega)
theorem d4n: ∀ args os,Qf 188 args os=true->Ze RO os.length (Zq os.length D8 fun r=>r=SY args os) Dw [] (Y5 d9q args os):=by
 intro args os h
 unfold Qf at h
 split at h
 ·rename_i l g v
  simp only[Bool.and_eq_true,beq_iff_eq,decide_eq_true_eq]at h
  obtain⟨⟨rfl,h1⟩,h2⟩:=h
  obtain⟨l,rfl⟩:=YG h1
  rw[Enc.dec_enc]at h2
  refine e0t l v ?_
  rw[List.length_map]
  exact c8q l v h2 _ (by simp only[SY,Ha,Enc.dec_enc]) l.length 0 (by omega) (fun j hj h=>by omega)
 ·cases h
theorem b2b(l:List Int)(n:Int)(hl:l.length<=9223372036854775807): ∀ (m i:Nat),m+i=l.length->(∀ j (h:j<l.length),j<i->decide (n=l[j])=false) ->
  At D6 0 (Za JG (Zi (ZL (fun x:Int=>decide (n=x)) l))) JJ 0 19 [(0,.pv (enc l)),(1,.pv (enc n)),(7,.pv (.int .i64 l.length)),(8,.pv (.int .i64 i))] []:=by
 intro m
 induction m with
 | zero=>
  intro i hi hno
  refine a9q l n i (ZG (Yt (by omega)) (Ut ?_))
  rw[KG _ _ (fun j hj=>hno j hj (by omega))]
 | succ m ih=>
  intro i hi hno
  have hlt:i<l.length:=by omega
  refine a9q l n i (ZA (Yi hlt) ⟨Zn hlt rfl,Zu hlt (Ko (fun hb=> ?_) fun hb=> ?_)⟩)
  ·have hb:n=l[i]:=hb
   exact Ut (Kz (fun x:Int=>decide (n=x)) l i hlt hno (by simp[hb])).symm
  ·have hb : ¬ n=l[i]:=hb
   rw[next (by omega)]
   refine ih (i+1) (by omega) fun j hj hji=> ?_
   by_cases e:j=i
   ·subst e;simp[hb]
   ·exact hno j hj (by omega)
theorem b9n: ∀ a:List Int×Int×Unit,Zr a.1=true->Ze D6 0 (Za JG (Zi (ZL (fun x:Int=>decide (a.2.1=x)) a.1))) JJ [] (Yn c9h (encL a)):=by
 rintro⟨l,n,⟨⟩⟩ h
 refine d6r l n ?_
 rw[List.length_map]
 exact b2b l n (Zz.1 h) l.length 0 (by omega) (fun j hj h=>by omega)
theorem a7o: ∀ a:List Int×Int×Unit,Zr a.1=true->Ze Rv 0 (Za AC (Zi (a.1.contains a.2.1))) BH [] (Yn b5b (encL a)):=by
 rintro⟨l,n,⟨⟩⟩ h
 refine b8d l n ⟨Zk (l,n,()) rfl h,Zg (l,n,()) rfl (ZW ?_)⟩
 show decide (ZL (fun x:Int=>decide (n=x)) l ≥ 0)=_
 rw[WE,Bool.eq_iff_iff]
 simp[List.any_eq_true]
theorem a6o(l:List Int)(hl:l.length<=9223372036854775807): ∀ (m i:Nat) (o:Int),m+i=l.length ->
  At KH 0 (Za Qq (Zi (Q3 o (l.drop i)))) Kk 0 29 [(4,.pv (.int .i64 o)),(11,.pv (enc l)),(12,.pv (.int .i64 l.length)),(13,.pv (.int .i64 i))] []:=by
 intro m
 induction m with
 | zero=>
  intro i o hi
  rw[List.drop_of_length_le (by omega)]
  exact a0o l o i (ZG (Yt (by omega)) (ZC (x:=(o,(0:Int))) rfl))
 | succ m ih=>
  intro i o hi
  have hlt:i<l.length:=by omega
  rw[List.drop_eq_getElem_cons hlt]
  refine a0o l o i (ZA (Yi hlt) ⟨Zn hlt rfl,Zu hlt (Zg (o,l[i],()) rfl ?_)⟩)
  show if ((X3 o l[i]).2 != 0)=true then _ else _
  rw[Q3]
  by_cases h:(X3 o l[i]).2=0
  ·rw[if_neg (by simp[h]),if_neg (by simp[h]),next (by omega)]
   exact ih (i+1) _ (by omega)
  ·rw[if_pos (by simp[h]),if_pos h]
   exact ZC (x:=((0:Int),(X3 o l[i]).2)) rfl
theorem b5g: ∀ a:List Int×Unit,Zr a.1=true->Ze KH 0 (Za Qq (Zi (Xn a.1))) Kk [] (Yn c1d (encL a)):=by
 rintro⟨l,⟨⟩⟩ h
 refine d0t l ⟨Zk (l,0,()) rfl h,Zg (l,0,()) rfl (WP (fun hc=> ?_) fun hc=> ?_)⟩
 ·have hc:l.contains 0=true:=hc
  show Zi (Xn l) _
  unfold Xn
  rw[hc,if_pos rfl]
  exact ZC (x:=((0:Int),(0:Int))) rfl
 ·have hc:l.contains 0=false:=hc
  show At KH 0 (Za Qq (Zi (Xn l))) _ _ _ _ _
  unfold Xn
  rw[hc,if_neg (by simp),List.length_map]
  exact a6o l (Zz.1 h) l.length 0 1 (by omega)
theorem Jm{α:Type}[Enc α]{l:List α}{i:Nat}(h:i<l.length):List.getD (List.map (enc:α->PV) l) (0+Int.toNat (i:Int)) default=enc l[i]:=by simp[List.getD,h]
def KS(ps:List Int)(o:Option (List Int)):Int×Int:=match o with|none=>(0,2)|some l=>Xr (ps++l)
theorem b2t(p:List Mono)(vs:List Coef)(fs:List (List Int))(hf:fs.length<=60)(hl : ∀ l∈fs,Zr l=true): ∀ (d i:Nat) (ps:List Int),d+i=fs.length->ps.length=i->1<=i ->
  At Z7 0 (Za ZT (Zi (KS ps (Yr (fs.drop i))))) ZV 2 91 [(15,.row 0 i 0 i),(69,.row 1 fs.length 0 fs.length),(70,.pv (.int .i64 fs.length)),(71,.pv (.int .i64 i))] [.obj (.row false 3 1 (ps.map enc)),.obj (.row false 34 1 (fs.map enc))]:=by
 intro d
 induction d with
 | zero=>
  intro i ps hi hps h1
  rw[List.drop_of_length_le (by omega)]
  have hr:KS ps (Yr [])=Xr ps:=by show Xr (ps++[])=_;rw[List.append_nil]
  rw[hr]
  have et:List.drop 0 (List.take i (List.map (enc:Int->PV) ps))=ps.map enc:=by rw[List.drop_zero,List.take_of_length_le (by simp[hps])]
  apply MC (G:=Zi (Xr ps)) p vs i fs.length fs i ps
  refine ZG (Yt (by omega)) ⟨by simp[hps],?_⟩
  rw[et]
  exact⟨Zk (ps,()) rfl (by simp;omega),Zg (ps,()) rfl (ZC (x:=Xr ps) rfl)⟩
 | succ d ih=>
  intro i ps hi hps h1
  have hlt:i<fs.length:=by omega
  have e:=Jm hlt
  rw[List.drop_eq_getElem_cons hlt,Yr]
  apply MC (G:=Zi (KS ps (if (Xn fs[i]).2≠0 then none else(Yr (fs.drop (i+1))).map ((Xn fs[i]).1:: ·)))) p vs i fs.length fs i ps
  apply ZA (Yi hlt)
  rw[e]
  refine⟨by simp;omega,by simp;omega,rfl,Zk (fs[i],()) rfl (hl _ (List.getElem_mem hlt)),Zg (fs[i],()) rfl ?_⟩
  show if ((Xn fs[i]).2 != 0)=true then _ else _
  by_cases h:(Xn fs[i]).2=0
  ·rw[if_neg (by simp[h])]
   have hr:KS ps (if (Xn fs[i]).2≠0 then none else(Yr (fs.drop (i+1))).map ((Xn fs[i]).1:: ·))=KS (ps++[(Xn fs[i]).1]) (Yr (fs.drop (i+1))):=by
    rw[if_neg (by simp[h])]
    cases Yr (fs.drop (i+1))with
    | none=>rfl
    | some l=>show Xr (ps++_::l)=Xr (ps++[_]++l);rw[List.append_assoc];rfl
   rw[hr]
   refine⟨?_,?_⟩
   ·rw[List.length_map,hps]
    show((i==i)&&(i==i)&&decide ((i+1)*8<=1099511627776)&&decide (i+1<=1099511627776))=true
    rw[decide_eq_true (by omega),decide_eq_true (by omega)];simp
   ·rw[next (by omega)]
    have:=ih (i+1) (ps++[(Xn fs[i]).1]) (by omega) (by simp[hps]) (by omega)
    rw[List.map_append]at this
    exact this
  ·rw[if_pos (by simp[h])]
   have hr:KS ps (if (Xn fs[i]).2≠0 then none else(Yr (fs.drop (i+1))).map ((Xn fs[i]).1:: ·))=((0:Int),(2:Int)):=by rw[if_pos h];rfl
   rw[hr]
   exact ZC (x:=((0:Int),(2:Int))) rfl
theorem e3t(p:List Mono)(vs:List Coef)(fs:List (List Int))(hne:0<fs.length)(hf:fs.length<=60)(hl : ∀ l∈fs,Zr l=true):
  At Z7 0 (Za ZT (Zi (KS [] (Yr fs)))) ZV 2 91 [(15,.pv (.sl 0 true [])),(69,.row 0 fs.length 0 fs.length),(70,.pv (.int .i64 fs.length)),(71,.pv (.int .i64 0))] [.obj (.row false 34 1 (fs.map enc))]:=by
 have e:=Jm hne
 have hr:Yr fs=if (Xn fs[0]).2≠0 then none else(Yr (fs.drop 1)).map ((Xn fs[0]).1:: ·):=by
  cases fs with
  | nil=>simp at hne
  | cons l r=>rfl
 rw[hr]
 apply b5u (G:=Zi (KS [] (if (Xn fs[0]).2≠0 then none else(Yr (fs.drop 1)).map ((Xn fs[0]).1:: ·)))) p vs ((0:Nat):Int) fs.length fs
 apply ZA (Yi hne)
 rw[e]
 refine⟨by simp;omega,by simp;omega,rfl,Zk (fs[0],()) rfl (hl _ (List.getElem_mem hne)),Zg (fs[0],()) rfl ?_⟩
 show if ((Xn fs[0]).2 != 0)=true then _ else _
 by_cases h:(Xn fs[0]).2=0
 ·rw[if_neg (by simp[h]),if_neg (by simp[h])]
  have hr:KS [] ((Yr (fs.drop 1)).map ((Xn fs[0]).1:: ·))=KS [(Xn fs[0]).1] (Yr (fs.drop 1)):=by
   cases Yr (fs.drop 1)with
   | none=>rfl
   | some l=>rfl
  rw[hr,next (by omega)]
  exact b2t p vs fs hf hl (fs.length - 1) 1 [(Xn fs[0]).1] (by omega) rfl (by omega)
 ·rw[if_pos (by simp[h]),if_pos h]
  exact ZC (x:=((0:Int),(2:Int))) rfl
theorem e3h(p:List Mono)(vs:List Coef):At Z7 0 (Za ZT (Zi (KS [] (Yr [])))) ZV 2 91 [(15,.pv (.sl 0 true [])),(69,.pv (.sl 0 true [])),(70,.pv (.int .i64 0)),(71,.pv (.int .i64 0))] []:=by
 have hr:KS [] (Yr [])=Xr []:=rfl
 rw[hr]
 apply b5n (G:=Zi (Xr [])) p vs
 exact UV ([],()) rfl (ZC (x:=Xr []) rfl)
def Lc(vs:List Coef)(fs:List (List Int))(bd:Bool)(r:List Mono):Int×Int:=match G6 vs r with
 | none=>(0,7)
 | some gs=>if bd||badF gs then(0,2)else KS [] (Yr (fs++gs))
def evH(vs:List Coef)(fs:List (List Int))(bd:Bool)(l:List Int)(ns:List Str)(r:List Mono):Int×Int:=match D5 vs ns with
 | none=>(0,7)
 | some xs=>Lc vs (fs++[l++xs]) (bd||xs.any fun x=> !YR x) r
theorem OB(vs:List Coef)(fs:List (List Int))(bd:Bool)(m:Mono)(r:List Mono):Lc vs fs bd (m::r)=evH vs fs bd [m.c] m.v r:=by
 unfold Lc evH G6
 cases D5 vs m.v with
 | none=>rfl
 | some xs=>
  show(match (G6 vs r).map ((m.c::xs):: ·)with|none=>_|some gs=>_)=Lc vs (fs++[[m.c]++xs]) _ r
  unfold Lc
  cases G6 vs r with
  | none=>rfl
  | some gs=>
   show(if bd||badF ((m.c::xs)::gs)then _ else KS [] (Yr (fs++(m.c::xs)::gs)))=(if (bd||xs.any fun x=> !YR x)||badF gs then _ else KS [] (Yr (fs++[[m.c]++xs]++gs)))
   have e1:badF ((m.c::xs)::gs)=((xs.any fun x=> !YR x)||badF gs):=rfl
   rw[e1,List.append_assoc,Bool.or_assoc]
   rfl
theorem Gx(vs:List Coef)(s:Str)(r:List Str):D5 vs (s::r)=match Wj vs s with|none=>none|some x=>(D5 vs r).map (x:: ·):=rfl
theorem OI(vs:List Coef)(fs:List (List Int))(bd:Bool)(l:List Int)(s:Str)(ns:List Str)(r:List Mono)(x:Int)(h:Wj vs s=some x):evH vs fs bd l (s::ns) r=evH vs fs (bd || !YR x) (l++[x]) ns r:=by
 unfold evH
 rw[Gx,h]
 show(match (D5 vs ns).map (x:: ·)with|none=>_|some xs=>_)=_
 cases D5 vs ns with
 | none=>rfl
 | some xs=>
  show Lc vs (fs++[l++x::xs]) (bd||(x::xs).any fun x=> !YR x) r=Lc vs (fs++[l++[x]++xs]) ((bd || !YR x)||xs.any fun x=> !YR x) r
  rw[List.append_assoc,List.any_cons,Bool.or_assoc]
  rfl
theorem SX(x:Int):(!YR x)=(decide (x < -4611686018427387904)||decide (x>4611686018427387904)):=by
 unfold YR
 by_cases h1:x < -4611686018427387904
 ·rw[decide_eq_true h1,decide_eq_false (show ¬ -4611686018427387904<=x by omega)];rfl
 ·rw[decide_eq_false h1,decide_eq_true (show -4611686018427387904<=x by omega)]
  by_cases h2:x>4611686018427387904
  ·rw[decide_eq_true h2,decide_eq_false (show ¬ x<=4611686018427387904 by omega)];rfl
  ·rw[decide_eq_false h2,decide_eq_true (show x<=4611686018427387904 by omega)];rfl
theorem e3n(p:List Mono)(vs:List Coef)(hv:vs.length<=9223372036854775807)(i:Nat)(hi:i<60)(hip:i<p.length)(ns:List Str)(hn:ns.length<=8)(R:Int×Int)
  (hnext : ∀ (l:List Int) (bd:Bool),l.length<=100->R=Lc vs ([]++[l]) bd (p.drop (i+1))->At Z7 0 (Za ZT (Zi R)) ZV 0 91 [(6,.row 0 1 0 1),(1,.pv (enc vs)),(7,.pv (.bool bd)),(23,.pv (enc p)),(24,.pv (.int .i64 p.length)),(25,.pv (.int .i64 ((i+1:Nat):Int)))] [.obj (.row false 34 1 (([]++[l]).map enc))]) :
  ∀ (d j:Nat) (l:List Int) (bd:Bool),d+j=ns.length->l.length=j+1->R=evH vs [] bd l (ns.drop j) (p.drop (i+1)) ->
  At Z7 0 (Za ZT (Zi R)) ZV 1 91 [(6,.pv (.sl 0 true [])),(1,.pv (enc vs)),(7,.pv (.bool bd)),(23,.pv (enc p)),(24,.pv (.int .i64 p.length)),(25,.pv (.int .i64 i)),(33,.pv (enc ns)),(34,.pv (.int .i64 ns.length)),(35,.pv (.int .i64 j)),(10,.row 0 (j+1) 0 (j+1))] [.obj (.row false 3 1 (l.map enc))]:=by
 intro d
 induction d with
 | zero=>
  intro j l bd hd hl hR
  rw[List.drop_of_length_le (by omega)]at hR
  have hR2:R=Lc vs ([]++[l]) bd (p.drop (i+1)):=by
   rw[hR]
   show Lc vs ([]++[l++[]]) (bd||false) _=_
   rw[List.append_nil,Bool.or_false]
  have hn0:=hnext l bd (by omega) hR2
  have et:(PV.sl 1 false (List.drop 0 (List.take (j+1) (List.map (enc:Int->PV) l))))=enc l:=by rw[List.drop_zero,List.take_of_length_le (by simp[hl])];rfl
  apply MH (G:=Zi R) p vs bd i j ns (j+1) l
  apply ZG (Yt (by omega))
  refine⟨by simp[hl],?_⟩
  rw[et,next (by omega)]
  exact hn0
 | succ d ih=>
  intro j l bd hd hl hR
  have hlt:j<ns.length:=by omega
  rw[List.drop_eq_getElem_cons hlt]at hR
  have ecd:Ha (enc vs)=vs:=Enc.dec_enc vs
  apply MH (G:=Zi R) p vs bd i j ns (j+1) l
  apply ZA (Yi hlt)
  refine⟨Zn hlt rfl,Zu hlt ?_⟩
  have e0:PV.asStr (List.getD (PV.cells (enc ns[j])) 0 default)=ns[j].s:=rfl
  rw[e0,ecd]
  refine⟨by show Qf _ [.pv (enc vs),_] _=true;simp[Qf,hv],?_⟩
  rcases F8 vs ns[j]with ⟨h1,h2⟩|⟨k,hk,h1,h2⟩
  ·have:R=(0,7):=by rw[hR];unfold evH;rw[Gx,h2]
   rw[this]
   exact ZA (by simpa using h1) (ZC (x:=((0:Int),(7:Int))) rfl)
  ·rw[h1]
   rw[OI vs _ _ _ _ _ _ _ h2]at hR
   have hq : ∀ bd',(bd || !YR vs[k].c)=bd'->At Z7 0 (Za ZT (Zi R)) ZV 1 91 [(6,.pv (.sl 0 true [])),(1,.pv (enc vs)),(7,.pv (.bool bd')),(23,.pv (enc p)),(24,.pv (.int .i64 p.length)),(25,.pv (.int .i64 i)),(33,.pv (enc ns)),(34,.pv (.int .i64 ns.length)),(35,.pv (.int .i64 ((j+1:Nat):Int))),(10,.row 0 (j+1+1) 0 (j+1+1))] [.obj (.row false 3 1 ((l++[vs[k].c]).map enc))]:=fun bd' hb=>ih (j+1) (l++[vs[k].c]) bd' (by omega) (by simp[hl]) (by rw[<- hb];exact hR)
   have hap:(List.length (List.map (enc:Int->PV) l)==j+1&&(j+1==j+1)&&decide (((j+1)+List.length (List.drop 0 (List.take 1 [PV.int .i64 vs[k].c])))*8<=1099511627776)&&decide ((j+1)+List.length (List.drop 0 (List.take 1 [PV.int .i64 vs[k].c]))<=1099511627776))=true:=by
    rw[List.length_map,hl]
    show((j+1==j+1)&&(j+1==j+1)&&decide (((j+1)+1)*8<=1099511627776)&&decide ((j+1)+1<=1099511627776))=true
    rw[decide_eq_true (by omega),decide_eq_true (by omega)];simp
   refine ZG (by simp) ⟨Zn hk rfl,Zu hk ?_⟩
   rw[next (by omega)]
   rw[List.map_append]at hq
   refine WP (fun hb=>⟨hap,hq true (by rw[hb];rfl)⟩) fun hb=>XJ (fun h3=>⟨hap,hq true ?_⟩) fun h3=>⟨hap,hq _ ?_⟩
   ·have h3:vs[k].c < -4611686018427387904:=h3
    rw[SX,decide_eq_true h3,hb];rfl
   ·have h3 : ¬ vs[k].c < -4611686018427387904:=h3
    rw[SX,decide_eq_false h3,hb];rfl
theorem e3c(p:List Mono)(vs:List Coef)(hv:vs.length<=9223372036854775807)(fs:List (List Int))(hfl:fs.length<=60)(i:Nat)(hi:i<60)(hip:i<p.length)(ns:List Str)(hn:ns.length<=8)(R:Int×Int)
  (hnext : ∀ (l:List Int) (bd:Bool),l.length<=100->R=Lc vs (fs++[l]) bd (p.drop (i+1))->At Z7 0 (Za ZT (Zi R)) ZV 0 91 [(6,.row 0 (fs.length+1) 0 (fs.length+1)),(1,.pv (enc vs)),(7,.pv (.bool bd)),(23,.pv (enc p)),(24,.pv (.int .i64 p.length)),(25,.pv (.int .i64 ((i+1:Nat):Int)))] [.obj (.row false 34 1 ((fs++[l]).map enc))]) :
  ∀ (d j:Nat) (l:List Int) (bd:Bool),d+j=ns.length->l.length=j+1->R=evH vs fs bd l (ns.drop j) (p.drop (i+1)) ->
  At Z7 0 (Za ZT (Zi R)) ZV 1 91 [(6,.row 0 fs.length 0 fs.length),(1,.pv (enc vs)),(7,.pv (.bool bd)),(23,.pv (enc p)),(24,.pv (.int .i64 p.length)),(25,.pv (.int .i64 i)),(33,.pv (enc ns)),(34,.pv (.int .i64 ns.length)),(35,.pv (.int .i64 j)),(10,.row 1 (j+1) 0 (j+1))] [.obj (.row false 34 1 (fs.map enc)),.obj (.row false 3 1 (l.map enc))]:=by
 intro d
 induction d with
 | zero=>
  intro j l bd hd hl hR
  rw[List.drop_of_length_le (by omega)]at hR
  have hR2:R=Lc vs (fs++[l]) bd (p.drop (i+1)):=by
   rw[hR]
   show Lc vs (fs++[l++[]]) (bd||false) _=_
   rw[List.append_nil,Bool.or_false]
  have hn0:=hnext l bd (by omega) hR2
  have et:(PV.sl 1 false (List.drop 0 (List.take (j+1) (List.map (enc:Int->PV) l))))=enc l:=by rw[List.drop_zero,List.take_of_length_le (by simp[hl])];rfl
  apply N7 (G:=Zi R) p vs bd i j ns (j+1) l fs.length fs
  apply ZG (Yt (by omega))
  refine⟨by simp[hl],?_,?_⟩
  ·rw[et,List.length_map]
   show((fs.length==fs.length)&&(fs.length==fs.length)&&decide ((fs.length+1)*24<=1099511627776)&&decide (fs.length+1<=1099511627776))=true
   rw[decide_eq_true (by omega),decide_eq_true (by omega)];simp
  ·rw[et,next (by omega)]
   rw[List.map_append]at hn0
   exact hn0
 | succ d ih=>
  intro j l bd hd hl hR
  have hlt:j<ns.length:=by omega
  rw[List.drop_eq_getElem_cons hlt]at hR
  have ecd:Ha (enc vs)=vs:=Enc.dec_enc vs
  apply N7 (G:=Zi R) p vs bd i j ns (j+1) l fs.length fs
  apply ZA (Yi hlt)
  refine⟨Zn hlt rfl,Zu hlt ?_⟩
  have e0:PV.asStr (List.getD (PV.cells (enc ns[j])) 0 default)=ns[j].s:=rfl
  rw[e0,ecd]
  refine⟨by show Qf _ [.pv (enc vs),_] _=true;simp[Qf,hv],?_⟩
  rcases F8 vs ns[j]with ⟨h1,h2⟩|⟨k,hk,h1,h2⟩
  ·have:R=(0,7):=by rw[hR];unfold evH;rw[Gx,h2]
   rw[this]
   exact ZA (by simpa using h1) (ZC (x:=((0:Int),(7:Int))) rfl)
  ·rw[h1]
   rw[OI vs _ _ _ _ _ _ _ h2]at hR
   have hq : ∀ bd',(bd || !YR vs[k].c)=bd'->At Z7 0 (Za ZT (Zi R)) ZV 1 91 [(6,.row 0 fs.length 0 fs.length),(1,.pv (enc vs)),(7,.pv (.bool bd')),(23,.pv (enc p)),(24,.pv (.int .i64 p.length)),(25,.pv (.int .i64 i)),(33,.pv (enc ns)),(34,.pv (.int .i64 ns.length)),(35,.pv (.int .i64 ((j+1:Nat):Int))),(10,.row 1 (j+1+1) 0 (j+1+1))] [.obj (.row false 34 1 (fs.map enc)),.obj (.row false 3 1 ((l++[vs[k].c]).map enc))]:=fun bd' hb=>ih (j+1) (l++[vs[k].c]) bd' (by omega) (by simp[hl]) (by rw[<- hb];exact hR)
   have hap:(List.length (List.map (enc:Int->PV) l)==j+1&&(j+1==j+1)&&decide (((j+1)+List.length (List.drop 0 (List.take 1 [PV.int .i64 vs[k].c])))*8<=1099511627776)&&decide ((j+1)+List.length (List.drop 0 (List.take 1 [PV.int .i64 vs[k].c]))<=1099511627776))=true:=by
    rw[List.length_map,hl]
    show((j+1==j+1)&&(j+1==j+1)&&decide (((j+1)+1)*8<=1099511627776)&&decide ((j+1)+1<=1099511627776))=true
    rw[decide_eq_true (by omega),decide_eq_true (by omega)];simp
   refine ZG (by simp) ⟨Zn hk rfl,Zu hk ?_⟩
   rw[next (by omega)]
   rw[List.map_append]at hq
   refine WP (fun hb=>⟨hap,hq true (by rw[hb];rfl)⟩) fun hb=>XJ (fun h3=>⟨hap,hq true ?_⟩) fun h3=>⟨hap,hq _ ?_⟩
   ·have h3:vs[k].c < -4611686018427387904:=h3
    rw[SX,decide_eq_true h3,hb];rfl
   ·have h3 : ¬ vs[k].c < -4611686018427387904:=h3
    rw[SX,decide_eq_false h3,hb];rfl
theorem c8f(vs:List Coef)(fs:List (List Int))(bd:Bool):Lc vs fs bd []=if bd then(0,2)else KS [] (Yr fs):=by
 show(if bd||badF []then _ else KS [] (Yr (fs++[])))=_
 have:badF []=false:=rfl
 rw[this,Bool.or_false,List.append_nil]
theorem a3d(p:List Mono)(vs:List Coef)(hp:Zx p=true)(hv:vs.length<=9223372036854775807): ∀ (d i:Nat) (fs:List (List Int)) (bd:Bool),d+i=p.length->fs.length=i->1<=i->(∀ l∈fs,l.length<=100) ->
  At Z7 0 (Za ZT (Zi (Lc vs fs bd (p.drop i)))) ZV 0 91 [(6,.row 0 fs.length 0 fs.length),(1,.pv (enc vs)),(7,.pv (.bool bd)),(23,.pv (enc p)),(24,.pv (.int .i64 p.length)),(25,.pv (.int .i64 i))] [.obj (.row false 34 1 (fs.map enc))]:=by
 obtain⟨hpl,hpm⟩:=CV hp
 intro d
 induction d with
 | zero=>
  intro i fs bd hi hfi h1 hls
  rw[List.drop_of_length_le (by omega),c8f]
  apply NM (G:=Zi (if bd then((0:Int),(2:Int))else KS [] (Yr fs))) p vs bd i fs.length fs
  apply ZG (Yt (by omega))
  refine WP (fun hb=> ?_) fun hb=> ?_
  ·rw[hb,if_pos rfl]
   exact ZC (x:=((0:Int),(2:Int))) rfl
  ·rw[hb,if_neg (by simp),Nat.sub_zero]
   exact e3t p vs fs (by omega) (by omega) fun l hl=>Zz.2 (by have:=hls l hl;omega)
 | succ d ih=>
  intro i fs bd hi hfi h1 hls
  have hlt:i<p.length:=by omega
  have hm:=hpm _ (List.getElem_mem hlt)
  rw[List.drop_eq_getElem_cons hlt,OB]
  apply NM (G:=Zi (evH vs fs bd [p[i].c] p[i].v (p.drop (i+1)))) p vs bd i fs.length fs
  apply ZA (Yi hlt)
  refine⟨Zn hlt rfl,Zu hlt ?_⟩
  have:=e3c p vs hv fs (by omega) i (by omega) hlt p[i].v hm (evH vs fs bd [p[i].c] p[i].v (p.drop (i+1))) (fun l bd' hl hR=>by
   rw[hR]
   have:=ih (i+1) (fs++[l]) bd' (by omega) (by simp[hfi]) (by omega) (fun x hx=>by
    rcases List.mem_append.1 hx with hx|hx
    ·exact hls x hx
    ·rw[List.mem_singleton.1 hx];exact hl)
   rw[List.length_append]at this
   exact this) p[i].v.length 0 [p[i].c] bd (by omega) rfl rfl
  have eL:(((PV.asXs (List.getD (PV.cells (enc p[i])) (0+1) default)).length:Nat):Int)=(p[i].v.length:Int):=by
   show(((p[i].v.map (enc:Str->PV)).length:Nat):Int)=_
   rw[List.length_map]
  rw[eL]
  exact this
theorem c8h{p:List Mono}{vs:List Coef}(h:Zx p=true):Lc vs [] false p=Yq p vs:=by
 unfold Lc Yq
 rw[h,if_pos rfl]
 cases G6 vs p with
 | none=>rfl
 | some fs=>
  show(if false||badF fs then _ else KS [] (Yr ([]++fs)))=_
  rw[Bool.false_or,List.nil_append]
  show _=if badF fs then _ else _
  by_cases hb:badF fs=true
  ·rw[if_pos hb,if_pos hb]
  ·rw[if_neg hb,if_neg hb]
   cases Yr fs with
   | none=>rfl
   | some l=>rfl
theorem b3y: ∀ x:List Mono×List Coef×Unit,(YD x.1&&Zr x.2.1)=true->Ze Z7 0 (Za ZT (Zi (Yq x.1 x.2.1))) ZV [] (Yn c0j (encL x)):=by
 rintro⟨p,vs,⟨⟩⟩ h
 simp only[Bool.and_eq_true]at h
 obtain⟨hs,hv⟩:=h
 have hv:=Zz.1 hv
 refine d3r p vs ⟨Zk (p,()) rfl hs,Zg (p,()) rfl ?_⟩
 show if (!(Zx p))=true then _ else _
 cases hp:Zx p
 ·rw[if_pos (by rfl)]
  have:Yq p vs=(0,1):=by unfold Yq;rw[hp,if_neg (by simp)]
  show Zi (Yq p vs) _
  rw[this]
  exact ZC (x:=((0:Int),(1:Int))) rfl
 ·rw[if_neg (by simp)]
  obtain⟨hpl,hpm⟩:=CV hp
  show At Z7 0 (Za ZT (Zi (Yq p vs))) _ _ _ _ _
  rw[<- c8h hp,List.length_map]
  cases hpc:p with
  | nil=>
   have e:Lc vs [] false []=KS [] (Yr []):=by rw[c8f];rfl
   rw[e]
   apply NQ (G:=Zi (KS [] (Yr []))) [] vs false ((0:Nat):Int)
   apply ZG (Yt (by simp))
   exact ZG (by simp) (e3h [] vs)
  | cons m r=>
   have hlt:0<p.length:=by rw[hpc];simp
   have e0:p[0]=m:=by simp[hpc]
   rw[<- hpc]
   have hm:=hpm _ (List.getElem_mem hlt)
   have ed:p=p[0]::p.drop 1:=(List.drop_eq_getElem_cons hlt).symm▸rfl
   have eg:Lc vs [] false p=evH vs [] false [p[0].c] p[0].v (p.drop 1):=by
    rw[<- OB]
    have:=List.drop_eq_getElem_cons hlt
    rw[List.drop_zero]at this
    rw[<- this]
   rw[eg]
   apply NQ (G:=Zi (evH vs [] false [p[0].c] p[0].v (p.drop 1))) p vs false ((0:Nat):Int)
   apply ZA (Yi hlt)
   refine⟨Zn hlt rfl,Zu hlt ?_⟩
   have:=e3n p vs hv 0 (by omega) hlt p[0].v hm (evH vs [] false [p[0].c] p[0].v (p.drop 1)) (fun l bd' hl hR=>by
    rw[hR]
    exact a3d p vs hp hv (p.length - 1) 1 ([]++[l]) bd' (by omega) (by simp) (by omega) (fun x hx=>by
     rw[List.nil_append]at hx
     rw[List.mem_singleton.1 hx];exact hl)) p[0].v.length 0 [p[0].c] false (by omega) rfl rfl
   have eL:(((PV.asXs (List.getD (PV.cells (enc p[0])) (0+1) default)).length:Nat):Int)=(p[0].v.length:Int):=by
    show(((p[0].v.map (enc:Str->PV)).length:Nat):Int)=_
    rw[List.length_map]
   rw[eL]
   exact this
end Go.Pl
namespace Go.Pl
open Go.RowKit
open Enc (enc dec is)
open EncL (encL decL isL)
set_option maxRecDepth 100000
noncomputable def Xq:IC:=icx VU Proofs.Tryz.f57
def XC:List IRes:=[(.cell false 1 6),(.cell false 1 7)]
abbrev b8q:Nat:=77
def Xl:ZU:=Xe [(122,.pure (preT (fun x:List Mono×Unit=>YD x.1)) (Zw (fun x:List Mono×Unit=>Zx x.1))),(123,.own Gv Ta),(116,.pure (preT (fun x:BoxT×List Fact×Bool×NilS×Unit=>ZJ x.1&&Zl x.2.1&&decide (x.2.1.length<=100))) (Zw (fun x:BoxT×List Fact×Bool×NilS×Unit=>Zj x.1 x.2.1 x.2.2.1 []))),(117,.own Y1 XZ),(125,.pure (preT (fun x:List Mono×List Coef×Unit=>YD x.1&&Zr x.2.1)) (Zw (fun x:List Mono×List Coef×Unit=>Yq x.1 x.2.1))),(124,.own QM KJ),(126,.pure (preT (fun x:List Int×List Int×Unit=>decide (x.1.length<=10000)&&decide (x.2.1.length<=10000))) (Zw (fun x:List Int×List Int×Unit=>Bo x.1 x.2.1)))]
theorem d1t{G:PV->Prop}(E:YN)(b:BoxT)(fs:List Fact)(p:List Mono)(h:(Go.Pl.preT (fun(x:List Mono×Unit)=>YD x.1) [(.sl 2 false (List.map enc p))])=true∧(Yk (fun(x:List Mono×Unit)=>Zx x.1) [(.sl 2 false (List.map enc p))] fun y0:Bool=>(Gv [(ZM p)] [])=true∧((Go.Pl.preT (fun(x:BoxT×List Fact×Bool×NilS×Unit)=>ZJ x.1&&Zl x.2.1&&decide (List.length x.2.1<=100)) [(.agg [(.sl 1 false (List.map enc b.v)),(.int .i64 b.m)]),(.sl 3 false (List.map enc fs)),(.bool y0),(.sl 0 true [])])=true∧(Yk (fun(x:BoxT×List Fact×Bool×NilS×Unit)=>Zj x.1 x.2.1 x.2.2.1 []) [(.agg [(.sl 1 false (List.map enc b.v)),(.int .i64 b.m)]),(.sl 3 false (List.map enc fs)),(.bool y0),(.sl 0 true [])] fun y1:Int=>if (y1 != 0)=true then G ((.tup [(.int .i64 0),(.int .i64 y1)]))else((Y1 [(.pv (.agg [(.sl 1 false (List.map enc b.v)),(.int .i64 b.m)])),(.pv (.sl 3 false (List.map enc fs)))] [])=true∧(E 0 ⟨Z4 77 0 [(5,(.ptr 0 0)),(6,(.ptr 1 0)),(7,(.ptr 2 0)),(9,(.ptr 3 0)),(10,(.ptr 4 0)),(11,(.ptr 5 0)),(13,.undef),(14,.undef),(15,.undef),(32,(.fn 177 [] [(.ptr 6 0),(.ptr 7 0)])),(34,.undef),(35,.undef),(36,.undef),(37,.undef),(38,.undef),(39,.undef),(40,.undef),(41,.undef),(42,.undef),(43,.undef),(44,.undef)],[(.obj (.box [(ZM p)])),(.obj (.box [(Zc 0)])),(.obj (.box [(Zc 0)])),(.obj (.box [(.pv (.sl 0 true []))])),(.obj (.box [(.pv (.sl 0 true []))])),(.obj (.box [(.fn 124 [] [(.ptr 3 0),(.ptr 4 0)])])),(.obj (.box [(Y3 b.v),(Zc b.m)])),(.obj (.box [(.pv (.sl 3 false (List.map enc fs)))]))]⟩ (fun x S'=>KZ Xl E 0 (Za XC G) Xq 0 x S'))))))):ZF Xl E 0 (Za XC G) (.inl Xq) [] (Yn 77 [enc b,enc fs,enc p]):=ZF.mp (.req (Yj (Bool) (.req (.keep (.req (Yj (Int) (.lit (.ask (.nil) (.req (.keep (.nil))))))))))) h (by kernel_rfl)
theorem b2g{G:PV->Prop}(E:YN)(b:BoxT)(fs:List Fact)(p:List Mono)(h:Yk (fun(x:List Int×List Int×Unit)=>Bo x.1 x.2.1) [(.sl 1 false [(.int .i64 0),(.int .i64 0)]),(.sl 1 false [(.int .i64 2147483648),(.int .i64 1)])] fun y0:Int×Int=>G ((.tup [(.int .i64 y0.1),(.int .i64 y0.2)]))):AtM Xl E 0 (Za XC G) Xq 0 77 [(6,.ptr 0 0),(7,.ptr 1 0),(9,.ptr 2 0),(10,.ptr 3 0),(16,.pv (.int .i64 0)),(17,.pv (.int .i64 0)),(47,.pv (.int .i64 0)),(48,.pv (.int .i64 0))] [.obj (.box [.pv (.int .i64 0)]),.obj (.box [.pv (.int .i64 0)]),.obj (.box [.pv (.sl 0 true [])]),.obj (.box [.pv (.sl 0 true [])])]:=ZF.mp (ZK 10 (Yj (Int×Int) (.nil))) h (by kernel_rfl)
theorem NB{G:PV->Prop}(E:YN)(b:BoxT)(fs:List Fact)(p:List Mono)(u z i:Int)(n:Nat)(xs ys:List Int)(h:if (decide (i<(↑n:Int)))=true then(decide (0<=i)&&decide (0+Int.toNat i<n)&&List.length (List.map enc xs)==n)=true∧((List.length (List.map enc xs)==n&&decide (0+Int.toNat i<List.length (List.map enc xs)))=true∧((Jz [Sh.int .i64] (PV.cells (List.getD (List.map enc xs) (0+Int.toNat i) default)))=true∧((decide (0<=i)&&decide (0+Int.toNat i<n)&&List.length (List.map enc ys)==n)=true∧((List.length (List.map enc ys)==n&&decide (0+Int.toNat i<List.length (List.map enc ys)))=true∧((Jz [Sh.int .i64] (PV.cells (List.getD (List.map enc ys) (0+Int.toNat i) default)))=true∧(AtM Xl E 0 (Za XC G) Xq 0 77 [(6,(.ptr 0 0)),(7,(.ptr 1 0)),(9,(.ptr 2 0)),(10,(.ptr 3 0)),(16,(Zc (IntKind.wrap IntKind.i64 (u+PV.asInt (List.getD (PV.cells (List.getD (List.map enc xs) (0+Int.toNat i) default)) 0 default))))),(17,(Zc (IntKind.wrap IntKind.i64 (z+PV.asInt (List.getD (PV.cells (List.getD (List.map enc ys) (0+Int.toNat i) default)) 0 default))))),(47,(Zc (↑n:Int))),(48,(Zc (IntKind.wrap IntKind.i64 (i+1))))] [(.obj (.box [(Zc 0)])),(.obj (.box [(Zc 0)])),(.obj (.box [(.row 4 n 0 n)])),(.obj (.box [(.row 5 n 0 n)])),(.obj (.row false 3 1 (List.map enc xs))),(.obj (.row false 3 1 (List.map enc ys)))]))))))else(Yk (fun(x:List Int×List Int×Unit)=>Bo x.1 x.2.1) [(.sl 1 false [(.int .i64 (IntKind.wrap IntKind.i64 (u+Int.fdiv z (2 ^ min (Int.toNat 31) (IntKind.bits IntKind.i64))))),(.int .i64 (IntKind.wrap IntKind.i64 (↑(BitVec.toNat (BitVec.ofInt (IntKind.bits IntKind.i64) z &&& BitVec.ofInt (IntKind.bits IntKind.i64) 2147483647)):Int)))]),(.sl 1 false [(.int .i64 2147483648),(.int .i64 1)])] fun y0:Int×Int=>G ((.tup [(.int .i64 y0.1),(.int .i64 y0.2)])))):AtM Xl E 0 (Za XC G) Xq 0 77 [(6,.ptr 0 0),(7,.ptr 1 0),(9,.ptr 2 0),(10,.ptr 3 0),(16,.pv (.int .i64 u)),(17,.pv (.int .i64 z)),(47,.pv (.int .i64 n)),(48,.pv (.int .i64 i))] [.obj (.box [.pv (.int .i64 0)]),.obj (.box [.pv (.int .i64 0)]),.obj (.box [.row 4 n 0 n]),.obj (.box [.row 5 n 0 n]),.obj (.row false 3 1 (xs.map enc)),.obj (.row false 3 1 (ys.map enc))]:=ZF.mp (.lit (.ask (.req (.keep (.req (.req (.lit (.req (.keep (.req (.req (Yo 2)))))))))) (ZK 8 (Yj (Int×Int) (.nil))))) h (by kernel_rfl)
theorem b4c{G:PV->Prop}(E:YN)(b:BoxT)(fs:List Fact)(p:List Mono)(h:AtM Xl E 0 (Za XC G) Xq 0 77 [(6,(.ptr 0 0)),(7,(.ptr 1 0)),(9,(.ptr 2 0)),(10,(.ptr 3 0)),(16,(Zc 0)),(17,(Zc 0)),(47,(Zc 0)),(48,(Zc 0))] [(.obj (.box [(Zc 0)])),(.obj (.box [(Zc 0)])),(.obj (.box [(.pv (.sl 0 true []))])),(.obj (.box [(.pv (.sl 0 true []))]))]):KZ Xl E 0 (Za XC G) Xq 0 .normal ⟨Z4 77 0 [(5,.ptr 0 0),(6,.ptr 1 0),(7,.ptr 2 0),(9,.ptr 3 0),(10,.ptr 4 0),(11,.ptr 5 0)],[.obj (.box [.pv (enc p)]),.obj (.box [.pv (.int .i64 0)]),.obj (.box [.pv (.int .i64 0)]),.obj (.box [.pv (.sl 0 true [])]),.obj (.box [.pv (.sl 0 true [])]),.obj (.box [.fn 124 [] [.ptr 3 0,.ptr 4 0]])]⟩:=ZF.mp (.nil) h (by kernel_rfl)
theorem b2w{G:PV->Prop}(E:YN)(b:BoxT)(fs:List Fact)(p:List Mono)(n:Nat)(xs ys:List Int)(h:AtM Xl E 0 (Za XC G) Xq 0 77 [(6,(.ptr 0 0)),(7,(.ptr 1 0)),(9,(.ptr 2 0)),(10,(.ptr 3 0)),(16,(Zc 0)),(17,(Zc 0)),(47,(Zc (↑(n - 0):Int))),(48,(Zc 0))] [(.obj (.box [(Zc 0)])),(.obj (.box [(Zc 0)])),(.obj (.box [(.row 4 n 0 n)])),(.obj (.box [(.row 5 n 0 n)])),(.obj (.row false 3 1 (List.map enc xs))),(.obj (.row false 3 1 (List.map enc ys)))]):KZ Xl E 0 (Za XC G) Xq 0 .normal ⟨Z4 77 0 [(5,.ptr 0 0),(6,.ptr 1 0),(7,.ptr 2 0),(9,.ptr 3 0),(10,.ptr 4 0),(11,.ptr 5 0)],[.obj (.box [.pv (enc p)]),.obj (.box [.pv (.int .i64 0)]),.obj (.box [.pv (.int .i64 0)]),.obj (.box [.row 6 n 0 n]),.obj (.box [.row 7 n 0 n]),.obj (.box [.fn 124 [] [.ptr 3 0,.ptr 4 0]]),.obj (.row false 3 1 (xs.map enc)),.obj (.row false 3 1 (ys.map enc))]⟩:=ZF.mp (.nil) h (by kernel_rfl)
theorem a4z{G:PV->Prop}(E:YN)(b:BoxT)(fs:List Fact)(p:List Mono)(h:G ((.tup [(.int .i64 0),(.int .i64 2)]))):KZ Xl E 0 (Za XC G) Xq 0 .ret ⟨Z4 77 0 [(5,.ptr 0 0),(6,.ptr 1 0),(7,.ptr 2 0),(9,.ptr 3 0),(10,.ptr 4 0),(11,.ptr 5 0)],[.obj (.box [.pv (enc p)]),.obj (.box [.pv (.int .i64 0)]),.obj (.box [.pv (.int .i64 2)]),.obj (.box [.pv (.sl 0 true [])]),.obj (.box [.pv (.sl 0 true [])]),.obj (.box [.fn 124 [] [.ptr 3 0,.ptr 4 0]]),.fresh,.fresh]⟩:=ZF.mp (.nil) h (by kernel_rfl)
theorem a4h{G:PV->Prop}(E:YN)(b:BoxT)(fs:List Fact)(p:List Mono)(n:Nat)(xs ys:List Int)(h:G ((.tup [(.int .i64 0),(.int .i64 2)]))):KZ Xl E 0 (Za XC G) Xq 0 .ret ⟨Z4 77 0 [(5,.ptr 0 0),(6,.ptr 1 0),(7,.ptr 2 0),(9,.ptr 3 0),(10,.ptr 4 0),(11,.ptr 5 0)],[.obj (.box [.pv (enc p)]),.obj (.box [.pv (.int .i64 0)]),.obj (.box [.pv (.int .i64 2)]),.obj (.box [.row 6 n 0 n]),.obj (.box [.row 7 n 0 n]),.obj (.box [.fn 124 [] [.ptr 3 0,.ptr 4 0]]),.obj (.row false 3 1 (xs.map enc)),.obj (.row false 3 1 (ys.map enc)),.fresh,.fresh]⟩:=ZF.mp (.nil) h (by kernel_rfl)
def Um:IC:=(.block 1 (s'' [V6 36 (l'' [(.sl 2)] (.t 5)) 0,V6 37 (Cr 13) 0,V6 38 (c'' 125 [(.t 36),(.t 37)]) 0,V6 35 (Cr 38) 2,V6 39 (.extract (.t 35) 0) 2,V6 40 (.extract (.t 35) 1) 2,V6 14 (Cr 39) 2,V6 15 (Cr 40) 2] (.seq (s'' [V6 41 (Cr 15) 0,V6 42 (b'' .neq (.t 41) (z'' 0)) 0] (.cond (.t 42) (s'' [o'' (.store 1 (.t 6) (z'' 0)) 0,o'' (.store 1 (.t 7) (z'' 2)) 0] .ret) .skip)) (.reg [V6 43 (.load false [.any] (.t 11)) 0,V6 44 (Cr 14) 0,V6 45 (.call (.t 43) [(.t 44)]) 0] none))))
def SB:ZU:=Xe [(122,.pure (preT (fun x:List Mono×Unit=>YD x.1)) (Zw (fun x:List Mono×Unit=>Zx x.1))),(123,.own Gv Ta),(116,.pure (preT (fun x:BoxT×List Fact×Bool×NilS×Unit=>ZJ x.1&&Zl x.2.1&&decide (x.2.1.length<=100))) (Zw (fun x:BoxT×List Fact×Bool×NilS×Unit=>Zj x.1 x.2.1 x.2.2.1 []))),(117,.own Y1 XZ),(125,.pure (preT (fun x:List Mono×List Coef×Unit=>YD x.1&&Zr x.2.1)) (Zw (fun x:List Mono×List Coef×Unit=>Yq x.1 x.2.1))),(124,.own QM KJ),(126,.pure (preT (fun x:List Int×List Int×Unit=>decide (x.1.length<=10000)&&decide (x.2.1.length<=10000))) (Zw (fun x:List Int×List Int×Unit=>Bo x.1 x.2.1)))]
theorem b9c{G:ZE->Prop}(E:YN)(p:List Mono)(q:List Int)(vs:List Coef)(h:(Go.Pl.preT (fun(x:List Mono×List Coef×Unit)=>YD x.1&&Zr x.2.1) [(.sl 2 false (List.map enc p)),(.sl 2 false (List.map enc vs))])=true∧(Yk (fun(x:List Mono×List Coef×Unit)=>Yq x.1 x.2.1) [(.sl 2 false (List.map enc p)),(.sl 2 false (List.map enc vs))] fun y0:Int×Int=>if (y0.2 != 0)=true then G ([(.obj (.box [(ZM p)])),(.obj (.box [(Zc 0)])),(.obj (.box [(Zc 2)])),(.obj (.box [(.pv (.sl 0 true []))])),(.obj (.box [(.pv (.sl 0 true []))])),(.obj (.box [(.fn 124 [] [(.ptr 3 0),(.ptr 4 0)])])),.fresh,.fresh])else(E 99 ⟨Z4 77 0 [],[(.obj (.box [(ZM p)])),(.obj (.box [(Zc 0)])),(.obj (.box [(Zc 0)])),(.obj (.box [(.row 6 1 0 1)])),(.obj (.box [(.row 7 1 0 1)])),(.obj (.box [(.fn 124 [] [(.ptr 3 0),(.ptr 4 0)])])),(.obj (.row false 3 1 [(.int .i64 (WI y0.1))])),(.obj (.row false 3 1 [(.int .i64 (Wh y0.1))]))]⟩ (fun x S'=>KZ SB E 6 (fun st=>G st.heap) Um 99 x S')))):ZF SB E 6 (fun st=>G st.heap) (.inl Um) [.seq (.ext 99 [])] ⟨Z4 77 0 [(5,.ptr 0 0),(6,.ptr 1 0),(7,.ptr 2 0),(9,.ptr 3 0),(10,.ptr 4 0),(11,.ptr 5 0),(13,.pv (enc vs)),(33,.pv (enc q)),(34,.pv (enc vs))],[.obj (.box [.pv (enc p)]),.obj (.box [.pv (.int .i64 0)]),.obj (.box [.pv (.int .i64 0)]),.obj (.box [.pv (.sl 0 true [])]),.obj (.box [.pv (.sl 0 true [])]),.obj (.box [.fn 124 [] [.ptr 3 0,.ptr 4 0]])]⟩:=ZF.mh (.req (Yj (Int×Int) (.lit (.ask (.nil) (.lit (.keep (.nil))))))) h (by kernel_rfl)
theorem c0f{G:ZE->Prop}(E:YN)(p:List Mono)(q:List Int)(vs:List Coef)(n:Nat)(xs ys:List Int)(h:(Go.Pl.preT (fun(x:List Mono×List Coef×Unit)=>YD x.1&&Zr x.2.1) [(.sl 2 false (List.map enc p)),(.sl 2 false (List.map enc vs))])=true∧(Yk (fun(x:List Mono×List Coef×Unit)=>Yq x.1 x.2.1) [(.sl 2 false (List.map enc p)),(.sl 2 false (List.map enc vs))] fun y0:Int×Int=>if (y0.2 != 0)=true then G ([(.obj (.box [(ZM p)])),(.obj (.box [(Zc 0)])),(.obj (.box [(Zc 2)])),(.obj (.box [(.row 6 n 0 n)])),(.obj (.box [(.row 7 n 0 n)])),(.obj (.box [(.fn 124 [] [(.ptr 3 0),(.ptr 4 0)])])),(.obj (.row false 3 1 (List.map enc xs))),(.obj (.row false 3 1 (List.map enc ys))),.fresh,.fresh])else((QM [(Zc y0.1),(.ptr 0 0),(.ptr 1 0)] [(.box [(.row 2 n 0 n)]),(.box [(.row 3 n 0 n)]),(.row false 3 1 (List.map enc xs)),(.row false 3 1 (List.map enc ys))])=true∧(E 99 ⟨Z4 77 0 [],[(.obj (.box [(ZM p)])),(.obj (.box [(Zc 0)])),(.obj (.box [(Zc 0)])),(.obj (.box [(.row 6 (n+1) 0 (n+1))])),(.obj (.box [(.row 7 (n+1) 0 (n+1))])),(.obj (.box [(.fn 124 [] [(.ptr 3 0),(.ptr 4 0)])])),(.obj (.row false 3 1 (List.map enc xs++[PV.int .i64 (WI y0.1)]))),(.obj (.row false 3 1 (List.map enc ys++[PV.int .i64 (Wh y0.1)])))]⟩ (fun x S'=>KZ SB E 8 (fun st=>G st.heap) Um 99 x S'))))):ZF SB E 8 (fun st=>G st.heap) (.inl Um) [.seq (.ext 99 [])] ⟨Z4 77 0 [(5,.ptr 0 0),(6,.ptr 1 0),(7,.ptr 2 0),(9,.ptr 3 0),(10,.ptr 4 0),(11,.ptr 5 0),(13,.pv (enc vs)),(33,.pv (enc q)),(34,.pv (enc vs))],[.obj (.box [.pv (enc p)]),.obj (.box [.pv (.int .i64 0)]),.obj (.box [.pv (.int .i64 0)]),.obj (.box [.row 6 n 0 n]),.obj (.box [.row 7 n 0 n]),.obj (.box [.fn 124 [] [.ptr 3 0,.ptr 4 0]]),.obj (.row false 3 1 (xs.map enc)),.obj (.row false 3 1 (ys.map enc))]⟩:=ZF.mh (.req (Yj (Int×Int) (.lit (.ask (.nil) (.req (.keep (.nil))))))) h (by kernel_rfl)
noncomputable def XD:IC:=Xq
def XG:List IRes:=[(.cell false 1 6),(.cell false 1 7)]
abbrev c3r:Nat:=77
def Xk:ZU:=Xe [(122,.pure (preT (fun x:List Mono×Unit=>YD x.1)) (Zw (fun x:List Mono×Unit=>Zx x.1))),(123,.own KC Le),(116,.own VL QH),(117,.own Y1 XZ),(125,.pure (preT (fun x:List Mono×List Coef×Unit=>YD x.1&&Zr x.2.1)) (Zw (fun x:List Mono×List Coef×Unit=>Yq x.1 x.2.1))),(124,.own QM KJ),(126,.pure (preT (fun x:List Int×List Int×Unit=>decide (x.1.length<=10000)&&decide (x.2.1.length<=10000))) (Zw (fun x:List Int×List Int×Unit=>Bo x.1 x.2.1)))]
theorem d4j{G:PV->Prop}(E:YN)(b:BoxT)(fs:List Fact)(p:List Mono)(h:(Go.Pl.preT (fun(x:List Mono×Unit)=>YD x.1) [(.sl 2 false (List.map enc p))])=true∧(Yk (fun(x:List Mono×Unit)=>Zx x.1) [(.sl 2 false (List.map enc p))] fun y0:Bool=>(KC [(ZM p)] [])=true∧((VL [(.pv (.agg [(.sl 1 false (List.map enc b.v)),(.int .i64 b.m)])),(.pv (.sl 3 false (List.map enc fs))),(.pv (.bool y0)),(.row 0 (List.length (Yw (Qu (enc p)))) 0 (List.length (Yw (Qu (enc p)))))] [(.row false 9 1 (List.map enc (Yw (Qu (enc p)))))])=true∧(if (Zj (Oi (PV.agg [enc b.v,enc b.m])) (Bh (enc fs)) y0 (JV (List.map enc (Yw (Qu (enc p))))) != 0)=true then G ((.tup [(.int .i64 0),(.int .i64 (Zj (Oi (PV.agg [enc b.v,enc b.m])) (Bh (enc fs)) y0 (JV (List.map enc (Yw (Qu (enc p)))))))]))else((Y1 [(.pv (.agg [(.sl 1 false (List.map enc b.v)),(.int .i64 b.m)])),(.pv (.sl 3 false (List.map enc fs)))] [])=true∧(E 0 ⟨Z4 77 0 [(5,(.ptr 0 0)),(6,(.ptr 1 0)),(7,(.ptr 2 0)),(9,(.ptr 3 0)),(10,(.ptr 4 0)),(11,(.ptr 5 0)),(13,.undef),(14,.undef),(15,.undef),(32,(.fn 177 [] [(.ptr 6 0),(.ptr 7 0)])),(34,.undef),(35,.undef),(36,.undef),(37,.undef),(38,.undef),(39,.undef),(40,.undef),(41,.undef),(42,.undef),(43,.undef),(44,.undef)],[(.obj (.box [(ZM p)])),(.obj (.box [(Zc 0)])),(.obj (.box [(Zc 0)])),(.obj (.box [(.pv (.sl 0 true []))])),(.obj (.box [(.pv (.sl 0 true []))])),(.obj (.box [(.fn 124 [] [(.ptr 3 0),(.ptr 4 0)])])),(.obj (.box [(Y3 b.v),(Zc b.m)])),(.obj (.box [(.pv (.sl 3 false (List.map enc fs)))]))]⟩ (fun x S'=>KZ Xk E 0 (Za XG G) XD 0 x S'))))))):ZF Xk E 0 (Za XG G) (.inl XD) [] (Yn 77 [enc b,enc fs,enc p]):=ZF.mp (.req (Yj (Bool) (.req (.keep (.req (.keep (.lit (.ask (.nil) (.req (.keep (.nil))))))))))) h (by kernel_rfl)
theorem b3w{G:PV->Prop}(E:YN)(b:BoxT)(fs:List Fact)(p:List Mono)(h:Yk (fun(x:List Int×List Int×Unit)=>Bo x.1 x.2.1) [(.sl 1 false [(.int .i64 0),(.int .i64 0)]),(.sl 1 false [(.int .i64 2147483648),(.int .i64 1)])] fun y0:Int×Int=>G ((.tup [(.int .i64 y0.1),(.int .i64 y0.2)]))):AtM Xk E 0 (Za XG G) XD 0 77 [(6,.ptr 0 0),(7,.ptr 1 0),(9,.ptr 2 0),(10,.ptr 3 0),(16,.pv (.int .i64 0)),(17,.pv (.int .i64 0)),(47,.pv (.int .i64 0)),(48,.pv (.int .i64 0))] [.obj (.box [.pv (.int .i64 0)]),.obj (.box [.pv (.int .i64 0)]),.obj (.box [.pv (.sl 0 true [])]),.obj (.box [.pv (.sl 0 true [])])]:=ZF.mp (ZK 10 (Yj (Int×Int) (.nil))) h (by kernel_rfl)
theorem MP{G:PV->Prop}(E:YN)(b:BoxT)(fs:List Fact)(p:List Mono)(u z i:Int)(n:Nat)(xs ys:List Int)(h:if (decide (i<(↑n:Int)))=true then(decide (0<=i)&&decide (0+Int.toNat i<n)&&List.length (List.map enc xs)==n)=true∧((List.length (List.map enc xs)==n&&decide (0+Int.toNat i<List.length (List.map enc xs)))=true∧((Jz [Sh.int .i64] (PV.cells (List.getD (List.map enc xs) (0+Int.toNat i) default)))=true∧((decide (0<=i)&&decide (0+Int.toNat i<n)&&List.length (List.map enc ys)==n)=true∧((List.length (List.map enc ys)==n&&decide (0+Int.toNat i<List.length (List.map enc ys)))=true∧((Jz [Sh.int .i64] (PV.cells (List.getD (List.map enc ys) (0+Int.toNat i) default)))=true∧(AtM Xk E 0 (Za XG G) XD 0 77 [(6,(.ptr 0 0)),(7,(.ptr 1 0)),(9,(.ptr 2 0)),(10,(.ptr 3 0)),(16,(Zc (IntKind.wrap IntKind.i64 (u+PV.asInt (List.getD (PV.cells (List.getD (List.map enc xs) (0+Int.toNat i) default)) 0 default))))),(17,(Zc (IntKind.wrap IntKind.i64 (z+PV.asInt (List.getD (PV.cells (List.getD (List.map enc ys) (0+Int.toNat i) default)) 0 default))))),(47,(Zc (↑n:Int))),(48,(Zc (IntKind.wrap IntKind.i64 (i+1))))] [(.obj (.box [(Zc 0)])),(.obj (.box [(Zc 0)])),(.obj (.box [(.row 4 n 0 n)])),(.obj (.box [(.row 5 n 0 n)])),(.obj (.row false 3 1 (List.map enc xs))),(.obj (.row false 3 1 (List.map enc ys)))]))))))else(Yk (fun(x:List Int×List Int×Unit)=>Bo x.1 x.2.1) [(.sl 1 false [(.int .i64 (IntKind.wrap IntKind.i64 (u+Int.fdiv z (2 ^ min (Int.toNat 31) (IntKind.bits IntKind.i64))))),(.int .i64 (IntKind.wrap IntKind.i64 (↑(BitVec.toNat (BitVec.ofInt (IntKind.bits IntKind.i64) z &&& BitVec.ofInt (IntKind.bits IntKind.i64) 2147483647)):Int)))]),(.sl 1 false [(.int .i64 2147483648),(.int .i64 1)])] fun y0:Int×Int=>G ((.tup [(.int .i64 y0.1),(.int .i64 y0.2)])))):AtM Xk E 0 (Za XG G) XD 0 77 [(6,.ptr 0 0),(7,.ptr 1 0),(9,.ptr 2 0),(10,.ptr 3 0),(16,.pv (.int .i64 u)),(17,.pv (.int .i64 z)),(47,.pv (.int .i64 n)),(48,.pv (.int .i64 i))] [.obj (.box [.pv (.int .i64 0)]),.obj (.box [.pv (.int .i64 0)]),.obj (.box [.row 4 n 0 n]),.obj (.box [.row 5 n 0 n]),.obj (.row false 3 1 (xs.map enc)),.obj (.row false 3 1 (ys.map enc))]:=ZF.mp (.lit (.ask (.req (.keep (.req (.req (.lit (.req (.keep (.req (.req (Yo 2)))))))))) (ZK 8 (Yj (Int×Int) (.nil))))) h (by kernel_rfl)
theorem b2i{G:PV->Prop}(E:YN)(b:BoxT)(fs:List Fact)(p:List Mono)(h:AtM Xk E 0 (Za XG G) XD 0 77 [(6,(.ptr 0 0)),(7,(.ptr 1 0)),(9,(.ptr 2 0)),(10,(.ptr 3 0)),(16,(Zc 0)),(17,(Zc 0)),(47,(Zc 0)),(48,(Zc 0))] [(.obj (.box [(Zc 0)])),(.obj (.box [(Zc 0)])),(.obj (.box [(.pv (.sl 0 true []))])),(.obj (.box [(.pv (.sl 0 true []))]))]):KZ Xk E 0 (Za XG G) XD 0 .normal ⟨Z4 77 0 [(5,.ptr 0 0),(6,.ptr 1 0),(7,.ptr 2 0),(9,.ptr 3 0),(10,.ptr 4 0),(11,.ptr 5 0)],[.obj (.box [.pv (enc p)]),.obj (.box [.pv (.int .i64 0)]),.obj (.box [.pv (.int .i64 0)]),.obj (.box [.pv (.sl 0 true [])]),.obj (.box [.pv (.sl 0 true [])]),.obj (.box [.fn 124 [] [.ptr 3 0,.ptr 4 0]])]⟩:=ZF.mp (.nil) h (by kernel_rfl)
theorem b4u{G:PV->Prop}(E:YN)(b:BoxT)(fs:List Fact)(p:List Mono)(n:Nat)(xs ys:List Int)(h:AtM Xk E 0 (Za XG G) XD 0 77 [(6,(.ptr 0 0)),(7,(.ptr 1 0)),(9,(.ptr 2 0)),(10,(.ptr 3 0)),(16,(Zc 0)),(17,(Zc 0)),(47,(Zc (↑(n - 0):Int))),(48,(Zc 0))] [(.obj (.box [(Zc 0)])),(.obj (.box [(Zc 0)])),(.obj (.box [(.row 4 n 0 n)])),(.obj (.box [(.row 5 n 0 n)])),(.obj (.row false 3 1 (List.map enc xs))),(.obj (.row false 3 1 (List.map enc ys)))]):KZ Xk E 0 (Za XG G) XD 0 .normal ⟨Z4 77 0 [(5,.ptr 0 0),(6,.ptr 1 0),(7,.ptr 2 0),(9,.ptr 3 0),(10,.ptr 4 0),(11,.ptr 5 0)],[.obj (.box [.pv (enc p)]),.obj (.box [.pv (.int .i64 0)]),.obj (.box [.pv (.int .i64 0)]),.obj (.box [.row 6 n 0 n]),.obj (.box [.row 7 n 0 n]),.obj (.box [.fn 124 [] [.ptr 3 0,.ptr 4 0]]),.obj (.row false 3 1 (xs.map enc)),.obj (.row false 3 1 (ys.map enc))]⟩:=ZF.mp (.nil) h (by kernel_rfl)
theorem a7z{G:PV->Prop}(E:YN)(b:BoxT)(fs:List Fact)(p:List Mono)(h:G ((.tup [(.int .i64 0),(.int .i64 2)]))):KZ Xk E 0 (Za XG G) XD 0 .ret ⟨Z4 77 0 [(5,.ptr 0 0),(6,.ptr 1 0),(7,.ptr 2 0),(9,.ptr 3 0),(10,.ptr 4 0),(11,.ptr 5 0)],[.obj (.box [.pv (enc p)]),.obj (.box [.pv (.int .i64 0)]),.obj (.box [.pv (.int .i64 2)]),.obj (.box [.pv (.sl 0 true [])]),.obj (.box [.pv (.sl 0 true [])]),.obj (.box [.fn 124 [] [.ptr 3 0,.ptr 4 0]]),.fresh,.fresh]⟩:=ZF.mp (.nil) h (by kernel_rfl)
theorem a5r{G:PV->Prop}(E:YN)(b:BoxT)(fs:List Fact)(p:List Mono)(n:Nat)(xs ys:List Int)(h:G ((.tup [(.int .i64 0),(.int .i64 2)]))):KZ Xk E 0 (Za XG G) XD 0 .ret ⟨Z4 77 0 [(5,.ptr 0 0),(6,.ptr 1 0),(7,.ptr 2 0),(9,.ptr 3 0),(10,.ptr 4 0),(11,.ptr 5 0)],[.obj (.box [.pv (enc p)]),.obj (.box [.pv (.int .i64 0)]),.obj (.box [.pv (.int .i64 2)]),.obj (.box [.row 6 n 0 n]),.obj (.box [.row 7 n 0 n]),.obj (.box [.fn 124 [] [.ptr 3 0,.ptr 4 0]]),.obj (.row false 3 1 (xs.map enc)),.obj (.row false 3 1 (ys.map enc)),.fresh,.fresh]⟩:=ZF.mp (.nil) h (by kernel_rfl)
def Qo:IC:=Um
def SI:ZU:=Xe [(122,.pure (preT (fun x:List Mono×Unit=>YD x.1)) (Zw (fun x:List Mono×Unit=>Zx x.1))),(123,.own KC Le),(116,.own VL QH),(117,.own Y1 XZ),(125,.pure (preT (fun x:List Mono×List Coef×Unit=>YD x.1&&Zr x.2.1)) (Zw (fun x:List Mono×List Coef×Unit=>Yq x.1 x.2.1))),(124,.own QM KJ),(126,.pure (preT (fun x:List Int×List Int×Unit=>decide (x.1.length<=10000)&&decide (x.2.1.length<=10000))) (Zw (fun x:List Int×List Int×Unit=>Bo x.1 x.2.1)))]
theorem c4a{G:ZE->Prop}(E:YN)(p:List Mono)(q:List Int)(vs:List Coef)(h:(Go.Pl.preT (fun(x:List Mono×List Coef×Unit)=>YD x.1&&Zr x.2.1) [(.sl 2 false (List.map enc p)),(.sl 2 false (List.map enc vs))])=true∧(Yk (fun(x:List Mono×List Coef×Unit)=>Yq x.1 x.2.1) [(.sl 2 false (List.map enc p)),(.sl 2 false (List.map enc vs))] fun y0:Int×Int=>if (y0.2 != 0)=true then G ([(.obj (.box [(ZM p)])),(.obj (.box [(Zc 0)])),(.obj (.box [(Zc 2)])),(.obj (.box [(.pv (.sl 0 true []))])),(.obj (.box [(.pv (.sl 0 true []))])),(.obj (.box [(.fn 124 [] [(.ptr 3 0),(.ptr 4 0)])])),.fresh,.fresh])else(E 99 ⟨Z4 77 0 [],[(.obj (.box [(ZM p)])),(.obj (.box [(Zc 0)])),(.obj (.box [(Zc 0)])),(.obj (.box [(.row 6 1 0 1)])),(.obj (.box [(.row 7 1 0 1)])),(.obj (.box [(.fn 124 [] [(.ptr 3 0),(.ptr 4 0)])])),(.obj (.row false 3 1 [(.int .i64 (WI y0.1))])),(.obj (.row false 3 1 [(.int .i64 (Wh y0.1))]))]⟩ (fun x S'=>KZ SI E 6 (fun st=>G st.heap) Qo 99 x S')))):ZF SI E 6 (fun st=>G st.heap) (.inl Qo) [.seq (.ext 99 [])] ⟨Z4 77 0 [(5,.ptr 0 0),(6,.ptr 1 0),(7,.ptr 2 0),(9,.ptr 3 0),(10,.ptr 4 0),(11,.ptr 5 0),(13,.pv (enc vs)),(33,.pv (enc q)),(34,.pv (enc vs))],[.obj (.box [.pv (enc p)]),.obj (.box [.pv (.int .i64 0)]),.obj (.box [.pv (.int .i64 0)]),.obj (.box [.pv (.sl 0 true [])]),.obj (.box [.pv (.sl 0 true [])]),.obj (.box [.fn 124 [] [.ptr 3 0,.ptr 4 0]])]⟩:=ZF.mh (.req (Yj (Int×Int) (.lit (.ask (.nil) (.lit (.keep (.nil))))))) h (by kernel_rfl)
theorem c8n{G:ZE->Prop}(E:YN)(p:List Mono)(q:List Int)(vs:List Coef)(n:Nat)(xs ys:List Int)(h:(Go.Pl.preT (fun(x:List Mono×List Coef×Unit)=>YD x.1&&Zr x.2.1) [(.sl 2 false (List.map enc p)),(.sl 2 false (List.map enc vs))])=true∧(Yk (fun(x:List Mono×List Coef×Unit)=>Yq x.1 x.2.1) [(.sl 2 false (List.map enc p)),(.sl 2 false (List.map enc vs))] fun y0:Int×Int=>if (y0.2 != 0)=true then G ([(.obj (.box [(ZM p)])),(.obj (.box [(Zc 0)])),(.obj (.box [(Zc 2)])),(.obj (.box [(.row 6 n 0 n)])),(.obj (.box [(.row 7 n 0 n)])),(.obj (.box [(.fn 124 [] [(.ptr 3 0),(.ptr 4 0)])])),(.obj (.row false 3 1 (List.map enc xs))),(.obj (.row false 3 1 (List.map enc ys))),.fresh,.fresh])else((QM [(Zc y0.1),(.ptr 0 0),(.ptr 1 0)] [(.box [(.row 2 n 0 n)]),(.box [(.row 3 n 0 n)]),(.row false 3 1 (List.map enc xs)),(.row false 3 1 (List.map enc ys))])=true∧(E 99 ⟨Z4 77 0 [],[(.obj (.box [(ZM p)])),(.obj (.box [(Zc 0)])),(.obj (.box [(Zc 0)])),(.obj (.box [(.row 6 (n+1) 0 (n+1))])),(.obj (.box [(.row 7 (n+1) 0 (n+1))])),(.obj (.box [(.fn 124 [] [(.ptr 3 0),(.ptr 4 0)])])),(.obj (.row false 3 1 (List.map enc xs++[PV.int .i64 (WI y0.1)]))),(.obj (.row false 3 1 (List.map enc ys++[PV.int .i64 (Wh y0.1)])))]⟩ (fun x S'=>KZ SI E 8 (fun st=>G st.heap) Qo 99 x S'))))):ZF SI E 8 (fun st=>G st.heap) (.inl Qo) [.seq (.ext 99 [])] ⟨Z4 77 0 [(5,.ptr 0 0),(6,.ptr 1 0),(7,.ptr 2 0),(9,.ptr 3 0),(10,.ptr 4 0),(11,.ptr 5 0),(13,.pv (enc vs)),(33,.pv (enc q)),(34,.pv (enc vs))],[.obj (.box [.pv (enc p)]),.obj (.box [.pv (.int .i64 0)]),.obj (.box [.pv (.int .i64 0)]),.obj (.box [.row 6 n 0 n]),.obj (.box [.row 7 n 0 n]),.obj (.box [.fn 124 [] [.ptr 3 0,.ptr 4 0]]),.obj (.row false 3 1 (xs.map enc)),.obj (.row false 3 1 (ys.map enc))]⟩:=ZF.mh (.req (Yj (Int×Int) (.lit (.ask (.nil) (.req (.keep (.nil))))))) h (by kernel_rfl)
end Go.Pl
namespace Go.Pl
open Go.RowKit
open Enc (enc dec is)
open EncL (encL decL isL)
theorem JU{a b:Int}: ∀ {l:List Int},(∀ x∈l,a<=x∧x<=b)->l.length*a<=l.sum∧l.sum<=l.length*b
 | [],_=>by simp
 | x::l,h=>by
  have h1:=h x (by simp)
  have h2:=JU (l:=l) fun y hy=>h y (by simp[hy])
  rw[List.length_cons,List.sum_cons,Int.natCast_add,Int.add_mul,Int.add_mul]
  simp only[Int.natCast_one,Int.one_mul]
  omega
theorem d9w(n:Int):WI n*2147483648+Wh n=n:=by unfold WI Wh;omega
theorem EW{n:Int}(h:YR n=true): -2147483648<=WI n∧WI n<=2147483648:=by
 unfold YR at h
 simp only[Bool.and_eq_true,decide_eq_true_eq]at h
 unfold WI;omega
theorem a2w(n:Int):0<=Wh n∧Wh n<=2147483647:=by unfold Wh;omega
theorem Cn: ∀ l:List Int,(l.map WI).sum*2147483648+(l.map Wh).sum=l.sum
 | []=>rfl
 | n::l=>by
  have h1:=d9w n
  have h2:=Cn l
  simp only[List.map_cons,List.sum_cons,Int.add_mul]
  omega
theorem Rj{l:List Int}(hl:l.length<=20000)(hr : ∀ x∈l,YR x=true){H L:Int}(hH:H=(l.map WI).sum+(l.map Wh).sum / 2147483648)(hL:L=(l.map Wh).sum % 2147483648):
  Bo [H,L] [2147483648,1]=Xr l:=by
 have h1:=JU (l:=l.map WI) (a:= -2147483648) (b:=2147483648) (by
  intro x hx
  obtain⟨n,hn,rfl⟩:=List.mem_map.1 hx
  exact EW (hr n hn))
 have h2:=JU (l:=l.map Wh) (a:=0) (b:=2147483647) (by
  intro x hx
  obtain⟨n,hn,rfl⟩:=List.mem_map.1 hx
  exact a2w n)
 have h3:=Cn l
 rw[List.length_map]at h1 h2
 have hd:a4y [H,L] [2147483648,1]=l.sum:=by
  show H*2147483648+(L*1+0)=_
  omega
 have ha:l.all YR=true:=List.all_eq_true.2 hr
 have e1:YR H=true:=by
  unfold YR
  rw[decide_eq_true (by omega),decide_eq_true (by omega)];rfl
 have e2:YR L=true:=by
  unfold YR
  rw[decide_eq_true (by omega),decide_eq_true (by omega)];rfl
 unfold Bo Xr
 rw[hd,ha,if_pos (by rfl)]
 have:(List.all [H,L] YR&&List.all [(2147483648:Int),1] YR)=true:=by
  simp only[List.all_cons,List.all_nil,Bool.and_true,e1,e2,Bool.and_eq_true]
  decide
 rw[this]
theorem d0s{l:List Int}:YR (Xr l).1=true:=by
 unfold Xr
 split
 ·rename_i h
  simp only[Bool.and_eq_true]at h
  exact h.2
 ·decide
theorem c4d(p:List Mono)(vs:List Coef):YR (Yq p vs).1=true:=by
 unfold Yq
 split
 ·split
  ·decide
  ·split
   ·decide
   ·split
    ·decide
    ·exact d0s
 ·decide
theorem UK{p:List Mono}{vs:List Str}: ∀ {qs:List (List Int)} {l:List Int},UE p vs qs=some l->l.length=qs.length
 | [],_,h=>by cases h;rfl
 | q::r,l,h=>by
  rw[UE]at h
  split at h
  ·cases h
  ·obtain⟨m,hm,rfl⟩:=Option.map_eq_some_iff.1 h
   simp[UK hm]
theorem Cx{p:List Mono}{vs:List Str}: ∀ {qs:List (List Int)} {l:List Int},UE p vs qs=some l-> ∀ x∈l,YR x=true
 | [],_,h=>by cases h;simp
 | q::r,l,h=>by
  rw[UE]at h
  split at h
  ·cases h
  ·obtain⟨m,hm,rfl⟩:=Option.map_eq_some_iff.1 h
   intro x hx
   rcases List.mem_cons.1 hx with rfl|hx
   ·exact c4d _ _
   ·exact Cx hm x hx
theorem U0{p:List Mono}{vs:List Str}{q:List Int}(hq:(Yq p (Zf vs q)).2=0): ∀ {qs:List (List Int)} {l:List Int},UE p vs qs=some l->UE p vs (qs++[q])=some (l++[(Yq p (Zf vs q)).1])
 | [],_,h=>by cases h;rw[List.nil_append,UE,if_neg (by simp[hq])];rfl
 | q'::r,l,h=>by
  rw[UE]at h
  split at h
  ·cases h
  ·rename_i h2
   obtain⟨m,hm,rfl⟩:=Option.map_eq_some_iff.1 h
   rw[List.cons_append,UE,if_neg h2,U0 hq hm];rfl
theorem Tq{p:List Mono}{vs:List Str}{q:List Int}(hq:(Yq p (Zf vs q)).2≠0){r:List (List Int)}: ∀ (qs:List (List Int)),UE p vs (qs++q::r)=none
 | []=>by rw[List.nil_append,UE,if_pos hq]
 | q'::qs=>by
  rw[List.cons_append,UE,Tq hq qs]
  split <;> rfl
section
variable {α:Type} [Inhabited α] [DecidableEq α]
theorem LK{d:Array α}{x:α}: ∀ {m:Nat},m<=d.size->x∈Lib.compactUpTo d m-> ∃ j,j<m∧x=d[j]!
 | 0,_,h=>by simp[Lib.compactUpTo]at h
 | m+1,hm,h=>by
  rw[Lib.compactUpTo_succ,List.mem_append]at h
  rcases h with h|h
  ·obtain⟨j,h1,h2⟩:=LK (by omega) h;exact⟨j,by omega,h2⟩
  ·split at h
   ·exact⟨m,by omega,by simpa using h⟩
   ·simp at h
theorem FH{d:Array α}: ∀ {m:Nat},m<=d.size-> ∀ j,j<m->d[j]! ∈ Lib.compactUpTo d m
 | 0,_,j,h=>by omega
 | m+1,hm,j,h=>by
  rw[Lib.compactUpTo_succ,List.mem_append]
  by_cases hj:j<m
  ·exact .inl (FH (by omega) j hj)
  ·have:j=m:=by omega
   subst this
   cases hk:Lib.keeps d j
   ·refine .inl ?_
    have h0:j≠0∧d[j]! = d[j - 1]! :=by
     unfold Lib.keeps at hk
     simpa [not_or]using hk
    rw[h0.2]
    exact FH (by omega) (j - 1) (by omega)
   ·right;simp
theorem OE{zs:List α}{x:α}:x∈Lib.compact zs ↔ x∈zs:=by
 unfold Lib.compact
 constructor
 ·intro h
  obtain⟨j,h1,rfl⟩:=LK (by simp) h
  simp[getElem!_pos,h1]
 ·intro h
  obtain⟨j,hj,rfl⟩:=List.getElem_of_mem h
  have:=FH (d:=zs.toArray) (m:=zs.length) (by simp) j hj
  simpa [getElem!_pos,hj]using this
end
theorem b1k{d:Array (List UInt8)}(hs : ∀ i j,i<j->j<d.size->d[i]! <= d[j]!): ∀ {m:Nat},m<=d.size->(Lib.compactUpTo d m).Pairwise (· < ·)
 | 0,_=>by simp[Lib.compactUpTo]
 | m+1,hm=>by
  rw[Lib.compactUpTo_succ,List.pairwise_append]
  refine⟨b1k hs (by omega),by split <;> simp,?_⟩
  intro x hx y hy
  split at hy
  ·rename_i hk
   have hy:y=d[m]! :=by simpa using hy
   subst hy
   obtain⟨j,hj,rfl⟩:=LK (by omega) hx
   have h0:m≠0:=by omega
   have hne:d[m]! ≠ d[m - 1]! :=by
    unfold Lib.keeps at hk
    simpa [h0]using hk
   have h1:d[m - 1]! <= d[m]! :=hs _ _ (by omega) (by omega)
   have h2:d[j]! <= d[m - 1]! :=by
    by_cases e:j=m - 1
    ·rw[e];exact List.le_refl _
    ·exact hs _ _ (by omega) (by omega)
   have h3:d[m - 1]! < d[m]! :=by
    rcases List.le_iff_lt_or_eq.1 h1 with h|h
    ·exact h
    ·exact absurd h.symm hne
   exact Std.lt_of_le_of_lt h2 h3
  ·simp at hy
theorem c2s(ss:List (List UInt8)):(Vv ss).Pairwise (· <= ·):=by
 have:=List.pairwise_mergeSort (le:=fun x y:List UInt8=>decide (x<=y)) (fun a b c h1 h2=>by
  simp only[decide_eq_true_eq]at *;exact List.le_trans h1 h2) (fun a b=>by
  simp only[Bool.or_eq_true,decide_eq_true_eq];exact List.le_total a b) ss
 exact this.imp fun h=>by simpa using h
theorem c7r(ss:List (List UInt8)):(Lib.compact (Vv ss)).Pairwise (· < ·):=by
 unfold Lib.compact
 refine b1k ?_ (by simp)
 intro i j hij hj
 have hj:j<(Vv ss).length:=by simpa using hj
 have:=List.pairwise_iff_getElem.1 (c2s ss) i j (by omega) hj hij
 simpa [getElem!_pos,hj,show i<(Vv ss).length by omega]using this
theorem Bz(p:List Mono)(x:Str):x∈Yw p ↔ x∈Ww p:=by
 unfold Yw
 rw[List.mem_map]
 constructor
 ·rintro⟨s,hs,rfl⟩
  have:=(List.mergeSort_perm _ _).mem_iff.1 (OE.1 hs)
  obtain⟨y,hy,e⟩:=List.mem_map.1 this
  cases y;cases e;exact hy
 ·intro h
  exact⟨x.s,OE.2 ((List.mergeSort_perm _ _).mem_iff.2 (List.mem_map.2 ⟨x,h,rfl⟩)),rfl⟩
theorem b6e(p:List Mono):(Yw p).Pairwise fun x y:Str=>x.s<y.s:=by
 unfold Yw XM
 rw[List.pairwise_map]
 exact c7r _
theorem Rz{s x:Str}: ∀ {l:List Str},x∈Ue l s ↔ x=s∨x∈l
 | []=>by simp[Ue]
 | t::r=>by
  rw[Ue]
  split
  ·rw[List.mem_cons,Rz,List.mem_cons]
   constructor
   ·rintro(h|h|h) <;> simp[h]
   ·rintro(h|h|h) <;> simp[h]
  ·split
   ·rename_i h;subst h
    simp
   ·simp
theorem Es{s:Str}: ∀ {l:List Str},(l.Pairwise fun x y:Str=>x.s<y.s)->(Ue l s).Pairwise fun x y:Str=>x.s<y.s
 | [],_=>by simp[Ue]
 | t::r,h=>by
  have ht:=List.pairwise_cons.1 h
  rw[Ue]
  split
  ·rename_i h1
   refine List.pairwise_cons.2 ⟨fun y hy=> ?_,Es ht.2⟩
   rcases Rz.1 hy with rfl|hy
   ·exact h1
   ·exact ht.1 y hy
  ·split
   ·exact h
   ·rename_i h1 h2
    have h3:s.s<t.s:=by
     rcases List.le_iff_lt_or_eq.1 (List.not_lt.1 h1)with h|h
     ·exact h
     ·exact absurd (by cases s;cases t;simpa using h.symm) h2
    refine List.pairwise_cons.2 ⟨fun y hy=> ?_,h⟩
    rcases List.mem_cons.1 hy with rfl|hy
    ·exact h3
    ·exact List.lt_trans h3 (ht.1 y hy)
theorem ES: ∀ (l o:List Str),(o.Pairwise fun x y:Str=>x.s<y.s)->((l.foldl Ue o).Pairwise fun x y:Str=>x.s<y.s)∧ ∀ x,x∈l.foldl Ue o ↔ x∈l∨x∈o
 | [],o,h=>⟨h,by simp⟩
 | s::l,o,h=>by
  obtain⟨h1,h2⟩:=ES l (Ue o s) (Es h)
  refine⟨h1,fun x=> ?_⟩
  show x∈l.foldl Ue (Ue o s) ↔ _
  rw[h2,Rz,List.mem_cons]
  constructor
  ·rintro(h|h|h) <;> simp[h]
  ·rintro((h|h)|h) <;> simp[h]
theorem a9x: ∀ {a b:List Str},(a.Pairwise fun x y:Str=>x.s<y.s)->(b.Pairwise fun x y:Str=>x.s<y.s)->(∀ x,x∈a ↔ x∈b)->a=b
 | [],[],_,_,_=>rfl
 | [],y::b,_,_,h=>absurd ((h y).2 (by simp)) (by simp)
 | x::a,[],_,_,h=>absurd ((h x).1 (by simp)) (by simp)
 | x::a,y::b,ha,hb,h=>by
  have ha':=List.pairwise_cons.1 ha
  have hb':=List.pairwise_cons.1 hb
  have e:x=y:=by
   rcases List.mem_cons.1 ((h x).1 (by simp))with e|h1
   ·exact e
   ·rcases List.mem_cons.1 ((h y).2 (by simp))with e|h2
    ·exact e.symm
    ·exact absurd (List.lt_trans (hb'.1 x h1) (ha'.1 y h2)) (List.lt_irrefl _)
  subst e
  rw[a9x ha'.2 hb'.2 fun z=> ?_]
  constructor
  ·intro hz
   rcases List.mem_cons.1 ((h z).1 (by simp[hz]))with e|h1
   ·subst e;exact absurd (ha'.1 z hz) (List.lt_irrefl _)
   ·exact h1
  ·intro hz
   rcases List.mem_cons.1 ((h z).2 (by simp[hz]))with e|h1
   ·subst e;exact absurd (hb'.1 z hz) (List.lt_irrefl _)
   ·exact h1
theorem Aa(p:List Mono):Yw p=(Ww p).foldl Ue []:=by
 obtain⟨h1,h2⟩:=ES (Ww p) [] .nil
 exact a9x (b6e p) h1 fun x=>by rw[Bz,h2];simp
theorem d3q{p:List Mono}(h:Zx p=true):Yw p=Y9 p:=by
 rw[Aa];unfold Y9;rw[if_pos h];rfl
theorem b1q{p:List Mono}(h:(Ww p).isEmpty=true):Yw p=[]:=by
 rw[Aa,List.isEmpty_iff.1 h];rfl
theorem c0i{p:List Mono}(h:(Ww p).isEmpty=false):(Yw p).isEmpty=false:=by
 rw[List.isEmpty_eq_false_iff]at h ⊢
 intro e
 obtain⟨x,hx⟩:=List.exists_mem_of_ne_nil _ h
 have:=(Bz p x).2 hx
 rw[e]at this;cases this
theorem b7f(p:List Mono):(Yw p).length<=(Ww p).length:=by
 unfold Yw
 rw[List.length_map]
 refine Nat.le_trans (CY _) ?_
 unfold XM Vv
 rw[(List.mergeSort_perm _ _).length_eq,List.length_map];exact Nat.le_refl _
end Go.Pl
