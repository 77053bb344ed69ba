/-
  Texts of mine that belong together (packed by pack.py), for every input: GWk, QWk, QWe, TyWp, TyWq, QWl, GWr, QWr.
-/
import Derived.Test.YtjfgiaooglnomaaGreatDoorKI2
import Derived.Test.YtjfgiaooglnomaaGreatDoorKI3
import Derived.Test.YtjfgiaooglnomaaGreatDoorKI4
import Derived.KernelRfl
set_option linter.unusedVariables false
set_option linter.unusedSimpArgs false
namespace Go.Pl
open Go.RowKit
open Enc (enc dec is)
open EncL (encL decL isL)
set_option maxRecDepth 100000
def Xn:IC:=(.seq (.reg [⟨(some 3),(.box 5 (.t 0)),0,none⟩,⟨(some 6),(.alloc (.agg [(.int .i64 0),(.sl 0 true []),(.int .i64 0),(.sl 0 true []),(.sl 0 true [])])),1,none⟩,⟨(some 7),(.mv (.c (.int .i64 0))),2,none⟩] none) (.seq (.seq (.reg [⟨(some 13),(.mv (.t 1)),0,none⟩,⟨(some 14),(.bin .num .lss (.t 13) (.c (.int .i64 0))),0,none⟩,⟨(some 15),(.mv (.t 14)),0,none⟩,⟨(some 16),(.mv (.t 2)),0,(some (15,false))⟩,⟨(some 17),(.bin .num .lss (.t 16) (.c (.int .i64 0))),0,(some (15,false))⟩,⟨(some 18),(.pick (.t 15) (.c (.bool true)) (.t 17)),0,none⟩,⟨(some 19),(.mv (.t 18)),0,none⟩,⟨(some 20),(.mv (.t 2)),0,(some (19,false))⟩,⟨(some 21),(.bin .num .gtr (.t 20) (.c (.int .i64 100))),0,(some (19,false))⟩,⟨(some 22),(.pick (.t 19) (.c (.bool true)) (.t 21)),0,none⟩] none) (.cond (.t 22) (.seq (.reg [⟨(some 23),(.build [(.int .i64 0),(.sl 0 true []),(.int .i64 0),(.sl 0 true []),(.sl 0 true [])] []),0,none⟩,⟨none,(.store 5 (.t 6) (.t 23)),0,none⟩,⟨(some 7),(.mv (.c (.int .i64 2))),0,none⟩] none) .ret) .skip)) (.seq (.reg [⟨(some 24),(.load true [(.int .i64),(.sl 1),(.int .i64),(.sl 2),(.sl 5)] (.t 3)),0,none⟩,⟨(some 8),(.alloc (.agg [(.int .i64 0),(.sl 0 true []),(.int .i64 0),(.sl 0 true []),(.sl 0 true [])])),0,none⟩,⟨none,(.store 5 (.t 8) (.t 24)),1,none⟩] none) (.seq (.seq (.reg [⟨(some 25),(.faddr 0 (.t 3)),0,none⟩,⟨(some 26),(.load false [(.int .i64)] (.t 25)),0,none⟩,⟨(some 27),(.bin .num .eql (.t 26) (.c (.int .i64 1))),0,none⟩,⟨(some 28),(.mv (.t 27)),0,none⟩,⟨(some 29),(.faddr 0 (.t 3)),0,(some (28,false))⟩,⟨(some 30),(.load false [(.int .i64)] (.t 29)),0,(some (28,false))⟩,⟨(some 31),(.bin .num .eql (.t 30) (.c (.int .i64 2))),0,(some (28,false))⟩,⟨(some 32),(.pick (.t 28) (.c (.bool true)) (.t 31)),0,none⟩] none) (.cond (.t 32) (.seq (.seq (.reg [⟨(some 33),(.faddr 1 (.t 3)),0,none⟩,⟨(some 34),(.load false [(.sl 1)] (.t 33)),0,none⟩,⟨(some 35),(.len 1 (.t 34)),0,none⟩,⟨(some 36),(.mv (.t 1)),0,none⟩,⟨(some 37),(.bin .num .lss (.t 35) (.t 36)),0,none⟩] none) (.cond (.t 37) (.seq (.reg [⟨(some 38),(.build [(.int .i64 0),(.sl 0 true []),(.int .i64 0),(.sl 0 true []),(.sl 0 true [])] []),0,none⟩,⟨none,(.store 5 (.t 6) (.t 38)),0,none⟩,⟨(some 7),(.mv (.c (.int .i64 2))),0,none⟩] none) .ret) .skip)) (.reg [⟨(some 39),(.faddr 1 (.t 3)),0,none⟩,⟨(some 40),(.load false [(.sl 1)] (.t 39)),0,none⟩,⟨(some 41),(.call (.c (.fn 104)) [(.t 40)]),0,none⟩,⟨(some 42),(.mv (.t 1)),2,none⟩,⟨(some 43),(.mv (.t 2)),2,none⟩,⟨(some 44),(.mksl 3 1 8 (.int .i64 0) (.t 43) (.t 43)),2,none⟩,⟨(some 45),(.call (.c (.fn 103)) [(.t 41),(.t 42),(.t 44)]),3,none⟩,⟨(some 46),(.faddr 1 (.t 8)),5,none⟩,⟨none,(.store 1 (.t 46) (.t 45)),5,none⟩] (some [[],[0],[1,0],[],[],[4],[2,3,5,1,0,4],[0,1,2,3,4,5,6],[7,6,0,1,2,3,4,5]]))) (.reg [⟨(some 47),(.faddr 1 (.t 3)),0,none⟩,⟨(some 48),(.load false [(.sl 1)] (.t 47)),0,none⟩,⟨(some 49),(.call (.c (.fn 104)) [(.t 48)]),0,none⟩,⟨(some 50),(.faddr 1 (.t 8)),2,none⟩,⟨none,(.store 1 (.t 50) (.t 49)),2,none⟩] none))) (.seq (.reg [⟨(some 51),(.faddr 2 (.t 3)),0,none⟩,⟨(some 52),(.faddr 1 (.t 51)),0,none⟩,⟨(some 53),(.load false [(.sl 2)] (.t 52)),0,none⟩,⟨(some 54),(.call (.c (.fn 105)) [(.t 53)]),0,none⟩,⟨(some 55),(.faddr 2 (.t 8)),2,none⟩,⟨(some 56),(.faddr 1 (.t 55)),2,none⟩,⟨none,(.store 1 (.t 56) (.t 54)),2,none⟩] none) (.seq (.reg [⟨(some 57),(.faddr 4 (.t 8)),0,none⟩,⟨none,(.store 1 (.t 57) (.c (.sl 0 true []))),0,none⟩] none) (.seq (.seq (.reg [⟨(some 58),(.faddr 4 (.t 3)),0,none⟩,⟨(some 59),(.load false [(.sl 5)] (.t 58)),0,none⟩,⟨(some 60),(.len 1 (.t 59)),0,none⟩,⟨(some 61),(.mv (.c (.int .i64 0))),0,none⟩] none) (.block 0 (.loop [61,60,59,1,2,6,8] (.seq (.reg [⟨(some 62),(.bin .num .lss (.t 61) (.t 60)),0,none⟩] none) (.seq (.cond (.t 62) .skip (.exit 0)) (.seq (.block 1 (.seq (.reg [⟨(some 63),(.iaddr 5 (.t 59) (.t 61)),0,none⟩,⟨(some 64),(.load true [(.int .i64),(.sl 1),(.int .i64),(.sl 2),(.sl 5)] (.t 63)),0,none⟩,⟨(some 10),(.alloc (.agg [(.int .i64 0),(.sl 0 true []),(.int .i64 0),(.sl 0 true []),(.sl 0 true [])])),0,none⟩,⟨none,(.store 5 (.t 10) (.t 64)),1,none⟩] none) (.seq (.reg [⟨(some 66),(.load true [(.int .i64),(.sl 1),(.int .i64),(.sl 2),(.sl 5)] (.t 10)),0,none⟩,⟨(some 67),(.mv (.t 1)),0,none⟩,⟨(some 68),(.mv (.t 2)),0,none⟩,⟨(some 69),(.call (.c (.fn 32)) [(.t 66),(.t 67),(.t 68)]),0,none⟩,⟨(some 65),(.mv (.t 69)),2,none⟩,⟨(some 70),(.extract (.t 65) 0),2,none⟩,⟨(some 71),(.extract (.t 65) 1),2,none⟩,⟨(some 11),(.alloc (.agg [(.int .i64 0),(.sl 0 true []),(.int .i64 0),(.sl 0 true []),(.sl 0 true [])])),2,none⟩,⟨none,(.store 5 (.t 11) (.t 70)),3,none⟩,⟨(some 12),(.mv (.t 71)),3,none⟩] none) (.seq (.seq (.reg [⟨(some 72),(.mv (.t 12)),0,none⟩,⟨(some 73),(.bin .num .neq (.t 72) (.c (.int .i64 0))),0,none⟩] none) (.cond (.t 73) (.seq (.reg [⟨(some 74),(.build [(.int .i64 0),(.sl 0 true []),(.int .i64 0),(.sl 0 true []),(.sl 0 true [])] []),0,none⟩,⟨(some 75),(.mv (.t 12)),0,none⟩,⟨none,(.store 5 (.t 6) (.t 74)),0,none⟩,⟨(some 7),(.mv (.t 75)),0,none⟩] none) .ret) .skip)) (.reg [⟨(some 76),(.faddr 4 (.t 8)),0,none⟩,⟨(some 77),(.load false [(.sl 5)] (.t 76)),0,none⟩,⟨(some 78),(.load true [(.int .i64),(.sl 1),(.int .i64),(.sl 2),(.sl 5)] (.t 11)),0,none⟩,⟨(some 79),(.bslice 37 5 1 (.agg [(.int .i64 0),(.sl 0 true []),(.int .i64 0),(.sl 0 true []),(.sl 0 true [])]) [(0,(.t 78))]),0,none⟩,⟨(some 80),(.append 37 5 88 (.t 77) (.t 79)),1,none⟩,⟨(some 81),(.faddr 4 (.t 8)),2,none⟩,⟨none,(.store 1 (.t 81) (.t 80)),2,none⟩] none))))) (.reg [⟨(some 82),(.bin .num .add (.t 61) (.c (.int .i64 1))),0,none⟩,⟨(some 61),(.mv (.t 82)),0,none⟩] none))))))) (.seq (.reg [⟨(some 83),(.load true [(.int .i64),(.sl 1),(.int .i64),(.sl 2),(.sl 5)] (.t 8)),0,none⟩,⟨none,(.store 5 (.t 6) (.t 83)),0,none⟩,⟨(some 7),(.mv (.c (.int .i64 0))),0,none⟩] none) .ret))))))))
def XD:List IRes:=[(.cell true 5 6),(.tmp 7)]
abbrev b5f:Nat:=84
def Vh(N:Nat):ZH:=XI [(104,.own (Y0 1) (UH 3 1)),(105,.pure (preT (fun x:List Coef×Unit=>decide (x.1.length<=1048576))) (Zf (fun x:List Coef×Unit=>x.1))),(103,.own (XO 3) Jk),(32,.pure (preT (fun x:Cert×Int×Int×Unit=>(cW x.1&&decide (x.2.1<=1000))&&decide (Zt x.1<N))) (Zf (fun x:Cert×Int×Int×Unit=>Zk x.2.1 x.2.2.1 x.1)))]
theorem b9h{G:PV->Prop}(N:Nat)(k:Int)(l:Lin)(ks:List Cert)(a n:Int)(h:if (decide (a<0))=true then G ((.tup [(.agg [(.int .i64 0),(.sl 0 true []),(.int .i64 0),(.sl 0 true []),(.sl 0 true [])]),(.int .i64 2)]))else(if (decide (n<0))=true then G ((.tup [(.agg [(.int .i64 0),(.sl 0 true []),(.int .i64 0),(.sl 0 true []),(.sl 0 true [])]),(.int .i64 2)]))else(if (decide (n>100))=true then G ((.tup [(.agg [(.int .i64 0),(.sl 0 true []),(.int .i64 0),(.sl 0 true []),(.sl 0 true [])]),(.int .i64 2)]))else(if (k==1)=true then if (decide ((↑(List.length (List.map enc ([]:List Int))):Int)<a))=true then G ((.tup [(.agg [(.int .i64 0),(.sl 0 true []),(.int .i64 0),(.sl 0 true []),(.sl 0 true [])]),(.int .i64 2)]))else((decide (0<=n)&&n==n&&decide (n*(↑8:Int)<=1099511627776)&&decide (n<=1099511627776))=true∧((XO 3 [(.pv (.sl 1 true [])),(.pv (.int .i64 a)),(.row 0 (Int.toNat n) 0 (Int.toNat n))] [(.row false 3 1 (List.replicate (Int.toNat n) (PV.int .i64 0)))])=true∧((Go.Pl.preT (fun(x:List Coef×Unit)=>decide (List.length x.1<=1048576)) [(.sl 2 false (List.map enc l.t))])=true∧(∃ y0:List Coef,AV.pv (Zf (fun(x:List Coef×Unit)=>x.1) [(.sl 2 false (List.map enc l.t))])=AV.pv (enc y0)∧(At (Vh N) 0 (Za XD G) Xn 0 84 [(1,(.pv (.int .i64 a))),(2,(.pv (.int .i64 n))),(6,(.ptr 0 0)),(8,(.ptr 1 0)),(59,(.pv (.sl 5 false (List.map enc ks)))),(60,(.pv (.int .i64 (↑(List.length (List.map enc ks)):Int)))),(61,(.pv (.int .i64 0)))] [(.obj (.box [(.pv (.int .i64 0)),(.pv (.sl 0 true [])),(.pv (.int .i64 0)),(.pv (.sl 0 true [])),(.pv (.sl 0 true []))])),(.obj (.box [(.pv (.int .i64 k)),(.pv (.sl 1 false (List.replicate (Int.toNat n) (PV.int .i64 0)))),(.pv (.int .i64 l.k)),(.pv (.sl 2 false (List.map enc y0))),(.pv (.sl 0 true []))]))])))))else(if (k==2)=true then if (decide ((↑(List.length (List.map enc ([]:List Int))):Int)<a))=true then G ((.tup [(.agg [(.int .i64 0),(.sl 0 true []),(.int .i64 0),(.sl 0 true []),(.sl 0 true [])]),(.int .i64 2)]))else((decide (0<=n)&&n==n&&decide (n*(↑8:Int)<=1099511627776)&&decide (n<=1099511627776))=true∧((XO 3 [(.pv (.sl 1 true [])),(.pv (.int .i64 a)),(.row 0 (Int.toNat n) 0 (Int.toNat n))] [(.row false 3 1 (List.replicate (Int.toNat n) (PV.int .i64 0)))])=true∧((Go.Pl.preT (fun(x:List Coef×Unit)=>decide (List.length x.1<=1048576)) [(.sl 2 false (List.map enc l.t))])=true∧(∃ y1:List Coef,AV.pv (Zf (fun(x:List Coef×Unit)=>x.1) [(.sl 2 false (List.map enc l.t))])=AV.pv (enc y1)∧(At (Vh N) 0 (Za XD G) Xn 0 84 [(1,(.pv (.int .i64 a))),(2,(.pv (.int .i64 n))),(6,(.ptr 0 0)),(8,(.ptr 1 0)),(59,(.pv (.sl 5 false (List.map enc ks)))),(60,(.pv (.int .i64 (↑(List.length (List.map enc ks)):Int)))),(61,(.pv (.int .i64 0)))] [(.obj (.box [(.pv (.int .i64 0)),(.pv (.sl 0 true [])),(.pv (.int .i64 0)),(.pv (.sl 0 true [])),(.pv (.sl 0 true []))])),(.obj (.box [(.pv (.int .i64 k)),(.pv (.sl 1 false (List.replicate (Int.toNat n) (PV.int .i64 0)))),(.pv (.int .i64 l.k)),(.pv (.sl 2 false (List.map enc y1))),(.pv (.sl 0 true []))]))])))))else((Go.Pl.preT (fun(x:List Coef×Unit)=>decide (List.length x.1<=1048576)) [(.sl 2 false (List.map enc l.t))])=true∧(∃ y2:List Coef,AV.pv (Zf (fun(x:List Coef×Unit)=>x.1) [(.sl 2 false (List.map enc l.t))])=AV.pv (enc y2)∧(At (Vh N) 0 (Za XD G) Xn 0 84 [(1,(.pv (.int .i64 a))),(2,(.pv (.int .i64 n))),(6,(.ptr 0 0)),(8,(.ptr 1 0)),(59,(.pv (.sl 5 false (List.map enc ks)))),(60,(.pv (.int .i64 (↑(List.length (List.map enc ks)):Int)))),(61,(.pv (.int .i64 0)))] [(.obj (.box [(.pv (.int .i64 0)),(.pv (.sl 0 true [])),(.pv (.int .i64 0)),(.pv (.sl 0 true [])),(.pv (.sl 0 true []))])),(.obj (.box [(.pv (.int .i64 k)),(.pv (.sl 1 true [])),(.pv (.int .i64 l.k)),(.pv (.sl 2 false (List.map enc y2))),(.pv (.sl 0 true []))]))])))))))):Zc (Vh N) 0 (Za XD G) Xn [] (Z9 84 [.agg [.int .i64 k,enc ([]:List Int),.int .i64 l.k,enc l.t,enc ks],.int .i64 a,.int .i64 n]):=Zc.tp (.lit (.ask (.lit (.lit (.lit (.lit (.lit (.lit (.nil))))))) (.lit (.lit (.lit (.ask (.lit (.lit (.lit (.nil)))) (.lit (.lit (.lit (.ask (.nil) (.lit (.ask (.lit (.lit (.lit (.lit (.lit (.ask (.nil) (.lit (.keep (.req (.req (.keep (.req (.abs (List Coef) (fun YY=>AV.pv (enc YY)) (.nil)))))))))))))) (.lit (.lit (.lit (.lit (.ask (.lit (.ask (.nil) (.lit (.keep (.req (.req (.keep (.req (.abs (List Coef) (fun YY=>AV.pv (enc YY)) (.nil)))))))))) (.lit (.keep (.req (.abs (List Coef) (fun YY=>AV.pv (enc YY)) (.nil)))))))))))))))))))))) h (by kernel_rfl)
theorem FN{G:PV->Prop}(N:Nat)(k:Int)(l:Lin)(ks:List Cert)(a n:Int)(q:List Int)(i:Int)(h:if (decide (i<(↑(List.length ks):Int)))=true then(decide (0<=i)&&decide (Int.toNat i<List.length (List.map enc ks))&&Enc.sz Cert==5)=true∧(∃ y0:Cert,AV.pv (PV.rptr (PV.cells (List.getD (List.map enc ks) (Int.toNat i) default)))=AV.pv (PV.rptr (PV.cells ((enc) y0)))∧((decide (0+List.length [Sh.int .i64,Sh.sl 1,Sh.int .i64,Sh.sl 2,Sh.sl 5]<=List.length (PV.cells (enc y0)))&&Yk (PV.cells (enc y0)) 0 [Sh.int .i64,Sh.sl 1,Sh.int .i64,Sh.sl 2,Sh.sl 5])=true∧((Go.Pl.preT (fun(x:Cert×Int×Int×Unit)=>cW x.1&&decide (x.2.1<=1000)&&decide (Zt x.1<N)) [(.agg [(.int .i64 (PV.asInt (List.getD (PV.cells (enc y0)) 0 default))),(.sl 1 (PV.asT (List.getD (PV.cells (enc y0)) (0+1) default)) (PV.asXs (List.getD (PV.cells (enc y0)) (0+1) default))),(.int .i64 (PV.asInt (List.getD (PV.cells (enc y0)) (0+1+1) default))),(.sl 2 (PV.asT (List.getD (PV.cells (enc y0)) (0+1+1+1) default)) (PV.asXs (List.getD (PV.cells (enc y0)) (0+1+1+1) default))),(.sl 5 (PV.asT (List.getD (PV.cells (enc y0)) (0+1+1+1+1) default)) (PV.asXs (List.getD (PV.cells (enc y0)) (0+1+1+1+1) default)))]),(.int .i64 a),(.int .i64 n)])=true∧(∃ y1:C5×Int,AV.pv (Zf (fun(x:Cert×Int×Int×Unit)=>Zk x.2.1 x.2.2.1 x.1) [(.agg [(.int .i64 (PV.asInt (List.getD (PV.cells (enc y0)) 0 default))),(.sl 1 (PV.asT (List.getD (PV.cells (enc y0)) (0+1) default)) (PV.asXs (List.getD (PV.cells (enc y0)) (0+1) default))),(.int .i64 (PV.asInt (List.getD (PV.cells (enc y0)) (0+1+1) default))),(.sl 2 (PV.asT (List.getD (PV.cells (enc y0)) (0+1+1+1) default)) (PV.asXs (List.getD (PV.cells (enc y0)) (0+1+1+1) default))),(.sl 5 (PV.asT (List.getD (PV.cells (enc y0)) (0+1+1+1+1) default)) (PV.asXs (List.getD (PV.cells (enc y0)) (0+1+1+1+1) default)))]),(.int .i64 a),(.int .i64 n)])=AV.pv (enc y1)∧(if (y1.2 != 0)=true then G ((.tup [(.agg [(.int .i64 0),(.sl 0 true []),(.int .i64 0),(.sl 0 true []),(.sl 0 true [])]),(.int .i64 y1.2)]))else(At (Vh N) 0 (Za XD G) Xn 0 84 [(1,(.pv (.int .i64 a))),(2,(.pv (.int .i64 n))),(6,(.ptr 0 0)),(8,(.ptr 1 0)),(59,(.pv (.sl 5 false (List.map enc ks)))),(60,(.pv (.int .i64 (↑(List.length ks):Int)))),(61,(.pv (.int .i64 (IntKind.wrap IntKind.i64 (i+1)))))] [(.obj (.box [(.pv (.int .i64 0)),(.pv (.sl 0 true [])),(.pv (.int .i64 0)),(.pv (.sl 0 true [])),(.pv (.sl 0 true []))])),(.obj (.box [(.pv (.int .i64 k)),(.pv (.sl 1 false (List.map enc q))),(.pv (.int .i64 l.k)),(.pv (.sl 2 false (List.map enc l.t))),(.row 2 1 0 1)])),(.obj (.row false 37 5 [(.agg [(.int .i64 (C5.k y1.1)),(.sl 1 false (List.map enc (C5.m y1.1))),(.int .i64 (C5.lk y1.1)),(.sl 2 false (List.map enc (C5.lt y1.1))),(.sl 5 false (List.map enc (C5.ks y1.1)))])]))]))))))else(G ((.tup [(.agg [(.int .i64 k),(.sl 1 false (List.map enc q)),(.int .i64 l.k),(.sl 2 false (List.map enc l.t)),(.sl 0 true [])]),(.int .i64 0)])))):At (Vh N) 0 (Za XD G) Xn 0 84 [(1,.pv (.int .i64 a)),(2,.pv (.int .i64 n)),(6,.ptr 0 0),(8,.ptr 1 0),(59,.pv (enc ks)),(60,.pv (.int .i64 (ks.length:Int))),(61,.pv (.int .i64 i))] [.obj (.box [.pv (.int .i64 0),.pv (.sl 0 true []),.pv (.int .i64 0),.pv (.sl 0 true []),.pv (.sl 0 true [])]),.obj (.box [.pv (.int .i64 k),.pv (enc q),.pv (.int .i64 l.k),.pv (enc l.t),.pv (.sl 0 true [])])]:=At.tp (.lit (.ask (.req (.abs (Cert) (fun YY=>AV.pv (PV.rptr (PV.cells ((enc) YY)))) (.req (.req (.abs (C5×Int) (fun YY=>AV.pv (enc YY)) (.lit (.ask (.nil) (.lit (.lit (.lit (.lit (.lit (.lit (.nil)))))))))))))) (.nil))) h (by kernel_rfl)
theorem FL{G:PV->Prop}(N:Nat)(k:Int)(l:Lin)(ks:List Cert)(a n:Int)(q:List Int)(z:Nat)(ds:List Cert)(i:Int)(h:if (decide (i<(↑(List.length ks):Int)))=true then(decide (0<=i)&&decide (Int.toNat i<List.length (List.map enc ks))&&Enc.sz Cert==5)=true∧(∃ y0:Cert,AV.pv (PV.rptr (PV.cells (List.getD (List.map enc ks) (Int.toNat i) default)))=AV.pv (PV.rptr (PV.cells ((enc) y0)))∧((decide (0+List.length [Sh.int .i64,Sh.sl 1,Sh.int .i64,Sh.sl 2,Sh.sl 5]<=List.length (PV.cells (enc y0)))&&Yk (PV.cells (enc y0)) 0 [Sh.int .i64,Sh.sl 1,Sh.int .i64,Sh.sl 2,Sh.sl 5])=true∧((Go.Pl.preT (fun(x:Cert×Int×Int×Unit)=>cW x.1&&decide (x.2.1<=1000)&&decide (Zt x.1<N)) [(.agg [(.int .i64 (PV.asInt (List.getD (PV.cells (enc y0)) 0 default))),(.sl 1 (PV.asT (List.getD (PV.cells (enc y0)) (0+1) default)) (PV.asXs (List.getD (PV.cells (enc y0)) (0+1) default))),(.int .i64 (PV.asInt (List.getD (PV.cells (enc y0)) (0+1+1) default))),(.sl 2 (PV.asT (List.getD (PV.cells (enc y0)) (0+1+1+1) default)) (PV.asXs (List.getD (PV.cells (enc y0)) (0+1+1+1) default))),(.sl 5 (PV.asT (List.getD (PV.cells (enc y0)) (0+1+1+1+1) default)) (PV.asXs (List.getD (PV.cells (enc y0)) (0+1+1+1+1) default)))]),(.int .i64 a),(.int .i64 n)])=true∧(∃ y1:C5×Int,AV.pv (Zf (fun(x:Cert×Int×Int×Unit)=>Zk x.2.1 x.2.2.1 x.1) [(.agg [(.int .i64 (PV.asInt (List.getD (PV.cells (enc y0)) 0 default))),(.sl 1 (PV.asT (List.getD (PV.cells (enc y0)) (0+1) default)) (PV.asXs (List.getD (PV.cells (enc y0)) (0+1) default))),(.int .i64 (PV.asInt (List.getD (PV.cells (enc y0)) (0+1+1) default))),(.sl 2 (PV.asT (List.getD (PV.cells (enc y0)) (0+1+1+1) default)) (PV.asXs (List.getD (PV.cells (enc y0)) (0+1+1+1) default))),(.sl 5 (PV.asT (List.getD (PV.cells (enc y0)) (0+1+1+1+1) default)) (PV.asXs (List.getD (PV.cells (enc y0)) (0+1+1+1+1) default)))]),(.int .i64 a),(.int .i64 n)])=AV.pv (enc y1)∧(if (y1.2 != 0)=true then G ((.tup [(.agg [(.int .i64 0),(.sl 0 true []),(.int .i64 0),(.sl 0 true []),(.sl 0 true [])]),(.int .i64 y1.2)]))else((List.length (List.map enc ds)==z&&z==z&&decide ((z+List.length (List.drop 0 (List.take 1 [PV.agg [enc (C5.k y1.1),enc (C5.m y1.1),enc (C5.lk y1.1),enc (C5.lt y1.1),enc (C5.ks y1.1)]])))*88<=1099511627776)&&decide (z+List.length (List.drop 0 (List.take 1 [PV.agg [enc (C5.k y1.1),enc (C5.m y1.1),enc (C5.lk y1.1),enc (C5.lt y1.1),enc (C5.ks y1.1)]]))<=1099511627776))=true∧(At (Vh N) 0 (Za XD G) Xn 0 84 [(1,(.pv (.int .i64 a))),(2,(.pv (.int .i64 n))),(6,(.ptr 0 0)),(8,(.ptr 1 0)),(59,(.pv (.sl 5 false (List.map enc ks)))),(60,(.pv (.int .i64 (↑(List.length ks):Int)))),(61,(.pv (.int .i64 (IntKind.wrap IntKind.i64 (i+1)))))] [(.obj (.box [(.pv (.int .i64 0)),(.pv (.sl 0 true [])),(.pv (.int .i64 0)),(.pv (.sl 0 true [])),(.pv (.sl 0 true []))])),(.obj (.box [(.pv (.int .i64 k)),(.pv (.sl 1 false (List.map enc q))),(.pv (.int .i64 l.k)),(.pv (.sl 2 false (List.map enc l.t))),(.row 2 (z+List.length (List.drop 0 (List.take 1 [PV.agg [enc (C5.k y1.1),enc (C5.m y1.1),enc (C5.lk y1.1),enc (C5.lt y1.1),enc (C5.ks y1.1)]]))) 0 (z+List.length (List.drop 0 (List.take 1 [PV.agg [enc (C5.k y1.1),enc (C5.m y1.1),enc (C5.lk y1.1),enc (C5.lt y1.1),enc (C5.ks y1.1)]]))))])),(.obj (.row false 37 5 (List.map enc ds++List.drop 0 (List.take 1 [PV.agg [enc (C5.k y1.1),enc (C5.m y1.1),enc (C5.lk y1.1),enc (C5.lt y1.1),enc (C5.ks y1.1)]]))))])))))))else((List.length (List.map enc ds)==z)=true∧(G ((.tup [(.agg [(.int .i64 k),(.sl 1 false (List.map enc q)),(.int .i64 l.k),(.sl 2 false (List.map enc l.t)),(.sl 5 false (List.drop 0 (List.take z (List.map enc ds))))]),(.int .i64 0)]))))):At (Vh N) 0 (Za XD G) Xn 0 84 [(1,.pv (.int .i64 a)),(2,.pv (.int .i64 n)),(6,.ptr 0 0),(8,.ptr 1 0),(59,.pv (enc ks)),(60,.pv (.int .i64 (ks.length:Int))),(61,.pv (.int .i64 i))] [.obj (.box [.pv (.int .i64 0),.pv (.sl 0 true []),.pv (.int .i64 0),.pv (.sl 0 true []),.pv (.sl 0 true [])]),.obj (.box [.pv (.int .i64 k),.pv (enc q),.pv (.int .i64 l.k),.pv (enc l.t),.row 2 z 0 z]),.obj (.row false 37 5 (ds.map enc))]:=At.tp (.lit (.ask (.req (.abs (Cert) (fun YY=>AV.pv (PV.rptr (PV.cells ((enc) YY)))) (.req (.req (.abs (C5×Int) (fun YY=>AV.pv (enc YY)) (.lit (.ask (.nil) (.lit (.lit (.req (.lit (.nil)))))))))))) (.req (.nil)))) h (by kernel_rfl)
theorem b9v{G:PV->Prop}(N:Nat)(k:Int)(x:Int)(m:List Int)(l:Lin)(ks:List Cert)(a n:Int)(h:if (decide (a<0))=true then G ((.tup [(.agg [(.int .i64 0),(.sl 0 true []),(.int .i64 0),(.sl 0 true []),(.sl 0 true [])]),(.int .i64 2)]))else(if (decide (n<0))=true then G ((.tup [(.agg [(.int .i64 0),(.sl 0 true []),(.int .i64 0),(.sl 0 true []),(.sl 0 true [])]),(.int .i64 2)]))else(if (decide (n>100))=true then G ((.tup [(.agg [(.int .i64 0),(.sl 0 true []),(.int .i64 0),(.sl 0 true []),(.sl 0 true [])]),(.int .i64 2)]))else(if (k==1)=true then if (decide ((↑(List.length (List.map enc (x::m))):Int)<a))=true then G ((.tup [(.agg [(.int .i64 0),(.sl 0 true []),(.int .i64 0),(.sl 0 true []),(.sl 0 true [])]),(.int .i64 2)]))else((Y0 1 [(.pv (.sl 1 false (List.map enc (x::m))))] [])=true∧((decide (0<=n)&&n==n&&decide (n*(↑8:Int)<=1099511627776)&&decide (n<=1099511627776))=true∧((XO 3 [(.row 0 (List.length (List.map enc (x::m))) 0 (List.length (List.map enc (x::m)))),(.pv (.int .i64 a)),(.row 1 (Int.toNat n) 0 (Int.toNat n))] [(.row false 3 1 (List.map enc (x::m))),(.row false 3 1 (List.replicate (Int.toNat n) (PV.int .i64 0)))])=true∧((Go.Pl.preT (fun(x:List Coef×Unit)=>decide (List.length x.1<=1048576)) [(.sl 2 false (List.map enc l.t))])=true∧(∃ y0:List Coef,AV.pv (Zf (fun(x:List Coef×Unit)=>x.1) [(.sl 2 false (List.map enc l.t))])=AV.pv (enc y0)∧(At (Vh N) 0 (Za XD G) Xn 0 84 [(1,(.pv (.int .i64 a))),(2,(.pv (.int .i64 n))),(6,(.ptr 0 0)),(8,(.ptr 1 0)),(59,(.pv (.sl 5 false (List.map enc ks)))),(60,(.pv (.int .i64 (↑(List.length (List.map enc ks)):Int)))),(61,(.pv (.int .i64 0)))] [(.obj (.box [(.pv (.int .i64 0)),(.pv (.sl 0 true [])),(.pv (.int .i64 0)),(.pv (.sl 0 true [])),(.pv (.sl 0 true []))])),(.obj (.box [(.pv (.int .i64 k)),(.pv (.sl 1 false (List.take (Int.toNat a) (List.map enc (x::m))++List.replicate (Int.toNat n) (PV.int .i64 0)++List.drop (Int.toNat a) (List.map enc (x::m))))),(.pv (.int .i64 l.k)),(.pv (.sl 2 false (List.map enc y0))),(.pv (.sl 0 true []))]))]))))))else(if (k==2)=true then if (decide ((↑(List.length (List.map enc (x::m))):Int)<a))=true then G ((.tup [(.agg [(.int .i64 0),(.sl 0 true []),(.int .i64 0),(.sl 0 true []),(.sl 0 true [])]),(.int .i64 2)]))else((Y0 1 [(.pv (.sl 1 false (List.map enc (x::m))))] [])=true∧((decide (0<=n)&&n==n&&decide (n*(↑8:Int)<=1099511627776)&&decide (n<=1099511627776))=true∧((XO 3 [(.row 0 (List.length (List.map enc (x::m))) 0 (List.length (List.map enc (x::m)))),(.pv (.int .i64 a)),(.row 1 (Int.toNat n) 0 (Int.toNat n))] [(.row false 3 1 (List.map enc (x::m))),(.row false 3 1 (List.replicate (Int.toNat n) (PV.int .i64 0)))])=true∧((Go.Pl.preT (fun(x:List Coef×Unit)=>decide (List.length x.1<=1048576)) [(.sl 2 false (List.map enc l.t))])=true∧(∃ y1:List Coef,AV.pv (Zf (fun(x:List Coef×Unit)=>x.1) [(.sl 2 false (List.map enc l.t))])=AV.pv (enc y1)∧(At (Vh N) 0 (Za XD G) Xn 0 84 [(1,(.pv (.int .i64 a))),(2,(.pv (.int .i64 n))),(6,(.ptr 0 0)),(8,(.ptr 1 0)),(59,(.pv (.sl 5 false (List.map enc ks)))),(60,(.pv (.int .i64 (↑(List.length (List.map enc ks)):Int)))),(61,(.pv (.int .i64 0)))] [(.obj (.box [(.pv (.int .i64 0)),(.pv (.sl 0 true [])),(.pv (.int .i64 0)),(.pv (.sl 0 true [])),(.pv (.sl 0 true []))])),(.obj (.box [(.pv (.int .i64 k)),(.pv (.sl 1 false (List.take (Int.toNat a) (List.map enc (x::m))++List.replicate (Int.toNat n) (PV.int .i64 0)++List.drop (Int.toNat a) (List.map enc (x::m))))),(.pv (.int .i64 l.k)),(.pv (.sl 2 false (List.map enc y1))),(.pv (.sl 0 true []))]))]))))))else((Y0 1 [(.pv (.sl 1 false (List.map enc (x::m))))] [])=true∧((Go.Pl.preT (fun(x:List Coef×Unit)=>decide (List.length x.1<=1048576)) [(.sl 2 false (List.map enc l.t))])=true∧(∃ y2:List Coef,AV.pv (Zf (fun(x:List Coef×Unit)=>x.1) [(.sl 2 false (List.map enc l.t))])=AV.pv (enc y2)∧(At (Vh N) 0 (Za XD G) Xn 0 84 [(1,(.pv (.int .i64 a))),(2,(.pv (.int .i64 n))),(6,(.ptr 0 0)),(8,(.ptr 1 0)),(59,(.pv (.sl 5 false (List.map enc ks)))),(60,(.pv (.int .i64 (↑(List.length (List.map enc ks)):Int)))),(61,(.pv (.int .i64 0)))] [(.obj (.box [(.pv (.int .i64 0)),(.pv (.sl 0 true [])),(.pv (.int .i64 0)),(.pv (.sl 0 true [])),(.pv (.sl 0 true []))])),(.obj (.box [(.pv (.int .i64 k)),(.row 2 (List.length (List.map enc (x::m))) 0 (List.length (List.map enc (x::m)))),(.pv (.int .i64 l.k)),(.pv (.sl 2 false (List.map enc y2))),(.pv (.sl 0 true []))])),(.obj (.row false 3 1 (List.map enc (x::m))))]))))))))):Zc (Vh N) 0 (Za XD G) Xn [] (Z9 84 [.agg [.int .i64 k,enc (x::m),.int .i64 l.k,enc l.t,enc ks],.int .i64 a,.int .i64 n]):=Zc.tp (.lit (.ask (.lit (.lit (.lit (.lit (.lit (.lit (.nil))))))) (.lit (.lit (.lit (.ask (.lit (.lit (.lit (.nil)))) (.lit (.lit (.lit (.ask (.nil) (.lit (.ask (.lit (.lit (.lit (.lit (.lit (.ask (.nil) (.req (.keep (.req (.req (.keep (.req (.abs (List Coef) (fun YY=>AV.pv (enc YY)) (.nil)))))))))))))) (.lit (.lit (.lit (.lit (.ask (.lit (.ask (.nil) (.req (.keep (.req (.req (.keep (.req (.abs (List Coef) (fun YY=>AV.pv (enc YY)) (.nil)))))))))) (.req (.keep (.req (.abs (List Coef) (fun YY=>AV.pv (enc YY)) (.nil)))))))))))))))))))))) h (by kernel_rfl)
def VI:IC:=Xn
def VZ:List IRes:=[(.cell true 5 6),(.tmp 7)]
abbrev b6s:Nat:=84
def QS(N:Nat):ZH:=XI [(104,.pure (preT (fun x:List Int×Unit=>decide (x.1.length<=1048576))) (Zf (fun x:List Int×Unit=>x.1))),(105,.pure (preT (fun x:List Coef×Unit=>decide (x.1.length<=1048576))) (Zf (fun x:List Coef×Unit=>x.1))),(32,.pure (preT (fun x:Cert×Int×Int×Unit=>(cW x.1&&decide (x.2.1<=1000))&&decide (Zt x.1<N))) (Zf (fun x:Cert×Int×Int×Unit=>Zk x.2.1 x.2.2.1 x.1)))]
-- BAD 1 in a5k
-- BAD 1 in a5k
theorem a5k{G:PV->Prop}(N:Nat)(k:Int)(m:List Int)(l:Lin)(ks:List Cert)(a n:Int)(h:if (decide (a<0))=true then G ((.tup [(.agg [(.int .i64 0),(.sl 0 true []),(.int .i64 0),(.sl 0 true []),(.sl 0 true [])]),(.int .i64 2)]))else(if (decide (n<0))=true then G ((.tup [(.agg [(.int .i64 0),(.sl 0 true []),(.int .i64 0),(.sl 0 true []),(.sl 0 true [])]),(.int .i64 2)]))else(if (decide (n>100))=true then G ((.tup [(.agg [(.int .i64 0),(.sl 0 true []),(.int .i64 0),(.sl 0 true []),(.sl 0 true [])]),(.int .i64 2)]))else(if (k==1)=true then if (decide ((↑(List.length (List.map enc m)):Int)<a))=true then G ((.tup [(.agg [(.int .i64 0),(.sl 0 true []),(.int .i64 0),(.sl 0 true []),(.sl 0 true [])]),(.int .i64 2)]))else((Go.Pl.preT (fun(x:List Int×Unit)=>decide (List.length x.1<=1048576)) [(.sl 1 false (List.map enc m))])=true∧(∃ y0:List Int,AV.pv (Zf (fun(x:List Int×Unit)=>x.1) [(.sl 1 false (List.map enc m))])=AV.pv (enc y0)∧((decide (0<=n)&&n==n&&decide (n*(↑8:Int)<=1099511627776)&&decide (n<=1099511627776))=true∧(False))))else(if (k==2)=true then if (decide ((↑(List.length (List.map enc m)):Int)<a))=true then G ((.tup [(.agg [(.int .i64 0),(.sl 0 true []),(.int .i64 0),(.sl 0 true []),(.sl 0 true [])]),(.int .i64 2)]))else((Go.Pl.preT (fun(x:List Int×Unit)=>decide (List.length x.1<=1048576)) [(.sl 1 false (List.map enc m))])=true∧(∃ y1:List Int,AV.pv (Zf (fun(x:List Int×Unit)=>x.1) [(.sl 1 false (List.map enc m))])=AV.pv (enc y1)∧((decide (0<=n)&&n==n&&decide (n*(↑8:Int)<=1099511627776)&&decide (n<=1099511627776))=true∧(False))))else((Go.Pl.preT (fun(x:List Int×Unit)=>decide (List.length x.1<=1048576)) [(.sl 1 false (List.map enc m))])=true∧(∃ y2:List Int,AV.pv (Zf (fun(x:List Int×Unit)=>x.1) [(.sl 1 false (List.map enc m))])=AV.pv (enc y2)∧((Go.Pl.preT (fun(x:List Coef×Unit)=>decide (List.length x.1<=1048576)) [(.sl 2 false (List.map enc l.t))])=true∧(∃ y3:List Coef,AV.pv (Zf (fun(x:List Coef×Unit)=>x.1) [(.sl 2 false (List.map enc l.t))])=AV.pv (enc y3)∧(At (QS N) 0 (Za VZ G) VI 0 84 [(1,(.pv (.int .i64 a))),(2,(.pv (.int .i64 n))),(6,(.ptr 0 0)),(8,(.ptr 1 0)),(59,(.pv (.sl 5 false (List.map enc ks)))),(60,(.pv (.int .i64 (↑(List.length (List.map enc ks)):Int)))),(61,(.pv (.int .i64 0)))] [(.obj (.box [(.pv (.int .i64 0)),(.pv (.sl 0 true [])),(.pv (.int .i64 0)),(.pv (.sl 0 true [])),(.pv (.sl 0 true []))])),(.obj (.box [(.pv (.int .i64 k)),(.pv (.sl 1 false (List.map enc y2))),(.pv (.int .i64 l.k)),(.pv (.sl 2 false (List.map enc y3))),(.pv (.sl 0 true []))]))])))))))))):Zc (QS N) 0 (Za VZ G) VI [] (Z9 84 [.agg [.int .i64 k,enc m,.int .i64 l.k,enc l.t,enc ks],.int .i64 a,.int .i64 n]):=Zc.tp (.lit (.ask (.lit (.lit (.lit (.lit (.lit (.lit (.nil))))))) (.lit (.lit (.lit (.ask (.lit (.lit (.lit (.nil)))) (.lit (.lit (.lit (.ask (.nil) (.lit (.ask (.lit (.lit (.lit (.lit (.lit (.ask (.nil) (.req (.abs (List Int) (fun YY=>AV.pv (enc YY)) (.req (.nil)))))))))) (.lit (.lit (.lit (.lit (.ask (.lit (.ask (.nil) (.req (.abs (List Int) (fun YY=>AV.pv (enc YY)) (.req (.nil)))))) (.req (.abs (List Int) (fun YY=>AV.pv (enc YY)) (.req (.abs (List Coef) (fun YY=>AV.pv (enc YY)) (.nil)))))))))))))))))))))) h (by kernel_rfl)
theorem Od{G:PV->Prop}(N:Nat)(k:Int)(m:List Int)(l:Lin)(ks:List Cert)(a n:Int)(q:List Int)(i:Int)(h:if (decide (i<(↑(List.length ks):Int)))=true then(decide (0<=i)&&decide (Int.toNat i<List.length (List.map enc ks))&&Enc.sz Cert==5)=true∧(∃ y0:Cert,AV.pv (PV.rptr (PV.cells (List.getD (List.map enc ks) (Int.toNat i) default)))=AV.pv (PV.rptr (PV.cells ((enc) y0)))∧((decide (0+List.length [Sh.int .i64,Sh.sl 1,Sh.int .i64,Sh.sl 2,Sh.sl 5]<=List.length (PV.cells (enc y0)))&&Yk (PV.cells (enc y0)) 0 [Sh.int .i64,Sh.sl 1,Sh.int .i64,Sh.sl 2,Sh.sl 5])=true∧((Go.Pl.preT (fun(x:Cert×Int×Int×Unit)=>cW x.1&&decide (x.2.1<=1000)&&decide (Zt x.1<N)) [(.agg [(.int .i64 (PV.asInt (List.getD (PV.cells (enc y0)) 0 default))),(.sl 1 (PV.asT (List.getD (PV.cells (enc y0)) (0+1) default)) (PV.asXs (List.getD (PV.cells (enc y0)) (0+1) default))),(.int .i64 (PV.asInt (List.getD (PV.cells (enc y0)) (0+1+1) default))),(.sl 2 (PV.asT (List.getD (PV.cells (enc y0)) (0+1+1+1) default)) (PV.asXs (List.getD (PV.cells (enc y0)) (0+1+1+1) default))),(.sl 5 (PV.asT (List.getD (PV.cells (enc y0)) (0+1+1+1+1) default)) (PV.asXs (List.getD (PV.cells (enc y0)) (0+1+1+1+1) default)))]),(.int .i64 a),(.int .i64 n)])=true∧(∃ y1:C5×Int,AV.pv (Zf (fun(x:Cert×Int×Int×Unit)=>Zk x.2.1 x.2.2.1 x.1) [(.agg [(.int .i64 (PV.asInt (List.getD (PV.cells (enc y0)) 0 default))),(.sl 1 (PV.asT (List.getD (PV.cells (enc y0)) (0+1) default)) (PV.asXs (List.getD (PV.cells (enc y0)) (0+1) default))),(.int .i64 (PV.asInt (List.getD (PV.cells (enc y0)) (0+1+1) default))),(.sl 2 (PV.asT (List.getD (PV.cells (enc y0)) (0+1+1+1) default)) (PV.asXs (List.getD (PV.cells (enc y0)) (0+1+1+1) default))),(.sl 5 (PV.asT (List.getD (PV.cells (enc y0)) (0+1+1+1+1) default)) (PV.asXs (List.getD (PV.cells (enc y0)) (0+1+1+1+1) default)))]),(.int .i64 a),(.int .i64 n)])=AV.pv (enc y1)∧(if (y1.2 != 0)=true then G ((.tup [(.agg [(.int .i64 0),(.sl 0 true []),(.int .i64 0),(.sl 0 true []),(.sl 0 true [])]),(.int .i64 y1.2)]))else(At (QS N) 0 (Za VZ G) VI 0 84 [(1,(.pv (.int .i64 a))),(2,(.pv (.int .i64 n))),(6,(.ptr 0 0)),(8,(.ptr 1 0)),(59,(.pv (.sl 5 false (List.map enc ks)))),(60,(.pv (.int .i64 (↑(List.length ks):Int)))),(61,(.pv (.int .i64 (IntKind.wrap IntKind.i64 (i+1)))))] [(.obj (.box [(.pv (.int .i64 0)),(.pv (.sl 0 true [])),(.pv (.int .i64 0)),(.pv (.sl 0 true [])),(.pv (.sl 0 true []))])),(.obj (.box [(.pv (.int .i64 k)),(.pv (.sl 1 false (List.map enc q))),(.pv (.int .i64 l.k)),(.pv (.sl 2 false (List.map enc l.t))),(.row 2 1 0 1)])),(.obj (.row false 37 5 [(.agg [(.int .i64 (C5.k y1.1)),(.sl 1 false (List.map enc (C5.m y1.1))),(.int .i64 (C5.lk y1.1)),(.sl 2 false (List.map enc (C5.lt y1.1))),(.sl 5 false (List.map enc (C5.ks y1.1)))])]))]))))))else(G ((.tup [(.agg [(.int .i64 k),(.sl 1 false (List.map enc q)),(.int .i64 l.k),(.sl 2 false (List.map enc l.t)),(.sl 0 true [])]),(.int .i64 0)])))):At (QS N) 0 (Za VZ G) VI 0 84 [(1,.pv (.int .i64 a)),(2,.pv (.int .i64 n)),(6,.ptr 0 0),(8,.ptr 1 0),(59,.pv (enc ks)),(60,.pv (.int .i64 (ks.length:Int))),(61,.pv (.int .i64 i))] [.obj (.box [.pv (.int .i64 0),.pv (.sl 0 true []),.pv (.int .i64 0),.pv (.sl 0 true []),.pv (.sl 0 true [])]),.obj (.box [.pv (.int .i64 k),.pv (enc q),.pv (.int .i64 l.k),.pv (enc l.t),.pv (.sl 0 true [])])]:=At.tp (.lit (.ask (.req (.abs (Cert) (fun YY=>AV.pv (PV.rptr (PV.cells ((enc) YY)))) (.req (.req (.abs (C5×Int) (fun YY=>AV.pv (enc YY)) (.lit (.ask (.nil) (.lit (.lit (.lit (.lit (.lit (.lit (.nil)))))))))))))) (.nil))) h (by kernel_rfl)
theorem OA{G:PV->Prop}(N:Nat)(k:Int)(m:List Int)(l:Lin)(ks:List Cert)(a n:Int)(q:List Int)(z:Nat)(ds:List Cert)(i:Int)(h:if (decide (i<(↑(List.length ks):Int)))=true then(decide (0<=i)&&decide (Int.toNat i<List.length (List.map enc ks))&&Enc.sz Cert==5)=true∧(∃ y0:Cert,AV.pv (PV.rptr (PV.cells (List.getD (List.map enc ks) (Int.toNat i) default)))=AV.pv (PV.rptr (PV.cells ((enc) y0)))∧((decide (0+List.length [Sh.int .i64,Sh.sl 1,Sh.int .i64,Sh.sl 2,Sh.sl 5]<=List.length (PV.cells (enc y0)))&&Yk (PV.cells (enc y0)) 0 [Sh.int .i64,Sh.sl 1,Sh.int .i64,Sh.sl 2,Sh.sl 5])=true∧((Go.Pl.preT (fun(x:Cert×Int×Int×Unit)=>cW x.1&&decide (x.2.1<=1000)&&decide (Zt x.1<N)) [(.agg [(.int .i64 (PV.asInt (List.getD (PV.cells (enc y0)) 0 default))),(.sl 1 (PV.asT (List.getD (PV.cells (enc y0)) (0+1) default)) (PV.asXs (List.getD (PV.cells (enc y0)) (0+1) default))),(.int .i64 (PV.asInt (List.getD (PV.cells (enc y0)) (0+1+1) default))),(.sl 2 (PV.asT (List.getD (PV.cells (enc y0)) (0+1+1+1) default)) (PV.asXs (List.getD (PV.cells (enc y0)) (0+1+1+1) default))),(.sl 5 (PV.asT (List.getD (PV.cells (enc y0)) (0+1+1+1+1) default)) (PV.asXs (List.getD (PV.cells (enc y0)) (0+1+1+1+1) default)))]),(.int .i64 a),(.int .i64 n)])=true∧(∃ y1:C5×Int,AV.pv (Zf (fun(x:Cert×Int×Int×Unit)=>Zk x.2.1 x.2.2.1 x.1) [(.agg [(.int .i64 (PV.asInt (List.getD (PV.cells (enc y0)) 0 default))),(.sl 1 (PV.asT (List.getD (PV.cells (enc y0)) (0+1) default)) (PV.asXs (List.getD (PV.cells (enc y0)) (0+1) default))),(.int .i64 (PV.asInt (List.getD (PV.cells (enc y0)) (0+1+1) default))),(.sl 2 (PV.asT (List.getD (PV.cells (enc y0)) (0+1+1+1) default)) (PV.asXs (List.getD (PV.cells (enc y0)) (0+1+1+1) default))),(.sl 5 (PV.asT (List.getD (PV.cells (enc y0)) (0+1+1+1+1) default)) (PV.asXs (List.getD (PV.cells (enc y0)) (0+1+1+1+1) default)))]),(.int .i64 a),(.int .i64 n)])=AV.pv (enc y1)∧(if (y1.2 != 0)=true then G ((.tup [(.agg [(.int .i64 0),(.sl 0 true []),(.int .i64 0),(.sl 0 true []),(.sl 0 true [])]),(.int .i64 y1.2)]))else((List.length (List.map enc ds)==z&&z==z&&decide ((z+List.length (List.drop 0 (List.take 1 [PV.agg [enc (C5.k y1.1),enc (C5.m y1.1),enc (C5.lk y1.1),enc (C5.lt y1.1),enc (C5.ks y1.1)]])))*88<=1099511627776)&&decide (z+List.length (List.drop 0 (List.take 1 [PV.agg [enc (C5.k y1.1),enc (C5.m y1.1),enc (C5.lk y1.1),enc (C5.lt y1.1),enc (C5.ks y1.1)]]))<=1099511627776))=true∧(At (QS N) 0 (Za VZ G) VI 0 84 [(1,(.pv (.int .i64 a))),(2,(.pv (.int .i64 n))),(6,(.ptr 0 0)),(8,(.ptr 1 0)),(59,(.pv (.sl 5 false (List.map enc ks)))),(60,(.pv (.int .i64 (↑(List.length ks):Int)))),(61,(.pv (.int .i64 (IntKind.wrap IntKind.i64 (i+1)))))] [(.obj (.box [(.pv (.int .i64 0)),(.pv (.sl 0 true [])),(.pv (.int .i64 0)),(.pv (.sl 0 true [])),(.pv (.sl 0 true []))])),(.obj (.box [(.pv (.int .i64 k)),(.pv (.sl 1 false (List.map enc q))),(.pv (.int .i64 l.k)),(.pv (.sl 2 false (List.map enc l.t))),(.row 2 (z+List.length (List.drop 0 (List.take 1 [PV.agg [enc (C5.k y1.1),enc (C5.m y1.1),enc (C5.lk y1.1),enc (C5.lt y1.1),enc (C5.ks y1.1)]]))) 0 (z+List.length (List.drop 0 (List.take 1 [PV.agg [enc (C5.k y1.1),enc (C5.m y1.1),enc (C5.lk y1.1),enc (C5.lt y1.1),enc (C5.ks y1.1)]]))))])),(.obj (.row false 37 5 (List.map enc ds++List.drop 0 (List.take 1 [PV.agg [enc (C5.k y1.1),enc (C5.m y1.1),enc (C5.lk y1.1),enc (C5.lt y1.1),enc (C5.ks y1.1)]]))))])))))))else((List.length (List.map enc ds)==z)=true∧(G ((.tup [(.agg [(.int .i64 k),(.sl 1 false (List.map enc q)),(.int .i64 l.k),(.sl 2 false (List.map enc l.t)),(.sl 5 false (List.drop 0 (List.take z (List.map enc ds))))]),(.int .i64 0)]))))):At (QS N) 0 (Za VZ G) VI 0 84 [(1,.pv (.int .i64 a)),(2,.pv (.int .i64 n)),(6,.ptr 0 0),(8,.ptr 1 0),(59,.pv (enc ks)),(60,.pv (.int .i64 (ks.length:Int))),(61,.pv (.int .i64 i))] [.obj (.box [.pv (.int .i64 0),.pv (.sl 0 true []),.pv (.int .i64 0),.pv (.sl 0 true []),.pv (.sl 0 true [])]),.obj (.box [.pv (.int .i64 k),.pv (enc q),.pv (.int .i64 l.k),.pv (enc l.t),.row 2 z 0 z]),.obj (.row false 37 5 (ds.map enc))]:=At.tp (.lit (.ask (.req (.abs (Cert) (fun YY=>AV.pv (PV.rptr (PV.cells ((enc) YY)))) (.req (.req (.abs (C5×Int) (fun YY=>AV.pv (enc YY)) (.lit (.ask (.nil) (.lit (.lit (.req (.lit (.nil)))))))))))) (.req (.nil)))) h (by kernel_rfl)
end Go.Pl

namespace Go.Pl
open Go.RowKit
open Enc (enc dec is)
open EncL (encL decL isL)
def Ua(k:Int)(q:List Int)(l:Lin)(ds:List Cert):Option (List Cert)->C5×Int
 | none=>(c5 zC,2)
 | some r=>(⟨k,q,l.k,l.t,ds++r⟩,0)
theorem Zu(k:Int)(m:List Int)(l:Lin)(ks:List Cert)(a n:Int):([PV.agg [enc k,enc m,enc l.k,enc l.t,enc ks],enc a,enc n]:List PV)=[enc (Cert.mk k m l ks),enc a,enc n]:=by rw[Zp]
theorem Xu(k:Int)(q:List Int)(l:Lin)(ds:List Cert)(c':Cert)(r:Option (List Cert)):Ua k q l (ds++[c']) r=Ua k q l ds (match r with|none=>none|some cs'=>some (c'::cs')):=by
 cases r with
 | none=>rfl
 | some r=>
  show((⟨k,q,l.k,l.t,ds++[c']++r⟩:C5),(0:Int))=(⟨k,q,l.k,l.t,ds++(c'::r)⟩,0)
  rw[List.append_assoc]
  rfl
theorem TF(k:Int)(q:List Int)(l:Lin):Zv (Ua k q l [] (some [])) (.tup [.agg [.int .i64 k,.sl 1 false (q.map enc),.int .i64 l.k,.sl 2 false (l.t.map enc),.sl 0 true []],.int .i64 0]):=by
 constructor
 ·show((true&&is (List Int) (enc q)&&true&&is (List Coef) (enc l.t)&&true)&&true)=true
  rw[Enc.is_enc,Enc.is_enc]
  rfl
 ·show((⟨k,dec (enc q:PV),l.k,dec (enc l.t:PV),[]⟩:C5),(0:Int))=_
  rw[Enc.dec_enc,Enc.dec_enc]
  rfl
theorem Oi(k:Int)(q:List Int)(l:Lin)(ds:List Cert):Zv (Ua k q l ds (some [])) (.tup [.agg [.int .i64 k,.sl 1 false (q.map enc),.int .i64 l.k,.sl 2 false (l.t.map enc),.sl 5 false (List.drop 0 (List.take ds.length (ds.map enc)))],.int .i64 0]):=by
 rw[show List.take ds.length (ds.map (enc:Cert->PV))=ds.map enc by rw[List.take_of_length_le (by simp)],List.drop_zero]
 exact Ke (x:=((⟨k,q,l.k,l.t,ds⟩:C5),(0:Int))) (by show _=((⟨k,q,l.k,l.t,ds++[]⟩:C5),(0:Int));rw[List.append_nil])
theorem UE:Zv ((c5 zC,2):C5×Int) (.tup [.agg [.int .i64 0,.sl 0 true [],.int .i64 0,.sl 0 true [],.sl 0 true []],.int .i64 2]):=⟨rfl,rfl⟩
theorem QJ(c':Cert):(List.drop 0 (List.take 1 [PV.agg [enc (c5 c').k,enc (c5 c').m,enc (c5 c').lk,enc (c5 c').lt,enc (c5 c').ks]]):List PV)=[c'].map enc:=by
 show [enc (c5 c')]=[enc c']
 rw[QQ]
theorem VL{a n k:Int}{m:List Int}{l:Lin}{ks:List Cert}(h:(decide (a<0)||decide (n<0)||decide (n>100)||(Xq k&&decide ((m.length:Int)<a)))=true):Zk a n (.mk k m l ks)=(c5 zC,2):=by
 unfold Zk Xv
 rw[X0,if_pos h]
 rfl
theorem Q4{a n k:Int}{m:List Int}{l:Lin}{ks:List Cert}(h : ¬ (decide (a<0)||decide (n<0)||decide (n>100)||(Xq k&&decide ((m.length:Int)<a)))=true):Zk a n (.mk k m l ks)=Ua k (if Xq k=true then Vj a.toNat n.toNat m else m) l [] (ZG a n ks):=by
 unfold Zk Xv
 rw[X0,if_neg h]
 cases ZG a n ks with
 | none=>rfl
 | some r=>rfl
theorem Em(N:Nat)(k:Int)(l:Lin)(ks:List Cert)(a n:Int)(q:List Int)(hN:Yb ks<N)(hlen:ks.length<=1000)(hok:KV ks=true)(ha:a<=1000): ∀ (j i:Nat) (ds:List Cert),j+i=ks.length->ds.length<=i ->
  At (Vh N) 0 (Za XD (Zv (Ua k q l ds (ZG a n (ks.drop i))))) Xn 0 84 [(1,.pv (.int .i64 a)),(2,.pv (.int .i64 n)),(6,.ptr 0 0),(8,.ptr 1 0),(59,.pv (enc ks)),(60,.pv (.int .i64 (ks.length:Int))),(61,.pv (.int .i64 i))] [.obj (.box [.pv (.int .i64 0),.pv (.sl 0 true []),.pv (.int .i64 0),.pv (.sl 0 true []),.pv (.sl 0 true [])]),.obj (.box [.pv (.int .i64 k),.pv (enc q),.pv (.int .i64 l.k),.pv (enc l.t),.row 2 ds.length 0 ds.length]),.obj (.row false 37 5 (ds.map enc))]:=by
 intro j
 induction j with
 | zero=>
  intro i ds hi hd
  refine FL N k l ks a n q ds.length ds i (Yc (X4 (by omega)) ⟨by simp,?_⟩)
  rw[List.drop_of_length_le (by omega),ZG]
  exact Oi k q l ds
 | succ j ih=>
  intro i ds hi hd
  have hlt:i<ks.length:=by omega
  have hdp:=YH (List.getElem_mem hlt)
  have ho:=XK hok (List.getElem_mem hlt)
  have h:=ih (i+1)
  refine FL N k l ks a n q ds.length ds i (Z8 (Xm hlt) ⟨ZN hlt rfl,Yf hlt ?_⟩)
  rw[List.drop_eq_getElem_cons hlt,ZG,next (by omega)]
  generalize ks[i]=c at hdp ho ⊢
  have hq:(cW c&&decide (a<=1000)&&decide (Zt c<N))=true:=by rw[ho,decide_eq_true ha,decide_eq_true (show Zt c<N by omega)];rfl
  cases hc:X0 a n c with
  | none=>
   have e:Zk a n c=(c5 zC,2):=by unfold Zk Xv;rw[hc];rfl
   obtain⟨k',m',l',ks'⟩:=c
   rw[Zp]
   refine⟨rfl,Zd (.mk k' m' l' ks',a,n,()) (Zu k' m' l' ks' a n) hq,Ze (.mk k' m' l' ks',a,n,()) (Zu k' m' l' ks' a n) ?_⟩
   show if ((Zk a n (.mk k' m' l' ks')).2 != 0)=true then _ else _
   rw[e]
   exact Z8 rfl UE
  | some c'=>
   have e:Zk a n c=(c5 c',0):=by unfold Zk Xv;rw[hc];rfl
   obtain⟨k',m',l',ks'⟩:=c
   rw[Zp]
   refine⟨rfl,Zd (.mk k' m' l' ks',a,n,()) (Zu k' m' l' ks' a n) hq,Ze (.mk k' m' l' ks',a,n,()) (Zu k' m' l' ks' a n) ?_⟩
   show if ((Zk a n (.mk k' m' l' ks')).2 != 0)=true then _ else _
   rw[e]
   refine Yc (show ¬ ((0:Int) != 0)=true by decide) ⟨?_,?_⟩
   ·show(_&&_&&decide (((ds.length+List.length (List.drop 0 (List.take 1 [PV.agg [enc (c5 c').k,enc (c5 c').m,enc (c5 c').lk,enc (c5 c').lt,enc (c5 c').ks]])))*88<=1099511627776))&&_)=true
    rw[QJ]
    simp
    omega
   ·have h':=h (ds++[c']) (by omega) (by simp;omega)
    rw[Xu,List.length_append,List.map_append]at h'
    simp only[QJ]
    exact h'
theorem Ey(N:Nat)(k:Int)(l:Lin)(ks:List Cert)(a n:Int)(q:List Int)(hN:Yb ks<N)(hlen:ks.length<=1000)(hok:KV ks=true)(ha:a<=1000):
  At (Vh N) 0 (Za XD (Zv (Ua k q l [] (ZG a n ks)))) Xn 0 84 [(1,.pv (.int .i64 a)),(2,.pv (.int .i64 n)),(6,.ptr 0 0),(8,.ptr 1 0),(59,.pv (enc ks)),(60,.pv (.int .i64 (ks.length:Int))),(61,.pv (.int .i64 0))] [.obj (.box [.pv (.int .i64 0),.pv (.sl 0 true []),.pv (.int .i64 0),.pv (.sl 0 true []),.pv (.sl 0 true [])]),.obj (.box [.pv (.int .i64 k),.pv (enc q),.pv (.int .i64 l.k),.pv (enc l.t),.pv (.sl 0 true [])])]:=by
 match ks,hN,hlen,hok with
 | [],_,_,_=>
  refine FN N k l [] a n q 0 (Yc (by decide) ?_)
  rw[ZG]
  exact TF k q l
 | c::cs,hN,hlen,hok=>
  have hlt:0<(c::cs).length:=by simp
  have hdp:=YH (List.getElem_mem hlt)
  have ho:=XK hok (List.getElem_mem hlt)
  have h:=Em N k l (c::cs) a n q hN hlen hok ha cs.length 1
  have hd1:(c::cs).drop 1=cs:=rfl
  rw[hd1]at h
  refine FN N k l (c::cs) a n q ((0:Nat):Int) (Z8 (Xm hlt) ⟨ZN hlt rfl,Yf hlt ?_⟩)
  rw[ZG,next (by omega)]
  show _∧_
  have hc:(c::cs)[0]=c:=rfl
  rw[hc]at hdp ho ⊢
  have hq:(cW c&&decide (a<=1000)&&decide (Zt c<N))=true:=by rw[ho,decide_eq_true ha,decide_eq_true (show Zt c<N by omega)];rfl
  cases hc:X0 a n c with
  | none=>
   have e:Zk a n c=(c5 zC,2):=by unfold Zk Xv;rw[hc];rfl
   obtain⟨k',m',l',ks'⟩:=c
   rw[Zp]
   refine⟨rfl,Zd (.mk k' m' l' ks',a,n,()) (Zu k' m' l' ks' a n) hq,Ze (.mk k' m' l' ks',a,n,()) (Zu k' m' l' ks' a n) ?_⟩
   show if ((Zk a n (.mk k' m' l' ks')).2 != 0)=true then _ else _
   rw[e]
   exact Z8 rfl UE
  | some c'=>
   have e:Zk a n c=(c5 c',0):=by unfold Zk Xv;rw[hc];rfl
   obtain⟨k',m',l',ks'⟩:=c
   rw[Zp]
   refine⟨rfl,Zd (.mk k' m' l' ks',a,n,()) (Zu k' m' l' ks' a n) hq,Ze (.mk k' m' l' ks',a,n,()) (Zu k' m' l' ks' a n) ?_⟩
   show if ((Zk a n (.mk k' m' l' ks')).2 != 0)=true then _ else _
   rw[e]
   refine Yc (show ¬ ((0:Int) != 0)=true by decide) ?_
   have h':=h ([]++[c']) (by simp) (by simp)
   rw[Xu,show(List.map enc ([]++[c']):List PV)=[enc (c5 c')] by rw[QQ];rfl]at h'
   exact h'
theorem O6(N:Nat)(k:Int)(l:Lin)(ks:List Cert)(a n:Int)(q:List Int)(hN:Yb ks<N)(hlen:ks.length<=1000)(hok:KV ks=true)(ha:a<=1000): ∀ (j i:Nat) (ds:List Cert),j+i=ks.length->ds.length<=i ->
  At (QS N) 0 (Za VZ (Zv (Ua k q l ds (ZG a n (ks.drop i))))) VI 0 84 [(1,.pv (.int .i64 a)),(2,.pv (.int .i64 n)),(6,.ptr 0 0),(8,.ptr 1 0),(59,.pv (enc ks)),(60,.pv (.int .i64 (ks.length:Int))),(61,.pv (.int .i64 i))] [.obj (.box [.pv (.int .i64 0),.pv (.sl 0 true []),.pv (.int .i64 0),.pv (.sl 0 true []),.pv (.sl 0 true [])]),.obj (.box [.pv (.int .i64 k),.pv (enc q),.pv (.int .i64 l.k),.pv (enc l.t),.row 2 ds.length 0 ds.length]),.obj (.row false 37 5 (ds.map enc))]:=by
 intro j
 induction j with
 | zero=>
  intro i ds hi hd
  refine OA N k [] l ks a n q ds.length ds i (Yc (X4 (by omega)) ⟨by simp,?_⟩)
  rw[List.drop_of_length_le (by omega),ZG]
  exact Oi k q l ds
 | succ j ih=>
  intro i ds hi hd
  have hlt:i<ks.length:=by omega
  have hdp:=YH (List.getElem_mem hlt)
  have ho:=XK hok (List.getElem_mem hlt)
  have h:=ih (i+1)
  refine OA N k [] l ks a n q ds.length ds i (Z8 (Xm hlt) ⟨ZN hlt rfl,Yf hlt ?_⟩)
  rw[List.drop_eq_getElem_cons hlt,ZG,next (by omega)]
  generalize ks[i]=c at hdp ho ⊢
  have hq:(cW c&&decide (a<=1000)&&decide (Zt c<N))=true:=by rw[ho,decide_eq_true ha,decide_eq_true (show Zt c<N by omega)];rfl
  cases hc:X0 a n c with
  | none=>
   have e:Zk a n c=(c5 zC,2):=by unfold Zk Xv;rw[hc];rfl
   obtain⟨k',m',l',ks'⟩:=c
   rw[Zp]
   refine⟨rfl,Zd (.mk k' m' l' ks',a,n,()) (Zu k' m' l' ks' a n) hq,Ze (.mk k' m' l' ks',a,n,()) (Zu k' m' l' ks' a n) ?_⟩
   show if ((Zk a n (.mk k' m' l' ks')).2 != 0)=true then _ else _
   rw[e]
   exact Z8 rfl UE
  | some c'=>
   have e:Zk a n c=(c5 c',0):=by unfold Zk Xv;rw[hc];rfl
   obtain⟨k',m',l',ks'⟩:=c
   rw[Zp]
   refine⟨rfl,Zd (.mk k' m' l' ks',a,n,()) (Zu k' m' l' ks' a n) hq,Ze (.mk k' m' l' ks',a,n,()) (Zu k' m' l' ks' a n) ?_⟩
   show if ((Zk a n (.mk k' m' l' ks')).2 != 0)=true then _ else _
   rw[e]
   refine Yc (show ¬ ((0:Int) != 0)=true by decide) ⟨?_,?_⟩
   ·show(_&&_&&decide (((ds.length+List.length (List.drop 0 (List.take 1 [PV.agg [enc (c5 c').k,enc (c5 c').m,enc (c5 c').lk,enc (c5 c').lt,enc (c5 c').ks]])))*88<=1099511627776))&&_)=true
    rw[QJ]
    simp
    omega
   ·have h':=h (ds++[c']) (by omega) (by simp;omega)
    rw[Xu,List.length_append,List.map_append]at h'
    simp only[QJ]
    exact h'
theorem a0b(N:Nat)(k:Int)(l:Lin)(ks:List Cert)(a n:Int)(q:List Int)(hN:Yb ks<N)(hlen:ks.length<=1000)(hok:KV ks=true)(ha:a<=1000):
  At (QS N) 0 (Za VZ (Zv (Ua k q l [] (ZG a n ks)))) VI 0 84 [(1,.pv (.int .i64 a)),(2,.pv (.int .i64 n)),(6,.ptr 0 0),(8,.ptr 1 0),(59,.pv (enc ks)),(60,.pv (.int .i64 (ks.length:Int))),(61,.pv (.int .i64 0))] [.obj (.box [.pv (.int .i64 0),.pv (.sl 0 true []),.pv (.int .i64 0),.pv (.sl 0 true []),.pv (.sl 0 true [])]),.obj (.box [.pv (.int .i64 k),.pv (enc q),.pv (.int .i64 l.k),.pv (enc l.t),.pv (.sl 0 true [])])]:=by
 match ks,hN,hlen,hok with
 | [],_,_,_=>
  refine Od N k [] l [] a n q 0 (Yc (by decide) ?_)
  rw[ZG]
  exact TF k q l
 | c::cs,hN,hlen,hok=>
  have hlt:0<(c::cs).length:=by simp
  have hdp:=YH (List.getElem_mem hlt)
  have ho:=XK hok (List.getElem_mem hlt)
  have h:=O6 N k l (c::cs) a n q hN hlen hok ha cs.length 1
  have hd1:(c::cs).drop 1=cs:=rfl
  rw[hd1]at h
  refine Od N k [] l (c::cs) a n q ((0:Nat):Int) (Z8 (Xm hlt) ⟨ZN hlt rfl,Yf hlt ?_⟩)
  rw[ZG,next (by omega)]
  show _∧_
  have hc:(c::cs)[0]=c:=rfl
  rw[hc]at hdp ho ⊢
  have hq:(cW c&&decide (a<=1000)&&decide (Zt c<N))=true:=by rw[ho,decide_eq_true ha,decide_eq_true (show Zt c<N by omega)];rfl
  cases hc:X0 a n c with
  | none=>
   have e:Zk a n c=(c5 zC,2):=by unfold Zk Xv;rw[hc];rfl
   obtain⟨k',m',l',ks'⟩:=c
   rw[Zp]
   refine⟨rfl,Zd (.mk k' m' l' ks',a,n,()) (Zu k' m' l' ks' a n) hq,Ze (.mk k' m' l' ks',a,n,()) (Zu k' m' l' ks' a n) ?_⟩
   show if ((Zk a n (.mk k' m' l' ks')).2 != 0)=true then _ else _
   rw[e]
   exact Z8 rfl UE
  | some c'=>
   have e:Zk a n c=(c5 c',0):=by unfold Zk Xv;rw[hc];rfl
   obtain⟨k',m',l',ks'⟩:=c
   rw[Zp]
   refine⟨rfl,Zd (.mk k' m' l' ks',a,n,()) (Zu k' m' l' ks' a n) hq,Ze (.mk k' m' l' ks',a,n,()) (Zu k' m' l' ks' a n) ?_⟩
   show if ((Zk a n (.mk k' m' l' ks')).2 != 0)=true then _ else _
   rw[e]
   refine Yc (show ¬ ((0:Int) != 0)=true by decide) ?_
   have h':=h ([]++[c']) (by simp) (by simp)
   rw[Xu,show(List.map enc ([]++[c']):List PV)=[enc (c5 c')] by rw[QQ];rfl]at h'
   exact h'
theorem DJ{k:Int}{m:List Int}{l:Lin}{ks:List Cert}(h:cW (.mk k m l ks)=true):m.length<=1000∧l.t.length<=1000∧ks.length<=1000∧KV ks=true:=by
 simp only[cW,Bool.and_eq_true,decide_eq_true_eq]at h
 exact⟨h.1.1.1,h.1.1.2,h.1.2,h.2⟩
theorem b7a{P:List Coef->Prop}(l:Lin)(k:P l.t): ∃ y:List Coef,AV.pv (Zf (fun x:List Coef×Unit=>x.1) [(.sl 2 false (List.map enc l.t))])=AV.pv (enc y)∧P y:=Ze (α:=List Coef×Unit) (l.t,()) rfl k
theorem a3h(l:Lin)(h:l.t.length<=1000):preT (fun x:List Coef×Unit=>decide (x.1.length<=1048576)) [(.sl 2 false (List.map enc l.t))]=true:=Zd (α:=List Coef×Unit) (l.t,()) rfl (decide_eq_true (show l.t.length<=1048576 by omega))
theorem SG(a n:Nat)(m:List Int):List.take a (List.map (enc:Int->PV) m)++List.replicate n (PV.int .i64 0)++List.drop a (List.map enc m)=List.map enc (Vj a n m):=by
 unfold Vj
 rw[List.map_append,List.map_append,List.map_take,List.map_drop,List.map_replicate]
 rfl
theorem b2t(N:Nat): ∀ x:Cert×Int×Int×Unit,(((cW x.1&&decide (x.2.1<=1000))&&decide (Zt x.1<N+1))&& !Xq x.1.kind)=true->Zc (QS N) 0 (Za VZ (Zv (Zk x.2.1 x.2.2.1 x.1))) VI [] (Z9 b6s (encL x)):=by
 rintro⟨⟨k,m,l,ks⟩,a,n,⟨⟩⟩ h
 simp only[Bool.and_eq_true,decide_eq_true_eq,Bool.not_eq_true']at h
 obtain⟨⟨⟨hw,ha⟩,hd⟩,hk⟩:=h
 obtain⟨h1,h2,h3,h4⟩:=DJ hw
 have hk:Xq k=false:=hk
 rw[Zt]at hd
 have e:(encL ((Cert.mk k m l ks,a,n,()):Cert×Int×Int×Unit):List PV)=[PV.agg [enc k,enc m,enc l.k,enc l.t,enc ks],enc a,enc n]:=(Zu k m l ks a n).symm
 rw[e]
 show Zc (QS N) 0 (Za VZ (Zv (Zk a n (.mk k m l ks)))) VI [] _
 have hk':k≠1∧k≠2:=by simpa [Xq]using hk
 refine a5k N k m l ks a n (Yv (fun h=> ?_) fun ha0=>Yv (fun h=> ?_) fun hn0=>Yv (fun h=> ?_) fun hn1=>XL (fun h=>absurd h hk'.1) fun _=>XL (fun h=>absurd h hk'.2) fun _=>⟨?_,?_⟩)
 ·rw[VL (by simp[h])];exact UE
 ·rw[VL (by simp[h])];exact UE
 ·rw[VL (by simp[h])];exact UE
 ·exact Zd (α:=List Int×Unit) (m,()) rfl (decide_eq_true (show m.length<=1048576 by omega))
 ·refine Ze (α:=List Int×Unit) (m,()) rfl ⟨a3h l h2,b7a l ?_⟩
  rw[Q4 (by simp[hk];omega),hk,if_neg (by simp),List.length_map]
  exact a0b N k l ks a n m (by omega) h3 h4 ha
theorem b2h(N:Nat): ∀ x:Cert×Int×Int×Unit,(((cW x.1&&decide (x.2.1<=1000))&&decide (Zt x.1<N+1))&&Xq x.1.kind)=true->Zc (Vh N) 0 (Za XD (Zv (Zk x.2.1 x.2.2.1 x.1))) Xn [] (Z9 b5f (encL x)):=by
 rintro⟨⟨k,m,l,ks⟩,a,n,⟨⟩⟩ h
 simp only[Bool.and_eq_true,decide_eq_true_eq]at h
 obtain⟨⟨⟨hw,ha⟩,hd⟩,hk⟩:=h
 obtain⟨h1,h2,h3,h4⟩:=DJ hw
 have hk:Xq k=true:=hk
 rw[Zt]at hd
 have e:(encL ((Cert.mk k m l ks,a,n,()):Cert×Int×Int×Unit):List PV)=[PV.agg [enc k,enc m,enc l.k,enc l.t,enc ks],enc a,enc n]:=(Zu k m l ks a n).symm
 rw[e]
 show Zc (Vh N) 0 (Za XD (Zv (Zk a n (.mk k m l ks)))) Xn [] _
 have hk':k=1∨k=2:=by simpa [Xq]using hk
 have hL:=fun q=>Ey N k l ks a n q (by omega) h3 h4 ha
 have hB:a<0∨n<0∨n>100∨(m.length:Int)<a->Zv (Zk a n (.mk k m l ks)) (.tup [.agg [.int .i64 0,.sl 0 true [],.int .i64 0,.sl 0 true [],.sl 0 true []],.int .i64 2]):=fun h=>by
  rw[VL (by simp[hk];omega)];exact UE
 have hO : ¬ a<0-> ¬ n<0-> ¬ n>100-> ¬ (m.length:Int)<a->Zk a n (.mk k m l ks)=Ua k (Vj a.toNat n.toNat m) l [] (ZG a n ks):=fun q1 q2 q3 q4=>by
  rw[Q4 (by simp[hk];omega),hk,if_pos rfl]
 match m,h1,hB,hO with
 | [],h1,hB,hO=>
  have core : ¬ a<0-> ¬ n<0-> ¬ n>100-> ¬ (0:Int)<a->XO 3 [(.pv (.sl 1 true [])),(.pv (.int .i64 a)),(.row 0 (Int.toNat n) 0 (Int.toNat n))] [(.row false 3 1 (List.replicate (Int.toNat n) (PV.int .i64 0)))]=true:=fun q1 q2 q3 q4=>by
   obtain rfl:a=0:=by omega
   show(_==_&&(List.replicate (Int.toNat n) (PV.int .i64 0)).length==_&&_==_&&decide _)=true
   simp
   omega
  refine b9h N k l ks a n (Yv (fun h=>hB (.inl h)) fun ha0=>Yv (fun h=>hB (.inr (.inl h))) fun hn0=>Yv (fun h=>hB (.inr (.inr (.inl h)))) fun hn1=>
   have rest:if decide ((List.length (List.map enc ([]:List Int)):Int)<a)=true then Zv (Zk a n (.mk k [] l ks)) ((.tup [(.agg [(.int .i64 0),(.sl 0 true []),(.int .i64 0),(.sl 0 true []),(.sl 0 true [])]),(.int .i64 2)]))else((decide (0<=n)&&n==n&&decide (n*((8:Nat):Int)<=1099511627776)&&decide (n<=1099511627776))=true∧(_∧_)):= ?_
   XL (fun _=>rest) fun h1=>XL (fun _=>rest) fun h2=>absurd hk' (by simp[h1,h2]))
  refine Yv (fun h=>hB (.inr (.inr (.inr h)))) fun ha1=>⟨?_,core ha0 hn0 hn1 (by simpa using ha1),a3h l h2,b7a l ?_⟩
  ·simp;omega
  ·rw[hO ha0 hn0 hn1 (by simpa using ha1),List.length_map]
   have:=hL (Vj a.toNat n.toNat [])
   rw[show(enc (Vj a.toNat n.toNat []):PV) = .sl 1 false (List.replicate n.toNat (PV.int .i64 0)) by
    show PV.sl 1 false (List.map enc (Vj a.toNat n.toNat []))=_
    rw[<- SG];simp]at this
   exact this
 | x::m,h1,hB,hO=>
  have hl:(List.map (enc:Int->PV) (x::m)).length=(x::m).length:=List.length_map _
  have core : ¬ a<0-> ¬ n<0-> ¬ n>100-> ¬ ((x::m).length:Int)<a->XO 3 [(.row 0 (List.length (List.map (enc:Int->PV) (x::m))) 0 (List.length (List.map (enc:Int->PV) (x::m)))),(.pv (.int .i64 a)),(.row 1 (Int.toNat n) 0 (Int.toNat n))] [(.row false 3 1 (List.map enc (x::m))),(.row false 3 1 (List.replicate (Int.toNat n) (PV.int .i64 0)))]=true:=fun q1 q2 q3 q4=>by
   show(_==_&&_==_&&(List.map (enc:Int->PV) (x::m)).length==_&&_==_&&(List.replicate (Int.toNat n) (PV.int .i64 0)).length==_&&_==_&&decide (0<=a)&&decide (a.toNat<=(List.map (enc:Int->PV) (x::m)).length)&&decide ((List.map (enc:Int->PV) (x::m)).length+n.toNat<=1048576))=true
   rw[hl,decide_eq_true (show 0<=a by omega),decide_eq_true (show a.toNat<=(x::m).length by omega),decide_eq_true (show(x::m).length+n.toNat<=1048576 by omega)]
   simp
  have pc:Y0 1 [(.pv (.sl 1 false (List.map (enc:Int->PV) (x::m))))] []=true:=by
   show(((List.map (enc:Int->PV) (x::m)).isEmpty||(1:Nat)==1)&&decide ((List.map (enc:Int->PV) (x::m)).length<=1048576))=true
   rw[hl,decide_eq_true (show(x::m).length<=1048576 by omega)]
   simp
  refine b9v N k x m l ks a n (Yv (fun h=>hB (.inl h)) fun ha0=>Yv (fun h=>hB (.inr (.inl h))) fun hn0=>Yv (fun h=>hB (.inr (.inr (.inl h)))) fun hn1=>
   have rest:if decide ((List.length (List.map (enc:Int->PV) (x::m)):Int)<a)=true then Zv (Zk a n (.mk k (x::m) l ks)) ((.tup [(.agg [(.int .i64 0),(.sl 0 true []),(.int .i64 0),(.sl 0 true []),(.sl 0 true [])]),(.int .i64 2)]))else(Y0 1 [(.pv (.sl 1 false (List.map (enc:Int->PV) (x::m))))] []=true∧((decide (0<=n)&&n==n&&decide (n*((8:Nat):Int)<=1099511627776)&&decide (n<=1099511627776))=true∧(_∧_))):= ?_
   XL (fun _=>rest) fun h1=>XL (fun _=>rest) fun h2=>absurd hk' (by simp[h1,h2]))
  refine Yv (fun h=>hB (.inr (.inr (.inr (by rw[hl]at h;exact h))))) fun ha1=>⟨pc,?_,core ha0 hn0 hn1 (by rw[hl]at ha1;exact ha1),a3h l h2,b7a l ?_⟩
  ·simp;omega
  ·rw[hO ha0 hn0 hn1 (by rw[hl]at ha1;exact ha1),List.length_map (as:=ks)]
   have:=hL (Vj a.toNat n.toNat (x::m))
   rw[show(enc (Vj a.toNat n.toNat (x::m)):PV) = .sl 1 false (List.take (Int.toNat a) (List.map enc (x::m))++List.replicate (Int.toNat n) (PV.int .i64 0)++List.drop (Int.toNat a) (List.map enc (x::m))) by
    rw[SG];rfl]at this
   exact this
end Go.Pl

namespace Go.Pl
open Go.RowKit
open Enc (enc dec is)
open EncL (encL decL isL)
theorem a7a{α:Type}{l:List α}(h:l.length<=1000):QT l=true:=decide_eq_true (by omega)
theorem a4a{α:Type}[DecidableEq α](x y:α)(a b:List α):decide (x::a=y::b)=(decide (x=y)&&decide (a=b)):=by
 by_cases h:x=y <;> by_cases k:a=b <;> simp[h,k]
theorem EK(a b:List Int)(ha:a.length<=9223372036854775807)(hab:a.length=b.length): ∀ (k i:Nat),k+i=a.length ->
  At K6 0 (Za U6 (Zv (decide (a.drop i=b.drop i)))) Qq 0 26 [(0,.pv (enc a)),(1,.pv (enc b)),(12,.pv (.int .i64 a.length)),(13,.pv (.int .i64 i))] []:=by
 intro k
 induction k with
 | zero=>
  intro i hi
  rw[List.drop_of_length_le (by omega),List.drop_of_length_le (by omega)]
  exact FK a b i (Yc (X4 (by omega)) (Zz rfl))
 | succ k ih=>
  intro i hi
  have hlt:i<a.length:=by omega
  have hlt2:i<b.length:=by omega
  have h:=ih (i+1) (by omega)
  rw[List.drop_eq_getElem_cons hlt,List.drop_eq_getElem_cons hlt2,a4a]
  refine FK a b i (Z8 (Xm hlt) ⟨ZN hlt rfl,Yf hlt ⟨ZN hlt2 rfl,Yf hlt2 ?_⟩⟩)
  show if (a[i] != b[i])=true then _ else _
  by_cases e:a[i]=b[i]
  ·rw[if_neg (by simp[e]),next (by omega),decide_eq_true e,Bool.true_and]
   exact h
  ·rw[if_pos (by simp[e]),decide_eq_false e,Bool.false_and]
   exact Zz rfl
theorem a3f: ∀ x:List Int×List Int×Unit,QT x.1=true->Zc K6 0 (Za U6 (Zv (decide (x.1=x.2.1)))) Qq [] (Z9 b3p (encL x)):=by
 rintro⟨a,b,⟨⟩⟩ h
 refine b7y a b ?_
 simp only[List.length_map]
 by_cases e:a.length=b.length
 ·rw[if_neg (by simp[e])]
  exact EK a b (of_decide_eq_true h) e a.length 0 (by omega)
 ·rw[if_pos (by simp;omega)]
  exact Zz (by simp;rintro rfl;exact e rfl)
theorem VD(k:Int)(m:List Int)(l:Lin)(ks:List Cert)(k2:Int)(m2:List Int)(l2:Lin)(ks2:List Cert):([PV.agg [enc k,enc m,enc l.k,enc l.t,enc ks],PV.agg [enc k2,enc m2,enc l2.k,enc l2.t,enc ks2]]:List PV)=[enc (Cert.mk k m l ks),enc (Cert.mk k2 m2 l2 ks2)]:=by rw[Zp,Zp]
theorem a8x(N:Nat)(a b:List Cert)(hN:Yb a<N)(ha:KV a=true)(hb:KV b=true)(hl:a.length<=1000)(hab:a.length=b.length): ∀ (k i:Nat),k+i=a.length ->
  At (Dc N) 0 (Za Jc (Zv (Qe (a.drop i) (b.drop i)))) KU 0 32 [(1,.pv (enc b)),(2,.pv (.fn 34)),(15,.pv (enc a)),(16,.pv (.int .i64 a.length)),(17,.pv (.int .i64 i))] []:=by
 intro k
 induction k with
 | zero=>
  intro i hi
  rw[List.drop_of_length_le (by omega),List.drop_of_length_le (by omega)]
  exact a4p N a b i (Yc (X4 (by omega)) (Zz (by rw[Qe])))
 | succ k ih=>
  intro i hi
  have hlt:i<a.length:=by omega
  have hlt2:i<b.length:=by omega
  have h:=ih (i+1) (by omega)
  have hd:=YH (List.getElem_mem hlt)
  have ho:=XK ha (List.getElem_mem hlt)
  have ho2:=XK hb (List.getElem_mem hlt2)
  refine a4p N a b i (Z8 (Xm hlt) ⟨ZN hlt rfl,Yf hlt ?_⟩)
  rw[List.drop_eq_getElem_cons hlt,List.drop_eq_getElem_cons hlt2,Qe,next (by omega)]
  generalize a[i]=c at hd ho ⊢
  obtain⟨k1,m1,l1,ks1⟩:=c
  rw[Zp]
  refine⟨rfl,ZN hlt2 rfl,Yf hlt2 ?_⟩
  generalize b[i]=d at ho2 ⊢
  obtain⟨k2,m2,l2,ks2⟩:=d
  rw[Zp]
  refine⟨rfl,Zd (Cert.mk k1 m1 l1 ks1,Cert.mk k2 m2 l2 ks2,()) (VD k1 m1 l1 ks1 k2 m2 l2 ks2) (by
    show(cW _&&cW _&&decide _)=true
    rw[ho,ho2,decide_eq_true (show Zt (Cert.mk k1 m1 l1 ks1)<N by omega)];rfl),Ze (Cert.mk k1 m1 l1 ks1,Cert.mk k2 m2 l2 ks2,()) (VD k1 m1 l1 ks1 k2 m2 l2 ks2) ?_⟩
  refine Y4 (fun hf=> ?_) fun hf=> ?_
  ·have hf:GD (.mk k1 m1 l1 ks1) (.mk k2 m2 l2 ks2)=false:=hf
   rw[hf]
   exact Zz rfl
  ·have hf:GD (.mk k1 m1 l1 ks1) (.mk k2 m2 l2 ks2)=true:=hf
   rw[hf,Bool.true_and]
   exact h
theorem b1k(N:Nat): ∀ x:List Cert×List Cert×FnV 34×Unit,((KV x.1&&KV x.2.1&&decide (x.1.length<=1000))&&decide (Yb x.1<N))=true->Zc (Dc N) 0 (Za Jc (Zv (Qe x.1 x.2.1))) KU [] (Z9 b5q (encL x)):=by
 rintro⟨a,b,⟨⟩,⟨⟩⟩ h
 simp only[Bool.and_eq_true,decide_eq_true_eq]at h
 obtain⟨⟨⟨h1,h2⟩,h3⟩,h4⟩:=h
 refine b8m N a b ?_
 simp only[List.length_map]
 by_cases e:a.length=b.length
 ·rw[if_neg (by simp[e])]
  exact a8x N a b h4 h1 h2 h3 e a.length 0 (by omega)
 ·rw[if_pos (by simp;omega)]
  exact Zz (by show false=Qe a b;rw[DR e])
theorem b1q(N:Nat): ∀ x:Cert×Cert×Unit,((cW x.1&&cW x.2.1)&&decide (Zt x.1<N+1))=true->Zc (Ot N) 0 (Za TL (Zv (GD x.1 x.2.1))) Ti [] (Z9 b6r (encL x)):=by
 rintro⟨⟨k,m,l,ks⟩,⟨k2,m2,l2,ks2⟩,⟨⟩⟩ h
 simp only[Bool.and_eq_true,decide_eq_true_eq]at h
 obtain⟨⟨hw,hw2⟩,hd⟩:=h
 obtain⟨h1,h2,h3,h4⟩:=DJ hw
 obtain⟨g1,g2,g3,g4⟩:=DJ hw2
 rw[Zt]at hd
 have e:(encL ((Cert.mk k m l ks,Cert.mk k2 m2 l2 ks2,()):Cert×Cert×Unit):List PV)=[PV.agg [enc k,enc m,enc l.k,enc l.t,enc ks],PV.agg [enc k2,enc m2,enc l2.k,enc l2.t,enc ks2]]:=(VD k m l ks k2 m2 l2 ks2).symm
 rw[e]
 show Zc (Ot N) 0 (Za TL (Zv (GD (.mk k m l ks) (.mk k2 m2 l2 ks2)))) Ti [] _
 rw[GD]
 refine b9o N k m l ks k2 m2 l2 ks2 (QY (fun a1=> ?_) fun a1=> ?_)
 ·rw[a1,Bool.true_and]
  refine⟨Zd (m,m2,()) rfl (a7a h1),Ze (m,m2,()) rfl (QY (fun a2=> ?_) fun a2=> ?_)⟩
  ·have a2:decide (m=m2)=true:=a2
   rw[a2,Bool.true_and]
   refine⟨Zd (l,l2,()) rfl (by show(decide _&&decide _)=true;rw[decide_eq_true (show l.t.length<=9223372036854775807 by omega),decide_eq_true (show l2.t.length<=9223372036854775807 by omega)];rfl),Ze (l,l2,()) rfl (QY (fun a3=> ?_) fun a3=> ?_)⟩
   ·have a3:decide (l=l2)=true:=a3
    rw[a3,Bool.true_and]
    exact⟨Zd (α:=List Cert×List Cert×FnV 34×Unit) (ks,ks2,⟨()⟩,()) rfl (by show(KV ks&&KV ks2&&decide _&&decide _)=true;rw[h4,g4,decide_eq_true (show ks.length<=1000 from h3),decide_eq_true (show Yb ks<N by omega)];rfl),Ze (α:=List Cert×List Cert×FnV 34×Unit) (ks,ks2,⟨()⟩,()) rfl (Zz rfl)⟩
   ·have a3:decide (l=l2)=false:=a3
    rw[a3];exact Zz rfl
  ·have a2:decide (m=m2)=false:=a2
   rw[a2];exact Zz rfl
 ·rw[a1];exact Zz rfl
theorem OU(N:Nat)(k:Int)(m:List Int)(l:Lin)(a:List Cert)(k2:Int)(m2:List Int)(l2:Lin)(b:List Cert)(hN:Yb a<N)(ha:KV a=true)(hb:KV b=true)(hl:a.length<=1000)(hab:a.length=b.length): ∀ (j i:Nat),j+i=a.length ->
  At (QU N) 0 (Za Ur (Zv (Qe (a.drop i) (b.drop i)))) Uj 0 55 [(2,.ptr 0 0),(3,.ptr 1 0),(5,.pv (.int .i64 i))] [.obj (.box [.pv (enc k),.pv (enc m),.pv (enc l.k),.pv (enc l.t),.pv (enc a)]),.obj (.box [.pv (enc k2),.pv (enc m2),.pv (enc l2.k),.pv (enc l2.t),.pv (enc b)])]:=by
 intro j
 induction j with
 | zero=>
  intro i hi
  rw[List.drop_of_length_le (by omega),List.drop_of_length_le (by omega)]
  exact FC N k m l a k2 m2 l2 b i (Yc (UF (by omega)) (Zz (by rw[Qe])))
 | succ j ih=>
  intro i hi
  have hlt:i<a.length:=by omega
  have hlt2:i<b.length:=by omega
  have h:=ih (i+1) (by omega)
  have hd:=YH (List.getElem_mem hlt)
  have ho:=XK ha (List.getElem_mem hlt)
  have ho2:=XK hb (List.getElem_mem hlt2)
  refine FC N k m l a k2 m2 l2 b i (Z8 (V5 hlt) ⟨ZN hlt rfl,Yf hlt ?_⟩)
  rw[List.drop_eq_getElem_cons hlt,List.drop_eq_getElem_cons hlt2,Qe,next (by omega)]
  generalize a[i]=c at hd ho ⊢
  obtain⟨k1,m1,l1,ks1⟩:=c
  rw[Zp]
  refine⟨rfl,ZN hlt2 rfl,Yf hlt2 ?_⟩
  generalize b[i]=d at ho2 ⊢
  obtain⟨k3,m3,l3,ks3⟩:=d
  rw[Zp]
  refine⟨rfl,Zd (Cert.mk k1 m1 l1 ks1,Cert.mk k3 m3 l3 ks3,()) (VD k1 m1 l1 ks1 k3 m3 l3 ks3) (by
    show(cW _&&cW _&&decide _)=true
    rw[ho,ho2,decide_eq_true (show Zt (Cert.mk k1 m1 l1 ks1)<N by omega)];rfl),Ze (Cert.mk k1 m1 l1 ks1,Cert.mk k3 m3 l3 ks3,()) (VD k1 m1 l1 ks1 k3 m3 l3 ks3) ?_⟩
  refine Y4 (fun hf=> ?_) fun hf=> ?_
  ·have hf:GD (.mk k1 m1 l1 ks1) (.mk k3 m3 l3 ks3)=false:=hf
   rw[hf]
   exact Zz rfl
  ·have hf:GD (.mk k1 m1 l1 ks1) (.mk k3 m3 l3 ks3)=true:=hf
   rw[hf,Bool.true_and]
   exact h
theorem a4x(N:Nat): ∀ x:Cert×Cert×Unit,((cW x.1&&cW x.2.1)&&decide (Zt x.1<N+1))=true->Zc (QU N) 0 (Za Ur (Zv (GD x.1 x.2.1))) Uj [] (Z9 b1a (encL x)):=by
 rintro⟨⟨k,m,l,ks⟩,⟨k2,m2,l2,ks2⟩,⟨⟩⟩ h
 simp only[Bool.and_eq_true,decide_eq_true_eq]at h
 obtain⟨⟨hw,hw2⟩,hd⟩:=h
 obtain⟨h1,h2,h3,h4⟩:=DJ hw
 obtain⟨g1,g2,g3,g4⟩:=DJ hw2
 rw[Zt]at hd
 have e:(encL ((Cert.mk k m l ks,Cert.mk k2 m2 l2 ks2,()):Cert×Cert×Unit):List PV)=[PV.agg [enc k,enc m,enc l.k,enc l.t,enc ks],PV.agg [enc k2,enc m2,enc l2.k,enc l2.t,enc ks2]]:=(VD k m l ks k2 m2 l2 ks2).symm
 rw[e]
 show Zc (QU N) 0 (Za Ur (Zv (GD (.mk k m l ks) (.mk k2 m2 l2 ks2)))) Uj [] _
 rw[GD]
 by_cases a1:k=k2
 ·refine a4d N k m l ks k2 m2 l2 ks2 (Yc (by simp[a1]) ?_)
  rw[show(k==k2)=true by simp[a1],Bool.true_and]
  refine⟨Zd (m,m2,()) rfl (a7a h1),Ze (m,m2,()) rfl (Y4 (fun a2=> ?_) fun a2=> ?_)⟩
  ·have a2:decide (m=m2)=false:=a2
   rw[a2];exact Zz rfl
  ·have a2:decide (m=m2)=true:=a2
   rw[a2,Bool.true_and]
   refine⟨Zd (l,l2,()) rfl (decide_eq_true (show l.t.length<=9223372036854775807 by omega)),Ze (l,l2,()) rfl (Y4 (fun a3=> ?_) fun a3=> ?_)⟩
   ·have a3:decide (l=l2)=false:=a3
    rw[a3];exact Zz rfl
   ·have a3:decide (l=l2)=true:=a3
    rw[a3,Bool.true_and,List.length_map,List.length_map]
    by_cases e:ks.length=ks2.length
    ·exact Yc (by simp[e]) (OU N k m l ks k2 m2 l2 ks2 (by omega) h4 g4 h3 e ks.length 0 (by omega))
    ·exact Z8 (by simp;omega) (Zz (DR e).symm)
 ·refine a4d N k m l ks k2 m2 l2 ks2 (Z8 (by simp[a1]) ?_)
  rw[show(k==k2)=false by simp[a1]]
  exact Zz rfl
end Go.Pl

namespace Go.Pl
open Go.RowKit
def Br(p q:Int×List (Str×Int)):Prop:=p.1=q.1∧ ∀ s,Ws p.2 s=Ws q.2 s
def wS(p:Int×List (Str×Int)):Prop:=Ym p.1=p.1∧wM p.2
theorem Nw(k:Int): ∀ (x:List Coef) (m m':List (Str×Int)),(∀ s,Ws m s=Ws m' s)-> ∀ s,Ws (YK k x m) s=Ws (YK k x m') s
 | [],m,m',h,s=>h s
 | t::x,m,m',h,s=>by
  rw[YK,YK]
  refine Nw k x _ _ (fun s=> ?_) s
  rw[J6,J6,h]
  split
  ·rfl
  ·exact h s
theorem E5{p q:Int×List (Str×Int)}(h:Br p q)(x:Int×Fact):Br (WL p x) (WL q x):=
 ⟨by show Ym _=Ym _;rw[h.1],Nw x.1 x.2.l.t _ _ h.2⟩
theorem Fp{p:Int×List (Str×Int)}(h:wS p)(x:Int×Fact):wS (WL p x):=⟨Kl _,a4z x.1 x.2.l.t _ h.2⟩
theorem MR{p q:Int×List (Str×Int)}(h:Br p q)(hw:wS p){x:Int×Fact}(hx:x.1=0):Br (WL p x) q:=by
 refine⟨?_,fun s=> ?_⟩
 ·show Ym (p.1+Ym (x.1*x.2.l.k))=q.1
  rw[hx,Int.zero_mul,show Ym 0=0 from rfl,Int.add_zero,hw.1,h.1]
 ·show Ws (YK x.1 x.2.l.t p.2) s=Ws q.2 s
  rw[hx,add_zero _ _ hw.2,h.2]
theorem Ph: ∀ (l:List (Int×Fact)) {p q:Int×List (Str×Int)},Br p q->Br (l.foldl WL p) (l.foldl WL q)
 | [],_,_,h=>h
 | x::l,_,_,h=>Ph l (E5 h x)
theorem a7b: ∀ (l:List (Int×Fact)) {p:Int×List (Str×Int)},wS p->wS (l.foldl WL p)
 | [],_,h=>h
 | x::l,_,h=>a7b l (Fp h x)
theorem BS: ∀ (l:List (Int×Fact)) {p q:Int×List (Str×Int)},(∀ x∈l,x.1=0)->Br p q->wS p->Br (l.foldl WL p) q
 | [],_,_,_,h,_=>h
 | x::l,_,_,hx,h,hw=>BS l (fun y hy=>hx y (List.mem_cons_of_mem _ hy)) (MR h hw (hx x List.mem_cons_self)) (Fp hw x)
def WZ(a:Nat)(more fs:List Fact):List Fact:=fs.take a++more++fs.drop a
theorem Om{a:Nat}{more fs:List Fact}{m:List Int}(ha:a<=fs.length)(hm:m.length=fs.length):
  (Vj a more.length m).zip (WZ a more fs)=(m.take a).zip (fs.take a)++((List.replicate more.length 0).zip more++(m.drop a).zip (fs.drop a)):=by
 unfold Vj WZ
 rw[List.append_assoc,List.append_assoc,List.zip_append (by simp;omega),List.zip_append (by simp)]
theorem Fv{a:Nat}{fs:List Fact}{m:List Int}:m.zip fs=(m.take a).zip (fs.take a)++(m.drop a).zip (fs.drop a):=by
 have h:m.zip fs=(m.zip fs).take a++(m.zip fs).drop a:=(List.take_append_drop _ _).symm
 rw[h,List.zip_eq_zipWith,List.take_zipWith,List.drop_zipWith]
 rfl
theorem AO{a:Nat}{more fs:List Fact}{m:List Int}(ha:a<=fs.length)(hm:m.length=fs.length):Br (ZQ (WZ a more fs) (Vj a more.length m)) (ZQ fs m):=by
 unfold ZQ
 rw[Om ha hm,Fv (a:=a) (fs:=fs) (m:=m),List.foldl_append,List.foldl_append,List.foldl_append]
 refine Ph _ (BS _ (fun x hx=> ?_) ⟨rfl,fun _=>rfl⟩ (a7b _ ⟨rfl,fun _=>rfl⟩))
 exact List.eq_of_mem_replicate (List.of_mem_zip (a:=x.1) (b:=x.2) hx).1
theorem Oj{a:Nat}{more fs:List Fact}{m:List Int}(ha:a<=fs.length)(h:QZ fs m=true):QZ (WZ a more fs) (Vj a more.length m)=true:=by
 simp only[QZ,Bool.and_eq_true,decide_eq_true_eq]at h ⊢
 obtain⟨hm,hq⟩:=h
 refine⟨by simp[Vj,WZ];omega,?_⟩
 rw[Om ha hm]
 rw[Fv (a:=a) (fs:=fs) (m:=m)]at hq
 rw[List.all_append,Bool.and_eq_true]at hq
 rw[List.all_append,List.all_append,hq.1,hq.2,Bool.true_and,Bool.and_true]
 refine List.all_eq_true.2 fun x hx=> ?_
 have:=List.eq_of_mem_replicate (List.of_mem_zip (a:=x.1) (b:=x.2) hx).1
 unfold okQ
 rw[this]
 simp
theorem J8{a:Nat}{more fs:List Fact}(h1:Zq fs=true)(h2:Zq more=true):Zq (WZ a more fs)=true:=by
 simp only[Zq,WZ,List.all_append,Bool.and_eq_true]at h1 h2 ⊢
 refine⟨⟨List.all_eq_true.2 fun x hx=> ?_,h2⟩,List.all_eq_true.2 fun x hx=> ?_⟩
 ·exact List.all_eq_true.1 h1 x (List.mem_of_mem_take hx)
 ·exact List.all_eq_true.1 h1 x (List.mem_of_mem_drop hx)
theorem Gm(fs:List Fact)(m:List Int):(ZF (ZQ fs m).2).Nodup:=Qh _ _ _ (by simp[ZF])
theorem Sb{fs gs:List Fact}{m n:List Int}(h:Br (ZQ fs m) (ZQ gs n)):YL (ZQ fs m).2=YL (ZQ gs n).2:=by
 have h1:=WN (Gm fs m)
 have h2:=WN (Gm gs n)
 refine Km h1.1.1 h1.2 h2.1.1 h2.2 fun s=> ?_
 rw[h1.1.2,h2.1.2,h.2]
theorem b1f{a:Nat}{more fs:List Fact}{m:List Int}(hv:Zq fs=true)(hv2:Zq more=true)(ha:a<=fs.length)(h:QZ fs m=true):Yj (WZ a more fs) (Vj a more.length m)=Yj fs m:=by
 have hm:m.length=fs.length:=by
  simp only[QZ,Bool.and_eq_true,decide_eq_true_eq]at h
  exact h.1
 have hr:=AO (more:=more) ha hm
 rw[<- Fe,<- Fe]
 unfold a8a
 obtain⟨e1,e2⟩:=C8 (ms:=m) hv
 obtain⟨e3,e4⟩:=C8 (ms:=Vj a more.length m) (J8 (a:=a) hv hv2)
 rw[J8 hv hv2,hv,Oj ha h,h,e1,e2,e3,e4,Sb hr,hr.1]
theorem b1j{a:Nat}{more fs:List Fact}{m:List Int}(ha:a<=fs.length)(h:Bo fs m=true):Bo (WZ a more fs) (Vj a more.length m)=true:=by
 simp only[Bo,Bool.and_eq_true,decide_eq_true_eq]at h ⊢
 obtain⟨⟨h1,h2⟩,h3⟩:=h
 have hm:m.length=fs.length:=by
  simp only[QZ,Bool.and_eq_true,decide_eq_true_eq]at h1
  exact h1.1
 have hr:=AO (more:=more) ha hm
 refine⟨⟨Oj ha h1,?_⟩,by rw[hr.1];exact h3⟩
 have h4:Uf (ZQ fs m).2=[]:=by simpa using h2
 have h5:=Kt.2 h4
 rw[<- Sb hr]at h5
 rw[Kt.1 h5]
 rfl
theorem Bb{a:Nat}{more fs:List Fact}(ha:a<=fs.length)(l:Lin):ZM (WZ a more fs) l=WZ a more (ZM fs l):=by
 unfold ZM WZ
 rw[List.take_append_of_le_length ha,List.drop_append_of_le_length ha]
 simp only[List.append_assoc]
theorem QX{fs:List Fact}{l:Lin}(h:Zq fs=true)(hl:Zj l=true):Zq (ZM fs l)=true:=by
 simp only[Zq,ZM,List.all_append,Bool.and_eq_true]at h ⊢
 exact⟨h,by simp[hl]⟩
theorem BP{k:Int}{m m':List Int}{l:Lin}{ks ks':List Cert}{n:Int}(h:Z4 (.mk k m l ks) n true=true)(hk:ks'.length=ks.length):Z4 (.mk k m' l ks') n true=true:=by
 unfold Z4 at h ⊢
 simp only[Cert.kids,Cert.lin,if_true]at h ⊢
 rw[hk]
 exact h
theorem NP{k:Int}{m:List Int}{l:Lin}{ks ks':List Cert}{n:Int}(h:Z4 (.mk k m l ks) n false=true)(hk:ks'.length=ks.length):Z4 (.mk k m l ks') n false=true:=by
 unfold Z4 at h ⊢
 simp only[Cert.kids,Cert.mults]at h ⊢
 rw[hk]
 exact h
theorem Nz{fs:List Fact}{m:List Int}(h:(Yj fs m).2=0):QZ fs m=true:=by
 unfold Yj at h
 cases hv:Zq fs
 ·rw[hv]at h;simp at h
 ·rw[hv,if_pos rfl]at h
  cases ho:QZ fs m
  ·rw[ho]at h;simp at h
  ·rfl
theorem a0o(a:Nat)(more:List Fact)(hm:Zq more=true)(hn:more.length<=100): ∀ (N:Nat) (c:Cert) (fs:List Fact),Zt c<N->Zq fs=true->a<=fs.length->YC fs c=true ->
  ∃ c',X0 (a:Int) (more.length:Int) c=some c'∧YC (WZ a more fs) c'=true:=by
 intro N
 induction N with
 | zero=>intro c fs h;omega
 | succ N ih=>
  rintro⟨k,m,l,ks⟩ fs hd hv ha hr
  have hlen:QZ fs m=true-> ¬ (decide ((a:Int)<0)||decide ((more.length:Int)<0)||decide ((more.length:Int)>100)||(Xq k&&decide ((m.length:Int)<(a:Int))))=true:=fun h=>by
   simp only[QZ,Bool.and_eq_true,decide_eq_true_eq]at h
   have:=h.1
   simp
   omega
  by_cases k1:k=1
  ·subst k1
   rw[Gh,Bool.and_eq_true]at hr
   have hb:=hr.1
   have hs:=hr.2
   have hok:QZ fs m=true:=by
    simp only[Bo,Bool.and_eq_true]at hs
    exact hs.1.1
   have hk0:ks=[]:=by
    unfold Z4 at hb
    simp only[Cert.kids,Bool.and_eq_true,decide_eq_true_eq]at hb
    exact List.eq_nil_of_length_eq_zero (by have:=hb.1;omega)
   subst hk0
   refine⟨.mk 1 (Vj a more.length m) l [],?_,?_⟩
   ·rw[X0,if_neg (hlen hok),ZG]
    rfl
   ·rw[Gh,BP hb rfl,b1j ha hs];rfl
  by_cases k2:k=2
  ·subst k2
   cases hb:Z4 (.mk 2 m l ks) 1 true with
   | false=>rw[NK fs m l ks hb]at hr;cases hr
   | true=>
   have hk1:ks.length=1:=by
    have:=hb
    unfold Z4 at this
    simp only[Cert.kids,Bool.and_eq_true,decide_eq_true_eq]at this
    have:=this.1
    omega
   obtain⟨c,rfl⟩:=List.length_eq_one_iff.1 hk1
   rw[Dj,hb,Bool.true_and,Bool.and_eq_true,decide_eq_true_eq]at hr
   obtain⟨hc0,hr⟩:=hr
   have hok:=Nz hc0
   have hcv:=H7 hc0
   obtain⟨c',h1,h2⟩:=ih c (ZM fs (Yj fs m).1) (by simp only[Zt,Yb]at hd;omega) (QX hv hcv) (by simp[ZM];omega) hr
   refine⟨.mk 2 (Vj a more.length m) l [c'],?_,?_⟩
   ·rw[X0,if_neg (hlen hok),ZG,h1,ZG]
    rfl
   ·rw[Dj,BP hb (ks':=[c']) rfl,b1f hv hm ha hok,hc0,Bb ha,h2]
    rfl
  by_cases k3:k=3
  ·subst k3
   cases hb:Z4 (.mk 3 m l ks) 2 false with
   | false=>rw[Mv fs m l ks hb]at hr;cases hr
   | true=>
   have hk2:ks.length=2:=by
    have:=hb
    unfold Z4 at this
    simp only[Cert.kids,Bool.and_eq_true,decide_eq_true_eq]at this
    have:=this.1
    omega
   obtain⟨c,d,rfl⟩ : ∃ c d,ks=[c,d]:=by
    match ks,hk2 with
    | [c,d],_=>exact⟨c,d,rfl⟩
   rw[Rh,hb,Bool.true_and,Bool.and_eq_true,Bool.and_eq_true,decide_eq_true_eq]at hr
   obtain⟨hn0,hrc,hrd⟩:=hr
   have hvl:=(Hg hn0)
   obtain⟨c',h1,h2⟩:=ih c (ZM fs l) (by simp only[Zt,Yb]at hd;omega) (QX hv hvl.1) (by simp[ZM];omega) hrc
   obtain⟨d',g1,g2⟩:=ih d (ZM fs (X8 l).1) (by simp only[Zt,Yb]at hd;omega) (QX hv hvl.2) (by simp[ZM];omega) hrd
   refine⟨.mk 3 m l [c',d'],?_,?_⟩
   ·rw[X0,if_neg (by simp[Xq];omega),ZG,h1,ZG,g1,ZG]
    rfl
   ·rw[Rh,NP hb (ks':=[c',d']) rfl,hn0,Bb ha,Bb ha,h2,g2]
    rfl
  ·rw[a8m fs k m l ks k1 k2 k3]at hr;cases hr
end Go.Pl

namespace Go.Pl
open Go.RowKit
theorem LP{l:Lin}{n:Int}(h:Qt l n=true)(hl:Zy l=true):Zx l=true:=by
 simp only[Qt,Bool.and_eq_true,List.all_eq_true,decide_eq_true_eq]at h
 simp only[Zx,hl,Bool.true_and,List.all_eq_true,decide_eq_true_eq]
 intro t ht
 have:=h.1 t ht
 omega
mutual
theorem Du: ∀ (c:Cert) (n:Int),n<=12->Xo c n=true->UA c=true->1<=n∧(Zt c:Int)<=n∧1<=Z7 c∧Z7 c<=n∧Vu c=true
 | .mk k m l ks,n,hn,h,ho=>by
  simp only[Xo,Bool.and_eq_true,Bool.not_eq_true',decide_eq_false_iff_not]at h
  obtain⟨h1,h2,h3,h4,h5⟩:=h
  simp only[UA,Bool.and_eq_true,decide_eq_true_eq]at ho
  obtain⟨⟨⟨o1,o2⟩,o3⟩,o4⟩:=ho
  obtain⟨a1,a2,a3,a4⟩:=BO ks n 1 (by omega) hn (by omega) (by omega) h5 o4
  rw[Zt,Z7]
  refine⟨by omega,by omega,by omega,by omega,?_⟩
  simp only[Vu,LP h2 o2,a4,decide_eq_true o1,decide_eq_true o3]
  rfl
theorem BO: ∀ (cs:List Cert) (n s:Int),1<=n->n<=12->1<=s->s<=100 - n->WC cs n=true->Qy cs=true->(Yb cs:Int)<=n - 1∧s<=YZ s cs∧YZ s cs<=s+n - 1∧J2 cs=true
 | [],n,s,h1,h2,h3,h4,_,_=>by
  rw[Yb,YZ]
  exact⟨by omega,by omega,by omega,rfl⟩
 | c::cs,n,s,h1,h2,h3,h4,h,ho=>by
  simp only[WC,Bool.and_eq_true]at h
  simp only[Qy,Bool.and_eq_true]at ho
  rw[V9 (by omega) (by omega)]at h
  obtain⟨b1,b2,b3,b4,b5⟩:=Du c (n - 1) (by omega) h.1 ho.1
  have h':=h.2
  rw[V9 (by omega) (by omega)]at h'
  obtain⟨a1,a2,a3,a4⟩:=BO cs (n - Z7 c) (s+Z7 c) (by omega) (by omega) (by omega) (by omega) h' ho.2
  rw[Yb,YZ,V9 (by omega) (by omega)]
  refine⟨by omega,by omega,by omega,?_⟩
  simp only[J2,b5,a4]
  rfl
end
theorem DK{fs:List Fact}(h:Gy fs 8=true)(ho:YA fs=true):Zi fs=true∧fs.length<=8:=by
 simp only[Gy,Bool.and_eq_true,List.all_eq_true,decide_eq_true_eq]at h
 simp only[YA,Bool.and_eq_true,List.all_eq_true,decide_eq_true_eq]at ho
 refine⟨?_,by omega⟩
 simp only[Zi,Bool.and_eq_true,List.all_eq_true,decide_eq_true_eq]
 exact⟨ho.1,fun f hf=>LP (h.1 f hf) (ho.2 f hf)⟩
mutual
def cV:Cert->Bool
 | .mk _ m l ks=>decide (m.length<=900)&&decide (l.t.length<=1000)&&decide (ks.length<=1000)&&cVs ks
def cVs:List Cert->Bool
 | []=>true
 | c::cs=>cV c&&cVs cs
end
mutual
theorem b9a: ∀ {c:Cert},cV c=true->cW c=true
 | .mk k m l ks,h=>by
  simp only[cV,cW,Bool.and_eq_true,decide_eq_true_eq]at h ⊢
  exact⟨⟨⟨by omega,h.1.1.2⟩,h.1.2⟩,b4r h.2⟩
theorem b4r: ∀ {cs:List Cert},cVs cs=true->KV cs=true
 | [],_=>by simp[KV]
 | c::cs,h=>by
  simp only[cVs,KV,Bool.and_eq_true]at h ⊢
  exact⟨b9a h.1,b4r h.2⟩
end
mutual
theorem Ob: ∀ (c:Cert) (n:Int),n<=12->Xo c n=true->UA c=true->cV c=true
 | .mk k m l ks,n,hn,h,ho=>by
  simp only[Xo,Bool.and_eq_true,Bool.not_eq_true',decide_eq_false_iff_not]at h
  obtain⟨h1,h2,h3,h4,h5⟩:=h
  simp only[UA,Bool.and_eq_true,decide_eq_true_eq]at ho
  obtain⟨⟨⟨o1,o2⟩,o3⟩,o4⟩:=ho
  have:=RU ks n (by omega) hn h5 o4
  simp only[Qt,Bool.and_eq_true,decide_eq_true_eq]at h2
  simp only[cV,this,Bool.and_true,Bool.and_eq_true,decide_eq_true_eq]
  omega
theorem RU: ∀ (cs:List Cert) (n:Int),1<=n->n<=12->WC cs n=true->Qy cs=true->cVs cs=true
 | [],n,h1,h2,_,_=>by simp[cVs]
 | c::cs,n,h1,h2,h,ho=>by
  simp only[WC,Bool.and_eq_true]at h
  simp only[Qy,Bool.and_eq_true]at ho
  rw[V9 (by omega) (by omega)]at h
  obtain⟨b1,b2,b3,b4,b5⟩:=Du c (n - 1) (by omega) h.1 ho.1
  have h':=h.2
  rw[V9 (by omega) (by omega)]at h'
  have q1:=Ob c (n - 1) (by omega) h.1 ho.1
  have q2:=RU cs (n - Z7 c) (by omega) (by omega) h' ho.2
  simp only[cVs,q1,q2]
  rfl
end
theorem a6s(a n:Nat)(m:List Int):(Vj a n m).length=m.length+n:=by
 unfold Vj
 simp only[List.length_append,List.length_take,List.length_drop,List.length_replicate]
 omega
mutual
theorem Ku{a n:Int}: ∀ {c c':Cert},X0 a n c=some c'->Zt c'=Zt c∧Z7 c'=Z7 c∧(cV c=true->cW c'=true)∧(cV c=true->Vu c=true->Vu c'=true)
 | .mk k m l ks,c',h=>by
  rw[X0]at h
  split at h
  ·cases h
  ·rename_i hb
   cases hk:ZG a n ks with
   | none=>rw[hk]at h;cases h
   | some ks'=>
    rw[hk]at h
    cases h
    obtain⟨d1,d2,d3,d4⟩:=Dr hk
    have hn:n.toNat<=100:=by simp at hb;omega
    have hl:ks'.length=ks.length:=Df hk
    have hm:(if Xq k=true then Vj a.toNat n.toNat m else m).length<=m.length+100:=by
     split
     ·rw[a6s];omega
     ·omega
    refine⟨by rw[Zt,Zt,d1],by rw[Z7,Z7,d2 1],fun hv=> ?_,fun hv hs=> ?_⟩
    ·simp only[cV,cW,Bool.and_eq_true,decide_eq_true_eq]at hv ⊢
     exact⟨⟨⟨by omega,hv.1.1.2⟩,by omega⟩,d3 hv.2⟩
    ·simp only[cV,Vu,Bool.and_eq_true,decide_eq_true_eq]at hv hs ⊢
     exact⟨⟨⟨by omega,hs.1.1.2⟩,by omega⟩,d4 hv.2 hs.2⟩
theorem Dr{a n:Int}: ∀ {cs ds:List Cert},ZG a n cs=some ds->Yb ds=Yb cs∧(∀ s,YZ s ds=YZ s cs)∧(cVs cs=true->KV ds=true)∧(cVs cs=true->J2 cs=true->J2 ds=true)
 | [],ds,h=>by
  rw[ZG]at h
  cases h
  exact⟨rfl,fun _=>rfl,fun _=>by simp[KV],fun _ h=>h⟩
 | c::cs,ds,h=>by
  rw[ZG]at h
  cases hc:X0 a n c with
  | none=>rw[hc]at h;cases h
  | some c'=>
   rw[hc]at h
   cases hd:ZG a n cs with
   | none=>rw[hd]at h;cases h
   | some cs'=>
    rw[hd]at h
    cases h
    obtain⟨a1,a2,a3,a4⟩:=Ku hc
    obtain⟨b1,b2,b3,b4⟩:=Dr hd
    refine⟨by rw[Yb,Yb,a1,b1],fun s=>by rw[YZ,YZ,a2,b2],fun hv=> ?_,fun hv hs=> ?_⟩
    ·simp only[cVs,KV,Bool.and_eq_true]at hv ⊢
     exact⟨a3 hv.1,b3 hv.2⟩
    ·simp only[cVs,J2,Bool.and_eq_true]at hv hs ⊢
     exact⟨a4 hv.1 hs.1,b4 hv.2 hs.2⟩
end
theorem MQ{fs:List Fact}{c:Cert}(h:Yp fs c=0):Zq fs=true∧fs.length<=100∧Z7 c<=1000∧YC fs c=true:=by
 unfold Yp at h
 split at h
 ·rename_i hv
  split at h
  ·omega
  ·split at h
   ·omega
   ·split at h
    ·rename_i hr
     exact⟨hv,by omega,by omega,hr⟩
    ·omega
 ·omega
theorem NZ{fs more:List Fact}{c:Cert}{a:Nat}(h:Yp fs c=0)(hm:Zq more=true)(ha:a<=fs.length)(h8:fs.length<=8)(h4:more.length<=4):
  ∃ c',X0 (a:Int) (more.length:Int) c=some c'∧Yp (WZ a more fs) c'=0:=by
 obtain⟨hv,_,hs,hr⟩:=MQ h
 obtain⟨c',h1,h2⟩:=a0o a more hm (by omega) (Zt c+1) c fs (by omega) hv ha hr
 obtain⟨k1,k2,_,_⟩:=Ku h1
 refine⟨c',h1,?_⟩
 have hl:(WZ a more fs).length=fs.length+more.length:=by
  unfold WZ
  simp only[List.length_append,List.length_take,List.length_drop]
  omega
 unfold Yp
 rw[if_pos (J8 hv hm),if_neg (by omega),if_neg (by omega),if_pos h2]
end Go.Pl

namespace Go.Pl
open Go.RowKit
open Enc (enc dec is)
open EncL (encL decL isL)
theorem GV{α β:Type}[EncL α][Enc β]{F:α->β}{ps:List PV}{P:β->Prop}{v:β}(a:α)(h:ps=encL a)(hv:F a=v)(k:P v): ∃ y,AV.pv (Zf F ps)=AV.pv (enc y)∧P y:=Ze a h (by rw[hv];exact k)
theorem b4k(W:Cert):([enc (c5 W),enc (c5 W)]:List PV)=[enc W,enc W]:=by rw[QQ]
theorem FO(W:Cert)(k:Int)(m:List Int)(l:Lin)(ks:List Cert):([enc (c5 W),PV.agg [enc k,enc m,enc l.k,enc l.t,enc ks]]:List PV)=[enc W,enc (Cert.mk k m l ks)]:=by rw[QQ,Zp]
theorem b4m(fs:List Fact)(k:Int)(m:List Int)(l:Lin)(ks:List Cert):([enc fs,PV.agg [enc k,enc m,enc l.k,enc l.t,enc ks]]:List PV)=[enc fs,enc (Cert.mk k m l ks)]:=by rw[Zp]
theorem b4s(fs:List Fact)(W:Cert):([enc fs,enc (c5 W)]:List PV)=[enc fs,enc W]:=by rw[QQ]
theorem b2p{a:Nat}{more fs:List Fact}(h1:Zi fs=true)(h2:Zi more=true)(h8:fs.length<=8)(h4:more.length<=4):Zi (WZ a more fs)=true:=by
 simp only[Zi,Bool.and_eq_true,List.all_eq_true,decide_eq_true_eq]at h1 h2 ⊢
 refine⟨by unfold WZ;simp only[List.length_append,List.length_take,List.length_drop];omega,fun x hx=> ?_⟩
 unfold WZ at hx
 rcases List.mem_append.1 hx with hx|hx
 ·rcases List.mem_append.1 hx with hx|hx
  ·exact h1.2 x (List.mem_of_mem_take hx)
  ·exact h2.2 x hx
 ·exact h1.2 x (List.mem_of_mem_drop hx)
theorem MJ(fs more:List Fact)(k:Int)(m:List Int)(l:Lin)(ks:List Cert)(h8:fs.length<=8)(h4:more.length<=4)(hs:Zi fs=true)(hs2:Zi more=true)(hv:cV (.mk k m l ks)=true)(hsm:Vu (.mk k m l ks)=true)(hd:Zt (.mk k m l ks)<=12):
  ∀ (j t:Nat),j+t=fs.length+3->At Ww 0 (Za XB (Zv true)) XA 0 107 [(0,.pv (enc fs)),(1,.pv (enc more)),(5,.ptr 0 0),(7,.pv (.int .i64 ((t:Int) - 1)))] [.obj (.box [.pv (enc k),.pv (enc m),.pv (enc l.k),.pv (enc l.t),.pv (enc ks)])]:=by
 intro j
 induction j with
 | zero=>
  intro t ht
  refine Ri fs more k m l ks _ (Yc ?_ (Zz rfl))
  rw[List.length_map,next (by omega)]
  simp
  omega
 | succ j ih=>
  intro t ht
  have hN:=ih (t+1) (by omega)
  have e7:IntKind.i64.wrap ((t:Int) - 1+1)=((t+1:Nat):Int) - 1:=by rw[Dm (by omega) (by omega)];omega
  rw[<- e7]at hN
  have hle:decide ((t:Int) - 1<=IntKind.wrap IntKind.i64 ((List.length (List.map (enc:Fact->PV) fs):Int)+1))=true:=by
   rw[List.length_map,next (by omega)]
   simp
   omega
  have hi0:(t:Int) - 1<=1000:=by omega
  have hit:(t:Int) - 1<0 ∨ ∃ a:Nat,(t:Int) - 1=(a:Int):=by
   by_cases h:t=0
   ·left;omega
   ·right;exact⟨t - 1,by omega⟩
  generalize (t:Int) - 1=i at hN hle hi0 hit ⊢
  obtain⟨n,hn⟩ : ∃ n:Int,n=((List.map (enc:Fact->PV) more).length:Int):=⟨_,rfl⟩
  have hn':n=(more.length:Int):=by rw[hn,List.length_map]
  have hcw:cW (.mk k m l ks)=true:=b9a hv
  have pw:(cW (.mk k m l ks)&&decide (i<=1000))=true:=by rw[hcw,decide_eq_true hi0];rfl
  rcases hR:Xv i n (.mk k m l ks)with ⟨W,e⟩
  have hY:Zk i n (.mk k m l ks)=(c5 W,e):=by unfold Zk;rw[hR]
  have hW:cW W=true:=by
   unfold Xv at hR
   cases hc:X0 i n (.mk k m l ks)with
   | none=>rw[hc]at hR;cases hR;rfl
   | some c'=>rw[hc]at hR;cases hR;exact(Ku hc).2.2.1 hv
  have two : ∀ {a b:Cert},cW a=true->cW b=true->(cW a&&cW b)=true:=fun h k=>by rw[h,k];rfl
  refine Ri fs more k m l ks i (Z8 hle ?_)
  rw[<- hn]
  refine⟨Zd (.mk k m l ks,i,n,()) (Zu k m l ks i n) pw,GV (.mk k m l ks,i,n,()) (Zu k m l ks i n) hY ⟨Zd (.mk k m l ks,i,n,()) (Zu k m l ks i n) pw,GV (.mk k m l ks,i,n,()) (Zu k m l ks i n) hY
   ⟨Zd (W,W,()) (b4k W) (two hW hW),GV (W,W,()) (b4k W) (Nb W) (Yc (by decide) (Yc (by simp) ⟨Zd (W,.mk k m l ks,()) (FO W k m l ks) (two hW hcw),Ze (W,.mk k m l ks,()) (FO W k m l ks)
    ⟨Zd (W,.mk k m l ks,()) (FO W k m l ks) (two hW hcw),Ze (W,.mk k m l ks,()) (FO W k m l ks) (Yc (by cases GD W (.mk k m l ks) <;> decide) (Yv (fun _=>hN) fun h0=>Yv (fun _=>hN) fun h1=>
     ⟨Zd (more,()) rfl hs2,Ze (more,()) rfl (Y4 (fun _=>hN) fun hv7=>⟨Zd (fs,.mk k m l ks,()) (b4m fs k m l ks) ?_,Ze (fs,.mk k m l ks,()) (b4m fs k m l ks) ?_⟩)⟩))⟩⟩))⟩⟩⟩
  ·show(Zi fs&&Vu (.mk k m l ks)&&decide (fs.length+Zt (.mk k m l ks)<=300))=true
   rw[hs,hsm,decide_eq_true (by omega)]
   rfl
  ·show if (Yp fs (.mk k m l ks) != 0)=true then _ else _
   by_cases hz:Yp fs (.mk k m l ks)=0
   ·refine Yc (by rw[hz];decide) ?_
    obtain⟨a,rfl⟩:=hit.resolve_left h0
    rw[List.length_map]at h1
    have hal:a<=fs.length:=by omega
    have hv7:Zq more=true:=hv7
    obtain⟨c',q1,q2⟩:=NZ (a:=a) hz hv7 hal h8 h4
    rw[<- hn']at q1
    have hWe:W=c'∧e=0:=by
     unfold Xv at hR
     rw[q1]at hR
     cases hR
     exact⟨rfl,rfl⟩
    obtain⟨rfl,rfl⟩:=hWe
    obtain⟨d1,d2,d3,d4⟩:=Ku q1
    have t1:List.take (List.length (List.map (enc:Fact->PV) fs)) (List.map enc fs)=List.map enc fs:=List.take_length
    have e1:([]:List PV)++List.drop 0 (List.take (Int.toNat (a:Int)) (List.map enc fs))++List.map enc more++List.drop (Int.toNat (a:Int)) (List.take (List.length (List.map (enc:Fact->PV) fs)) (List.map enc fs))=List.map enc (WZ a more fs):=by
     rw[t1,List.nil_append,List.drop_zero,Int.toNat_natCast]
     unfold WZ
     rw[List.map_append,List.map_append,List.map_take,List.map_drop]
    have e2:0+List.length (List.drop 0 (List.take (Int.toNat (a:Int)) (List.map (enc:Fact->PV) fs)))+List.length (List.map (enc:Fact->PV) more)+List.length (List.drop (Int.toNat (a:Int)) (List.take (List.length (List.map (enc:Fact->PV) fs)) (List.map (enc:Fact->PV) fs)))=(List.map (enc:Fact->PV) (WZ a more fs)).length:=by
     rw[<- e1]
     simp
     try omega
    have sz3:Enc.sz Fact=3:=rfl
    refine⟨by simp[sz3];omega,by simp[sz3],by simp;omega,by simp[sz3],by simp;omega,by simp[sz3];omega,by simp[sz3],by simp;omega,Yc (by simp) ?_⟩
    rw[e1,e2,List.take_length,List.drop_zero]
    have hl:(WZ a more fs).length<=12:=by
     unfold WZ
     simp only[List.length_append,List.length_take,List.length_drop]
     omega
    refine⟨beq_self_eq_true _,Zd (WZ a more fs,W,()) (b4s _ W) ?_,GV (WZ a more fs,W,()) (b4s _ W) q2 (Yc (by decide) hN)⟩
    show(Zi _&&Vu W&&decide ((WZ a more fs).length+Zt W<=300))=true
    rw[b2p hs hs2 h8 h4,d4 hv hsm,decide_eq_true (by omega)]
    rfl
   ·exact Z8 (by simp[hz]) hN
theorem OO: ∀ x:List Fact×List Fact×Cert×Unit,(YA x.1&&YA x.2.1&&UA x.2.2.1)=true->Zc Ww 0 (Za XB (Zv true)) XA [] (Z9 a5w (encL x)):=by
 rintro⟨fs,more,⟨k,m,l,ks⟩,⟨⟩⟩ h
 simp only[Bool.and_eq_true]at h
 obtain⟨⟨h1,h2⟩,h3⟩:=h
 have e:(encL ((fs,more,Cert.mk k m l ks,()):List Fact×List Fact×Cert×Unit):List PV)=[enc fs,enc more,PV.agg [enc k,enc m,enc l.k,enc l.t,enc ks]]:=by
  show [enc fs,enc more,enc (Cert.mk k m l ks)]=_
  rw[Zp]
 rw[e]
 refine b2e fs more k m l ks (Ze () rfl (Y4 (fun h=>by cases h) fun _=>⟨Zd (fs,(8:Int),()) rfl h1,Ze (fs,(8:Int),()) rfl (Y4 (fun _=>Zz rfl) fun g1=>⟨Zd (more,(4:Int),()) rfl h2,Ze (more,(4:Int),()) rfl (Y4 (fun _=>Zz rfl) fun g2=>
  ⟨Zd (.mk k m l ks,(12:Int),()) (by show [PV.agg [enc k,enc m,enc l.k,enc l.t,enc ks],_]=[enc (Cert.mk k m l ks),_];rw[Zp];rfl) h3,Ze (.mk k m l ks,(12:Int),()) (by show [PV.agg [enc k,enc m,enc l.k,enc l.t,enc ks],_]=[enc (Cert.mk k m l ks),_];rw[Zp];rfl) (Y4 (fun _=>Zz rfl) fun g3=> ?_)⟩)⟩)⟩))
 have g1:Gy fs 8=true:=g1
 have g2:Gy more 4=true:=g2
 have g3:Xo (.mk k m l ks) 12=true:=g3
 obtain⟨a1,a2⟩:=DK g1 h1
 have g2':Gy more 8=true:=by
  simp only[Gy,Bool.and_eq_true,decide_eq_true_eq]at g2 ⊢
  exact⟨g2.1,by omega⟩
 obtain⟨b1,_⟩:=DK g2' h2
 have b2:more.length<=4:=by
  simp only[Gy,Bool.and_eq_true,decide_eq_true_eq]at g2
  omega
 obtain⟨c1,c2,c3,c4,c5⟩:=Du _ 12 (by omega) g3 h3
 exact MJ fs more k m l ks a2 b2 a1 b1 (Ob _ 12 (by omega) g3 h3) c5 (by omega) (fs.length+3) 0 (by omega)
end Go.Pl

namespace Go.Pl
open Go.RowKit
open Enc (enc dec is)
open EncL (encL decL isL)
set_option maxRecDepth 100000
def Yw:IC:=(.seq (.reg [⟨(some 3),(.box 5 (.t 0)),0,none⟩,⟨(some 6),(.alloc (.agg [(.int .i64 0),(.sl 0 true []),(.int .i64 0),(.sl 0 true []),(.sl 0 true [])])),1,none⟩,⟨(some 7),(.mv (.c (.int .i64 0))),2,none⟩] none) (.seq (.reg [⟨(some 13),(.faddr 0 (.t 3)),0,none⟩,⟨(some 14),(.load false [(.int .i64)] (.t 13)),0,none⟩,⟨(some 15),(.bin .num .eql (.t 14) (.c (.int .i64 1))),0,none⟩,⟨(some 16),(.mv (.t 15)),0,none⟩,⟨(some 17),(.faddr 0 (.t 3)),0,(some (16,false))⟩,⟨(some 18),(.load false [(.int .i64)] (.t 17)),0,(some (16,false))⟩,⟨(some 19),(.bin .num .eql (.t 18) (.c (.int .i64 2))),0,(some (16,false))⟩,⟨(some 20),(.pick (.t 16) (.c (.bool true)) (.t 19)),0,none⟩,⟨(some 8),(.mv (.t 20)),0,none⟩] none) (.seq (.seq (.reg [⟨(some 21),(.mv (.t 1)),0,none⟩,⟨(some 22),(.bin .num .lss (.t 21) (.c (.int .i64 0))),0,none⟩,⟨(some 23),(.mv (.t 22)),0,none⟩,⟨(some 24),(.mv (.t 2)),0,(some (23,false))⟩,⟨(some 25),(.bin .num .lss (.t 24) (.c (.int .i64 0))),0,(some (23,false))⟩,⟨(some 26),(.pick (.t 23) (.c (.bool true)) (.t 25)),0,none⟩,⟨(some 27),(.mv (.t 26)),0,none⟩,⟨(some 28),(.mv (.t 2)),0,(some (27,false))⟩,⟨(some 29),(.bin .num .gtr (.t 28) (.c (.int .i64 100))),0,(some (27,false))⟩,⟨(some 30),(.pick (.t 27) (.c (.bool true)) (.t 29)),0,none⟩,⟨(some 31),(.mv (.t 30)),0,none⟩,⟨(some 32),(.mv (.t 8)),0,(some (31,false))⟩,⟨(some 33),(.mv (.t 32)),0,(some (31,false))⟩,⟨(some 34),(.faddr 1 (.t 3)),0,(some (33,true))⟩,⟨(some 35),(.load false [(.sl 1)] (.t 34)),0,(some (33,true))⟩,⟨(some 36),(.len 1 (.t 35)),0,(some (33,true))⟩,⟨(some 37),(.mv (.t 1)),0,(some (33,true))⟩,⟨(some 38),(.bin .num .lss (.t 36) (.t 37)),0,(some (33,true))⟩,⟨(some 39),(.pick (.t 33) (.t 38) (.c (.bool false))),0,(some (31,false))⟩,⟨(some 40),(.pick (.t 31) (.c (.bool true)) (.t 39)),0,none⟩] none) (.cond (.t 40) (.seq (.reg [⟨(some 41),(.build [(.int .i64 0),(.sl 0 true []),(.int .i64 0),(.sl 0 true []),(.sl 0 true [])] []),0,none⟩,⟨none,(.store 5 (.t 6) (.t 41)),0,none⟩,⟨(some 7),(.mv (.c (.int .i64 2))),0,none⟩] none) .ret) .skip)) (.seq (.reg [⟨(some 42),(.faddr 0 (.t 3)),0,none⟩,⟨(some 43),(.load false [(.int .i64)] (.t 42)),0,none⟩,⟨(some 44),(.faddr 1 (.t 3)),0,none⟩,⟨(some 45),(.load false [(.sl 1)] (.t 44)),0,none⟩,⟨(some 46),(.faddr 2 (.t 3)),0,none⟩,⟨(some 47),(.load true [(.int .i64),(.sl 2)] (.t 46)),0,none⟩,⟨(some 48),(.build [(.int .i64 0),(.sl 0 true []),(.int .i64 0),(.sl 0 true []),(.sl 0 true [])] [(0,(1,(.t 43))),(1,(1,(.t 45))),(2,(2,(.t 47)))]),0,none⟩,⟨(some 9),(.alloc (.agg [(.int .i64 0),(.sl 0 true []),(.int .i64 0),(.sl 0 true []),(.sl 0 true [])])),0,none⟩,⟨none,(.store 5 (.t 9) (.t 48)),1,none⟩] none) (.seq (.seq (.reg [⟨(some 49),(.mv (.t 8)),0,none⟩] none) (.cond (.t 49) (.reg [⟨(some 50),(.bslice 3 1 0 (.int .i64 0) []),0,none⟩,⟨(some 51),(.faddr 1 (.t 3)),1,none⟩,⟨(some 52),(.load false [(.sl 1)] (.t 51)),1,none⟩,⟨(some 53),(.mv (.t 1)),1,none⟩,⟨(some 54),(.slc 1 (.t 52) none (some (.t 53)) none),1,none⟩,⟨(some 55),(.append 3 1 8 (.t 50) (.t 54)),1,none⟩,⟨(some 56),(.mv (.t 2)),2,none⟩,⟨(some 57),(.appz 3 1 8 (.int .i64 0) (.t 55) (.t 56)),2,none⟩,⟨(some 58),(.faddr 1 (.t 3)),3,none⟩,⟨(some 59),(.load false [(.sl 1)] (.t 58)),3,none⟩,⟨(some 60),(.mv (.t 1)),3,none⟩,⟨(some 61),(.slc 1 (.t 59) (some (.t 60)) none none),3,none⟩,⟨(some 62),(.append 3 1 8 (.t 57) (.t 61)),3,none⟩,⟨(some 63),(.faddr 1 (.t 9)),4,none⟩,⟨none,(.store 1 (.t 63) (.t 62)),4,none⟩] (some [[],[],[1],[],[2,3,1],[0,4,2,3,1],[],[5,6,0,4,2,3,1],[],[8],[],[9,10,8],[7,11,5,6,0,4,2,3,1,9,10,8],[0,1,2,3,4,5,6,7,8,9,10,11,12],[13,12,0,1,2,3,4,5,6,7,8,9,10,11]])) .skip)) (.seq (.seq (.reg [⟨(some 10),(.mv (.c (.int .i64 0))),0,none⟩] none) (.block 0 (.loop [10,3,1,2,6,9] (.seq (.seq (.reg [⟨(some 64),(.mv (.t 10)),0,none⟩,⟨(some 65),(.faddr 4 (.t 3)),0,none⟩,⟨(some 66),(.load false [(.sl 5)] (.t 65)),0,none⟩,⟨(some 67),(.len 1 (.t 66)),0,none⟩,⟨(some 68),(.bin .num .lss (.t 64) (.t 67)),0,none⟩] none) (.cond (.t 68) .skip (.exit 0))) (.seq (.block 1 (.seq (.reg [⟨(some 72),(.faddr 4 (.t 3)),0,none⟩,⟨(some 73),(.load false [(.sl 5)] (.t 72)),0,none⟩,⟨(some 74),(.mv (.t 10)),0,none⟩,⟨(some 75),(.iaddr 5 (.t 73) (.t 74)),0,none⟩,⟨(some 76),(.load true [(.int .i64),(.sl 1),(.int .i64),(.sl 2),(.sl 5)] (.t 75)),0,none⟩,⟨(some 77),(.mv (.t 1)),0,none⟩,⟨(some 78),(.mv (.t 2)),0,none⟩,⟨(some 79),(.call (.c (.fn 33)) [(.t 76),(.t 77),(.t 78)]),0,none⟩,⟨(some 71),(.mv (.t 79)),2,none⟩,⟨(some 80),(.extract (.t 71) 0),2,none⟩,⟨(some 81),(.extract (.t 71) 1),2,none⟩,⟨(some 11),(.alloc (.agg [(.int .i64 0),(.sl 0 true []),(.int .i64 0),(.sl 0 true []),(.sl 0 true [])])),2,none⟩,⟨none,(.store 5 (.t 11) (.t 80)),3,none⟩,⟨(some 12),(.mv (.t 81)),3,none⟩] none) (.seq (.seq (.reg [⟨(some 82),(.mv (.t 12)),0,none⟩,⟨(some 83),(.bin .num .neq (.t 82) (.c (.int .i64 0))),0,none⟩] none) (.cond (.t 83) (.seq (.reg [⟨(some 84),(.build [(.int .i64 0),(.sl 0 true []),(.int .i64 0),(.sl 0 true []),(.sl 0 true [])] []),0,none⟩,⟨(some 85),(.mv (.t 12)),0,none⟩,⟨none,(.store 5 (.t 6) (.t 84)),0,none⟩,⟨(some 7),(.mv (.t 85)),0,none⟩] none) .ret) .skip)) (.reg [⟨(some 86),(.faddr 4 (.t 9)),0,none⟩,⟨(some 87),(.load false [(.sl 5)] (.t 86)),0,none⟩,⟨(some 88),(.load true [(.int .i64),(.sl 1),(.int .i64),(.sl 2),(.sl 5)] (.t 11)),0,none⟩,⟨(some 89),(.bslice 37 5 1 (.agg [(.int .i64 0),(.sl 0 true []),(.int .i64 0),(.sl 0 true []),(.sl 0 true [])]) [(0,(.t 88))]),0,none⟩,⟨(some 90),(.append 37 5 88 (.t 87) (.t 89)),1,none⟩,⟨(some 91),(.faddr 4 (.t 9)),2,none⟩,⟨none,(.store 1 (.t 91) (.t 90)),2,none⟩] none)))) (.reg [⟨(some 69),(.mv (.t 10)),0,none⟩,⟨(some 70),(.bin .num .add (.t 69) (.c (.int .i64 1))),0,none⟩,⟨(some 10),(.mv (.t 70)),0,none⟩] none)))))) (.seq (.reg [⟨(some 92),(.load true [(.int .i64),(.sl 1),(.int .i64),(.sl 2),(.sl 5)] (.t 9)),0,none⟩,⟨none,(.store 5 (.t 6) (.t 92)),0,none⟩,⟨(some 7),(.mv (.c (.int .i64 0))),0,none⟩] none) .ret)))))))
def Yy:List IRes:=[(.cell true 5 6),(.tmp 7)]
abbrev b8h:Nat:=93
def XF(N:Nat):ZH:=XI [(33,.pure (preT (fun x:Cert×Int×Int×Unit=>(cW x.1&&decide (x.2.1<=1000))&&decide (Zt x.1<N))) (Zf (fun x:Cert×Int×Int×Unit=>Zk x.2.1 x.2.2.1 x.1)))]
theorem b8x{G:PV->Prop}(N:Nat)(k:Int)(m:List Int)(l:Lin)(ks:List Cert)(a n:Int)(h:if (k==1)=true then if (decide (a<0))=true then G ((.tup [(.agg [(.int .i64 0),(.sl 0 true []),(.int .i64 0),(.sl 0 true []),(.sl 0 true [])]),(.int .i64 2)]))else(if (decide (n<0))=true then G ((.tup [(.agg [(.int .i64 0),(.sl 0 true []),(.int .i64 0),(.sl 0 true []),(.sl 0 true [])]),(.int .i64 2)]))else(if (decide (n>100))=true then G ((.tup [(.agg [(.int .i64 0),(.sl 0 true []),(.int .i64 0),(.sl 0 true []),(.sl 0 true [])]),(.int .i64 2)]))else(if (decide ((↑(List.length (List.map enc m)):Int)<a))=true then G ((.tup [(.agg [(.int .i64 0),(.sl 0 true []),(.int .i64 0),(.sl 0 true []),(.sl 0 true [])]),(.int .i64 2)]))else((true&&decide (0<=a)&&(List.isEmpty (List.map enc m)||Enc.sz Int==1)&&decide (0<=Int.toNat a)&&decide (Int.toNat a<=List.length (List.map enc m)))=true∧((List.isEmpty (List.drop 0 (List.take (Int.toNat a) (List.map enc m)))||Enc.sz Int==1)=true∧((List.length ([]:List PV)==0&&0==0&&decide ((0+List.length (List.drop 0 (List.take (Int.toNat a) (List.map enc m))))*8<=1099511627776)&&decide (0+List.length (List.drop 0 (List.take (Int.toNat a) (List.map enc m)))<=1099511627776))=true∧((decide (0<=n)&&decide (n<=1099511627776))=true∧((List.length (([]:List PV)++List.drop 0 (List.take (Int.toNat a) (List.map enc m)))==0+List.length (List.drop 0 (List.take (Int.toNat a) (List.map enc m)))&&0+List.length (List.drop 0 (List.take (Int.toNat a) (List.map enc m)))==0+List.length (List.drop 0 (List.take (Int.toNat a) (List.map enc m)))&&decide ((0+List.length (List.drop 0 (List.take (Int.toNat a) (List.map enc m)))+List.length (List.replicate (Int.toNat n) (PV.int .i64 0)))*8<=1099511627776)&&decide (0+List.length (List.drop 0 (List.take (Int.toNat a) (List.map enc m)))+List.length (List.replicate (Int.toNat n) (PV.int .i64 0))<=1099511627776))=true∧((decide (0<=a)&&true&&(List.isEmpty (List.map enc m)||Enc.sz Int==1)&&decide (Int.toNat a<=List.length (List.map enc m))&&decide (List.length (List.map enc m)<=List.length (List.map enc m)))=true∧((List.isEmpty (List.drop (Int.toNat a) (List.take (List.length (List.map enc m)) (List.map enc m)))||Enc.sz Int==1)=true∧((List.length (([]:List PV)++List.drop 0 (List.take (Int.toNat a) (List.map enc m))++List.replicate (Int.toNat n) (PV.int .i64 0))==0+List.length (List.drop 0 (List.take (Int.toNat a) (List.map enc m)))+List.length (List.replicate (Int.toNat n) (PV.int .i64 0))&&0+List.length (List.drop 0 (List.take (Int.toNat a) (List.map enc m)))+List.length (List.replicate (Int.toNat n) (PV.int .i64 0))==0+List.length (List.drop 0 (List.take (Int.toNat a) (List.map enc m)))+List.length (List.replicate (Int.toNat n) (PV.int .i64 0))&&decide ((0+List.length (List.drop 0 (List.take (Int.toNat a) (List.map enc m)))+List.length (List.replicate (Int.toNat n) (PV.int .i64 0))+List.length (List.drop (Int.toNat a) (List.take (List.length (List.map enc m)) (List.map enc m))))*8<=1099511627776)&&decide (0+List.length (List.drop 0 (List.take (Int.toNat a) (List.map enc m)))+List.length (List.replicate (Int.toNat n) (PV.int .i64 0))+List.length (List.drop (Int.toNat a) (List.take (List.length (List.map enc m)) (List.map enc m)))<=1099511627776))=true∧(At (XF N) 0 (Za Yy G) Yw 0 93 [(1,(.pv (.int .i64 a))),(2,(.pv (.int .i64 n))),(3,(.ptr 0 0)),(6,(.ptr 1 0)),(9,(.ptr 2 0)),(10,(.pv (.int .i64 0)))] [(.obj (.box [(.pv (.int .i64 k)),(.pv (.sl 1 false (List.map enc m))),(.pv (.int .i64 l.k)),(.pv (.sl 2 false (List.map enc l.t))),(.pv (.sl 5 false (List.map enc ks)))])),(.obj (.box [(.pv (.int .i64 0)),(.pv (.sl 0 true [])),(.pv (.int .i64 0)),(.pv (.sl 0 true [])),(.pv (.sl 0 true []))])),(.obj (.box [(.pv (.int .i64 k)),(.row 3 (0+List.length (List.drop 0 (List.take (Int.toNat a) (List.map enc m)))+List.length (List.replicate (Int.toNat n) (PV.int .i64 0))+List.length (List.drop (Int.toNat a) (List.take (List.length (List.map enc m)) (List.map enc m)))) 0 (0+List.length (List.drop 0 (List.take (Int.toNat a) (List.map enc m)))+List.length (List.replicate (Int.toNat n) (PV.int .i64 0))+List.length (List.drop (Int.toNat a) (List.take (List.length (List.map enc m)) (List.map enc m))))),(.pv (.int .i64 l.k)),(.pv (.sl 2 false (List.map enc l.t))),(.pv (.sl 0 true []))])),(.obj (.row false 3 1 (([]:List PV)++List.drop 0 (List.take (Int.toNat a) (List.map enc m))++List.replicate (Int.toNat n) (PV.int .i64 0)++List.drop (Int.toNat a) (List.take (List.length (List.map enc m)) (List.map enc m)))))]))))))))))))else(if (decide (a<0))=true then G ((.tup [(.agg [(.int .i64 0),(.sl 0 true []),(.int .i64 0),(.sl 0 true []),(.sl 0 true [])]),(.int .i64 2)]))else(if (decide (n<0))=true then G ((.tup [(.agg [(.int .i64 0),(.sl 0 true []),(.int .i64 0),(.sl 0 true []),(.sl 0 true [])]),(.int .i64 2)]))else(if (decide (n>100))=true then G ((.tup [(.agg [(.int .i64 0),(.sl 0 true []),(.int .i64 0),(.sl 0 true []),(.sl 0 true [])]),(.int .i64 2)]))else(if (k==2)=true then if (decide ((↑(List.length (List.map enc m)):Int)<a))=true then G ((.tup [(.agg [(.int .i64 0),(.sl 0 true []),(.int .i64 0),(.sl 0 true []),(.sl 0 true [])]),(.int .i64 2)]))else(if (k==2)=true then(true&&decide (0<=a)&&(List.isEmpty (List.map enc m)||Enc.sz Int==1)&&decide (0<=Int.toNat a)&&decide (Int.toNat a<=List.length (List.map enc m)))=true∧((List.isEmpty (List.drop 0 (List.take (Int.toNat a) (List.map enc m)))||Enc.sz Int==1)=true∧((List.length ([]:List PV)==0&&0==0&&decide ((0+List.length (List.drop 0 (List.take (Int.toNat a) (List.map enc m))))*8<=1099511627776)&&decide (0+List.length (List.drop 0 (List.take (Int.toNat a) (List.map enc m)))<=1099511627776))=true∧((decide (0<=n)&&decide (n<=1099511627776))=true∧((List.length (([]:List PV)++List.drop 0 (List.take (Int.toNat a) (List.map enc m)))==0+List.length (List.drop 0 (List.take (Int.toNat a) (List.map enc m)))&&0+List.length (List.drop 0 (List.take (Int.toNat a) (List.map enc m)))==0+List.length (List.drop 0 (List.take (Int.toNat a) (List.map enc m)))&&decide ((0+List.length (List.drop 0 (List.take (Int.toNat a) (List.map enc m)))+List.length (List.replicate (Int.toNat n) (PV.int .i64 0)))*8<=1099511627776)&&decide (0+List.length (List.drop 0 (List.take (Int.toNat a) (List.map enc m)))+List.length (List.replicate (Int.toNat n) (PV.int .i64 0))<=1099511627776))=true∧((decide (0<=a)&&true&&(List.isEmpty (List.map enc m)||Enc.sz Int==1)&&decide (Int.toNat a<=List.length (List.map enc m))&&decide (List.length (List.map enc m)<=List.length (List.map enc m)))=true∧((List.isEmpty (List.drop (Int.toNat a) (List.take (List.length (List.map enc m)) (List.map enc m)))||Enc.sz Int==1)=true∧((List.length (([]:List PV)++List.drop 0 (List.take (Int.toNat a) (List.map enc m))++List.replicate (Int.toNat n) (PV.int .i64 0))==0+List.length (List.drop 0 (List.take (Int.toNat a) (List.map enc m)))+List.length (List.replicate (Int.toNat n) (PV.int .i64 0))&&0+List.length (List.drop 0 (List.take (Int.toNat a) (List.map enc m)))+List.length (List.replicate (Int.toNat n) (PV.int .i64 0))==0+List.length (List.drop 0 (List.take (Int.toNat a) (List.map enc m)))+List.length (List.replicate (Int.toNat n) (PV.int .i64 0))&&decide ((0+List.length (List.drop 0 (List.take (Int.toNat a) (List.map enc m)))+List.length (List.replicate (Int.toNat n) (PV.int .i64 0))+List.length (List.drop (Int.toNat a) (List.take (List.length (List.map enc m)) (List.map enc m))))*8<=1099511627776)&&decide (0+List.length (List.drop 0 (List.take (Int.toNat a) (List.map enc m)))+List.length (List.replicate (Int.toNat n) (PV.int .i64 0))+List.length (List.drop (Int.toNat a) (List.take (List.length (List.map enc m)) (List.map enc m)))<=1099511627776))=true∧(At (XF N) 0 (Za Yy G) Yw 0 93 [(1,(.pv (.int .i64 a))),(2,(.pv (.int .i64 n))),(3,(.ptr 0 0)),(6,(.ptr 1 0)),(9,(.ptr 2 0)),(10,(.pv (.int .i64 0)))] [(.obj (.box [(.pv (.int .i64 k)),(.pv (.sl 1 false (List.map enc m))),(.pv (.int .i64 l.k)),(.pv (.sl 2 false (List.map enc l.t))),(.pv (.sl 5 false (List.map enc ks)))])),(.obj (.box [(.pv (.int .i64 0)),(.pv (.sl 0 true [])),(.pv (.int .i64 0)),(.pv (.sl 0 true [])),(.pv (.sl 0 true []))])),(.obj (.box [(.pv (.int .i64 k)),(.row 3 (0+List.length (List.drop 0 (List.take (Int.toNat a) (List.map enc m)))+List.length (List.replicate (Int.toNat n) (PV.int .i64 0))+List.length (List.drop (Int.toNat a) (List.take (List.length (List.map enc m)) (List.map enc m)))) 0 (0+List.length (List.drop 0 (List.take (Int.toNat a) (List.map enc m)))+List.length (List.replicate (Int.toNat n) (PV.int .i64 0))+List.length (List.drop (Int.toNat a) (List.take (List.length (List.map enc m)) (List.map enc m))))),(.pv (.int .i64 l.k)),(.pv (.sl 2 false (List.map enc l.t))),(.pv (.sl 0 true []))])),(.obj (.row false 3 1 (([]:List PV)++List.drop 0 (List.take (Int.toNat a) (List.map enc m))++List.replicate (Int.toNat n) (PV.int .i64 0)++List.drop (Int.toNat a) (List.take (List.length (List.map enc m)) (List.map enc m)))))]))))))))else(At (XF N) 0 (Za Yy G) Yw 0 93 [(1,(.pv (.int .i64 a))),(2,(.pv (.int .i64 n))),(3,(.ptr 0 0)),(6,(.ptr 1 0)),(9,(.ptr 2 0)),(10,(.pv (.int .i64 0)))] [(.obj (.box [(.pv (.int .i64 k)),(.pv (.sl 1 false (List.map enc m))),(.pv (.int .i64 l.k)),(.pv (.sl 2 false (List.map enc l.t))),(.pv (.sl 5 false (List.map enc ks)))])),(.obj (.box [(.pv (.int .i64 0)),(.pv (.sl 0 true [])),(.pv (.int .i64 0)),(.pv (.sl 0 true [])),(.pv (.sl 0 true []))])),(.obj (.box [(.pv (.int .i64 k)),(.pv (.sl 1 false (List.map enc m))),(.pv (.int .i64 l.k)),(.pv (.sl 2 false (List.map enc l.t))),(.pv (.sl 0 true []))]))]))else(if (k==2)=true then(true&&decide (0<=a)&&(List.isEmpty (List.map enc m)||Enc.sz Int==1)&&decide (0<=Int.toNat a)&&decide (Int.toNat a<=List.length (List.map enc m)))=true∧((List.isEmpty (List.drop 0 (List.take (Int.toNat a) (List.map enc m)))||Enc.sz Int==1)=true∧((List.length ([]:List PV)==0&&0==0&&decide ((0+List.length (List.drop 0 (List.take (Int.toNat a) (List.map enc m))))*8<=1099511627776)&&decide (0+List.length (List.drop 0 (List.take (Int.toNat a) (List.map enc m)))<=1099511627776))=true∧((decide (0<=n)&&decide (n<=1099511627776))=true∧((List.length (([]:List PV)++List.drop 0 (List.take (Int.toNat a) (List.map enc m)))==0+List.length (List.drop 0 (List.take (Int.toNat a) (List.map enc m)))&&0+List.length (List.drop 0 (List.take (Int.toNat a) (List.map enc m)))==0+List.length (List.drop 0 (List.take (Int.toNat a) (List.map enc m)))&&decide ((0+List.length (List.drop 0 (List.take (Int.toNat a) (List.map enc m)))+List.length (List.replicate (Int.toNat n) (PV.int .i64 0)))*8<=1099511627776)&&decide (0+List.length (List.drop 0 (List.take (Int.toNat a) (List.map enc m)))+List.length (List.replicate (Int.toNat n) (PV.int .i64 0))<=1099511627776))=true∧((decide (0<=a)&&true&&(List.isEmpty (List.map enc m)||Enc.sz Int==1)&&decide (Int.toNat a<=List.length (List.map enc m))&&decide (List.length (List.map enc m)<=List.length (List.map enc m)))=true∧((List.isEmpty (List.drop (Int.toNat a) (List.take (List.length (List.map enc m)) (List.map enc m)))||Enc.sz Int==1)=true∧((List.length (([]:List PV)++List.drop 0 (List.take (Int.toNat a) (List.map enc m))++List.replicate (Int.toNat n) (PV.int .i64 0))==0+List.length (List.drop 0 (List.take (Int.toNat a) (List.map enc m)))+List.length (List.replicate (Int.toNat n) (PV.int .i64 0))&&0+List.length (List.drop 0 (List.take (Int.toNat a) (List.map enc m)))+List.length (List.replicate (Int.toNat n) (PV.int .i64 0))==0+List.length (List.drop 0 (List.take (Int.toNat a) (List.map enc m)))+List.length (List.replicate (Int.toNat n) (PV.int .i64 0))&&decide ((0+List.length (List.drop 0 (List.take (Int.toNat a) (List.map enc m)))+List.length (List.replicate (Int.toNat n) (PV.int .i64 0))+List.length (List.drop (Int.toNat a) (List.take (List.length (List.map enc m)) (List.map enc m))))*8<=1099511627776)&&decide (0+List.length (List.drop 0 (List.take (Int.toNat a) (List.map enc m)))+List.length (List.replicate (Int.toNat n) (PV.int .i64 0))+List.length (List.drop (Int.toNat a) (List.take (List.length (List.map enc m)) (List.map enc m)))<=1099511627776))=true∧(At (XF N) 0 (Za Yy G) Yw 0 93 [(1,(.pv (.int .i64 a))),(2,(.pv (.int .i64 n))),(3,(.ptr 0 0)),(6,(.ptr 1 0)),(9,(.ptr 2 0)),(10,(.pv (.int .i64 0)))] [(.obj (.box [(.pv (.int .i64 k)),(.pv (.sl 1 false (List.map enc m))),(.pv (.int .i64 l.k)),(.pv (.sl 2 false (List.map enc l.t))),(.pv (.sl 5 false (List.map enc ks)))])),(.obj (.box [(.pv (.int .i64 0)),(.pv (.sl 0 true [])),(.pv (.int .i64 0)),(.pv (.sl 0 true [])),(.pv (.sl 0 true []))])),(.obj (.box [(.pv (.int .i64 k)),(.row 3 (0+List.length (List.drop 0 (List.take (Int.toNat a) (List.map enc m)))+List.length (List.replicate (Int.toNat n) (PV.int .i64 0))+List.length (List.drop (Int.toNat a) (List.take (List.length (List.map enc m)) (List.map enc m)))) 0 (0+List.length (List.drop 0 (List.take (Int.toNat a) (List.map enc m)))+List.length (List.replicate (Int.toNat n) (PV.int .i64 0))+List.length (List.drop (Int.toNat a) (List.take (List.length (List.map enc m)) (List.map enc m))))),(.pv (.int .i64 l.k)),(.pv (.sl 2 false (List.map enc l.t))),(.pv (.sl 0 true []))])),(.obj (.row false 3 1 (([]:List PV)++List.drop 0 (List.take (Int.toNat a) (List.map enc m))++List.replicate (Int.toNat n) (PV.int .i64 0)++List.drop (Int.toNat a) (List.take (List.length (List.map enc m)) (List.map enc m)))))]))))))))else(At (XF N) 0 (Za Yy G) Yw 0 93 [(1,(.pv (.int .i64 a))),(2,(.pv (.int .i64 n))),(3,(.ptr 0 0)),(6,(.ptr 1 0)),(9,(.ptr 2 0)),(10,(.pv (.int .i64 0)))] [(.obj (.box [(.pv (.int .i64 k)),(.pv (.sl 1 false (List.map enc m))),(.pv (.int .i64 l.k)),(.pv (.sl 2 false (List.map enc l.t))),(.pv (.sl 5 false (List.map enc ks)))])),(.obj (.box [(.pv (.int .i64 0)),(.pv (.sl 0 true [])),(.pv (.int .i64 0)),(.pv (.sl 0 true [])),(.pv (.sl 0 true []))])),(.obj (.box [(.pv (.int .i64 k)),(.pv (.sl 1 false (List.map enc m))),(.pv (.int .i64 l.k)),(.pv (.sl 2 false (List.map enc l.t))),(.pv (.sl 0 true []))]))]))))))):Zc (XF N) 0 (Za Yy G) Yw [] (Z9 93 [.agg [.int .i64 k,enc m,.int .i64 l.k,enc l.t,enc ks],.int .i64 a,.int .i64 n]):=Zc.tp (.lit (.ask (.lit (.lit (.lit (.lit (.ask (.lit (.lit (.lit (.lit (.lit (.lit (.lit (.lit (.lit (.lit (.nil))))))))))) (.lit (.lit (.lit (.ask (.lit (.lit (.lit (.lit (.lit (.lit (.lit (.nil)))))))) (.lit (.lit (.lit (.ask (.lit (.lit (.lit (.lit (.nil))))) (.lit (.lit (.lit (.lit (.lit (.lit (.lit (.lit (.lit (.lit (.ask (.nil) (.lit (.lit (.req (.req (.req (.req (.req (.req (.req (.req (.nil))))))))))))))))))))))))))))))))))) (.lit (.lit (.lit (.lit (.lit (.ask (.lit (.lit (.lit (.lit (.lit (.lit (.lit (.lit (.lit (.lit (.nil))))))))))) (.lit (.lit (.lit (.ask (.lit (.lit (.lit (.lit (.lit (.lit (.lit (.nil)))))))) (.lit (.lit (.lit (.ask (.lit (.lit (.lit (.lit (.nil))))) (.lit (.ask (.lit (.lit (.lit (.lit (.lit (.lit (.lit (.lit (.ask (.nil) (.ask (.lit (.req (.req (.req (.req (.req (.req (.req (.req (.nil)))))))))) (.nil))))))))))) (.lit (.lit (.lit (.lit (.lit (.lit (.lit (.lit (.ask (.lit (.req (.req (.req (.req (.req (.req (.req (.req (.nil)))))))))) (.nil)))))))))))))))))))))))))))) h (by kernel_rfl)
theorem F4{G:PV->Prop}(N:Nat)(k:Int)(m:List Int)(l:Lin)(ks:List Cert)(a n:Int)(i:Int)(h:if (decide (i<(↑(List.length (List.map enc ks)):Int)))=true then(decide (0<=i)&&decide (Int.toNat i<List.length (List.map enc ks))&&Enc.sz Cert==5)=true∧(∃ y0:Cert,AV.pv (PV.rptr (PV.cells (List.getD (List.map enc ks) (Int.toNat i) default)))=AV.pv (PV.rptr (PV.cells ((enc) y0)))∧((decide (0+List.length [Sh.int .i64,Sh.sl 1,Sh.int .i64,Sh.sl 2,Sh.sl 5]<=List.length (PV.cells (enc y0)))&&Yk (PV.cells (enc y0)) 0 [Sh.int .i64,Sh.sl 1,Sh.int .i64,Sh.sl 2,Sh.sl 5])=true∧((Go.Pl.preT (fun(x:Cert×Int×Int×Unit)=>cW x.1&&decide (x.2.1<=1000)&&decide (Zt x.1<N)) [(.agg [(.int .i64 (PV.asInt (List.getD (PV.cells (enc y0)) 0 default))),(.sl 1 (PV.asT (List.getD (PV.cells (enc y0)) (0+1) default)) (PV.asXs (List.getD (PV.cells (enc y0)) (0+1) default))),(.int .i64 (PV.asInt (List.getD (PV.cells (enc y0)) (0+1+1) default))),(.sl 2 (PV.asT (List.getD (PV.cells (enc y0)) (0+1+1+1) default)) (PV.asXs (List.getD (PV.cells (enc y0)) (0+1+1+1) default))),(.sl 5 (PV.asT (List.getD (PV.cells (enc y0)) (0+1+1+1+1) default)) (PV.asXs (List.getD (PV.cells (enc y0)) (0+1+1+1+1) default)))]),(.int .i64 a),(.int .i64 n)])=true∧(∃ y1:C5×Int,AV.pv (Zf (fun(x:Cert×Int×Int×Unit)=>Zk x.2.1 x.2.2.1 x.1) [(.agg [(.int .i64 (PV.asInt (List.getD (PV.cells (enc y0)) 0 default))),(.sl 1 (PV.asT (List.getD (PV.cells (enc y0)) (0+1) default)) (PV.asXs (List.getD (PV.cells (enc y0)) (0+1) default))),(.int .i64 (PV.asInt (List.getD (PV.cells (enc y0)) (0+1+1) default))),(.sl 2 (PV.asT (List.getD (PV.cells (enc y0)) (0+1+1+1) default)) (PV.asXs (List.getD (PV.cells (enc y0)) (0+1+1+1) default))),(.sl 5 (PV.asT (List.getD (PV.cells (enc y0)) (0+1+1+1+1) default)) (PV.asXs (List.getD (PV.cells (enc y0)) (0+1+1+1+1) default)))]),(.int .i64 a),(.int .i64 n)])=AV.pv (enc y1)∧(if (y1.2 != 0)=true then G ((.tup [(.agg [(.int .i64 0),(.sl 0 true []),(.int .i64 0),(.sl 0 true []),(.sl 0 true [])]),(.int .i64 y1.2)]))else(At (XF N) 0 (Za Yy G) Yw 0 93 [(1,(.pv (.int .i64 a))),(2,(.pv (.int .i64 n))),(3,(.ptr 0 0)),(6,(.ptr 1 0)),(9,(.ptr 2 0)),(10,(.pv (.int .i64 (IntKind.wrap IntKind.i64 (i+1)))))] [(.obj (.box [(.pv (.int .i64 k)),(.pv (.sl 1 false (List.map enc m))),(.pv (.int .i64 l.k)),(.pv (.sl 2 false (List.map enc l.t))),(.pv (.sl 5 false (List.map enc ks)))])),(.obj (.box [(.pv (.int .i64 0)),(.pv (.sl 0 true [])),(.pv (.int .i64 0)),(.pv (.sl 0 true [])),(.pv (.sl 0 true []))])),(.obj (.box [(.pv (.int .i64 k)),(.pv (.sl 1 false (List.map enc m))),(.pv (.int .i64 l.k)),(.pv (.sl 2 false (List.map enc l.t))),(.row 3 1 0 1)])),(.obj (.row false 37 5 [(.agg [(.int .i64 (C5.k y1.1)),(.sl 1 false (List.map enc (C5.m y1.1))),(.int .i64 (C5.lk y1.1)),(.sl 2 false (List.map enc (C5.lt y1.1))),(.sl 5 false (List.map enc (C5.ks y1.1)))])]))]))))))else(G ((.tup [(.agg [(.int .i64 k),(.sl 1 false (List.map enc m)),(.int .i64 l.k),(.sl 2 false (List.map enc l.t)),(.sl 0 true [])]),(.int .i64 0)])))):At (XF N) 0 (Za Yy G) Yw 0 93 [(1,.pv (.int .i64 a)),(2,.pv (.int .i64 n)),(3,.ptr 0 0),(6,.ptr 1 0),(9,.ptr 2 0),(10,.pv (.int .i64 i))] [.obj (.box [.pv (enc k),.pv (enc m),.pv (enc l.k),.pv (enc l.t),.pv (enc ks)]),.obj (.box [.pv (.int .i64 0),.pv (.sl 0 true []),.pv (.int .i64 0),.pv (.sl 0 true []),.pv (.sl 0 true [])]),.obj (.box [.pv (.int .i64 k),.pv (enc m),.pv (.int .i64 l.k),.pv (enc l.t),.pv (.sl 0 true [])])]:=At.tp (.lit (.ask (.req (.abs (Cert) (fun YY=>AV.pv (PV.rptr (PV.cells ((enc) YY)))) (.req (.req (.abs (C5×Int) (fun YY=>AV.pv (enc YY)) (.lit (.ask (.nil) (.lit (.lit (.lit (.lit (.lit (.lit (.nil)))))))))))))) (.nil))) h (by kernel_rfl)
theorem Fa{G:PV->Prop}(N:Nat)(k:Int)(m:List Int)(l:Lin)(ks:List Cert)(a n:Int)(z:Nat)(ds:List Cert)(i:Int)(h:if (decide (i<(↑(List.length (List.map enc ks)):Int)))=true then(decide (0<=i)&&decide (Int.toNat i<List.length (List.map enc ks))&&Enc.sz Cert==5)=true∧(∃ y0:Cert,AV.pv (PV.rptr (PV.cells (List.getD (List.map enc ks) (Int.toNat i) default)))=AV.pv (PV.rptr (PV.cells ((enc) y0)))∧((decide (0+List.length [Sh.int .i64,Sh.sl 1,Sh.int .i64,Sh.sl 2,Sh.sl 5]<=List.length (PV.cells (enc y0)))&&Yk (PV.cells (enc y0)) 0 [Sh.int .i64,Sh.sl 1,Sh.int .i64,Sh.sl 2,Sh.sl 5])=true∧((Go.Pl.preT (fun(x:Cert×Int×Int×Unit)=>cW x.1&&decide (x.2.1<=1000)&&decide (Zt x.1<N)) [(.agg [(.int .i64 (PV.asInt (List.getD (PV.cells (enc y0)) 0 default))),(.sl 1 (PV.asT (List.getD (PV.cells (enc y0)) (0+1) default)) (PV.asXs (List.getD (PV.cells (enc y0)) (0+1) default))),(.int .i64 (PV.asInt (List.getD (PV.cells (enc y0)) (0+1+1) default))),(.sl 2 (PV.asT (List.getD (PV.cells (enc y0)) (0+1+1+1) default)) (PV.asXs (List.getD (PV.cells (enc y0)) (0+1+1+1) default))),(.sl 5 (PV.asT (List.getD (PV.cells (enc y0)) (0+1+1+1+1) default)) (PV.asXs (List.getD (PV.cells (enc y0)) (0+1+1+1+1) default)))]),(.int .i64 a),(.int .i64 n)])=true∧(∃ y1:C5×Int,AV.pv (Zf (fun(x:Cert×Int×Int×Unit)=>Zk x.2.1 x.2.2.1 x.1) [(.agg [(.int .i64 (PV.asInt (List.getD (PV.cells (enc y0)) 0 default))),(.sl 1 (PV.asT (List.getD (PV.cells (enc y0)) (0+1) default)) (PV.asXs (List.getD (PV.cells (enc y0)) (0+1) default))),(.int .i64 (PV.asInt (List.getD (PV.cells (enc y0)) (0+1+1) default))),(.sl 2 (PV.asT (List.getD (PV.cells (enc y0)) (0+1+1+1) default)) (PV.asXs (List.getD (PV.cells (enc y0)) (0+1+1+1) default))),(.sl 5 (PV.asT (List.getD (PV.cells (enc y0)) (0+1+1+1+1) default)) (PV.asXs (List.getD (PV.cells (enc y0)) (0+1+1+1+1) default)))]),(.int .i64 a),(.int .i64 n)])=AV.pv (enc y1)∧(if (y1.2 != 0)=true then G ((.tup [(.agg [(.int .i64 0),(.sl 0 true []),(.int .i64 0),(.sl 0 true []),(.sl 0 true [])]),(.int .i64 y1.2)]))else((List.length (List.map enc ds)==z&&z==z&&decide ((z+List.length (List.drop 0 (List.take 1 [PV.agg [enc (C5.k y1.1),enc (C5.m y1.1),enc (C5.lk y1.1),enc (C5.lt y1.1),enc (C5.ks y1.1)]])))*88<=1099511627776)&&decide (z+List.length (List.drop 0 (List.take 1 [PV.agg [enc (C5.k y1.1),enc (C5.m y1.1),enc (C5.lk y1.1),enc (C5.lt y1.1),enc (C5.ks y1.1)]]))<=1099511627776))=true∧(At (XF N) 0 (Za Yy G) Yw 0 93 [(1,(.pv (.int .i64 a))),(2,(.pv (.int .i64 n))),(3,(.ptr 0 0)),(6,(.ptr 1 0)),(9,(.ptr 2 0)),(10,(.pv (.int .i64 (IntKind.wrap IntKind.i64 (i+1)))))] [(.obj (.box [(.pv (.int .i64 k)),(.pv (.sl 1 false (List.map enc m))),(.pv (.int .i64 l.k)),(.pv (.sl 2 false (List.map enc l.t))),(.pv (.sl 5 false (List.map enc ks)))])),(.obj (.box [(.pv (.int .i64 0)),(.pv (.sl 0 true [])),(.pv (.int .i64 0)),(.pv (.sl 0 true [])),(.pv (.sl 0 true []))])),(.obj (.box [(.pv (.int .i64 k)),(.pv (.sl 1 false (List.map enc m))),(.pv (.int .i64 l.k)),(.pv (.sl 2 false (List.map enc l.t))),(.row 3 (z+List.length (List.drop 0 (List.take 1 [PV.agg [enc (C5.k y1.1),enc (C5.m y1.1),enc (C5.lk y1.1),enc (C5.lt y1.1),enc (C5.ks y1.1)]]))) 0 (z+List.length (List.drop 0 (List.take 1 [PV.agg [enc (C5.k y1.1),enc (C5.m y1.1),enc (C5.lk y1.1),enc (C5.lt y1.1),enc (C5.ks y1.1)]]))))])),(.obj (.row false 37 5 (List.map enc ds++List.drop 0 (List.take 1 [PV.agg [enc (C5.k y1.1),enc (C5.m y1.1),enc (C5.lk y1.1),enc (C5.lt y1.1),enc (C5.ks y1.1)]]))))])))))))else((List.length (List.map enc ds)==z)=true∧(G ((.tup [(.agg [(.int .i64 k),(.sl 1 false (List.map enc m)),(.int .i64 l.k),(.sl 2 false (List.map enc l.t)),(.sl 5 false (List.drop 0 (List.take z (List.map enc ds))))]),(.int .i64 0)]))))):At (XF N) 0 (Za Yy G) Yw 0 93 [(1,.pv (.int .i64 a)),(2,.pv (.int .i64 n)),(3,.ptr 0 0),(6,.ptr 1 0),(9,.ptr 2 0),(10,.pv (.int .i64 i))] [.obj (.box [.pv (enc k),.pv (enc m),.pv (enc l.k),.pv (enc l.t),.pv (enc ks)]),.obj (.box [.pv (.int .i64 0),.pv (.sl 0 true []),.pv (.int .i64 0),.pv (.sl 0 true []),.pv (.sl 0 true [])]),.obj (.box [.pv (.int .i64 k),.pv (enc m),.pv (.int .i64 l.k),.pv (enc l.t),.row 3 z 0 z]),.obj (.row false 37 5 (ds.map enc))]:=At.tp (.lit (.ask (.req (.abs (Cert) (fun YY=>AV.pv (PV.rptr (PV.cells ((enc) YY)))) (.req (.req (.abs (C5×Int) (fun YY=>AV.pv (enc YY)) (.lit (.ask (.nil) (.lit (.lit (.req (.lit (.nil)))))))))))) (.req (.nil)))) h (by kernel_rfl)
theorem Fs{G:PV->Prop}(N:Nat)(k:Int)(m:List Int)(l:Lin)(ks:List Cert)(a n:Int)(q:List Int)(p:Nat)(i:Int)(h:if (decide (i<(↑(List.length (List.map enc ks)):Int)))=true then(decide (0<=i)&&decide (Int.toNat i<List.length (List.map enc ks))&&Enc.sz Cert==5)=true∧(∃ y0:Cert,AV.pv (PV.rptr (PV.cells (List.getD (List.map enc ks) (Int.toNat i) default)))=AV.pv (PV.rptr (PV.cells ((enc) y0)))∧((decide (0+List.length [Sh.int .i64,Sh.sl 1,Sh.int .i64,Sh.sl 2,Sh.sl 5]<=List.length (PV.cells (enc y0)))&&Yk (PV.cells (enc y0)) 0 [Sh.int .i64,Sh.sl 1,Sh.int .i64,Sh.sl 2,Sh.sl 5])=true∧((Go.Pl.preT (fun(x:Cert×Int×Int×Unit)=>cW x.1&&decide (x.2.1<=1000)&&decide (Zt x.1<N)) [(.agg [(.int .i64 (PV.asInt (List.getD (PV.cells (enc y0)) 0 default))),(.sl 1 (PV.asT (List.getD (PV.cells (enc y0)) (0+1) default)) (PV.asXs (List.getD (PV.cells (enc y0)) (0+1) default))),(.int .i64 (PV.asInt (List.getD (PV.cells (enc y0)) (0+1+1) default))),(.sl 2 (PV.asT (List.getD (PV.cells (enc y0)) (0+1+1+1) default)) (PV.asXs (List.getD (PV.cells (enc y0)) (0+1+1+1) default))),(.sl 5 (PV.asT (List.getD (PV.cells (enc y0)) (0+1+1+1+1) default)) (PV.asXs (List.getD (PV.cells (enc y0)) (0+1+1+1+1) default)))]),(.int .i64 a),(.int .i64 n)])=true∧(∃ y1:C5×Int,AV.pv (Zf (fun(x:Cert×Int×Int×Unit)=>Zk x.2.1 x.2.2.1 x.1) [(.agg [(.int .i64 (PV.asInt (List.getD (PV.cells (enc y0)) 0 default))),(.sl 1 (PV.asT (List.getD (PV.cells (enc y0)) (0+1) default)) (PV.asXs (List.getD (PV.cells (enc y0)) (0+1) default))),(.int .i64 (PV.asInt (List.getD (PV.cells (enc y0)) (0+1+1) default))),(.sl 2 (PV.asT (List.getD (PV.cells (enc y0)) (0+1+1+1) default)) (PV.asXs (List.getD (PV.cells (enc y0)) (0+1+1+1) default))),(.sl 5 (PV.asT (List.getD (PV.cells (enc y0)) (0+1+1+1+1) default)) (PV.asXs (List.getD (PV.cells (enc y0)) (0+1+1+1+1) default)))]),(.int .i64 a),(.int .i64 n)])=AV.pv (enc y1)∧(if (y1.2 != 0)=true then G ((.tup [(.agg [(.int .i64 0),(.sl 0 true []),(.int .i64 0),(.sl 0 true []),(.sl 0 true [])]),(.int .i64 y1.2)]))else(At (XF N) 0 (Za Yy G) Yw 0 93 [(1,(.pv (.int .i64 a))),(2,(.pv (.int .i64 n))),(3,(.ptr 0 0)),(6,(.ptr 1 0)),(9,(.ptr 2 0)),(10,(.pv (.int .i64 (IntKind.wrap IntKind.i64 (i+1)))))] [(.obj (.box [(.pv (.int .i64 k)),(.pv (.sl 1 false (List.map enc m))),(.pv (.int .i64 l.k)),(.pv (.sl 2 false (List.map enc l.t))),(.pv (.sl 5 false (List.map enc ks)))])),(.obj (.box [(.pv (.int .i64 0)),(.pv (.sl 0 true [])),(.pv (.int .i64 0)),(.pv (.sl 0 true [])),(.pv (.sl 0 true []))])),(.obj (.box [(.pv (.int .i64 k)),(.row 3 p 0 p),(.pv (.int .i64 l.k)),(.pv (.sl 2 false (List.map enc l.t))),(.row 4 1 0 1)])),(.obj (.row false 3 1 (List.map enc q))),(.obj (.row false 37 5 [(.agg [(.int .i64 (C5.k y1.1)),(.sl 1 false (List.map enc (C5.m y1.1))),(.int .i64 (C5.lk y1.1)),(.sl 2 false (List.map enc (C5.lt y1.1))),(.sl 5 false (List.map enc (C5.ks y1.1)))])]))]))))))else((List.length (List.map enc q)==p)=true∧(G ((.tup [(.agg [(.int .i64 k),(.sl 1 false (List.drop 0 (List.take p (List.map enc q)))),(.int .i64 l.k),(.sl 2 false (List.map enc l.t)),(.sl 0 true [])]),(.int .i64 0)]))))):At (XF N) 0 (Za Yy G) Yw 0 93 [(1,.pv (.int .i64 a)),(2,.pv (.int .i64 n)),(3,.ptr 0 0),(6,.ptr 1 0),(9,.ptr 2 0),(10,.pv (.int .i64 i))] [.obj (.box [.pv (enc k),.pv (enc m),.pv (enc l.k),.pv (enc l.t),.pv (enc ks)]),.obj (.box [.pv (.int .i64 0),.pv (.sl 0 true []),.pv (.int .i64 0),.pv (.sl 0 true []),.pv (.sl 0 true [])]),.obj (.box [.pv (.int .i64 k),.row 3 p 0 p,.pv (.int .i64 l.k),.pv (enc l.t),.pv (.sl 0 true [])]),.obj (.row false 3 1 (q.map enc))]:=At.tp (.lit (.ask (.req (.abs (Cert) (fun YY=>AV.pv (PV.rptr (PV.cells ((enc) YY)))) (.req (.req (.abs (C5×Int) (fun YY=>AV.pv (enc YY)) (.lit (.ask (.nil) (.lit (.lit (.lit (.lit (.lit (.lit (.nil)))))))))))))) (.req (.nil)))) h (by kernel_rfl)
theorem FJ{G:PV->Prop}(N:Nat)(k:Int)(m:List Int)(l:Lin)(ks:List Cert)(a n:Int)(q:List Int)(p z:Nat)(ds:List Cert)(i:Int)(h:if (decide (i<(↑(List.length (List.map enc ks)):Int)))=true then(decide (0<=i)&&decide (Int.toNat i<List.length (List.map enc ks))&&Enc.sz Cert==5)=true∧(∃ y0:Cert,AV.pv (PV.rptr (PV.cells (List.getD (List.map enc ks) (Int.toNat i) default)))=AV.pv (PV.rptr (PV.cells ((enc) y0)))∧((decide (0+List.length [Sh.int .i64,Sh.sl 1,Sh.int .i64,Sh.sl 2,Sh.sl 5]<=List.length (PV.cells (enc y0)))&&Yk (PV.cells (enc y0)) 0 [Sh.int .i64,Sh.sl 1,Sh.int .i64,Sh.sl 2,Sh.sl 5])=true∧((Go.Pl.preT (fun(x:Cert×Int×Int×Unit)=>cW x.1&&decide (x.2.1<=1000)&&decide (Zt x.1<N)) [(.agg [(.int .i64 (PV.asInt (List.getD (PV.cells (enc y0)) 0 default))),(.sl 1 (PV.asT (List.getD (PV.cells (enc y0)) (0+1) default)) (PV.asXs (List.getD (PV.cells (enc y0)) (0+1) default))),(.int .i64 (PV.asInt (List.getD (PV.cells (enc y0)) (0+1+1) default))),(.sl 2 (PV.asT (List.getD (PV.cells (enc y0)) (0+1+1+1) default)) (PV.asXs (List.getD (PV.cells (enc y0)) (0+1+1+1) default))),(.sl 5 (PV.asT (List.getD (PV.cells (enc y0)) (0+1+1+1+1) default)) (PV.asXs (List.getD (PV.cells (enc y0)) (0+1+1+1+1) default)))]),(.int .i64 a),(.int .i64 n)])=true∧(∃ y1:C5×Int,AV.pv (Zf (fun(x:Cert×Int×Int×Unit)=>Zk x.2.1 x.2.2.1 x.1) [(.agg [(.int .i64 (PV.asInt (List.getD (PV.cells (enc y0)) 0 default))),(.sl 1 (PV.asT (List.getD (PV.cells (enc y0)) (0+1) default)) (PV.asXs (List.getD (PV.cells (enc y0)) (0+1) default))),(.int .i64 (PV.asInt (List.getD (PV.cells (enc y0)) (0+1+1) default))),(.sl 2 (PV.asT (List.getD (PV.cells (enc y0)) (0+1+1+1) default)) (PV.asXs (List.getD (PV.cells (enc y0)) (0+1+1+1) default))),(.sl 5 (PV.asT (List.getD (PV.cells (enc y0)) (0+1+1+1+1) default)) (PV.asXs (List.getD (PV.cells (enc y0)) (0+1+1+1+1) default)))]),(.int .i64 a),(.int .i64 n)])=AV.pv (enc y1)∧(if (y1.2 != 0)=true then G ((.tup [(.agg [(.int .i64 0),(.sl 0 true []),(.int .i64 0),(.sl 0 true []),(.sl 0 true [])]),(.int .i64 y1.2)]))else((List.length (List.map enc ds)==z&&z==z&&decide ((z+List.length (List.drop 0 (List.take 1 [PV.agg [enc (C5.k y1.1),enc (C5.m y1.1),enc (C5.lk y1.1),enc (C5.lt y1.1),enc (C5.ks y1.1)]])))*88<=1099511627776)&&decide (z+List.length (List.drop 0 (List.take 1 [PV.agg [enc (C5.k y1.1),enc (C5.m y1.1),enc (C5.lk y1.1),enc (C5.lt y1.1),enc (C5.ks y1.1)]]))<=1099511627776))=true∧(At (XF N) 0 (Za Yy G) Yw 0 93 [(1,(.pv (.int .i64 a))),(2,(.pv (.int .i64 n))),(3,(.ptr 0 0)),(6,(.ptr 1 0)),(9,(.ptr 2 0)),(10,(.pv (.int .i64 (IntKind.wrap IntKind.i64 (i+1)))))] [(.obj (.box [(.pv (.int .i64 k)),(.pv (.sl 1 false (List.map enc m))),(.pv (.int .i64 l.k)),(.pv (.sl 2 false (List.map enc l.t))),(.pv (.sl 5 false (List.map enc ks)))])),(.obj (.box [(.pv (.int .i64 0)),(.pv (.sl 0 true [])),(.pv (.int .i64 0)),(.pv (.sl 0 true [])),(.pv (.sl 0 true []))])),(.obj (.box [(.pv (.int .i64 k)),(.row 3 p 0 p),(.pv (.int .i64 l.k)),(.pv (.sl 2 false (List.map enc l.t))),(.row 4 (z+List.length (List.drop 0 (List.take 1 [PV.agg [enc (C5.k y1.1),enc (C5.m y1.1),enc (C5.lk y1.1),enc (C5.lt y1.1),enc (C5.ks y1.1)]]))) 0 (z+List.length (List.drop 0 (List.take 1 [PV.agg [enc (C5.k y1.1),enc (C5.m y1.1),enc (C5.lk y1.1),enc (C5.lt y1.1),enc (C5.ks y1.1)]]))))])),(.obj (.row false 3 1 (List.map enc q))),(.obj (.row false 37 5 (List.map enc ds++List.drop 0 (List.take 1 [PV.agg [enc (C5.k y1.1),enc (C5.m y1.1),enc (C5.lk y1.1),enc (C5.lt y1.1),enc (C5.ks y1.1)]]))))])))))))else((List.length (List.map enc q)==p)=true∧((List.length (List.map enc ds)==z)=true∧(G ((.tup [(.agg [(.int .i64 k),(.sl 1 false (List.drop 0 (List.take p (List.map enc q)))),(.int .i64 l.k),(.sl 2 false (List.map enc l.t)),(.sl 5 false (List.drop 0 (List.take z (List.map enc ds))))]),(.int .i64 0)])))))):At (XF N) 0 (Za Yy G) Yw 0 93 [(1,.pv (.int .i64 a)),(2,.pv (.int .i64 n)),(3,.ptr 0 0),(6,.ptr 1 0),(9,.ptr 2 0),(10,.pv (.int .i64 i))] [.obj (.box [.pv (enc k),.pv (enc m),.pv (enc l.k),.pv (enc l.t),.pv (enc ks)]),.obj (.box [.pv (.int .i64 0),.pv (.sl 0 true []),.pv (.int .i64 0),.pv (.sl 0 true []),.pv (.sl 0 true [])]),.obj (.box [.pv (.int .i64 k),.row 3 p 0 p,.pv (.int .i64 l.k),.pv (enc l.t),.row 4 z 0 z]),.obj (.row false 3 1 (q.map enc)),.obj (.row false 37 5 (ds.map enc))]:=At.tp (.lit (.ask (.req (.abs (Cert) (fun YY=>AV.pv (PV.rptr (PV.cells ((enc) YY)))) (.req (.req (.abs (C5×Int) (fun YY=>AV.pv (enc YY)) (.lit (.ask (.nil) (.lit (.lit (.req (.lit (.nil)))))))))))) (.req (.req (.nil))))) h (by kernel_rfl)
end Go.Pl

namespace Go.Pl
open Go.RowKit
open Enc (enc dec is)
open EncL (encL decL isL)
theorem Ew(N:Nat)(k:Int)(m:List Int)(l:Lin)(ks:List Cert)(a n:Int)(hN:Yb ks<N)(hlen:ks.length<=1000)(hok:KV ks=true)(ha:a<=1000): ∀ (j i:Nat) (ds:List Cert),j+i=ks.length->ds.length<=i ->
  At (XF N) 0 (Za Yy (Zv (Ua k m l ds (ZG a n (ks.drop i))))) Yw 0 93 [(1,.pv (.int .i64 a)),(2,.pv (.int .i64 n)),(3,.ptr 0 0),(6,.ptr 1 0),(9,.ptr 2 0),(10,.pv (.int .i64 i))] [.obj (.box [.pv (enc k),.pv (enc m),.pv (enc l.k),.pv (enc l.t),.pv (enc ks)]),.obj (.box [.pv (.int .i64 0),.pv (.sl 0 true []),.pv (.int .i64 0),.pv (.sl 0 true []),.pv (.sl 0 true [])]),.obj (.box [.pv (.int .i64 k),.pv (enc m),.pv (.int .i64 l.k),.pv (enc l.t),.row 3 ds.length 0 ds.length]),.obj (.row false 37 5 (ds.map enc))]:=by
 intro j
 induction j with
 | zero=>
  intro i ds hi hd
  refine Fa N k m l ks a n ds.length ds i (Yc (UF (by omega)) ?_)
  rw[List.drop_of_length_le (by omega),ZG]
  exact⟨by simp,Oi k m l ds⟩
 | succ j ih=>
  intro i ds hi hd
  have hlt:i<ks.length:=by omega
  have hdp:=YH (List.getElem_mem hlt)
  have ho:=XK hok (List.getElem_mem hlt)
  have h:=ih (i+1)
  refine Fa N k m l ks a n ds.length ds i (Z8 (V5 hlt) ⟨ZN hlt rfl,Yf hlt ?_⟩)
  rw[List.drop_eq_getElem_cons hlt,ZG,next (by omega)]
  generalize ks[i]=c at hdp ho ⊢
  have hq:(cW c&&decide (a<=1000)&&decide (Zt c<N))=true:=by rw[ho,decide_eq_true ha,decide_eq_true (show Zt c<N by omega)];rfl
  cases hc:X0 a n c with
  | none=>
   have e:Zk a n c=(c5 zC,2):=by unfold Zk Xv;rw[hc];rfl
   obtain⟨k',m',l',ks'⟩:=c
   rw[Zp]
   refine⟨rfl,Zd (.mk k' m' l' ks',a,n,()) (Zu k' m' l' ks' a n) hq,Ze (.mk k' m' l' ks',a,n,()) (Zu k' m' l' ks' a n) ?_⟩
   show if ((Zk a n (.mk k' m' l' ks')).2 != 0)=true then _ else _
   rw[e]
   exact Z8 rfl UE
  | some c'=>
   have e:Zk a n c=(c5 c',0):=by unfold Zk Xv;rw[hc];rfl
   obtain⟨k',m',l',ks'⟩:=c
   rw[Zp]
   refine⟨rfl,Zd (.mk k' m' l' ks',a,n,()) (Zu k' m' l' ks' a n) hq,Ze (.mk k' m' l' ks',a,n,()) (Zu k' m' l' ks' a n) ?_⟩
   show if ((Zk a n (.mk k' m' l' ks')).2 != 0)=true then _ else _
   rw[e]
   refine Yc (show ¬ ((0:Int) != 0)=true by decide) ⟨?_,?_⟩
   ·show(_&&_&&decide (((ds.length+List.length (List.drop 0 (List.take 1 [PV.agg [enc (c5 c').k,enc (c5 c').m,enc (c5 c').lk,enc (c5 c').lt,enc (c5 c').ks]])))*88<=1099511627776))&&_)=true
    rw[QJ]
    simp
    omega
   ·have h':=h (ds++[c']) (by omega) (by simp;omega)
    rw[Xu,List.length_append,List.map_append]at h'
    simp only[QJ]
    exact h'
theorem a1d(N:Nat)(k:Int)(m:List Int)(l:Lin)(ks:List Cert)(a n:Int)(hN:Yb ks<N)(hlen:ks.length<=1000)(hok:KV ks=true)(ha:a<=1000):
  At (XF N) 0 (Za Yy (Zv (Ua k m l [] (ZG a n ks)))) Yw 0 93 [(1,.pv (.int .i64 a)),(2,.pv (.int .i64 n)),(3,.ptr 0 0),(6,.ptr 1 0),(9,.ptr 2 0),(10,.pv (.int .i64 0))] [.obj (.box [.pv (enc k),.pv (enc m),.pv (enc l.k),.pv (enc l.t),.pv (enc ks)]),.obj (.box [.pv (.int .i64 0),.pv (.sl 0 true []),.pv (.int .i64 0),.pv (.sl 0 true []),.pv (.sl 0 true [])]),.obj (.box [.pv (.int .i64 k),.pv (enc m),.pv (.int .i64 l.k),.pv (enc l.t),.pv (.sl 0 true [])])]:=by
 match ks,hN,hlen,hok with
 | [],_,_,_=>
  refine F4 N k m l [] a n 0 (Yc (by decide) ?_)
  rw[ZG]
  exact TF k m l
 | c::cs,hN,hlen,hok=>
  have hlt:0<(c::cs).length:=by simp
  have hdp:=YH (List.getElem_mem hlt)
  have ho:=XK hok (List.getElem_mem hlt)
  have h:=Ew N k m l (c::cs) a n hN hlen hok ha cs.length 1
  have hd1:(c::cs).drop 1=cs:=rfl
  rw[hd1]at h
  refine F4 N k m l (c::cs) a n ((0:Nat):Int) (Z8 (V5 hlt) ⟨ZN hlt rfl,Yf hlt ?_⟩)
  rw[ZG,next (by omega)]
  show _∧_
  have hc:(c::cs)[0]=c:=rfl
  rw[hc]at hdp ho ⊢
  have hq:(cW c&&decide (a<=1000)&&decide (Zt c<N))=true:=by rw[ho,decide_eq_true ha,decide_eq_true (show Zt c<N by omega)];rfl
  cases hc:X0 a n c with
  | none=>
   have e:Zk a n c=(c5 zC,2):=by unfold Zk Xv;rw[hc];rfl
   obtain⟨k',m',l',ks'⟩:=c
   rw[Zp]
   refine⟨rfl,Zd (.mk k' m' l' ks',a,n,()) (Zu k' m' l' ks' a n) hq,Ze (.mk k' m' l' ks',a,n,()) (Zu k' m' l' ks' a n) ?_⟩
   show if ((Zk a n (.mk k' m' l' ks')).2 != 0)=true then _ else _
   rw[e]
   exact Z8 rfl UE
  | some c'=>
   have e:Zk a n c=(c5 c',0):=by unfold Zk Xv;rw[hc];rfl
   obtain⟨k',m',l',ks'⟩:=c
   rw[Zp]
   refine⟨rfl,Zd (.mk k' m' l' ks',a,n,()) (Zu k' m' l' ks' a n) hq,Ze (.mk k' m' l' ks',a,n,()) (Zu k' m' l' ks' a n) ?_⟩
   show if ((Zk a n (.mk k' m' l' ks')).2 != 0)=true then _ else _
   rw[e]
   refine Yc (show ¬ ((0:Int) != 0)=true by decide) ?_
   have h':=h ([]++[c']) (by simp) (by simp)
   rw[Xu,show(List.map enc ([]++[c']):List PV)=[enc (c5 c')] by rw[QQ];rfl]at h'
   exact h'
theorem EO(N:Nat)(k:Int)(m:List Int)(l:Lin)(ks:List Cert)(a n:Int)(q:List Int)(hN:Yb ks<N)(hlen:ks.length<=1000)(hok:KV ks=true)(ha:a<=1000): ∀ (j i:Nat) (ds:List Cert),j+i=ks.length->ds.length<=i ->
  At (XF N) 0 (Za Yy (Zv (Ua k q l ds (ZG a n (ks.drop i))))) Yw 0 93 [(1,.pv (.int .i64 a)),(2,.pv (.int .i64 n)),(3,.ptr 0 0),(6,.ptr 1 0),(9,.ptr 2 0),(10,.pv (.int .i64 i))] [.obj (.box [.pv (enc k),.pv (enc m),.pv (enc l.k),.pv (enc l.t),.pv (enc ks)]),.obj (.box [.pv (.int .i64 0),.pv (.sl 0 true []),.pv (.int .i64 0),.pv (.sl 0 true []),.pv (.sl 0 true [])]),.obj (.box [.pv (.int .i64 k),.row 3 q.length 0 q.length,.pv (.int .i64 l.k),.pv (enc l.t),.row 4 ds.length 0 ds.length]),.obj (.row false 3 1 (q.map enc)),.obj (.row false 37 5 (ds.map enc))]:=by
 intro j
 induction j with
 | zero=>
  intro i ds hi hd
  refine FJ N k m l ks a n q q.length ds.length ds i (Yc (UF (by omega)) ?_)
  rw[List.drop_of_length_le (by omega),ZG]
  exact⟨by simp,by simp,by rw[show List.take q.length (q.map (enc:Int->PV))=q.map enc by rw[List.take_of_length_le (by simp)]];exact Oi k q l ds⟩
 | succ j ih=>
  intro i ds hi hd
  have hlt:i<ks.length:=by omega
  have hdp:=YH (List.getElem_mem hlt)
  have ho:=XK hok (List.getElem_mem hlt)
  have h:=ih (i+1)
  refine FJ N k m l ks a n q q.length ds.length ds i (Z8 (V5 hlt) ⟨ZN hlt rfl,Yf hlt ?_⟩)
  rw[List.drop_eq_getElem_cons hlt,ZG,next (by omega)]
  generalize ks[i]=c at hdp ho ⊢
  have hq:(cW c&&decide (a<=1000)&&decide (Zt c<N))=true:=by rw[ho,decide_eq_true ha,decide_eq_true (show Zt c<N by omega)];rfl
  cases hc:X0 a n c with
  | none=>
   have e:Zk a n c=(c5 zC,2):=by unfold Zk Xv;rw[hc];rfl
   obtain⟨k',m',l',ks'⟩:=c
   rw[Zp]
   refine⟨rfl,Zd (.mk k' m' l' ks',a,n,()) (Zu k' m' l' ks' a n) hq,Ze (.mk k' m' l' ks',a,n,()) (Zu k' m' l' ks' a n) ?_⟩
   show if ((Zk a n (.mk k' m' l' ks')).2 != 0)=true then _ else _
   rw[e]
   exact Z8 rfl UE
  | some c'=>
   have e:Zk a n c=(c5 c',0):=by unfold Zk Xv;rw[hc];rfl
   obtain⟨k',m',l',ks'⟩:=c
   rw[Zp]
   refine⟨rfl,Zd (.mk k' m' l' ks',a,n,()) (Zu k' m' l' ks' a n) hq,Ze (.mk k' m' l' ks',a,n,()) (Zu k' m' l' ks' a n) ?_⟩
   show if ((Zk a n (.mk k' m' l' ks')).2 != 0)=true then _ else _
   rw[e]
   refine Yc (show ¬ ((0:Int) != 0)=true by decide) ⟨?_,?_⟩
   ·show(_&&_&&decide (((ds.length+List.length (List.drop 0 (List.take 1 [PV.agg [enc (c5 c').k,enc (c5 c').m,enc (c5 c').lk,enc (c5 c').lt,enc (c5 c').ks]])))*88<=1099511627776))&&_)=true
    rw[QJ]
    simp
    omega
   ·have h':=h (ds++[c']) (by omega) (by simp;omega)
    rw[Xu,List.length_append,List.map_append]at h'
    simp only[QJ]
    exact h'
theorem EI(N:Nat)(k:Int)(m:List Int)(l:Lin)(ks:List Cert)(a n:Int)(q:List Int)(hN:Yb ks<N)(hlen:ks.length<=1000)(hok:KV ks=true)(ha:a<=1000):
  At (XF N) 0 (Za Yy (Zv (Ua k q l [] (ZG a n ks)))) Yw 0 93 [(1,.pv (.int .i64 a)),(2,.pv (.int .i64 n)),(3,.ptr 0 0),(6,.ptr 1 0),(9,.ptr 2 0),(10,.pv (.int .i64 0))] [.obj (.box [.pv (enc k),.pv (enc m),.pv (enc l.k),.pv (enc l.t),.pv (enc ks)]),.obj (.box [.pv (.int .i64 0),.pv (.sl 0 true []),.pv (.int .i64 0),.pv (.sl 0 true []),.pv (.sl 0 true [])]),.obj (.box [.pv (.int .i64 k),.row 3 q.length 0 q.length,.pv (.int .i64 l.k),.pv (enc l.t),.pv (.sl 0 true [])]),.obj (.row false 3 1 (q.map enc))]:=by
 match ks,hN,hlen,hok with
 | [],_,_,_=>
  refine Fs N k m l [] a n q q.length 0 (Yc (by decide) ?_)
  rw[ZG]
  exact⟨by simp,by rw[show List.take q.length (q.map (enc:Int->PV))=q.map enc by rw[List.take_of_length_le (by simp)]];exact TF k q l⟩
 | c::cs,hN,hlen,hok=>
  have hlt:0<(c::cs).length:=by simp
  have hdp:=YH (List.getElem_mem hlt)
  have ho:=XK hok (List.getElem_mem hlt)
  have h:=EO N k m l (c::cs) a n q hN hlen hok ha cs.length 1
  have hd1:(c::cs).drop 1=cs:=rfl
  rw[hd1]at h
  refine Fs N k m l (c::cs) a n q q.length ((0:Nat):Int) (Z8 (V5 hlt) ⟨ZN hlt rfl,Yf hlt ?_⟩)
  rw[ZG,next (by omega)]
  show _∧_
  have hc:(c::cs)[0]=c:=rfl
  rw[hc]at hdp ho ⊢
  have hq:(cW c&&decide (a<=1000)&&decide (Zt c<N))=true:=by rw[ho,decide_eq_true ha,decide_eq_true (show Zt c<N by omega)];rfl
  cases hc:X0 a n c with
  | none=>
   have e:Zk a n c=(c5 zC,2):=by unfold Zk Xv;rw[hc];rfl
   obtain⟨k',m',l',ks'⟩:=c
   rw[Zp]
   refine⟨rfl,Zd (.mk k' m' l' ks',a,n,()) (Zu k' m' l' ks' a n) hq,Ze (.mk k' m' l' ks',a,n,()) (Zu k' m' l' ks' a n) ?_⟩
   show if ((Zk a n (.mk k' m' l' ks')).2 != 0)=true then _ else _
   rw[e]
   exact Z8 rfl UE
  | some c'=>
   have e:Zk a n c=(c5 c',0):=by unfold Zk Xv;rw[hc];rfl
   obtain⟨k',m',l',ks'⟩:=c
   rw[Zp]
   refine⟨rfl,Zd (.mk k' m' l' ks',a,n,()) (Zu k' m' l' ks' a n) hq,Ze (.mk k' m' l' ks',a,n,()) (Zu k' m' l' ks' a n) ?_⟩
   show if ((Zk a n (.mk k' m' l' ks')).2 != 0)=true then _ else _
   rw[e]
   refine Yc (show ¬ ((0:Int) != 0)=true by decide) ?_
   have h':=h ([]++[c']) (by simp) (by simp)
   rw[Xu,show(List.map enc ([]++[c']):List PV)=[enc (c5 c')] by rw[QQ];rfl]at h'
   exact h'
theorem a3o{G:PV->Prop}(N:Nat)(k:Int)(m:List Int)(l:Lin)(ks:List Cert)(a n:Int)(hm:m.length<=1000)(ha : ¬ a<0)(hn : ¬ n<0)(hn1 : ¬ n>100)(hl : ¬ (m.length:Int)<a)
  (h : ∀ q,q=Vj a.toNat n.toNat m->At (XF N) 0 (Za Yy G) Yw 0 93 [(1,.pv (.int .i64 a)),(2,.pv (.int .i64 n)),(3,.ptr 0 0),(6,.ptr 1 0),(9,.ptr 2 0),(10,.pv (.int .i64 0))] [.obj (.box [.pv (enc k),.pv (enc m),.pv (enc l.k),.pv (enc l.t),.pv (enc ks)]),.obj (.box [.pv (.int .i64 0),.pv (.sl 0 true []),.pv (.int .i64 0),.pv (.sl 0 true []),.pv (.sl 0 true [])]),.obj (.box [.pv (.int .i64 k),.row 3 q.length 0 q.length,.pv (.int .i64 l.k),.pv (enc l.t),.pv (.sl 0 true [])]),.obj (.row false 3 1 (q.map enc))]) :
  ((true&&decide (0<=a)&&(List.isEmpty (List.map enc m)||Enc.sz Int==1)&&decide (0<=Int.toNat a)&&decide (Int.toNat a<=List.length (List.map enc m)))=true∧((List.isEmpty (List.drop 0 (List.take (Int.toNat a) (List.map enc m)))||Enc.sz Int==1)=true∧((List.length ([]:List PV)==0&&0==0&&decide ((0+List.length (List.drop 0 (List.take (Int.toNat a) (List.map enc m))))*8<=1099511627776)&&decide (0+List.length (List.drop 0 (List.take (Int.toNat a) (List.map enc m)))<=1099511627776))=true∧((decide (0<=n)&&decide (n<=1099511627776))=true∧((List.length (([]:List PV)++List.drop 0 (List.take (Int.toNat a) (List.map enc m)))==0+List.length (List.drop 0 (List.take (Int.toNat a) (List.map enc m)))&&0+List.length (List.drop 0 (List.take (Int.toNat a) (List.map enc m)))==0+List.length (List.drop 0 (List.take (Int.toNat a) (List.map enc m)))&&decide ((0+List.length (List.drop 0 (List.take (Int.toNat a) (List.map enc m)))+List.length (List.replicate (Int.toNat n) (PV.int .i64 0)))*8<=1099511627776)&&decide (0+List.length (List.drop 0 (List.take (Int.toNat a) (List.map enc m)))+List.length (List.replicate (Int.toNat n) (PV.int .i64 0))<=1099511627776))=true∧((decide (0<=a)&&true&&(List.isEmpty (List.map enc m)||Enc.sz Int==1)&&decide (Int.toNat a<=List.length (List.map enc m))&&decide (List.length (List.map enc m)<=List.length (List.map enc m)))=true∧((List.isEmpty (List.drop (Int.toNat a) (List.take (List.length (List.map enc m)) (List.map enc m)))||Enc.sz Int==1)=true∧((List.length (([]:List PV)++List.drop 0 (List.take (Int.toNat a) (List.map enc m))++List.replicate (Int.toNat n) (PV.int .i64 0))==0+List.length (List.drop 0 (List.take (Int.toNat a) (List.map enc m)))+List.length (List.replicate (Int.toNat n) (PV.int .i64 0))&&0+List.length (List.drop 0 (List.take (Int.toNat a) (List.map enc m)))+List.length (List.replicate (Int.toNat n) (PV.int .i64 0))==0+List.length (List.drop 0 (List.take (Int.toNat a) (List.map enc m)))+List.length (List.replicate (Int.toNat n) (PV.int .i64 0))&&decide ((0+List.length (List.drop 0 (List.take (Int.toNat a) (List.map enc m)))+List.length (List.replicate (Int.toNat n) (PV.int .i64 0))+List.length (List.drop (Int.toNat a) (List.take (List.length (List.map enc m)) (List.map enc m))))*8<=1099511627776)&&decide (0+List.length (List.drop 0 (List.take (Int.toNat a) (List.map enc m)))+List.length (List.replicate (Int.toNat n) (PV.int .i64 0))+List.length (List.drop (Int.toNat a) (List.take (List.length (List.map enc m)) (List.map enc m)))<=1099511627776))=true∧(At (XF N) 0 (Za Yy G) Yw 0 93 [(1,(.pv (.int .i64 a))),(2,(.pv (.int .i64 n))),(3,(.ptr 0 0)),(6,(.ptr 1 0)),(9,(.ptr 2 0)),(10,(.pv (.int .i64 0)))] [(.obj (.box [(.pv (.int .i64 k)),(.pv (.sl 1 false (List.map enc m))),(.pv (.int .i64 (Lin.k l))),(.pv (.sl 2 false (List.map enc (Lin.t l)))),(.pv (.sl 5 false (List.map enc ks)))])),(.obj (.box [(.pv (.int .i64 0)),(.pv (.sl 0 true [])),(.pv (.int .i64 0)),(.pv (.sl 0 true [])),(.pv (.sl 0 true []))])),(.obj (.box [(.pv (.int .i64 k)),(.row 3 (0+List.length (List.drop 0 (List.take (Int.toNat a) (List.map enc m)))+List.length (List.replicate (Int.toNat n) (PV.int .i64 0))+List.length (List.drop (Int.toNat a) (List.take (List.length (List.map enc m)) (List.map enc m)))) 0 (0+List.length (List.drop 0 (List.take (Int.toNat a) (List.map enc m)))+List.length (List.replicate (Int.toNat n) (PV.int .i64 0))+List.length (List.drop (Int.toNat a) (List.take (List.length (List.map enc m)) (List.map enc m))))),(.pv (.int .i64 (Lin.k l))),(.pv (.sl 2 false (List.map enc (Lin.t l)))),(.pv (.sl 0 true []))])),(.obj (.row false 3 1 (([]:List PV)++List.drop 0 (List.take (Int.toNat a) (List.map enc m))++List.replicate (Int.toNat n) (PV.int .i64 0)++List.drop (Int.toNat a) (List.take (List.length (List.map enc m)) (List.map enc m)))))]))))))))):=by
 have t1:List.take (List.length (List.map (enc:Int->PV) m)) (List.map enc m)=List.map enc m:=List.take_length
 have e:([]:List PV)++List.drop 0 (List.take (Int.toNat a) (List.map enc m))++List.replicate (Int.toNat n) (PV.int .i64 0)++List.drop (Int.toNat a) (List.take (List.length (List.map (enc:Int->PV) m)) (List.map enc m))=List.map enc (Vj a.toNat n.toNat m):=by
  rw[t1,List.nil_append,List.drop_zero,SG]
 have e2:0+List.length (List.drop 0 (List.take (Int.toNat a) (List.map (enc:Int->PV) m)))+List.length (List.replicate (Int.toNat n) (PV.int .i64 0))+List.length (List.drop (Int.toNat a) (List.take (List.length (List.map (enc:Int->PV) m)) (List.map (enc:Int->PV) m)))=(Vj a.toNat n.toNat m).length:=by
  rw[<- List.length_map (enc:Int->PV),<- e]
  simp
  try omega
 refine⟨by simp;omega,by simp[Enc.sz],by simp;omega,by simp;omega,by simp;omega,by simp;omega,by simp[Enc.sz],by simp;omega,?_⟩
 rw[e,e2]
 exact h _ rfl
theorem b1t(N:Nat): ∀ x:Cert×Int×Int×Unit,((cW x.1&&decide (x.2.1<=1000))&&decide (Zt x.1<N+1))=true->Zc (XF N) 0 (Za Yy (Zv (Zk x.2.1 x.2.2.1 x.1))) Yw [] (Z9 b8h (encL x)):=by
 rintro⟨⟨k,m,l,ks⟩,a,n,⟨⟩⟩ h
 simp only[Bool.and_eq_true,decide_eq_true_eq]at h
 obtain⟨⟨hw,ha⟩,hd⟩:=h
 obtain⟨h1,h2,h3,h4⟩:=DJ hw
 rw[Zt]at hd
 have e:(encL ((Cert.mk k m l ks,a,n,()):Cert×Int×Int×Unit):List PV)=[PV.agg [enc k,enc m,enc l.k,enc l.t,enc ks],enc a,enc n]:=(Zu k m l ks a n).symm
 rw[e]
 show Zc (XF N) 0 (Za Yy (Zv (Zk a n (.mk k m l ks)))) Yw [] _
 have hB:a<0∨n<0∨n>100∨(Xq k=true∧(m.length:Int)<a)->Zv (Zk a n (.mk k m l ks)) (.tup [.agg [.int .i64 0,.sl 0 true [],.int .i64 0,.sl 0 true [],.sl 0 true []],.int .i64 2]):=fun h=>by
  have hb:(decide (a<0)||decide (n<0)||decide (n>100)||(Xq k&&decide ((m.length:Int)<a)))=true:=by
   rcases h with h|h|h|⟨h,h'⟩
   ·simp[h]
   ·simp[h]
   ·simp[h]
   ·simp[h,h']
  rw[VL hb];exact UE
 have hl:(List.map (enc:Int->PV) m).length=m.length:=List.length_map _
 have hO:Xq k=true-> ¬ a<0-> ¬ n<0-> ¬ n>100-> ¬ (m.length:Int)<a->_:=fun hk q1 q2 q3 q4=>
  a3o (G:=Zv (Zk a n (.mk k m l ks))) N k m l ks a n h1 q1 q2 q3 q4 (fun q hq=>by
   rw[Q4 (by simp[hk];omega),hk,if_pos rfl,<- hq]
   exact EI N k m l ks a n q (by omega) h3 h4 ha)
 have hZ:Xq k=false-> ¬ a<0-> ¬ n<0-> ¬ n>100->_:=fun hk q1 q2 q3=>by
  have:=a1d N k m l ks a n (by omega) h3 h4 ha
  have e:Zk a n (.mk k m l ks)=Ua k m l [] (ZG a n ks):=by rw[Q4 (by simp[hk];omega),hk,if_neg (by simp)]
  rw[<- e]at this
  exact this
 refine b8x N k m l ks a n (XL (fun hk=>Yv (fun h=>hB (.inl h)) fun ha0=>Yv (fun h=>hB (.inr (.inl h))) fun hn0=>Yv (fun h=>hB (.inr (.inr (.inl h)))) fun hn1=>
   Yv (fun h=>hB (.inr (.inr (.inr ⟨by simp[Xq,hk],by rw[hl]at h;exact h⟩)))) fun h4=>hO (by simp[Xq,hk]) ha0 hn0 hn1 (by rw[hl]at h4;exact h4))
  fun hk1=>Yv (fun h=>hB (.inl h)) fun ha0=>Yv (fun h=>hB (.inr (.inl h))) fun hn0=>Yv (fun h=>hB (.inr (.inr (.inl h)))) fun hn1=>
   XL (fun hk=>Yv (fun h=>hB (.inr (.inr (.inr ⟨by simp[Xq,hk],by rw[hl]at h;exact h⟩)))) fun h4=>XL (fun _=>hO (by simp[Xq,hk]) ha0 hn0 hn1 (by rw[hl]at h4;exact h4)) fun hk'=>absurd hk hk')
    fun hk2=>XL (fun hk=>absurd hk hk2) fun _=>hZ (by simp[Xq,hk1,hk2]) ha0 hn0 hn1)
end Go.Pl

