/-
  Texts of mine that belong together (packed by pack.py), for every input: GPt, QPt, QPz, GTd, GTv, QTg, VwU, QTv, QTd, GWy, QWy, GVa, QVa, QCo, GL7, QL7, GL9, QL9, TyRa, GRa, QGc, TyZ0, TyPq, GQc, GQa.
-/
import Derived.Test.YtkpppjbhmmabeaaGreatDoorChecked
import Derived.Test.YtkpppjbhmmabeaaGreatDoorProg
import Derived.Test.YtkpppjbhmmabeaaGreatDoorKL2
import Derived.Test.YtkpppjbhmmabeaaGreatDoorKL3
import Derived.KernelRfl
import Derived.Lib.ItoaLen
set_option linter.unusedVariables false
set_option linter.unusedSimpArgs false
namespace Go.Pl
open Go.RowKit
open Enc (enc dec is)
open EncL (encL decL isL)
set_option maxRecDepth 100000
abbrev A9(N:Nat)(ps:List PV)(k:Str->Prop):Prop:=Yn (fun(x:Tm×Unit)=>tW (Prod.fst x)&&Z9 (Prod.fst x)&&decide (Z4 (Prod.fst x)<N)) (fun(x:Tm×Unit)=>Zr (Prod.fst x)) ps k
abbrev c8r(ps:List PV)(k:Str->Prop):Prop:=Yn (fun(x:List Str×Unit)=>YO (Prod.fst x)) (fun(x:List Str×Unit)=>Yh (Prod.fst x)) ps k
abbrev f9p(ps:List PV)(k:Str->Prop):Prop:=Yn (fun(x:List Lin×FnV 58×Unit)=>decide (List.length (Prod.fst x)<=1048576)&&List.all (Prod.fst x) Zg) (fun(x:List Lin×FnV 58×Unit)=>Yh (List.map Yr (Prod.fst x))) ps k
abbrev f0b(ps:List PV)(k:Str->Prop):Prop:=Yn (fun(x:Int×Unit)=>decide ((-9223372036854775808:Int)<=Prod.fst x)&&decide (Prod.fst x<=9223372036854775807)) (fun(x:Int×Unit)=>Zp (Prod.fst x)) ps k
abbrev b5l(ps:List PV)(k:Str->Prop):Prop:=Yn (fun(x:List Int×FnV 87×Unit)=>decide (List.length (Prod.fst x)<=1048576)&&X8 (Prod.fst x)) (fun(x:List Int×FnV 87×Unit)=>Yh (List.map Zp (Prod.fst x))) ps k
abbrev CG(N:Nat)(ps:List PV)(k:Str->Prop):Prop:=Yn (fun(x:List Tm×FnV 27×Unit)=>tsW (Prod.fst x)&&Wo (Prod.fst x)&&decide (Yc (Prod.fst x)<N)) (fun(x:List Tm×FnV 27×Unit)=>Yh (List.map Zr (Prod.fst x))) ps k
abbrev g0i(ps:List PV)(k:Str×Int->Prop):Prop:=Yn (fun(x:Tm×Unit)=>tW (Prod.fst x)) (fun(x:Tm×Unit)=>JE (Prod.fst x)) ps k
abbrev RD(ps:List PV)(k:Int->Prop):Prop:=Yn (fun(x:Tm×Unit)=>tW (Prod.fst x)) (fun(x:Tm×Unit)=>Wh (Prod.fst x)) ps k
abbrev g2h(ps:List PV)(k:Str->Prop):Prop:=Yn (fun(x:Tm×Unit)=>UB (Tm.nd (Prod.fst x))) (fun(x:Tm×Unit)=>a1c (Tm.nd (Prod.fst x))) ps k
abbrev f9j(N:Nat)(ps:List PV)(k:Str->Prop):Prop:=Yn (fun(x:Tm×Unit)=>tW (Prod.fst x)&&Z9 (Prod.fst x)&&decide (Nd.kind (Tm.nd (Prod.fst x))=6)&&decide (Yc (Tm.ks (Prod.fst x))<N)) (fun(x:Tm×Unit)=>Q3 (Prod.fst x)) ps k
abbrev f4x(ps:List PV)(k:Str->Prop):Prop:=Yn (fun(x:Lin×Unit)=>Wu (Prod.fst x)) (fun(x:Lin×Unit)=>Str.mk (ZC (Prod.fst x))) ps k
abbrev f1f(ps:List PV)(k:Str×Int->Prop):Prop:=Yn (fun(x:Arr×Unit)=>VF (Prod.fst x)&&WF (Prod.fst x)) (fun(x:Arr×Unit)=>JO (Prod.fst x)) ps k
noncomputable def Gy:IC:=YR Proofs.Tryz.f57
def GD:List IRes:=[(.tmp 4)]
abbrev e7y:Nat:=27
def Bw(N:Nat):ZB:=Yi [(27,.pure (preT (fun x:Tm×Unit=>(tW x.1&&Z9 x.1)&&decide (Z4 x.1<N))) (Zi (fun x:Tm×Unit=>Zr x.1))),(15,.pure (preT (fun x:List Str×Unit=>YO x.1)) (Zi (fun x:List Str×Unit=>Yh x.1)))]
theorem f2e{G:PV->Prop}(N:Nat)(l:List Tm)(h:(decide (0<=(↑(List.length (List.map enc l)):Int))&&(↑(List.length (List.map enc l)):Int)==(↑(List.length (List.map enc l)):Int)&&decide ((↑(List.length (List.map enc l)):Int)*(↑16:Int)<=1099511627776)&&decide ((↑(List.length (List.map enc l)):Int)<=1099511627776))=true∧(At (Bw N) 0 (Za GD G) Gy 0 27 [(1,(.pv (.fn 27))),(5,(.row 0 (Int.toNat (↑(List.length (List.map enc l)):Int)) 0 (Int.toNat (↑(List.length (List.map enc l)):Int)))),(11,(.pv (.sl 10 false (List.map enc l)))),(12,(.pv (.int .i64 (↑(List.length (List.map enc l)):Int)))),(13,(.pv (.int .i64 0)))] [(.obj (.row false 9 1 (List.replicate (Int.toNat (↑(List.length (List.map enc l)):Int)) (PV.str []))))])):Zd (Bw N) 0 (Za GD G) Gy [] (Zx 27 [enc l,.fn 27]):=Zd.tp (.req (.nil)) h
theorem b5a{G:PV->Prop}(N:Nat)(l:List Tm)(i:Int)(o:List Str)(h:if (decide (i<(↑(List.length l):Int)))=true then(Xv l i 10 fun b=>(Bj b=true∧((A9 N (Kk b) fun a=>((decide (0<=i)&&decide (0+Int.toNat i<List.length l)&&List.length (List.map enc o)==List.length l)=true∧((List.length (List.map enc o)==List.length l&&decide (0+Int.toNat i<List.length (List.map enc o))&&List.length (PV.cells (enc a))==1&&decide (0+1<=List.length (PV.cells (List.getD (List.map enc o) (0+Int.toNat i) default)))&&PV.cellsOk (enc a))=true∧(At (Bw N) 0 (Za GD G) Gy 0 27 [(1,(.pv (.fn 27))),(5,(.row 0 (List.length l) 0 (List.length l))),(11,(.pv (.sl 10 false (List.map enc l)))),(12,(.pv (.int .i64 (↑(List.length l):Int)))),(13,(.pv (.int .i64 (IntKind.wrap IntKind.i64 (i+1)))))] [(.obj (.row false 9 1 (List.set (List.map enc o) (0+Int.toNat i) (PV.withCells (List.getD (List.map enc o) (0+Int.toNat i) default) (splice (PV.cells (List.getD (List.map enc o) (0+Int.toNat i) default)) 0 (PV.cells (enc a)))))))])))))))else((List.length (List.map enc o)==List.length l)=true∧((c8r [(.sl 1 false (List.drop 0 (List.take (List.length l) (List.map enc o))))] fun e=>(G ((.str (Str.s e)))))))):At (Bw N) 0 (Za GD G) Gy 0 27 [(1,.pv (.fn 27)),(5,.row 0 l.length 0 l.length),(11,.pv (enc l)),(12,.pv (.int .i64 l.length)),(13,.pv (.int .i64 i))] [.obj (.row false 9 1 (o.map enc))]:=At.tp (dm [dr Tm,dv Str] 20 0x611021316115100a42) h
noncomputable def a0p:IC:=YR Proofs.Tryz.f56
def PN:List IRes:=[(.tmp 2)]
abbrev d6q:Nat:=45
def Om(N:Nat):ZB:=Yi [(89,.pure (preT (fun x:List Lin×FnV 58×Unit=>decide (x.1.length<=1048576)&&x.1.all Zg)) (Zi (fun x:List Lin×FnV 58×Unit=>Yh (x.1.map Yr)))),(87,.pure (preT (fun x:Int×Unit=>decide (-9223372036854775808<=x.1)&&decide (x.1<=9223372036854775807))) (Zi (fun x:Int×Unit=>Zp x.1))),(90,.pure (preT (fun x:List Int×FnV 87×Unit=>decide (x.1.length<=1048576)&&X8 x.1)) (Zi (fun x:List Int×FnV 87×Unit=>Yh (x.1.map Zp)))),(57,.pure (preT (fun x:List Tm×FnV 27×Unit=>(tsW x.1&&Wo x.1)&&decide (Yc x.1<N))) (Zi (fun x:List Tm×FnV 27×Unit=>Yh (x.1.map Zr))))]
theorem e5j{G:PV->Prop}(N:Nat)(n:Nd)(ks:List Tm)(h:if (decide ((↑(List.length (List.map enc (Nd.sizes n))):Int)>0))=true then(f9p [(.sl 2 false (List.map enc (Nd.sizes n))),(.fn 58)] fun a=>(ZA [(91:UInt8)] (Str.s a)∧(ZA ([(91:UInt8)]++Str.s a) [(93:UInt8)]∧(ZA (Str.s (Nd.name n)) ([(91:UInt8)]++Str.s a++[(93:UInt8)])∧(if (Nd.num n != 0)=true then(f0b [(.int .i64 (Nd.num n))] fun g=>(ZA [(123:UInt8)] (Str.s g)∧(ZA ([(123:UInt8)]++Str.s g) [(125:UInt8)]∧(ZA (Str.s (Nd.name n)++([(91:UInt8)]++Str.s a++[(93:UInt8)])) ([(123:UInt8)]++Str.s g++[(125:UInt8)])∧(if (decide ((↑(List.length (List.map enc (Nd.ranks n))):Int)>0))=true then(b5l [(.sl 1 false (List.map enc (Nd.ranks n))),(.fn 87)] fun r=>(ZA [(64:UInt8),(40:UInt8)] (Str.s r)∧(ZA ([(64:UInt8),(40:UInt8)]++Str.s r) [(41:UInt8)]∧(ZA (Str.s (Nd.name n)++([(91:UInt8)]++Str.s a++[(93:UInt8)])++([(123:UInt8)]++Str.s g++[(125:UInt8)])) ([(64:UInt8),(40:UInt8)]++Str.s r++[(41:UInt8)])∧(ZA (Str.s (Nd.name n)++([(91:UInt8)]++Str.s a++[(93:UInt8)])++([(123:UInt8)]++Str.s g++[(125:UInt8)])++([(64:UInt8),(40:UInt8)]++Str.s r++[(41:UInt8)])) [(40:UInt8)]∧((CG N [(.sl 10 false (List.map enc ks)),(.fn 27)] fun A=>(ZA (Str.s (Nd.name n)++([(91:UInt8)]++Str.s a++[(93:UInt8)])++([(123:UInt8)]++Str.s g++[(125:UInt8)])++([(64:UInt8),(40:UInt8)]++Str.s r++[(41:UInt8)])++[(40:UInt8)]) (Str.s A)∧(ZA (Str.s (Nd.name n)++([(91:UInt8)]++Str.s a++[(93:UInt8)])++([(123:UInt8)]++Str.s g++[(125:UInt8)])++([(64:UInt8),(40:UInt8)]++Str.s r++[(41:UInt8)])++[(40:UInt8)]++Str.s A) [(41:UInt8)]∧(G ((.str (Str.s (Nd.name n)++([(91:UInt8)]++Str.s a++[(93:UInt8)])++([(123:UInt8)]++Str.s g++[(125:UInt8)])++([(64:UInt8),(40:UInt8)]++Str.s r++[(41:UInt8)])++[(40:UInt8)]++Str.s A++[(41:UInt8)])))))))))))))else(ZA (Str.s (Nd.name n)++([(91:UInt8)]++Str.s a++[(93:UInt8)])++([(123:UInt8)]++Str.s g++[(125:UInt8)])) [(40:UInt8)]∧((CG N [(.sl 10 false (List.map enc ks)),(.fn 27)] fun u=>(ZA (Str.s (Nd.name n)++([(91:UInt8)]++Str.s a++[(93:UInt8)])++([(123:UInt8)]++Str.s g++[(125:UInt8)])++[(40:UInt8)]) (Str.s u)∧(ZA (Str.s (Nd.name n)++([(91:UInt8)]++Str.s a++[(93:UInt8)])++([(123:UInt8)]++Str.s g++[(125:UInt8)])++[(40:UInt8)]++Str.s u) [(41:UInt8)]∧(G ((.str (Str.s (Nd.name n)++([(91:UInt8)]++Str.s a++[(93:UInt8)])++([(123:UInt8)]++Str.s g++[(125:UInt8)])++[(40:UInt8)]++Str.s u++[(41:UInt8)]))))))))))))))else(if (decide ((↑(List.length (List.map enc (Nd.ranks n))):Int)>0))=true then(b5l [(.sl 1 false (List.map enc (Nd.ranks n))),(.fn 87)] fun j=>(ZA [(64:UInt8),(40:UInt8)] (Str.s j)∧(ZA ([(64:UInt8),(40:UInt8)]++Str.s j) [(41:UInt8)]∧(ZA (Str.s (Nd.name n)++([(91:UInt8)]++Str.s a++[(93:UInt8)])) ([(64:UInt8),(40:UInt8)]++Str.s j++[(41:UInt8)])∧(ZA (Str.s (Nd.name n)++([(91:UInt8)]++Str.s a++[(93:UInt8)])++([(64:UInt8),(40:UInt8)]++Str.s j++[(41:UInt8)])) [(40:UInt8)]∧((CG N [(.sl 10 false (List.map enc ks)),(.fn 27)] fun y=>(ZA (Str.s (Nd.name n)++([(91:UInt8)]++Str.s a++[(93:UInt8)])++([(64:UInt8),(40:UInt8)]++Str.s j++[(41:UInt8)])++[(40:UInt8)]) (Str.s y)∧(ZA (Str.s (Nd.name n)++([(91:UInt8)]++Str.s a++[(93:UInt8)])++([(64:UInt8),(40:UInt8)]++Str.s j++[(41:UInt8)])++[(40:UInt8)]++Str.s y) [(41:UInt8)]∧(G ((.str (Str.s (Nd.name n)++([(91:UInt8)]++Str.s a++[(93:UInt8)])++([(64:UInt8),(40:UInt8)]++Str.s j++[(41:UInt8)])++[(40:UInt8)]++Str.s y++[(41:UInt8)])))))))))))))else(ZA (Str.s (Nd.name n)++([(91:UInt8)]++Str.s a++[(93:UInt8)])) [(40:UInt8)]∧((CG N [(.sl 10 false (List.map enc ks)),(.fn 27)] fun z=>(ZA (Str.s (Nd.name n)++([(91:UInt8)]++Str.s a++[(93:UInt8)])++[(40:UInt8)]) (Str.s z)∧(ZA (Str.s (Nd.name n)++([(91:UInt8)]++Str.s a++[(93:UInt8)])++[(40:UInt8)]++Str.s z) [(41:UInt8)]∧(G ((.str (Str.s (Nd.name n)++([(91:UInt8)]++Str.s a++[(93:UInt8)])++[(40:UInt8)]++Str.s z++[(41:UInt8)])))))))))))))))else(if (Nd.num n != 0)=true then(f0b [(.int .i64 (Nd.num n))] fun e=>(ZA [(123:UInt8)] (Str.s e)∧(ZA ([(123:UInt8)]++Str.s e) [(125:UInt8)]∧(ZA (Str.s (Nd.name n)) ([(123:UInt8)]++Str.s e++[(125:UInt8)])∧(if (decide ((↑(List.length (List.map enc (Nd.ranks n))):Int)>0))=true then(b5l [(.sl 1 false (List.map enc (Nd.ranks n))),(.fn 87)] fun i=>(ZA [(64:UInt8),(40:UInt8)] (Str.s i)∧(ZA ([(64:UInt8),(40:UInt8)]++Str.s i) [(41:UInt8)]∧(ZA (Str.s (Nd.name n)++([(123:UInt8)]++Str.s e++[(125:UInt8)])) ([(64:UInt8),(40:UInt8)]++Str.s i++[(41:UInt8)])∧(ZA (Str.s (Nd.name n)++([(123:UInt8)]++Str.s e++[(125:UInt8)])++([(64:UInt8),(40:UInt8)]++Str.s i++[(41:UInt8)])) [(40:UInt8)]∧((CG N [(.sl 10 false (List.map enc ks)),(.fn 27)] fun k=>(ZA (Str.s (Nd.name n)++([(123:UInt8)]++Str.s e++[(125:UInt8)])++([(64:UInt8),(40:UInt8)]++Str.s i++[(41:UInt8)])++[(40:UInt8)]) (Str.s k)∧(ZA (Str.s (Nd.name n)++([(123:UInt8)]++Str.s e++[(125:UInt8)])++([(64:UInt8),(40:UInt8)]++Str.s i++[(41:UInt8)])++[(40:UInt8)]++Str.s k) [(41:UInt8)]∧(G ((.str (Str.s (Nd.name n)++([(123:UInt8)]++Str.s e++[(125:UInt8)])++([(64:UInt8),(40:UInt8)]++Str.s i++[(41:UInt8)])++[(40:UInt8)]++Str.s k++[(41:UInt8)])))))))))))))else(ZA (Str.s (Nd.name n)++([(123:UInt8)]++Str.s e++[(125:UInt8)])) [(40:UInt8)]∧((CG N [(.sl 10 false (List.map enc ks)),(.fn 27)] fun q=>(ZA (Str.s (Nd.name n)++([(123:UInt8)]++Str.s e++[(125:UInt8)])++[(40:UInt8)]) (Str.s q)∧(ZA (Str.s (Nd.name n)++([(123:UInt8)]++Str.s e++[(125:UInt8)])++[(40:UInt8)]++Str.s q) [(41:UInt8)]∧(G ((.str (Str.s (Nd.name n)++([(123:UInt8)]++Str.s e++[(125:UInt8)])++[(40:UInt8)]++Str.s q++[(41:UInt8)]))))))))))))))else(if (decide ((↑(List.length (List.map enc (Nd.ranks n))):Int)>0))=true then(b5l [(.sl 1 false (List.map enc (Nd.ranks n))),(.fn 87)] fun b=>(ZA [(64:UInt8),(40:UInt8)] (Str.s b)∧(ZA ([(64:UInt8),(40:UInt8)]++Str.s b) [(41:UInt8)]∧(ZA (Str.s (Nd.name n)) ([(64:UInt8),(40:UInt8)]++Str.s b++[(41:UInt8)])∧(ZA (Str.s (Nd.name n)++([(64:UInt8),(40:UInt8)]++Str.s b++[(41:UInt8)])) [(40:UInt8)]∧((CG N [(.sl 10 false (List.map enc ks)),(.fn 27)] fun l=>(ZA (Str.s (Nd.name n)++([(64:UInt8),(40:UInt8)]++Str.s b++[(41:UInt8)])++[(40:UInt8)]) (Str.s l)∧(ZA (Str.s (Nd.name n)++([(64:UInt8),(40:UInt8)]++Str.s b++[(41:UInt8)])++[(40:UInt8)]++Str.s l) [(41:UInt8)]∧(G ((.str (Str.s (Nd.name n)++([(64:UInt8),(40:UInt8)]++Str.s b++[(41:UInt8)])++[(40:UInt8)]++Str.s l++[(41:UInt8)])))))))))))))else(ZA (Str.s (Nd.name n)) [(40:UInt8)]∧((CG N [(.sl 10 false (List.map enc ks)),(.fn 27)] fun m=>(ZA (Str.s (Nd.name n)++[(40:UInt8)]) (Str.s m)∧(ZA (Str.s (Nd.name n)++[(40:UInt8)]++Str.s m) [(41:UInt8)]∧(G ((.str (Str.s (Nd.name n)++[(40:UInt8)]++Str.s m++[(41:UInt8)])))))))))))):Zd (Om N) 0 (Za PN G) a0p [] (Zx 45 [.agg [enc n.kind,enc n.line,enc n.name,enc n.num,enc n.elem,enc n.dims,enc n.data,enc n.sizes,enc n.ranks,enc ks]]):=Zd.tp (dm [dv Str] 119 0x115110115111115100b420115110115111115100b421115101b420115110115111115100b420115110115111115100b421115101b421115103b42) h
noncomputable def Es:IC:=YR Proofs.Tryz.f53
def LX:List IRes:=[(.tmp 5)]
abbrev e7l:Nat:=21
def a7b(N:Nat):ZB:=Yi [(27,.pure (preT (fun x:Tm×Unit=>(tW x.1&&Z9 x.1)&&decide (Z4 x.1<N))) (Zi (fun x:Tm×Unit=>Zr x.1)))]
theorem f7l{G:AV×List AObj×List AObj->Prop}(N:Nat)(n:Nd)(ks:List Tm)(k:Int)(b:Bool)(h:if (b)=true then(Xv ks k 10 fun e=>(Bj e=true∧((A9 N (Kk e) fun i=>(G (((.pv (.str (Str.s i))),([(.box (ZX n ks))],[]))))))))else((Xv ks k 10 fun g=>(Bj g=true∧((A9 N (Kk g) fun a=>(ZA [(40:UInt8)] (Str.s a)∧(ZA ([(40:UInt8)]++Str.s a) [(41:UInt8)]∧(G (((.pv (.str ([(40:UInt8)]++Str.s a++[(41:UInt8)]))),([(.box (ZX n ks))],[])))))))))))):Zd (a7b N) 1 (Xw 1 LX G) Es [] (UZ 21 [.pv (.int .i64 k),.pv (.bool b),.ptr 0 0] [.box [.pv (enc n.kind),.pv (enc n.line),.pv (enc n.name),.pv (enc n.num),.pv (enc n.elem),.pv (enc n.dims),.pv (enc n.data),.pv (enc n.sizes),.pv (enc n.ranks),.pv (enc ks)]]):=Zd.to (dm [dr Tm,dv Str] 19 0x11611510611510064) h
noncomputable def a0u:IC:=YR Proofs.Tryz.f27
def R4:List IRes:=[(.tmp 2)]
abbrev d4q:Nat:=179
def Ou(N:Nat):ZB:=Yi [(52,.pure (preT (fun x:Tm×Unit=>tW x.1)) (Zi (fun x:Tm×Unit=>JE x.1))),(54,.pure (preT (fun x:Tm×Unit=>tW x.1)) (Zi (fun x:Tm×Unit=>Wh x.1))),(53,.own (Xq N) OL),(27,.pure (preT (fun x:Tm×Unit=>(tW x.1&&Z9 x.1)&&decide (Z4 x.1<N))) (Zi (fun x:Tm×Unit=>Zr x.1))),(55,.pure (preT (fun x:Tm×Unit=>UB x.1.nd)) (Zi (fun x:Tm×Unit=>a1c x.1.nd))),(56,.pure (preT (fun x:Tm×Unit=>(tW x.1&&Z9 x.1&&decide (x.1.nd.kind=6))&&decide (Yc x.1.ks<N))) (Zi (fun x:Tm×Unit=>Q3 x.1))),(57,.pure (preT (fun x:List Tm×FnV 27×Unit=>(tsW x.1&&Wo x.1)&&decide (Yc x.1<N))) (Zi (fun x:List Tm×FnV 27×Unit=>Yh (x.1.map Zr)))),(15,.pure (preT (fun x:List Str×Unit=>YO x.1)) (Zi (fun x:List Str×Unit=>Yh x.1))),(58,.pure (preT (fun x:Lin×Unit=>Wu x.1)) (Zi (fun x:Lin×Unit=>(⟨ZC x.1⟩:Str)))),(59,.pure (preT (fun x:Arr×Unit=>VF x.1&&WF x.1)) (Zi (fun x:Arr×Unit=>JO x.1)))]
theorem e3m{G:PV->Prop}(N:Nat)(n:Nd)(ks:List Tm)(h:(g0i (CO n ks) fun a=>((RD (CO n ks) fun b=>(if (a.2==2)=true then(Xv ks 0 10 fun L=>(Bj L=true∧((RD (Kk L) fun M=>((Xv ks 1 10 fun K=>(Bj K=true∧((RD (Kk K) fun e=>(if (decide (M ≥ b))=true then if (M != 3)=true then(Xq N [(.pv (.int .i64 0)),(.pv (.bool true)),(.ptr 0 0)] [(.box (ZX n ks))])=true∧(ZA (Xe (ZX n ks) 0 true) [(32:UInt8)]∧(ZA (Xe (ZX n ks) 0 true++[(32:UInt8)]) (Str.s a.1)∧(ZA (Xe (ZX n ks) 0 true++[(32:UInt8)]++Str.s a.1) [(32:UInt8)]∧((Xq N [(.pv (.int .i64 1)),(.pv (.bool (decide (e>b)))),(.ptr 0 0)] [(.box (ZX n ks))])=true∧(ZA (Xe (ZX n ks) 0 true++[(32:UInt8)]++Str.s a.1++[(32:UInt8)]) (Xe (ZX n ks) 1 (decide (e>b)))∧(G ((.str (Xe (ZX n ks) 0 true++[(32:UInt8)]++Str.s a.1++[(32:UInt8)]++Xe (ZX n ks) 1 (decide (e>b)))))))))))else((Xq N [(.pv (.int .i64 0)),(.pv (.bool (b != 3))),(.ptr 0 0)] [(.box (ZX n ks))])=true∧(ZA (Xe (ZX n ks) 0 (b != 3)) [(32:UInt8)]∧(ZA (Xe (ZX n ks) 0 (b != 3)++[(32:UInt8)]) (Str.s a.1)∧(ZA (Xe (ZX n ks) 0 (b != 3)++[(32:UInt8)]++Str.s a.1) [(32:UInt8)]∧((Xq N [(.pv (.int .i64 1)),(.pv (.bool (decide (e>b)))),(.ptr 0 0)] [(.box (ZX n ks))])=true∧(ZA (Xe (ZX n ks) 0 (b != 3)++[(32:UInt8)]++Str.s a.1++[(32:UInt8)]) (Xe (ZX n ks) 1 (decide (e>b)))∧(G ((.str (Xe (ZX n ks) 0 (b != 3)++[(32:UInt8)]++Str.s a.1++[(32:UInt8)]++Xe (ZX n ks) 1 (decide (e>b))))))))))))else((Xq N [(.pv (.int .i64 0)),(.pv (.bool false)),(.ptr 0 0)] [(.box (ZX n ks))])=true∧(ZA (Xe (ZX n ks) 0 false) [(32:UInt8)]∧(ZA (Xe (ZX n ks) 0 false++[(32:UInt8)]) (Str.s a.1)∧(ZA (Xe (ZX n ks) 0 false++[(32:UInt8)]++Str.s a.1) [(32:UInt8)]∧((Xq N [(.pv (.int .i64 1)),(.pv (.bool (decide (e>b)))),(.ptr 0 0)] [(.box (ZX n ks))])=true∧(ZA (Xe (ZX n ks) 0 false++[(32:UInt8)]++Str.s a.1++[(32:UInt8)]) (Xe (ZX n ks) 1 (decide (e>b)))∧(G ((.str (Xe (ZX n ks) 0 false++[(32:UInt8)]++Str.s a.1++[(32:UInt8)]++Xe (ZX n ks) 1 (decide (e>b))))))))))))))))))))))else(if (a.2==1)=true then(Xv ks 0 10 fun i=>(Bj i=true∧(if (PV.asInt (VC i)==2)=true then if (PV.asStr (List.getD (PV.cells (enc i)) (0+1+1) default)==[(105:UInt8),(110:UInt8),(116:UInt8)])=true then if (decide (PV.asInt (List.getD (PV.cells (enc i)) (0+1+1+1) default) ≥ 0))=true then(RD (Kk i) fun Q=>(if (decide (Q ≥ 6))=true then(Xq N [(.pv (.int .i64 0)),(.pv (.bool (!Str.s a.1==[(45:UInt8)]))),(.ptr 0 0)] [(.box (ZX n ks))])=true∧(ZA (Str.s a.1) (Xe (ZX n ks) 0 !Str.s a.1==[(45:UInt8)])∧(G ((.str (Str.s a.1++Xe (ZX n ks) 0 !Str.s a.1==[(45:UInt8)])))))else((Xq N [(.pv (.int .i64 0)),(.pv (.bool false)),(.ptr 0 0)] [(.box (ZX n ks))])=true∧(ZA (Str.s a.1) (Xe (ZX n ks) 0 false)∧(G ((.str (Str.s a.1++Xe (ZX n ks) 0 false))))))))else((RD (Kk i) fun P=>(if (decide (P ≥ 6))=true then(Xq N [(.pv (.int .i64 0)),(.pv (.bool true)),(.ptr 0 0)] [(.box (ZX n ks))])=true∧(ZA (Str.s a.1) (Xe (ZX n ks) 0 !false)∧(G ((.str (Str.s a.1++Xe (ZX n ks) 0 !false)))))else((Xq N [(.pv (.int .i64 0)),(.pv (.bool false)),(.ptr 0 0)] [(.box (ZX n ks))])=true∧(ZA (Str.s a.1) (Xe (ZX n ks) 0 false)∧(G ((.str (Str.s a.1++Xe (ZX n ks) 0 false)))))))))else((RD (Kk i) fun O=>(if (decide (O ≥ 6))=true then(Xq N [(.pv (.int .i64 0)),(.pv (.bool true)),(.ptr 0 0)] [(.box (ZX n ks))])=true∧(ZA (Str.s a.1) (Xe (ZX n ks) 0 !false)∧(G ((.str (Str.s a.1++Xe (ZX n ks) 0 !false)))))else((Xq N [(.pv (.int .i64 0)),(.pv (.bool false)),(.ptr 0 0)] [(.box (ZX n ks))])=true∧(ZA (Str.s a.1) (Xe (ZX n ks) 0 false)∧(G ((.str (Str.s a.1++Xe (ZX n ks) 0 false)))))))))else((RD (Kk i) fun D=>(if (decide (D ≥ 6))=true then(Xq N [(.pv (.int .i64 0)),(.pv (.bool true)),(.ptr 0 0)] [(.box (ZX n ks))])=true∧(ZA (Str.s a.1) (Xe (ZX n ks) 0 !false)∧(G ((.str (Str.s a.1++Xe (ZX n ks) 0 !false)))))else((Xq N [(.pv (.int .i64 0)),(.pv (.bool false)),(.ptr 0 0)] [(.box (ZX n ks))])=true∧(ZA (Str.s a.1) (Xe (ZX n ks) 0 false)∧(G ((.str (Str.s a.1++Xe (ZX n ks) 0 false))))))))))))else(if (Nd.kind n==5)=true then ZA [(108:UInt8),(101:UInt8),(116:UInt8),(32:UInt8)] (Str.s (Nd.name n))∧(ZA ([(108:UInt8),(101:UInt8),(116:UInt8),(32:UInt8)]++Str.s (Nd.name n)) [(32:UInt8),(61:UInt8),(32:UInt8)]∧((Xv ks 0 10 fun y=>(Bj y=true∧((A9 N (Kk y) fun g=>(ZA ([(108:UInt8),(101:UInt8),(116:UInt8),(32:UInt8)]++Str.s (Nd.name n)++[(32:UInt8),(61:UInt8),(32:UInt8)]) (Str.s g)∧(ZA ([(108:UInt8),(101:UInt8),(116:UInt8),(32:UInt8)]++Str.s (Nd.name n)++[(32:UInt8),(61:UInt8),(32:UInt8)]++Str.s g) [(32:UInt8),(105:UInt8),(110:UInt8),(32:UInt8)]∧((Xv ks 1 10 fun q=>(Bj q=true∧((A9 N (Kk q) fun r=>(ZA ([(108:UInt8),(101:UInt8),(116:UInt8),(32:UInt8)]++Str.s (Nd.name n)++[(32:UInt8),(61:UInt8),(32:UInt8)]++Str.s g++[(32:UInt8),(105:UInt8),(110:UInt8),(32:UInt8)]) (Str.s r)∧(G ((.str ([(108:UInt8),(101:UInt8),(116:UInt8),(32:UInt8)]++Str.s (Nd.name n)++[(32:UInt8),(61:UInt8),(32:UInt8)]++Str.s g++[(32:UInt8),(105:UInt8),(110:UInt8),(32:UInt8)]++Str.s r))))))))))))))))))else(if (Nd.kind n==2)=true then(g2h (CO n ks) fun H=>(G ((.str (Str.s H)))))else(if (Nd.kind n==1)=true then G ((.str (Str.s (Nd.name n))))else(if (Nd.kind n==6)=true then(f9j N (CO n ks) fun C=>(G ((.str (Str.s C)))))else(if (Nd.kind n==7)=true then(CG N [(.sl 10 false (List.map enc ks)),(.fn 27)] fun l=>(ZA [(91:UInt8)] (Str.s l)∧(ZA ([(91:UInt8)]++Str.s l) [(93:UInt8)]∧(G ((.str ([(91:UInt8)]++Str.s l++[(93:UInt8)])))))))else(if (Nd.kind n==8)=true then(Xv ks 0 10 fun u=>(Bj u=true∧((A9 N (Kk u) fun F=>((Xv ks 1 10 fun z=>(Bj z=true∧((A9 N (Kk z) fun J=>((c8r [(.sl 1 false [(.str (Str.s (Nd.name n))),(.str (Str.s F)),(.str (Str.s J))])] fun k=>(ZA [(102:UInt8),(111:UInt8),(108:UInt8),(100:UInt8),(40:UInt8)] (Str.s k)∧(ZA ([(102:UInt8),(111:UInt8),(108:UInt8),(100:UInt8),(40:UInt8)]++Str.s k) [(41:UInt8)]∧(G ((.str ([(102:UInt8),(111:UInt8),(108:UInt8),(100:UInt8),(40:UInt8)]++Str.s k++[(41:UInt8)])))))))))))))))))else(if (Nd.kind n==9)=true then(Xv ks 0 10 fun A=>(Bj A=true∧((A9 N (Kk A) fun I=>((c8r [(.sl 1 false [(.str (Str.s (Nd.name n))),(.str (Str.s I))])] fun m=>(ZA [(115:UInt8),(99:UInt8),(97:UInt8),(110:UInt8),(40:UInt8)] (Str.s m)∧(ZA ([(115:UInt8),(99:UInt8),(97:UInt8),(110:UInt8),(40:UInt8)]++Str.s m) [(41:UInt8)]∧(G ((.str ([(115:UInt8),(99:UInt8),(97:UInt8),(110:UInt8),(40:UInt8)]++Str.s m++[(41:UInt8)]))))))))))))else(if (Nd.kind n==4)=true then(Xv (Nd.sizes n) 0 2 fun B=>((f4x [(.agg [(.int .i64 (PV.asInt (VC B))),(.sl 2 false (PV.asXs (SK B)))])] fun j=>(ZA [(115:UInt8),(105:UInt8),(122:UInt8),(101:UInt8),(91:UInt8)] (Str.s j)∧(ZA ([(115:UInt8),(105:UInt8),(122:UInt8),(101:UInt8),(91:UInt8)]++Str.s j) [(93:UInt8)]∧(G ((.str ([(115:UInt8),(105:UInt8),(122:UInt8),(101:UInt8),(91:UInt8)]++Str.s j++[(93:UInt8)])))))))))else((f1f [(.agg [(.str (Str.s (Nd.elem n))),(.sl 1 false (List.map enc (Nd.dims n))),(.sl 1 false (List.map enc (Nd.data n)))])] fun E=>(G ((.str (Str.s E.1)))))))))))))))))))):Zd (Ou N) 0 (Za R4 G) a0u [] (Zx 179 [.agg [enc n.kind,enc n.line,enc n.name,enc n.num,enc n.elem,enc n.dims,enc n.data,enc n.sizes,enc n.ranks,enc ks]]):=Zd.tp (dm [dv (Str×Int),dv Int,dr Tm,dv Str,dr Lin] 309 0x51011812910084201181228117100c42011812281171811710114201181005420810034200014208100342018117111811711101042013122013122006426122222222220131220131220064261222222013122013122006426122013122013122006426122201642222033422220544217107942013121113122220131211131222220131211131222200e4222024426117161171041426151) h
end Go.Pl
namespace Go.Pl
open Go.RowKit
open Enc (enc dec is)
open EncL (encL decL isL)
theorem NV{ks:List Tm}{k:Tm}(h:k∈ks):Z4 k<=Yc ks:=by
 induction ks with
 | nil=>cases h
 | cons a ks ih=>
  rw[Yc]
  rcases List.mem_cons.1 h with rfl|h
  ·omega
  ·have:=ih h;omega
theorem Vl{N:Nat}{t:Tm}(h1:tW t=true)(h2:Z9 t=true)(h3:Z4 t<N):(fun x:Tm×Unit=>(tW x.1&&Z9 x.1)&&decide (Z4 x.1<N)) (t,())=true:=by
 show(tW t&&Z9 t&&decide (Z4 t<N))=true
 rw[h1,h2,decide_eq_true h3];rfl
structure TxP (N:Nat) (ks:List Tm):Prop where
 w:Vs ks<=1048576
 v : ∀ k∈ks,Z9 k=true
 d:Yc ks<N
theorem TxP.kid{N:Nat}{ks:List Tm}(h:TxP N ks){k:Tm}(a:k∈ks):tW k=true∧Z9 k=true∧Z4 k<N:=
 ⟨decide_eq_true (Nat.le_trans (a0o a) h.w),h.v k a,Nat.lt_of_le_of_lt (NV a) h.d⟩
theorem TxP.pre{N:Nat}{ks:List Tm}(h:TxP N ks):(fun x:List Tm×FnV 27×Unit=>(tsW x.1&&Wo x.1)&&decide (Yc x.1<N)) (ks,{},())=true:=by
 show(tsW ks&&Wo ks&&decide (Yc ks<N))=true
 rw[show tsW ks=true from decide_eq_true h.w,Uk,List.all_eq_true.2 h.v,decide_eq_true h.d];rfl
theorem TxP.com{N:Nat}{ks:List Tm}(h:TxP N ks):(Zv (ks.map ZM)).length<=1153433600:=by
 have h1:=YW (ks.map ZM)
 have h2:=Gh ks (by rw[Uk];exact List.all_eq_true.2 h.v)
 have h3:((ks.map ZM).map fun s=>s.length+2).sum<=((Yv ks).map fun x=>x.2.2.length+4).sum:=by
  rw[WH,D6,D6]
  exact CW fun x _=>by show(ZM x).length+2<=(ZM x).length+4;omega
 have:=h.w
 omega
theorem TxP.len{N:Nat}{ks:List Tm}(h:TxP N ks){k:Tm}(a:k∈ks):(ZM k).length<=1153433592:=K6 (h.kid a).1 (h.kid a).2.1
theorem TxP.join{N:Nat}{ks:List Tm}(h:TxP N ks):YO (ks.map Zr)=true:=by
 have h1:=h.com
 have h2:=Bf ks
 have h3:=h.w
 unfold YO
 have e:=VT ks
 unfold Yh at e
 rw[decide_eq_true (by rw[List.length_map];omega),Bool.true_and]
 exact decide_eq_true (by rw[show Zv ((ks.map Zr).map (·.s))=Zv (ks.map ZM)from e];omega)
theorem c1n(N:Nat)(l:List Tm)(hl:l.length<=1048576)(q:TxP N l)(k:YO (l.map Zr)=true): ∀ (d i:Nat),d+i=l.length ->
  At (Bw N) 0 (Za GD (Zf (Yh (l.map Zr)))) Gy 0 27 [(1,.pv (.fn 27)),(5,.row 0 l.length 0 l.length),(11,.pv (enc l)),(12,.pv (.int .i64 l.length)),(13,.pv (.int .i64 i))] [.obj (.row false 9 1 ((G5 (l.map Zr) i).map enc))]:=by
 intro d
 induction d with
 | zero=>
  intro i hi
  have j:i=l.length:=by omega
  subst j
  have e:G5 (l.map Zr) l.length=l.map Zr:=by have:=TH (l.map Zr);rw[List.length_map]at this;exact this
  rw[e]
  have b:=BC (m:=l.map Zr)
  rw[List.length_map]at b
  refine b5a N l _ _ (ZV (YD (by omega)) ⟨by simp,?_⟩)
  rw[b]
  exact⟨Zc (l.map Zr,()) rfl k,Zb (l.map Zr,()) rfl (Zh rfl)⟩
 | succ d ih=>
  intro i hi
  have a:i<l.length:=by omega
  have g:=q.kid (List.getElem_mem a)
  have ho:(G5 (l.map Zr) i).length=l.length:=by rw[Tf _ _ (by rw[List.length_map];omega),List.length_map]
  refine b5a N l _ _ (ZN (Yw a) ⟨Zt a rfl,ZK a ⟨Xy _,Zc (l[i],()) (Yb _) (Vl g.1 g.2.1 g.2.2),Zb (l[i],()) (Yb _) ⟨Ex a ho,FX a ho,?_⟩⟩⟩)
  have e:(G5 (l.map Zr) i).set i (Zr l[i])=G5 (l.map Zr) (i+1):=by
   have:=TG (m:=l.map Zr) (i:=i) (by rw[List.length_map];exact a)
   rw[List.getElem_map]at this
   exact this
  have b:=Ob (o:=G5 (l.map Zr) i) (i:=i) (by omega) (Zr l[i])
  rw[e]at b
  rw[next (by omega)]
  have h:=ih (i+1) (by omega)
  rw[<- b]at h
  exact h
theorem d8n(N:Nat): ∀ x:List Tm×FnV 27×Unit,((tsW x.1&&Wo x.1)&&decide (Yc x.1<N))=true->Zd (Bw N) 0 (Za GD (Zf (Yh (x.1.map Zr)))) Gy [] (Zx e7y (encL x)):=by
 rintro⟨l,g,⟨⟩⟩ h
 have a:=h
 simp only[Bool.and_eq_true,decide_eq_true_eq,Uk,List.all_eq_true]at a
 have b:TxP N l:=⟨of_decide_eq_true a.1.1,a.1.2,a.2⟩
 have e:l.length<=1048576:=Nat.le_trans (Bf l) b.w
 refine f2e N l ⟨by rw[List.length_map];exact b6n _ e,?_⟩
 have:=c1n N l e b b.join l.length 0 (by omega)
 rw[CE,List.map_replicate,List.length_map]at this
 rw[List.length_map,Int.toNat_natCast]
 exact this
theorem VG{α:Type}[Enc α]{l:List α}:(((List.length (List.map (enc:α->PV) l):Nat):Int)>0) ↔ l≠[]:=by
 cases l <;> simp
theorem Aj{x y:Int}{P Q:Prop}(h1:x≠y->P)(h2:x=y->Q):if (x != y)=true then P else Q:=by
 by_cases hxy:x=y
 ·rw[if_neg (by simpa using hxy)];exact h2 hxy
 ·rw[if_pos (by simpa using hxy)];exact h1 hxy
theorem Zj{a b:Nat}(h:a+b<=1099511627776):decide (a+b<=1099511627776)=true:=decide_eq_true h
theorem Zz{a b A B:Nat}(ha:a<=A)(hb:b<=B)(h:A+B<=1099511627776):decide (a+b<=1099511627776)=true:=decide_eq_true (by omega)
theorem Zu{a b:List UInt8}{A B:Nat}(ha:a.length<=A)(hb:b.length<=B):(a++b).length<=A+B:=by rw[List.length_append];omega
theorem Pv{n:Nd}{k:Nat}(h:XJ n k=true):n.name.s.length<=61∧(n.num.natAbs<=64∧0<=n.num)∧n.sizes.length<=4∧n.ranks.length<=8∧n.sizes.all Zg=true∧X8 n.ranks=true:=by
 unfold XJ at h
 simp only[Bool.and_eq_true,decide_eq_true_eq,Bool.or_eq_true]at h
 refine⟨(VX h.1.1.1.1.1.1.1).2.2,⟨by omega,by omega⟩,by omega,?_,h.1.2,h.2⟩
 rcases h.1.1.1.2 with hr|hr
 ·rw[List.isEmpty_iff.1 hr];simp
 ·omega
theorem b9q(N:Nat): ∀ x:Tm×Unit,(((tW x.1&&Z9 x.1)&&decide (x.1.nd.kind=6))&&decide (Yc x.1.ks<N))=true->Zd (Om N) 0 (Za PN (Zf (Q3 x.1))) a0p [] (Zx d6q (encL x)):=by
 rintro⟨⟨n,ks⟩,⟨⟩⟩ h
 have r:=h
 simp only[Bool.and_eq_true,decide_eq_true_eq]at r
 obtain⟨⟨⟨q,i⟩,k⟩,hd⟩:=r
 have k:n.kind=6:=k
 have q:tW (.mk n ks)=true:=q
 have i:=Qw i
 have m:Vs ks<=1048576:=by have h1:KC (.mk n ks)<=1048576:=of_decide_eq_true q;rw[KC]at h1;omega
 have a:TxP N ks:=⟨m,i.2,hd⟩
 have hc:XJ n ks.length=true:=by
  have h1:=i.1
  unfold WC YJ at h1
  rw[k]at h1
  simp at h1
  exact h1.2.2
 obtain⟨c1,c2,c3,c4,A,u⟩:=Pv hc
 have C:=a.com
 rw[<- VT]at C
 have l0:(Yh (n.sizes.map Yr)).s.length<=4008:=by
  rw[KG]
  have h1:=YW (n.sizes.map ZC)
  rw[List.map_map]at h1
  have h2:=QB (f:=(fun s:List UInt8=>s.length+2) ∘ ZC) (c:=1002) (l:=n.sizes) fun x _=>by
   have:=Wv x
   show(ZC x).length+2<=_
   omega
  omega
 have l1:(Zp n.num).s.length<=21:=Qy (by omega)
 have l2:(Yh (n.ranks.map Zp)).s.length<=184:=by
  rw[d4z]
  have h1:=YW (n.ranks.map Ka)
  rw[List.map_map]at h1
  have h2:=QB (f:=(fun s:List UInt8=>s.length+2) ∘ Ka) (c:=23) (l:=n.ranks) fun x B=>by
   have D:=List.all_eq_true.1 u x B
   simp only[Bool.and_eq_true,decide_eq_true_eq]at D
   have:=Qy (n:=x) (by omega)
   show(Ka x).length+2<=_
   omega
  omega
 have b:=KG n.sizes
 have g:=d4z n.ranks
 have e:=VT ks
 have fin : ∀ s,s=Ud n (ks.map ZM)->Zf (Q3 (.mk n ks)) (.str s):=fun s hs=>Zh (x:=(⟨s⟩:Str)) (by rw[hs];rfl)
 have z:(fun x:List Lin×FnV 58×Unit=>decide (x.1.length<=1048576)&&x.1.all Zg) (n.sizes,{},())=true:=by show(decide (n.sizes.length<=1048576)&&n.sizes.all Zg)=true;rw[A,decide_eq_true (by omega)];rfl
 have y:(fun x:Int×Unit=>decide (-9223372036854775808<=x.1)&&decide (x.1<=9223372036854775807)) (n.num,())=true:=by show(decide _&&decide _)=true;rw[decide_eq_true (by omega),decide_eq_true (by omega)];rfl
 have j:(fun x:List Int×FnV 87×Unit=>decide (x.1.length<=1048576)&&X8 x.1) (n.ranks,{},())=true:=by show(decide (n.ranks.length<=1048576)&&X8 n.ranks)=true;rw[u,decide_eq_true (by omega)];rfl
 rw[<- ZY]
 show Zd (Om N) 0 (Za PN (Zf (Q3 (.mk n ks)))) _ _ _
 have s0:(Yh (List.map Yr ((n.sizes,({}:FnV 58),()):List Lin×FnV 58×Unit).1)).s=(Yh (n.sizes.map Yr)).s:=rfl
 refine e5j N n ks (ZU (fun hs=> ?_) fun hs=> ?_)
 ·rw[VG]at hs
  refine⟨Zc (n.sizes,{},()) rfl z,Zb (n.sizes,{},()) rfl ⟨(Zj (by simp only[List.length_append,List.length_cons,List.length_nil];omega)),(Zj (by simp only[List.length_append,List.length_cons,List.length_nil];omega)),(Zj (by simp only[List.length_append,List.length_cons,List.length_nil];omega)),?_⟩⟩
  refine Aj (fun hm=> ?_) fun hm=> ?_
  ·refine⟨Zc (n.num,()) rfl y,Zb (n.num,()) rfl ⟨(Zj (by simp only[List.length_append,List.length_cons,List.length_nil];omega)),(Zj (by simp only[List.length_append,List.length_cons,List.length_nil];omega)),(Zj (by simp only[List.length_append,List.length_cons,List.length_nil];omega)),?_⟩⟩
   refine ZU (fun hr=> ?_) fun hr=> ?_
   ·rw[VG]at hr
    refine⟨Zc (n.ranks,{},()) rfl j,Zb (n.ranks,{},()) rfl ⟨(Zj (by simp only[List.length_append,List.length_cons,List.length_nil];omega)),(Zj (by simp only[List.length_append,List.length_cons,List.length_nil];omega)),(Zj (by simp only[List.length_append,List.length_cons,List.length_nil];omega)),?_⟩⟩
    exact⟨(Zj (by simp only[List.length_append,List.length_cons,List.length_nil];omega)),Zc (ks,{},()) rfl a.pre,Zb (ks,{},()) rfl ⟨(Zj (by simp only[List.length_append,List.length_cons,List.length_nil];omega)),(Zj (by simp only[List.length_append,List.length_cons,List.length_nil];omega)),fin _ (by simp[Ud,b,g,e,Ka,List.append_assoc,hs,hm,hr])⟩⟩
   ·rw[VG,Classical.not_not]at hr
    exact⟨(Zj (by simp only[List.length_append,List.length_cons,List.length_nil];omega)),Zc (ks,{},()) rfl a.pre,Zb (ks,{},()) rfl ⟨(Zj (by simp only[List.length_append,List.length_cons,List.length_nil];omega)),(Zj (by simp only[List.length_append,List.length_cons,List.length_nil];omega)),fin _ (by simp[Ud,b,g,e,Ka,List.append_assoc,hs,hm,hr])⟩⟩
  ·refine ZU (fun hr=> ?_) fun hr=> ?_
   ·rw[VG]at hr
    refine⟨Zc (n.ranks,{},()) rfl j,Zb (n.ranks,{},()) rfl ⟨(Zj (by simp only[List.length_append,List.length_cons,List.length_nil];omega)),(Zj (by simp only[List.length_append,List.length_cons,List.length_nil];omega)),(Zj (by simp only[List.length_append,List.length_cons,List.length_nil];omega)),?_⟩⟩
    exact⟨(Zj (by simp only[List.length_append,List.length_cons,List.length_nil];omega)),Zc (ks,{},()) rfl a.pre,Zb (ks,{},()) rfl ⟨(Zj (by simp only[List.length_append,List.length_cons,List.length_nil];omega)),(Zj (by simp only[List.length_append,List.length_cons,List.length_nil];omega)),fin _ (by simp[Ud,b,g,e,Ka,List.append_assoc,hs,hm,hr])⟩⟩
   ·rw[VG,Classical.not_not]at hr
    exact⟨(Zj (by simp only[List.length_append,List.length_cons,List.length_nil];omega)),Zc (ks,{},()) rfl a.pre,Zb (ks,{},()) rfl ⟨(Zj (by simp only[List.length_append,List.length_cons,List.length_nil];omega)),(Zj (by simp only[List.length_append,List.length_cons,List.length_nil];omega)),fin _ (by simp[Ud,b,g,e,Ka,List.append_assoc,hs,hm,hr])⟩⟩
 ·rw[VG,Classical.not_not]at hs
  refine Aj (fun hm=> ?_) fun hm=> ?_
  ·refine⟨Zc (n.num,()) rfl y,Zb (n.num,()) rfl ⟨(Zj (by simp only[List.length_append,List.length_cons,List.length_nil];omega)),(Zj (by simp only[List.length_append,List.length_cons,List.length_nil];omega)),(Zj (by simp only[List.length_append,List.length_cons,List.length_nil];omega)),?_⟩⟩
   refine ZU (fun hr=> ?_) fun hr=> ?_
   ·rw[VG]at hr
    refine⟨Zc (n.ranks,{},()) rfl j,Zb (n.ranks,{},()) rfl ⟨(Zj (by simp only[List.length_append,List.length_cons,List.length_nil];omega)),(Zj (by simp only[List.length_append,List.length_cons,List.length_nil];omega)),(Zj (by simp only[List.length_append,List.length_cons,List.length_nil];omega)),?_⟩⟩
    exact⟨(Zj (by simp only[List.length_append,List.length_cons,List.length_nil];omega)),Zc (ks,{},()) rfl a.pre,Zb (ks,{},()) rfl ⟨(Zj (by simp only[List.length_append,List.length_cons,List.length_nil];omega)),(Zj (by simp only[List.length_append,List.length_cons,List.length_nil];omega)),fin _ (by simp[Ud,b,g,e,Ka,List.append_assoc,hs,hm,hr])⟩⟩
   ·rw[VG,Classical.not_not]at hr
    exact⟨(Zj (by simp only[List.length_append,List.length_cons,List.length_nil];omega)),Zc (ks,{},()) rfl a.pre,Zb (ks,{},()) rfl ⟨(Zj (by simp only[List.length_append,List.length_cons,List.length_nil];omega)),(Zj (by simp only[List.length_append,List.length_cons,List.length_nil];omega)),fin _ (by simp[Ud,b,g,e,Ka,List.append_assoc,hs,hm,hr])⟩⟩
  ·refine ZU (fun hr=> ?_) fun hr=> ?_
   ·rw[VG]at hr
    refine⟨Zc (n.ranks,{},()) rfl j,Zb (n.ranks,{},()) rfl ⟨(Zj (by simp only[List.length_append,List.length_cons,List.length_nil];omega)),(Zj (by simp only[List.length_append,List.length_cons,List.length_nil];omega)),(Zj (by simp only[List.length_append,List.length_cons,List.length_nil];omega)),?_⟩⟩
    exact⟨(Zj (by simp only[List.length_append,List.length_cons,List.length_nil];omega)),Zc (ks,{},()) rfl a.pre,Zb (ks,{},()) rfl ⟨(Zj (by simp only[List.length_append,List.length_cons,List.length_nil];omega)),(Zj (by simp only[List.length_append,List.length_cons,List.length_nil];omega)),fin _ (by simp[Ud,b,g,e,Ka,List.append_assoc,hs,hm,hr])⟩⟩
   ·rw[VG,Classical.not_not]at hr
    exact⟨(Zj (by simp only[List.length_append,List.length_cons,List.length_nil];omega)),Zc (ks,{},()) rfl a.pre,Zb (ks,{},()) rfl ⟨(Zj (by simp only[List.length_append,List.length_cons,List.length_nil];omega)),(Zj (by simp only[List.length_append,List.length_cons,List.length_nil];omega)),fin _ (by simp[Ud,b,g,e,Ka,List.append_assoc,hs,hm,hr])⟩⟩
theorem c4c{xs:List AV}{t:Tm}(h:a5z xs=some t): ∃ n ks,t = .mk n ks∧xs=ZX n ks:=by
 unfold a5z at h
 split at h
 ·split at h
  ·rename_i hc
   obtain⟨⟨n,ks⟩,e⟩:=b0p hc
   rw[e,Enc.dec_enc]at h
   cases h
   rw[YZ]at e
   cases e
   exact⟨n,ks,rfl,rfl⟩
  ·cases h
 ·cases h
theorem d0u(N:Nat): ∀ args os,Xq N args os=true->Zd (a7b N) os.length (Xw os.length LX fun r=>r=OL args os) Es [] (UZ e7l args os):=by
 intro args os h
 unfold Xq at h
 split at h
 ·rename_i k b xs
  unfold Ps at h
  split at h
  ·rename_i t ht
   obtain⟨n,ks,rfl,rfl⟩:=c4c ht
   simp only[Bool.and_eq_true,decide_eq_true_eq]at h
   obtain⟨⟨⟨⟨u,s⟩,hd⟩,h0⟩,l⟩:=h
   obtain⟨i,rfl⟩:=Int.eq_ofNat_of_zero_le h0
   have j:Vs ks<=1048576:=by have h1:KC (.mk n ks)<=1048576:=of_decide_eq_true u;rw[KC]at h1;omega
   have q:TxP N ks:=⟨j,(Qw s).2,hd⟩
   have a:i<ks.length:=by have l:(i:Int)<(ks.length:Int):=l;omega
   have g:=q.kid (List.getElem_mem a)
   have m:=q.len (List.getElem_mem a)
   have e : ∀ b:Bool,Xe (ZX n ks) (i:Int) b=V8 (!b) (ZM ks[i]):=fun b=>by
    rw[JH,Int.toNat_natCast]
    simp[List.getD,a]
   refine f7l N n ks (i:Int) b (YX (fun hb=> ?_) fun hb=> ?_)
   ·refine⟨Zt a rfl,ZK a ⟨Xy _,Zc (ks[i],()) (Yb _) (Vl g.1 g.2.1 g.2.2),Zb (ks[i],()) (Yb _) ?_⟩⟩
    subst hb
    show _=((AV.pv (.str (Xe (ZX n ks) (i:Int) true)),[AObj.box (ZX n ks)],[]):AV×List AObj×List AObj)
    rw[e]
    rfl
   ·refine⟨Zt a rfl,ZK a ⟨Xy _,Zc (ks[i],()) (Yb _) (Vl g.1 g.2.1 g.2.2),Zb (ks[i],()) (Yb _) ⟨Zz (show _<=8 by decide) m (by omega),Zz (Zu (show _<=8 by decide) m) (show _<=8 by decide) (by omega),?_⟩⟩⟩
    subst hb
    show _=((AV.pv (.str (Xe (ZX n ks) (i:Int) false)),[AObj.box (ZX n ks)],[]):AV×List AObj×List AObj)
    rw[e]
    rfl
  ·cases h
 ·cases h
theorem MP{n:Nd}{xs:List (Int×Bool×List UInt8)}(h:He n xs.length=none):QN n xs=(if n.kind=1 then n.name.s
  else if n.kind=2 then BN n
  else if n.kind=4 then [115,105,122,101,91]++(match n.sizes with|[]=>[]|l::_=>ZC l)++[93]
  else if n.kind=5 then [108,101,116,32]++n.name.s++[32,61,32]++(match xs with|[a,b]=>a.2.2++[32,105,110,32]++b.2.2|_=>[])
  else if n.kind=6 then Ud n (xs.map (·.2.2))
  else if n.kind=7 then [91]++Zv (xs.map (·.2.2))++[93]
  else if n.kind=8 then [102,111,108,100,40]++Zv (n.name.s::xs.map (·.2.2))++[41]
  else if n.kind=9 then [115,99,97,110,40]++Zv (n.name.s::xs.map (·.2.2))++[41]
  else BO (UU n)):=by
 unfold QN
 rw[h]
 rfl
theorem g2w(t:Tm):PV.asInt (List.getD (PV.cells (enc t)) 0 default)=t.nd.kind:=by obtain⟨n,ks⟩:=t;rw[YZ];rfl
theorem g1g(t:Tm):PV.asStr (List.getD (PV.cells (enc t)) (0+1+1) default)=t.nd.name.s:=by obtain⟨n,ks⟩:=t;rw[YZ];rfl
theorem g2t(t:Tm):PV.asInt (List.getD (PV.cells (enc t)) (0+1+1+1) default)=t.nd.num:=by obtain⟨n,ks⟩:=t;rw[YZ];rfl
theorem d5s{n:Nd}{k:Nat}{r:OpR}(h:He n k=some r):n.kind=6:=by
 unfold He at h
 cases a:Cc n.name.s with
 | none=>simp[a]at h
 | some q=>
  simp[a]at h
  exact h.1.1
theorem b6x{n:Nd}{k:Nat}{r:OpR}(h:He n k=some r):SS n k=r.l:=by
 unfold SS
 rw[if_neg (by rw[d5s h];decide),h]
theorem DV(a b:List UInt8):(a==b)=decide (a=b):=by by_cases h:a=b <;> simp[h]
theorem Tp{α:Type}{l:List α}(h:l.length=2): ∃ a b,l=[a,b]:=by
 match l,h with
 | [a,b],_=>exact⟨a,b,rfl⟩
theorem b4u{n:Nd}{r:OpR}{x y:Int×Bool×List UInt8}(h:He n 2=some r):QN n [x,y]=V8 (decide (x.1<r.l)||(decide (x.1=3)&&decide (r.l=3))) x.2.2++[32]++r.s++[32]++V8 (decide (y.1<=r.l)) y.2.2:=by
 unfold QN
 rw[show [x,y].length=2 from rfl,h]
theorem d7s{n:Nd}{r:OpR}{x:Int×Bool×List UInt8}(h:He n 1=some r):QN n [x]=r.s++V8 (decide (x.1<6)||(decide (r.s=[45])&&x.2.1)) x.2.2:=by
 unfold QN
 rw[show [x].length=1 from rfl,h]
theorem b7s(N:Nat): ∀ x:Tm×Unit,((tW x.1&&Z9 x.1)&&decide (Z4 x.1<N+1))=true->Zd (Ou N) 0 (Za R4 (Zf (Zr x.1))) a0u [] (Zx d4q (encL x)):=by
 rintro⟨⟨n,ks⟩,⟨⟩⟩ h
 simp only[Bool.and_eq_true,decide_eq_true_eq]at h
 obtain⟨⟨A,m⟩,hd⟩:=h
 have A:tW (.mk n ks)=true:=A
 have m:Z9 (.mk n ks)=true:=m
 have hd:Z4 (.mk n ks)<N+1:=hd
 rw[Z4]at hd
 have hv:=Qw m
 have O:Vs ks<=1048576:=by have h1:KC (.mk n ks)<=1048576:=of_decide_eq_true A;rw[KC]at h1;omega
 have j:TxP N ks:=⟨O,hv.2,by omega⟩
 have B:=(ndB A).name
 have y:YJ n ks.length=true:=by
  have:=hv.1
  unfold WC at this
  simp only[Bool.and_eq_true]at this
  exact this.2
 have fin : ∀ s,s=QN n (Yv ks)->Zf (Zr (.mk n ks)) (.str s):=fun s hs=>Zh (x:=(⟨s⟩:Str)) (by rw[hs,Zr,ZM])
 rw[<- ZY]
 show Zd (Ou N) 0 (Za R4 (Zf (Zr (.mk n ks)))) _ _ _
 refine e3m N n ks ⟨Zc (.mk n ks,()) (ZY n ks) A,Zb (.mk n ks,()) (ZY n ks) ⟨Zc (.mk n ks,()) (ZY n ks) A,Zb (.mk n ks,()) (ZY n ks) ?_⟩⟩
 generalize Zf (Zr (.mk n ks))=G at fin ⊢
 have eo0:JE (.mk n ks)=F4 n ks.length:=rfl
 have el0:Wh (.mk n ks)=SS n ks.length:=rfl
 rw[show JE ((Tm.mk n ks,()):Tm×Unit).1=F4 n ks.length from rfl,show Wh ((Tm.mk n ks,()):Tm×Unit).1=SS n ks.length from rfl]
 cases ho:He n ks.length with
 | some r=>
  obtain⟨hm,M⟩:=FO ho
  have hr:=(Su ho).2
  have V:F4 n ks.length=((⟨r.s⟩,if r.u then 1 else 2):Str×Int):=by unfold F4;rw[ho]
  rw[V,b6x ho]
  cases hu:r.u with
  | false=>
   rw[hu]at M
   match ks,M with
   | [a,b],_=>
    have K:a∈[a,b]:=by simp
    have mb:b∈[a,b]:=by simp
    have ha:=j.kid K
    have hb:=j.kid mb
    have E:=j.len K
    have T:=j.len mb
    have e : ∀ f,(Xe (ZX n [a,b]) 0 f).length<=1153433594:=fun f=>by
     rw[JH];have:=Qe (!f) (ZM a);show(V8 (!f) (ZM a)).length<=_;omega
    have F : ∀ f,(Xe (ZX n [a,b]) 1 f).length<=1153433594:=fun f=>by
     rw[JH];have:=Qe (!f) (ZM b);show(V8 (!f) (ZM b)).length<=_;omega
    have z:Ps N (ZX n [a,b]) 0=true:=TV A m j.d (by omega) (by simp)
    have Q:Ps N (ZX n [a,b]) 1=true:=TV A m j.d (by omega) (by simp)
    have i : ∀ f g:Bool,(!f)=(decide (Wh a<r.l)||(decide (Wh a=3)&&decide (r.l=3)))->g=decide (Wh b>r.l)->Xe (ZX n [a,b]) 0 f++[32]++r.s++[32]++Xe (ZX n [a,b]) 1 g=QN n (Yv [a,b]):=fun f g S hg=>by
     rw[JH,JH]
     simp only[Yv]
     rw[b4u ho,S,hg]
     show V8 _ (ZM a)++[32]++r.s++[32]++V8 (!decide (Wh b>r.l)) (ZM b)=V8 _ (ZM a)++[32]++r.s++[32]++V8 (decide (Wh b<=r.l)) (ZM b)
     rw[show(!decide (Wh b>r.l))=decide (Wh b<=r.l)from by rw[<- decide_not];exact decide_eq_decide.2 (by omega)]
    refine ZN rfl ⟨rfl,a,rfl,Xy a,Zc (a,()) (Yb a) ha.1,Zb (a,()) (Yb a) ⟨rfl,b,rfl,Xy b,Zc (b,()) (Yb b) hb.1,Zb (b,()) (Yb b) (ZU (fun h1=>Aj (fun h2=> ?_) fun h2=> ?_) fun h1=> ?_)⟩⟩
    ·refine⟨z,Zz (e _) (show _<=8 by decide) (by omega),Zz (Zu (e _) (show _<=8 by decide)) hr (by omega),Zz (Zu (Zu (e _) (show _<=8 by decide)) hr) (show _<=8 by decide) (by omega),Q,Zz (Zu (Zu (Zu (e _) (show _<=8 by decide)) hr) (show _<=8 by decide)) (F _) (by omega),fin _ (i _ _ ?_ rfl)⟩
     have h1:Wh a ≥ r.l:=h1
     have h2:Wh a≠3:=h2
     simp[h2];omega
    ·refine⟨z,Zz (e _) (show _<=8 by decide) (by omega),Zz (Zu (e _) (show _<=8 by decide)) hr (by omega),Zz (Zu (Zu (e _) (show _<=8 by decide)) hr) (show _<=8 by decide) (by omega),Q,Zz (Zu (Zu (Zu (e _) (show _<=8 by decide)) hr) (show _<=8 by decide)) (F _) (by omega),fin _ (i _ _ ?_ rfl)⟩
     have h1:Wh a ≥ r.l:=h1
     have h2:Wh a=3:=h2
     rw[h2,decide_eq_false (show ¬ (3:Int)<r.l by omega)]
     by_cases h3:r.l=3
     ·rw[h3];rfl
     ·simp[h3]
    ·refine⟨z,Zz (e _) (show _<=8 by decide) (by omega),Zz (Zu (e _) (show _<=8 by decide)) hr (by omega),Zz (Zu (Zu (e _) (show _<=8 by decide)) hr) (show _<=8 by decide) (by omega),Q,Zz (Zu (Zu (Zu (e _) (show _<=8 by decide)) hr) (show _<=8 by decide)) (F _) (by omega),fin _ (i _ _ ?_ rfl)⟩
     have h1 : ¬ Wh a ≥ r.l:=h1
     rw[decide_eq_true (show Wh a<r.l by omega)];rfl
  | true=>
   rw[hu]at M
   match ks,M with
   | [a],_=>
    have K:a∈[a]:=by simp
    have ha:=j.kid K
    have E:=j.len K
    have e : ∀ f,(Xe (ZX n [a]) 0 f).length<=1153433594:=fun f=>by
     rw[JH];have:=Qe (!f) (ZM a);show(V8 (!f) (ZM a)).length<=_;omega
    have z:Ps N (ZX n [a]) 0=true:=TV A m j.d (by omega) (by simp)
    have i : ∀ f:Bool,(!f)=(decide (Wh a<6)||(decide (r.s=[45])&&Ai a))->r.s++Xe (ZX n [a]) 0 f=QN n (Yv [a]):=fun f S=>by
     rw[JH]
     simp only[Yv]
     rw[d7s ho,S]
     rfl
    have L:Wh a ≥ 6->decide (Wh a<6)=false:=fun h=>decide_eq_false (by omega)
    have D : ¬ Wh a ≥ 6->decide (Wh a<6)=true:=fun h=>decide_eq_true (by omega)
    refine ZV (by simp) (ZN rfl ⟨rfl,a,rfl,Xy a,?_⟩)
    rw[g2w,g1g,g2t]
    have nn : ¬ (a.nd.kind=2∧a.nd.name.s=Xb∧a.nd.num ≥ 0)->Ai a=false:=fun h=>by
     unfold Ai
     rw[Bool.and_eq_false_iff,Bool.and_eq_false_iff,decide_eq_false_iff_not,decide_eq_false_iff_not,decide_eq_false_iff_not]
     by_cases q1:a.nd.kind=2
     ·by_cases q2:a.nd.name.s=Xb
      ·exact .inr fun q3=>h ⟨q1,q2,q3⟩
      ·exact .inl (.inr q2)
     ·exact .inl (.inl q1)
    refine Zy (fun h2=>Zy (fun h3=>ZU (fun I=> ?_) fun I=> ?_) fun h3=> ?_) fun h2=> ?_
    ·have H:Ai a=true:=by unfold Ai;rw[decide_eq_true h2,decide_eq_true (show a.nd.name.s=Xb from h3),decide_eq_true I];rfl
     refine⟨Zc (a,()) (Yb a) ha.1,Zb (a,()) (Yb a) (ZU (fun k=>⟨z,Zz hr (e _) (by omega),fin _ (i _ ?_)⟩) fun k=>⟨z,Zz hr (e _) (by omega),fin _ (i _ ?_)⟩)⟩
     ·rw[L k,H];simp[DV]
     ·rw[D k];rfl
    ·have H:=nn fun x=>I x.2.2
     refine⟨Zc (a,()) (Yb a) ha.1,Zb (a,()) (Yb a) (ZU (fun k=>⟨z,Zz hr (e _) (by omega),fin _ (i _ ?_)⟩) fun k=>⟨z,Zz hr (e _) (by omega),fin _ (i _ ?_)⟩)⟩
     ·rw[L k,H];simp
     ·rw[D k];rfl
    ·have H:=nn fun x=>h3 x.2.1
     refine⟨Zc (a,()) (Yb a) ha.1,Zb (a,()) (Yb a) (ZU (fun k=>⟨z,Zz hr (e _) (by omega),fin _ (i _ ?_)⟩) fun k=>⟨z,Zz hr (e _) (by omega),fin _ (i _ ?_)⟩)⟩
     ·rw[L k,H];simp
     ·rw[D k];rfl
    ·have H:=nn fun x=>h2 x.1
     refine⟨Zc (a,()) (Yb a) ha.1,Zb (a,()) (Yb a) (ZU (fun k=>⟨z,Zz hr (e _) (by omega),fin _ (i _ ?_)⟩) fun k=>⟨z,Zz hr (e _) (by omega),fin _ (i _ ?_)⟩)⟩
     ·rw[L k,H];simp
     ·rw[D k];rfl
 | none=>
  have V:F4 n ks.length=((⟨[]⟩,0):Str×Int):=by unfold F4;rw[ho]
  have hn:QN n (Yv ks)=_:=MP (by rw[WH,List.length_map];exact ho)
  have et:(Yv ks).map (·.2.2)=ks.map ZM:=by rw[WH,List.map_map];rfl
  rw[et]at hn
  rw[hn]at fin
  rw[V]
  refine ZV (by simp) (ZV (by simp) (Zy (fun h=> ?_) fun Z=>Zy (fun h=> ?_) fun h2=>Zy (fun h=> ?_) fun h1=>Zy (fun h=> ?_) fun k=>Zy (fun h=> ?_) fun Y=>Zy (fun h=> ?_) fun X=>Zy (fun h=> ?_) fun h9=>Zy (fun h=> ?_) fun I=> ?_))
  ·-- let
   have q:nameI n.name.s=true∧ks.length=2:=by
    have:=y
    unfold YJ at this
    simp[h]at this
    exact⟨this.1.1.1.2,this.1.2⟩
   obtain⟨a,b,rfl⟩:=Tp q.2
   ·skip
    have ha:=j.kid (show a∈[a,b] by simp)
    have hb:=j.kid (show b∈[a,b] by simp)
    have E:(Zr a).s.length<=_:=j.len (show a∈[a,b] by simp)
    have T:(Zr b).s.length<=_:=j.len (show b∈[a,b] by simp)
    refine⟨Zz (show _<=8 by decide) B (by omega),Zz (Zu (show _<=8 by decide) B) (show _<=8 by decide) (by omega),rfl,a,rfl,Xy a,Zc (a,()) (Yb a) (Vl ha.1 ha.2.1 ha.2.2),Zb (a,()) (Yb a) ⟨Zz (Zu (Zu (show _<=8 by decide) B) (show _<=8 by decide)) E (by omega),Zz (Zu (Zu (Zu (show _<=8 by decide) B) (show _<=8 by decide)) E) (show _<=8 by decide) (by omega),rfl,b,rfl,Xy b,Zc (b,()) (Yb b) (Vl hb.1 hb.2.1 hb.2.2),Zb (b,()) (Yb b) ⟨Zz (Zu (Zu (Zu (Zu (show _<=8 by decide) B) (show _<=8 by decide)) E) (show _<=8 by decide)) T (by omega),fin _ ?_⟩⟩⟩
    simp[h,Yv,Zr]
  ·-- literals
   have q:UB n=true:=by
    have:=y
    unfold YJ at this
    simp[h]at this
    exact this.1.1.2
   exact⟨Zc (.mk n ks,()) (ZY n ks) q,Zb (.mk n ks,()) (ZY n ks) (fin _ (by simp[h,a1c,Tm.nd]))⟩
  ·exact fin _ (by simp[h])
  ·refine⟨Zc (.mk n ks,()) (ZY n ks) ?_,Zb (.mk n ks,()) (ZY n ks) (fin _ (by simp[h,Q3,Tm.nd,Tm.ks]))⟩
   show(tW (.mk n ks)&&Z9 (.mk n ks)&&decide (n.kind=6)&&decide (Yc ks<N))=true
   rw[A,m,decide_eq_true h,decide_eq_true j.d];rfl
  ·have hc:=j.com
   have W:=VT ks
   rw[<- W]at hc
   refine⟨Zc (ks,{},()) rfl j.pre,Zb (ks,{},()) rfl ⟨Zz (show _<=8 by decide) hc (by omega),Zz (Zu (show _<=8 by decide) hc) (show _<=8 by decide) (by omega),fin _ ?_⟩⟩
   simp[h,W]
  ·-- fold
   have q:Ci n.name.s=true∧ks.length=2:=by
    have:=y
    unfold YJ at this
    simp[h]at this
    exact⟨this.1.1.1.2,this.1.2⟩
   obtain⟨a,b,rfl⟩:=Tp q.2
   ·skip
    have ha:=j.kid (show a∈[a,b] by simp)
    have hb:=j.kid (show b∈[a,b] by simp)
    have E:=j.len (show a∈[a,b] by simp)
    have T:=j.len (show b∈[a,b] by simp)
    have C:(Yh [n.name,Zr a,Zr b]).s.length<=1099511620000:=Nat.le_trans (YW _) (by simp[Zr];omega)
    have P:YO [n.name,Zr a,Zr b]=true:=by
     show(decide (3<=1048576)&&decide ((Yh [n.name,Zr a,Zr b]).s.length<=1099511627776))=true
     rw[decide_eq_true (show(Yh [n.name,Zr a,Zr b]).s.length<=1099511627776 by omega)];rfl
    refine⟨rfl,a,rfl,Xy a,Zc (a,()) (Yb a) (Vl ha.1 ha.2.1 ha.2.2),Zb (a,()) (Yb a) ⟨rfl,b,rfl,Xy b,Zc (b,()) (Yb b) (Vl hb.1 hb.2.1 hb.2.2),Zb (b,()) (Yb b) ⟨Zc ([n.name,Zr a,Zr b],()) rfl P,Zb ([n.name,Zr a,Zr b],()) rfl ⟨Zz (show _<=8 by decide) C (by omega),Zz (Zu (show _<=8 by decide) C) (show _<=8 by decide) (by omega),fin _ ?_⟩⟩⟩⟩
    simp[h,Yh,Zr]
  ·-- scan
   have q:Ci n.name.s=true∧ks.length=1:=by
    have:=y
    unfold YJ at this
    simp[h]at this
    exact⟨this.1.1.1.2,this.1.2⟩
   obtain⟨a,rfl⟩:=List.length_eq_one_iff.1 q.2
   ·skip
    have ha:=j.kid (show a∈[a] by simp)
    have E:=j.len (show a∈[a] by simp)
    have C:(Yh [n.name,Zr a]).s.length<=1099511620000:=Nat.le_trans (YW _) (by simp[Zr];omega)
    have P:YO [n.name,Zr a]=true:=by
     show(decide (2<=1048576)&&decide ((Yh [n.name,Zr a]).s.length<=1099511627776))=true
     rw[decide_eq_true (show(Yh [n.name,Zr a]).s.length<=1099511627776 by omega)];rfl
    refine⟨rfl,a,rfl,Xy a,Zc (a,()) (Yb a) (Vl ha.1 ha.2.1 ha.2.2),Zb (a,()) (Yb a) ⟨Zc ([n.name,Zr a],()) rfl P,Zb ([n.name,Zr a],()) rfl ⟨Zz (show _<=8 by decide) C (by omega),Zz (Zu (show _<=8 by decide) C) (show _<=8 by decide) (by omega),fin _ ?_⟩⟩⟩
    simp[h,Yh,Zr]
  ·-- sizes
   have q:n.sizes.length=1∧n.sizes.all Zg=true:=by
    have:=y
    unfold YJ at this
    simp[h]at this
    exact⟨this.1.1.2,by rw[List.all_eq_true];exact this.1.2⟩
   obtain⟨l,hs⟩:=List.length_eq_one_iff.1 q.1
   have U:Zg l=true:=by
    have:=q.2
    rw[hs,List.all_eq_true]at this
    exact this l (by simp)
   have J:=Wv l
   refine⟨by rw[hs];rfl,l,by rw[hs];rfl,Zc (l,()) rfl (Ui U),Zb (l,()) rfl ⟨Zz (show _<=8 by decide) (show _<=1000 from J) (by omega),Zz (Zu (show _<=8 by decide) (show _<=1000 from J)) (show _<=8 by decide) (by omega),fin _ ?_⟩⟩
   simp[h,hs]
  ·have q:WF (UU n)=true:=by
    have:=y
    unfold YJ at this
    simp[h1,h2,I,Z,k,Y,X,h9]at this
    exact this.2.2
   refine⟨Zc (UU n,()) rfl ?_,Zb (UU n,()) rfl (fin _ ?_)⟩
   ·show(VF (UU n)&&WF (UU n))=true
    rw[FH A,q];rfl
   ·simp[h1,h2,I,Z,k,Y,X,h9,JO]
theorem Tk{N:Nat}{n:Nd}{ks:List Tm}(h:tW (.mk n ks)=true)(hd:Yc ks<N){k:Tm}(a:k∈ks):(fun x:Tm×Unit=>tW x.1&&decide (Z4 x.1<N)) (k,())=true:=by
 show(tW k&&decide (Z4 k<N))=true
 rw[(H7 h).2 k a,decide_eq_true (Nat.lt_of_le_of_lt (NV a) hd)];rfl
theorem Rb{a b:Nat}(h:a+b<=4611686018427387904):IntKind.i64.wrap ((a:Int)+(b:Int))=((a+b:Nat):Int):=by rw[IntKind.wrap_i64];omega
theorem b9s(N:Nat)(n:Nd)(ks:List Tm)(b:tW (.mk n ks)=true)(hd:Yc ks<N): ∀ (d i:Nat),d+i=ks.length ->
  At (A7 N) 0 (Za Gt (Zf ((Z4 (.mk n ks):Nat):Int))) Gs 0 22 [(1,.ptr 0 0),(3,.pv (.int .i64 (Yc (ks.take i):Nat))),(4,.pv (.int .i64 i))] [.obj (.box (ZX n ks))]:=by
 intro d
 induction d with
 | zero=>
  intro i hi
  rw[List.take_of_length_le (by omega)]
  refine b3g N n ks _ i (ZV (X7 (by omega)) (UK ?_))
  have:=a4z (.mk n ks)
  have:=TC b
  rw[Z4]at *
  exact next (by omega)
 | succ d ih=>
  intro i hi
  have a:i<ks.length:=by omega
  refine b3g N n ks _ i (ZN (XY a) ⟨Zt a rfl,ZK a ⟨Xy _,Zc (ks[i],()) (Yb _) (Tk b hd (List.getElem_mem a)),Zb (ks[i],()) (Yb _) ?_⟩⟩)
  rw[next (by have:=(H7 b).1;omega)]
  have h:=ih (i+1) (by omega)
  rw[Qk a,c3d]at h
  have e:(if true=true then if ((Z4 ks[i]:Nat):Int)>((Yc (ks.take i):Nat):Int)then((Z4 ks[i]:Nat):Int)else((Yc (ks.take i):Nat):Int)else if ((Z4 ks[i]:Nat):Int)<((Yc (ks.take i):Nat):Int)then((Z4 ks[i]:Nat):Int)else((Yc (ks.take i):Nat):Int))=((max (Yc (ks.take i)) (Z4 ks[i]):Nat):Int):=by
   rw[if_pos rfl]
   split <;> omega
  have h2:_:=h
  rw[<- e]at h2
  exact h2
theorem c5m(N:Nat): ∀ x:Tm×Unit,(tW x.1&&decide (Z4 x.1<N+1))=true->Zd (A7 N) 0 (Za Gt (Zf ((Z4 x.1:Nat):Int))) Gs [] (Zx e2k (encL x)):=by
 rintro⟨⟨n,ks⟩,⟨⟩⟩ h
 simp only[Bool.and_eq_true,decide_eq_true_eq]at h
 have hd:Z4 (.mk n ks)<N+1:=h.2
 rw[Z4]at hd
 rw[<- ZY]
 exact f1b N n ks (b9s N n ks h.1 (by omega) ks.length 0 (by omega))
theorem a7e(N:Nat)(n:Nd)(ks:List Tm)(b:tW (.mk n ks)=true)(hd:Yc ks<N): ∀ (d i:Nat),d+i=ks.length ->
  At (Gf N) 0 (Za Kz (Zf ((Yt (.mk n ks):Nat):Int))) KI 0 21 [(1,.ptr 0 0),(3,.pv (.int .i64 (ZZ (ks.take i)+1:Nat))),(4,.pv (.int .i64 i))] [.obj (.box (ZX n ks))]:=by
 intro d
 induction d with
 | zero=>
  intro i hi
  rw[List.take_of_length_le (by omega)]
  exact a4u N n ks _ i (ZV (X7 (by omega)) (UK (by rw[Yt])))
 | succ d ih=>
  intro i hi
  have a:i<ks.length:=by omega
  refine a4u N n ks _ i (ZN (XY a) ⟨Zt a rfl,ZK a ⟨Xy _,Zc (ks[i],()) (Yb _) (Tk b hd (List.getElem_mem a)),Zb (ks[i],()) (Yb _) ?_⟩⟩)
  have hs:=TC b
  rw[Yt]at hs
  have ht:=Sm ks (i+1)
  have h:=ih (i+1) (by omega)
  rw[Qk a,Ji]at h ht
  rw[next (by have:=(H7 b).1;omega)]
  have e:IntKind.wrap IntKind.i64 (((ZZ (ks.take i)+1:Nat):Int)+((Yt ks[i]:Nat):Int))=((ZZ (ks.take i)+Yt ks[i]+1:Nat):Int):=by rw[Rb (by omega)];congr 1;omega
  have h2:_:=h
  rw[<- e]at h2
  exact h2
theorem c1v(N:Nat): ∀ x:Tm×Unit,(tW x.1&&decide (Z4 x.1<N+1))=true->Zd (Gf N) 0 (Za Kz (Zf ((Yt x.1:Nat):Int))) KI [] (Zx c9x (encL x)):=by
 rintro⟨⟨n,ks⟩,⟨⟩⟩ h
 simp only[Bool.and_eq_true,decide_eq_true_eq]at h
 have hd:Z4 (.mk n ks)<N+1:=h.2
 rw[Z4]at hd
 rw[<- ZY]
 exact e5o N n ks (a7e N n ks h.1 (by omega) ks.length 0 (by omega))
def QP(n:Nd)(ks:List Tm)(i:Nat):List Tm:=.mk n ks::(ks.take i).flatMap XI
theorem c5d(n:Nd)(ks:List Tm)(i:Nat):(QP n ks i).length=ZZ (ks.take i)+1:=by unfold QP;rw[List.length_cons,L8]
theorem c0u(N:Nat)(n:Nd)(ks:List Tm)(b:tW (.mk n ks)=true)(hd:Yc ks<N): ∀ (d i:Nat),d+i=ks.length ->
  At (BS N) 0 (Za GK (Zf (XI (.mk n ks)))) Hw 0 23 [(1,.ptr 0 0),(3,.row 1 (QP n ks i).length 0 (QP n ks i).length),(4,.pv (.int .i64 i))] [.obj (.box (ZX n ks)),.obj (.row false 29 10 ((QP n ks i).map enc))]:=by
 intro d
 induction d with
 | zero=>
  intro i hi
  refine b2g N n ks _ i (QP n ks i) (ZV (X7 (by omega)) ⟨by simp,?_⟩)
  rw[List.drop_zero,List.take_of_length_le (by simp)]
  refine Zh (x:=QP n ks i) ?_
  unfold QP
  rw[List.take_of_length_le (by omega),e0z]
 | succ d ih=>
  intro i hi
  have a:i<ks.length:=by omega
  have hs:=TC b
  rw[Yt]at hs
  have ht:=Sm ks (i+1)
  rw[Qk a,Ji]at ht
  have g:(List.map (enc:Tm->PV) (XI ks[i])).length=Yt ks[i]:=by rw[List.length_map,PS]
  have hk:=c5d n ks i
  refine b2g N n ks _ i (QP n ks i) (ZN (XY a) ⟨Zt a rfl,ZK a ⟨Xy _,Zc (ks[i],()) (Yb _) (Tk b hd (List.getElem_mem a)),Zb (ks[i],()) (Yb _) ⟨?_,?_,?_⟩⟩⟩)
  ·show((List.map (enc:Tm->PV) (XI ks[i])).isEmpty||Enc.sz Tm==10)=true
   rw[show(Enc.sz Tm==10)=true from rfl,Bool.or_true]
  ·show(List.length (List.map (enc:Tm->PV) (QP n ks i))==(QP n ks i).length&&(QP n ks i).length==(QP n ks i).length&&decide (((QP n ks i).length+(List.map (enc:Tm->PV) (XI ks[i])).length)*176<=1099511627776)&&decide ((QP n ks i).length+(List.map (enc:Tm->PV) (XI ks[i])).length<=1099511627776))=true
   rw[List.length_map,g,decide_eq_true (by omega),decide_eq_true (by omega)];simp
  ·rw[next (by have:=(H7 b).1;omega)]
   have h:=ih (i+1) (by omega)
   have e:QP n ks (i+1)=QP n ks i++XI ks[i]:=by unfold QP;rw[Qk a,List.flatMap_append,List.flatMap_cons,List.flatMap_nil,List.append_nil];rfl
   rw[e,List.map_append,List.length_append,<- show(List.map (enc:Tm->PV) (XI ks[i])).length=(XI ks[i]).length from List.length_map _]at h
   exact h
theorem d1b(N:Nat): ∀ x:Tm×Unit,(tW x.1&&decide (Z4 x.1<N+1))=true->Zd (BS N) 0 (Za GK (Zf (XI x.1))) Hw [] (Zx e5b (encL x)):=by
 rintro⟨⟨n,ks⟩,⟨⟩⟩ h
 simp only[Bool.and_eq_true,decide_eq_true_eq]at h
 have hd:Z4 (.mk n ks)<N+1:=h.2
 rw[Z4]at hd
 rw[<- ZY]
 refine f3l N n ks ?_
 have:=c0u N n ks h.1 (by omega) ks.length 0 (by omega)
 rw[show QP n ks 0=[.mk n ks]from rfl]at this
 rw[ZY]
 exact this
theorem zs7(t:Tm):(decide (0+List.length [Sh.sl 2]<=List.length (List.drop 7 (PV.cells (enc t))))&&YV (List.drop 7 (PV.cells (enc t))) 0 [Sh.sl 2])=true:=by obtain⟨n,ks⟩:=t;rw[YZ];rfl
theorem zv7(t:Tm):PV.asXs (List.getD (List.drop 7 (PV.cells (enc t))) 0 default)=t.nd.sizes.map enc:=by obtain⟨n,ks⟩:=t;rw[YZ];rfl
theorem c3s(l:Lin):(decide (0+List.length [Sh.sl 2]<=List.length (List.drop 1 (PV.cells (enc l))))&&YV (List.drop 1 (PV.cells (enc l))) 0 [Sh.sl 2])=true:=rfl
theorem a7k(l:Lin):PV.asXs (List.getD (List.drop 1 (PV.cells (enc l))) 0 default)=l.t.map enc:=rfl
theorem e2m{t x:Tm}(h:tW t=true)(a:x∈XI t):tW x=true:=by
 unfold XI at a
 obtain⟨p,b,rfl⟩:=List.mem_map.1 a
 exact CP h b
theorem f5m: ∀ x:Str×Unit,true=true->Zd g3x 0 (Za e9a (Zf (vT x.1))) e9b [] (Zx f9e (encL x)):=by
 rintro⟨⟨s⟩,⟨⟩⟩ _
 exact g4k s ⟨by simp,by simp[vT,nd0]⟩
theorem c3f: ∀ x:Str×List Tm×Unit,true=true->Zd b3d 0 (Za a4m (Zf (cT x.1 x.2.1))) a3d [] (Zx d7z (encL x)):=by
 rintro⟨⟨s⟩,l,⟨⟩⟩ _
 refine e1l s l ⟨?_,?_⟩
 ·have:is (List Tm) (.sl 10 false (l.map enc))=true:=Enc.is_enc l
  simp[this]
 ·have h:is (List Tm) (.sl 10 false (l.map enc))=true:=Enc.is_enc l
  have h2:(dec (.sl 10 false (l.map enc)):List Tm)=l:=Enc.dec_enc l
  rw[d2b _ _ _ _ _ _ _ _ _ _ h,h2]
  simp[cT,nd0]
theorem c6b(a b:Tm):(List.all [enc a,enc b] fun(x:PV)=>List.length (PV.cells x)==10&&PV.cellsOk x)=true:=by
 obtain⟨n,ks⟩:=a
 obtain⟨m,ls⟩:=b
 rw[YZ,YZ];rfl
theorem a7q: ∀ x:Unit,true=true->Zd a4a 0 (Za Ld (Zf true)) Lx [] (Zx c3l (encL x)):=by
 rintro⟨⟩ _
 refine c5n (Zb ((⟨[97]⟩:Str),()) rfl (Zb ((⟨[98]⟩:Str),()) rfl ⟨cT ⟨[110,101,103]⟩ [nT 5],by kernel_rfl,c6b _ _,Zc ((⟨[115,117,98]⟩:Str),[vT ⟨[98]⟩,cT ⟨[110,101,103]⟩ [nT 5]],()) rfl rfl,Zb ((⟨[115,117,98]⟩:Str),[vT ⟨[98]⟩,cT ⟨[110,101,103]⟩ [nT 5]],()) rfl ⟨c6b _ _,Zc ((⟨[115,117,98]⟩:Str),[vT ⟨[97]⟩,cT ⟨[115,117,98]⟩ [vT ⟨[98]⟩,cT ⟨[110,101,103]⟩ [nT 5]]],()) rfl rfl,Zb ((⟨[115,117,98]⟩:Str),[vT ⟨[97]⟩,cT ⟨[115,117,98]⟩ [vT ⟨[98]⟩,cT ⟨[110,101,103]⟩ [nT 5]]],()) rfl ⟨Zc (ex1,()) rfl g3a,Zb (ex1,()) rfl ?_⟩⟩⟩))
 rw[show Ko ((ex1,()):Tm×Unit).1=(⟨tx1⟩,0)from c9a]
 refine Zb ((⟨[97]⟩:Str),()) rfl (Zb ((⟨[98]⟩:Str),()) rfl ⟨c6b _ _,Zc ((⟨[97,100,100]⟩:Str),[vT ⟨[97]⟩,vT ⟨[98]⟩],()) rfl rfl,Zb ((⟨[97,100,100]⟩:Str),[vT ⟨[97]⟩,vT ⟨[98]⟩],()) rfl ⟨by kernel_rfl,by kernel_rfl,ex2,by kernel_rfl,Zc (ex2,()) rfl g2c,Zb (ex2,()) rfl ?_⟩⟩)
 rw[show Ko ((ex2,()):Tm×Unit).1=(⟨tx2⟩,0)from c5f]
 exact ZN rfl (ZN rfl (ZN rfl (Zl rfl)))
end Go.Pl
namespace Go.Pl
open Go.RowKit
open Enc (enc dec is)
open EncL (encL decL isL)
set_option maxRecDepth 100000
noncomputable def a6r:IC:=YR Proofs.Tryz.f84
def a9l:List IRes:=[(.tmp 2)]
abbrev f0o:Nat:=4
def c5s:ZB:=Yi []
theorem g2a{G:AV×List AObj×List AObj->Prop}(es:List (PV×PV))(h:G (((.fn 124 [] [(.ptr 1 0)]),([(.map es)],[(.box [(.map 0)])])))):Zd c5s 1 (Xw 1 a9l G) a6r [] (UZ 4 [.map 0] [.map es]):=Zd.to (.nil) h
noncomputable def Ri:IC:=icx P9 Proofs.Tryz.f51
def Am:List IRes:=[(.tmp 2)]
abbrev f2w:Nat:=36
def Be:ZB:=Yi [(81,.own V7 (QS 116)),(84,.own Gj (CQ 124)),(83,.own (Q4 124) Jb)]
theorem g2s{G:PV->Prop}(E:Vq)(n:Nd)(ks:List Tm)(h:(V7 [(.pv (.agg [(.int .i64 (Nd.kind n)),(.int .i64 (Nd.line n)),(.str (Str.s (Nd.name n))),(.int .i64 (Nd.num n)),(.str (Str.s (Nd.elem n))),(.sl 1 false (List.map enc (Nd.dims n))),(.sl 1 false (List.map enc (Nd.data n))),(.sl 2 false (List.map enc (Nd.sizes n))),(.sl 1 false (List.map enc (Nd.ranks n))),(.sl 10 false (List.map enc ks))]))] [])=true∧(E 0 ⟨Xp 36 0 [(3,(.ptr 0 0)),(4,.undef),(6,.undef),(8,.undef),(11,(.fn 116 [] [(.ptr 1 0)])),(12,.undef),(14,.undef),(15,.undef),(16,.undef),(17,.undef),(18,.undef),(19,.undef),(20,.undef),(21,.undef),(22,.undef),(23,.undef),(24,.undef),(25,.undef),(26,.undef),(27,.undef),(28,.undef),(29,.undef),(30,.undef),(31,.undef),(32,.undef)],[(.obj (.box [(.map 2)])),(.obj (.box [(.pv (.int .i64 (Nd.kind n))),(.pv (.int .i64 (Nd.line n))),(.pv (.str (Str.s (Nd.name n)))),(.pv (.int .i64 (Nd.num n))),(.pv (.str (Str.s (Nd.elem n)))),(.pv (.sl 1 false (List.map enc (Nd.dims n)))),(.pv (.sl 1 false (List.map enc (Nd.data n)))),(.pv (.sl 2 false (List.map enc (Nd.sizes n)))),(.pv (.sl 1 false (List.map enc (Nd.ranks n)))),(.pv (.sl 10 false (List.map enc ks)))])),(.obj (.map []))]⟩ (fun x a=>AfX Be E 0 (Za Am G) Ri 0 x a))):Xc Be E 0 (Za Am G) (.inl Ri) [] (Zx 36 [.agg [enc n.kind,enc n.line,enc n.name,enc n.num,enc n.elem,enc n.dims,enc n.data,enc n.sizes,enc n.ranks,enc ks]]):=Xc.mp (.req (.keep (.nil))) h
theorem f7g{G:PV->Prop}(E:Vq)(n:Nd)(ks:List Tm)(m:List Str)(h:(Q4 124 [(.fn 124 [] [(.ptr 0 0)])] [(.box [(.map 1)]),(.map (JW m))])=true∧(G ((.sl 1 false (List.map PV.str (W9 (List.map Jo (JW m)))))))):AfX Be E 0 (Za Am G) Ri 0 .normal ⟨Xp 36 0 [(3,.ptr 0 0)],[.obj (.box [.map 1]),.obj (.map (JW m))]⟩:=Xc.mp (.lit (.keep (.req (.keep (.nil))))) h
def Rf:IC:=(.reg [Z5 4 (.alloc (.agg [(.int .i64 0),(.int .i64 0),(.str []),(.int .i64 0),(.str []),(.sl 0 true []),(.sl 0 true []),(.sl 0 true []),(.sl 0 true []),(.sl 0 true [])])) 0,o'' (.store 10 (.t 4) (.t 12)) 1] none)
def e8b:ZB:=Yi [(81,.own V7 (QS 116)),(84,.own Gj (CQ 124)),(83,.own (Q4 124) Jb)]
theorem f2h{G:ZE->Prop}(E:Vq)(n:Nd)(ks:List Tm)(m:List Str)(v:Int)(h:E 99 ⟨Xp 36 0 [(3,(.ptr 0 0)),(4,(.ptr 2 0))],[(.obj (.box [(.map 1)])),(.obj (.map (JW m))),(.obj (.box [(.pv (.int .i64 (Nd.kind n))),(.pv (.int .i64 (Nd.line n))),(.pv (.str (Str.s (Nd.name n)))),(.pv (.int .i64 (Nd.num n))),(.pv (.str (Str.s (Nd.elem n)))),(.pv (.sl 1 false (List.map enc (Nd.dims n)))),(.pv (.sl 1 false (List.map enc (Nd.data n)))),(.pv (.sl 2 false (List.map enc (Nd.sizes n)))),(.pv (.sl 1 false (List.map enc (Nd.ranks n)))),(.pv (.sl 10 false (List.map enc ks)))]))]⟩ (fun x a=>AfX e8b E 2 (fun st=>G st.heap) Rf 99 x a)):Xc e8b E 2 (fun st=>G st.heap) (.inl Rf) [.seq (.ext 99 [3,4])] ⟨Xp 36 0 [(3,.ptr 0 0),(12,.pv (.agg [enc n.kind,enc n.line,enc n.name,enc n.num,enc n.elem,enc n.dims,enc n.data,enc n.sizes,enc n.ranks,enc ks])),(13,.pv (.int .i64 v))],[.obj (.box [.map 1]),.obj (.map (JW m))]⟩:=Xc.mh (.nil) h
def Vt:IC:=(.block 1 (Uc [Z5 14 (.faddr 7 (.t 4)) 0,Z5 15 (l'' [(.sl 2)] (.t 14)) 0,Z5 16 (.len 1 (.t 15)) 0,Z5 17 (.mv (WY 0)) 0] (.block 2 (.loop [17,16,15,3] (Uc [Z5 18 (DZ .lss (.t 17) (.t 16)) 0] (.seq (.cond (.t 18) .skip (.exit 2)) (.seq (.block 3 (Uc [Z5 19 (.iaddr 2 (.t 15) (.t 17)) 0,Z5 20 (.load true [(.int .i64),(.sl 2)] (.t 19)) 0,Z5 6 (.alloc (.agg [(.int .i64 0),(.sl 0 true [])])) 0,o'' (.store 2 (.t 6) (.t 20)) 1] (Uc [Z5 21 (.faddr 1 (.t 6)) 0,Z5 22 (l'' [(.sl 2)] (.t 21)) 0,Z5 23 (.len 1 (.t 22)) 0,Z5 24 (.mv (WY 0)) 0] (.block 4 (.loop [24,23,22,3,17,16,15] (Uc [Z5 25 (DZ .lss (.t 24) (.t 23)) 0] (.seq (.cond (.t 25) .skip (.exit 4)) (.seq (.block 5 (Uc [Z5 26 (.iaddr 2 (.t 22) (.t 24)) 0,Z5 27 (.load true [.str,(.int .i64)] (.t 26)) 0,Z5 8 (.alloc (.agg [(.str []),(.int .i64 0)])) 0,o'' (.store 2 (.t 8) (.t 27)) 1] (.reg [Z5 28 (.load false [.any] (.t 3)) 0,Z5 29 (.faddr 0 (.t 8)) 0,Z5 30 (.load false [.str] (.t 29)) 0,o'' (.mapupd true (.t 28) (.t 30) (.c (.bool true))) 0] none))) (.reg [Z5 31 (DZ .add (.t 24) (WY 1)) 0,Z5 24 (VD 31) 0] none))))))))) (.reg [Z5 32 (DZ .add (.t 17) (WY 1)) 0,Z5 17 (VD 32) 0] none))))))))
def JI:ZB:=Yi [(81,.own V7 (QS 116)),(84,.own Gj (CQ 124)),(83,.own (Q4 124) Jb)]
theorem c4x{G:ZE->Prop}(E:Vq)(n:Nd)(ks:List Tm)(m:List Str)(i:Int)(h:if (decide (i<(↑(List.length (Nd.sizes n)):Int)))=true then(Xv (Nd.sizes n) i 2 fun a=>(AtS [.seq (.ext 99 [])] JI E 3 (fun st=>G st.heap) Vt 1 36 [(3,(.ptr 0 0)),(15,(.pv (.sl 2 false (List.map enc (Nd.sizes n))))),(16,(.pv (.int .i64 (↑(List.length (Nd.sizes n)):Int)))),(17,(.pv (.int .i64 i))),(22,(.pv (.sl 2 false (PV.asXs (SK a))))),(23,(.pv (.int .i64 (↑(List.length (PV.asXs (SK a))):Int)))),(24,(.pv (.int .i64 0)))] [(.obj (.box [(.map 1)])),(.obj (.map (JW m))),(.obj (.box [(.pv (.int .i64 (Nd.kind n))),(.pv (.int .i64 (Nd.line n))),(.pv (.str (Str.s (Nd.name n)))),(.pv (.int .i64 (Nd.num n))),(.pv (.str (Str.s (Nd.elem n)))),(.pv (.sl 1 false (List.map enc (Nd.dims n)))),(.pv (.sl 1 false (List.map enc (Nd.data n)))),(.pv (.sl 2 false (List.map enc (Nd.sizes n)))),(.pv (.sl 1 false (List.map enc (Nd.ranks n)))),(.pv (.sl 10 false (List.map enc ks)))]))]))else(E 99 ⟨Xp 36 0 [],[(.obj (.box [(.map 1)])),(.obj (.map (JW m))),(.obj (.box [(.pv (.int .i64 (Nd.kind n))),(.pv (.int .i64 (Nd.line n))),(.pv (.str (Str.s (Nd.name n)))),(.pv (.int .i64 (Nd.num n))),(.pv (.str (Str.s (Nd.elem n)))),(.pv (.sl 1 false (List.map enc (Nd.dims n)))),(.pv (.sl 1 false (List.map enc (Nd.data n)))),(.pv (.sl 2 false (List.map enc (Nd.sizes n)))),(.pv (.sl 1 false (List.map enc (Nd.ranks n)))),(.pv (.sl 10 false (List.map enc ks)))]))]⟩ (fun x b=>AfX JI E 3 (fun st=>G st.heap) Vt 99 x b))):AtS [.seq (.ext 99 [])] JI E 3 (fun st=>G st.heap) Vt 0 36 [(3,.ptr 0 0),(15,.pv (enc n.sizes)),(16,.pv (.int .i64 n.sizes.length)),(17,.pv (.int .i64 i))] [.obj (.box [.map 1]),.obj (.map (JW m)),.obj (.box [.pv (enc n.kind),.pv (enc n.line),.pv (enc n.name),.pv (enc n.num),.pv (enc n.elem),.pv (enc n.dims),.pv (enc n.data),.pv (enc n.sizes),.pv (enc n.ranks),.pv (enc ks)])]:=Xc.mh (dm [dr Lin] 11 0x25100442) h
theorem d7b{G:ZE->Prop}(E:Vq)(n:Nd)(ks:List Tm)(m:List Str)(i j:Int)(l:Lin)(h:if (decide (j<(↑(List.length l.t):Int)))=true then(Xv l.t j 2 fun a=>((b4r (Sh.co Sh.str (VC a)) (PV.bool true) (JW m))=true∧(AtS [.seq (.ext 99 [])] JI E 3 (fun st=>G st.heap) Vt 1 36 [(3,(.ptr 0 0)),(15,(.pv (.sl 2 false (List.map enc (Nd.sizes n))))),(16,(.pv (.int .i64 (↑(List.length (Nd.sizes n)):Int)))),(17,(.pv (.int .i64 i))),(22,(.pv (.sl 2 false (List.map enc l.t)))),(23,(.pv (.int .i64 (↑(List.length l.t):Int)))),(24,(.pv (.int .i64 (IntKind.wrap IntKind.i64 (j+1)))))] [(.obj (.box [(.map 1)])),(.obj (.map (a8o (Sh.co Sh.str (VC a)) (PV.bool true) (JW m)))),(.obj (.box [(.pv (.int .i64 (Nd.kind n))),(.pv (.int .i64 (Nd.line n))),(.pv (.str (Str.s (Nd.name n)))),(.pv (.int .i64 (Nd.num n))),(.pv (.str (Str.s (Nd.elem n)))),(.pv (.sl 1 false (List.map enc (Nd.dims n)))),(.pv (.sl 1 false (List.map enc (Nd.data n)))),(.pv (.sl 2 false (List.map enc (Nd.sizes n)))),(.pv (.sl 1 false (List.map enc (Nd.ranks n)))),(.pv (.sl 10 false (List.map enc ks)))]))])))else(AtS [.seq (.ext 99 [])] JI E 3 (fun st=>G st.heap) Vt 0 36 [(3,(.ptr 0 0)),(15,(.pv (.sl 2 false (List.map enc (Nd.sizes n))))),(16,(.pv (.int .i64 (↑(List.length (Nd.sizes n)):Int)))),(17,(.pv (.int .i64 (IntKind.wrap IntKind.i64 (i+1)))))] [(.obj (.box [(.map 1)])),(.obj (.map (JW m))),(.obj (.box [(.pv (.int .i64 (Nd.kind n))),(.pv (.int .i64 (Nd.line n))),(.pv (.str (Str.s (Nd.name n)))),(.pv (.int .i64 (Nd.num n))),(.pv (.str (Str.s (Nd.elem n)))),(.pv (.sl 1 false (List.map enc (Nd.dims n)))),(.pv (.sl 1 false (List.map enc (Nd.data n)))),(.pv (.sl 2 false (List.map enc (Nd.sizes n)))),(.pv (.sl 1 false (List.map enc (Nd.ranks n)))),(.pv (.sl 10 false (List.map enc ks)))]))])):AtS [.seq (.ext 99 [])] JI E 3 (fun st=>G st.heap) Vt 1 36 [(3,.ptr 0 0),(15,.pv (enc n.sizes)),(16,.pv (.int .i64 n.sizes.length)),(17,.pv (.int .i64 i)),(22,.pv (enc l.t)),(23,.pv (.int .i64 l.t.length)),(24,.pv (.int .i64 j))] [.obj (.box [.map 1]),.obj (.map (JW m)),.obj (.box [.pv (enc n.kind),.pv (enc n.line),.pv (enc n.name),.pv (enc n.num),.pv (enc n.elem),.pv (enc n.dims),.pv (enc n.data),.pv (enc n.sizes),.pv (enc n.ranks),.pv (enc ks)])]:=Xc.mh (dm [dr Coef] 14 0x202125100642) h
theorem f7n{G:ZE->Prop}(E:Vq)(n:Nd)(ks:List Tm)(m:List Str)(h:AtS [.seq (.ext 99 [])] JI E 3 (fun st=>G st.heap) Vt 0 36 [(3,(.ptr 0 0)),(15,(.pv (.sl 2 false (List.map enc (Nd.sizes n))))),(16,(.pv (.int .i64 (↑(List.length (List.map enc (Nd.sizes n))):Int)))),(17,(.pv (.int .i64 0)))] [(.obj (.box [(.map 1)])),(.obj (.map (JW m))),(.obj (.box [(.pv (.int .i64 (Nd.kind n))),(.pv (.int .i64 (Nd.line n))),(.pv (.str (Str.s (Nd.name n)))),(.pv (.int .i64 (Nd.num n))),(.pv (.str (Str.s (Nd.elem n)))),(.pv (.sl 1 false (List.map enc (Nd.dims n)))),(.pv (.sl 1 false (List.map enc (Nd.data n)))),(.pv (.sl 2 false (List.map enc (Nd.sizes n)))),(.pv (.sl 1 false (List.map enc (Nd.ranks n)))),(.pv (.sl 10 false (List.map enc ks)))]))]):Xc JI E 3 (fun st=>G st.heap) (.inl Vt) [.seq (.ext 99 [])] ⟨Xp 36 0 [(3,.ptr 0 0),(4,.ptr 2 0)],[.obj (.box [.map 1]),.obj (.map (JW m)),.obj (.box [.pv (enc n.kind),.pv (enc n.line),.pv (enc n.name),.pv (enc n.num),.pv (enc n.elem),.pv (enc n.dims),.pv (enc n.data),.pv (enc n.sizes),.pv (enc n.ranks),.pv (enc ks)])]⟩:=Xc.mh (.nil) h
end Go.Pl
namespace Go.Pl
open Go.RowKit
open Enc (enc dec is)
open EncL (encL decL isL)
set_option maxRecDepth 100000
abbrev g0z(ps:List PV)(k:Bool->Prop):Prop:=Yn (fun(x:Tm×Unit)=>tW (Prod.fst x)) (fun(x:Tm×Unit)=>Hq (Prod.fst x)) ps k
noncomputable def FK:IC:=YR Proofs.Tryz.f81
def Og:List IRes:=[(.tmp 2)]
abbrev e2h:Nat:=4
def b2b:ZB:=Yi []
theorem f2f{G:AV×List AObj×List AObj->Prop}(n:Nd)(ks:List Tm)(h:G (((.fn 116 [] [(.ptr 0 0)]),([],[(.box [(.pv (.int .i64 (Nd.kind n))),(.pv (.int .i64 (Nd.line n))),(.pv (.str (Str.s (Nd.name n)))),(.pv (.int .i64 (Nd.num n))),(.pv (.str (Str.s (Nd.elem n)))),(.pv (.sl 1 false (List.map enc (Nd.dims n)))),(.pv (.sl 1 false (List.map enc (Nd.data n)))),(.pv (.sl 2 false (List.map enc (Nd.sizes n)))),(.pv (.sl 1 false (List.map enc (Nd.ranks n)))),(.pv (.sl 10 false (List.map enc ks)))])])))):Zd b2b 0 (Xw 0 Og G) FK [] (UZ 4 [.pv (.agg [enc n.kind,enc n.line,enc n.name,enc n.num,enc n.elem,enc n.dims,enc n.data,enc n.sizes,enc n.ranks,enc ks])] []):=Zd.to (.nil) h
noncomputable def Aw:IC:=icx P9 Proofs.Tryz.f50
def Dq:List IRes:=[(.cell false 1 2)]
abbrev f7q:Nat:=23
def GV:ZB:=Yi [(81,.own V7 (QS 116)),(82,.pure (preT (fun x:Tm×Unit=>tW x.1)) (Zi (fun x:Tm×Unit=>Hq x.1)))]
theorem g3r{G:PV->Prop}(E:Vq)(n:Nd)(ks:List Tm)(h:(V7 [(.pv (.agg [(.int .i64 (Nd.kind n)),(.int .i64 (Nd.line n)),(.str (Str.s (Nd.name n))),(.int .i64 (Nd.num n)),(.str (Str.s (Nd.elem n))),(.sl 1 false (List.map enc (Nd.dims n))),(.sl 1 false (List.map enc (Nd.data n))),(.sl 2 false (List.map enc (Nd.sizes n))),(.sl 1 false (List.map enc (Nd.ranks n))),(.sl 10 false (List.map enc ks))]))] [])=true∧(E 0 ⟨Xp 23 0 [(2,(.ptr 0 0)),(3,(.ptr 1 0)),(4,.undef),(5,.undef),(7,(.fn 116 [] [(.ptr 2 0)])),(8,.undef),(9,.undef),(10,.undef),(11,.undef),(12,.undef),(13,.undef),(14,.undef),(15,.undef),(16,.undef),(17,.undef),(18,.undef),(19,.undef),(20,.undef),(21,.undef),(22,.undef)],[(.obj (.box [(.pv (.bool false))])),(.obj (.box [(.pv (.int .i64 0))])),(.obj (.box [(.pv (.int .i64 (Nd.kind n))),(.pv (.int .i64 (Nd.line n))),(.pv (.str (Str.s (Nd.name n)))),(.pv (.int .i64 (Nd.num n))),(.pv (.str (Str.s (Nd.elem n)))),(.pv (.sl 1 false (List.map enc (Nd.dims n)))),(.pv (.sl 1 false (List.map enc (Nd.data n)))),(.pv (.sl 2 false (List.map enc (Nd.sizes n)))),(.pv (.sl 1 false (List.map enc (Nd.ranks n)))),(.pv (.sl 10 false (List.map enc ks)))]))]⟩ (fun x a=>AfX GV E 0 (Za Dq G) Aw 0 x a))):Xc GV E 0 (Za Dq G) (.inl Aw) [] (Zx 23 [.agg [enc n.kind,enc n.line,enc n.name,enc n.num,enc n.elem,enc n.dims,enc n.data,enc n.sizes,enc n.ranks,enc ks]]):=Xc.mp (.req (.keep (.nil))) h
theorem f4d{G:PV->Prop}(E:Vq)(n:Nd)(ks:List Tm)(c:Int)(h:G ((.bool true))):AfX GV E 0 (Za Dq G) Aw 0 .normal ⟨Xp 23 0 [(2,.ptr 0 0),(3,.ptr 1 0)],[.obj (.box [.pv (.bool false)]),.obj (.box [.pv (.int .i64 c)])]⟩:=Xc.mp (.nil) h
theorem e6d{G:PV->Prop}(E:Vq)(n:Nd)(ks:List Tm)(c:Int)(rest:List Slot)(h:G ((.bool false))):AfX GV E 0 (Za Dq G) Aw 0 .ret ⟨Xp 23 0 [(2,.ptr 0 0),(3,.ptr 1 0)],(.obj (.box [.pv (.bool false)]):: .obj (.box [.pv (.int .i64 c)])::rest)⟩:=Xc.mp (.nil) h
def R8:IC:=(Uc [Z5 4 (.alloc (.agg [(.int .i64 0),(.int .i64 0),(.str []),(.int .i64 0),(.str []),(.sl 0 true []),(.sl 0 true []),(.sl 0 true []),(.sl 0 true []),(.sl 0 true [])])) 0,o'' (.store 10 (.t 4) (.t 8)) 1] (.reg [Z5 5 (VD 9) 0] none))
def e8s:ZB:=Yi [(81,.own V7 (QS 116)),(82,.pure (preT (fun x:Tm×Unit=>tW x.1)) (Zi (fun x:Tm×Unit=>Hq x.1)))]
theorem f5q{G:ZE->Prop}(E:Vq)(n:Nd)(ks:List Tm)(c v:Int)(h:E 99 ⟨Xp 23 0 [(2,(.ptr 0 0)),(3,(.ptr 1 0)),(4,(.ptr 2 0)),(5,(.pv (.int .i64 v)))],[(.obj (.box [(.pv (.bool false))])),(.obj (.box [(.pv (.int .i64 c))])),(.obj (.box [(.pv (.int .i64 (Nd.kind n))),(.pv (.int .i64 (Nd.line n))),(.pv (.str (Str.s (Nd.name n)))),(.pv (.int .i64 (Nd.num n))),(.pv (.str (Str.s (Nd.elem n)))),(.pv (.sl 1 false (List.map enc (Nd.dims n)))),(.pv (.sl 1 false (List.map enc (Nd.data n)))),(.pv (.sl 2 false (List.map enc (Nd.sizes n)))),(.pv (.sl 1 false (List.map enc (Nd.ranks n)))),(.pv (.sl 10 false (List.map enc ks)))]))]⟩ (fun x a=>AfX e8s E 2 (fun st=>G st.heap) R8 99 x a)):Xc e8s E 2 (fun st=>G st.heap) (.inl R8) [.seq (.ext 99 [2,3,4,5])] ⟨Xp 23 0 [(2,.ptr 0 0),(3,.ptr 1 0),(8,.pv (.agg [enc n.kind,enc n.line,enc n.name,enc n.num,enc n.elem,enc n.dims,enc n.data,enc n.sizes,enc n.ranks,enc ks])),(9,.pv (.int .i64 v))],[.obj (.box [.pv (.bool false)]),.obj (.box [.pv (.int .i64 c)])]⟩:=Xc.mh (.nil) h
def TQ:IC:=(.block 1 (Uc [Z5 10 (l'' [(.int .i64)] (.t 3)) 0,Z5 11 (DZ .add (.t 10) (WY 1)) 0,o'' (.store 1 (.t 3) (.t 11)) 0] (Uc [Z5 12 (l'' [(.int .i64)] (.t 3)) 0,Z5 13 (DZ .gtr (.t 12) (WY 400)) 0,Z5 14 (VD 13) 0,ET 15 (VD 5) 0 14,ET 16 (DZ .gtr (.t 15) (WY 40)) 0 14,Z5 17 (.pick (.t 14) (.c (.bool true)) (.t 16)) 0,Z5 18 (VD 17) 0,ET 19 (.load true [(.int .i64),(.int .i64),.str,(.int .i64),.str,(.sl 1),(.sl 1),(.sl 2),(.sl 1),(.sl 10)] (.t 4)) 0 18,ET 20 (c'' 82 [(.t 19)]) 0 18,ET 21 (.un .not (.t 20)) 2 18,Z5 22 (.pick (.t 18) (.c (.bool true)) (.t 21)) 2] (.cond (.t 22) (Uc [o'' (.store 1 (.t 2) (.c (.bool false))) 0] .ret) .skip))))
def e8c:ZB:=Yi [(81,.own V7 (QS 116)),(82,.pure (preT (fun x:Tm×Unit=>tW x.1)) (Zi (fun x:Tm×Unit=>Hq x.1)))]
theorem f1q{G:ZE->Prop}(E:Vq)(n:Nd)(ks:List Tm)(c v:Int)(h:if (decide (IntKind.wrap IntKind.i64 (c+1)>400))=true then G ([(.obj (.box [(.pv (.bool false))])),(.obj (.box [(.pv (.int .i64 (IntKind.wrap IntKind.i64 (c+1))))])),(.obj (.box [(.pv (.int .i64 (Nd.kind n))),(.pv (.int .i64 (Nd.line n))),(.pv (.str (Str.s (Nd.name n)))),(.pv (.int .i64 (Nd.num n))),(.pv (.str (Str.s (Nd.elem n)))),(.pv (.sl 1 false (List.map enc (Nd.dims n)))),(.pv (.sl 1 false (List.map enc (Nd.data n)))),(.pv (.sl 2 false (List.map enc (Nd.sizes n)))),(.pv (.sl 1 false (List.map enc (Nd.ranks n)))),(.pv (.sl 10 false (List.map enc ks)))])),.fresh,.fresh])else(if (decide (v>40))=true then G ([(.obj (.box [(.pv (.bool false))])),(.obj (.box [(.pv (.int .i64 (IntKind.wrap IntKind.i64 (c+1))))])),(.obj (.box [(.pv (.int .i64 (Nd.kind n))),(.pv (.int .i64 (Nd.line n))),(.pv (.str (Str.s (Nd.name n)))),(.pv (.int .i64 (Nd.num n))),(.pv (.str (Str.s (Nd.elem n)))),(.pv (.sl 1 false (List.map enc (Nd.dims n)))),(.pv (.sl 1 false (List.map enc (Nd.data n)))),(.pv (.sl 2 false (List.map enc (Nd.sizes n)))),(.pv (.sl 1 false (List.map enc (Nd.ranks n)))),(.pv (.sl 10 false (List.map enc ks)))])),.fresh,.fresh])else((g0z [(.agg [(.int .i64 (Nd.kind n)),(.int .i64 (Nd.line n)),(.str (Str.s (Nd.name n))),(.int .i64 (Nd.num n)),(.str (Str.s (Nd.elem n))),(.sl 1 false (List.map enc (Nd.dims n))),(.sl 1 false (List.map enc (Nd.data n))),(.sl 2 false (List.map enc (Nd.sizes n))),(.sl 1 false (List.map enc (Nd.ranks n))),(.sl 10 false (List.map enc ks))])] fun a=>(if (!a)=true then G ([(.obj (.box [(.pv (.bool false))])),(.obj (.box [(.pv (.int .i64 (IntKind.wrap IntKind.i64 (c+1))))])),(.obj (.box [(.pv (.int .i64 (Nd.kind n))),(.pv (.int .i64 (Nd.line n))),(.pv (.str (Str.s (Nd.name n)))),(.pv (.int .i64 (Nd.num n))),(.pv (.str (Str.s (Nd.elem n)))),(.pv (.sl 1 false (List.map enc (Nd.dims n)))),(.pv (.sl 1 false (List.map enc (Nd.data n)))),(.pv (.sl 2 false (List.map enc (Nd.sizes n)))),(.pv (.sl 1 false (List.map enc (Nd.ranks n)))),(.pv (.sl 10 false (List.map enc ks)))])),.fresh,.fresh])else(E 99 ⟨Xp 23 0 [],[(.obj (.box [(.pv (.bool false))])),(.obj (.box [(.pv (.int .i64 (IntKind.wrap IntKind.i64 (c+1))))])),(.obj (.box [(.pv (.int .i64 (Nd.kind n))),(.pv (.int .i64 (Nd.line n))),(.pv (.str (Str.s (Nd.name n)))),(.pv (.int .i64 (Nd.num n))),(.pv (.str (Str.s (Nd.elem n)))),(.pv (.sl 1 false (List.map enc (Nd.dims n)))),(.pv (.sl 1 false (List.map enc (Nd.data n)))),(.pv (.sl 2 false (List.map enc (Nd.sizes n)))),(.pv (.sl 1 false (List.map enc (Nd.ranks n)))),(.pv (.sl 10 false (List.map enc ks)))]))]⟩ (fun x b=>AfX e8c E 3 (fun st=>G st.heap) TQ 99 x b))))))):Xc e8c E 3 (fun st=>G st.heap) (.inl TQ) [.seq (.ext 99 [])] ⟨Xp 23 0 [(2,.ptr 0 0),(3,.ptr 1 0),(4,.ptr 2 0),(5,.pv (.int .i64 v))],[.obj (.box [.pv (.bool false)]),.obj (.box [.pv (.int .i64 c)]),.obj (.box [.pv (enc n.kind),.pv (enc n.line),.pv (enc n.name),.pv (enc n.num),.pv (enc n.elem),.pv (enc n.dims),.pv (enc n.data),.pv (enc n.sizes),.pv (enc n.ranks),.pv (enc ks)])]⟩:=Xc.mh (dm [dv Bool] 38 0x142251202222005422202222222008422) h
end Go.Pl
namespace Go.Pl
open Go.RowKit
open Enc (enc dec is)
open EncL (encL decL isL)
theorem e2x{s:Str}:(s=⟨[]⟩) ↔ s.s=[]:=by cases s;simp
theorem e6j(n:Nd):Xn n 0 0=TT n:=by
 unfold Xn TT
 cases n.sizes <;> cases n.ranks <;> simp <;> omega
theorem e1b(k:Nat):((k:Int)=1) ↔ k=1:=by omega
theorem e5h(k:Nat):((k:Int)=2) ↔ k=2:=by omega
theorem e1k(k:Nat):((1:Int)<=(k:Int)) ↔ 1<=k:=by omega
theorem c4r(k:Nat):((k:Int)<=16) ↔ k<=16:=by omega
theorem d4y(n:Nd):Xn n 1 0=(decide (n.sizes.length<=1)&&n.sizes.all Zg&&n.ranks.isEmpty):=by
 unfold Xn
 rw[show decide ((n.sizes.length:Int)<=1)=decide (n.sizes.length<=1)from decide_eq_decide.2 (by omega),show decide ((n.ranks.length:Int)<=0)=n.ranks.isEmpty by cases n.ranks <;> simp <;> omega,Bool.and_assoc,Bool.and_assoc,Bool.and_comm n.ranks.isEmpty]
set_option maxHeartbeats 2000000 in
theorem b9e: ∀ x:Tm×Unit,tW x.1=true->Zd Fu 0 (Za Ph (Zf (Hq x.1))) a1r [] (Zx d7e (encL x)):=by
 rintro⟨⟨n,ks⟩,⟨⟩⟩ ht
 rw[<- YQ]
 show Zd Fu 0 (Za Ph (Zf (WC n ks.length))) _ _ _
 have a:decide (n.name.s.length<=1048576)=true:=decide_eq_true (ndB ht).name
 have e:VF (UU n)=true:=FH ht
 have leaf : ∀ b:Bool,WC n ks.length=b->Zf (WC n ks.length) (.bool b):=fun b h=>Zl h.symm
 refine e5i n ks ?_
 refine ZU (fun h1=>leaf _ ?_) fun h1=>ZU (fun h2=>leaf _ ?_) fun h2=> ?_
 ·unfold WC;rw[decide_eq_false (by omega)];rfl
 ·unfold WC;rw[decide_eq_false (show ¬ n.line<=10000 by omega)];simp
 have g:WC n ks.length=YJ n ks.length:=by
  unfold WC;rw[decide_eq_true (by omega),decide_eq_true (show n.line<=10000 by omega)];simp
 rw[g]at leaf ⊢
 repeat' (first
  | refine Zy (fun h=> ?_) (fun h=> ?_)
  | refine ZU (fun h=> ?_) (fun h=> ?_)
  | refine YX (fun h=> ?_) (fun h=> ?_)
  | refine⟨Zc (n.name,()) rfl a,Zb (n.name,()) rfl ?_⟩
  | refine⟨Zc (.mk n ks,0,0,()) (Qt n ks 0 0) ht,Zb (.mk n ks,0,0,()) (Qt n ks 0 0) ?_⟩
  | refine⟨Zc (.mk n ks,1,0,()) (Qt n ks 1 0) ht,Zb (.mk n ks,1,0,()) (Qt n ks 1 0) ?_⟩
  | refine⟨Zc (.mk n ks,()) (YQ n ks) ht,Zb (.mk n ks,()) (YQ n ks) ?_⟩
  | refine⟨Zc (UU n,()) rfl e,Zb (UU n,()) rfl ?_⟩
  | refine leaf _ ?_)
 all_goals clear ht a e leaf g
 all_goals (unfold YJ Pt;simp_all[e2x,Tm.nd,Tm.ks,e6j,UU,e1b,e5h,e1k,c4r,d4y])
 intro g
 omega
end Go.Pl
namespace Go.Proofs.YtkpppjbhmmabeaaGreatDoor
open Go.RowKit Go.Pl
open Enc (enc dec is)
open EncL (encL decL isL)
set_option maxRecDepth 100000
def ndC(n:Nd)(ks:List Tm):List PV:=[enc n.kind,enc n.line,enc n.name,enc n.num,enc n.elem,enc n.dims,enc n.data,enc n.sizes,enc n.ranks,enc ks]
abbrev wkT:ZB:=Yi []
def eW(L:List (Nat×AV)):List AV:=Xp 28 0 L
def wk0(n:Nd)(ks:List Tm)(a:Int)(l:Nat):List (Nat×AV):=[(0,.pv (.agg (ndC n ks))),(1,.pv (.int .i64 a)),(2,.yld l)]
def wk1(n:Nd)(ks:List Tm)(a:Int)(l:Nat):List (Nat×AV):=wk0 n ks a l++[(3,.ptr 0 0),(6,.pv (.bool false))]
def wk2(n:Nd)(ks:List Tm)(a:Int)(l:Nat):List (Nat×AV):=wk1 n ks a l++[(9,.yld l),(10,.pv (.agg (ndC n ks))),(11,.pv (.int .i64 a))]
def wk3(n:Nd)(ks:List Tm)(a:Int)(l:Nat)(b:Bool):List (Nat×AV):=wk2 n ks a l++[(12,.pv (.bool b))]
def wk4(n:Nd)(ks:List Tm)(a:Int)(l:Nat)(b:Bool):List (Nat×AV):=wk3 n ks a l b++[(13,.pv (.bool (!b)))]
def wk5(n:Nd)(ks:List Tm)(a:Int)(l:Nat):List (Nat×AV):=wk4 n ks a l true++[(14,.ptr 0 9),(15,.pv (enc ks)),(16,.pv (.int .i64 (ks.map enc).length)),(17,.pv (.int .i64 0))]
def wl0(ks:List Tm)(a:Int)(l:Nat)(i:Int):List (Nat×AV):=[(17,.pv (.int .i64 i)),(16,.pv (.int .i64 (ks.map enc).length)),(15,.pv (enc ks)),(1,.pv (.int .i64 a)),(2,.yld l)]
def wl1(ks:List Tm)(a:Int)(l:Nat)(i:Int):List (Nat×AV):=wl0 ks a l i++[(18,.pv (.bool (decide (i<((ks.map enc).length:Int)))))]
def wl5(ks:List Tm)(a:Int)(l:Nat)(i:Int)(n:Nd)(b:List Tm):List (Nat×AV):=wl1 ks a l i++[(19,.pv (.rptr (ndC n b))),(20,.pv (.agg (ndC n b))),(8,.ptr 0 0)]
def wl6(ks:List Tm)(a:Int)(l:Nat)(i:Int)(n:Nd)(b:List Tm):List (Nat×AV):=wl5 ks a l i n b++[(21,.pv (.agg (ndC n b))),(22,.pv (.int .i64 a)),(23,.pv (.int .i64 (IntKind.i64.wrap (a+1)))),(24,.yld l)]
def wl7(ks:List Tm)(a:Int)(l:Nat)(i:Int)(b:Bool):List (Nat×AV):=wl0 ks a l i++[(25,.pv (.bool b))]
def wl8(ks:List Tm)(a:Int)(l:Nat)(i:Int)(b:Bool):List (Nat×AV):=wl7 ks a l i b++[(26,.pv (.bool (!b)))]
def wl9(ks:List Tm)(a:Int)(l:Nat)(i:Int):List (Nat×AV):=[(27,.pv (.int .i64 (IntKind.i64.wrap (i+1)))),(17,.pv (.int .i64 (IntKind.i64.wrap (i+1)))),(16,.pv (.int .i64 (ks.map enc).length)),(15,.pv (enc ks)),(1,.pv (.int .i64 a)),(2,.yld l)]
def bx(n:Nd)(ks:List Tm):ZE:=[.obj (.box ((ndC n ks).map .pv))]
theorem a8y{T:ZB}{base d L sz:Nat}{env:List AV}{σ:ZE}{x i:IOp}{t:Bool}{xs:List PV}{n:Nat}{k:IntKind}{p:PV}{ps:List PI}(e:ev env x = .pv (.sl sz t xs))(hi:ev env i = .pv (.int k (n:Int)))(b:xs[n]? = some p):
  KN T base (⟨some d,.iaddr sz x i,L,none⟩::ps) ⟨env,σ⟩=KN T base ps ⟨env.set d (.pv (.rptr p.cells)),σ⟩:=by
 have a:n<xs.length:=(List.getElem?_eq_some_iff.1 b).1
 have g:xs[n]=p:=(List.getElem?_eq_some_iff.1 b).2
 have h:(Wq T (base+L) env (.iaddr sz x i)).run σ=some (.pv (.rptr p.cells),σ):=by
  simp only[Wq,XO,e,hi]
  simp[HM.run,a,g]
 show(CB T base ⟨some d,.iaddr sz x i,L,none⟩ ⟨env,σ⟩).bind (KN T base ps)=_
 simp only[CB,Xu,h,Option.map_some,Option.bind_some,YC]
set_option maxHeartbeats 1000000 in
theorem f4i: ∃ (B g u A s z j r m q:Array Oper) (D b1 C E:List Oper) (y c:Oper) (H F:Array TypeId),
  Tryz.f117.body=some ((Code.region 0 B false).seq (((Code.region 1 g false).seq (Code.cond (.tmp 13) ((Code.region 2 u false).seq .ret) .skip)).seq (((Code.region 3 A false).seq (Code.block 0
   (Code.loop ((Code.region 4 s false).seq ((Code.cond (.tmp 18) .skip (.exit 0)).seq ((Code.block 1 ((Code.region 5 z false).seq ((Code.region 6 j false).seq (Code.cond (.tmp 26) ((Code.region 7 r false).seq .ret) .skip)))).seq (Code.region 8 m false))))))).seq ((Code.region 9 q false).seq .ret)))) ∧
  g.toList=D++y::b1∧y.op = .call {callee:=.value (.tmp 9),args:=#[.tmp 10,.tmp 11],argTypes:=H}∧y.guard=none∧y.dst=some 12 ∧
  j.toList=C++c::E∧c.op = .call {callee:=.value (.func 117),args:=#[.tmp 21,.tmp 23,.tmp 24],argTypes:=F}∧c.guard=none∧c.dst=some 25 ∧
  (∀ n ks a l,Jt Tryz.prog wkT B B.toList ⟨eW (wk0 n ks a l),[]⟩=some ⟨eW (wk1 n ks a l),bx n ks⟩) ∧
  (∀ n ks a l,Jt Tryz.prog wkT g D ⟨eW (wk1 n ks a l),bx n ks⟩=some ⟨eW (wk2 n ks a l),bx n ks⟩) ∧
  (∀ n ks a l b,Jt Tryz.prog wkT g b1 ⟨eW (wk3 n ks a l b),bx n ks⟩=some ⟨eW (wk4 n ks a l b),bx n ks⟩) ∧
  (∀ L,Jt Tryz.prog wkT u u.toList ⟨eW L,[]⟩=some ⟨(eW L).set 6 (.pv (.bool false)),[]⟩) ∧
  (∀ n ks a l,Jt Tryz.prog wkT A A.toList ⟨eW (wk4 n ks a l true),bx n ks⟩=some ⟨eW (wk5 n ks a l),bx n ks⟩) ∧
  (∀ ks a l i,Jt Tryz.prog wkT s s.toList ⟨eW (wl0 ks a l i),[]⟩=some ⟨eW (wl1 ks a l i),[]⟩) ∧
  (∀ ks a l (i:Nat) n e,ks[i]? = some (.mk n e)->Jt Tryz.prog wkT z z.toList ⟨eW (wl1 ks a l i),[]⟩=some ⟨eW (wl5 ks a l i n e),bx n e⟩) ∧
  (∀ ks a l i n e,Jt Tryz.prog wkT j C ⟨eW (wl5 ks a l i n e),bx n e⟩=some ⟨eW (wl6 ks a l i n e),bx n e⟩) ∧
  (∀ ks a l i b,Jt Tryz.prog wkT j E ⟨eW (wl7 ks a l i b),[]⟩=some ⟨eW (wl8 ks a l i b),[]⟩) ∧
  (∀ L,Jt Tryz.prog wkT r r.toList ⟨eW L,[]⟩=some ⟨(eW L).set 6 (.pv (.bool false)),[]⟩) ∧
  (∀ ks a l i,Jt Tryz.prog wkT m m.toList ⟨eW (wl0 ks a l i),[]⟩=some ⟨eW (wl9 ks a l i),[]⟩) ∧
  (∀ L,Jt Tryz.prog wkT q q.toList ⟨eW L,[]⟩=some ⟨(eW L).set 6 (.pv (.bool true)),[]⟩):=by
 refine⟨_,_,_,_,_,_,_,_,_,_,[_,_,_],[_],[_,_,_,_],[_],_,_,_,_,rfl,rfl,rfl,rfl,rfl,rfl,rfl,rfl,rfl,?_,?_,?_,?_,?_,?_,?_,?_,?_,?_,?_,?_⟩
 ·intro n ks a l;kernel_rfl
 ·intro n ks a l;kernel_rfl
 ·intro n ks a l b;kernel_rfl
 ·intro L;kernel_rfl
 ·intro n ks a l;kernel_rfl
 ·intro ks a l i;kernel_rfl
 ·intro ks a l i n e h
  unfold Jt
  refine(Option.bind_eq_some_iff).2 ⟨_,(show Xd _ _ _ _=some [⟨some 19,.iaddr 10 (.t 15) (.t 17),0,none⟩,⟨some 20,.load true [.int .i64,.int .i64,.str,.int .i64,.str,.sl 1,.sl 1,.sl 2,.sl 1,.sl 10] (.t 19),0,none⟩,⟨some 8,.alloc (.agg [.int .i64 0,.int .i64 0,.str [],.int .i64 0,.str [],.sl 0 true [],.sl 0 true [],.sl 0 true [],.sl 0 true [],.sl 0 true []]),0,none⟩,⟨none,.store 10 (.t 8) (.t 20),1,none⟩] by kernel_rfl),?_⟩
  have I:(ks.map (enc:Tm->PV))[i]? = some (.agg (ndC n e)):=by
   rw[List.getElem?_map,h,Option.map_some,YZ];rfl
  refine(a8y (t:=false) (xs:=ks.map enc) (k:=.i64) (n:=i) rfl rfl I).trans ?_
  kernel_rfl
 ·intro ks a l i n e;kernel_rfl
 ·intro ks a l i b;kernel_rfl
 ·intro L;kernel_rfl
 ·intro ks a l i;kernel_rfl
 ·intro L;kernel_rfl
def encNd(x:Tm×Int):List PV:=[enc x.1,.int .i64 x.2]
def b1g(J:Nat->Z0->(Nat->Prop)->World->Prop)(a:Z0->(Nat->Prop)->World->Prop)(k:Nat)(Φ:Z0)(X:Nat->Prop)(W:World)(e:Ending)(W':World):Prop:=
 ∃ Φ',Φ.le Φ'∧(∀ b,X b->W'.heap[b]? = W.heap[b]?)∧((e = .returned (.bool true)∧J k Φ' X W')∨(e = .returned (.bool false)∧a Φ' X W'))
theorem Ji(a b:List Tm):ZZ (a++b)=ZZ a+ZZ b:=by rw[Dn,Dn,Dn,List.map_append,List.sum_append]
theorem EQ(l:Nat)(a b:List Tm):Z7 l (a++b)=Z7 l a++Z7 l b:=by rw[Jf,Jf,Jf,List.flatMap_append]
theorem a8q{ks:List Tm}{k:Tm}(h:k∈ks):Yt k<=ZZ ks:=by
 induction ks with
 | nil=>cases h
 | cons a ks ih=>
  rw[ZZ]
  rcases List.mem_cons.1 h with rfl|h
  ·omega
  ·have:=ih h;omega
theorem c2v(t:Tm):1<=Yt t:=by cases t;rw[Yt];omega
theorem a9e(ks:List Tm):ks.length<=ZZ ks:=by
 induction ks with
 | nil=>simp
 | cons a ks ih=>have:=c2v a;rw[ZZ,List.length_cons];omega
theorem CJ(n:Nd)(ks:List Tm):a8i (bx n ks):=by
 intro l o h ty sz xs e
 subst e
 match l,h with
 | 0,h=>cases h
 | l+1,h=>simp[bx]at h
theorem KR:a8i []:=by
 intro l o h
 simp at h
theorem Jz{Φ:Z0}{W:World}{a:Act}{env:List AV}(e:GlobOK Φ)(b:Vi Φ W)(g:XL (fun _ _=>none) Φ a.tmps env)(hd:a.defers=[]):Vm (entry (fun _ _=>none) Φ [] W) ⟨env,[]⟩ a W:=⟨_,Φ,K4 e b,g,hd⟩
theorem Un{μ':Mu}{Φ Φ':Z0}{a:ZE}{W W':World}{X:Nat->Prop}(e:Go.Pl.Good (entry (fun _ _=>none) Φ [] W) μ' Φ' a W')(hs:a8i a)(g : ∀ b,X b->b<W.heap.size∧Φ b=none):
  Go.Pl.Steps X X Φ Φ' W W'∧(∀ b,X b->W'.heap[b]? = W.heap[b]?):=by
 obtain⟨h1,h2,h3⟩:=MN e hs g
 exact⟨h1.drop fun b h=>.inl h,h2⟩
theorem Jd{μ:Mu}{Φ:Z0}{a:Act}{env:List AV}{x:Operand}{y:IOp}{b:Bool}(h:XL μ Φ a.tmps env)(e:Yz x=some y)(g:ev env y = .pv (.bool b)):a.eval x = .bool b:=by
 have:=Ya h e
 rw[g]at this
 generalize a.eval x=v at this ⊢
 cases YE this
 rfl
theorem f4k{μ:Mu}{Φ:Z0}{a:Act}{env:List AV}{x:Operand}{y:IOp}{k:IntKind}{n:Int}(h:XL μ Φ a.tmps env)(b:Yz x=some y)(e:ev env y = .pv (.int k n)):a.eval x = .int k n:=by
 have:=Ya h b
 rw[e]at this
 generalize a.eval x=v at this ⊢
 cases YE this
 rfl
theorem b0e{μ:Mu}{Φ:Z0}{a:Act}{env:List AV}{x:Operand}{y:IOp}{l:Nat}(h:XL μ Φ a.tmps env)(b:Yz x=some y)(e:ev env y = .yld l):a.eval x = .func (.yield l) #[] #[]:=by
 have:=Ya h b
 rw[e]at this
 generalize a.eval x=v at this ⊢
 cases this
 rfl
theorem b2m{μ:Mu}{Φ:Z0}{a:Act}{env:List AV}{x:Operand}{y:IOp}{p:PV}(h:XL μ Φ a.tmps env)(b:Yz x=some y)(e:ev env y = .pv p):RP Φ (a.eval x) p:=by
 have:=Ya h b
 rw[e]at this
 exact YE this
theorem f1r{id:Nat}{ops:Array Oper}{b:Bool}{Q:Xf}{a:Act}{w:World}{Φ:Z0}{X:Nat->Prop}{J:Z0->(Nat->Prop)->World->Prop}(g:JOK J)(e:J Φ X w)(hd:a.defers=[])(i:a.tmps.size=28)
  (h : ∀ L,Jt Tryz.prog wkT ops ops.toList ⟨eW L,[]⟩=some ⟨(eW L).set 6 (.pv (.bool b)),[]⟩)
  (j : ∀ (a':Act) w' Φ',a'.defers=[]->a'.tmps.getD 6 undef = .bool b->Φ.le Φ'->(∀ b,X b->w'.heap[b]? = w.heap[b]?)->J Φ' X w'->Q .ret a' w'):((Code.region id ops false).seq .ret).wpIn (Y5 none) 4 Tryz.prog Q a w:=by
 refine wpIn_seq (Af Ze (h []) (Jz (g.glob e) (g.phi e) (OM (L:=[]) (n:=28) i (fun p l=>by cases l)) hd) ?_)
 rintro a' w' ⟨μ',Φ',hg,he,hd'⟩
 refine wpIn_ret ?_
 obtain⟨k,m⟩:=Un hg KR (fun b hb=>g.out e hb)
 exact j a' w' Φ' hd' (Jd (x:=.tmp 6) (y:=.t 6) he rfl (by cases b <;> kernel_rfl)) hg.Φle m (g.step e k)
theorem g2f{Φ:Z0}{v:Value}{n:Nd}{ks:List Tm}{a:Nat}{l:Nat}(e:RP Φ v (.agg (ndC n ks))):XL (fun _ _=>none) Φ (#[v,.int .i64 a,.func (.yield l) #[] #[]]++Array.replicate 25 undef) (eW (wk0 n ks a l)):=by
 refine OM (by simp) ?_
 intro q b u hu
 simp only[wk0,List.mem_cons,List.not_mem_nil,or_false]at b
 rcases b with rfl|rfl|rfl
 ·simp[Array.getElem?_append]at hu
  subst hu
  exact .pv _ _ e
 ·simp[Array.getElem?_append]at hu
  subst hu
  exact .pv _ _ (.int _ _)
 ·simp[Array.getElem?_append]at hu
  subst hu
  exact .yld l
theorem a6u{μ:Mu}{Φ:Z0}{t:Array Value}{L:List (Nat×AV)}(h:XL μ Φ t (eW L)):t.size=28:=(d7w (n:=28) h).1
set_option maxHeartbeats 4000000 in
theorem e4p{l:Nat}{J:Nat->Z0->(Nat->Prop)->World->Prop}{Jx:Z0->(Nat->Prop)->World->Prop}{xs:List (Tm×Int)}(r : ∀ k,JOK (J k))(s:JOK Jx)(hY:b3c Tryz.prog l encNd xs J Jx):
  ∀ (m:Nat) (t:Tm),SizeOf.sizeOf t<m-> ∀ (g k:Nat) (Φ:Z0) (X:Nat->Prop) (W:World) (v:Value),J k Φ X W->RP Φ v (enc t)->(∀ i x,(Yf g t)[i]? = some x->xs[k+i]? = some x)->g+Yt t<=4611686018427387904 ->
   Calls Tryz.prog 117 #[v,.int .i64 g,.func (.yield l) #[] #[]] W (b1g J Jx (k+Yt t) Φ X W):=by
 intro m
 induction m with
 | zero=>intro t h;omega
 | succ m ih=>
  intro t ht g k Φ X W v P hv hx hlev
  obtain⟨n,ks⟩:=t
  obtain⟨o0,o1,o2,o3,o4,o5,o6,o7,o8,o9,a1,b1,a6,b6,y,c,t1,t2,hbody,e1,y1,y2,y3,e6,c1,c2,c3,h0,h1,h1b,h2,h3,h4,h5,h6,h6b,h7,h8,h9⟩:=f4i
  rw[YZ]at hv
  refine callsIn_wide.1 (callsIn_of_wp (F:=Fence.wide) (n:=4) Tryz.func117 hbody trivial ?_ rfl)
  have hE0:XL (fun _ _=>none) Φ (#[v,.int .i64 g,.func (.yield l) #[] #[]]++Array.replicate 25 undef) (eW (wk0 n ks g l)):=g2f hv
  have hX0 : ∀ b,X b->b<W.heap.size∧Φ b=none:=fun b hb=>(r k).out P hb
  refine wpIn_seq (Af (nn:=4) Ze (h0 n ks g l) (Jz ((r k).glob P) ((r k).phi P) hE0 rfl) ?_)
  intro a w hr
  refine wpIn_seq (wpIn_seq (wpIn_region_list ?_))
  rw[e1]
  refine Db Ze (fun o ho=>by rw[e1];simp[ho]) (h1 n ks g l) hr ?_
  rintro a2 w2 ⟨μ2,Φ2,hg2,he2,hd2⟩
  obtain⟨s2,k2,n2⟩:=MN hg2 (CJ n ks) hX0
  have hj2:=(r k).step P s2
  have hx0:xs[k]? = some (.mk n ks,(g:Int)):=hx 0 _ (by rw[Yf];rfl)
  have r10:RP Φ2 (a2.eval (.tmp 10)) (enc (Tm.mk n ks)):=by
   rw[YZ]
   exact b2m he2 (y:=.t 10) rfl (by kernel_rfl)
  have r11:RP Φ2 (a2.eval (.tmp 11)) (.int .i64 g):=b2m he2 (y:=.t 11) rfl (by kernel_rfl)
  have hvs:WI Φ2 (#[a2.eval (.tmp 10),a2.eval (.tmp 11)]:Array Value).toList (encNd (.mk n ks,(g:Int))):=d7c r10 (d7c r11 b3z)
  refine c9m y1 y2 y3 (b0e he2 (y:=.t 9) rfl (by kernel_rfl)) (vs:=#[a2.eval (.tmp 10),a2.eval (.tmp 11)]) (by simp) (hY 3 k _ Φ2 _ w2 _ hx0 hj2 hvs) ?_
  rintro e w3 ⟨Φ3,hle3,hkeep3,hres⟩
  -- I answers
  have I : ∀ (b:Bool) (JJ:Z0->(Nat->Prop)->World->Prop),JOK JJ->JJ Φ3 (fun b=>X b∨BX μ2 (bx n ks) b) w3-> 
    Vm (entry μ2 Φ3 (bx n ks) w3) ⟨eW (wk3 n ks g l b),bx n ks⟩ (a2.put (some 12) (.bool b)) w3:=by
   intro b JJ hJJ hjj
   refine⟨μ2,Φ3,hg2.moved (hJJ.glob hjj) hle3 (hJJ.phi hjj) (fun q hq=>hkeep3 q (.inr hq)) (fun q hq=>(hJJ.out hjj (.inr hq)).2) (CJ n ks),?_,by rw[WM];exact hd2⟩
   have:=Jr (d:=some 12) (he2.mono (.refl _) hle3) (.pv _ _ (.bool b))
   exact this
  have fin : ∀ (b:Bool) (a':Act) (w':World) (Φ':Z0),a'.defers=[]->a'.tmps.getD 6 undef = .bool b->(b1g J Jx (k+Yt (.mk n ks)) Φ X W (.returned (.bool b)) w')->bodyPost Tryz.prog Tryz.f117 (b1g J Jx (k+Yt (.mk n ks)) Φ X W) .ret a' w':=by
   intro b a' w' Φ' hd h6 K
   refine bodyPost_ret (results_tmp rfl _ _ _) hd ?_
   rw[h6]
   exact K
  rcases hres with ⟨rfl,D⟩|⟨rfl,D⟩
  ·refine⟨_,rfl,?_⟩
   rw[<- List.append_nil b1]
   refine Db Ze (fun o ho=>by rw[e1];simp[ho]) (h1b n ks g l true) (I true _ (r _) D) ?_
   intro a4 w4 hr4
   have C:=hr4
   obtain⟨μ4,Φ4,hg4,C,hd4⟩:=C
   refine wpIn_cond (t:=false) (Jd (x:=.tmp 13) (y:=.t 13) C rfl (by kernel_rfl)) (wpIn_skip ?_)
   refine wpIn_seq (wpIn_seq (Af (nn:=4) Ze (h3 n ks g l) hr4 ?_))
   rintro a5 w5 ⟨μ5,Φ5,hg5,he5,hd5⟩
   have hX3 : ∀ b,X b->b<w3.heap.size∧Φ3 b=none:=fun b hb=>(r _).out D (.inl hb)
   obtain⟨s5,k5⟩:=Bq hg5 (CJ n ks) hX3 n2
   have hj5:=(r _).step D (s5.drop (Y:=X) fun b h=>.inl h)
   have hk5 : ∀ b,X b->w5.heap[b]? = W.heap[b]? :=fun b hb=>(k5 b hb).trans ((hkeep3 b (.inl hb)).trans (k2 b hb))
   have U:Φ.le Φ5:=hg2.Φle.trans (hle3.trans hg5.Φle)
   have T:XL (fun _ _=>none) Φ5 a5.tmps (eW (wl0 ks g l 0)):=e2n (n:=28) he5 (.refl _) (by
    intro p K
    simp only[wl0,List.mem_cons,List.not_mem_nil,or_false]at K
    rcases K with rfl|rfl|rfl|rfl|rfl <;> exact⟨by simp,rfl,rfl⟩)
   clear I hr4 hg4 C hd4 hE0 hr hg2 he2 hd2 r10 r11 hvs
   refine wpIn_block (wpIn_loop_ghost (fun(z:Nat) (a:Act) (w:World)=> ∃ (i:Nat) (Φ':Z0),z=ks.length - i∧i<=ks.length∧Φ.le Φ'∧(∀ b,X b->w.heap[b]? = W.heap[b]?)∧J (k+1+ZZ (ks.take i)) Φ' X w∧XL (fun _ _=>none) Φ' a.tmps (eW (wl0 ks g l i))∧a.defers=[]) _
    ⟨0,Φ5,rfl,Nat.zero_le _,U,hk5,hj5,T,hd5⟩ ?_)
   clear hj5 hk5 U T hd5 s5 k5 hg5 he5
   rintro z a w ⟨i,Φi,rfl,hi,hle,hk,P,he,hd⟩
   have hXi : ∀ b,X b->b<w.heap.size∧Φi b=none:=fun b hb=>(r _).out P hb
   refine wpIn_seq (Af (nn:=4) Ze (h4 ks g l i) (Jz ((r _).glob P) ((r _).phi P) he hd) ?_)
   intro a7 w7 hr7
   have hr7':=hr7
   obtain⟨μ7,Φ7,hg7,he7,hd7⟩:=hr7'
   by_cases hlt:i<ks.length
   ·have hb:decide ((i:Int)<((ks.map (enc:Tm->PV)).length:Int))=true:=by simpa using hlt
    refine wpIn_seq (wpIn_cond (t:=true) (Jd (x:=.tmp 18) (y:=.t 18) he7 rfl (by rw[<- hb];kernel_rfl)) (wpIn_skip ?_))
    obtain⟨H,E,Q⟩ : ∃ H E,ks[i]? = some (.mk H E):=by
     cases hki:ks[i]with
     | mk H E=>exact⟨H,E,by rw[List.getElem?_eq_getElem hlt,hki]⟩
    refine wpIn_seq (wpIn_block (wpIn_seq (Af (nn:=4) Ze (h5 ks g l i H E Q) hr7 ?_)))
    intro a8 w8 hr8
    refine wpIn_seq (wpIn_region_list ?_)
    rw[e6]
    refine Db Ze (fun o ho=>by rw[e6];simp[ho]) (h6 ks g l i H E) hr8 ?_
    rintro a9 w9 ⟨μ9,Φ9,hg9,he9,hd9⟩
    obtain⟨s9,k9⟩:=Un hg9 (CJ H E) hXi
    have hj9:=(r _).step P s9
    have Z:Tm.mk H E∈ks:=List.mem_of_getElem? Q
    have hsz:=f6i (n:=n) Z
    have hdm:=a8q Z
    have hdp:Yt (.mk n ks)=ZZ ks+1:=by rw[Yt]
    have hkl:=a9e ks
    have S:ks=ks.take i++(.mk H E)::ks.drop (i+1):=by
     have h:=List.getElem?_eq_some_iff.1 Q
     obtain⟨h1,h2⟩:=h
     rw[<- h2,List.getElem_cons_drop,List.take_append_drop]
    have r21:RP Φ9 (a9.eval (.tmp 21)) (enc (Tm.mk H E)):=by
     rw[YZ]
     exact b2m he9 (y:=.t 21) rfl (by kernel_rfl)
    have e23:a9.eval (.tmp 23) = .int .i64 ((g+1:Nat):Int):=by
     have:=f4k (x:=.tmp 23) (y:=.t 23) he9 rfl (by kernel_rfl:_=AV.pv (.int .i64 (IntKind.i64.wrap ((g:Int)+1))))
     rw[this,next (by omega)]
    have e24:a9.eval (.tmp 24) = .func (.yield l) #[] #[]:=b0e he9 (y:=.t 24) rfl (by kernel_rfl)
    have hxk : ∀ j x,(Yf (g+1) (.mk H E))[j]? = some x->xs[k+1+ZZ (ks.take i)+j]? = some x:=by
     intro j x hjx
     have:(Yf g (.mk n ks))[1+ZZ (ks.take i)+j]? = some x:=by
      rw[Yf,show 1+ZZ (ks.take i)+j=(ZZ (ks.take i)+j)+1 by omega,List.getElem?_cons_succ,S,EQ,Z7,<- S,<- DI (g+1) (ks.take i),
       List.getElem?_append_right (by omega),Nat.add_sub_cancel_left,List.getElem?_append_left (List.getElem?_eq_some_iff.1 hjx).1,hjx]
     have:=hx _ _ this
     rw[<- this]
     congr 1
     omega
    have hcall:=ih (.mk H E) (by omega) (g+1) (k+1+ZZ (ks.take i)) Φ9 X w9 _ hj9 r21 hxk (by omega)
    refine a1f c1 c2 c3 Tryz.func117 rfl (by kernel_rfl) (vs:=#[a9.eval (.tmp 21),.int .i64 ((g+1:Nat):Int),.func (.yield l) #[] #[]]) (by simp only[List.map_toArray,List.map_cons,List.map_nil,e23,e24]) hcall ?_
    rintro e w10 ⟨Φ10,hle10,hkeep10,hres⟩
    have hks : ∀ b,X b->w10.heap[b]? = W.heap[b]? :=fun b hb=>(hkeep10 b hb).trans ((k9 b hb).trans (hk b hb))
    have V : ∀ b,XL (fun _ _=>none) Φ10 (a9.put (some 25) (.bool b)).tmps (eW (wl7 ks g l i b)):=by
     intro b
     have h:=Jr (d:=some 25) (he9.mono (.refl _) hle10) (.pv _ _ (.bool b))
     refine e2n (n:=28) (L:=wl6 ks g l i H E++[(25,.pv (.bool b))]) h (.refl _) ?_
     intro p K
     simp only[wl7,wl0,List.mem_cons,List.mem_append,List.not_mem_nil,or_false]at K
     rcases K with (rfl|rfl|rfl|rfl|rfl)|rfl <;> exact⟨by simp,rfl,rfl⟩
    have hsz10:ks.take (i+1)=ks.take i++[.mk H E]:=by rw[List.take_add_one,Q];rfl
    rcases hres with ⟨rfl,u⟩|⟨rfl,u⟩
    ·refine⟨_,rfl,?_⟩
     rw[<- List.append_nil b6]
     refine Db Ze (fun o ho=>by rw[e6];simp[ho]) (h6b ks g l i true) (Jz ((r _).glob u) ((r _).phi u) (V true) (by rw[WM];exact hd9)) ?_
     intro a11 w11 hr11
     obtain⟨μ11,Φ11,hg11,he11,hd11⟩:=hr11
     obtain⟨s11,k11⟩:=Un hg11 KR (fun b hb=>(r _).out u hb)
     have A:=(r _).step u s11
     refine wpIn_cond (t:=false) (Jd (x:=.tmp 26) (y:=.t 26) he11 rfl (by kernel_rfl)) (wpIn_skip ?_)
     have he11':XL (fun _ _=>none) Φ11 a11.tmps (eW (wl0 ks g l i)):=e2n (n:=28) he11 (.refl _) (by
      intro p K
      simp only[wl0,List.mem_cons,List.not_mem_nil,or_false]at K
      rcases K with rfl|rfl|rfl|rfl|rfl <;> exact⟨by simp,rfl,rfl⟩)
     refine Af (nn:=4) Ze (h8 ks g l i) (Jz ((r _).glob A) ((r _).phi A) he11' hd11) ?_
     rintro a12 w12 ⟨μ12,Φ12,hg12,he12,hd12⟩
     obtain⟨s12,k12⟩:=Un hg12 KR (fun b hb=>(r _).out A hb)
     have hj12:=(r _).step A s12
     refine⟨ks.length - (i+1),by omega,i+1,Φ12,rfl,hlt,hle.trans (hg9.Φle.trans (hle10.trans (hg11.Φle.trans hg12.Φle))),fun b hb=>(k12 b hb).trans ((k11 b hb).trans (hks b hb)),?_,?_,hd12⟩
     ·rw[hsz10,Ji,ZZ,ZZ,Nat.add_zero,<- Nat.add_assoc]
      exact hj12
     ·refine e2n (n:=28) he12 (.refl _) ?_
      intro p K
      simp only[wl0,List.mem_cons,List.not_mem_nil,or_false]at K
      rcases K with rfl|rfl|rfl|rfl|rfl
      ·exact⟨by simp,by rw[<- next (show i<9223372036854775807 by omega)];rfl,rfl⟩
      all_goals exact⟨by simp,rfl,rfl⟩
    ·refine⟨_,rfl,?_⟩
     rw[<- List.append_nil b6]
     refine Db Ze (fun o ho=>by rw[e6];simp[ho]) (h6b ks g l i false) (Jz (s.glob u) (s.phi u) (V false) (by rw[WM];exact hd9)) ?_
     rintro a11 w11 ⟨μ11,Φ11,hg11,he11,hd11⟩
     obtain⟨s11,k11⟩:=Un hg11 KR (fun b hb=>s.out u hb)
     have A:=s.step u s11
     refine wpIn_cond (t:=true) (Jd (x:=.tmp 26) (y:=.t 26) he11 rfl (by kernel_rfl)) ?_
     refine f1r s A hd11 (a6u he11) h7 ?_
     intro a' w' Φ' hd' O B M N
     refine fin false a' w' Φ' hd' O ⟨Φ',?_,fun b hb=>(M b hb).trans ((k11 b hb).trans (hks b hb)),.inr ⟨rfl,N⟩⟩
     exact hle.trans (hg9.Φle.trans (hle10.trans (hg11.Φle.trans B)))
   ·have hb:decide ((i:Int)<((ks.map (enc:Tm->PV)).length:Int))=false:=by simpa using hlt
    refine wpIn_seq (wpIn_cond (t:=false) (Jd (x:=.tmp 18) (y:=.t 18) he7 rfl (by rw[<- hb];kernel_rfl)) (wpIn_exit ?_))
    obtain⟨s7,k7⟩:=Un hg7 KR hXi
    have hj7:=(r _).step P s7
    have hii:i=ks.length:=by omega
    subst hii
    rw[List.take_length]at hj7
    show((Code.region 9 o9 false).seq .ret).wpIn _ _ _ _ _ _
    refine f1r (r _) hj7 hd7 (a6u he7) h9 ?_
    intro a' w' Φ' hd' O B M N
    refine fin true a' w' Φ' hd' O ⟨Φ',hle.trans (hg7.Φle.trans B),fun b hb=>(M b hb).trans ((k7 b hb).trans (hk b hb)),.inl ⟨rfl,?_⟩⟩
    rw[Yt,show k+(ZZ ks+1)=k+1+ZZ ks by omega]
    exact N
  ·refine⟨_,rfl,?_⟩
   rw[<- List.append_nil b1]
   refine Db Ze (fun o ho=>by rw[e1];simp[ho]) (h1b n ks g l false) (I false _ s D) ?_
   rintro a4 w4 ⟨μ4,Φ4,hg4,C,hd4⟩
   refine wpIn_cond (t:=true) (Jd (x:=.tmp 13) (y:=.t 13) C rfl (by kernel_rfl)) ?_
   obtain⟨s4,k4⟩:=Bq hg4 (CJ n ks) (fun b hb=>s.out D (.inl hb)) n2
   have hj4:=s.step D (s4.drop (Y:=X) fun b h=>.inl h)
   refine f1r s hj4 hd4 (a6u C) h2 ?_
   intro a' w' Φ' hd' O B M N
   exact fin false a' w' Φ' hd' O ⟨Φ',hg2.Φle.trans (hle3.trans (hg4.Φle.trans B)),fun b hb=>(M b hb).trans ((k4 b hb).trans ((hkeep3 b (.inl hb)).trans (k2 b hb))),.inr ⟨rfl,N⟩⟩
def g0m(a:List (List PV)):Tm:=match a with
 | [ps]=>dec (.agg ps)
 | _=>.mk nd0 []
def pre_ndI(a:List (List PV)):Bool:=match a with
 | [ps]=>can Tm (.agg ps)&&decide (Yt (dec (.agg ps))<=1048576)
 | _=>false
def F_ndI(a:List (List PV)):List (Tm×Int):=Yf 1 (g0m a)
theorem tmOf_nd(n:Nd)(ks:List Tm):g0m [ndC n ks] = .mk n ks:=by
 show dec (PV.agg (ndC n ks))=_
 rw[show(PV.agg (ndC n ks))=enc (Tm.mk n ks)from(YZ n ks).symm,Enc.dec_enc]
theorem pre_nd{n:Nd}{ks:List Tm}(h:Yt (.mk n ks)<=1048576):pre_ndI [ndC n ks]=true:=by
 show(can Tm (.agg (ndC n ks))&&decide (Yt (dec (PV.agg (ndC n ks)))<=1048576))=true
 rw[show(PV.agg (ndC n ks))=enc (Tm.mk n ks)from(YZ n ks).symm,Enc.dec_enc,Tu,Bool.true_and]
 exact decide_eq_true h
theorem f3r: ∃ (o:Array Oper) (a:List Oper) (c:Oper) (t:Array TypeId),Tryz.f116.body=some (.region 0 o false)∧o.toList=a++[c] ∧
  c.op = .call {callee:=.value (.func 117),args:=#[.tmp 3,.const (.int .i64 1),.tmp 4],argTypes:=t}∧c.guard=none∧c.dst=some 5 ∧
  ∀ n ks l,Jt Tryz.prog wkT o a ⟨Xp 6 0 [(0,.yld l),(1,.pv (.rptr (ndC n ks)))],[]⟩=some ⟨Xp 6 0 [(0,.yld l),(1,.pv (.rptr (ndC n ks))),(3,.pv (.agg (ndC n ks))),(4,.yld l)],[]⟩:=by
 refine⟨_,[_,_],_,_,rfl,rfl,rfl,rfl,rfl,?_⟩
 intro n ks l
 kernel_rfl
set_option maxHeartbeats 1000000 in
theorem a1l:d3z Tryz.prog 116 encNd pre_ndI F_ndI:=by
 refine⟨⟨_,Tryz.func116,rfl,rfl⟩,?_⟩
 intro pss g Φ0 E l J N W k j r K H
 unfold pre_ndI at g
 split at g
 ·rename_i ps
  simp only[Bool.and_eq_true,decide_eq_true_eq]at g
  obtain⟨hc,D⟩:=g
  obtain⟨t,ht⟩:=b0p hc
  obtain⟨n,ks⟩:=t
  rw[ht,Enc.dec_enc]at D
  rw[YZ]at ht
  obtain rfl:ps=ndC n ks:=by injection ht
  have S:F_ndI [ndC n ks]=Yf 1 (.mk n ks):=by unfold F_ndI;rw[tmOf_nd]
  rw[S]at K ⊢
  obtain⟨E⟩:=E
  match E,k.1 with
  | [p1],_=>
   obtain⟨B1,L,rfl,g1,r1,o1⟩:=k.2 0 p1 _ rfl rfl
   have Z:=c3v g1 r1 o1
   obtain⟨o,a,c,t,z,M,L,c2,T,C⟩:=f3r
   refine callsIn_wide.1 (callsIn_of_wp (F:=Fence.wide) (n:=4) Tryz.func116 z trivial ?_ rfl)
   have hE:XL (fun _ _=>none) Φ0 ((#[Value.func (.yield l) #[] #[]]++ #[Value.pointer (some ⟨B1,0,none⟩)])++Array.replicate 4 undef) (Xp 6 0 [(0,.yld l),(1,.pv (.rptr (ndC n ks)))]):=by
    refine OM (by simp) ?_
    intro q O u hu
    simp only[List.mem_cons,List.not_mem_nil,or_false]at O
    rcases O with rfl|rfl
    ·simp[Array.getElem?_append]at hu
     subst hu
     exact .yld l
    ·simp[Array.getElem?_append]at hu
     subst hu
     exact .pv _ _ Z
   refine wpIn_region_list ?_
   rw[M]
   refine Db (nn:=4) Ze (fun x U=>by rw[M];simp[U]) (C n ks l) (Jz ((j 0).glob H) ((j 0).phi H) hE rfl) ?_
   rintro A P ⟨μ2,Φ2,hg2,he2,hd2⟩
   obtain⟨s2,k2⟩:=Un (X:=fun _=>False) hg2 KR (fun b hb=>hb.elim)
   have I:=(j _).step H s2
   have Q:RP Φ2 (A.eval (.tmp 3)) (enc (Tm.mk n ks)):=by
    rw[YZ]
    exact b2m he2 (y:=.t 3) rfl (by kernel_rfl)
   have Y:A.eval (.tmp 4) = .func (.yield l) #[] #[]:=b0e he2 (y:=.t 4) rfl (by kernel_rfl)
   have m:=e4p j r K (SizeOf.sizeOf (Tm.mk n ks)+1) (.mk n ks) (Nat.lt_succ_self _) 1 0 Φ2 _ P _ I Q (fun i x h=>by rw[Nat.zero_add];exact h) (by omega)
   refine a1f L c2 T Tryz.func117 rfl (by kernel_rfl) (vs:=#[A.eval (.tmp 3),.int .i64 ((1:Nat):Int),.func (.yield l) #[] #[]]) (by simp only[List.map_toArray,List.map_cons,List.map_nil,Y];rfl) m ?_
   rintro e B ⟨Φ3,hle3,hkeep3,hres⟩
   have fin : ∀ v,(∃ Φ' X',J (Yf 1 (.mk n ks)).length Φ' X' B∨N Φ' X' B)->wpListIn (Y5 none) 4 Tryz.prog o (bodyPost Tryz.prog Tryz.f116 fun e W'=>(∃ v,e = .returned v)∧ ∃ Φ' X',(J (Yf 1 (.mk n ks)).length Φ' X' W'∨N Φ' X' W')) [] (A.put (some 5) v) B:=by
    intro v V
    exact⟨by rw[WM];exact hd2,_,results_none rfl _ _ _,⟨_,rfl⟩,V⟩
   rcases hres with ⟨rfl,s⟩|⟨rfl,s⟩
   ·refine⟨_,rfl,fin _ ⟨Φ3,fun _=>False,.inl ?_⟩⟩
    rw[KL,<- Nat.zero_add (Yt _)]
    exact s
   ·exact⟨_,rfl,fin _ ⟨Φ3,_,.inr s⟩⟩
 ·cases g
end Go.Proofs.YtkpppjbhmmabeaaGreatDoor
namespace Go.Pl
open Go.RowKit
open Enc (enc dec is)
open EncL (encL decL isL)
open Go.Proofs.YtkpppjbhmmabeaaGreatDoor (ndC encNd pre_ndI F_ndI tmOf_nd pre_nd)
theorem c8k: ∀ args os,V7 args os=true->Zd b2b os.length (Xw os.length Og fun r=>r=QS 116 args os) FK [] (UZ e2h args os):=by
 intro args os h
 unfold V7 at h
 split at h
 ·obtain⟨⟨n,ks⟩,rfl⟩:=b0p h
  rw[YZ]
  exact f2f n ks rfl
 ·cases h
def tvI(t:Tm)(k:Nat)(σ:ZE):Prop:=(∀ j p,j<k->(Yf 1 t)[j]? = some p->okN j p=true)∧k<=400∧σ=[.obj (.box [.pv (.bool false)]),.obj (.box [.pv (.int .i64 k)])]
def tvX(t:Tm)(σ:ZE):Prop:=Y6 t=false∧ ∃ (c:Int) (r:List Slot),σ = .obj (.box [.pv (.bool false)]):: .obj (.box [.pv (.int .i64 c)])::r
def tvE:Vq:=fun n st q=>n=0∧a9m GV 0 (.t 7) 116 [8,9] R8 TQ encNd pre_ndI F_ndI st q
def tvM(t:Tm)(k:Nat)(x:Tm×Int)(st:St):Prop:=(∀ j p,j<k->(Yf 1 t)[j]? = some p->okN j p=true)∧k<=400 ∧
 st=⟨Xp 23 0 [(2,.ptr 0 0),(3,.ptr 1 0),(4,.ptr 2 0),(5,.pv (.int .i64 x.2))],[.obj (.box [.pv (.bool false)]),.obj (.box [.pv (.int .i64 k)]),.obj (.box ((ndC x.1.nd x.1.ks).map .pv))]⟩
theorem e2q: ∀ x:Tm×Unit,tW x.1=true->G9 GV tvE 0 (Za Dq (Zf (Y6 x.1))) Aw [] (Zx f7q (encL x)):=by
 rintro⟨t,⟨⟩⟩ ht
 have ht:tW t=true:=ht
 obtain⟨n,ks⟩:=t
 rw[<- YQ]
 show G9 GV tvE 0 (Za Dq (Zf (Y6 (.mk n ks)))) _ _ _
 have u:Yt (.mk n ks)<=1048576:=Nat.le_trans (Ce _) (of_decide_eq_true ht)
 have y:F_ndI [ndC n ks]=Yf 1 (.mk n ks):=by unfold F_ndI;rw[tmOf_nd]
 refine g3r tvE n ks ⟨?_,rfl,[2],[ndC n ks],[2,3],[2,3,4,5],[],⟨Xp 23 0 [(2,.ptr 0 0),(3,.ptr 1 0)],[.obj (.box [.pv (.bool false)]),.obj (.box [.pv (.int .i64 0)])]⟩,tvI (.mk n ks),tvX (.mk n ks),tvM (.mk n ks),
  rfl,by simp,rfl,?_,by kernel_rfl,pre_nd u,⟨fun j p m=>by omega,by omega,rfl⟩,?_,?_,?_,?_⟩
 ·show can Tm (PV.agg (ndC n ks))=true
  rw[show(PV.agg (ndC n ks))=enc (Tm.mk n ks)from(YZ n ks).symm,Tu]
 ·intro j l ps z hps
  match j with
  | 0=>cases z;cases hps;rfl
  | j+1=>simp at z
 ·rintro k ⟨⟨g,b⟩,v⟩ σ hx ⟨a,s,rfl⟩
  have e:Pp [8,9] ((encNd (.mk g b,v)).map .pv) (Xp 23 0 [(2,.ptr 0 0),(3,.ptr 1 0)])=Xp 23 0 [(2,.ptr 0 0),(3,.ptr 1 0),(8,.pv (.agg (ndC g b))),(9,.pv (.int .i64 v))]:=by
   show Pp [8,9] (([enc (Tm.mk g b),.int .i64 v]).map .pv) _=_
   rw[YZ]
   kernel_rfl
  rw[e]
  exact f5q (G:=fun _=>False) _ g b k v ⟨rfl,a,s,rfl⟩
 ·rintro k ⟨⟨g,b⟩,v⟩ st hx ⟨a,s,rfl⟩
  rw[y]at hx
  have q:=fun h=>d8w (.mk n ks) hx h
  have B:IntKind.i64.wrap ((k:Int)+1)=((k+1:Nat):Int):=next (by omega)
  refine f1q (G:=tvX (.mk n ks)) _ g b k v ?_
  rw[B]
  have bad:okN k (.mk g b,v)=false-> ∀ r,tvX (.mk n ks) (.obj (.box [.pv (.bool false)]):: .obj (.box [.pv (.int .i64 ((k+1:Nat):Int))])::r):=fun h r=>⟨q h,_,r,rfl⟩
  refine ZU (fun h1=>bad ?_ _) fun h1=>ZU (fun h2=>bad ?_ _) fun h2=>⟨Zc (.mk g b,()) (YQ g b) (CP ht (List.mem_of_getElem? hx)),Zb (.mk g b,()) (YQ g b) (Y8 (fun h3=>bad ?_ _) fun h3=>⟨rfl,⟨Xp 23 0 [(2,.ptr 0 0),(3,.ptr 1 0)],[.obj (.box [.pv (.bool false)]),.obj (.box [.pv (.int .i64 ((k+1:Nat):Int))])]⟩,by kernel_rfl,rfl,?_,?_,rfl⟩)⟩
  ·unfold okN;rw[decide_eq_false (show ¬ k<400 by omega)];rfl
  ·unfold okN;rw[decide_eq_false (show ¬ v<=40 by omega),Bool.and_false];rfl
  ·have h3:Hq (.mk g b)=false:=h3
   unfold okN;rw[h3,Bool.and_false]
  ·have h3:Hq (.mk g b)=true:=h3
   intro j p m i
   rw[Nat.lt_succ_iff_lt_or_eq]at m
   rcases m with m|rfl
   ·exact a j p m i
   ·rw[hx]at i
    cases i
    unfold okN
    rw[h3,decide_eq_true (show j<400 by omega),decide_eq_true (show v<=40 by omega)];rfl
  ·omega
 ·rintro σ ⟨a,s,rfl⟩
  refine f4d tvE n ks _ (Zl (b9d _ fun j p i=>a j p ?_ i).symm)
  rw[y]
  exact(List.getElem?_eq_some_iff.1 i).1
 ·rintro σ ⟨A,c,r,rfl⟩
  exact e6d tvE n ks c r (Zl A.symm)
theorem e6f: ∀ args os,Gj args os=true->Zd c5s os.length (Xw os.length a9l fun r=>r=CQ 124 args os) a6r [] (UZ f0o args os):=by
 intro args os h
 unfold Gj at h
 split at h
 ·exact g2a _ rfl
 ·cases h
def tdH(m:List Str)(n:Nd)(ks:List Tm):ZE:=[.obj (.box [.map 1]),.obj (.map (JW m)),.obj (.box ((ndC n ks).map .pv))]
def tdN(N:ZE->Prop):Vq:=fun n a _=>n=99∧N a.heap
theorem c1t{N G:ZE->Prop}(n:Nd)(ks:List Tm)(i:Int)(l:Lin)(hl:l.t.length<=1048576): ∀ (d j:Nat) (m:List Str),d+j=l.t.length ->
  AtS [.seq (.ext 99 [])] JI (tdN N) 3 (fun st=>G st.heap) Vt 0 36 [(3,.ptr 0 0),(15,.pv (enc n.sizes)),(16,.pv (.int .i64 n.sizes.length)),(17,.pv (.int .i64 (IntKind.i64.wrap (i+1))))] (tdH (((l.t.drop j).map (·.v)).foldl Jk m) n ks) ->
  AtS [.seq (.ext 99 [])] JI (tdN N) 3 (fun st=>G st.heap) Vt 1 36 [(3,.ptr 0 0),(15,.pv (enc n.sizes)),(16,.pv (.int .i64 n.sizes.length)),(17,.pv (.int .i64 i)),(22,.pv (enc l.t)),(23,.pv (.int .i64 l.t.length)),(24,.pv (.int .i64 j))] (tdH m n ks):=by
 intro d
 induction d with
 | zero=>
  intro j m b h
  rw[List.drop_eq_nil_of_le (by omega)]at h
  exact d7b (tdN N) n ks m i j l (ZV (YD (by omega)) h)
 | succ d ih=>
  intro j m b h
  have a:j<l.t.length:=by omega
  obtain⟨k,g⟩:=f4r m l.t[j].v
  refine d7b (tdN N) n ks m i j l (ZN (Yw a) ⟨Zt a rfl,ZK a ⟨k,?_⟩⟩)
  have e:a8o (Sh.co Sh.str (List.getD (PV.cells (enc l.t[j])) 0 default)) (PV.bool true) (JW m)=JW (Jk m l.t[j].v):=g
  rw[e,next (by omega)]
  refine ih (j+1) _ (by omega) ?_
  rw[List.drop_eq_getElem_cons a,List.map_cons,List.foldl_cons]at h
  exact h
theorem c0r{N G:ZE->Prop}(n:Nd)(ks:List Tm)(hn:NdB n 1048576): ∀ (d i:Nat) (m:List Str),d+i=n.sizes.length->N (tdH (((n.sizes.drop i).flatMap fun l=>l.t.map (·.v)).foldl Jk m) n ks) ->
  AtS [.seq (.ext 99 [])] JI (tdN N) 3 (fun st=>G st.heap) Vt 0 36 [(3,.ptr 0 0),(15,.pv (enc n.sizes)),(16,.pv (.int .i64 n.sizes.length)),(17,.pv (.int .i64 i))] (tdH m n ks):=by
 intro d
 induction d with
 | zero=>
  intro i m hi h
  rw[List.drop_eq_nil_of_le (by omega)]at h
  exact c4x (tdN N) n ks m i (ZV (YD (by omega)) ⟨rfl,h⟩)
 | succ d ih=>
  intro i m hi h
  have a:i<n.sizes.length:=by omega
  have hs:=hn.sizes
  refine c4x (tdN N) n ks m i (ZN (Yw a) ⟨Zt a rfl,ZK a ?_⟩)
  rw[List.drop_eq_getElem_cons a,List.flatMap_cons,List.foldl_append]at h
  have b:n.sizes[i].t.length<=1048576:=hn.lens _ (List.getElem_mem a)
  generalize n.sizes[i]=l at h b ⊢
  have:=c1t (N:=N) (G:=G) n ks i l b l.t.length 0 m (by omega) (by
   rw[next (by omega),List.drop_zero]
   exact ih (i+1) _ (by omega) h)
  show AtS [.seq (.ext 99 [])] JI (tdN N) 3 (fun st=>G st.heap) Vt 1 36 [(3,.ptr 0 0),(15,.pv (enc n.sizes)),(16,.pv (.int .i64 n.sizes.length)),(17,.pv (.int .i64 i)),(22,.pv (enc l.t)),(23,.pv (.int .i64 ((l.t.map (enc:Coef->PV)).length:Int))),(24,.pv (.int .i64 (0:Nat)))] (tdH m n ks)
  rw[List.length_map]
  exact this
def tdI(t:Tm)(k:Nat)(σ:ZE):Prop:=σ=[.obj (.box [.map 1]),.obj (.map (JW (DJ (((XI t).take k).flatMap UC))))]
def tdM(t:Tm)(k:Nat)(x:Tm×Int)(st:St):Prop:=st=⟨Xp 36 0 [(3,.ptr 0 0),(4,.ptr 2 0)],tdH (DJ (((XI t).take k).flatMap UC)) x.1.nd x.1.ks⟩
def tdE:Vq:=fun n st q=>n=0∧a9m Be 0 (.t 11) 116 [12,13] Rf Vt encNd pre_ndI F_ndI st q
theorem e7v: ∀ x:Tm×Unit,tW x.1=true->G9 Be tdE 0 (Za Am (Zf (Ua x.1))) Ri [] (Zx f2w (encL x)):=by
 rintro⟨t,⟨⟩⟩ ht
 have ht:tW t=true:=ht
 obtain⟨n,ks⟩:=t
 rw[<- YQ]
 show G9 Be tdE 0 (Za Am (Zf (Ua (.mk n ks)))) _ _ _
 have i:Yt (.mk n ks)<=1048576:=Nat.le_trans (Ce _) (of_decide_eq_true ht)
 have m:F_ndI [ndC n ks]=Yf 1 (.mk n ks):=by unfold F_ndI;rw[tmOf_nd]
 refine g2s tdE n ks ⟨?_,rfl,[1],[ndC n ks],[3],[3,4],[],⟨Xp 36 0 [(3,.ptr 0 0)],[.obj (.box [.map 1]),.obj (.map [])]⟩,tdI (.mk n ks),fun _=>False,tdM (.mk n ks),
  rfl,by simp,rfl,?_,by kernel_rfl,pre_nd i,rfl,?_,?_,?_,fun σ h=>h.elim⟩
 ·show can Tm (PV.agg (ndC n ks))=true
  rw[show(PV.agg (ndC n ks))=enc (Tm.mk n ks)from(YZ n ks).symm,Tu]
 ·intro j l ps q hps
  match j with
  | 0=>cases q;cases hps;rfl
  | j+1=>simp at q
 ·rintro k ⟨⟨a,b⟩,v⟩ σ hx rfl
  have e:Pp [12,13] ((encNd (.mk a b,v)).map .pv) (Xp 36 0 [(3,.ptr 0 0)])=Xp 36 0 [(3,.ptr 0 0),(12,.pv (.agg (ndC a b))),(13,.pv (.int .i64 v))]:=by
   show Pp [12,13] (([enc (Tm.mk a b),.int .i64 v]).map .pv) _=_
   rw[YZ]
   kernel_rfl
  rw[e]
  exact f2h (G:=fun _=>False) _ a b _ v ⟨rfl,rfl⟩
 ·rintro k ⟨⟨a,b⟩,v⟩ st hx rfl
  rw[m]at hx
  have u:tW (.mk a b)=true:=CP ht (List.mem_of_getElem? hx)
  have r:(XI (.mk n ks))[k]? = some (.mk a b):=by unfold XI;rw[List.getElem?_map,hx];rfl
  refine f7n (G:=fun _=>False) (tdN fun σ=> ∃ g,QQ 0 [3] ⟨Xp 36 0 [(3,.ptr 0 0)],σ⟩=some g∧g.env=Xp 36 0 [(3,.ptr 0 0)]∧tdI (.mk n ks) (k+1) g.heap) a b _ ?_
  rw[List.length_map]
  refine c0r (N:=fun σ=> ∃ g,QQ 0 [3] ⟨Xp 36 0 [(3,.ptr 0 0)],σ⟩=some g∧g.env=Xp 36 0 [(3,.ptr 0 0)]∧tdI (.mk n ks) (k+1) g.heap) (G:=fun _=>False) a b (ndB u) a.sizes.length 0 _ (by omega) ⟨⟨Xp 36 0 [(3,.ptr 0 0)],[.obj (.box [.map 1]),.obj (.map (JW (((a.sizes.drop 0).flatMap fun l=>l.t.map (·.v)).foldl Jk (DJ (((XI (.mk n ks)).take k).flatMap UC)))))]⟩,by kernel_rfl,rfl,?_⟩
  unfold tdI
  have e:(XI (.mk n ks)).take (k+1)=(XI (.mk n ks)).take k++[.mk a b]:=by rw[List.take_add_one,r];rfl
  rw[e,List.flatMap_append,List.flatMap_cons,List.flatMap_nil,List.append_nil,List.drop_zero]
  unfold DJ
  rw[List.foldl_append]
  rfl
 ·rintro σ rfl
  rw[m,List.take_of_length_le (by unfold XI;rw[List.length_map];exact Nat.le_refl _)]
  refine f7g tdE n ks (DJ (Y0 (.mk n ks))) ⟨?_,?_⟩
  ·show(124==124&&Cx (JW (DJ (Y0 (.mk n ks)))))=true
   rw[f9v ht,beq_self_eq_true];rfl
  ·have:=Zh (x:=Ua (.mk n ks)) rfl
   unfold Ua at this ⊢
   rw[b6e]
   have e:(enc ((W9 ((DJ (Y0 (.mk n ks))).map (·.s))).map Str.mk):PV) = .sl 1 false ((W9 ((DJ (Y0 (.mk n ks))).map (·.s))).map PV.str):=by
    show PV.sl 1 false (List.map enc (List.map Str.mk _))=_
    rw[List.map_map]
    rfl
   rw[e]at this
   exact this
end Go.Pl
namespace Go.Pl
open Go.RowKit
open Enc (enc dec is)
open EncL (encL decL isL)
set_option maxRecDepth 100000
abbrev g2p(ps:List PV)(k:Arr×Int->Prop):Prop:=Yn (fun(x:Str×List Int×List Int×Unit)=>decide (List.length (Prod.fst (Prod.snd x))<=2000000)&&decide (List.length (Prod.fst (Prod.snd (Prod.snd x)))<=2000000)) (fun(x:Str×List Int×List Int×Unit)=>JG (Prod.fst x) (Prod.fst (Prod.snd x)) (Prod.fst (Prod.snd (Prod.snd x)))) ps k
noncomputable def c7z:IC:=YR Proofs.Tryz.f192
def c6t:List IRes:=[(.tmp 4)]
abbrev f2b:Nat:=22
def f0f:ZB:=Yi []
theorem g1x{G:PV->Prop}(e:List UInt8)(n:Int)(h:if (e==[(105:UInt8),(110:UInt8),(116:UInt8)])=true then if (decide (n ≥ (-2147483648:Int)))=true then G ((.bool (decide (n<=2147483647))))else(G ((.bool false)))else(if (e==[(98:UInt8),(111:UInt8),(111:UInt8),(108:UInt8)])=true then if (n==0)=true then G ((.bool true))else(G ((.bool (n==1))))else(G ((.bool false))))):Zd f0f 0 (Za c6t G) c7z [] (Zx 22 [.str e,.int .i64 n]):=Zd.tp (dm [] 36 0x2220220034200c4202202220044200c42) h
noncomputable def a7a:IC:=YR Proofs.Tryz.f191
def b0a:List IRes:=[(.tmp 3)]
abbrev f4q:Nat:=8
def d2m:ZB:=Yi [(192,.pure (preT (fun _:Str×Int×Unit=>true)) (Zi (fun x:Str×Int×Unit=>X6 x.1 x.2.1)))]
theorem g2u{G:AV×List AObj×List AObj->Prop}(e:List UInt8)(n:Int)(h:Dx (fun(x:Str×Int×Unit)=>X6 x.1 x.2.1) [(.str e),(.int .i64 n)] fun a:Bool=>G (((.pv (.bool !a)),([(.box [(.pv (.str e))])],[])))):Zd d2m 1 (Xw 1 b0a G) a7a [] (UZ 8 [.pv (.int .i64 n),.ptr 0 0] [.box [.pv (.str e)]]):=Zd.to (.lit (FV (Bool) (.nil))) h
noncomputable def Dl:IC:=Di
def DC:List IRes:=[(.tmp 4)]
abbrev c5b:Nat:=19
def RY:ZB:=Yi [(191,.own TK OJ)]
theorem g0t{G:AV×List AObj×List AObj->Prop}(e:List UInt8)(l:List Int)(t:Bool)(h:At RY 1 (Xw 1 DC G) Dl 0 19 [(0,(.pv (.sl 1 t (List.map enc l)))),(1,(.fn 191 [] [(.ptr 0 0)])),(7,(.pv (.int .i64 (↑(List.length (List.map enc l)):Int)))),(8,(.pv (.int .i64 0)))] [(.obj (.box [(.pv (.str e))]))]):Zd RY 1 (Xw 1 DC G) Dl [] (UZ 19 [.pv (.sl 1 t (l.map enc)),.fn 191 [] [.ptr 0 0]] [.box [.pv (.str e)]]):=Zd.to (.nil) h
theorem d2k{G:AV×List AObj×List AObj->Prop}(e:List UInt8)(l:List Int)(t:Bool)(i:Int)(h:if (decide (i<(↑(List.length l):Int)))=true then(decide (0<=i)&&decide (Int.toNat i<List.length (List.map enc l))&&1==1)=true∧(el' l i fun a:Int=>if (!X6 (Str.mk e) (PV.asInt (VC a)))=true then G (((.pv (.int .i64 i)),([(.box [(.pv (.str e))])],[])))else(At RY 1 (Xw 1 DC G) Dl 0 19 [(0,(.pv (.sl 1 t (List.map enc l)))),(1,(.fn 191 [] [(.ptr 0 0)])),(7,(.pv (.int .i64 (↑(List.length l):Int)))),(8,(.pv (.int .i64 (IntKind.wrap IntKind.i64 (i+1)))))] [(.obj (.box [(.pv (.str e))]))]))else(G (((.pv (.int .i64 (-1))),([(.box [(.pv (.str e))])],[]))))):At RY 1 (Xw 1 DC G) Dl 0 19 [(0,.pv (.sl 1 t (l.map enc))),(1,.fn 191 [] [.ptr 0 0]),(7,.pv (.int .i64 l.length)),(8,.pv (.int .i64 i))] [.obj (.box [.pv (.str e)])]:=At.to (dm [dr Int] 19 0x2000143225100c42) h
noncomputable def b1c:IC:=a8t
def a9v:List IRes:=[(.tmp 4)]
abbrev f7w:Nat:=9
def d2c:ZB:=Yi [(170,.own VU Tg)]
theorem g1m{G:AV×List AObj×List AObj->Prop}(e:List UInt8)(l:List Int)(t:Bool)(h:(VU [(.pv (.sl 1 t (List.map enc l))),(.fn 191 [] [(.ptr 0 0)])] [(.box [(.pv (.str e))])])=true∧(G (((.pv (.bool (decide (Q8 (Str.mk e) (List.map dec (List.map enc l)) 0 ≥ 0)))),([(.box [(.pv (.str e))])],[]))))):Zd d2c 1 (Xw 1 a9v G) b1c [] (UZ 9 [.pv (.sl 1 t (l.map enc)),.fn 191 [] [.ptr 0 0]] [.box [.pv (.str e)]]):=Zd.to (.req (.keep (.lit (.nil)))) h
noncomputable def Sn:IC:=YR Proofs.Tryz.f155
def SA:List IRes:=[(.tmp 4)]
abbrev a3y:Nat:=9
def Rq:ZB:=Yi [(144,.own VU Ee)]
theorem b1h{G:PV->Prop}(e:List UInt8)(l:List Int)(h:(VU [(.pv (.sl 1 false (List.map enc l))),(.fn 191 [] [(.ptr 0 0)])] [(.box [(.pv (.str e))])])=true∧(G ((.bool (!decide (0<=Q8 (Str.mk e) (List.map dec (List.map enc l)) 0)))))):Zd Rq 0 (Za SA G) Sn [] (Zx 9 [.str e,enc l]):=Zd.tp (.req (.keep (.nil))) h
noncomputable def b2n:IC:=YR Proofs.Tryz.f131
def b5u:List IRes:=[(.cell true 3 6),(.tmp 7)]
abbrev e4w:Nat:=45
def c4z:ZB:=Yi [(154,.pure (preT (fun _:List Int×Unit=>true)) (Zi (fun x:List Int×Unit=>Y4 x.1))),(155,.pure (preT (fun x:Str×List Int×Unit=>decide (x.2.1.length<=2000000))) (Zi (fun x:Str×List Int×Unit=>x.2.1.all (X6 x.1)))),(156,.pure (preT (fun x:List Int×Unit=>decide (x.1.length<=2000000))) (Zi (fun x:List Int×Unit=>x.1)))]
theorem f8a{G:PV->Prop}(e:List UInt8)(d x:List Int)(h:if (!e==[(105:UInt8),(110:UInt8),(116:UInt8)])=true then if (!e==[(98:UInt8),(111:UInt8),(111:UInt8),(108:UInt8)])=true then G ((.tup [(.agg [(.str []),(.sl 0 true []),(.sl 0 true [])]),(.int .i64 12)]))else((Go.Pl.preT (fun(x:List Int×Unit)=>true) [(.sl 1 false (List.map enc d))])=true∧(∃ a:Int×Int,AV.pv (Zi (fun(x:List Int×Unit)=>Y4 x.1) [(.sl 1 false (List.map enc d))])=AV.pv (enc a)∧(if (a.2 != 0)=true then G ((.tup [(.agg [(.str []),(.sl 0 true []),(.sl 0 true [])]),(.int .i64 a.2)]))else(if ((↑(List.length (List.map enc x)):Int) != a.1)=true then G ((.tup [(.agg [(.str []),(.sl 0 true []),(.sl 0 true [])]),(.int .i64 1)]))else((Go.Pl.preT (fun(x:Str×List Int×Unit)=>decide (List.length x.2.1<=2000000)) [(.str e),(.sl 1 false (List.map enc x))])=true∧(∃ m:Bool,AV.pv (Zi (fun(x:Str×List Int×Unit)=>List.all x.2.1 (X6 x.1)) [(.str e),(.sl 1 false (List.map enc x))])=AV.pv (enc m)∧(if (!m)=true then G ((.tup [(.agg [(.str []),(.sl 0 true []),(.sl 0 true [])]),(.int .i64 2)]))else((Go.Pl.preT (fun(x:List Int×Unit)=>decide (List.length x.1<=2000000)) [(.sl 1 false (List.map enc d))])=true∧(∃ k:List Int,AV.pv (Zi (fun(x:List Int×Unit)=>x.1) [(.sl 1 false (List.map enc d))])=AV.pv (enc k)∧((Go.Pl.preT (fun(x:List Int×Unit)=>decide (List.length x.1<=2000000)) [(.sl 1 false (List.map enc x))])=true∧(∃ j:List Int,AV.pv (Zi (fun(x:List Int×Unit)=>x.1) [(.sl 1 false (List.map enc x))])=AV.pv (enc j)∧(G ((.tup [(.agg [(.str e),(.sl 1 false (List.map enc k)),(.sl 1 false (List.map enc j))]),(.int .i64 0)]))))))))))))))else((Go.Pl.preT (fun(x:List Int×Unit)=>true) [(.sl 1 false (List.map enc d))])=true∧(∃ b:Int×Int,AV.pv (Zi (fun(x:List Int×Unit)=>Y4 x.1) [(.sl 1 false (List.map enc d))])=AV.pv (enc b)∧(if (b.2 != 0)=true then G ((.tup [(.agg [(.str []),(.sl 0 true []),(.sl 0 true [])]),(.int .i64 b.2)]))else(if ((↑(List.length (List.map enc x)):Int) != b.1)=true then G ((.tup [(.agg [(.str []),(.sl 0 true []),(.sl 0 true [])]),(.int .i64 1)]))else((Go.Pl.preT (fun(x:Str×List Int×Unit)=>decide (List.length x.2.1<=2000000)) [(.str e),(.sl 1 false (List.map enc x))])=true∧(∃ i:Bool,AV.pv (Zi (fun(x:Str×List Int×Unit)=>List.all x.2.1 (X6 x.1)) [(.str e),(.sl 1 false (List.map enc x))])=AV.pv (enc i)∧(if (!i)=true then G ((.tup [(.agg [(.str []),(.sl 0 true []),(.sl 0 true [])]),(.int .i64 2)]))else((Go.Pl.preT (fun(x:List Int×Unit)=>decide (List.length x.1<=2000000)) [(.sl 1 false (List.map enc d))])=true∧(∃ l:List Int,AV.pv (Zi (fun(x:List Int×Unit)=>x.1) [(.sl 1 false (List.map enc d))])=AV.pv (enc l)∧((Go.Pl.preT (fun(x:List Int×Unit)=>decide (List.length x.1<=2000000)) [(.sl 1 false (List.map enc x))])=true∧(∃ g:List Int,AV.pv (Zi (fun(x:List Int×Unit)=>x.1) [(.sl 1 false (List.map enc x))])=AV.pv (enc g)∧(G ((.tup [(.agg [(.str e),(.sl 1 false (List.map enc l)),(.sl 1 false (List.map enc g))]),(.int .i64 0)]))))))))))))))):Zd c4z 0 (Za b5u G) b2n [] (Zx 45 [.str e,enc d,enc x]):=Zd.tp (dm [dv (Int×Int),dv Bool,dv (List Int)] 69 0x7171000146100014200014251222071710001461000142000142510001422202242) h
noncomputable def c8e:IC:=YR Proofs.Tryz.f94
def d1v:List IRes:=[(.tmp 2)]
abbrev f5o:Nat:=17
def e8o:ZB:=Yi [(131,.pure (preT (fun x:Str×List Int×List Int×Unit=>decide (x.2.1.length<=2000000)&&decide (x.2.2.1.length<=2000000))) (Zi (fun x:Str×List Int×List Int×Unit=>JG x.1 x.2.1 x.2.2.1)))]
theorem f9s{G:PV->Prop}(a:Arr)(h:(g2p [(.str (Str.s (Arr.e a))),(.sl 1 false (List.map enc (Arr.d a))),(.sl 1 false (List.map enc (Arr.x a)))] fun b=>(G ((.bool (b.2==0)))))):Zd e8o 0 (Za d1v G) c8e [] (Zx 17 [enc a]):=Zd.tp (.req (FV (Arr×Int) (.lit (.nil)))) h
end Go.Pl
namespace Go.Pl
open Go.RowKit
open Enc (enc dec is)
open EncL (encL decL isL)
theorem e3y: ∀ a:Str×Int×Unit,true=true->Zd f0f 0 (Za c6t (Zf (X6 a.1 a.2.1))) c7z [] (Zx f2b (encL a)):=by
 rintro⟨⟨e⟩,n,⟨⟩⟩ _
 refine g1x e n ?_
 simp only[beq_iff_eq,decide_eq_true_eq,Zf,b7e,a5v,true_and,X6,Xb,YM,ge_iff_le]
 split
 ·split <;> simp[*]
 ·split
  ·split <;> simp[*]
  ·simp[*]
theorem e5u: ∀ args os,TK args os=true->Zd d2m os.length (Xw os.length b0a fun r=>r=OJ args os) a7a [] (UZ f4q args os):=by
 intro args os a
 unfold TK at a
 split at a
 ·rename_i n e
  refine g2u e n ?_
  exact Zb (⟨e⟩,n,()) rfl rfl
 ·cases a
theorem Rv(e:Str): ∀ (l:List Int) (k:Nat),decide (0<=Q8 e l k) = !l.all (X6 e)
 | [],k=>by simp[Q8]
 | n::l,k=>by
  simp only[Q8,List.all_cons]
  by_cases h:X6 e n=true
  ·simp only[h,if_true,Bool.true_and];exact Rv e l (k+1)
  ·simp only[Bool.not_eq_true]at h;simp[h]
theorem d2j(e:List UInt8)(l:List Int)(t:Bool)(hl:l.length<=2000000)(r:AV×List AObj×List AObj): ∀ (m k:Nat),m+k=l.length->r=(.pv (.int .i64 (Q8 ⟨e⟩ (l.drop k) k)),[.box [.pv (.str e)]],[]) ->
  At RY 1 (Xw 1 DC fun x=>x=r) Dl 0 c5b [(0,.pv (.sl 1 t (l.map enc))),(1,.fn 191 [] [.ptr 0 0]),(7,.pv (.int .i64 l.length)),(8,.pv (.int .i64 k))] [.obj (.box [.pv (.str e)])]:=by
 intro m
 induction m with
 | zero=>
  intro k b hr
  refine d2k e l t k ?_
  rw[if_neg (by simp;omega),hr,List.drop_of_length_le (by omega)]
  rfl
 | succ m ih=>
  intro k b hr
  have a:k<l.length:=by omega
  refine d2k e l t k ?_
  rw[if_pos (by simp;omega)]
  refine⟨by simp;omega,l[k],by rw[Wl _ a],?_⟩
  rw[List.drop_eq_getElem_cons a,Q8]at hr
  show if (!X6 ⟨e⟩ l[k])=true then _ else _
  cases h:X6 ⟨e⟩ l[k]with
  | true=>
   rw[if_neg (by simp),next (by omega)]
   rw[h,if_pos rfl]at hr
   exact ih (k+1) (by omega) hr
  | false=>
   rw[if_pos (by decide)]
   rw[h,if_neg (by simp)]at hr
   exact hr.symm
theorem e7b: ∀ args os,VU args os=true->Zd RY os.length (Xw os.length DC fun r=>r=Tg args os) Dl [] (UZ c5b args os):=by
 intro args os a
 unfold VU at a
 split at a
 ·rename_i t xs e
  simp only[Bool.and_eq_true,decide_eq_true_eq]at a
  rw[b7c a.1]
  have b:(xs.map (dec:PV->Int)).length<=2000000:=by simpa using a.2
  generalize xs.map (dec:PV->Int)=l at b ⊢
  refine g0t e l t ?_
  rw[List.length_map]
  refine d2j e l t b _ l.length 0 (by omega) ?_
  simp[Tg]
 ·cases a
theorem e5z: ∀ args os,VU args os=true->Zd d2c os.length (Xw os.length a9v fun r=>r=Ee args os) b1c [] (UZ f7w args os):=by
 intro args os a
 have b:=a
 unfold VU at a
 split at a
 ·rename_i t xs e
  simp only[Bool.and_eq_true,decide_eq_true_eq]at a
  rw[b7c a.1]at b ⊢
  exact g1m e _ t ⟨b,rfl⟩
 ·cases a
theorem Eb: ∀ a:Str×List Int×Unit,decide (a.2.1.length<=2000000)=true->Zd Rq 0 (Za SA (Zf (a.2.1.all (X6 a.1)))) Sn [] (Zx a3y (encL a)):=by
 rintro⟨⟨e⟩,l,⟨⟩⟩ hp
 refine b1h e l ⟨?_,rfl,?_⟩
 ·simpa [VU]using hp
 ·simp[Rv]
theorem c4j: ∀ a:Str×List Int×List Int×Unit,(decide (a.2.1.length<=2000000)&&decide (a.2.2.1.length<=2000000))=true->Zd c4z 0 (Za b5u (Zf (JG a.1 a.2.1 a.2.2.1))) b2n [] (Zx e4w (encL a)):=by
 rintro⟨⟨e⟩,d,x,⟨⟩⟩ hp
 simp only[Bool.and_eq_true,decide_eq_true_eq]at hp
 refine f8a e d x ?_
 have b:=hp.1
 have g:=hp.2
 simp only[preT,Zi,a3i,b5o,MK,a0x,e9r,Ru,d8q,b6y,c5u,Si,List.isEmpty_iff,Bool.and_true,beq_self_eq_true,Bool.or_true,Bool.true_and,decide_eq_true_eq,AV.pv.injEq,d3m,exists_eq_left',b,g,true_and,Enc.sz,List.length_map,Zf,f7u,f6h,f7d,e2t,e7w,e7a,List.all_nil,List.isEmpty_nil,Bool.true_or,List.map_nil,Bool.not_eq_true',beq_eq_false_iff_ne,bne_iff_ne,JG,Xb,YM]
 by_cases h1:e=[105,110,116]
 ·simp only[h1,ne_eq,not_true,if_false,false_and]
  split
  ·rfl
  ·split
   ·rfl
   ·split
    ·simp_all
    ·simp_all
 ·simp only[h1,ne_eq,not_false_eq_true,if_true,true_and]
  split
  ·rfl
  ·split
   ·rfl
   ·split
    ·rfl
    ·split
     ·simp_all
     ·simp_all
theorem e2g: ∀ a:Arr×Unit,VF a.1=true->Zd e8o 0 (Za d1v (Zf (WF a.1))) c8e [] (Zx f5o (encL a)):=by
 rintro⟨a,⟨⟩⟩ hp
 refine f9s a ⟨Zc (a.e,a.d,a.x,()) rfl hp,Zb (a.e,a.d,a.x,()) rfl ?_⟩
 exact⟨rfl,rfl⟩
end Go.Pl
namespace Go.Pl
open Go.RowKit
set_option maxRecDepth 100000
def YP:IC:=(Uc [Z5 2 (.mv (WY 0)) 0,Z5 3 (.mv (WY 0)) 0] (.seq (Uc [Z5 8 (VD 0) 0,Z5 9 (.len 1 (.t 8)) 0,Z5 10 (DZ .gtr (.t 9) (WY 6)) 0] (.cond (.t 10) (Uc [Z5 2 (.mv (WY 0)) 0,Z5 3 (.mv (WY 13)) 0] .ret) .skip)) (Uc [Z5 4 (f'' false) 0] (.seq (Uc [Z5 5 (.mv (WY 0)) 0] (.block 0 (.loop [5,0,4] (.seq (Uc [Z5 11 (VD 5) 0,Z5 12 (VD 0) 0,Z5 13 (.len 1 (.t 12)) 0,Z5 14 (DZ .lss (.t 11) (.t 13)) 0] (.cond (.t 14) .skip (.exit 0))) (.seq (.block 1 (.seq (Uc [Z5 17 (VD 0) 0,Z5 18 (VD 5) 0,Z5 19 (.iaddr 1 (.t 17) (.t 18)) 0,Z5 20 (l'' [(.int .i64)] (.t 19)) 0,Z5 21 (DZ .lss (.t 20) (WY 0)) 0,Z5 22 (VD 21) 0,ET 23 (VD 0) 0 22,ET 24 (VD 5) 0 22,ET 25 (.iaddr 1 (.t 23) (.t 24)) 0 22,ET 26 (l'' [(.int .i64)] (.t 25)) 0 22,ET 27 (DZ .gtr (.t 26) (WY 4096)) 0 22,Z5 28 (.pick (.t 22) (.c (.bool true)) (.t 27)) 0] (.cond (.t 28) (Uc [Z5 2 (.mv (WY 0)) 0,Z5 3 (.mv (WY 2)) 0] .ret) .skip)) (.reg [Z5 29 (VD 4) 0,Z5 30 (VD 29) 0,ET 31 (VD 0) 0 30,ET 32 (VD 5) 0 30,ET 33 (.iaddr 1 (.t 31) (.t 32)) 0 30,ET 34 (l'' [(.int .i64)] (.t 33)) 0 30,ET 35 (DZ .eql (.t 34) (WY 0)) 0 30,Z5 36 (.pick (.t 30) (.c (.bool true)) (.t 35)) 0,Z5 4 (VD 36) 0] none))) (.reg [Z5 15 (VD 5) 0,Z5 16 (DZ .add (.t 15) (WY 1)) 0,Z5 5 (VD 16) 0] none)))))) (.seq (Uc [Z5 37 (VD 4) 0] (.cond (.t 37) (Uc [Z5 2 (.mv (WY 0)) 0,Z5 3 (.mv (WY 0)) 0] .ret) .skip)) (Uc [Z5 6 (.mv (WY 1)) 0] (.seq (Uc [Z5 7 (.mv (WY 0)) 0] (.block 2 (.loop [7,0,6] (.seq (Uc [Z5 38 (VD 7) 0,Z5 39 (VD 0) 0,Z5 40 (.len 1 (.t 39)) 0,Z5 41 (DZ .lss (.t 38) (.t 40)) 0] (.cond (.t 41) .skip (.exit 2))) (.seq (.block 3 (Uc [Z5 44 (VD 6) 0,Z5 45 (VD 0) 0,Z5 46 (VD 7) 0,Z5 47 (.iaddr 1 (.t 45) (.t 46)) 0,Z5 48 (l'' [(.int .i64)] (.t 47)) 0,Z5 49 (DZ .mul (.t 44) (.t 48)) 0,Z5 6 (VD 49) 0] (Uc [Z5 50 (VD 6) 0,Z5 51 (DZ .gtr (.t 50) (WY 4096)) 0] (.cond (.t 51) (Uc [Z5 2 (.mv (WY 0)) 0,Z5 3 (.mv (WY 3)) 0] .ret) .skip)))) (.reg [Z5 42 (VD 7) 0,Z5 43 (DZ .add (.t 42) (WY 1)) 0,Z5 7 (VD 43) 0] none)))))) (Uc [Z5 52 (VD 6) 0,Z5 2 (VD 52) 0,Z5 3 (.mv (WY 0)) 0] .ret))))))))
def YN:List IRes:=[(.tmp 2),(.tmp 3)]
def Y3:ZB:=Yi []
theorem b8d{r:PV}(ns:List Int)(t:Bool)(a:(decide ((↑(Zq ns).length:Int)>6))=true)(hr:(.tup [(.int .i64 0),(.int .i64 13)])=r):Zd Y3 0 (fun st=>fin st YN=some r) YP [] (Zx 53 [.sl 1 t (Zq ns)]):=Zd.w (.lit (.ans true (.nil))) (And.intro a hr) (by kernel_rfl)
theorem c0l{r:PV}(ns:List Int)(t:Bool)(a:(decide ((↑(Zq ns).length:Int)>6))=false)(hn:At Y3 0 (fun st=>fin st YN=some r) YP 0 53 [(0,(.pv (.sl 1 t (Zq ns)))),(4,(.pv (.bool false))),(5,(.pv (.int .i64 0)))] []):Zd Y3 0 (fun st=>fin st YN=some r) YP [] (Zx 53 [.sl 1 t (Zq ns)]):=Zd.w (.lit (.ans false (.nil))) (And.intro a hn) (by kernel_rfl)
theorem a7j{r:PV}(ns:List Int)(t:Bool)(i:Int)(z:Bool)(a:(decide (i<(↑(Zq ns).length:Int)))=true)(h1:(decide (0<=i)&&decide (i.toNat<(Zq ns).length)&&1==1)=true)(h2:(decide (0+[Sh.int .i64].length<=((Zq ns).getD i.toNat default).cells.length)&&YV ((Zq ns).getD i.toNat default).cells 0 [Sh.int .i64])=true)(h3:(decide ((((Zq ns).getD i.toNat default).cells.getD 0 default).asInt<0))=true)(hr:(.tup [(.int .i64 0),(.int .i64 2)])=r):At Y3 0 (fun st=>fin st YN=some r) YP 0 53 [(0,.pv (.sl 1 t (Zq ns))),(4,.pv (.bool z)),(5,.pv (.int .i64 i))] []:=At.w (.lit (.ans true (.req (.req (.lit (.ans true (.lit (.lit (.lit (.lit (.lit (.lit (.nil))))))))))))) (And.intro a (And.intro h1 (And.intro h2 (And.intro h3 hr)))) (by kernel_rfl)
theorem a6v{r:PV}(ns:List Int)(t:Bool)(i:Int)(z:Bool)(a:(decide (i<(↑(Zq ns).length:Int)))=true)(h1:(decide (0<=i)&&decide (i.toNat<(Zq ns).length)&&1==1)=true)(h2:(decide (0+[Sh.int .i64].length<=((Zq ns).getD i.toNat default).cells.length)&&YV ((Zq ns).getD i.toNat default).cells 0 [Sh.int .i64])=true)(h3:(decide ((((Zq ns).getD i.toNat default).cells.getD 0 default).asInt<0))=false)(b:(decide ((((Zq ns).getD i.toNat default).cells.getD 0 default).asInt>4096))=true)(hr:(.tup [(.int .i64 0),(.int .i64 2)])=r):At Y3 0 (fun st=>fin st YN=some r) YP 0 53 [(0,.pv (.sl 1 t (Zq ns))),(4,.pv (.bool z)),(5,.pv (.int .i64 i))] []:=At.w (.lit (.ans true (.req (.req (.lit (.ans false (.lit (.lit (.req (.lit (.req (.lit (.lit (.lit (.ans true (.nil)))))))))))))))) (And.intro a (And.intro h1 (And.intro h2 (And.intro h3 (And.intro h1 (And.intro h2 (And.intro b hr))))))) (by kernel_rfl)
theorem b0k{r:PV}(ns:List Int)(t:Bool)(i:Int)(z:Bool)(a:(decide (i<(↑(Zq ns).length:Int)))=true)(h1:(decide (0<=i)&&decide (i.toNat<(Zq ns).length)&&1==1)=true)(h2:(decide (0+[Sh.int .i64].length<=((Zq ns).getD i.toNat default).cells.length)&&YV ((Zq ns).getD i.toNat default).cells 0 [Sh.int .i64])=true)(h3:(decide ((((Zq ns).getD i.toNat default).cells.getD 0 default).asInt<0))=false)(e:(decide ((((Zq ns).getD i.toNat default).cells.getD 0 default).asInt>4096))=false)(b:(z)=true)(hn:At Y3 0 (fun st=>fin st YN=some r) YP 0 53 [(0,(.pv (.sl 1 t (Zq ns)))),(4,(.pv (.bool true))),(5,(.pv (.int .i64 (IntKind.i64.wrap (i+1)))))] []):At Y3 0 (fun st=>fin st YN=some r) YP 0 53 [(0,.pv (.sl 1 t (Zq ns))),(4,.pv (.bool z)),(5,.pv (.int .i64 i))] []:=At.w (.lit (.ans true (.req (.req (.lit (.ans false (.lit (.lit (.req (.lit (.req (.lit (.lit (.lit (.ans false (.ans true (.lit (.lit (.lit (.lit (.lit (.lit (.nil))))))))))))))))))))))) (And.intro a (And.intro h1 (And.intro h2 (And.intro h3 (And.intro h1 (And.intro h2 (And.intro e (And.intro b hn)))))))) (by kernel_rfl)
theorem a6k{r:PV}(ns:List Int)(t:Bool)(i:Int)(z:Bool)(a:(decide (i<(↑(Zq ns).length:Int)))=true)(h1:(decide (0<=i)&&decide (i.toNat<(Zq ns).length)&&1==1)=true)(h2:(decide (0+[Sh.int .i64].length<=((Zq ns).getD i.toNat default).cells.length)&&YV ((Zq ns).getD i.toNat default).cells 0 [Sh.int .i64])=true)(h3:(decide ((((Zq ns).getD i.toNat default).cells.getD 0 default).asInt<0))=false)(e:(decide ((((Zq ns).getD i.toNat default).cells.getD 0 default).asInt>4096))=false)(b:(z)=false)(hn:At Y3 0 (fun st=>fin st YN=some r) YP 0 53 [(0,(.pv (.sl 1 t (Zq ns)))),(4,(.pv (.bool ((((Zq ns).getD i.toNat default).cells.getD 0 default).asInt==0)))),(5,(.pv (.int .i64 (IntKind.i64.wrap (i+1)))))] []):At Y3 0 (fun st=>fin st YN=some r) YP 0 53 [(0,.pv (.sl 1 t (Zq ns))),(4,.pv (.bool z)),(5,.pv (.int .i64 i))] []:=At.w (.lit (.ans true (.req (.req (.lit (.ans false (.lit (.lit (.req (.lit (.req (.lit (.lit (.lit (.ans false (.ans false (.lit (.lit (.req (.lit (.req (.lit (.lit (.lit (.lit (.nil)))))))))))))))))))))))))) (And.intro a (And.intro h1 (And.intro h2 (And.intro h3 (And.intro h1 (And.intro h2 (And.intro e (And.intro b (And.intro h1 (And.intro h2 hn)))))))))) (by kernel_rfl)
theorem a6o{r:PV}(ns:List Int)(t:Bool)(i:Int)(z:Bool)(a:(decide (i<(↑(Zq ns).length:Int)))=false)(h1:(z)=true)(hr:(.tup [(.int .i64 0),(.int .i64 0)])=r):At Y3 0 (fun st=>fin st YN=some r) YP 0 53 [(0,.pv (.sl 1 t (Zq ns))),(4,.pv (.bool z)),(5,.pv (.int .i64 i))] []:=At.w (.lit (.ans false (.ans true (.nil)))) (And.intro a (And.intro h1 hr)) (by kernel_rfl)
theorem a7x{r:PV}(ns:List Int)(t:Bool)(i:Int)(z:Bool)(a:(decide (i<(↑(Zq ns).length:Int)))=false)(h1:(z)=false)(hn:At Y3 0 (fun st=>fin st YN=some r) YP 1 53 [(0,(.pv (.sl 1 t (Zq ns)))),(6,(.pv (.int .i64 1))),(7,(.pv (.int .i64 0)))] []):At Y3 0 (fun st=>fin st YN=some r) YP 0 53 [(0,.pv (.sl 1 t (Zq ns))),(4,.pv (.bool z)),(5,.pv (.int .i64 i))] []:=At.w (.lit (.ans false (.ans false (.nil)))) (And.intro a (And.intro h1 hn)) (by kernel_rfl)
theorem a8f{r:PV}(ns:List Int)(t:Bool)(i n:Int)(a:(decide (i<(↑(Zq ns).length:Int)))=true)(h1:(decide (0<=i)&&decide (i.toNat<(Zq ns).length)&&1==1)=true)(h2:(decide (0+[Sh.int .i64].length<=((Zq ns).getD i.toNat default).cells.length)&&YV ((Zq ns).getD i.toNat default).cells 0 [Sh.int .i64])=true)(h3:(decide (IntKind.i64.wrap (n*(((Zq ns).getD i.toNat default).cells.getD 0 default).asInt)>4096))=true)(hr:(.tup [(.int .i64 0),(.int .i64 3)])=r):At Y3 0 (fun st=>fin st YN=some r) YP 1 53 [(0,.pv (.sl 1 t (Zq ns))),(6,.pv (.int .i64 n)),(7,.pv (.int .i64 i))] []:=At.w (.lit (.ans true (.req (.req (.lit (.lit (.ans true (.nil)))))))) (And.intro a (And.intro h1 (And.intro h2 (And.intro h3 hr)))) (by kernel_rfl)
theorem a8w{r:PV}(ns:List Int)(t:Bool)(i n:Int)(a:(decide (i<(↑(Zq ns).length:Int)))=true)(h1:(decide (0<=i)&&decide (i.toNat<(Zq ns).length)&&1==1)=true)(h2:(decide (0+[Sh.int .i64].length<=((Zq ns).getD i.toNat default).cells.length)&&YV ((Zq ns).getD i.toNat default).cells 0 [Sh.int .i64])=true)(h3:(decide (IntKind.i64.wrap (n*(((Zq ns).getD i.toNat default).cells.getD 0 default).asInt)>4096))=false)(hn:At Y3 0 (fun st=>fin st YN=some r) YP 1 53 [(0,(.pv (.sl 1 t (Zq ns)))),(6,(.pv (.int .i64 (IntKind.i64.wrap (n*(((Zq ns).getD i.toNat default).cells.getD 0 default).asInt))))),(7,(.pv (.int .i64 (IntKind.i64.wrap (i+1)))))] []):At Y3 0 (fun st=>fin st YN=some r) YP 1 53 [(0,.pv (.sl 1 t (Zq ns))),(6,.pv (.int .i64 n)),(7,.pv (.int .i64 i))] []:=At.w (.lit (.ans true (.req (.req (.lit (.lit (.ans false (.lit (.nil))))))))) (And.intro a (And.intro h1 (And.intro h2 (And.intro h3 hn)))) (by kernel_rfl)
theorem a6t{r:PV}(ns:List Int)(t:Bool)(i n:Int)(a:(decide (i<(↑(Zq ns).length:Int)))=false)(hr:(.tup [(.int .i64 n),(.int .i64 0)])=r):At Y3 0 (fun st=>fin st YN=some r) YP 1 53 [(0,.pv (.sl 1 t (Zq ns))),(6,.pv (.int .i64 n)),(7,.pv (.int .i64 i))] []:=At.w (.lit (.ans false (.nil))) (And.intro a hr) (by kernel_rfl)
def VM:IC:=(Uc [Z5 4 (.mv (WY 0)) 0] (.seq (Uc [Z5 6 (VD 0) 0,Z5 7 (.len 1 (.t 6)) 0,Z5 8 (.mv (WY 0)) 0] (.block 0 (.loop [8,7,1,0] (Uc [Z5 9 (DZ .lss (.t 8) (.t 7)) 0] (.seq (.cond (.t 9) .skip (.exit 0)) (.seq (.block 1 (Uc [Z5 10 (VD 8) 0,Z5 5 (VD 10) 0] (Uc [Z5 11 (VD 1) 0,Z5 12 (VD 0) 0,Z5 13 (VD 5) 0,Z5 14 (.iaddr 1 (.t 12) (.t 13)) 0,Z5 15 (l'' [(.int .i64)] (.t 14)) 0,Z5 16 (DZ .eql (.t 11) (.t 15)) 0] (.cond (.t 16) (Uc [Z5 17 (VD 5) 0,Z5 4 (VD 17) 0] .ret) .skip)))) (.reg [Z5 18 (DZ .add (.t 8) (WY 1)) 0,Z5 8 (VD 18) 0] none))))))) (Uc [Z5 4 (.mv (.c (.int .i64 (-1)))) 0] .ret)))
def VI:List IRes:=[(.tmp 4)]
def U6:ZB:=Yi []
theorem b9y{r:PV}(ns:List Int)(t:Bool)(v:Int)(hn:At U6 0 (fun st=>fin st VI=some r) VM 0 19 [(0,(.pv (.sl 1 t (Zq ns)))),(1,(.pv (.int .i64 v))),(7,(.pv (.int .i64 (↑(Zq ns).length:Int)))),(8,(.pv (.int .i64 0)))] []):Zd U6 0 (fun st=>fin st VI=some r) VM [] (Zx 19 [.sl 1 t (Zq ns),.int .i64 v]):=Zd.w (.nil) hn (by kernel_rfl)
theorem b0n{r:PV}(ns:List Int)(t:Bool)(v:Int)(i:Int)(a:(decide (i<(↑(Zq ns).length:Int)))=true)(h1:(decide (0<=i)&&decide (i.toNat<(Zq ns).length)&&1==1)=true)(h2:(decide (0+[Sh.int .i64].length<=((Zq ns).getD i.toNat default).cells.length)&&YV ((Zq ns).getD i.toNat default).cells 0 [Sh.int .i64])=true)(h3:(v==(((Zq ns).getD i.toNat default).cells.getD 0 default).asInt)=true)(hr:(.int .i64 i)=r):At U6 0 (fun st=>fin st VI=some r) VM 0 19 [(0,.pv (.sl 1 t (Zq ns))),(1,.pv (.int .i64 v)),(7,.pv (.int .i64 (Zq ns).length)),(8,.pv (.int .i64 i))] []:=At.w (.lit (.ans true (.req (.req (.lit (.ans true (.nil))))))) (And.intro a (And.intro h1 (And.intro h2 (And.intro h3 hr)))) (by kernel_rfl)
theorem a9h{r:PV}(ns:List Int)(t:Bool)(v:Int)(i:Int)(a:(decide (i<(↑(Zq ns).length:Int)))=true)(h1:(decide (0<=i)&&decide (i.toNat<(Zq ns).length)&&1==1)=true)(h2:(decide (0+[Sh.int .i64].length<=((Zq ns).getD i.toNat default).cells.length)&&YV ((Zq ns).getD i.toNat default).cells 0 [Sh.int .i64])=true)(h3:(v==(((Zq ns).getD i.toNat default).cells.getD 0 default).asInt)=false)(hn:At U6 0 (fun st=>fin st VI=some r) VM 0 19 [(0,(.pv (.sl 1 t (Zq ns)))),(1,(.pv (.int .i64 v))),(7,(.pv (.int .i64 (↑(Zq ns).length:Int)))),(8,(.pv (.int .i64 (IntKind.i64.wrap (i+1)))))] []):At U6 0 (fun st=>fin st VI=some r) VM 0 19 [(0,.pv (.sl 1 t (Zq ns))),(1,.pv (.int .i64 v)),(7,.pv (.int .i64 (Zq ns).length)),(8,.pv (.int .i64 i))] []:=At.w (.lit (.ans true (.req (.req (.lit (.ans false (.lit (.nil)))))))) (And.intro a (And.intro h1 (And.intro h2 (And.intro h3 hn)))) (by kernel_rfl)
theorem a8z{r:PV}(ns:List Int)(t:Bool)(v:Int)(i:Int)(a:(decide (i<(↑(Zq ns).length:Int)))=false)(hr:(.int .i64 (-1))=r):At U6 0 (fun st=>fin st VI=some r) VM 0 19 [(0,.pv (.sl 1 t (Zq ns))),(1,.pv (.int .i64 v)),(7,.pv (.int .i64 (Zq ns).length)),(8,.pv (.int .i64 i))] []:=At.w (.lit (.ans false (.nil))) (And.intro a hr) (by kernel_rfl)
end Go.Pl
namespace Go.Pl
open Go.RowKit
theorem a5r{r:PV}(ns:List Int)(t:Bool)(h6:ns.length<=6)(ha:ns.all U2=true): ∀ (m k:Nat) (n:Int),m+k=ns.length->0<=n->n<=4096 ->
  r=(match SC n (ns.drop k)with|some n=>.tup [.int .i64 n,.int .i64 0]|none=>.tup [.int .i64 0,.int .i64 3]) ->
  At Y3 0 (fun st=>fin st YN=some r) YP 1 53 [(0,.pv (.sl 1 t (Zq ns))),(6,.pv (.int .i64 n)),(7,.pv (.int .i64 k))] []:=by
 intro m
 induction m with
 | zero=>
  intro k n h g h1 hr
  have:ns.drop k=[]:=List.drop_of_length_le (by omega)
  rw[this]at hr
  exact a6t ns t k n (by simp;omega) hr.symm
 | succ m ih=>
  intro k n h g h1 hr
  have a:k<ns.length:=by omega
  have hd:0<=ns[k]∧ns[k]<=4096:=by
   have:=List.all_eq_true.1 ha _ (List.getElem_mem a)
   simpa [U2]using this
  have i:0<=n*ns[k]∧n*ns[k]<=4096*4096:=⟨Int.mul_nonneg g hd.1,Int.mul_le_mul h1 hd.2 hd.1 (by omega)⟩
  have b:IntKind.i64.wrap (n*ns[k])=n*ns[k]:=WG (by omega) (by omega)
  rw[List.drop_eq_getElem_cons a,SC]at hr
  have e:=Hd a
  by_cases hb:4096<n*ns[k]
  ·simp only[hb,decide_true,cond_true]at hr
   refine a8f ns t k n (by simp;omega) (by simp;omega) (by rw[e];rfl) ?_ hr.symm
   rw[e]
   simpa [PV.cells,PV.asInt,b]using hb
  ·simp only[hb,decide_false,cond_false]at hr
   refine a8w ns t k n (by simp;omega) (by simp;omega) (by rw[e];rfl) ?_ ?_
   ·rw[e]
    simpa [PV.cells,PV.asInt,b]using Int.not_lt.1 hb
   ·rw[e,next (by omega)]
    simp only[PV.cells,List.getD_cons_zero,PV.asInt,b]
    exact ih (k+1) (n*ns[k]) (by omega) i.1 (by omega) hr
theorem a4r(ns:List Int)(t:Bool)(i:ns.length<=6): ∀ (m k:Nat) (z:Bool),m+k=ns.length->(∀ j (g:j<ns.length),j<k->U2 ns[j]=true)->z=(ns.take k).any (· == 0) ->
  At Y3 0 (fun st=>fin st YN=some (Xa [.sl 1 t (Zq ns)])) YP 0 53 [(0,.pv (.sl 1 t (Zq ns))),(4,.pv (.bool z)),(5,.pv (.int .i64 k))] []:=by
 intro m
 induction m with
 | zero=>
  intro k z q hd h
  have ha:ns.all U2=true:=by
   rw[List.all_eq_true]
   intro x l
   obtain⟨j,g,rfl⟩:=List.getElem_of_mem l
   exact hd j g (by omega)
  rw[List.take_of_length_le (by omega)]at h
  cases z with
  | true=>
   refine a6o ns t k _ (by simp;omega) rfl ?_
   simp[Xa,Y4,Xl,ha,<- h,Nat.not_lt.2 i]
  | false=>
   refine a7x ns t k _ (by simp;omega) rfl ?_
   refine a5r ns t i ha ns.length 0 1 (by omega) (by omega) (by omega) ?_
   simp only[Xa,Y4,Xl,ha,<- h,Nat.not_lt.2 i,decide_false,cond_false,cond_true,List.drop_zero]
   cases SC 1 ns <;> rfl
 | succ m ih=>
  intro k z q hd h
  have b:k<ns.length:=by omega
  have e:=Hd b
  have a:U2 ns[k]=false->Xa [.sl 1 t (Zq ns)] = .tup [.int .i64 0,.int .i64 2]:=by
   intro hb
   have ha:ns.all U2=false:=by
    rw[List.all_eq_false]
    exact⟨_,List.getElem_mem b,by simp[hb]⟩
   simp[Xa,Y4,Xl,ha,Nat.not_lt.2 i]
  have hn:(ns.take (k+1)).any (· == 0)=(z||ns[k]==0):=by
   rw[List.take_succ_eq_append_getElem b,List.any_append,h];simp
  have hd':U2 ns[k]=true-> ∀ j (g:j<ns.length),j<k+1->U2 ns[j]=true:=by
   intro hb j g hjk
   by_cases he:j=k
   ·subst he;exact hb
   ·exact hd j g (by omega)
  by_cases h1:ns[k]<0
  ·refine a7j ns t k z (by simp;omega) (by simp;omega) (by rw[e];rfl) (by rw[e];simpa [PV.cells,PV.asInt]using h1) (a ?_).symm
   simp[U2];omega
  ·by_cases h2:4096<ns[k]
   ·refine a6v ns t k z (by simp;omega) (by simp;omega) (by rw[e];rfl) (by rw[e];simpa [PV.cells,PV.asInt]using h1) (by rw[e];simpa [PV.cells,PV.asInt]using h2) (a ?_).symm
    simp[U2];omega
   ·have hb:U2 ns[k]=true:=by simp[U2];omega
    cases z with
    | true=>
     refine b0k ns t k true (by simp;omega) (by simp;omega) (by rw[e];rfl) (by rw[e];simpa [PV.cells,PV.asInt]using h1) (by rw[e];simpa [PV.cells,PV.asInt]using h2) rfl ?_
     rw[next (by omega)]
     exact ih (k+1) true (by omega) (hd' hb) (by rw[hn];rfl)
    | false=>
     refine a6k ns t k false (by simp;omega) (by simp;omega) (by rw[e];rfl) (by rw[e];simpa [PV.cells,PV.asInt]using h1) (by rw[e];simpa [PV.cells,PV.asInt]using h2) rfl ?_
     rw[next (by omega),e]
     exact ih (k+1) _ (by omega) (hd' hb) (by rw[hn];rfl)
theorem c1b: ∀ ps,KO ps=true->Zd Y3 0 (fun st=>fin st YN=some (Xa ps)) YP [] (Zx 53 ps):=by
 intro ps a
 unfold KO at a
 split at a
 ·rename_i t xs
  obtain⟨ns,rfl⟩:=TF a
  by_cases h6:6<ns.length
  ·refine b8d ns t (by simp;omega) ?_
   simp[Xa,Y4,Xl,h6]
  ·refine c0l ns t (by simp;omega) ?_
   exact a4r ns t (by omega) ns.length 0 false (by omega) (fun j hj h=>by omega) (by simp)
 ·cases a
def b1z(v:Int):List Int->Nat->Int
 | [],_=> -1
 | n::r,i=>bif v==n then i else b1z v r (i+1)
theorem c7l{v:Int}: ∀ {l:List Int} {i:Nat},decide (0<=b1z v l i)=l.any (· == v):=by
 intro l
 induction l with
 | nil=>intro i;rfl
 | cons n r ih=>
  intro i
  simp only[b1z,List.any_cons]
  by_cases h:v=n
  ·subst h;simp
  ·have h1:(v==n)=false:=by simpa using h
   have h2:(n==v)=false:=by simp;omega
   simp only[h1,h2,cond_false,Bool.false_or]
   exact ih
def Hu:List PV->PV
 | [.sl _ _ xs,.int _ v]=>.int .i64 (b1z v (xs.map PV.asInt) 0)
 | _=>.nilp
theorem b0b(ns:List Int)(t:Bool)(v:Int)(hl:ns.length<=1099511627776){r:PV}: ∀ (m k:Nat),m+k=ns.length->r = .int .i64 (b1z v (ns.drop k) k) ->
  At U6 0 (fun st=>fin st VI=some r) VM 0 19 [(0,.pv (.sl 1 t (Zq ns))),(1,.pv (.int .i64 v)),(7,.pv (.int .i64 (Zq ns).length)),(8,.pv (.int .i64 k))] []:=by
 intro m
 induction m with
 | zero=>
  intro k b hr
  rw[List.drop_of_length_le (by omega)]at hr
  exact a8z ns t v k (by simp;omega) hr.symm
 | succ m ih=>
  intro k b hr
  have a:k<ns.length:=by omega
  have e:=Hd a
  rw[List.drop_eq_getElem_cons a,b1z]at hr
  cases hb:v==ns[k]with
  | true=>
   rw[hb,cond_true]at hr
   exact b0n ns t v k (by simp;omega) (by simp;omega) (by rw[e];rfl) (by rw[e];exact hb) hr.symm
  | false=>
   rw[hb,cond_false]at hr
   refine a9h ns t v k (by simp;omega) (by simp;omega) (by rw[e];rfl) (by rw[e];exact hb) ?_
   rw[next (by omega)]
   exact ih (k+1) (by omega) hr
theorem c3k: ∀ ps,YA ps=true->Zd U6 0 (fun st=>fin st VI=some (Hu ps)) VM [] (Zx 19 ps):=by
 intro ps a
 unfold YA at a
 split at a
 ·rename_i t xs v
  simp only[Bool.and_eq_true,decide_eq_true_eq]at a
  obtain⟨ns,rfl⟩:=TF a.1
  refine b9y ns t v ?_
  exact b0b ns t v (by have:=a.2;rwa [Sg]at this) ns.length 0 (by omega) (by simp[Hu])
 ·cases a
def PV.ns(p:PV):List Int:=p.asXs.map PV.asInt
def Hg:IC:=(Uc [Z5 4 (f'' false) 0] (Uc [Z5 5 (VD 0) 0,Z5 6 (VD 1) 0,Z5 7 (c'' 217 [(.t 5),(.t 6)]) 0,Z5 8 (DZ .geq (.t 7) (WY 0)) 2,Z5 4 (VD 8) 2] .ret))
def J7:List IRes:=[(.tmp 4)]
abbrev a4s:Nat:=9
def DN:ZB:=Yi [(217,.pure YA Hu)]
theorem Fp{r:PV}(ns:List Int)(t:Bool)(v:Int)(a:(YA [(.sl 1 t (Zq ns)),(.int .i64 v)])=true)(hr:(.bool (decide (b1z v (List.map PV.asInt (Zq ns)) 0 ≥ 0)))=r):Zd DN 0 (fun st=>fin st J7=some r) Hg [] (Zx 9 [.sl 1 t (Zq ns),.int .i64 v]):=Zd.w (.req (.lit (.nil))) (And.intro a hr) (by kernel_rfl)
theorem Ep: ∀ ps,YA ps=true->Zd DN 0 (fun st=>fin st J7=some (U5 ps)) Hg [] (Zx a4s ps):=by
 intro ps a
 have b:=a
 unfold YA at a
 split at a
 ·rename_i t xs v
  simp only[Bool.and_eq_true,decide_eq_true_eq]at a
  obtain⟨ns,rfl⟩:=TF a.1
  refine Fp ns t v b ?_
  have:=c7l (v:=v) (l:=ns) (i:=0)
  simp only[Xl,U5,T9,ge_iff_le]
  rw[<- this]
 ·cases a
end Go.Pl
namespace Go.Pl
open Go.RowKit
open Enc (enc dec is)
open EncL (encL decL isL)
set_option maxRecDepth 100000
abbrev f9t(ps:List PV)(k:Int×Er->Prop):Prop:=Yn (fun(x:Str×Unit)=>decide (List.length (Str.s (Prod.fst x))<=1000000)) (fun(x:Str×Unit)=>YL (Prod.fst x)) ps k
abbrev g3h(ps:List PV)(k:Str->Prop):Prop:=Yn (fun(x:Int×Unit)=>decide ((-9223372036854775808:Int)<=Prod.fst x)&&decide (Prod.fst x<=9223372036854775807)) (fun(x:Int×Unit)=>Zp (Prod.fst x)) ps k
abbrev g3f(ps:List PV)(k:Bool->Prop):Prop:=Yn (fun(x:Str×Unit)=>decide (List.length (Str.s (Prod.fst x))<=1000000)) (fun(x:Str×Unit)=>nameB (Prod.fst x)) ps k
abbrev e8g(ps:List PV)(k:Bool->Prop):Prop:=ceP (fun(x:Int×Unit)=>Yo (Prod.fst x)) ps k
noncomputable def Wj:IC:=YR Proofs.Tryz.f128
def WO:List IRes:=[(.tmp 2)]
abbrev d2l:Nat:=67
def V5:ZB:=Yi [(151,.pure (preT (fun _:Str×Str×Unit=>true)) (Zi (fun x:Str×Str×Unit=>x.2.1.s.isPrefixOf x.1.s))),(152,.pure (preT (fun x:Str×Unit=>decide (x.1.s.length<=1000000))) (Zi (fun x:Str×Unit=>YL x.1))),(87,.pure (preT (fun x:Int×Unit=>decide (-9223372036854775808<=x.1)&&decide (x.1<=9223372036854775807))) (Zi (fun x:Int×Unit=>Zp x.1)))]
abbrev d7i(a:List UInt8):Bool:=(decide (0<=1)&&true&&decide (Int.toNat 1<=List.length a)&&decide (List.length a<=List.length a))
abbrev F8(a:List UInt8):Nat×AV:=(34,(.pv (.sl 1 false (Zk a))))
theorem e7p{G:PV->Prop}(s:List UInt8)(h:Dx (fun(x:Str×Str×Unit)=>List.isPrefixOf (Str.s x.2.1) (Str.s x.1)) [(.str s),(.str [(95:UInt8)])] fun e:Bool=>if (e)=true then(d7i s)=true∧((f9t [(.str (List.drop (Int.toNat 1) (List.take (List.length s) s)))] fun a=>((PQ (enc a.2)&&Prod.fst (true,PV.bool (QF (enc a.2))))=true∧(if (QF (enc a.2))=true then if (decide (a.1>0))=true then if (decide ((↑(List.length s):Int)<=10))=true then(g3h [(.int .i64 a.1)] fun b=>((d7i s)=true∧(G ((.bool (Str.s b==List.drop (Int.toNat 1) (List.take (List.length s) s)))))))else(G ((.bool false)))else(G ((.bool false)))else(G ((.bool false)))))))else(At V5 0 (Za WO G) Wj 0 67 [(0,(.pv (.str s))),(F8 s),(35,(.pv (.int .i64 (↑(List.length (Zk s)):Int)))),(36,(.pv (.int .i64 0)))] [])):Zd V5 0 (Za WO G) Wj [] (Zx 67 [.str s]):=Zd.tp (dm [dv Bool,dv (Int×Er),dv Str] 70 0x2222222222220222222222022222022212271200a4222201842220294161103e452) h
theorem a5o{G:PV->Prop}(s:List UInt8)(i:Int)(h:if (decide (i<(↑(List.length (Zk s)):Int)))=true then(decide (0<=i)&&decide (Int.toNat i<List.length (Zk s))&&1==1)=true∧((decide (0+List.length [Sh.int IntKind.u8]<=List.length (PV.cells (List.getD (Zk s) (Int.toNat i) default)))&&YV (PV.cells (List.getD (Zk s) (Int.toNat i) default)) 0 [Sh.int IntKind.u8])=true∧(if (decide (PV.asInt (List.getD (PV.cells (List.getD (Zk s) (Int.toNat i) default)) 0 default)<97))=true then if (i==0)=true then G ((.bool false))else(if (decide (PV.asInt (List.getD (PV.cells (List.getD (Zk s) (Int.toNat i) default)) 0 default)<48))=true then G ((.bool false))else(if (decide (PV.asInt (List.getD (PV.cells (List.getD (Zk s) (Int.toNat i) default)) 0 default)>57))=true then G ((.bool false))else(At V5 0 (Za WO G) Wj 0 67 [(0,(.pv (.str s))),(F8 s),(35,(.pv (.int .i64 (↑(List.length (Zk s)):Int)))),(36,(.pv (.int .i64 (IntKind.wrap IntKind.i64 (i+1)))))] [])))else(if (decide (PV.asInt (List.getD (PV.cells (List.getD (Zk s) (Int.toNat i) default)) 0 default)>122))=true then if (i==0)=true then G ((.bool false))else(if (decide (PV.asInt (List.getD (PV.cells (List.getD (Zk s) (Int.toNat i) default)) 0 default)<48))=true then G ((.bool false))else(if (decide (PV.asInt (List.getD (PV.cells (List.getD (Zk s) (Int.toNat i) default)) 0 default)>57))=true then G ((.bool false))else(At V5 0 (Za WO G) Wj 0 67 [(0,(.pv (.str s))),(F8 s),(35,(.pv (.int .i64 (↑(List.length (Zk s)):Int)))),(36,(.pv (.int .i64 (IntKind.wrap IntKind.i64 (i+1)))))] [])))else(At V5 0 (Za WO G) Wj 0 67 [(0,(.pv (.str s))),(F8 s),(35,(.pv (.int .i64 (↑(List.length (Zk s)):Int)))),(36,(.pv (.int .i64 (IntKind.wrap IntKind.i64 (i+1)))))] []))))else(if (!s==[])=true then G ((.bool (decide ((↑(List.length s):Int)<=30))))else(G ((.bool false))))):At V5 0 (Za WO G) Wj 0 67 [(0,.pv (.str s)),(34,.pv (.sl 1 false (Zk s))),(35,.pv (.int .i64 (Zk s).length)),(36,.pv (.int .i64 i))] []:=At.tp (dm [] 137 0x22202222005420222222220200014222220222220064222220222222222200b422202d42220200014222220222220064222220222222222200b42222220304213107542) h
noncomputable def VB:IC:=V3
def Vy:List IRes:=[(.tmp 2)]
abbrev c0v:Nat:=54
def UM:ZB:=Yi [(129,.pure (preT (fun _:Int×Unit=>true)) (Zi (fun x:Int×Unit=>Yo x.1))),(128,.pure (preT (fun x:Str×Unit=>decide (x.1.s.length<=1000000))) (Zi (fun x:Str×Unit=>nameB x.1)))]
abbrev b1r(a:Lin):Nat×AV:=(6,(.pv (.sl 2 false (List.map enc a.t))))
theorem d4u{G:PV->Prop}(l:Lin)(h:At UM 0 (Za Vy G) VB 0 54 [(1,(.ptr 0 0)),(b1r l),(7,(.pv (.int .i64 (↑(List.length (List.map enc l.t)):Int)))),(8,(.pv (.int .i64 0)))] [(.obj (.box [(.pv (.int .i64 l.k)),(.pv (.sl 2 false (List.map enc l.t)))]))]):Zd UM 0 (Za Vy G) VB [] (Zx 54 [enc l]):=Zd.tp (.nil) h
theorem MM{G:PV->Prop}(l:Lin)(i:Int)(h:if (decide (i<(↑(List.length l.t):Int)))=true then(Xv l.t i 2 fun a=>((g3f [(.str (PV.asStr (VC a)))] fun j=>(if (!j)=true then G ((.bool false))else(if (PV.asInt (SK a)==0)=true then G ((.bool false))else(e8g [(.int .i64 (PV.asInt (SK a)))] fun g=>(if (!g)=true then G ((.bool false))else(if (decide (i>0))=true then(decide (0<=IntKind.wrap IntKind.i64 (i - 1))&&decide (Int.toNat (IntKind.wrap IntKind.i64 (i - 1))<List.length (List.map enc l.t))&&Enc.sz Coef==2)=true∧(el' l.t (IntKind.wrap IntKind.i64 (i - 1)) fun e:Coef=>if (!Op.bytesLess (PV.asStr (List.getD (List.drop 0 (PV.cells (enc e))) 0 default)) (PV.asStr (VC a)))=true then G ((.bool false))else(At UM 0 (Za Vy G) VB 0 54 [(1,(.ptr 0 0)),(b1r l),(7,(.pv (.int .i64 (↑(List.length l.t):Int)))),(8,(.pv (.int .i64 (IntKind.wrap IntKind.i64 (i+1)))))] [(.obj (.box [(.pv (.int .i64 l.k)),(.pv (.sl 2 false (List.map enc l.t)))]))]))else(At UM 0 (Za Vy G) VB 0 54 [(1,(.ptr 0 0)),(b1r l),(7,(.pv (.int .i64 (↑(List.length l.t):Int)))),(8,(.pv (.int .i64 (IntKind.wrap IntKind.i64 (i+1)))))] [(.obj (.box [(.pv (.int .i64 l.k)),(.pv (.sl 2 false (List.map enc l.t)))]))])))))))))else(e8g [(.int .i64 l.k)] fun b=>(if (b)=true then G ((.bool (decide ((↑(List.length (List.map enc l.t)):Int)<=12))))else(G ((.bool false)))))):At UM 0 (Za Vy G) VB 0 54 [(1,.ptr 0 0),(6,.pv (enc l.t)),(7,.pv (.int .i64 l.t.length)),(8,.pv (.int .i64 i))] [.obj (.box [.pv (.int .i64 l.k),.pv (enc l.t)])]:=At.tp (dm [dr Coef,dv Bool] 128 0x2222022222006462022222222222222020001422222222225122222018422202222200642262220222222222200b4222202222222222222200f46125106942) h
end Go.Pl
namespace Go.Pl
open Go.RowKit
open Enc (enc dec is)
open EncL (encL decL isL)
theorem a0y{s:List UInt8}{i:Nat}(h:i<s.length):List.getD (Zk s) (Int.toNat (i:Int)) default = .int .u8 (s[i].toNat:Int):=by
 simp[Zk,List.getD,h]
theorem Qj(s:List UInt8):(Zk s).length=s.length:=by simp[Zk]
def a2b(c:UInt8):Bool:=lowB c||digB c
theorem OI{c:UInt8}:lowB c=true ↔ 97<=c.toNat∧c.toNat<=122:=by
 simp only[lowB,Bool.and_eq_true,decide_eq_true_eq,UInt8.le_iff_toNat_le]
 have a:(97:UInt8).toNat=97:=rfl
 have b:(122:UInt8).toNat=122:=rfl
 rw[a,b]
theorem Gr{c:UInt8}(h : ¬ (97<=c.toNat∧c.toNat<=122)):lowB c=false:=by
 cases e:lowB c
 ·rfl
 ·exact absurd (OI.1 e) h
theorem Gw{c:UInt8}(h : ¬ (48<=c.toNat∧c.toNat<=57)):digB c=false:=by
 cases e:digB c
 ·rfl
 ·exact absurd (Vk.1 e) h
def XX(s:List UInt8)(i:Nat):Bool:=(match i with|0=>(match s with|[]=>true|c::r=>lowB c&&r.all a2b)|i+1=>(s.drop (i+1)).all a2b)&&(!(s==[]))&&decide (s.length<=30)
theorem NN{s:List UInt8}{i:Nat}(h:i<s.length)(hb:lowB s[i]=true∨(i≠0∧digB s[i]=true)):XX s i=XX s (i+1):=by
 cases i with
 | zero=>
  cases s with
  | nil=>simp at h
  | cons c r=>
   rcases hb with hb|hb
   ·have hb:lowB c=true:=hb
    simp[XX,hb]
   ·exact absurd rfl hb.1
 | succ i=>
  unfold XX
  simp only
  rw[List.drop_eq_getElem_cons h,List.all_cons]
  have:a2b s[i+1]=true:=by
   rcases hb with hb|hb
   ·simp[a2b,hb]
   ·simp[a2b,hb.2]
  rw[this,Bool.true_and]
theorem M6{s:List UInt8}{i:Nat}(h:i<s.length)(hb:lowB s[i]=false∧(i=0∨digB s[i]=false)):XX s i=false:=by
 cases i with
 | zero=>
  cases s with
  | nil=>simp at h
  | cons c r=>
   have hb:lowB c=false:=hb.1
   simp[XX,hb]
 | succ i=>
  unfold XX
  simp only
  rw[List.drop_eq_getElem_cons h,List.all_cons]
  have:a2b s[i+1]=false:=by
   rcases hb.2 with h0|h0
   ·cases h0
   ·simp[a2b,hb.1,h0]
  rw[this];simp
theorem a8j(s:List UInt8)(hs:s.length<=1000000): ∀ (m i:Nat),m+i=s.length->At V5 0 (Za WO (Zf (XX s i))) Wj 0 67 [(0,.pv (.str s)),(34,.pv (.sl 1 false (Zk s))),(35,.pv (.int .i64 (Zk s).length)),(36,.pv (.int .i64 i))] []:=by
 intro m
 induction m with
 | zero=>
  intro i hi
  have e:XX s i=(!(s==[])&&decide (s.length<=30)):=by
   unfold XX
   cases i with
   | zero=>cases s with
    | nil=>rfl
    | cons c r=>simp at hi
   | succ i=>simp only;rw[List.drop_of_length_le (show s.length<=i+1 by omega)];simp
  rw[e]
  refine a5o s i (ZV (YD (by rw[Qj];omega)) (YX (fun h=>Zl ?_) fun h=>Zl ?_))
  ·rw[h,Bool.true_and];exact decide_eq_decide.2 (by omega)
  ·rw[h,Bool.false_and]
 | succ m ih=>
  intro i hi
  have a:i<s.length:=by omega
  have h:=ih (i+1) (by omega)
  refine a5o s i ?_
  rw[a0y a,next (by omega)]
  have b:(lowB s[i]=false∧(i=0∨digB s[i]=false))->Zf (XX s i) (.bool false):=fun hb=>Zl (M6 a hb).symm
  have go:(lowB s[i]=true∨(i≠0∧digB s[i]=true))->At V5 0 (Za WO (Zf (XX s i))) Wj 0 67 [(0,.pv (.str s)),(34,.pv (.sl 1 false (Zk s))),(35,.pv (.int .i64 (Zk s).length)),(36,.pv (.int .i64 ((i+1:Nat):Int)))] []:=fun hb=>by rw[NN a hb];exact h
  have g:lowB s[i]=false->(if ((i:Int)==0)=true then Zf (XX s i) (.bool false)else if decide ((s[i].toNat:Int)<48)=true then Zf (XX s i) (.bool false)else if decide ((s[i].toNat:Int)>57)=true then Zf (XX s i) (.bool false)else At V5 0 (Za WO (Zf (XX s i))) Wj 0 67 [(0,.pv (.str s)),(34,.pv (.sl 1 false (Zk s))),(35,.pv (.int .i64 (Zk s).length)),(36,.pv (.int .i64 ((i+1:Nat):Int)))] []):=by
   intro j
   refine Zy (fun k=>b ⟨j,.inl (by omega)⟩) fun k=>ZU (fun h1=>b ⟨j,.inr (Gw (by omega))⟩) fun h1=>ZU (fun h2=>b ⟨j,.inr (Gw (by omega))⟩) fun h2=>go (.inr ⟨by omega,Vk.2 (by omega)⟩)
  refine ZN (Yw (by rw[Qj];exact a)) ⟨by rw[Qj];simp[a],by rfl,?_⟩
  refine ZU (fun h1=>g (Gr ?_)) fun h1=>ZU (fun h2=>g (Gr ?_)) fun h2=>go (.inl (OI.2 ?_))
  ·have h1:(s[i].toNat:Int)<97:=h1
   omega
  ·have h2:(s[i].toNat:Int)>122:=h2
   omega
  ·have h1 : ¬ (s[i].toNat:Int)<97:=h1
   have h2 : ¬ (s[i].toNat:Int)>122:=h2
   omega
theorem Mr{s:List UInt8}(h:[95].isPrefixOf s=false):nameB ⟨s⟩=XX s 0:=by
 cases s with
 | nil=>rfl
 | cons c r=>
  have hc : ¬ c=95:=by intro e;subst e;simp at h
  have e:decide ((c::r).length<=30)=decide (r.length<=29):=decide_eq_decide.2 (by simp)
  unfold XX
  rw[e]
  simp only[nameB,if_neg hc]
  show _=(lowB c&&r.all a2b&& !((c::r)==[])&&_)
  have a:((c::r)==[])=false:=rfl
  rw[a]
  simp only[Bool.not_false,Bool.and_true]
  rfl
theorem RV(s:Str): -9223372036854775808<=(YL s).1∧((YL s).1<=9223372036854775807):=by
 unfold YL
 split
 ·rename_i v a;exact Lib.atoiAll_bounds a
 ·have:=Lib.atoiSat_bounds s.s
  exact⟨by show _<=Lib.atoiSat s.s;omega,by show Lib.atoiSat s.s<=_;omega⟩
 ·exact⟨by show(-9223372036854775808:Int)<=0;omega,by show(0:Int)<=_;omega⟩
theorem b8u: ∀ a:Str×Unit,decide (a.1.s.length<=1000000)=true->Zd V5 0 (Za WO (Zf (nameB a.1))) Wj [] (Zx d2l (encL a)):=by
 rintro⟨⟨s⟩,⟨⟩⟩ b
 have b:s.length<=1000000:=by simpa using b
 refine e7p s (Zb (⟨s⟩,⟨[95]⟩,()) rfl (YX (fun h=> ?_) fun h=> ?_))
 ·have h:[95].isPrefixOf s=true:=h
  obtain⟨r,rfl⟩ : ∃ r,s=95::r:=by
   cases s with
   | nil=>simp at h
   | cons c r=>
    have:95=c:=by simpa using h
    exact⟨r,by rw[this]⟩
  have e:List.drop (Int.toNat 1) (List.take (List.length (95::r)) (95::r))=r:=by rw[List.take_of_length_le (Nat.le_refl _)];rfl
  simp only[e]
  refine⟨by simp,Zc (⟨r⟩,()) rfl (by simp at b ⊢;omega),Zb (⟨r⟩,()) rfl ⟨by show(PQ (enc (YL ⟨r⟩).2)&&true)=true;rw[e8r];rfl,?_⟩⟩
  show if QF (enc (YL ⟨r⟩).2)=true then(if decide ((YL ⟨r⟩).1>0)=true then(if _ then _ else Zf (nameB ⟨95::r⟩) _)else Zf (nameB ⟨95::r⟩) _)else Zf (nameB ⟨95::r⟩) _
  rw[a1i]
  by_cases h9:r.length<=9
  ·rw[<- b2v r h9,decide_eq_true h9,Bool.and_true]
   refine YX (fun h1=>YX (fun h2=>ZN (by simp;omega) ⟨Zc ((YL ⟨r⟩).1,()) rfl (by have:=RV ⟨r⟩;simp;omega),Zb ((YL ⟨r⟩).1,()) rfl ⟨by simp,Zl ?_⟩⟩) fun h2=>Zl ?_) fun h1=>Zl ?_
   ·rw[h1,h2];simp only[Bool.true_and,Bool.and_true];rfl
   ·rw[h2];simp
   ·rw[h1];simp
  ·rw[decide_eq_false h9,Bool.and_false]
   refine YX (fun h1=>YX (fun h2=>ZV (by simp;omega) (Zl rfl)) fun h2=>Zl rfl) fun h1=>Zl rfl
 ·have h:[95].isPrefixOf s=false:=h
  show At V5 0 (Za WO (Zf (nameB ⟨s⟩))) Wj 0 67 _ _
  rw[Mr h]
  exact a8j s b s.length 0 (by omega)
theorem a1a(l:Lin)(hl:l.t.length<=9223372036854775807)(hs:l.t.all (fun t=>decide (t.v.s.length<=1000000))=true): ∀ (j i:Nat),j+i=l.t.length->At UM 0 (Za Vy (Zf (Ap (pvS l.t i) (l.t.drop i)&&(Yo l.k&&decide (l.t.length<=12))))) VB 0 54 [(1,.ptr 0 0),(6,.pv (enc l.t)),(7,.pv (.int .i64 l.t.length)),(8,.pv (.int .i64 i))] [.obj (.box [.pv (.int .i64 l.k),.pv (enc l.t)])]:=by
 intro j
 induction j with
 | zero=>
  intro i hi
  refine MM l i (ZV (YD (by omega)) (Zb (l.k,()) rfl ?_))
  rw[List.drop_of_length_le (show l.t.length<=i by omega)]
  refine YX (fun h=>Zl ?_) fun h=>Zl ?_
  ·have h:Yo l.k=true:=h
   rw[h]
   show _=(true&&(true&&_))
   rw[Bool.true_and,Bool.true_and]
   exact decide_eq_decide.2 (by simp;omega)
  ·have h:Yo l.k=false:=h
   rw[h];simp
 | succ j ih=>
  intro i hi
  have a:i<l.t.length:=by omega
  have h:=ih (i+1) (by omega)
  have e:l.t[i].v.s.length<=1000000:=by rw[List.all_eq_true]at hs;simpa using hs _ (List.getElem_mem a)
  refine MM l i ?_
  refine ZN (Yw a) ⟨Zt a rfl,ZK a ⟨Zc (l.t[i].v,()) rfl (by simpa using e),Zb (l.t[i].v,()) rfl (Y8 (fun hn=> ?_) fun hn=>Zy (fun hc=> ?_) fun hc=>Zb (l.t[i].c,()) rfl (Y8 (fun b=> ?_) fun b=> ?_))⟩⟩
  all_goals rw[List.drop_eq_getElem_cons a,JR]
  ·have hn:nameB l.t[i].v=false:=hn
   exact Zl (by simp[hn])
  ·have hc:l.t[i].c=0:=hc
   exact Zl (by simp[hc])
  ·have b:Yo l.t[i].c=false:=b
   exact Zl (by simp[b])
  have hn:nameB l.t[i].v=true:=hn
  have b:Yo l.t[i].c=true:=b
  have hc:l.t[i].c≠0:=hc
  rw[next (by omega),hn,b,decide_eq_true hc]
  have m:pvS l.t (i+1)=some l.t[i].v.s:=by simp[pvS,a]
  rw[m]at h
  cases i with
  | zero=>exact ZV (by simp) h
  | succ i=>
   refine ZN (by simp) ?_
   rw[Fg (by omega)]
   refine⟨Zt (by omega) rfl,ZK (by omega) ?_⟩
   have q:pvS l.t (i+1)=some l.t[i].v.s:=by simp[pvS,show i<l.t.length by omega]
   rw[q]
   refine Y8 (fun hb=> ?_) fun hb=> ?_
   all_goals
    have g:=(Wi l.t[i].v.s l.t[i+1].v.s).symm.trans hb
    simp only[g,Bool.and_true,Bool.true_and,Bool.and_false,Bool.false_and]
   ·exact Zl rfl
   ·exact h
theorem a7y: ∀ a:Lin×Unit,Wu a.1=true->Zd UM 0 (Za Vy (Zf (Zg a.1))) VB [] (Zx c0v (encL a)):=by
 rintro⟨l,⟨⟩⟩ hl
 simp only[Wu,XK,Bool.and_eq_true,decide_eq_true_eq]at hl
 refine d4u l ?_
 show At UM 0 (Za Vy (Zf (Zg l))) VB 0 54 _ _
 have e:Zg l=(Ap (pvS l.t 0) (l.t.drop 0)&&(Yo l.k&&decide (l.t.length<=12))):=by rw[TZ,Bool.and_comm];rfl
 rw[e,List.length_map]
 exact a1a l hl.1 hl.2 l.t.length 0 (by omega)
end Go.Pl
namespace Go.Pl
open Go.RowKit
open Enc (enc dec is)
open EncL (encL decL isL)
set_option maxRecDepth 100000
abbrev g0c(ps:List PV)(k:Str->Prop):Prop:=Yn (fun(x:Int×Unit)=>decide ((-9223372036854775808:Int)<=Prod.fst x)&&decide (Prod.fst x<=9223372036854775807)) (fun(x:Int×Unit)=>Zp (Prod.fst x)) ps k
abbrev e9t(ps:List PV)(k:Str->Prop):Prop:=Yn (fun(x:Str×Str×Unit)=>decide (List.length (Str.s (Prod.fst x))<=1000000)) (fun(x:Str×Str×Unit)=>Str.mk (Lib.trimSuffix (Str.s (Prod.fst x)) (Str.s (Prod.fst (Prod.snd x))))) ps k
abbrev g2x(ps:List PV)(k:Bool->Prop):Prop:=Yn (fun(x:Lin×Unit)=>Wu (Prod.fst x)) (fun(x:Lin×Unit)=>Zg (Prod.fst x)) ps k
noncomputable def Ev:IC:=YR Proofs.Tryz.f92
def OP:List IRes:=[]
abbrev e5q:Nat:=33
def b0m:ZB:=Yi [(87,.pure (preT (fun x:Int×Unit=>decide (-9223372036854775808<=x.1)&&decide (x.1<=9223372036854775807))) (Zi (fun x:Int×Unit=>Zp x.1))),(93,.pure (preT (fun x:Str×Str×Unit=>decide (x.1.s.length<=1000000))) (Zi (fun x:Str×Str×Unit=>(⟨Lib.trimSuffix x.1.s x.2.1.s⟩:Str))))]
theorem f5i{G:AV×List AObj×List AObj->Prop}(n:Int)(s o:List UInt8)(h:(g0c [(.int .i64 n)] fun a=>(if (!s==[])=true then if (n==1)=true then(e9t [(.str (Str.s a)),(.str [(49:UInt8)])] fun e=>(if (decide (n ≥ 0))=true then if (!o==[])=true then ZA o [(43:UInt8)]∧(ZA (Str.s e) s∧(ZA (o++[(43:UInt8)]) (Str.s e++s)∧(G (((.tup []),([(.box [(.pv (.str (o++[(43:UInt8)]++(Str.s e++s))))])],[]))))))else(ZA (Str.s e) s∧(ZA o (Str.s e++s)∧(G (((.tup []),([(.box [(.pv (.str (o++(Str.s e++s))))])],[]))))))else(ZA (Str.s e) s∧(ZA o (Str.s e++s)∧(G (((.tup []),([(.box [(.pv (.str (o++(Str.s e++s))))])],[]))))))))else(if (n==(-1:Int))=true then(e9t [(.str (Str.s a)),(.str [(49:UInt8)])] fun b=>(if (decide (n ≥ 0))=true then if (!o==[])=true then ZA o [(43:UInt8)]∧(ZA (Str.s b) s∧(ZA (o++[(43:UInt8)]) (Str.s b++s)∧(G (((.tup []),([(.box [(.pv (.str (o++[(43:UInt8)]++(Str.s b++s))))])],[]))))))else(ZA (Str.s b) s∧(ZA o (Str.s b++s)∧(G (((.tup []),([(.box [(.pv (.str (o++(Str.s b++s))))])],[]))))))else(ZA (Str.s b) s∧(ZA o (Str.s b++s)∧(G (((.tup []),([(.box [(.pv (.str (o++(Str.s b++s))))])],[]))))))))else(if (decide (n ≥ 0))=true then if (!o==[])=true then ZA o [(43:UInt8)]∧(ZA (Str.s a) s∧(ZA (o++[(43:UInt8)]) (Str.s a++s)∧(G (((.tup []),([(.box [(.pv (.str (o++[(43:UInt8)]++(Str.s a++s))))])],[]))))))else(ZA (Str.s a) s∧(ZA o (Str.s a++s)∧(G (((.tup []),([(.box [(.pv (.str (o++(Str.s a++s))))])],[]))))))else(ZA (Str.s a) s∧(ZA o (Str.s a++s)∧(G (((.tup []),([(.box [(.pv (.str (o++(Str.s a++s))))])],[]))))))))else(if (decide (n ≥ 0))=true then if (!o==[])=true then ZA o [(43:UInt8)]∧(ZA (Str.s a) s∧(ZA (o++[(43:UInt8)]) (Str.s a++s)∧(G (((.tup []),([(.box [(.pv (.str (o++[(43:UInt8)]++(Str.s a++s))))])],[]))))))else(ZA (Str.s a) s∧(ZA o (Str.s a++s)∧(G (((.tup []),([(.box [(.pv (.str (o++(Str.s a++s))))])],[]))))))else(ZA (Str.s a) s∧(ZA o (Str.s a++s)∧(G (((.tup []),([(.box [(.pv (.str (o++(Str.s a++s))))])],[])))))))))):Zd b0m 1 (Xw 1 OP G) Ev [] (UZ 33 [.pv (enc n),.pv (.str s),.ptr 0 0] [.box [.pv (.str o)]]):=Zd.to (dm [dv Str] 138 0x112220110111004422200e42222220112220110111004422200e420112220110111004422200e425101b4222220112220110111004422200e42512222202042220644251) h
noncomputable def Ql:IC:=YR Proofs.Tryz.f58
def Ug:List IRes:=[(.tmp 2)]
abbrev b8z:Nat:=37
def Qz:ZB:=Yi [(91,.pure (preT (fun x:Lin×Unit=>Wu x.1)) (Zi (fun x:Lin×Unit=>Zg x.1))),(92,.own WJ Bg)]
theorem c5a{G:PV->Prop}(l:Lin)(h:(g2x [(.agg [(.int .i64 l.k),(.sl 2 false (List.map enc l.t))])] fun a=>(if (!a)=true then G ((.str []))else(At Qz 0 (Za Ug G) Ql 0 37 [(1,(.ptr 0 0)),(3,(.ptr 1 0)),(4,(.fn 92 [] [(.ptr 1 0)])),(12,(.pv (.sl 2 false (List.map enc l.t)))),(13,(.pv (.int .i64 (↑(List.length (List.map enc l.t)):Int)))),(14,(.pv (.int .i64 0)))] [(.obj (.box [(.pv (.int .i64 l.k)),(.pv (.sl 2 false (List.map enc l.t)))])),(.obj (.box [(.pv (.str []))]))])))):Zd Qz 0 (Za Ug G) Ql [] (Zx 37 [enc l]):=Zd.tp (dm [dv Bool] 9 0x1451) h
theorem NW{G:PV->Prop}(l:Lin)(o:List UInt8)(i:Int)(h:if (decide (i<(↑(List.length l.t):Int)))=true then(Xv l.t i 2 fun a=>((WJ [(.pv (.int .i64 (PV.asInt (SK a)))),(.pv (.str (PV.asStr (VC a)))),(.ptr 0 0)] [(.box [(.pv (.str o))])])=true∧(At Qz 0 (Za Ug G) Ql 0 37 [(1,(.ptr 0 0)),(3,(.ptr 1 0)),(4,(.fn 92 [] [(.ptr 1 0)])),(12,(.pv (.sl 2 false (List.map enc l.t)))),(13,(.pv (.int .i64 (↑(List.length l.t):Int)))),(14,(.pv (.int .i64 (IntKind.wrap IntKind.i64 (i+1)))))] [(.obj (.box [(.pv (.int .i64 l.k)),(.pv (.sl 2 false (List.map enc l.t)))])),(.obj (.box [(.pv (.str (XR o (PV.asInt (SK a)) (PV.asStr (VC a)))))]))])))else(if (l.k != 0)=true then(WJ [(.pv (.int .i64 l.k)),(.pv (.str [])),(.ptr 0 0)] [(.box [(.pv (.str o))])])=true∧(G ((.str (XR o l.k []))))else(if (o==[])=true then(WJ [(.pv (.int .i64 l.k)),(.pv (.str [])),(.ptr 0 0)] [(.box [(.pv (.str o))])])=true∧(G ((.str (XR o l.k []))))else(G ((.str o)))))):At Qz 0 (Za Ug G) Ql 0 37 [(1,.ptr 0 0),(3,.ptr 1 0),(4,.fn 92 [] [.ptr 1 0]),(12,.pv (enc l.t)),(13,.pv (.int .i64 l.t.length)),(14,.pv (.int .i64 i))] [.obj (.box [.pv (.int .i64 l.k),.pv (enc l.t)]),.obj (.box [.pv (.str o)])]:=At.tp (dm [dr Coef] 35 0x31003422203122200642023125100742) h
end Go.Pl
namespace Go.Pl
open Go.RowKit
open Enc (enc dec is)
open EncL (encL decL isL)
theorem a4e(s p:List UInt8):(Lib.trimSuffix s p).length<=s.length:=by
 unfold Lib.trimSuffix
 split
 ·rw[List.length_take];omega
 ·exact Nat.le_refl _
theorem d5u: ∀ args os,WJ args os=true->Zd b0m os.length (Xw os.length OP fun r=>r=Bg args os) Ev [] (UZ e5q args os):=by
 intro args os h
 unfold WJ at h
 split at h
 ·rename_i n s o
  simp only[Bool.and_eq_true,decide_eq_true_eq]at h
  obtain⟨⟨⟨l,k⟩,hs⟩,ho⟩:=h
  have ev:Bg [.pv (.int .i64 n),.pv (.str s),.ptr 0 0] [.box [.pv (.str o)]]=(.tup [],[.box [.pv (.str (XR o n s))]],[]):=rfl
  rw[ev]
  have hi:=Lib.itoa_length_le n l k
  have hi:(Zp n).s.length<=21:=hi
  have ht:=a4e (Zp n).s [49]
  have fin : ∀ (b:Bool) (x:List UInt8),x.length<=21->(decide (s≠[])&&(decide (n=1)||decide (n = -1)))=b->x=(if b then Lib.trimSuffix (Zp n).s [49]else(Zp n).s) ->
    (if decide (n ≥ 0)=true then(if (!o==[])=true then(decide (o.length+List.length [(43:UInt8)]<=1099511627776)=true∧(decide (x.length+s.length<=1099511627776)=true∧(decide (List.length (o++[(43:UInt8)])+List.length (x++s)<=1099511627776)=true∧((AV.tup [],[AObj.box [.pv (.str (o++[(43:UInt8)]++(x++s)))]],([]:List AObj))=(.tup [],[.box [.pv (.str (XR o n s))]],[])))))
     else(decide (x.length+s.length<=1099511627776)=true∧(decide (o.length+List.length (x++s)<=1099511627776)=true∧((AV.tup [],[AObj.box [.pv (.str (o++(x++s)))]],([]:List AObj))=(.tup [],[.box [.pv (.str (XR o n s))]],[])))))
    else(decide (x.length+s.length<=1099511627776)=true∧(decide (o.length+List.length (x++s)<=1099511627776)=true∧((AV.tup [],[AObj.box [.pv (.str (o++(x++s)))]],([]:List AObj))=(.tup [],[.box [.pv (.str (XR o n s))]],[]))))):=by
   intro b x hx hb g
   have j : ∀ i:List UInt8,i=(if decide (n ≥ 0)&&decide (o≠[])then o++[43]else o)->XR o n s=i++(x++s):=by
    intro i h2
    unfold XR
    rw[hb,<- h2,<- g]
   refine ZU (fun e=>Dz (fun h1=> ?_) fun h1=> ?_) fun e=> ?_
   ·have h1:o≠[]:=by simpa using h1
    refine⟨by simp;omega,by simp;omega,by simp;omega,?_⟩
    rw[j (o++[43]) (by simp[e,h1])]
   ·have h1:o=[]:=by simpa using h1
    refine⟨by simp;omega,by simp;omega,?_⟩
    rw[j o (by simp[h1])]
   ·refine⟨by simp;omega,by simp;omega,?_⟩
    rw[j o (by simp[e])]
  refine f5i n s o ⟨Zc (n,()) rfl (by show(decide (-9223372036854775808<=n)&&decide (n<=9223372036854775807))=true;rw[decide_eq_true l,decide_eq_true k];rfl),Zb (n,()) rfl (Dz (fun h1=> ?_) fun h1=> ?_)⟩
  ·have h1:s≠[]:=by simpa using h1
   have a:decide ((Zp n).s.length<=1000000)=true:=decide_eq_true (by omega)
   refine Zy (fun h2=> ?_) fun h2=>Zy (fun h3=> ?_) fun h3=> ?_
   ·have h2:n=1:=h2
    exact⟨Zc (Zp n,(⟨[49]⟩:Str),()) rfl a,Zb (Zp n,(⟨[49]⟩:Str),()) rfl (fin true _ (by show(Lib.trimSuffix (Zp n).s [49]).length<=21;omega) (by simp[h1,h2]) rfl)⟩
   ·have h3:n = -1:=h3
    exact⟨Zc (Zp n,(⟨[49]⟩:Str),()) rfl a,Zb (Zp n,(⟨[49]⟩:Str),()) rfl (fin true _ (by show(Lib.trimSuffix (Zp n).s [49]).length<=21;omega) (by simp[h1,h3]) rfl)⟩
   ·have h2:n≠1:=h2
    have h3:n ≠ -1:=h3
    exact fin false _ hi (by simp[h2,h3]) rfl
  ·have h1:s=[]:=by simpa using h1
   exact fin false _ hi (by simp[h1]) rfl
 ·cases h
theorem d1x(o:List UInt8)(n:Int)(s:List UInt8)(a : -9223372036854775808<=n)(b:n<=9223372036854775807):(XR o n s).length<=o.length+1+21+s.length:=by
 have hi:=Lib.itoa_length_le n a b
 have hi:(Zp n).s.length<=21:=hi
 have ht:=a4e (Zp n).s [49]
 unfold XR
 split <;> split <;> simp <;> omega
theorem a5c(l:Lin)(e:Zg l=true): ∀ (m i:Nat) (o:List UInt8),m+i=l.t.length->o.length<=100*i ->
  At Qz 0 (Za Ug (Zf (⟨if decide (l.k≠0)||decide ((l.t.drop i).foldl (fun o t=>XR o t.c t.v.s) o=[])then XR ((l.t.drop i).foldl (fun o t=>XR o t.c t.v.s) o) l.k []else(l.t.drop i).foldl (fun o t=>XR o t.c t.v.s) o⟩:Str))) Ql 0 37 [(1,.ptr 0 0),(3,.ptr 1 0),(4,.fn 92 [] [.ptr 1 0]),(12,.pv (enc l.t)),(13,.pv (.int .i64 l.t.length)),(14,.pv (.int .i64 i))] [.obj (.box [.pv (.int .i64 l.k),.pv (enc l.t)]),.obj (.box [.pv (.str o)])]:=by
 have hlen:=Uh e
 have hk:=Od e
 intro m
 induction m with
 | zero=>
  intro i o hi ho
  have g:l.t.drop i=[]:=List.drop_of_length_le (by omega)
  rw[g,List.foldl_nil]
  have b:WJ [.pv (.int .i64 l.k),.pv (.str []),.ptr 0 0] [.box [.pv (.str o)]]=true:=by
   simp only[WJ,Bool.and_eq_true,decide_eq_true_eq,List.length_nil]
   exact⟨⟨⟨by omega,by omega⟩,by omega⟩,by omega⟩
  refine NW l o i (ZV (YD (by omega)) (Dz (fun h1=>⟨b,?_⟩) fun h1=>Zy (fun h2=>⟨b,?_⟩) fun h2=> ?_))
  ·have h1:l.k≠0:=by simpa using h1
   rw[if_pos (by simp[h1])]
   exact⟨rfl,rfl⟩
  ·have h2:o=[]:=h2
   rw[if_pos (by simp[h2])]
   exact⟨rfl,rfl⟩
  ·have h1:l.k=0:=by simpa using h1
   have h2:o≠[]:=h2
   rw[if_neg (by simp[h1,h2])]
   exact⟨rfl,rfl⟩
 | succ m ih=>
  intro i o hi ho
  have a:i<l.t.length:=by omega
  have g:l.t.drop i=l.t[i]::l.t.drop (i+1):=List.drop_eq_getElem_cons a
  rw[g,List.foldl_cons]
  obtain⟨h,c1,c2,c3⟩:=WK e (List.getElem_mem a)
  have hn:=Ve h
  have hpl:=d1x o l.t[i].c l.t[i].v.s (by omega) (by omega)
  refine NW l o i (ZN (Yw a) ⟨Zt a rfl,ZK a ⟨?_,?_⟩⟩)
  ·have b:WJ [.pv (.int .i64 l.t[i].c),.pv (.str l.t[i].v.s),.ptr 0 0] [.box [.pv (.str o)]]=true:=by
    simp only[WJ,Bool.and_eq_true,decide_eq_true_eq]
    exact⟨⟨⟨by omega,by omega⟩,by omega⟩,by omega⟩
   exact b
  ·rw[next (by omega)]
   exact ih (i+1) (XR o l.t[i].c l.t[i].v.s) (by omega) (by omega)
theorem a8c: ∀ a:Lin×Unit,Wu a.1=true->Zd Qz 0 (Za Ug (Zf (⟨ZC a.1⟩:Str))) Ql [] (Zx b8z (encL a)):=by
 rintro⟨l,⟨⟩⟩ h
 show Zd Qz 0 (Za Ug (Zf (⟨ZC l⟩:Str))) _ _ _
 refine c5a l ⟨Zc (l,()) rfl h,Zb (l,()) rfl (Y8 (fun b=> ?_) fun b=> ?_)⟩
 ·have b:Zg l=false:=b
  unfold ZC
  rw[b]
  exact⟨rfl,rfl⟩
 ·have b:Zg l=true:=b
  unfold ZC
  rw[b,if_pos rfl,List.length_map]
  exact a5c l b l.t.length 0 [] (by omega) (by simp)
structure BoxT where
 v:List Str
 m:Int
 deriving DecidableEq
instance:Enc BoxT where
 sz:=2
 enc x:=.agg [enc x.v,enc x.m]
 dec | .agg [a,b]=>⟨dec a,dec b⟩|_=>⟨[],0⟩
 is | .agg [a,b]=>is (List Str) a&&is Int b|_=>false
 is_enc v:=by simp
 dec_enc v:=by simp
 sub p h:=by
  cases p with
  | agg xs=>
   match xs,h with
   | [a,b],h=>
    simp only[Bool.and_eq_true]at h
    exact .agg (.cons (Enc.sub a h.1).2 (.cons (Enc.sub b h.2).2 .nil))
  | _=>cases h
@[simp] theorem g4e (a b : PV) : is BoxT (.agg [a, b]) = (is (List Str) a && is Int b) := rfl
@[simp] theorem g2r (a b : PV) : (dec (.agg [a, b]) : BoxT) = ⟨dec a, dec b⟩ := rfl
structure Mono where
 c:Int
 v:List Str
 deriving DecidableEq
instance:Enc Mono where
 sz:=2
 enc x:=.agg [enc x.c,enc x.v]
 dec | .agg [a,b]=>⟨dec a,dec b⟩|_=>⟨0,[]⟩
 is | .agg [a,b]=>is Int a&&is (List Str) b|_=>false
 is_enc v:=by simp
 dec_enc v:=by simp
 sub p h:=by
  cases p with
  | agg xs=>
   match xs,h with
   | [a,b],h=>
    simp only[Bool.and_eq_true]at h
    exact .agg (.cons (Enc.sub a h.1).2 (.cons (Enc.sub b h.2).2 .nil))
  | _=>cases h
@[simp] theorem g4a (a b : PV) : is Mono (.agg [a, b]) = (is Int a && is (List Str) b) := rfl
@[simp] theorem f9b (a b : PV) : (dec (.agg [a, b]) : Mono) = ⟨dec a, dec b⟩ := rfl
structure NilS where
 deriving DecidableEq
instance:Enc NilS where
 sz:=1
 enc _:=.sl 0 true []
 dec _:=⟨⟩
 is | .sl 0 true []=>true|_=>false
 is_enc _:=rfl
 dec_enc _:=rfl
 sub p h:=by
  cases p with
  | sl s t xs=>
   cases xs with
   | nil=>cases s with
    | zero=>cases t with
     | true=>exact .refl _
     | false=>cases h
    | succ s=>cases h
   | cons x xs=>cases s <;> cases t <;> cases h
  | _=>cases h
def Va(l:Lin):List Str:=l.t.map (·.v)
end Go.Pl
namespace Go.Pl
open Go.RowKit
open Enc (enc dec is)
open EncL (encL decL isL)
set_option maxRecDepth 100000
abbrev f8t(ps:List PV)(k:Int×Er->Prop):Prop:=Yn (fun(x:Str×Unit)=>decide (List.length (Str.s (Prod.fst x))<=281474976710656)) (fun(x:Str×Unit)=>YL (Prod.fst x)) ps k
abbrev f8m(ps:List PV)(k:Str->Prop):Prop:=Yn (fun(x:Int×Unit)=>decide ((-9223372036854775808:Int)<=Prod.fst x)&&decide (Prod.fst x<=9223372036854775807)) (fun(x:Int×Unit)=>Zp (Prod.fst x)) ps k
noncomputable def UG:IC:=YR Proofs.Tryz.f101
def UD:List IRes:=[(.tmp 2)]
abbrev d8k:Nat:=20
def QX:ZB:=Yi []
-- IMPOSSIBLE
abbrev b0l(a:Lin):Nat×AV:=(7,(.pv (.sl 2 false (List.map enc a.t))))
theorem d4w{G:PV->Prop}(l:Lin)(h:At QX 0 (Za UD G) UG 0 20 [(3,(.pv (.sl 0 true []))),(b0l l),(8,(.pv (.int .i64 (↑(List.length (List.map enc l.t)):Int)))),(9,(.pv (.int .i64 0)))] []):Zd QX 0 (Za UD G) UG [] (Zx 20 [enc l]):=Zd.tp (.nil) h
theorem Pi{G:PV->Prop}(l:Lin)(i:Int)(h:if (decide (i<(↑(List.length l.t):Int)))=true then(Xv l.t i 2 fun a=>(At QX 0 (Za UD G) UG 0 20 [(3,(.row 0 1 0 1)),(b0l l),(8,(.pv (.int .i64 (↑(List.length l.t):Int)))),(9,(.pv (.int .i64 (IntKind.wrap IntKind.i64 (i+1)))))] [(.obj (.row false 9 1 [(.str (PV.asStr (VC a)))]))]))else(G ((.sl 0 true [])))):At QX 0 (Za UD G) UG 0 20 [(3,.pv (.sl 0 true [])),(7,.pv (enc l.t)),(8,.pv (.int .i64 l.t.length)),(9,.pv (.int .i64 i))] []:=At.tp (dm [dr Coef] 17 0x22222225100a42) h
theorem PL{G:PV->Prop}(l:Lin)(i:Int)(q:Nat)(vs:List Str)(h:if (decide (i<(↑(List.length l.t):Int)))=true then(Xv l.t i 2 fun a=>((List.length (List.map enc vs)==q&&q==q&&decide ((q+List.length (List.drop 0 (List.take 1 [Sh.co Sh.str (VC a)])))*16<=1099511627776)&&decide (q+List.length (List.drop 0 (List.take 1 [Sh.co Sh.str (VC a)]))<=1099511627776))=true∧(At QX 0 (Za UD G) UG 0 20 [(3,(.row 0 (q+List.length (List.drop 0 (List.take 1 [Sh.co Sh.str (VC a)]))) 0 (q+List.length (List.drop 0 (List.take 1 [Sh.co Sh.str (VC a)]))))),(b0l l),(8,(.pv (.int .i64 (↑(List.length l.t):Int)))),(9,(.pv (.int .i64 (IntKind.wrap IntKind.i64 (i+1)))))] [(.obj (.row false 9 1 (List.map enc vs++List.drop 0 (List.take 1 [Sh.co Sh.str (VC a)]))))])))else((List.length (List.map enc vs)==q)=true∧(G ((.sl 1 false (List.drop 0 (List.take q (List.map enc vs)))))))):At QX 0 (Za UD G) UG 0 20 [(3,.row 0 q 0 q),(7,.pv (enc l.t)),(8,.pv (.int .i64 l.t.length)),(9,.pv (.int .i64 i))] [.obj (.row false 9 1 (vs.map enc))]:=At.tp (dm [dr Coef] 16 0x10212225100842) h
noncomputable def X0:IC:=Wj
def XZ:List IRes:=[(.tmp 2)]
abbrev c3n:Nat:=67
def WP:ZB:=Yi [(151,.pure (preT (fun _:Str×Str×Unit=>true)) (Zi (fun x:Str×Str×Unit=>x.2.1.s.isPrefixOf x.1.s))),(152,.pure (preT (fun x:Str×Unit=>decide (x.1.s.length<=281474976710656))) (Zi (fun x:Str×Unit=>YL x.1))),(87,.pure (preT (fun x:Int×Unit=>decide (-9223372036854775808<=x.1)&&decide (x.1<=9223372036854775807))) (Zi (fun x:Int×Unit=>Zp x.1)))]
abbrev d3x(a:List UInt8):Bool:=(decide (0<=1)&&true&&decide (Int.toNat 1<=List.length a)&&decide (List.length a<=List.length a))
abbrev FM(a:List UInt8):Nat×AV:=(34,(.pv (.sl 1 false (Zk a))))
theorem c6x{G:PV->Prop}(s:List UInt8)(h:Dx (fun(x:Str×Str×Unit)=>List.isPrefixOf (Str.s x.2.1) (Str.s x.1)) [(.str s),(.str [(95:UInt8)])] fun e:Bool=>if (e)=true then(d3x s)=true∧((f8t [(.str (List.drop (Int.toNat 1) (List.take (List.length s) s)))] fun a=>((PQ (enc a.2)&&Prod.fst (true,PV.bool (QF (enc a.2))))=true∧(if (QF (enc a.2))=true then if (decide (a.1>0))=true then if (decide ((↑(List.length s):Int)<=10))=true then(f8m [(.int .i64 a.1)] fun b=>((d3x s)=true∧(G ((.bool (Str.s b==List.drop (Int.toNat 1) (List.take (List.length s) s)))))))else(G ((.bool false)))else(G ((.bool false)))else(G ((.bool false)))))))else(At WP 0 (Za XZ G) X0 0 67 [(0,(.pv (.str s))),(FM s),(35,(.pv (.int .i64 (↑(List.length (Zk s)):Int)))),(36,(.pv (.int .i64 0)))] [])):Zd WP 0 (Za XZ G) X0 [] (Zx 67 [.str s]):=Zd.tp (dm [dv Bool,dv (Int×Er),dv Str] 70 0x2222222222220222222222022222022212271200a4222201842220294161103e452) h
theorem Mc{G:PV->Prop}(s:List UInt8)(i:Int)(h:if (decide (i<(↑(List.length (Zk s)):Int)))=true then(decide (0<=i)&&decide (Int.toNat i<List.length (Zk s))&&1==1)=true∧((decide (0+List.length [Sh.int IntKind.u8]<=List.length (PV.cells (List.getD (Zk s) (Int.toNat i) default)))&&YV (PV.cells (List.getD (Zk s) (Int.toNat i) default)) 0 [Sh.int IntKind.u8])=true∧(if (decide (PV.asInt (List.getD (PV.cells (List.getD (Zk s) (Int.toNat i) default)) 0 default)<97))=true then if (i==0)=true then G ((.bool false))else(if (decide (PV.asInt (List.getD (PV.cells (List.getD (Zk s) (Int.toNat i) default)) 0 default)<48))=true then G ((.bool false))else(if (decide (PV.asInt (List.getD (PV.cells (List.getD (Zk s) (Int.toNat i) default)) 0 default)>57))=true then G ((.bool false))else(At WP 0 (Za XZ G) X0 0 67 [(0,(.pv (.str s))),(FM s),(35,(.pv (.int .i64 (↑(List.length (Zk s)):Int)))),(36,(.pv (.int .i64 (IntKind.wrap IntKind.i64 (i+1)))))] [])))else(if (decide (PV.asInt (List.getD (PV.cells (List.getD (Zk s) (Int.toNat i) default)) 0 default)>122))=true then if (i==0)=true then G ((.bool false))else(if (decide (PV.asInt (List.getD (PV.cells (List.getD (Zk s) (Int.toNat i) default)) 0 default)<48))=true then G ((.bool false))else(if (decide (PV.asInt (List.getD (PV.cells (List.getD (Zk s) (Int.toNat i) default)) 0 default)>57))=true then G ((.bool false))else(At WP 0 (Za XZ G) X0 0 67 [(0,(.pv (.str s))),(FM s),(35,(.pv (.int .i64 (↑(List.length (Zk s)):Int)))),(36,(.pv (.int .i64 (IntKind.wrap IntKind.i64 (i+1)))))] [])))else(At WP 0 (Za XZ G) X0 0 67 [(0,(.pv (.str s))),(FM s),(35,(.pv (.int .i64 (↑(List.length (Zk s)):Int)))),(36,(.pv (.int .i64 (IntKind.wrap IntKind.i64 (i+1)))))] []))))else(if (!s==[])=true then G ((.bool (decide ((↑(List.length s):Int)<=30))))else(G ((.bool false))))):At WP 0 (Za XZ G) X0 0 67 [(0,.pv (.str s)),(34,.pv (.sl 1 false (Zk s))),(35,.pv (.int .i64 (Zk s).length)),(36,.pv (.int .i64 i))] []:=At.tp (dm [] 137 0x22202222005420222222220200014222220222220064222220222222222200b422202d42220200014222220222220064222220222222222200b42222220304213107542) h
end Go.Pl
namespace Go.Pl
open Go.RowKit
open Enc (enc dec is)
open EncL (encL decL isL)
theorem a3n(s:List UInt8)(hs:s.length<=281474976710656): ∀ (m i:Nat),m+i=s.length->At WP 0 (Za XZ (Zf (XX s i))) X0 0 67 [(0,.pv (.str s)),(34,.pv (.sl 1 false (Zk s))),(35,.pv (.int .i64 (Zk s).length)),(36,.pv (.int .i64 i))] []:=by
 intro m
 induction m with
 | zero=>
  intro i hi
  have e:XX s i=(!(s==[])&&decide (s.length<=30)):=by
   unfold XX
   cases i with
   | zero=>cases s with
    | nil=>rfl
    | cons c r=>simp at hi
   | succ i=>simp only;rw[List.drop_of_length_le (show s.length<=i+1 by omega)];simp
  rw[e]
  refine Mc s i (ZV (YD (by rw[Qj];omega)) (YX (fun h=>Zl ?_) fun h=>Zl ?_))
  ·rw[h,Bool.true_and];exact decide_eq_decide.2 (by omega)
  ·rw[h,Bool.false_and]
 | succ m ih=>
  intro i hi
  have a:i<s.length:=by omega
  have h:=ih (i+1) (by omega)
  refine Mc s i ?_
  rw[a0y a,next (by omega)]
  have b:(lowB s[i]=false∧(i=0∨digB s[i]=false))->Zf (XX s i) (.bool false):=fun hb=>Zl (M6 a hb).symm
  have go:(lowB s[i]=true∨(i≠0∧digB s[i]=true))->At WP 0 (Za XZ (Zf (XX s i))) X0 0 67 [(0,.pv (.str s)),(34,.pv (.sl 1 false (Zk s))),(35,.pv (.int .i64 (Zk s).length)),(36,.pv (.int .i64 ((i+1:Nat):Int)))] []:=fun hb=>by rw[NN a hb];exact h
  have g:lowB s[i]=false->(if ((i:Int)==0)=true then Zf (XX s i) (.bool false)else if decide ((s[i].toNat:Int)<48)=true then Zf (XX s i) (.bool false)else if decide ((s[i].toNat:Int)>57)=true then Zf (XX s i) (.bool false)else At WP 0 (Za XZ (Zf (XX s i))) X0 0 67 [(0,.pv (.str s)),(34,.pv (.sl 1 false (Zk s))),(35,.pv (.int .i64 (Zk s).length)),(36,.pv (.int .i64 ((i+1:Nat):Int)))] []):=by
   intro j
   refine Zy (fun k=>b ⟨j,.inl (by omega)⟩) fun k=>ZU (fun h1=>b ⟨j,.inr (Gw (by omega))⟩) fun h1=>ZU (fun h2=>b ⟨j,.inr (Gw (by omega))⟩) fun h2=>go (.inr ⟨by omega,Vk.2 (by omega)⟩)
  refine ZN (Yw (by rw[Qj];exact a)) ⟨by rw[Qj];simp[a],by rfl,?_⟩
  refine ZU (fun h1=>g (Gr ?_)) fun h1=>ZU (fun h2=>g (Gr ?_)) fun h2=>go (.inl (OI.2 ?_))
  ·have h1:(s[i].toNat:Int)<97:=h1
   omega
  ·have h2:(s[i].toNat:Int)>122:=h2
   omega
  ·have h1 : ¬ (s[i].toNat:Int)<97:=h1
   have h2 : ¬ (s[i].toNat:Int)>122:=h2
   omega
theorem b1l: ∀ a:Str×Unit,decide (a.1.s.length<=281474976710656)=true->Zd WP 0 (Za XZ (Zf (nameB a.1))) X0 [] (Zx c3n (encL a)):=by
 rintro⟨⟨s⟩,⟨⟩⟩ b
 have b:s.length<=281474976710656:=by simpa using b
 refine c6x s (Zb (⟨s⟩,⟨[95]⟩,()) rfl (YX (fun h=> ?_) fun h=> ?_))
 ·have h:[95].isPrefixOf s=true:=h
  obtain⟨r,rfl⟩ : ∃ r,s=95::r:=by
   cases s with
   | nil=>simp at h
   | cons c r=>
    have:95=c:=by simpa using h
    exact⟨r,by rw[this]⟩
  have e:List.drop (Int.toNat 1) (List.take (List.length (95::r)) (95::r))=r:=by rw[List.take_of_length_le (Nat.le_refl _)];rfl
  simp only[e]
  refine⟨by simp,Zc (⟨r⟩,()) rfl (by simp at b ⊢;omega),Zb (⟨r⟩,()) rfl ⟨by show(PQ (enc (YL ⟨r⟩).2)&&true)=true;rw[e8r];rfl,?_⟩⟩
  show if QF (enc (YL ⟨r⟩).2)=true then(if decide ((YL ⟨r⟩).1>0)=true then(if _ then _ else Zf (nameB ⟨95::r⟩) _)else Zf (nameB ⟨95::r⟩) _)else Zf (nameB ⟨95::r⟩) _
  rw[a1i]
  by_cases h9:r.length<=9
  ·rw[<- b2v r h9,decide_eq_true h9,Bool.and_true]
   refine YX (fun h1=>YX (fun h2=>ZN (by simp;omega) ⟨Zc ((YL ⟨r⟩).1,()) rfl (by have:=RV ⟨r⟩;simp;omega),Zb ((YL ⟨r⟩).1,()) rfl ⟨by simp,Zl ?_⟩⟩) fun h2=>Zl ?_) fun h1=>Zl ?_
   ·rw[h1,h2];simp only[Bool.true_and,Bool.and_true];rfl
   ·rw[h2];simp
   ·rw[h1];simp
  ·rw[decide_eq_false h9,Bool.and_false]
   refine YX (fun h1=>YX (fun h2=>ZV (by simp;omega) (Zl rfl)) fun h2=>Zl rfl) fun h1=>Zl rfl
 ·have h:[95].isPrefixOf s=false:=h
  show At WP 0 (Za XZ (Zf (nameB ⟨s⟩))) X0 0 67 _ _
  rw[Mr h]
  exact a3n s b s.length 0 (by omega)
end Go.Pl
namespace Go.Pl
theorem e0o{T:ZB}{k:Nat}{ic:IC}{K:List Fr}{st:St}{rs:List IRes}{p:PV}(h:Zd T k (Za rs fun r=>r=p) ic K st):Zd T k (fun st=>fin st rs=some p) ic K st:=by
 have e:Za rs (fun r=>r=p)=fun st=>fin st rs=some p:=by
  funext st
  apply propext
  constructor
  ·rintro⟨q,k,rfl⟩;exact k
  ·intro k;exact⟨p,k,rfl⟩
 rw[<- e];exact h
end Go.Pl
namespace Go.Pl
open Go.RowKit
open Enc (enc dec is)
open EncL (encL decL isL)
def Yx(n:Nd)(a b c d e:Bool):Bool:=
 (a||decide (n.name.s=[]))&&(b||decide (n.num=0))&&(c||(decide (n.elem.s=[])&&decide (n.dims.length+n.data.length=0)))&&(d||decide (n.sizes.length=0))&&(e||decide (n.ranks.length=0))
def g1r:List (List UInt8):=[[124,124],[38,38],[61,61],[33,61],[60],[60,61],[62],[62,61],[43],[45],[42],[47],[37],[33]]
def Cj(t:Tm):R3 Str Int Bool:=match He t.nd t.ks.length with
 | none=>⟨⟨[]⟩,0,false⟩
 | some r=>⟨⟨r.s⟩,r.l,r.u⟩
def Au(b:Bool)(t:Tm):Str:=⟨V8 b (ZM t)⟩
def P6(y:Tm)(b:Bool):List PV:=Kk y++[.bool b]
theorem d1i(t:Tm)(b:Bool):P6 t b=encL (t,b,()):=by unfold P6;rw[Yb];rfl
def K9(n:Nd)(ks:List Tm)(a b c d e:Bool):List PV:=CO n ks++[.bool a,.bool b,.bool c,.bool d,.bool e]
theorem FJ(n:Nd)(ks:List Tm)(a b c d e:Bool):K9 n ks a b c d e=encL (Tm.mk n ks,a,b,c,d,e,()):=by unfold K9;rw[ZY];rfl
def ZL:List PV:=g1r.map .str
end Go.Pl
namespace Go.Pl
open Go.RowKit
open Enc (enc dec is)
open EncL (encL decL isL)
set_option maxRecDepth 100000
abbrev f9a(ps:List PV)(k:List Tm->Prop):Prop:=Yn (fun(x:Tm×Unit)=>tW (Prod.fst x)) (fun(x:Tm×Unit)=>XI (Prod.fst x)) ps k
abbrev g0k(ps:List PV)(k:List Str->Prop):Prop:=ceP (fun(x:List Str×Str×Unit)=>Ul (Prod.fst x) (Prod.fst (Prod.snd x))) ps k
abbrev g1h(ps:List PV)(k:List Str->Prop):Prop:=Yn (fun(x:List Str×Str×Unit)=>decide (List.length (Prod.fst x)<=1048576)) (fun(x:List Str×Str×Unit)=>Ul (Prod.fst x) (Prod.fst (Prod.snd x))) ps k
abbrev b7a(ps:List PV)(k:R3 Str Int Bool->Prop):Prop:=ceP (fun(x:Str×Bool×Unit)=>Vb (Prod.fst x) (Prod.fst (Prod.snd x))) ps k
abbrev f0g(ps:List PV)(k:R3 Str Int Bool->Prop):Prop:=Yn (fun(x:Tm×Unit)=>tW (Prod.fst x)) (fun(x:Tm×Unit)=>Cj (Prod.fst x)) ps k
abbrev Sq(N:Nat)(ps:List PV)(k:Str->Prop):Prop:=Yn (fun(x:Tm×Unit)=>tW (Prod.fst x)&&Z9 (Prod.fst x)&&decide (Z4 (Prod.fst x)<N)) (fun(x:Tm×Unit)=>Zr (Prod.fst x)) ps k
abbrev b3t(ps:List PV)(k:Str->Prop):Prop:=Yn (fun(x:Lin×Unit)=>Wu (Prod.fst x)) (fun(x:Lin×Unit)=>Str.mk (ZC (Prod.fst x))) ps k
abbrev g2q(ps:List PV)(k:Str->Prop):Prop:=Yn (fun(x:List Lin×Unit)=>decide (List.length (Prod.fst x)<=1048576)&&List.all (Prod.fst x) Zg) (fun(x:List Lin×Unit)=>Yh (List.map Yr (Prod.fst x))) ps k
abbrev MG(ps:List PV)(k:Str->Prop):Prop:=Yn (fun(x:Int×Unit)=>decide (Int.natAbs (Prod.fst x)<9223372036854775808)) (fun(x:Int×Unit)=>Zp (Prod.fst x)) ps k
abbrev RH(N:Nat)(ps:List PV)(k:Str->Prop):Prop:=Yn (fun(x:List Tm×Unit)=>tsW (Prod.fst x)&&Wo (Prod.fst x)&&decide (Yc (Prod.fst x)<N)) (fun(x:List Tm×Unit)=>Yh (List.map Zr (Prod.fst x))) ps k
abbrev Qq(ps:List PV)(k:Int->Prop):Prop:=Yn (fun(x:Tm×Unit)=>tW (Prod.fst x)) (fun(x:Tm×Unit)=>Wh (Prod.fst x)) ps k
abbrev WQ(N:Nat)(ps:List PV)(k:Str->Prop):Prop:=Yn (fun(x:Tm×Bool×Unit)=>tW (Prod.fst x)&&Z9 (Prod.fst x)&&decide (Z4 (Prod.fst x)<N)) (fun(x:Tm×Bool×Unit)=>Au (Prod.fst (Prod.snd x)) (Prod.fst x)) ps k
abbrev c9y(N:Nat)(ps:List PV)(k:Str->Prop):Prop:=Yn (fun(x:Tm×Unit)=>tW (Prod.fst x)&&Z9 (Prod.fst x)&&decide (Nd.kind (Tm.nd (Prod.fst x))=6)&&decide (Yc (Tm.ks (Prod.fst x))<N)) (fun(x:Tm×Unit)=>Q3 (Prod.fst x)) ps k
abbrev c8l(ps:List PV)(k:Str×Int->Prop):Prop:=Yn (fun(x:Arr×Unit)=>VF (Prod.fst x)&&WF (Prod.fst x)) (fun(x:Arr×Unit)=>JO (Prod.fst x)) ps k
abbrev f1k(ps:List PV)(k:Bool->Prop):Prop:=Yn (fun(x:Tm×Unit)=>tW (Prod.fst x)) (fun(x:Tm×Unit)=>Y6 (Prod.fst x)) ps k
abbrev f5l(ps:List PV)(k:List Str->Prop):Prop:=Yn (fun(x:Tm×Unit)=>tW (Prod.fst x)) (fun(x:Tm×Unit)=>JL (Prod.fst x)) ps k
abbrev f0h(ps:List PV)(k:Bool->Prop):Prop:=Yn (fun(x:Str×Unit)=>decide (List.length (Str.s (Prod.fst x))<=1048576)) (fun(x:Str×Unit)=>nameI (Str.s (Prod.fst x))) ps k
noncomputable def Gx:IC:=YR Proofs.Tryz.f107
def GG:List IRes:=[(.tmp 4)]
abbrev e2a:Nat:=45
def Ay:ZB:=Yi []
theorem f4j{G:PV->Prop}(l:List Str)(s:List UInt8)(h:At Ay 0 (Za GG G) Gx 0 45 [(0,(.pv (.sl 1 false (List.map enc l)))),(1,(.pv (.str s))),(5,(.pv (.int .i64 0)))] []):Zd Ay 0 (Za GG G) Gx [] (Zx 45 [enc l,.str s]):=Zd.tp (.nil) h
abbrev OA(a:Int)(XV:List Str):Bool:=(List.isEmpty (List.drop 0 (List.take (Int.toNat a) (List.map enc XV)))||Enc.sz Str==1)
theorem b2r{G:PV->Prop}(l:List Str)(s:List UInt8)(i:Int)(h:if (Al l i)=true then(Xv l i 1 fun a=>(if (Op.bytesLess (PV.asStr (VC a)) s)=true then At Ay 0 (Za GG G) Gx 0 45 [(0,(.pv (.sl 1 false (List.map enc l)))),(1,(.pv (.str s))),(5,(.pv (.int .i64 (IntKind.wrap IntKind.i64 (i+1)))))] []else(if (Al l i)=true then(Xv l i 1 fun e=>(if (PV.asStr (VC e)==s)=true then G ((.sl 1 false (List.map enc l)))else((true&&decide (0<=i)&&(List.isEmpty (List.map enc l)||Enc.sz Str==1)&&decide (0<=Int.toNat i)&&decide (Int.toNat i<=List.length (List.map enc l)))=true∧((OA i l)=true∧((List.length ([]:List PV)==0&&0==0&&decide ((0+List.length (List.drop 0 (List.take (Int.toNat i) (List.map enc l))))*16<=1099511627776)&&decide (0+List.length (List.drop 0 (List.take (Int.toNat i) (List.map enc l)))<=1099511627776))=true∧((List.length (([]:List PV)++List.drop 0 (List.take (Int.toNat i) (List.map enc l)))==0+List.length (List.drop 0 (List.take (Int.toNat i) (List.map enc l)))&&0+List.length (List.drop 0 (List.take (Int.toNat i) (List.map enc l)))==0+List.length (List.drop 0 (List.take (Int.toNat i) (List.map enc l)))&&decide ((0+List.length (List.drop 0 (List.take (Int.toNat i) (List.map enc l)))+List.length (List.drop 0 (List.take 1 [PV.str s])))*16<=1099511627776)&&decide (0+List.length (List.drop 0 (List.take (Int.toNat i) (List.map enc l)))+List.length (List.drop 0 (List.take 1 [PV.str s]))<=1099511627776))=true∧((decide (0<=i)&&true&&(List.isEmpty (List.map enc l)||Enc.sz Str==1)&&decide (Int.toNat i<=List.length (List.map enc l))&&decide (List.length (List.map enc l)<=List.length (List.map enc l)))=true∧((List.isEmpty (List.drop (Int.toNat i) (List.take (List.length (List.map enc l)) (List.map enc l)))||Enc.sz Str==1)=true∧((List.length (([]:List PV)++List.drop 0 (List.take (Int.toNat i) (List.map enc l))++List.drop 0 (List.take 1 [PV.str s]))==0+List.length (List.drop 0 (List.take (Int.toNat i) (List.map enc l)))+List.length (List.drop 0 (List.take 1 [PV.str s]))&&0+List.length (List.drop 0 (List.take (Int.toNat i) (List.map enc l)))+List.length (List.drop 0 (List.take 1 [PV.str s]))==0+List.length (List.drop 0 (List.take (Int.toNat i) (List.map enc l)))+List.length (List.drop 0 (List.take 1 [PV.str s]))&&decide ((0+List.length (List.drop 0 (List.take (Int.toNat i) (List.map enc l)))+List.length (List.drop 0 (List.take 1 [PV.str s]))+List.length (List.drop (Int.toNat i) (List.take (List.length (List.map enc l)) (List.map enc l))))*16<=1099511627776)&&decide (0+List.length (List.drop 0 (List.take (Int.toNat i) (List.map enc l)))+List.length (List.drop 0 (List.take 1 [PV.str s]))+List.length (List.drop (Int.toNat i) (List.take (List.length (List.map enc l)) (List.map enc l)))<=1099511627776))=true∧((List.length (([]:List PV)++List.drop 0 (List.take (Int.toNat i) (List.map enc l))++List.drop 0 (List.take 1 [PV.str s])++List.drop (Int.toNat i) (List.take (List.length (List.map enc l)) (List.map enc l)))==0+List.length (List.drop 0 (List.take (Int.toNat i) (List.map enc l)))+List.length (List.drop 0 (List.take 1 [PV.str s]))+List.length (List.drop (Int.toNat i) (List.take (List.length (List.map enc l)) (List.map enc l))))=true∧(G ((.sl 1 false (List.drop 0 (List.take (0+List.length (List.drop 0 (List.take (Int.toNat i) (List.map enc l)))+List.length (List.drop 0 (List.take 1 [PV.str s]))+List.length (List.drop (Int.toNat i) (List.take (List.length (List.map enc l)) (List.map enc l)))) (([]:List PV)++List.drop 0 (List.take (Int.toNat i) (List.map enc l))++List.drop 0 (List.take 1 [PV.str s])++List.drop (Int.toNat i) (List.take (List.length (List.map enc l)) (List.map enc l))))))))))))))))))else((true&&decide (0<=i)&&(List.isEmpty (List.map enc l)||Enc.sz Str==1)&&decide (0<=Int.toNat i)&&decide (Int.toNat i<=List.length (List.map enc l)))=true∧((OA i l)=true∧((List.length ([]:List PV)==0&&0==0&&decide ((0+List.length (List.drop 0 (List.take (Int.toNat i) (List.map enc l))))*16<=1099511627776)&&decide (0+List.length (List.drop 0 (List.take (Int.toNat i) (List.map enc l)))<=1099511627776))=true∧((List.length (([]:List PV)++List.drop 0 (List.take (Int.toNat i) (List.map enc l)))==0+List.length (List.drop 0 (List.take (Int.toNat i) (List.map enc l)))&&0+List.length (List.drop 0 (List.take (Int.toNat i) (List.map enc l)))==0+List.length (List.drop 0 (List.take (Int.toNat i) (List.map enc l)))&&decide ((0+List.length (List.drop 0 (List.take (Int.toNat i) (List.map enc l)))+List.length (List.drop 0 (List.take 1 [PV.str s])))*16<=1099511627776)&&decide (0+List.length (List.drop 0 (List.take (Int.toNat i) (List.map enc l)))+List.length (List.drop 0 (List.take 1 [PV.str s]))<=1099511627776))=true∧((decide (0<=i)&&true&&(List.isEmpty (List.map enc l)||Enc.sz Str==1)&&decide (Int.toNat i<=List.length (List.map enc l))&&decide (List.length (List.map enc l)<=List.length (List.map enc l)))=true∧((List.isEmpty (List.drop (Int.toNat i) (List.take (List.length (List.map enc l)) (List.map enc l)))||Enc.sz Str==1)=true∧((List.length (([]:List PV)++List.drop 0 (List.take (Int.toNat i) (List.map enc l))++List.drop 0 (List.take 1 [PV.str s]))==0+List.length (List.drop 0 (List.take (Int.toNat i) (List.map enc l)))+List.length (List.drop 0 (List.take 1 [PV.str s]))&&0+List.length (List.drop 0 (List.take (Int.toNat i) (List.map enc l)))+List.length (List.drop 0 (List.take 1 [PV.str s]))==0+List.length (List.drop 0 (List.take (Int.toNat i) (List.map enc l)))+List.length (List.drop 0 (List.take 1 [PV.str s]))&&decide ((0+List.length (List.drop 0 (List.take (Int.toNat i) (List.map enc l)))+List.length (List.drop 0 (List.take 1 [PV.str s]))+List.length (List.drop (Int.toNat i) (List.take (List.length (List.map enc l)) (List.map enc l))))*16<=1099511627776)&&decide (0+List.length (List.drop 0 (List.take (Int.toNat i) (List.map enc l)))+List.length (List.drop 0 (List.take 1 [PV.str s]))+List.length (List.drop (Int.toNat i) (List.take (List.length (List.map enc l)) (List.map enc l)))<=1099511627776))=true∧((List.length (([]:List PV)++List.drop 0 (List.take (Int.toNat i) (List.map enc l))++List.drop 0 (List.take 1 [PV.str s])++List.drop (Int.toNat i) (List.take (List.length (List.map enc l)) (List.map enc l)))==0+List.length (List.drop 0 (List.take (Int.toNat i) (List.map enc l)))+List.length (List.drop 0 (List.take 1 [PV.str s]))+List.length (List.drop (Int.toNat i) (List.take (List.length (List.map enc l)) (List.map enc l))))=true∧(G ((.sl 1 false (List.drop 0 (List.take (0+List.length (List.drop 0 (List.take (Int.toNat i) (List.map enc l)))+List.length (List.drop 0 (List.take 1 [PV.str s]))+List.length (List.drop (Int.toNat i) (List.take (List.length (List.map enc l)) (List.map enc l)))) (([]:List PV)++List.drop 0 (List.take (Int.toNat i) (List.map enc l))++List.drop 0 (List.take 1 [PV.str s])++List.drop (Int.toNat i) (List.take (List.length (List.map enc l)) (List.map enc l)))))))))))))))))))else(if (Al l i)=true then(Xv l i 1 fun b=>(if (PV.asStr (VC b)==s)=true then G ((.sl 1 false (List.map enc l)))else((true&&decide (0<=i)&&(List.isEmpty (List.map enc l)||Enc.sz Str==1)&&decide (0<=Int.toNat i)&&decide (Int.toNat i<=List.length (List.map enc l)))=true∧((OA i l)=true∧((List.length ([]:List PV)==0&&0==0&&decide ((0+List.length (List.drop 0 (List.take (Int.toNat i) (List.map enc l))))*16<=1099511627776)&&decide (0+List.length (List.drop 0 (List.take (Int.toNat i) (List.map enc l)))<=1099511627776))=true∧((List.length (([]:List PV)++List.drop 0 (List.take (Int.toNat i) (List.map enc l)))==0+List.length (List.drop 0 (List.take (Int.toNat i) (List.map enc l)))&&0+List.length (List.drop 0 (List.take (Int.toNat i) (List.map enc l)))==0+List.length (List.drop 0 (List.take (Int.toNat i) (List.map enc l)))&&decide ((0+List.length (List.drop 0 (List.take (Int.toNat i) (List.map enc l)))+List.length (List.drop 0 (List.take 1 [PV.str s])))*16<=1099511627776)&&decide (0+List.length (List.drop 0 (List.take (Int.toNat i) (List.map enc l)))+List.length (List.drop 0 (List.take 1 [PV.str s]))<=1099511627776))=true∧((decide (0<=i)&&true&&(List.isEmpty (List.map enc l)||Enc.sz Str==1)&&decide (Int.toNat i<=List.length (List.map enc l))&&decide (List.length (List.map enc l)<=List.length (List.map enc l)))=true∧((List.isEmpty (List.drop (Int.toNat i) (List.take (List.length (List.map enc l)) (List.map enc l)))||Enc.sz Str==1)=true∧((List.length (([]:List PV)++List.drop 0 (List.take (Int.toNat i) (List.map enc l))++List.drop 0 (List.take 1 [PV.str s]))==0+List.length (List.drop 0 (List.take (Int.toNat i) (List.map enc l)))+List.length (List.drop 0 (List.take 1 [PV.str s]))&&0+List.length (List.drop 0 (List.take (Int.toNat i) (List.map enc l)))+List.length (List.drop 0 (List.take 1 [PV.str s]))==0+List.length (List.drop 0 (List.take (Int.toNat i) (List.map enc l)))+List.length (List.drop 0 (List.take 1 [PV.str s]))&&decide ((0+List.length (List.drop 0 (List.take (Int.toNat i) (List.map enc l)))+List.length (List.drop 0 (List.take 1 [PV.str s]))+List.length (List.drop (Int.toNat i) (List.take (List.length (List.map enc l)) (List.map enc l))))*16<=1099511627776)&&decide (0+List.length (List.drop 0 (List.take (Int.toNat i) (List.map enc l)))+List.length (List.drop 0 (List.take 1 [PV.str s]))+List.length (List.drop (Int.toNat i) (List.take (List.length (List.map enc l)) (List.map enc l)))<=1099511627776))=true∧((List.length (([]:List PV)++List.drop 0 (List.take (Int.toNat i) (List.map enc l))++List.drop 0 (List.take 1 [PV.str s])++List.drop (Int.toNat i) (List.take (List.length (List.map enc l)) (List.map enc l)))==0+List.length (List.drop 0 (List.take (Int.toNat i) (List.map enc l)))+List.length (List.drop 0 (List.take 1 [PV.str s]))+List.length (List.drop (Int.toNat i) (List.take (List.length (List.map enc l)) (List.map enc l))))=true∧(G ((.sl 1 false (List.drop 0 (List.take (0+List.length (List.drop 0 (List.take (Int.toNat i) (List.map enc l)))+List.length (List.drop 0 (List.take 1 [PV.str s]))+List.length (List.drop (Int.toNat i) (List.take (List.length (List.map enc l)) (List.map enc l)))) (([]:List PV)++List.drop 0 (List.take (Int.toNat i) (List.map enc l))++List.drop 0 (List.take 1 [PV.str s])++List.drop (Int.toNat i) (List.take (List.length (List.map enc l)) (List.map enc l))))))))))))))))))else((true&&decide (0<=i)&&(List.isEmpty (List.map enc l)||Enc.sz Str==1)&&decide (0<=Int.toNat i)&&decide (Int.toNat i<=List.length (List.map enc l)))=true∧((OA i l)=true∧((List.length ([]:List PV)==0&&0==0&&decide ((0+List.length (List.drop 0 (List.take (Int.toNat i) (List.map enc l))))*16<=1099511627776)&&decide (0+List.length (List.drop 0 (List.take (Int.toNat i) (List.map enc l)))<=1099511627776))=true∧((List.length (([]:List PV)++List.drop 0 (List.take (Int.toNat i) (List.map enc l)))==0+List.length (List.drop 0 (List.take (Int.toNat i) (List.map enc l)))&&0+List.length (List.drop 0 (List.take (Int.toNat i) (List.map enc l)))==0+List.length (List.drop 0 (List.take (Int.toNat i) (List.map enc l)))&&decide ((0+List.length (List.drop 0 (List.take (Int.toNat i) (List.map enc l)))+List.length (List.drop 0 (List.take 1 [PV.str s])))*16<=1099511627776)&&decide (0+List.length (List.drop 0 (List.take (Int.toNat i) (List.map enc l)))+List.length (List.drop 0 (List.take 1 [PV.str s]))<=1099511627776))=true∧((decide (0<=i)&&true&&(List.isEmpty (List.map enc l)||Enc.sz Str==1)&&decide (Int.toNat i<=List.length (List.map enc l))&&decide (List.length (List.map enc l)<=List.length (List.map enc l)))=true∧((List.isEmpty (List.drop (Int.toNat i) (List.take (List.length (List.map enc l)) (List.map enc l)))||Enc.sz Str==1)=true∧((List.length (([]:List PV)++List.drop 0 (List.take (Int.toNat i) (List.map enc l))++List.drop 0 (List.take 1 [PV.str s]))==0+List.length (List.drop 0 (List.take (Int.toNat i) (List.map enc l)))+List.length (List.drop 0 (List.take 1 [PV.str s]))&&0+List.length (List.drop 0 (List.take (Int.toNat i) (List.map enc l)))+List.length (List.drop 0 (List.take 1 [PV.str s]))==0+List.length (List.drop 0 (List.take (Int.toNat i) (List.map enc l)))+List.length (List.drop 0 (List.take 1 [PV.str s]))&&decide ((0+List.length (List.drop 0 (List.take (Int.toNat i) (List.map enc l)))+List.length (List.drop 0 (List.take 1 [PV.str s]))+List.length (List.drop (Int.toNat i) (List.take (List.length (List.map enc l)) (List.map enc l))))*16<=1099511627776)&&decide (0+List.length (List.drop 0 (List.take (Int.toNat i) (List.map enc l)))+List.length (List.drop 0 (List.take 1 [PV.str s]))+List.length (List.drop (Int.toNat i) (List.take (List.length (List.map enc l)) (List.map enc l)))<=1099511627776))=true∧((List.length (([]:List PV)++List.drop 0 (List.take (Int.toNat i) (List.map enc l))++List.drop 0 (List.take 1 [PV.str s])++List.drop (Int.toNat i) (List.take (List.length (List.map enc l)) (List.map enc l)))==0+List.length (List.drop 0 (List.take (Int.toNat i) (List.map enc l)))+List.length (List.drop 0 (List.take 1 [PV.str s]))+List.length (List.drop (Int.toNat i) (List.take (List.length (List.map enc l)) (List.map enc l))))=true∧(G ((.sl 1 false (List.drop 0 (List.take (0+List.length (List.drop 0 (List.take (Int.toNat i) (List.map enc l)))+List.length (List.drop 0 (List.take 1 [PV.str s]))+List.length (List.drop (Int.toNat i) (List.take (List.length (List.map enc l)) (List.map enc l)))) (([]:List PV)++List.drop 0 (List.take (Int.toNat i) (List.map enc l))++List.drop 0 (List.take 1 [PV.str s])++List.drop (Int.toNat i) (List.take (List.length (List.map enc l)) (List.map enc l)))))))))))))))))):At Ay 0 (Za GG G) Gx 0 45 [(0,.pv (enc l)),(1,.pv (.str s)),(5,.pv (.int .i64 i))] []:=At.tp (dm [dr Str] 131 0x11111221112222222201111122111200014222222512201b422222222011111221112222222201111122111200014222222512201b42020024222222512204342) h
noncomputable def ZT:IC:=YR Proofs.Tryz.f71
def ZO:List IRes:=[(.tmp 2)]
abbrev c5o:Nat:=56
def Z8:ZB:=Yi [(49,.pure (preT (fun x:Tm×Unit=>tW x.1)) (Zi (fun x:Tm×Unit=>XI x.1))),(107,.pure (preT (fun x:List Str×Str×Unit=>decide (x.1.length<=1048576))) (Zi (fun x:List Str×Str×Unit=>Ul x.1 x.2.1)))]
theorem e2c{G:PV->Prop}(n:Nd)(ks:List Tm)(h:(f9a (CO n ks) fun a=>(At Z8 0 (Za ZO G) ZT 0 56 [(3,(.pv (.sl 0 true []))),(4,(.pv (.sl 10 false (List.map enc a)))),(5,(.pv (.int .i64 0)))] []))):Zd Z8 0 (Za ZO G) ZT [] (Zx 56 [.agg [enc n.kind,enc n.line,enc n.name,enc n.num,enc n.elem,enc n.dims,enc n.data,enc n.sizes,enc n.ranks,enc ks]]):=Zd.tp (.req (FV (List Tm) (.nil))) h
abbrev Q9(a:List Tm):Nat×AV:=(4,(.pv (.sl 10 false (List.map enc a))))
theorem b9x{G:PV->Prop}(n:Nd)(ks:List Tm)(y:List Tm)(i:Int)(h:if (Al y i)=true then At Z8 0 (Za ZO G) ZT 1 56 [(3,(.pv (.sl 0 true []))),(Q9 y),(5,(.pv (.int .i64 i))),(6,(.pv (.int .i64 0)))] []else(G ((.sl 0 true [])))):At Z8 0 (Za ZO G) ZT 0 56 [(3,.pv (.sl 0 true [])),(4,.pv (enc y)),(5,.pv (.int .i64 i))] []:=At.tp (dm [] 8 0x142) h
abbrev RI(a:List Str):Nat×AV:=(3,(.pv (.sl 1 false (List.map enc a))))
theorem b9i{G:PV->Prop}(n:Nd)(ks:List Tm)(y:List Tm)(o:List Str)(i:Int)(h:if (Al y i)=true then At Z8 0 (Za ZO G) ZT 1 56 [(RI o),(Q9 y),(5,(.pv (.int .i64 i))),(6,(.pv (.int .i64 0)))] []else(G ((.sl 1 false (List.map enc o))))):At Z8 0 (Za ZO G) ZT 0 56 [(3,.pv (enc o)),(4,.pv (enc y)),(5,.pv (.int .i64 i))] []:=At.tp (dm [] 8 0x142) h
theorem b7w{G:PV->Prop}(n:Nd)(ks:List Tm)(y:List Tm)(i k:Int)(h:(Xv y i 10 fun a=>((decide (0+List.length [Sh.sl 2]<=List.length (List.drop 7 (PV.cells (enc a))))&&YV (List.drop 7 (PV.cells (enc a))) 0 [Sh.sl 2])=true∧(if (decide (k<(↑(List.length (PV.asXs (List.getD (List.drop 7 (PV.cells (enc a))) 0 default))):Int)))=true then At Z8 0 (Za ZO G) ZT 2 56 [(3,(.pv (.sl 0 true []))),(Q9 y),(5,(.pv (.int .i64 i))),(6,(.pv (.int .i64 k))),(7,(.pv (.int .i64 0)))] []else(At Z8 0 (Za ZO G) ZT 0 56 [(3,(.pv (.sl 0 true []))),(Q9 y),(5,(.pv (.int .i64 (IntKind.wrap IntKind.i64 (i+1)))))] []))))):At Z8 0 (Za ZO G) ZT 1 56 [(3,.pv (.sl 0 true [])),(4,.pv (enc y)),(5,.pv (.int .i64 i)),(6,.pv (.int .i64 k))] []:=At.tp (dm [dr Tm] 12 0x2000142151) h
theorem c0h{G:PV->Prop}(n:Nd)(ks:List Tm)(y:List Tm)(o:List Str)(i k:Int)(h:(Xv y i 10 fun a=>((decide (0+List.length [Sh.sl 2]<=List.length (List.drop 7 (PV.cells (enc a))))&&YV (List.drop 7 (PV.cells (enc a))) 0 [Sh.sl 2])=true∧(if (decide (k<(↑(List.length (PV.asXs (List.getD (List.drop 7 (PV.cells (enc a))) 0 default))):Int)))=true then At Z8 0 (Za ZO G) ZT 2 56 [(RI o),(Q9 y),(5,(.pv (.int .i64 i))),(6,(.pv (.int .i64 k))),(7,(.pv (.int .i64 0)))] []else(At Z8 0 (Za ZO G) ZT 0 56 [(RI o),(Q9 y),(5,(.pv (.int .i64 (IntKind.wrap IntKind.i64 (i+1)))))] []))))):At Z8 0 (Za ZO G) ZT 1 56 [(3,.pv (enc o)),(4,.pv (enc y)),(5,.pv (.int .i64 i)),(6,.pv (.int .i64 k))] []:=At.tp (dm [dr Tm] 12 0x2000142151) h
theorem M5{G:PV->Prop}(n:Nd)(ks:List Tm)(y:List Tm)(i k j:Int)(h:(Xv y i 10 fun b=>((decide (0+List.length [Sh.sl 2]<=List.length (List.drop 7 (PV.cells (enc b))))&&YV (List.drop 7 (PV.cells (enc b))) 0 [Sh.sl 2])=true∧((decide (0<=k)&&decide (Int.toNat k<List.length (PV.asXs (List.getD (List.drop 7 (PV.cells (enc b))) 0 default)))&&2==2)=true∧((decide (0+List.length [Sh.sl 2]<=List.length (List.drop 1 (PV.cells (List.getD (PV.asXs (List.getD (List.drop 7 (PV.cells (enc b))) 0 default)) (Int.toNat k) default))))&&YV (List.drop 1 (PV.cells (List.getD (PV.asXs (List.getD (List.drop 7 (PV.cells (enc b))) 0 default)) (Int.toNat k) default))) 0 [Sh.sl 2])=true∧(if (decide (j<(↑(List.length (PV.asXs (List.getD (List.drop 1 (PV.cells (List.getD (PV.asXs (List.getD (List.drop 7 (PV.cells (enc b))) 0 default)) (Int.toNat k) default))) 0 default))):Int)))=true then(Xv y i 10 fun a=>((decide (0+List.length [Sh.sl 2]<=List.length (List.drop 7 (PV.cells (enc a))))&&YV (List.drop 7 (PV.cells (enc a))) 0 [Sh.sl 2])=true∧((decide (0<=k)&&decide (Int.toNat k<List.length (PV.asXs (List.getD (List.drop 7 (PV.cells (enc a))) 0 default)))&&2==2)=true∧((decide (0+List.length [Sh.sl 2]<=List.length (List.drop 1 (PV.cells (List.getD (PV.asXs (List.getD (List.drop 7 (PV.cells (enc a))) 0 default)) (Int.toNat k) default))))&&YV (List.drop 1 (PV.cells (List.getD (PV.asXs (List.getD (List.drop 7 (PV.cells (enc a))) 0 default)) (Int.toNat k) default))) 0 [Sh.sl 2])=true∧((decide (0<=j)&&decide (Int.toNat j<List.length (PV.asXs (List.getD (List.drop 1 (PV.cells (List.getD (PV.asXs (List.getD (List.drop 7 (PV.cells (enc a))) 0 default)) (Int.toNat k) default))) 0 default)))&&2==2)=true∧((decide (0+List.length [Sh.str]<=List.length (List.drop 0 (PV.cells (List.getD (PV.asXs (List.getD (List.drop 1 (PV.cells (List.getD (PV.asXs (List.getD (List.drop 7 (PV.cells (enc a))) 0 default)) (Int.toNat k) default))) 0 default)) (Int.toNat j) default))))&&YV (List.drop 0 (PV.cells (List.getD (PV.asXs (List.getD (List.drop 1 (PV.cells (List.getD (PV.asXs (List.getD (List.drop 7 (PV.cells (enc a))) 0 default)) (Int.toNat k) default))) 0 default)) (Int.toNat j) default))) 0 [Sh.str])=true∧(g0k [(.sl 0 true []),(.str (PV.asStr (List.getD (List.drop 0 (PV.cells (List.getD (PV.asXs (List.getD (List.drop 1 (PV.cells (List.getD (PV.asXs (List.getD (List.drop 7 (PV.cells (enc a))) 0 default)) (Int.toNat k) default))) 0 default)) (Int.toNat j) default))) 0 default)))] fun e=>(At Z8 0 (Za ZO G) ZT 2 56 [(3,(.pv (.sl 1 false (List.map enc e)))),(Q9 y),(5,(.pv (.int .i64 i))),(6,(.pv (.int .i64 k))),(7,(.pv (.int .i64 (IntKind.wrap IntKind.i64 (j+1)))))] []))))))))else(At Z8 0 (Za ZO G) ZT 1 56 [(3,(.pv (.sl 0 true []))),(Q9 y),(5,(.pv (.int .i64 i))),(6,(.pv (.int .i64 (IntKind.wrap IntKind.i64 (k+1)))))] []))))))):At Z8 0 (Za ZO G) ZT 2 56 [(3,.pv (.sl 0 true [])),(4,.pv (enc y)),(5,.pv (.int .i64 i)),(6,.pv (.int .i64 k)),(7,.pv (.int .i64 j))] []:=At.tp (dm [dr Tm,dv (List Str)] 27 0x2026213113115100d42131151) h
theorem Mg{G:PV->Prop}(n:Nd)(ks:List Tm)(y:List Tm)(o:List Str)(i k j:Int)(h:(Xv y i 10 fun b=>((decide (0+List.length [Sh.sl 2]<=List.length (List.drop 7 (PV.cells (enc b))))&&YV (List.drop 7 (PV.cells (enc b))) 0 [Sh.sl 2])=true∧((decide (0<=k)&&decide (Int.toNat k<List.length (PV.asXs (List.getD (List.drop 7 (PV.cells (enc b))) 0 default)))&&2==2)=true∧((decide (0+List.length [Sh.sl 2]<=List.length (List.drop 1 (PV.cells (List.getD (PV.asXs (List.getD (List.drop 7 (PV.cells (enc b))) 0 default)) (Int.toNat k) default))))&&YV (List.drop 1 (PV.cells (List.getD (PV.asXs (List.getD (List.drop 7 (PV.cells (enc b))) 0 default)) (Int.toNat k) default))) 0 [Sh.sl 2])=true∧(if (decide (j<(↑(List.length (PV.asXs (List.getD (List.drop 1 (PV.cells (List.getD (PV.asXs (List.getD (List.drop 7 (PV.cells (enc b))) 0 default)) (Int.toNat k) default))) 0 default))):Int)))=true then(Xv y i 10 fun a=>((decide (0+List.length [Sh.sl 2]<=List.length (List.drop 7 (PV.cells (enc a))))&&YV (List.drop 7 (PV.cells (enc a))) 0 [Sh.sl 2])=true∧((decide (0<=k)&&decide (Int.toNat k<List.length (PV.asXs (List.getD (List.drop 7 (PV.cells (enc a))) 0 default)))&&2==2)=true∧((decide (0+List.length [Sh.sl 2]<=List.length (List.drop 1 (PV.cells (List.getD (PV.asXs (List.getD (List.drop 7 (PV.cells (enc a))) 0 default)) (Int.toNat k) default))))&&YV (List.drop 1 (PV.cells (List.getD (PV.asXs (List.getD (List.drop 7 (PV.cells (enc a))) 0 default)) (Int.toNat k) default))) 0 [Sh.sl 2])=true∧((decide (0<=j)&&decide (Int.toNat j<List.length (PV.asXs (List.getD (List.drop 1 (PV.cells (List.getD (PV.asXs (List.getD (List.drop 7 (PV.cells (enc a))) 0 default)) (Int.toNat k) default))) 0 default)))&&2==2)=true∧((decide (0+List.length [Sh.str]<=List.length (List.drop 0 (PV.cells (List.getD (PV.asXs (List.getD (List.drop 1 (PV.cells (List.getD (PV.asXs (List.getD (List.drop 7 (PV.cells (enc a))) 0 default)) (Int.toNat k) default))) 0 default)) (Int.toNat j) default))))&&YV (List.drop 0 (PV.cells (List.getD (PV.asXs (List.getD (List.drop 1 (PV.cells (List.getD (PV.asXs (List.getD (List.drop 7 (PV.cells (enc a))) 0 default)) (Int.toNat k) default))) 0 default)) (Int.toNat j) default))) 0 [Sh.str])=true∧((g1h [(.sl 1 false (List.map enc o)),(.str (PV.asStr (List.getD (List.drop 0 (PV.cells (List.getD (PV.asXs (List.getD (List.drop 1 (PV.cells (List.getD (PV.asXs (List.getD (List.drop 7 (PV.cells (enc a))) 0 default)) (Int.toNat k) default))) 0 default)) (Int.toNat j) default))) 0 default)))] fun e=>(At Z8 0 (Za ZO G) ZT 2 56 [(3,(.pv (.sl 1 false (List.map enc e)))),(Q9 y),(5,(.pv (.int .i64 i))),(6,(.pv (.int .i64 k))),(7,(.pv (.int .i64 (IntKind.wrap IntKind.i64 (j+1)))))] [])))))))))else(At Z8 0 (Za ZO G) ZT 1 56 [(RI o),(Q9 y),(5,(.pv (.int .i64 i))),(6,(.pv (.int .i64 (IntKind.wrap IntKind.i64 (k+1)))))] []))))))):At Z8 0 (Za ZO G) ZT 2 56 [(3,.pv (enc o)),(4,.pv (enc y)),(5,.pv (.int .i64 i)),(6,.pv (.int .i64 k)),(7,.pv (.int .i64 j))] []:=At.tp (dm [dr Tm,dv (List Str)] 27 0x2026113113115100d42131151) h
noncomputable def a3f:IC:=YR Proofs.Tryz.f73
def Py:List IRes:=[(.tmp 2),(.tmp 3),(.tmp 4)]
abbrev c9c:Nat:=69
def LY:ZB:=Yi [(109,.pure (preT (fun _:Str×Unit=>true)) (Zi (fun x:Str×Unit=>Jn x.1))),(110,.pure (preT (fun _:Str×Bool×Unit=>true)) (Zi (fun x:Str×Bool×Unit=>Vb x.1 x.2.1)))]
theorem e5g{G:PV->Prop}(n:Nd)(ks:List Tm)(h:Dx (fun(x:Str×Unit)=>Jn x.1) [(.str (Str.s (Nd.name n)))] fun e:R3 Str Bool Bool=>if (Nd.kind n != 6)=true then G ((.tup [(.str []),(.int .i64 0),(.bool false)]))else(if (!R3.c e)=true then G ((.tup [(.str []),(.int .i64 0),(.bool false)]))else(if (decide (IntKind.wrap IntKind.i64 ((↑(List.length (List.map enc (Nd.sizes n))):Int)+(↑(List.length (List.map enc (Nd.ranks n))):Int))>0))=true then G ((.tup [(.str []),(.int .i64 0),(.bool false)]))else(if (Nd.num n != 0)=true then G ((.tup [(.str []),(.int .i64 0),(.bool false)]))else(if ((↑(List.length (List.map enc ks)):Int) != 1)=true then if (R3.b e)=true then G ((.tup [(.str []),(.int .i64 0),(.bool false)]))else(if ((↑(List.length (List.map enc ks)):Int) != 2)=true then if (!R3.b e)=true then G ((.tup [(.str []),(.int .i64 0),(.bool false)]))else(b7a [(.str (Str.s (R3.a e))),(.bool (R3.b e))] fun k=>(G ((.tup [(.str (Str.s (R3.a e))),(.int .i64 (R3.b k)),(.bool (R3.b e))]))))else(b7a [(.str (Str.s (R3.a e))),(.bool (R3.b e))] fun j=>(G ((.tup [(.str (Str.s (R3.a e))),(.int .i64 (R3.b j)),(.bool (R3.b e))])))))else(if ((↑(List.length (List.map enc ks)):Int) != 2)=true then if (!R3.b e)=true then G ((.tup [(.str []),(.int .i64 0),(.bool false)]))else(b7a [(.str (Str.s (R3.a e))),(.bool (R3.b e))] fun i=>(G ((.tup [(.str (Str.s (R3.a e))),(.int .i64 (R3.b i)),(.bool (R3.b e))]))))else(b7a [(.str (Str.s (R3.a e))),(.bool (R3.b e))] fun g=>(G ((.tup [(.str (Str.s (R3.a e))),(.int .i64 (R3.b g)),(.bool (R3.b e))])))))))))):Zd LY 0 (Za Py G) a3f [] (Zx 69 [.agg [enc n.kind,enc n.line,enc n.name,enc n.num,enc n.elem,enc n.dims,enc n.data,enc n.sizes,enc n.ranks,enc ks]]):=Zd.tp (dm [dv (R3 Str Bool Bool),dv (R3 Str Int Bool)] 215 0x622222206200014222200c42222222220622222206200014222200c42222202222222008422202c42222202222222222222200f42222022222222222222222201342222222222022222222222222222222222222201c422022222222222222222222222222222201f4252) h
noncomputable def b7o:IC:=YR Proofs.Tryz.f75
def O4:List IRes:=[(.tmp 2)]
abbrev e4z:Nat:=34
def a8u:ZB:=Yi [(73,.pure (preT (fun x:Tm×Unit=>tW x.1)) (Zi (fun x:Tm×Unit=>Cj x.1)))]
theorem f4b{G:PV->Prop}(n:Nd)(ks:List Tm)(h:(f0g (CO n ks) fun e=>(if (Nd.kind n==5)=true then G ((.int .i64 0))else(if (!Str.s (R3.a e)==[])=true then G ((.int .i64 (R3.b e)))else(if (Nd.kind n==2)=true then if (Str.s (Nd.name n)==[(105:UInt8),(110:UInt8),(116:UInt8)])=true then if (decide (Nd.num n<0))=true then G ((.int .i64 6))else(G ((.int .i64 7)))else(G ((.int .i64 7)))else(G ((.int .i64 7)))))))):Zd a8u 0 (Za O4 G) b7o [] (Zx 34 [.agg [enc n.kind,enc n.line,enc n.name,enc n.num,enc n.elem,enc n.dims,enc n.data,enc n.sizes,enc n.ranks,enc ks]]):=Zd.tp (dm [dv (R3 Str Int Bool)] 52 0x2222222202222000014222200a422220174200014200014251) h
noncomputable def b6i:IC:=YR Proofs.Tryz.f74
def FI:List IRes:=[(.tmp 4)]
abbrev e3w:Nat:=12
def a8l(N:Nat):ZB:=Yi [(46,.pure (preT (fun x:Tm×Unit=>(tW x.1&&Z9 x.1)&&decide (Z4 x.1<N))) (Zi (fun x:Tm×Unit=>Zr x.1)))]
theorem f6z{G:PV->Prop}(N:Nat)(n:Nd)(ks:List Tm)(b:Bool)(h:if (b)=true then(Sq N (CO n ks) fun a=>(ZA [(40:UInt8)] (Str.s a)∧(ZA ([(40:UInt8)]++Str.s a) [(41:UInt8)]∧(G ((.str ([(40:UInt8)]++Str.s a++[(41:UInt8)])))))))else((Sq N (CO n ks) fun e=>(G ((.str (Str.s e))))))):Zd (a8l N) 0 (Za FI G) b6i [] (Zx 12 [.agg [enc n.kind,enc n.line,enc n.name,enc n.num,enc n.elem,enc n.dims,enc n.data,enc n.sizes,enc n.ranks,enc ks],.bool b]):=Zd.tp (dm [dv Str] 13 0x51011510054) h
noncomputable def QK:IC:=YR Proofs.Tryz.f78
def QI:List IRes:=[(.tmp 2)]
abbrev d3k:Nat:=23
def KY(N:Nat):ZB:=Yi [(46,.pure (preT (fun x:Tm×Unit=>(tW x.1&&Z9 x.1)&&decide (Z4 x.1<N))) (Zi (fun x:Tm×Unit=>Zr x.1)))]
abbrev a9s(a:List Tm):Nat×AV:=(0,(.pv (.sl 10 false (List.map enc a))))
theorem e4x{G:PV->Prop}(N:Nat)(l:List Tm)(h:At (KY N) 0 (Za QI G) QK 0 23 [(a9s l),(3,(.pv (.str []))),(4,(.pv (.int .i64 0)))] []):Zd (KY N) 0 (Za QI G) QK [] (Zx 23 [enc l]):=Zd.tp (.nil) h
theorem a3e{G:PV->Prop}(N:Nat)(l:List Tm)(o:List UInt8)(i:Int)(h:if (Al l i)=true then if (decide (i>0))=true then ZA o [(44:UInt8),(32:UInt8)]∧((Xv l i 10 fun a=>(Bj a=true∧((Sq N (Kk a) fun g=>(ZA (o++[(44:UInt8),(32:UInt8)]) (Str.s g)∧(At (KY N) 0 (Za QI G) QK 0 23 [(a9s l),(3,(.pv (.str (o++[(44:UInt8),(32:UInt8)]++Str.s g)))),(4,(.pv (.int .i64 (IntKind.wrap IntKind.i64 (i+1)))))] [])))))))else((Xv l i 10 fun e=>(Bj e=true∧((Sq N (Kk e) fun b=>(ZA o (Str.s b)∧(At (KY N) 0 (Za QI G) QK 0 23 [(a9s l),(3,(.pv (.str (o++Str.s b)))),(4,(.pv (.int .i64 (IntKind.wrap IntKind.i64 (i+1)))))] [])))))))else(G ((.str o)))):At (KY N) 0 (Za QI G) QK 0 23 [(0,.pv (enc l)),(3,.pv (.str o)),(4,.pv (.int .i64 i))] []:=At.tp (dm [dr Tm,dv Str] 29 0x21611510216115110094201642) h
noncomputable def Uo:IC:=YR Proofs.Tryz.f111
def Uj:List IRes:=[(.tmp 2)]
abbrev c1s:Nat:=23
def Qn:ZB:=Yi [(79,.pure (preT (fun x:Lin×Unit=>Wu x.1)) (Zi (fun x:Lin×Unit=>(⟨ZC x.1⟩:Str))))]
abbrev a8s(a:List Lin):Nat×AV:=(0,(.pv (.sl 2 false (List.map enc a))))
theorem d6f{G:PV->Prop}(l:List Lin)(h:At Qn 0 (Za Uj G) Uo 0 23 [(a8s l),(3,(.pv (.str []))),(4,(.pv (.int .i64 0)))] []):Zd Qn 0 (Za Uj G) Uo [] (Zx 23 [enc l]):=Zd.tp (.nil) h
theorem N9{G:PV->Prop}(l:List Lin)(o:List UInt8)(i:Int)(h:if (Al l i)=true then if (decide (i>0))=true then ZA o [(44:UInt8),(32:UInt8)]∧((Xv l i 2 fun a=>((b3t [(.agg [(.int .i64 (PV.asInt (VC a))),(.sl 2 false (PV.asXs (SK a)))])] fun g=>(ZA (o++[(44:UInt8),(32:UInt8)]) (Str.s g)∧(At Qn 0 (Za Uj G) Uo 0 23 [(a8s l),(3,(.pv (.str (o++[(44:UInt8),(32:UInt8)]++Str.s g)))),(4,(.pv (.int .i64 (IntKind.wrap IntKind.i64 (i+1)))))] []))))))else((Xv l i 2 fun e=>((b3t [(.agg [(.int .i64 (PV.asInt (VC e))),(.sl 2 false (PV.asXs (SK e)))])] fun b=>(ZA o (Str.s b)∧(At Qn 0 (Za Uj G) Uo 0 23 [(a8s l),(3,(.pv (.str (o++Str.s b)))),(4,(.pv (.int .i64 (IntKind.wrap IntKind.i64 (i+1)))))] []))))))else(G ((.str o)))):At Qn 0 (Za Uj G) Uo 0 23 [(0,.pv (enc l)),(3,.pv (.str o)),(4,.pv (.int .i64 i))] []:=At.tp (dm [dr Lin,dv Str] 29 0x21612510216125110094201642) h
noncomputable def X4:IC:=YR Proofs.Tryz.f77
def XM:List IRes:=[(.tmp 2)]
abbrev d5i:Nat:=64
def WB(N:Nat):ZB:=Yi [(111,.pure (preT (fun x:List Lin×Unit=>decide (x.1.length<=1048576)&&x.1.all Zg)) (Zi (fun x:List Lin×Unit=>Yh (x.1.map Yr)))),(76,.pure (preT (fun x:Int×Unit=>decide (x.1.natAbs<9223372036854775808))) (Zi (fun x:Int×Unit=>Zp x.1))),(78,.pure (preT (fun x:List Tm×Unit=>(tsW x.1&&Wo x.1)&&decide (Yc x.1<N))) (Zi (fun x:List Tm×Unit=>Yh (x.1.map Zr))))]
theorem e6a{G:PV->Prop}(N:Nat)(n:Nd)(ks:List Tm)(h:if (decide ((↑(List.length (List.map enc (Nd.sizes n))):Int)>0))=true then(g2q [(.sl 2 false (List.map enc (Nd.sizes n)))] fun a=>(ZA [(91:UInt8)] (Str.s a)∧(ZA ([(91:UInt8)]++Str.s a) [(93:UInt8)]∧(ZA (Str.s (Nd.name n)) ([(91:UInt8)]++Str.s a++[(93:UInt8)])∧(if (Nd.num n != 0)=true then(MG [(.int .i64 (Nd.num n))] fun e=>(ZA [(123:UInt8)] (Str.s e)∧(ZA ([(123:UInt8)]++Str.s e) [(125:UInt8)]∧(ZA (Str.s (Nd.name n)++([(91:UInt8)]++Str.s a++[(93:UInt8)])) ([(123:UInt8)]++Str.s e++[(125:UInt8)])∧(At (WB N) 0 (Za XM G) X4 0 64 [(1,(.ptr 0 0)),(3,(.pv (.str (Str.s (Nd.name n)++([(91:UInt8)]++Str.s a++[(93:UInt8)])++([(123:UInt8)]++Str.s e++[(125:UInt8)]))))),(4,(.pv (.int .i64 0)))] [(.obj (.box (ZX n ks)))])))))else(At (WB N) 0 (Za XM G) X4 0 64 [(1,(.ptr 0 0)),(3,(.pv (.str (Str.s (Nd.name n)++([(91:UInt8)]++Str.s a++[(93:UInt8)]))))),(4,(.pv (.int .i64 0)))] [(.obj (.box (ZX n ks)))]))))))else(if (Nd.num n != 0)=true then(MG [(.int .i64 (Nd.num n))] fun b=>(ZA [(123:UInt8)] (Str.s b)∧(ZA ([(123:UInt8)]++Str.s b) [(125:UInt8)]∧(ZA (Str.s (Nd.name n)) ([(123:UInt8)]++Str.s b++[(125:UInt8)])∧(At (WB N) 0 (Za XM G) X4 0 64 [(1,(.ptr 0 0)),(3,(.pv (.str (Str.s (Nd.name n)++([(123:UInt8)]++Str.s b++[(125:UInt8)]))))),(4,(.pv (.int .i64 0)))] [(.obj (.box (ZX n ks)))])))))else(At (WB N) 0 (Za XM G) X4 0 64 [(1,(.ptr 0 0)),(3,(.pv (.str (Str.s (Nd.name n))))),(4,(.pv (.int .i64 0)))] [(.obj (.box (ZX n ks)))]))):Zd (WB N) 0 (Za XM G) X4 [] (Zx 64 [.agg [enc n.kind,enc n.line,enc n.name,enc n.num,enc n.elem,enc n.dims,enc n.data,enc n.sizes,enc n.ranks,enc ks]]):=Zd.tp (dm [dv Str] 35 0x11151006420011151006421115101142) h
theorem a5w{G:PV->Prop}(N:Nat)(n:Nd)(ks:List Tm)(o:List UInt8)(i:Int)(h:if (Al (Nd.ranks n) i)=true then if (i==0)=true then ZA o [(64:UInt8),(40:UInt8)]∧((Xv (Nd.ranks n) i 1 fun g=>((MG [(.int .i64 (PV.asInt (VC g)))] fun b=>(ZA (o++[(64:UInt8),(40:UInt8)]) (Str.s b)∧(if (i==IntKind.wrap IntKind.i64 ((↑(List.length (List.map enc (Nd.ranks n))):Int) - 1))=true then ZA (o++[(64:UInt8),(40:UInt8)]++Str.s b) [(41:UInt8)]∧(At (WB N) 0 (Za XM G) X4 0 64 [(1,(.ptr 0 0)),(3,(.pv (.str (o++[(64:UInt8),(40:UInt8)]++Str.s b++[(41:UInt8)])))),(4,(.pv (.int .i64 (IntKind.wrap IntKind.i64 (i+1)))))] [(.obj (.box (ZX n ks)))])else(At (WB N) 0 (Za XM G) X4 0 64 [(1,(.ptr 0 0)),(3,(.pv (.str (o++[(64:UInt8),(40:UInt8)]++Str.s b)))),(4,(.pv (.int .i64 (IntKind.wrap IntKind.i64 (i+1)))))] [(.obj (.box (ZX n ks)))])))))))else(ZA o [(44:UInt8),(32:UInt8)]∧((Xv (Nd.ranks n) i 1 fun j=>((MG [(.int .i64 (PV.asInt (VC j)))] fun a=>(ZA (o++[(44:UInt8),(32:UInt8)]) (Str.s a)∧(if (i==IntKind.wrap IntKind.i64 ((↑(List.length (List.map enc (Nd.ranks n))):Int) - 1))=true then ZA (o++[(44:UInt8),(32:UInt8)]++Str.s a) [(41:UInt8)]∧(At (WB N) 0 (Za XM G) X4 0 64 [(1,(.ptr 0 0)),(3,(.pv (.str (o++[(44:UInt8),(32:UInt8)]++Str.s a++[(41:UInt8)])))),(4,(.pv (.int .i64 (IntKind.wrap IntKind.i64 (i+1)))))] [(.obj (.box (ZX n ks)))])else(At (WB N) 0 (Za XM G) X4 0 64 [(1,(.ptr 0 0)),(3,(.pv (.str (o++[(44:UInt8),(32:UInt8)]++Str.s a)))),(4,(.pv (.int .i64 (IntKind.wrap IntKind.i64 (i+1)))))] [(.obj (.box (ZX n ks)))]))))))))else(ZA o [(40:UInt8)]∧((RH N [(.sl 10 false (List.map enc ks))] fun e=>(ZA (o++[(40:UInt8)]) (Str.s e)∧(ZA (o++[(40:UInt8)]++Str.s e) [(41:UInt8)]∧(G ((.str (o++[(40:UInt8)]++Str.s e++[(41:UInt8)])))))))))):At (WB N) 0 (Za XM G) X4 0 64 [(1,.ptr 0 0),(3,.pv (.str o)),(4,.pv (.int .i64 i))] [.obj (.box [.pv (enc n.kind),.pv (enc n.line),.pv (enc n.name),.pv (enc n.num),.pv (enc n.elem),.pv (enc n.dims),.pv (enc n.data),.pv (enc n.sizes),.pv (enc n.ranks),.pv (enc ks)])]:=At.tp (dm [dr Int,dv Str] 53 0x116110202100342216125110202100342216125110124202942) h
noncomputable def a5h:IC:=YR Proofs.Tryz.f46
def R6:List IRes:=[(.tmp 2)]
abbrev d1n:Nat:=173
def OH(N:Nat):ZB:=Yi [(73,.pure (preT (fun x:Tm×Unit=>tW x.1)) (Zi (fun x:Tm×Unit=>Cj x.1))),(75,.pure (preT (fun x:Tm×Unit=>tW x.1)) (Zi (fun x:Tm×Unit=>Wh x.1))),(74,.pure (preT (fun x:Tm×Bool×Unit=>(tW x.1&&Z9 x.1)&&decide (Z4 x.1<N))) (Zi (fun x:Tm×Bool×Unit=>Au x.2.1 x.1))),(46,.pure (preT (fun x:Tm×Unit=>(tW x.1&&Z9 x.1)&&decide (Z4 x.1<N))) (Zi (fun x:Tm×Unit=>Zr x.1))),(76,.pure (preT (fun x:Int×Unit=>decide (x.1.natAbs<9223372036854775808))) (Zi (fun x:Int×Unit=>Zp x.1))),(77,.pure (preT (fun x:Tm×Unit=>(tW x.1&&Z9 x.1&&decide (x.1.nd.kind=6))&&decide (Yc x.1.ks<N))) (Zi (fun x:Tm×Unit=>Q3 x.1))),(78,.pure (preT (fun x:List Tm×Unit=>(tsW x.1&&Wo x.1)&&decide (Yc x.1<N))) (Zi (fun x:List Tm×Unit=>Yh (x.1.map Zr)))),(79,.pure (preT (fun x:Lin×Unit=>Wu x.1)) (Zi (fun x:Lin×Unit=>(⟨ZC x.1⟩:Str)))),(80,.pure (preT (fun x:Arr×Unit=>VF x.1&&WF x.1)) (Zi (fun x:Arr×Unit=>JO x.1)))]
abbrev c6k(a:Nd)(XV:PV->Prop):Prop:=(if (Nd.num a==1)=true then XV ((.str [(116:UInt8),(114:UInt8),(117:UInt8),(101:UInt8)]))else(XV ((.str [(102:UInt8),(97:UInt8),(108:UInt8),(115:UInt8),(101:UInt8)]))))
theorem e4r{G:PV->Prop}(N:Nat)(n:Nd)(ks:List Tm)(h:(f0g (CO n ks) fun e=>(if (!Str.s (R3.a e)==[])=true then if (R3.c e)=true then(Xv ks 0 10 fun u=>(Bj u=true∧((Qq (Kk u) fun y2=>(if (decide (y2<6))=true then(WQ N (P6 u true) fun y3=>(ZA (Str.s (R3.a e)) (Str.s y3)∧(G ((.str (Str.s (R3.a e)++Str.s y3))))))else(if (Str.s (R3.a e)==[(45:UInt8)])=true then if (PV.asInt (VC u)==2)=true then if (PV.asStr (List.getD (PV.cells (enc u)) (0+1+1) default)==[(105:UInt8),(110:UInt8),(116:UInt8)])=true then(WQ N (P6 u (decide (PV.asInt (List.getD (PV.cells (enc u)) (0+1+1+1) default) ≥ 0))) fun y4=>(ZA (Str.s (R3.a e)) (Str.s y4)∧(G ((.str (Str.s (R3.a e)++Str.s y4))))))else((WQ N (P6 u false) fun y5=>(ZA (Str.s (R3.a e)) (Str.s y5)∧(G ((.str (Str.s (R3.a e)++Str.s y5)))))))else((WQ N (P6 u false) fun y6=>(ZA (Str.s (R3.a e)) (Str.s y6)∧(G ((.str (Str.s (R3.a e)++Str.s y6)))))))else((WQ N (P6 u false) fun y7=>(ZA (Str.s (R3.a e)) (Str.s y7)∧(G ((.str (Str.s (R3.a e)++Str.s y7)))))))))))))else(if (!Str.s (R3.a e)==[])=true then(Xv ks 0 10 fun K=>(Bj K=true∧((Xv ks 1 10 fun A=>(Bj A=true∧((Qq (Kk K) fun y10=>(if (decide (y10<R3.b e))=true then(WQ N (P6 K true) fun q=>(ZA (Str.s q) [(32:UInt8)]∧(ZA (Str.s q++[(32:UInt8)]) (Str.s (R3.a e))∧(ZA (Str.s q++[(32:UInt8)]++Str.s (R3.a e)) [(32:UInt8)]∧((Qq (Kk A) fun y12=>((WQ N (P6 A (decide (y12<=R3.b e))) fun M=>(ZA (Str.s q++[(32:UInt8)]++Str.s (R3.a e)++[(32:UInt8)]) (Str.s M)∧(G ((.str (Str.s q++[(32:UInt8)]++Str.s (R3.a e)++[(32:UInt8)]++Str.s M)))))))))))))else((Qq (Kk K) fun y14=>(if (y14==3)=true then(WQ N (P6 K (R3.b e==3)) fun l=>(ZA (Str.s l) [(32:UInt8)]∧(ZA (Str.s l++[(32:UInt8)]) (Str.s (R3.a e))∧(ZA (Str.s l++[(32:UInt8)]++Str.s (R3.a e)) [(32:UInt8)]∧((Qq (Kk A) fun y16=>((WQ N (P6 A (decide (y16<=R3.b e))) fun X=>(ZA (Str.s l++[(32:UInt8)]++Str.s (R3.a e)++[(32:UInt8)]) (Str.s X)∧(G ((.str (Str.s l++[(32:UInt8)]++Str.s (R3.a e)++[(32:UInt8)]++Str.s X)))))))))))))else((WQ N (P6 K false) fun j=>(ZA (Str.s j) [(32:UInt8)]∧(ZA (Str.s j++[(32:UInt8)]) (Str.s (R3.a e))∧(ZA (Str.s j++[(32:UInt8)]++Str.s (R3.a e)) [(32:UInt8)]∧((Qq (Kk A) fun y19=>((WQ N (P6 A (decide (y19<=R3.b e))) fun Q=>(ZA (Str.s j++[(32:UInt8)]++Str.s (R3.a e)++[(32:UInt8)]) (Str.s Q)∧(G ((.str (Str.s j++[(32:UInt8)]++Str.s (R3.a e)++[(32:UInt8)]++Str.s Q)))))))))))))))))))))))))else(if (Nd.kind n==5)=true then ZA [(108:UInt8),(101:UInt8),(116:UInt8),(32:UInt8)] (Str.s (Nd.name n))∧(ZA ([(108:UInt8),(101:UInt8),(116:UInt8),(32:UInt8)]++Str.s (Nd.name n)) [(32:UInt8),(61:UInt8),(32:UInt8)]∧((Xv ks 0 10 fun y21=>(Bj y21=true∧((Sq N (Kk y21) fun y=>(ZA ([(108:UInt8),(101:UInt8),(116:UInt8),(32:UInt8)]++Str.s (Nd.name n)++[(32:UInt8),(61:UInt8),(32:UInt8)]) (Str.s y)∧(ZA ([(108:UInt8),(101:UInt8),(116:UInt8),(32:UInt8)]++Str.s (Nd.name n)++[(32:UInt8),(61:UInt8),(32:UInt8)]++Str.s y) [(32:UInt8),(105:UInt8),(110:UInt8),(32:UInt8)]∧((Xv ks 1 10 fun Y=>(Bj Y=true∧((Sq N (Kk Y) fun Z=>(ZA ([(108:UInt8),(101:UInt8),(116:UInt8),(32:UInt8)]++Str.s (Nd.name n)++[(32:UInt8),(61:UInt8),(32:UInt8)]++Str.s y++[(32:UInt8),(105:UInt8),(110:UInt8),(32:UInt8)]) (Str.s Z)∧(G ((.str ([(108:UInt8),(101:UInt8),(116:UInt8),(32:UInt8)]++Str.s (Nd.name n)++[(32:UInt8),(61:UInt8),(32:UInt8)]++Str.s y++[(32:UInt8),(105:UInt8),(110:UInt8),(32:UInt8)]++Str.s Z))))))))))))))))))else(if (Nd.kind n==2)=true then if (Str.s (Nd.name n)==[(105:UInt8),(110:UInt8),(116:UInt8)])=true then(MG [(.int .i64 (Nd.num n))] fun y25=>(G ((.str (Str.s y25)))))else(c6k n G)else(if (Nd.kind n==6)=true then(c9y N (CO n ks) fun y26=>(G ((.str (Str.s y26)))))else(if (Nd.kind n==7)=true then(RH N [(.sl 10 false (List.map enc ks))] fun C=>(ZA [(91:UInt8)] (Str.s C)∧(ZA ([(91:UInt8)]++Str.s C) [(93:UInt8)]∧(G ((.str ([(91:UInt8)]++Str.s C++[(93:UInt8)])))))))else(if (Nd.kind n==8)=true then ZA [(102:UInt8),(111:UInt8),(108:UInt8),(100:UInt8),(40:UInt8)] (Str.s (Nd.name n))∧(ZA ([(102:UInt8),(111:UInt8),(108:UInt8),(100:UInt8),(40:UInt8)]++Str.s (Nd.name n)) [(44:UInt8),(32:UInt8)]∧((RH N [(.sl 10 false (List.map enc ks))] fun D=>(ZA ([(102:UInt8),(111:UInt8),(108:UInt8),(100:UInt8),(40:UInt8)]++Str.s (Nd.name n)++[(44:UInt8),(32:UInt8)]) (Str.s D)∧(ZA ([(102:UInt8),(111:UInt8),(108:UInt8),(100:UInt8),(40:UInt8)]++Str.s (Nd.name n)++[(44:UInt8),(32:UInt8)]++Str.s D) [(41:UInt8)]∧(G ((.str ([(102:UInt8),(111:UInt8),(108:UInt8),(100:UInt8),(40:UInt8)]++Str.s (Nd.name n)++[(44:UInt8),(32:UInt8)]++Str.s D++[(41:UInt8)])))))))))else(if (Nd.kind n==9)=true then ZA [(115:UInt8),(99:UInt8),(97:UInt8),(110:UInt8),(40:UInt8)] (Str.s (Nd.name n))∧(ZA ([(115:UInt8),(99:UInt8),(97:UInt8),(110:UInt8),(40:UInt8)]++Str.s (Nd.name n)) [(44:UInt8),(32:UInt8)]∧((RH N [(.sl 10 false (List.map enc ks))] fun F=>(ZA ([(115:UInt8),(99:UInt8),(97:UInt8),(110:UInt8),(40:UInt8)]++Str.s (Nd.name n)++[(44:UInt8),(32:UInt8)]) (Str.s F)∧(ZA ([(115:UInt8),(99:UInt8),(97:UInt8),(110:UInt8),(40:UInt8)]++Str.s (Nd.name n)++[(44:UInt8),(32:UInt8)]++Str.s F) [(41:UInt8)]∧(G ((.str ([(115:UInt8),(99:UInt8),(97:UInt8),(110:UInt8),(40:UInt8)]++Str.s (Nd.name n)++[(44:UInt8),(32:UInt8)]++Str.s F++[(41:UInt8)])))))))))else(if (Nd.kind n==4)=true then(Xv (Nd.sizes n) 0 2 fun W=>((b3t [(.agg [(.int .i64 (PV.asInt (VC W))),(.sl 2 false (PV.asXs (SK W)))])] fun B=>(ZA [(115:UInt8),(105:UInt8),(122:UInt8),(101:UInt8),(91:UInt8)] (Str.s B)∧(ZA ([(115:UInt8),(105:UInt8),(122:UInt8),(101:UInt8),(91:UInt8)]++Str.s B) [(93:UInt8)]∧(G ((.str ([(115:UInt8),(105:UInt8),(122:UInt8),(101:UInt8),(91:UInt8)]++Str.s B++[(93:UInt8)])))))))))else(if (Nd.kind n==3)=true then(c8l [(.agg [(.str (Str.s (Nd.elem n))),(.sl 1 false (List.map enc (Nd.dims n))),(.sl 1 false (List.map enc (Nd.data n)))])] fun y32=>(G ((.str (Str.s y32.1)))))else(G ((.str (Str.s (Nd.name n))))))))))))))else(if (!Str.s (R3.a e)==[])=true then(Xv ks 0 10 fun i=>(Bj i=true∧((Xv ks 1 10 fun g=>(Bj g=true∧((Qq (Kk i) fun y35=>(if (decide (y35<R3.b e))=true then(WQ N (P6 i true) fun m=>(ZA (Str.s m) [(32:UInt8)]∧(ZA (Str.s m++[(32:UInt8)]) (Str.s (R3.a e))∧(ZA (Str.s m++[(32:UInt8)]++Str.s (R3.a e)) [(32:UInt8)]∧((Qq (Kk g) fun y37=>((WQ N (P6 g (decide (y37<=R3.b e))) fun U=>(ZA (Str.s m++[(32:UInt8)]++Str.s (R3.a e)++[(32:UInt8)]) (Str.s U)∧(G ((.str (Str.s m++[(32:UInt8)]++Str.s (R3.a e)++[(32:UInt8)]++Str.s U)))))))))))))else((Qq (Kk i) fun y39=>(if (y39==3)=true then(WQ N (P6 i (R3.b e==3)) fun r=>(ZA (Str.s r) [(32:UInt8)]∧(ZA (Str.s r++[(32:UInt8)]) (Str.s (R3.a e))∧(ZA (Str.s r++[(32:UInt8)]++Str.s (R3.a e)) [(32:UInt8)]∧((Qq (Kk g) fun y41=>((WQ N (P6 g (decide (y41<=R3.b e))) fun L=>(ZA (Str.s r++[(32:UInt8)]++Str.s (R3.a e)++[(32:UInt8)]) (Str.s L)∧(G ((.str (Str.s r++[(32:UInt8)]++Str.s (R3.a e)++[(32:UInt8)]++Str.s L)))))))))))))else((WQ N (P6 i false) fun k=>(ZA (Str.s k) [(32:UInt8)]∧(ZA (Str.s k++[(32:UInt8)]) (Str.s (R3.a e))∧(ZA (Str.s k++[(32:UInt8)]++Str.s (R3.a e)) [(32:UInt8)]∧((Qq (Kk g) fun y44=>((WQ N (P6 g (decide (y44<=R3.b e))) fun V=>(ZA (Str.s k++[(32:UInt8)]++Str.s (R3.a e)++[(32:UInt8)]) (Str.s V)∧(G ((.str (Str.s k++[(32:UInt8)]++Str.s (R3.a e)++[(32:UInt8)]++Str.s V)))))))))))))))))))))))))else(if (Nd.kind n==5)=true then ZA [(108:UInt8),(101:UInt8),(116:UInt8),(32:UInt8)] (Str.s (Nd.name n))∧(ZA ([(108:UInt8),(101:UInt8),(116:UInt8),(32:UInt8)]++Str.s (Nd.name n)) [(32:UInt8),(61:UInt8),(32:UInt8)]∧((Xv ks 0 10 fun O=>(Bj O=true∧((Sq N (Kk O) fun z=>(ZA ([(108:UInt8),(101:UInt8),(116:UInt8),(32:UInt8)]++Str.s (Nd.name n)++[(32:UInt8),(61:UInt8),(32:UInt8)]) (Str.s z)∧(ZA ([(108:UInt8),(101:UInt8),(116:UInt8),(32:UInt8)]++Str.s (Nd.name n)++[(32:UInt8),(61:UInt8),(32:UInt8)]++Str.s z) [(32:UInt8),(105:UInt8),(110:UInt8),(32:UInt8)]∧((Xv ks 1 10 fun S=>(Bj S=true∧((Sq N (Kk S) fun T=>(ZA ([(108:UInt8),(101:UInt8),(116:UInt8),(32:UInt8)]++Str.s (Nd.name n)++[(32:UInt8),(61:UInt8),(32:UInt8)]++Str.s z++[(32:UInt8),(105:UInt8),(110:UInt8),(32:UInt8)]) (Str.s T)∧(G ((.str ([(108:UInt8),(101:UInt8),(116:UInt8),(32:UInt8)]++Str.s (Nd.name n)++[(32:UInt8),(61:UInt8),(32:UInt8)]++Str.s z++[(32:UInt8),(105:UInt8),(110:UInt8),(32:UInt8)]++Str.s T))))))))))))))))))else(if (Nd.kind n==2)=true then if (Str.s (Nd.name n)==[(105:UInt8),(110:UInt8),(116:UInt8)])=true then(MG [(.int .i64 (Nd.num n))] fun y50=>(G ((.str (Str.s y50)))))else(c6k n G)else(if (Nd.kind n==6)=true then(c9y N (CO n ks) fun y51=>(G ((.str (Str.s y51)))))else(if (Nd.kind n==7)=true then(RH N [(.sl 10 false (List.map enc ks))] fun E=>(ZA [(91:UInt8)] (Str.s E)∧(ZA ([(91:UInt8)]++Str.s E) [(93:UInt8)]∧(G ((.str ([(91:UInt8)]++Str.s E++[(93:UInt8)])))))))else(if (Nd.kind n==8)=true then ZA [(102:UInt8),(111:UInt8),(108:UInt8),(100:UInt8),(40:UInt8)] (Str.s (Nd.name n))∧(ZA ([(102:UInt8),(111:UInt8),(108:UInt8),(100:UInt8),(40:UInt8)]++Str.s (Nd.name n)) [(44:UInt8),(32:UInt8)]∧((RH N [(.sl 10 false (List.map enc ks))] fun I=>(ZA ([(102:UInt8),(111:UInt8),(108:UInt8),(100:UInt8),(40:UInt8)]++Str.s (Nd.name n)++[(44:UInt8),(32:UInt8)]) (Str.s I)∧(ZA ([(102:UInt8),(111:UInt8),(108:UInt8),(100:UInt8),(40:UInt8)]++Str.s (Nd.name n)++[(44:UInt8),(32:UInt8)]++Str.s I) [(41:UInt8)]∧(G ((.str ([(102:UInt8),(111:UInt8),(108:UInt8),(100:UInt8),(40:UInt8)]++Str.s (Nd.name n)++[(44:UInt8),(32:UInt8)]++Str.s I++[(41:UInt8)])))))))))else(if (Nd.kind n==9)=true then ZA [(115:UInt8),(99:UInt8),(97:UInt8),(110:UInt8),(40:UInt8)] (Str.s (Nd.name n))∧(ZA ([(115:UInt8),(99:UInt8),(97:UInt8),(110:UInt8),(40:UInt8)]++Str.s (Nd.name n)) [(44:UInt8),(32:UInt8)]∧((RH N [(.sl 10 false (List.map enc ks))] fun H=>(ZA ([(115:UInt8),(99:UInt8),(97:UInt8),(110:UInt8),(40:UInt8)]++Str.s (Nd.name n)++[(44:UInt8),(32:UInt8)]) (Str.s H)∧(ZA ([(115:UInt8),(99:UInt8),(97:UInt8),(110:UInt8),(40:UInt8)]++Str.s (Nd.name n)++[(44:UInt8),(32:UInt8)]++Str.s H) [(41:UInt8)]∧(G ((.str ([(115:UInt8),(99:UInt8),(97:UInt8),(110:UInt8),(40:UInt8)]++Str.s (Nd.name n)++[(44:UInt8),(32:UInt8)]++Str.s H++[(41:UInt8)])))))))))else(if (Nd.kind n==4)=true then(Xv (Nd.sizes n) 0 2 fun P=>((b3t [(.agg [(.int .i64 (PV.asInt (VC P))),(.sl 2 false (PV.asXs (SK P)))])] fun J=>(ZA [(115:UInt8),(105:UInt8),(122:UInt8),(101:UInt8),(91:UInt8)] (Str.s J)∧(ZA ([(115:UInt8),(105:UInt8),(122:UInt8),(101:UInt8),(91:UInt8)]++Str.s J) [(93:UInt8)]∧(G ((.str ([(115:UInt8),(105:UInt8),(122:UInt8),(101:UInt8),(91:UInt8)]++Str.s J++[(93:UInt8)])))))))))else(if (Nd.kind n==3)=true then(c8l [(.agg [(.str (Str.s (Nd.elem n))),(.sl 1 false (List.map enc (Nd.dims n))),(.sl 1 false (List.map enc (Nd.data n)))])] fun y57=>(G ((.str (Str.s y57.1)))))else(G ((.str (Str.s (Nd.name n))))))))))))))))):Zd (OH N) 0 (Za R6 G) a5h [] (Zx 173 [.agg [enc n.kind,enc n.line,enc n.name,enc n.num,enc n.elem,enc n.dims,enc n.data,enc n.sizes,enc n.ranks,enc ks]]):=Zd.tp (dm [dv (R3 Str Int Bool),dr Tm,dv Int,dv Str,dr Lin,dv (Str×Int)] 485 0xa100342011812910084201181110074201181110074201181005420810034200001420810034200f420181161118116111010420181271111812222018127111181222220114222712018127111181222220114271161161049422200a100342011812910084201181110074201181110074201181005420810034200001420810034200f42018116111811611101042018127111181222201812711118122222011422271201812711118122222011427116116104942018122222222222222222018122222222222018122222018122222200a422222201d4222222036422201812222222200c4271161068421244251) h
noncomputable def Qi:IC:=YR Proofs.Tryz.f44
def Uq:List IRes:=[(.tmp 2)]
abbrev b9o:Nat:=22
def Qm:ZB:=Yi [(70,.pure (preT (fun x:Tm×Unit=>tW x.1)) (Zi (fun x:Tm×Unit=>Y6 x.1))),(71,.pure (preT (fun x:Tm×Unit=>tW x.1)) (Zi (fun x:Tm×Unit=>JL x.1))),(20,.pure (preT (fun x:Str×Unit=>decide (x.1.s.length<=1048576))) (Zi (fun x:Str×Unit=>nameI x.1.s)))]
theorem c9t{G:PV->Prop}(n:Nd)(ks:List Tm)(h:(f1k (CO n ks) fun a=>(if (!a)=true then G ((.bool false))else((f5l (CO n ks) fun b=>(At Qm 0 (Za Uq G) Qi 0 22 [(3,(.pv (.sl 1 false (List.map enc b)))),(4,(.pv (.int .i64 0)))] [])))))):Zd Qm 0 (Za Uq G) Qi [] (Zx 22 [.agg [enc n.kind,enc n.line,enc n.name,enc n.num,enc n.elem,enc n.dims,enc n.data,enc n.sizes,enc n.ranks,enc ks]]):=Zd.tp (dm [dv Bool,dv (List Str)] 11 0x610001451) h
theorem NQ{G:PV->Prop}(n:Nd)(ks:List Tm)(l:List Str)(i:Int)(h:if (Al l i)=true then(Xv l i 1 fun a=>((f0h [(.str (PV.asStr (VC a)))] fun b=>(if (!b)=true then G ((.bool false))else(At Qm 0 (Za Uq G) Qi 0 22 [(RI l),(4,(.pv (.int .i64 (IntKind.wrap IntKind.i64 (i+1)))))] [])))))else(G ((.bool true)))):At Qm 0 (Za Uq G) Qi 0 22 [(3,.pv (enc l)),(4,.pv (.int .i64 i))] []:=At.tp (dm [dr Str,dv Bool] 19 0x2000146125100c42) h
end Go.Pl
namespace Go.Pl
open Go.RowKit
open Enc (enc dec is)
open EncL (encL decL isL)
set_option maxRecDepth 100000
abbrev f8z(ps:List PV)(k:Bool->Prop):Prop:=Yn (fun(x:UInt8×Unit)=>true) (fun(x:UInt8×Unit)=>lowB (Prod.fst x)) ps k
abbrev g0l(ps:List PV)(k:Bool->Prop):Prop:=Yn (fun(x:UInt8×Unit)=>true) (fun(x:UInt8×Unit)=>digB (Prod.fst x)) ps k
abbrev a0v(ps:List PV)(k:Bool->Prop):Prop:=Yn (fun(x:Str×Unit)=>decide (List.length (Str.s (Prod.fst x))<=1048576)) (fun(x:Str×Unit)=>nameI (Str.s (Prod.fst x))) ps k
abbrev g1e(ps:List PV)(k:Bool->Prop):Prop:=Yn (fun(x:Str×Unit)=>decide (List.length (Str.s (Prod.fst x))<=1048576)) (fun(x:Str×Unit)=>fullI (Str.s (Prod.fst x))) ps k
abbrev g1t(ps:List PV)(k:Bool->Prop):Prop:=Yn (fun(x:Lin×Unit)=>XK (Prod.fst x)) (fun(x:Lin×Unit)=>Zg (Prod.fst x)) ps k
abbrev QJ(ps:List PV)(k:Bool->Prop):Prop:=Yn (fun(x:Tm×Bool×Bool×Bool×Bool×Bool×Unit)=>tW (Prod.fst x)) (fun(x:Tm×Bool×Bool×Bool×Bool×Bool×Unit)=>Yx (Tm.nd (Prod.fst x)) (Prod.fst (Prod.snd x)) (Prod.fst (Prod.snd (Prod.snd x))) (Prod.fst (Prod.snd (Prod.snd (Prod.snd x)))) (Prod.fst (Prod.snd (Prod.snd (Prod.snd (Prod.snd x))))) (Prod.fst (Prod.snd (Prod.snd (Prod.snd (Prod.snd (Prod.snd x))))))) ps k
abbrev g3l(ps:List PV)(k:Bool->Prop):Prop:=Yn (fun(x:Arr×Unit)=>VF (Prod.fst x)) (fun(x:Arr×Unit)=>WF (Prod.fst x)) ps k
abbrev e8u(ps:List PV)(k:Bool->Prop):Prop:=Yn (fun(x:List Lin×Unit)=>decide (List.length (Prod.fst x)<=1048576)&&List.all (Prod.fst x) XK) (fun(x:List Lin×Unit)=>List.all (Prod.fst x) Zg) ps k
abbrev d5o(ps:List PV)(k:Bool->Prop):Prop:=Yn (fun(x:Str×Unit)=>decide (List.length (Str.s (Prod.fst x))<=1048576)) (fun(x:Str×Unit)=>Ci (Str.s (Prod.fst x))) ps k
abbrev f9l(N:Nat)(ps:List PV)(k:Bool->Prop):Prop:=Yn (fun(x:Tm×Unit)=>tW (Prod.fst x)&&decide (Z4 (Prod.fst x)<N)) (fun(x:Tm×Unit)=>Z9 (Prod.fst x)) ps k
abbrev f2x(ps:List PV)(k:Bool->Prop):Prop:=Yn (fun(x:Tm×Unit)=>tW (Prod.fst x)) (fun(x:Tm×Unit)=>Hq (Prod.fst x)) ps k
abbrev f6g(ps:List PV)(k:Int->Prop):Prop:=Yn (fun(x:Tm×Unit)=>tW (Prod.fst x)) (fun(x:Tm×Unit)=>(↑(Yt (Prod.fst x)):Int)) ps k
abbrev f7a(ps:List PV)(k:Int->Prop):Prop:=Yn (fun(x:Tm×Unit)=>tW (Prod.fst x)) (fun(x:Tm×Unit)=>(↑(Z4 (Prod.fst x)):Int)) ps k
abbrev f6m(ps:List PV)(k:Bool->Prop):Prop:=Yn (fun(x:Tm×Unit)=>tW (Prod.fst x)) (fun(x:Tm×Unit)=>Z9 (Prod.fst x)) ps k
abbrev YY(ps:List PV)(k:R3 Str Int Bool->Prop):Prop:=ceP (fun(x:Str×Bool×Unit)=>Vb (Prod.fst x) (Prod.fst (Prod.snd x))) ps k
noncomputable def Me:IC:=Tq
def ME:List IRes:=[(.tmp 2)]
abbrev b8j:Nat:=9
def a5x:ZB:=Yi []
theorem c6c{G:PV->Prop}(c:UInt8)(h:if (decide ((↑(UInt8.toNat c):Int) ≥ 97))=true then G ((.bool (decide ((↑(UInt8.toNat c):Int)<=122))))else(G ((.bool false)))):Zd a5x 0 (Za ME G) Me [] (Zx 9 [enc c]):=Zd.tp (dm [] 13 0x22022200442) h
noncomputable def NR:IC:=TI
def MX:List IRes:=[(.tmp 2)]
abbrev c2t:Nat:=9
def EH:ZB:=Yi []
theorem c4f{G:PV->Prop}(c:UInt8)(h:if (decide ((↑(UInt8.toNat c):Int) ≥ 48))=true then G ((.bool (decide ((↑(UInt8.toNat c):Int)<=57))))else(G ((.bool false)))):Zd EH 0 (Za MX G) NR [] (Zx 9 [enc c]):=Zd.tp (dm [] 13 0x22022200442) h
noncomputable def b5c:IC:=OB
def b6v:List IRes:=[(.tmp 2)]
abbrev e1d:Nat:=19
def c9i:ZB:=Yi []
theorem f7c{G:PV->Prop}(s:List UInt8)(h:if (s==[(98:UInt8),(111:UInt8),(111:UInt8),(108:UInt8)])=true then G ((.bool true))else(if (s==[(100:UInt8),(101:UInt8),(102:UInt8)])=true then G ((.bool true))else(if (s==[(101:UInt8),(120:UInt8),(112:UInt8),(111:UInt8),(114:UInt8),(116:UInt8)])=true then G ((.bool true))else(if (s==[(102:UInt8),(97:UInt8),(108:UInt8),(115:UInt8),(101:UInt8)])=true then G ((.bool true))else(if (s==[(102:UInt8),(111:UInt8),(108:UInt8),(100:UInt8)])=true then G ((.bool true))else(if (s==[(105:UInt8),(109:UInt8),(112:UInt8),(111:UInt8),(114:UInt8),(116:UInt8)])=true then G ((.bool true))else(if (s==[(105:UInt8),(110:UInt8)])=true then G ((.bool true))else(if (s==[(105:UInt8),(110:UInt8),(116:UInt8)])=true then G ((.bool true))else(if (s==[(108:UInt8),(101:UInt8),(116:UInt8)])=true then G ((.bool true))else(if (s==[(109:UInt8),(111:UInt8),(100:UInt8),(117:UInt8),(108:UInt8),(101:UInt8)])=true then G ((.bool true))else(if (s==[(115:UInt8),(99:UInt8),(97:UInt8),(110:UInt8)])=true then G ((.bool true))else(if (s==[(115:UInt8),(105:UInt8),(122:UInt8),(101:UInt8)])=true then G ((.bool true))else(if (s==[(116:UInt8),(114:UInt8),(117:UInt8),(101:UInt8)])=true then G ((.bool true))else(if (s==[(119:UInt8),(104:UInt8),(101:UInt8),(114:UInt8),(101:UInt8)])=true then G ((.bool true))else(G ((.bool false))))))))))))))))):Zd c9i 0 (Za b6v G) b5c [] (Zx 19 [.str s]):=Zd.tp (dm [] 99 0x1420200242020024202002420200242020024202002420200242020024202002420200242020024202002420200242) h
noncomputable def UH:IC:=YR Proofs.Tryz.f20
def UL:List IRes:=[(.tmp 2)]
abbrev d1j:Nat:=39
def QV:ZB:=Yi [(40,.pure (preT (fun _:UInt8×Unit=>true)) (Zi (fun x:UInt8×Unit=>lowB x.1))),(41,.pure (preT (fun _:UInt8×Unit=>true)) (Zi (fun x:UInt8×Unit=>digB x.1))),(42,.pure (preT (fun _:Str×Unit=>true)) (Zi (fun x:Str×Unit=>QL.contains x.1.s)))]
theorem e0d{G:PV->Prop}(s:List UInt8)(h:At QV 0 (Za UL G) UH 0 39 [(0,(.pv (.str s))),(3,(.pv (.int .i64 0)))] []):Zd QV 0 (Za UL G) UH [] (Zx 39 [.str s]):=Zd.tp (.nil) h
abbrev Fx(a:Int)(XV:List UInt8):Bool:=(decide (0<=a)&&decide (Int.toNat a<List.length XV))
theorem CZ{G:PV->Prop}(s:List UInt8)(i:Int)(h:if (decide (i<(↑(List.length s):Int)))=true then(Fx i s)=true∧((f8z [(.int IntKind.u8 (↑(UInt8.toNat (List.getD s (Int.toNat i) (0:UInt8))):Int))] fun a=>(if (!a)=true then if (i==0)=true then G ((.bool false))else((Fx i s)=true∧((g0l [(.int IntKind.u8 (↑(UInt8.toNat (List.getD s (Int.toNat i) (0:UInt8))):Int))] fun e=>(if (!e)=true then G ((.bool false))else(At QV 0 (Za UL G) UH 0 39 [(0,(.pv (.str s))),(3,(.pv (.int .i64 (IntKind.wrap IntKind.i64 (i+1)))))] [])))))else(At QV 0 (Za UL G) UH 0 39 [(0,(.pv (.str s))),(3,(.pv (.int .i64 (IntKind.wrap IntKind.i64 (i+1)))))] []))))else(if (decide ((↑(List.length s):Int) ≥ 1))=true then if (decide ((↑(List.length s):Int)<=30))=true then Dx (fun(x:Str×Unit)=>List.contains QL (Str.s x.1)) [(.str s)] fun b:Bool=>G ((.bool !b))else(G ((.bool false)))else(G ((.bool false))))):At QV 0 (Za UL G) UH 0 39 [(0,.pv (.str s)),(3,.pv (.int .i64 i))] []:=At.tp (dm [dv Bool] 84 0x2222222022202252200642222012420222222020001422225121220222222220094222021451102f42) h
noncomputable def KJ:IC:=YR Proofs.Tryz.f200
def Kn:List IRes:=[(.tmp 2)]
abbrev d4c:Nat:=25
def Ht:ZB:=Yi [(20,.pure (preT (fun x:Str×Unit=>decide (x.1.s.length<=1048576))) (Zi (fun x:Str×Unit=>nameI x.1.s)))]
theorem e5l{G:PV->Prop}(s:List UInt8)(h:At Ht 0 (Za Kn G) KJ 0 25 [(0,(.pv (.str s))),(3,(.pv (.int .i64 0)))] []):Zd Ht 0 (Za Kn G) KJ [] (Zx 25 [.str s]):=Zd.tp (.nil) h
theorem a5a{G:PV->Prop}(s:List UInt8)(i:Int)(h:if (decide (i<(↑(List.length s):Int)))=true then(Fx i s)=true∧(if ((↑(UInt8.toNat (List.getD s (Int.toNat i) (0:UInt8))):Int)==46)=true then(true&&decide (0<=i)&&decide (0<=Int.toNat i)&&decide (Int.toNat i<=List.length s))=true∧((a0v [(.str (List.drop 0 (List.take (Int.toNat i) s)))] fun a=>(if (a)=true then(decide (0<=IntKind.wrap IntKind.i64 (i+1))&&true&&decide (Int.toNat (IntKind.wrap IntKind.i64 (i+1))<=List.length s)&&decide (List.length s<=List.length s))=true∧((a0v [(.str (List.drop (Int.toNat (IntKind.wrap IntKind.i64 (i+1))) (List.take (List.length s) s)))] fun b=>(G ((.bool b)))))else(G ((.bool false))))))else(At Ht 0 (Za Kn G) KJ 0 25 [(0,(.pv (.str s))),(3,(.pv (.int .i64 (IntKind.wrap IntKind.i64 (i+1)))))] []))else(G ((.bool false)))):At Ht 0 (Za Kn G) KJ 0 25 [(0,.pv (.str s)),(3,.pv (.int .i64 i))] []:=At.tp (dm [dv Bool] 38 0x2022222025121222200a451101742101f42) h
noncomputable def b6z:IC:=YR Proofs.Tryz.f164
def b7l:List IRes:=[(.tmp 2)]
abbrev e1u:Nat:=9
def d9j:ZB:=Yi [(20,.pure (preT (fun x:Str×Unit=>decide (x.1.s.length<=1048576))) (Zi (fun x:Str×Unit=>nameI x.1.s))),(200,.pure (preT (fun x:Str×Unit=>decide (x.1.s.length<=1048576))) (Zi (fun x:Str×Unit=>fullI x.1.s)))]
theorem f3s{G:PV->Prop}(s:List UInt8)(h:(a0v [(.str s)] fun a=>(if (a)=true then G ((.bool true))else((g1e [(.str s)] fun b=>(G ((.bool b)))))))):Zd d9j 0 (Za b7l G) b6z [] (Zx 9 [.str s]):=Zd.tp (dm [dv Bool] 15 0x2512022003451) h
noncomputable def Lh:IC:=YR Proofs.Tryz.f162
def Gz:List IRes:=[(.tmp 12)]
abbrev c0d:Nat:=66
def a2z:ZB:=Yi []
theorem c8i{G:PV->Prop}(n:Nd)(ks:List Tm)(a b c d e:Bool)(h:if (a)=true then if (b)=true then if (c)=true then if (d)=true then if (e)=true then G ((.bool true))else(G ((.bool ((↑(List.length (List.map enc (Nd.ranks n))):Int)==0))))else(if ((↑(List.length (List.map enc (Nd.sizes n))):Int)==0)=true then if (e)=true then G ((.bool true))else(G ((.bool ((↑(List.length (List.map enc (Nd.ranks n))):Int)==0))))else(G ((.bool false))))else(if (Str.s (Nd.elem n)==[])=true then if (IntKind.wrap IntKind.i64 ((↑(List.length (List.map enc (Nd.dims n))):Int)+(↑(List.length (List.map enc (Nd.data n))):Int))==0)=true then if (d)=true then if (e)=true then G ((.bool true))else(G ((.bool ((↑(List.length (List.map enc (Nd.ranks n))):Int)==0))))else(if ((↑(List.length (List.map enc (Nd.sizes n))):Int)==0)=true then if (e)=true then G ((.bool true))else(G ((.bool ((↑(List.length (List.map enc (Nd.ranks n))):Int)==0))))else(G ((.bool false))))else(G ((.bool false)))else(G ((.bool false))))else(if (Nd.num n==0)=true then if (c)=true then if (d)=true then if (e)=true then G ((.bool true))else(G ((.bool ((↑(List.length (List.map enc (Nd.ranks n))):Int)==0))))else(if ((↑(List.length (List.map enc (Nd.sizes n))):Int)==0)=true then if (e)=true then G ((.bool true))else(G ((.bool ((↑(List.length (List.map enc (Nd.ranks n))):Int)==0))))else(G ((.bool false))))else(if (Str.s (Nd.elem n)==[])=true then if (IntKind.wrap IntKind.i64 ((↑(List.length (List.map enc (Nd.dims n))):Int)+(↑(List.length (List.map enc (Nd.data n))):Int))==0)=true then if (d)=true then if (e)=true then G ((.bool true))else(G ((.bool ((↑(List.length (List.map enc (Nd.ranks n))):Int)==0))))else(if ((↑(List.length (List.map enc (Nd.sizes n))):Int)==0)=true then if (e)=true then G ((.bool true))else(G ((.bool ((↑(List.length (List.map enc (Nd.ranks n))):Int)==0))))else(G ((.bool false))))else(G ((.bool false)))else(G ((.bool false))))else(G ((.bool false))))else(if (Str.s (Nd.name n)==[])=true then if (b)=true then if (c)=true then if (d)=true then if (e)=true then G ((.bool true))else(G ((.bool ((↑(List.length (List.map enc (Nd.ranks n))):Int)==0))))else(if ((↑(List.length (List.map enc (Nd.sizes n))):Int)==0)=true then if (e)=true then G ((.bool true))else(G ((.bool ((↑(List.length (List.map enc (Nd.ranks n))):Int)==0))))else(G ((.bool false))))else(if (Str.s (Nd.elem n)==[])=true then if (IntKind.wrap IntKind.i64 ((↑(List.length (List.map enc (Nd.dims n))):Int)+(↑(List.length (List.map enc (Nd.data n))):Int))==0)=true then if (d)=true then if (e)=true then G ((.bool true))else(G ((.bool ((↑(List.length (List.map enc (Nd.ranks n))):Int)==0))))else(if ((↑(List.length (List.map enc (Nd.sizes n))):Int)==0)=true then if (e)=true then G ((.bool true))else(G ((.bool ((↑(List.length (List.map enc (Nd.ranks n))):Int)==0))))else(G ((.bool false))))else(G ((.bool false)))else(G ((.bool false))))else(if (Nd.num n==0)=true then if (c)=true then if (d)=true then if (e)=true then G ((.bool true))else(G ((.bool ((↑(List.length (List.map enc (Nd.ranks n))):Int)==0))))else(if ((↑(List.length (List.map enc (Nd.sizes n))):Int)==0)=true then if (e)=true then G ((.bool true))else(G ((.bool ((↑(List.length (List.map enc (Nd.ranks n))):Int)==0))))else(G ((.bool false))))else(if (Str.s (Nd.elem n)==[])=true then if (IntKind.wrap IntKind.i64 ((↑(List.length (List.map enc (Nd.dims n))):Int)+(↑(List.length (List.map enc (Nd.data n))):Int))==0)=true then if (d)=true then if (e)=true then G ((.bool true))else(G ((.bool ((↑(List.length (List.map enc (Nd.ranks n))):Int)==0))))else(if ((↑(List.length (List.map enc (Nd.sizes n))):Int)==0)=true then if (e)=true then G ((.bool true))else(G ((.bool ((↑(List.length (List.map enc (Nd.ranks n))):Int)==0))))else(G ((.bool false))))else(G ((.bool false)))else(G ((.bool false))))else(G ((.bool false))))else(G ((.bool false))))):Zd a2z 0 (Za Gz G) Lh [] (Zx 66 [.agg [enc n.kind,enc n.line,enc n.name,enc n.num,enc n.elem,enc n.dims,enc n.data,enc n.sizes,enc n.ranks,enc ks],.bool a,.bool b,.bool c,.bool d,.bool e]):=Zd.tp (dm [] 931 0x22222222222222202222222222202222222222222222222222022222220222022222220222222007420144222222202222222022222200742222222201b420434222222222222222205f4222220222022222220222222007420144222222202222222022222200742222222201b4222222222204c420d0422222202222222222222222222222022222220222022222220222222007420144222222202222222022222200742222222201b420434222222222222222205f4222220222022222220222222007420144222222202222222022222200742222222201b4222222222204c422222220d6421c14222202222222222202222222222222222222222022222220222022222220222222007420144222222202222222022222200742222222201b420434222222222222222205f4222220222022222220222222007420144222222202222222022222200742222222201b4222222222204c420d0422222202222222222222222222222022222220222022222220222222007420144222222202222222022222200742222222201b420434222222222222222205f4222220222022222220222222007420144222222202222222022222200742222222201b4222222222204c422222220d64222221c54) h
noncomputable def GH:IC:=YR Proofs.Tryz.f163
def Gb:List IRes:=[(.tmp 2)]
abbrev e1e:Nat:=16
def AO:ZB:=Yi [(112,.pure (preT (fun x:Lin×Unit=>XK x.1)) (Zi (fun x:Lin×Unit=>Zg x.1)))]
theorem f5c{G:PV->Prop}(l:List Lin)(h:At AO 0 (Za Gb G) GH 0 16 [(0,(.pv (.sl 2 false (List.map enc l)))),(3,(.pv (.int .i64 0)))] []):Zd AO 0 (Za Gb G) GH [] (Zx 16 [enc l]):=Zd.tp (.nil) h
theorem b4b{G:PV->Prop}(l:List Lin)(i:Int)(h:if (Al l i)=true then(Xv l i 2 fun a=>((g1t [(.agg [(.int .i64 (PV.asInt (VC a))),(.sl 2 false (PV.asXs (SK a)))])] fun b=>(if (!b)=true then G ((.bool false))else(At AO 0 (Za Gb G) GH 0 16 [(0,(.pv (.sl 2 false (List.map enc l)))),(3,(.pv (.int .i64 (IntKind.wrap IntKind.i64 (i+1)))))] [])))))else(G ((.bool true)))):At AO 0 (Za Gb G) GH 0 16 [(0,.pv (enc l)),(3,.pv (.int .i64 i))] []:=At.tp (dm [dr Lin,dv Bool] 19 0x2000146125100c42) h
noncomputable def Qx:IC:=YR Proofs.Tryz.f139
def UE:List IRes:=[(.tmp 2)]
abbrev c7o:Nat:=221
def Jv:ZB:=Yi [(20,.pure (preT (fun x:Str×Unit=>decide (x.1.s.length<=1048576))) (Zi (fun x:Str×Unit=>nameI x.1.s))),(162,.pure (preT (fun x:Tm×Bool×Bool×Bool×Bool×Bool×Unit=>tW x.1)) (Zi (fun x:Tm×Bool×Bool×Bool×Bool×Bool×Unit=>Yx x.1.nd x.2.1 x.2.2.1 x.2.2.2.1 x.2.2.2.2.1 x.2.2.2.2.2.1))),(164,.pure (preT (fun x:Str×Unit=>decide (x.1.s.length<=1048576))) (Zi (fun x:Str×Unit=>Ci x.1.s))),(163,.pure (preT (fun x:List Lin×Unit=>decide (x.1.length<=1048576)&&x.1.all XK)) (Zi (fun x:List Lin×Unit=>x.1.all Zg))),(114,.pure (preT (fun x:Arr×Unit=>VF x.1)) (Zi (fun x:Arr×Unit=>WF x.1)))]
abbrev b2o(b:PV->Prop)(XV:Nd)(a:List Tm):Prop:=(At Jv 0 (Za UE b) Qx 0 221 [(1,(.ptr 0 0)),(5,(.pv (.int .i64 0)))] [(.obj (.box (ZX XV a)))])
theorem e7r{G:PV->Prop}(n:Nd)(ks:List Tm)(h:if (decide (Nd.line n<0))=true then G ((.bool false))else(if (decide (Nd.line n>10000))=true then G ((.bool false))else(if (Nd.kind n==1)=true then if ((↑(List.length (List.map enc ks)):Int)==0)=true then(a0v [(.str (Str.s (Nd.name n)))] fun u=>(if (u)=true then(QJ (K9 n ks true false false false false) fun E=>(G ((.bool E))))else(G ((.bool false)))))else(G ((.bool false)))else(if (Nd.kind n==2)=true then if (Str.s (Nd.name n)==[(105:UInt8),(110:UInt8),(116:UInt8)])=true then if (decide (Nd.num n ≥ (-2147483648:Int)))=true then if (decide (Nd.num n<=2147483647))=true then if ((↑(List.length (List.map enc ks)):Int)==0)=true then(QJ (K9 n ks true true false false false) fun C=>(G ((.bool C))))else(G ((.bool false)))else(if (Str.s (Nd.name n)==[(98:UInt8),(111:UInt8),(111:UInt8),(108:UInt8)])=true then if (Nd.num n==0)=true then if ((↑(List.length (List.map enc ks)):Int)==0)=true then(QJ (K9 n ks true true false false false) fun H=>(G ((.bool H))))else(G ((.bool false)))else(if ((↑(List.length (List.map enc ks)):Int)==0)=true then if (Nd.num n==1)=true then(QJ (K9 n ks true true false false false) fun y=>(G ((.bool y))))else(G ((.bool false)))else(G ((.bool false))))else(if ((↑(List.length (List.map enc ks)):Int)==0)=true then G ((.bool false))else(G ((.bool false)))))else(if (Str.s (Nd.name n)==[(98:UInt8),(111:UInt8),(111:UInt8),(108:UInt8)])=true then if (Nd.num n==0)=true then if ((↑(List.length (List.map enc ks)):Int)==0)=true then(QJ (K9 n ks true true false false false) fun B=>(G ((.bool B))))else(G ((.bool false)))else(if ((↑(List.length (List.map enc ks)):Int)==0)=true then if (Nd.num n==1)=true then(QJ (K9 n ks true true false false false) fun D=>(G ((.bool D))))else(G ((.bool false)))else(G ((.bool false))))else(if ((↑(List.length (List.map enc ks)):Int)==0)=true then G ((.bool false))else(G ((.bool false)))))else(if (Str.s (Nd.name n)==[(98:UInt8),(111:UInt8),(111:UInt8),(108:UInt8)])=true then if (Nd.num n==0)=true then if ((↑(List.length (List.map enc ks)):Int)==0)=true then(QJ (K9 n ks true true false false false) fun F=>(G ((.bool F))))else(G ((.bool false)))else(if ((↑(List.length (List.map enc ks)):Int)==0)=true then if (Nd.num n==1)=true then(QJ (K9 n ks true true false false false) fun A=>(G ((.bool A))))else(G ((.bool false)))else(G ((.bool false))))else(if ((↑(List.length (List.map enc ks)):Int)==0)=true then G ((.bool false))else(G ((.bool false)))))else(if (Nd.kind n==3)=true then if ((↑(List.length (List.map enc ks)):Int)==0)=true then(g3l [(.agg [(.str (Str.s (Nd.elem n))),(.sl 1 false (List.map enc (Nd.dims n))),(.sl 1 false (List.map enc (Nd.data n)))])] fun z=>(if (z)=true then(QJ (K9 n ks false false true false false) fun b=>(G ((.bool b))))else(G ((.bool false)))))else(G ((.bool false)))else(if (Nd.kind n==4)=true then if ((↑(List.length (List.map enc ks)):Int)==0)=true then if ((↑(List.length (List.map enc (Nd.sizes n))):Int)==1)=true then(e8u [(.sl 2 false (List.map enc (Nd.sizes n)))] fun j=>(if (j)=true then(QJ (K9 n ks false false false true false) fun l=>(G ((.bool l))))else(G ((.bool false)))))else(G ((.bool false)))else(G ((.bool false)))else(if (Nd.kind n==5)=true then if ((↑(List.length (List.map enc ks)):Int)==2)=true then(a0v [(.str (Str.s (Nd.name n)))] fun e=>(if (e)=true then(QJ (K9 n ks true false false false false) fun g=>(G ((.bool g))))else(G ((.bool false)))))else(G ((.bool false)))else(if (Nd.kind n==6)=true then if (decide ((↑(List.length (List.map enc ks)):Int)>8))=true then G ((.bool false))else(if (decide ((↑(List.length (List.map enc (Nd.sizes n))):Int)>4))=true then G ((.bool false))else((e8u [(.sl 2 false (List.map enc (Nd.sizes n)))] fun m=>(if (!m)=true then G ((.bool false))else(if (decide (Nd.num n<0))=true then G ((.bool false))else(if (decide (Nd.num n>64))=true then G ((.bool false))else(if ((↑(List.length (List.map enc (Nd.ranks n))):Int) != 0)=true then if ((↑(List.length (List.map enc (Nd.ranks n))):Int) != (↑(List.length (List.map enc ks)):Int))=true then G ((.bool false))else(b2o G n ks)else(b2o G n ks))))))))else(if (Nd.kind n==7)=true then if (decide ((↑(List.length (List.map enc ks)):Int) ≥ 1))=true then if (decide ((↑(List.length (List.map enc ks)):Int)<=16))=true then(QJ (K9 n ks false false false false false) fun a=>(G ((.bool a))))else(G ((.bool false)))else(G ((.bool false)))else(if (Nd.kind n==8)=true then if ((↑(List.length (List.map enc ks)):Int)==2)=true then(d5o [(.str (Str.s (Nd.name n)))] fun r=>(if (r)=true then(QJ (K9 n ks true false false false false) fun i=>(G ((.bool i))))else(G ((.bool false)))))else(G ((.bool false)))else(if (Nd.kind n==9)=true then if ((↑(List.length (List.map enc ks)):Int)==1)=true then(d5o [(.str (Str.s (Nd.name n)))] fun k=>(if (k)=true then(QJ (K9 n ks true false false false false) fun q=>(G ((.bool q))))else(G ((.bool false)))))else(G ((.bool false)))else(G ((.bool false)))))))))))))):Zd Jv 0 (Za UE G) Qx [] (Zx 221 [.agg [enc n.kind,enc n.line,enc n.name,enc n.num,enc n.elem,enc n.dims,enc n.data,enc n.sizes,enc n.ranks,enc ks]]):=Zd.tp (dm [dv Bool] 776 0x222222022025120054251220114201d420222222022025120054251220114201d4202222202202512005422200f4201a420222222220000142222222200e422222022222220084222202222222222200c42222022222222222222201042251220222222222222222222220154222220222222222222222222222222201a4209b420222222022025120054251220114201d4202222222222202222220220251200542512201142222202142032420222222022025120054251220114201d42022220222200542222222202222022025120054200d42222222220222202512220074222222220184222203f4222222222222022220222200542222222202222022025120054200d42222222220222202512220074222222220184222203f422222222022220222200542222222202222022025120054200d42222222220222202512220074222222220184222203f4222202222025122200742222220164222207b422220e44214e420222222022025120054251220114201d420001422220222200542) h
theorem a1e{G:PV->Prop}(n:Nd)(ks:List Tm)(i:Int)(h:if (Al (Nd.ranks n) i)=true then(Xv (Nd.ranks n) i 1 fun a=>(if (decide (PV.asInt (VC a)<0))=true then G ((.bool false))else((Xv (Nd.ranks n) i 1 fun g=>(if (decide (PV.asInt (VC g)>6))=true then G ((.bool false))else(At Jv 0 (Za UE G) Qx 0 221 [(1,(.ptr 0 0)),(5,(.pv (.int .i64 (IntKind.wrap IntKind.i64 (i+1)))))] [(.obj (.box (ZX n ks)))]))))))else((d5o [(.str (Str.s (Nd.name n)))] fun e=>(if (e)=true then(QJ (K9 n ks true true false true true) fun b=>(G ((.bool b))))else(G ((.bool false))))))):At Jv 0 (Za UE G) Qx 0 221 [(1,.ptr 0 0),(5,.pv (.int .i64 i))] [.obj (.box [.pv (enc n.kind),.pv (enc n.line),.pv (enc n.name),.pv (enc n.num),.pv (enc n.elem),.pv (enc n.dims),.pv (enc n.data),.pv (enc n.sizes),.pv (enc n.ranks),.pv (enc ks)])]:=At.tp (dm [dr Int,dv Bool] 53 0x220261200546102000142222251222022222220084225102142) h
noncomputable def HZ:IC:=YR Proofs.Tryz.f106
def HY:List IRes:=[(.tmp 2)]
abbrev e3v:Nat:=20
def Ak(N:Nat):ZB:=Yi [(106,.pure (preT (fun x:Tm×Unit=>tW x.1&&decide (Z4 x.1<N))) (Zi (fun x:Tm×Unit=>Z9 x.1))),(139,.pure (preT (fun x:Tm×Unit=>tW x.1)) (Zi (fun x:Tm×Unit=>Hq x.1)))]
theorem f6k{G:PV->Prop}(N:Nat)(n:Nd)(ks:List Tm)(h:At (Ak N) 0 (Za HY G) HZ 0 20 [(1,(.ptr 0 0)),(3,(.pv (.int .i64 0)))] [(.obj (.box (ZX n ks)))]):Zd (Ak N) 0 (Za HY G) HZ [] (Zx 20 [.agg [enc n.kind,enc n.line,enc n.name,enc n.num,enc n.elem,enc n.dims,enc n.data,enc n.sizes,enc n.ranks,enc ks]]):=Zd.tp (.nil) h
theorem b2d{G:PV->Prop}(N:Nat)(n:Nd)(ks:List Tm)(i:Int)(h:if (Al ks i)=true then(Xv ks i 10 fun a=>(Bj a=true∧((f9l N (Kk a) fun e=>(if (!e)=true then G ((.bool false))else(At (Ak N) 0 (Za HY G) HZ 0 20 [(1,(.ptr 0 0)),(3,(.pv (.int .i64 (IntKind.wrap IntKind.i64 (i+1)))))] [(.obj (.box (ZX n ks)))]))))))else((f2x (CO n ks) fun b=>(G ((.bool b)))))):At (Ak N) 0 (Za HY G) HZ 0 20 [(1,.ptr 0 0),(3,.pv (.int .i64 i))] [.obj (.box [.pv (enc n.kind),.pv (enc n.line),.pv (enc n.name),.pv (enc n.num),.pv (enc n.elem),.pv (enc n.dims),.pv (enc n.data),.pv (enc n.sizes),.pv (enc n.ranks),.pv (enc ks)])]:=At.tp (dm [dr Tm,dv Bool] 21 0x6102000146115100c42) h
noncomputable def Mj:IC:=YR Proofs.Tryz.f70
def AR:List IRes:=[(.tmp 2)]
abbrev b7v:Nat:=15
def EB:ZB:=Yi [(48,.pure (preT (fun x:Tm×Unit=>tW x.1)) (Zi (fun x:Tm×Unit=>(Yt x.1:Int)))),(47,.pure (preT (fun x:Tm×Unit=>tW x.1)) (Zi (fun x:Tm×Unit=>(Z4 x.1:Int)))),(106,.pure (preT (fun x:Tm×Unit=>tW x.1)) (Zi (fun x:Tm×Unit=>Z9 x.1)))]
theorem d4t{G:PV->Prop}(n:Nd)(ks:List Tm)(h:(f6g (CO n ks) fun b=>(if (decide (b<=400))=true then(f7a (CO n ks) fun e=>(if (decide (e<=40))=true then(f6m (CO n ks) fun a=>(G ((.bool a))))else(G ((.bool false)))))else(G ((.bool false)))))):Zd EB 0 (Za AR G) Mj [] (Zx 15 [.agg [enc n.kind,enc n.line,enc n.name,enc n.num,enc n.elem,enc n.dims,enc n.data,enc n.sizes,enc n.ranks,enc ks]]):=Zd.tp (dm [dv Int,dv Bool] 33 0x2222220220261200542225120124251) h
noncomputable def b6r:IC:=YR Proofs.Tryz.f110
def b4n:List IRes:=[(.tmp 4),(.tmp 5),(.tmp 6)]
abbrev d9y:Nat:=40
def c6p:ZB:=Yi []
theorem f6d{G:PV->Prop}(s:List UInt8)(u:Bool)(h:if (u)=true then if (s==[(45:UInt8)])=true then G ((.tup [(.str [(110:UInt8),(101:UInt8),(103:UInt8)]),(.int .i64 6),(.bool true)]))else(if (s==[(33:UInt8)])=true then G ((.tup [(.str [(110:UInt8),(111:UInt8),(116:UInt8)]),(.int .i64 6),(.bool true)]))else(G ((.tup [(.str []),(.int .i64 0),(.bool false)]))))else(if (s==[(124:UInt8),(124:UInt8)])=true then G ((.tup [(.str [(111:UInt8),(114:UInt8)]),(.int .i64 1),(.bool true)]))else(if (s==[(38:UInt8),(38:UInt8)])=true then G ((.tup [(.str [(97:UInt8),(110:UInt8),(100:UInt8)]),(.int .i64 2),(.bool true)]))else(if (s==[(61:UInt8),(61:UInt8)])=true then G ((.tup [(.str [(101:UInt8),(113:UInt8)]),(.int .i64 3),(.bool true)]))else(if (s==[(33:UInt8),(61:UInt8)])=true then G ((.tup [(.str [(110:UInt8),(101:UInt8)]),(.int .i64 3),(.bool true)]))else(if (s==[(60:UInt8)])=true then G ((.tup [(.str [(108:UInt8),(116:UInt8)]),(.int .i64 3),(.bool true)]))else(if (s==[(60:UInt8),(61:UInt8)])=true then G ((.tup [(.str [(108:UInt8),(101:UInt8)]),(.int .i64 3),(.bool true)]))else(if (s==[(62:UInt8)])=true then G ((.tup [(.str [(103:UInt8),(116:UInt8)]),(.int .i64 3),(.bool true)]))else(if (s==[(62:UInt8),(61:UInt8)])=true then G ((.tup [(.str [(103:UInt8),(101:UInt8)]),(.int .i64 3),(.bool true)]))else(if (s==[(43:UInt8)])=true then G ((.tup [(.str [(97:UInt8),(100:UInt8),(100:UInt8)]),(.int .i64 4),(.bool true)]))else(if (s==[(45:UInt8)])=true then G ((.tup [(.str [(115:UInt8),(117:UInt8),(98:UInt8)]),(.int .i64 4),(.bool true)]))else(if (s==[(42:UInt8)])=true then G ((.tup [(.str [(109:UInt8),(117:UInt8),(108:UInt8)]),(.int .i64 5),(.bool true)]))else(if (s==[(47:UInt8)])=true then G ((.tup [(.str [(100:UInt8),(105:UInt8),(118:UInt8)]),(.int .i64 5),(.bool true)]))else(if (s==[(37:UInt8)])=true then G ((.tup [(.str [(109:UInt8),(111:UInt8),(100:UInt8)]),(.int .i64 5),(.bool true)]))else(G ((.tup [(.str []),(.int .i64 0),(.bool false)]))))))))))))))))):Zd c6p 0 (Za b4n G) b6r [] (Zx 40 [.str s,.bool u]):=Zd.tp (dm [] 97 0x142000142000142000142000142000142000142000142000142000142000142000142000142000014200014200d4) h
noncomputable def Ye:IC:=YR Proofs.Tryz.f109
def Yd:List IRes:=[(.tmp 2),(.tmp 3),(.tmp 4)]
abbrev e0j:Nat:=58
def YF:ZB:=Yi [(110,.pure (preT (fun _:Str×Bool×Unit=>true)) (Zi (fun x:Str×Bool×Unit=>Vb x.1 x.2.1)))]
theorem f6q{G:PV->Prop}(s:List UInt8)(h:At YF 0 (Za Yd G) Ye 0 58 [(0,(.pv (.str s))),(5,(.row 0 14 0 14)),(6,(.pv (.int .i64 0)))] [(.obj (.row false 9 1 ZL))]):Zd YF 0 (Za Yd G) Ye [] (Zx 58 [.str s]):=Zd.tp (.lit (.nil)) h
abbrev Oo(a:PV->Prop)(XV:List UInt8):Prop:=(At YF 0 (Za Yd a) Ye 0 58 [(0,(.pv (.str XV))),(5,(.row 0 14 0 14)),(6,(.pv (.int .i64 1)))] [(.obj (.row false 9 1 ZL))])
theorem c7w{G:PV->Prop}(s:List UInt8)(h:Dx (fun(x:Str×Bool×Unit)=>Vb x.1 x.2.1) [(.str (PV.asStr (List.getD (PV.cells (List.getD ZL (0+Int.toNat 0) default)) 0 default))),(.bool false)] fun e:R3 Str Int Bool=>if (R3.c e)=true then if (Str.s (R3.a e)==s)=true then G ((.tup [(.str (PV.asStr (List.getD (PV.cells (List.getD ZL (0+Int.toNat 0) default)) 0 default))),(.bool false),(.bool true)]))else(YY [(.str (PV.asStr (List.getD (PV.cells (List.getD ZL (0+Int.toNat 0) default)) 0 default))),(.bool true)] fun g=>(if (R3.c g)=true then if (Str.s (R3.a g)==s)=true then G ((.tup [(.str (PV.asStr (List.getD (PV.cells (List.getD ZL (0+Int.toNat 0) default)) 0 default))),(.bool true),(.bool true)]))else(Oo G s)else(Oo G s)))else(YY [(.str (PV.asStr (List.getD (PV.cells (List.getD ZL (0+Int.toNat 0) default)) 0 default))),(.bool true)] fun b=>(if (R3.c b)=true then if (Str.s (R3.a b)==s)=true then G ((.tup [(.str (PV.asStr (List.getD (PV.cells (List.getD ZL (0+Int.toNat 0) default)) 0 default))),(.bool true),(.bool true)]))else(Oo G s)else(Oo G s)))):At YF 0 (Za Yd G) Ye 0 58 [(0,.pv (.str s)),(5,.row 0 14 0 14),(6,.pv (.int .i64 0))] [.obj (.row false 9 1 ZL)]:=At.tp (dm [dv (R3 Str Int Bool)] 92 0x2222202022320054222200f4522232222202222202022320054222200f4522232022320054222202c452223222) h
abbrev Ec(a:PV->Prop)(XV:List UInt8):Prop:=(At YF 0 (Za Yd a) Ye 0 58 [(0,(.pv (.str XV))),(5,(.row 0 14 0 14)),(6,(.pv (.int .i64 2)))] [(.obj (.row false 9 1 ZL))])
theorem c4k{G:PV->Prop}(s:List UInt8)(h:Dx (fun(x:Str×Bool×Unit)=>Vb x.1 x.2.1) [(.str (PV.asStr (List.getD (PV.cells (List.getD ZL (0+Int.toNat 1) default)) 0 default))),(.bool false)] fun e:R3 Str Int Bool=>if (R3.c e)=true then if (Str.s (R3.a e)==s)=true then G ((.tup [(.str (PV.asStr (List.getD (PV.cells (List.getD ZL (0+Int.toNat 1) default)) 0 default))),(.bool false),(.bool true)]))else(YY [(.str (PV.asStr (List.getD (PV.cells (List.getD ZL (0+Int.toNat 1) default)) 0 default))),(.bool true)] fun g=>(if (R3.c g)=true then if (Str.s (R3.a g)==s)=true then G ((.tup [(.str (PV.asStr (List.getD (PV.cells (List.getD ZL (0+Int.toNat 1) default)) 0 default))),(.bool true),(.bool true)]))else(Ec G s)else(Ec G s)))else(YY [(.str (PV.asStr (List.getD (PV.cells (List.getD ZL (0+Int.toNat 1) default)) 0 default))),(.bool true)] fun b=>(if (R3.c b)=true then if (Str.s (R3.a b)==s)=true then G ((.tup [(.str (PV.asStr (List.getD (PV.cells (List.getD ZL (0+Int.toNat 1) default)) 0 default))),(.bool true),(.bool true)]))else(Ec G s)else(Ec G s)))):At YF 0 (Za Yd G) Ye 0 58 [(0,.pv (.str s)),(5,.row 0 14 0 14),(6,.pv (.int .i64 1))] [.obj (.row false 9 1 ZL)]:=At.tp (dm [dv (R3 Str Int Bool)] 92 0x2222202022320054222200f4522232222202222202022320054222200f4522232022320054222202c452223222) h
abbrev Oj(a:PV->Prop)(XV:List UInt8):Prop:=(At YF 0 (Za Yd a) Ye 0 58 [(0,(.pv (.str XV))),(5,(.row 0 14 0 14)),(6,(.pv (.int .i64 3)))] [(.obj (.row false 9 1 ZL))])
theorem d4b{G:PV->Prop}(s:List UInt8)(h:Dx (fun(x:Str×Bool×Unit)=>Vb x.1 x.2.1) [(.str (PV.asStr (List.getD (PV.cells (List.getD ZL (0+Int.toNat 2) default)) 0 default))),(.bool false)] fun e:R3 Str Int Bool=>if (R3.c e)=true then if (Str.s (R3.a e)==s)=true then G ((.tup [(.str (PV.asStr (List.getD (PV.cells (List.getD ZL (0+Int.toNat 2) default)) 0 default))),(.bool false),(.bool true)]))else(YY [(.str (PV.asStr (List.getD (PV.cells (List.getD ZL (0+Int.toNat 2) default)) 0 default))),(.bool true)] fun g=>(if (R3.c g)=true then if (Str.s (R3.a g)==s)=true then G ((.tup [(.str (PV.asStr (List.getD (PV.cells (List.getD ZL (0+Int.toNat 2) default)) 0 default))),(.bool true),(.bool true)]))else(Oj G s)else(Oj G s)))else(YY [(.str (PV.asStr (List.getD (PV.cells (List.getD ZL (0+Int.toNat 2) default)) 0 default))),(.bool true)] fun b=>(if (R3.c b)=true then if (Str.s (R3.a b)==s)=true then G ((.tup [(.str (PV.asStr (List.getD (PV.cells (List.getD ZL (0+Int.toNat 2) default)) 0 default))),(.bool true),(.bool true)]))else(Oj G s)else(Oj G s)))):At YF 0 (Za Yd G) Ye 0 58 [(0,.pv (.str s)),(5,.row 0 14 0 14),(6,.pv (.int .i64 2))] [.obj (.row false 9 1 ZL)]:=At.tp (dm [dv (R3 Str Int Bool)] 92 0x2222202022320054222200f4522232222202222202022320054222200f4522232022320054222202c452223222) h
abbrev Ef(a:PV->Prop)(XV:List UInt8):Prop:=(At YF 0 (Za Yd a) Ye 0 58 [(0,(.pv (.str XV))),(5,(.row 0 14 0 14)),(6,(.pv (.int .i64 4)))] [(.obj (.row false 9 1 ZL))])
theorem d5a{G:PV->Prop}(s:List UInt8)(h:Dx (fun(x:Str×Bool×Unit)=>Vb x.1 x.2.1) [(.str (PV.asStr (List.getD (PV.cells (List.getD ZL (0+Int.toNat 3) default)) 0 default))),(.bool false)] fun e:R3 Str Int Bool=>if (R3.c e)=true then if (Str.s (R3.a e)==s)=true then G ((.tup [(.str (PV.asStr (List.getD (PV.cells (List.getD ZL (0+Int.toNat 3) default)) 0 default))),(.bool false),(.bool true)]))else(YY [(.str (PV.asStr (List.getD (PV.cells (List.getD ZL (0+Int.toNat 3) default)) 0 default))),(.bool true)] fun g=>(if (R3.c g)=true then if (Str.s (R3.a g)==s)=true then G ((.tup [(.str (PV.asStr (List.getD (PV.cells (List.getD ZL (0+Int.toNat 3) default)) 0 default))),(.bool true),(.bool true)]))else(Ef G s)else(Ef G s)))else(YY [(.str (PV.asStr (List.getD (PV.cells (List.getD ZL (0+Int.toNat 3) default)) 0 default))),(.bool true)] fun b=>(if (R3.c b)=true then if (Str.s (R3.a b)==s)=true then G ((.tup [(.str (PV.asStr (List.getD (PV.cells (List.getD ZL (0+Int.toNat 3) default)) 0 default))),(.bool true),(.bool true)]))else(Ef G s)else(Ef G s)))):At YF 0 (Za Yd G) Ye 0 58 [(0,.pv (.str s)),(5,.row 0 14 0 14),(6,.pv (.int .i64 3))] [.obj (.row false 9 1 ZL)]:=At.tp (dm [dv (R3 Str Int Bool)] 92 0x2222202022320054222200f4522232222202222202022320054222200f4522232022320054222202c452223222) h
abbrev Te(a:PV->Prop)(XV:List UInt8):Prop:=(At YF 0 (Za Yd a) Ye 0 58 [(0,(.pv (.str XV))),(5,(.row 0 14 0 14)),(6,(.pv (.int .i64 5)))] [(.obj (.row false 9 1 ZL))])
theorem c9s{G:PV->Prop}(s:List UInt8)(h:Dx (fun(x:Str×Bool×Unit)=>Vb x.1 x.2.1) [(.str (PV.asStr (List.getD (PV.cells (List.getD ZL (0+Int.toNat 4) default)) 0 default))),(.bool false)] fun e:R3 Str Int Bool=>if (R3.c e)=true then if (Str.s (R3.a e)==s)=true then G ((.tup [(.str (PV.asStr (List.getD (PV.cells (List.getD ZL (0+Int.toNat 4) default)) 0 default))),(.bool false),(.bool true)]))else(YY [(.str (PV.asStr (List.getD (PV.cells (List.getD ZL (0+Int.toNat 4) default)) 0 default))),(.bool true)] fun g=>(if (R3.c g)=true then if (Str.s (R3.a g)==s)=true then G ((.tup [(.str (PV.asStr (List.getD (PV.cells (List.getD ZL (0+Int.toNat 4) default)) 0 default))),(.bool true),(.bool true)]))else(Te G s)else(Te G s)))else(YY [(.str (PV.asStr (List.getD (PV.cells (List.getD ZL (0+Int.toNat 4) default)) 0 default))),(.bool true)] fun b=>(if (R3.c b)=true then if (Str.s (R3.a b)==s)=true then G ((.tup [(.str (PV.asStr (List.getD (PV.cells (List.getD ZL (0+Int.toNat 4) default)) 0 default))),(.bool true),(.bool true)]))else(Te G s)else(Te G s)))):At YF 0 (Za Yd G) Ye 0 58 [(0,.pv (.str s)),(5,.row 0 14 0 14),(6,.pv (.int .i64 4))] [.obj (.row false 9 1 ZL)]:=At.tp (dm [dv (R3 Str Int Bool)] 92 0x2222202022320054222200f4522232222202222202022320054222200f4522232022320054222202c452223222) h
abbrev Tn(a:PV->Prop)(XV:List UInt8):Prop:=(At YF 0 (Za Yd a) Ye 0 58 [(0,(.pv (.str XV))),(5,(.row 0 14 0 14)),(6,(.pv (.int .i64 6)))] [(.obj (.row false 9 1 ZL))])
theorem d4m{G:PV->Prop}(s:List UInt8)(h:Dx (fun(x:Str×Bool×Unit)=>Vb x.1 x.2.1) [(.str (PV.asStr (List.getD (PV.cells (List.getD ZL (0+Int.toNat 5) default)) 0 default))),(.bool false)] fun e:R3 Str Int Bool=>if (R3.c e)=true then if (Str.s (R3.a e)==s)=true then G ((.tup [(.str (PV.asStr (List.getD (PV.cells (List.getD ZL (0+Int.toNat 5) default)) 0 default))),(.bool false),(.bool true)]))else(YY [(.str (PV.asStr (List.getD (PV.cells (List.getD ZL (0+Int.toNat 5) default)) 0 default))),(.bool true)] fun g=>(if (R3.c g)=true then if (Str.s (R3.a g)==s)=true then G ((.tup [(.str (PV.asStr (List.getD (PV.cells (List.getD ZL (0+Int.toNat 5) default)) 0 default))),(.bool true),(.bool true)]))else(Tn G s)else(Tn G s)))else(YY [(.str (PV.asStr (List.getD (PV.cells (List.getD ZL (0+Int.toNat 5) default)) 0 default))),(.bool true)] fun b=>(if (R3.c b)=true then if (Str.s (R3.a b)==s)=true then G ((.tup [(.str (PV.asStr (List.getD (PV.cells (List.getD ZL (0+Int.toNat 5) default)) 0 default))),(.bool true),(.bool true)]))else(Tn G s)else(Tn G s)))):At YF 0 (Za Yd G) Ye 0 58 [(0,.pv (.str s)),(5,.row 0 14 0 14),(6,.pv (.int .i64 5))] [.obj (.row false 9 1 ZL)]:=At.tp (dm [dv (R3 Str Int Bool)] 92 0x2222202022320054222200f4522232222202222202022320054222200f4522232022320054222202c452223222) h
abbrev TB(a:PV->Prop)(XV:List UInt8):Prop:=(At YF 0 (Za Yd a) Ye 0 58 [(0,(.pv (.str XV))),(5,(.row 0 14 0 14)),(6,(.pv (.int .i64 7)))] [(.obj (.row false 9 1 ZL))])
theorem d4h{G:PV->Prop}(s:List UInt8)(h:Dx (fun(x:Str×Bool×Unit)=>Vb x.1 x.2.1) [(.str (PV.asStr (List.getD (PV.cells (List.getD ZL (0+Int.toNat 6) default)) 0 default))),(.bool false)] fun e:R3 Str Int Bool=>if (R3.c e)=true then if (Str.s (R3.a e)==s)=true then G ((.tup [(.str (PV.asStr (List.getD (PV.cells (List.getD ZL (0+Int.toNat 6) default)) 0 default))),(.bool false),(.bool true)]))else(YY [(.str (PV.asStr (List.getD (PV.cells (List.getD ZL (0+Int.toNat 6) default)) 0 default))),(.bool true)] fun g=>(if (R3.c g)=true then if (Str.s (R3.a g)==s)=true then G ((.tup [(.str (PV.asStr (List.getD (PV.cells (List.getD ZL (0+Int.toNat 6) default)) 0 default))),(.bool true),(.bool true)]))else(TB G s)else(TB G s)))else(YY [(.str (PV.asStr (List.getD (PV.cells (List.getD ZL (0+Int.toNat 6) default)) 0 default))),(.bool true)] fun b=>(if (R3.c b)=true then if (Str.s (R3.a b)==s)=true then G ((.tup [(.str (PV.asStr (List.getD (PV.cells (List.getD ZL (0+Int.toNat 6) default)) 0 default))),(.bool true),(.bool true)]))else(TB G s)else(TB G s)))):At YF 0 (Za Yd G) Ye 0 58 [(0,.pv (.str s)),(5,.row 0 14 0 14),(6,.pv (.int .i64 6))] [.obj (.row false 9 1 ZL)]:=At.tp (dm [dv (R3 Str Int Bool)] 92 0x2222202022320054222200f4522232222202222202022320054222200f4522232022320054222202c452223222) h
abbrev Tc(a:PV->Prop)(XV:List UInt8):Prop:=(At YF 0 (Za Yd a) Ye 0 58 [(0,(.pv (.str XV))),(5,(.row 0 14 0 14)),(6,(.pv (.int .i64 8)))] [(.obj (.row false 9 1 ZL))])
theorem d7u{G:PV->Prop}(s:List UInt8)(h:Dx (fun(x:Str×Bool×Unit)=>Vb x.1 x.2.1) [(.str (PV.asStr (List.getD (PV.cells (List.getD ZL (0+Int.toNat 7) default)) 0 default))),(.bool false)] fun e:R3 Str Int Bool=>if (R3.c e)=true then if (Str.s (R3.a e)==s)=true then G ((.tup [(.str (PV.asStr (List.getD (PV.cells (List.getD ZL (0+Int.toNat 7) default)) 0 default))),(.bool false),(.bool true)]))else(YY [(.str (PV.asStr (List.getD (PV.cells (List.getD ZL (0+Int.toNat 7) default)) 0 default))),(.bool true)] fun g=>(if (R3.c g)=true then if (Str.s (R3.a g)==s)=true then G ((.tup [(.str (PV.asStr (List.getD (PV.cells (List.getD ZL (0+Int.toNat 7) default)) 0 default))),(.bool true),(.bool true)]))else(Tc G s)else(Tc G s)))else(YY [(.str (PV.asStr (List.getD (PV.cells (List.getD ZL (0+Int.toNat 7) default)) 0 default))),(.bool true)] fun b=>(if (R3.c b)=true then if (Str.s (R3.a b)==s)=true then G ((.tup [(.str (PV.asStr (List.getD (PV.cells (List.getD ZL (0+Int.toNat 7) default)) 0 default))),(.bool true),(.bool true)]))else(Tc G s)else(Tc G s)))):At YF 0 (Za Yd G) Ye 0 58 [(0,.pv (.str s)),(5,.row 0 14 0 14),(6,.pv (.int .i64 7))] [.obj (.row false 9 1 ZL)]:=At.tp (dm [dv (R3 Str Int Bool)] 92 0x2222202022320054222200f4522232222202222202022320054222200f4522232022320054222202c452223222) h
abbrev Ti(a:PV->Prop)(XV:List UInt8):Prop:=(At YF 0 (Za Yd a) Ye 0 58 [(0,(.pv (.str XV))),(5,(.row 0 14 0 14)),(6,(.pv (.int .i64 9)))] [(.obj (.row false 9 1 ZL))])
theorem d8d{G:PV->Prop}(s:List UInt8)(h:Dx (fun(x:Str×Bool×Unit)=>Vb x.1 x.2.1) [(.str (PV.asStr (List.getD (PV.cells (List.getD ZL (0+Int.toNat 8) default)) 0 default))),(.bool false)] fun e:R3 Str Int Bool=>if (R3.c e)=true then if (Str.s (R3.a e)==s)=true then G ((.tup [(.str (PV.asStr (List.getD (PV.cells (List.getD ZL (0+Int.toNat 8) default)) 0 default))),(.bool false),(.bool true)]))else(YY [(.str (PV.asStr (List.getD (PV.cells (List.getD ZL (0+Int.toNat 8) default)) 0 default))),(.bool true)] fun g=>(if (R3.c g)=true then if (Str.s (R3.a g)==s)=true then G ((.tup [(.str (PV.asStr (List.getD (PV.cells (List.getD ZL (0+Int.toNat 8) default)) 0 default))),(.bool true),(.bool true)]))else(Ti G s)else(Ti G s)))else(YY [(.str (PV.asStr (List.getD (PV.cells (List.getD ZL (0+Int.toNat 8) default)) 0 default))),(.bool true)] fun b=>(if (R3.c b)=true then if (Str.s (R3.a b)==s)=true then G ((.tup [(.str (PV.asStr (List.getD (PV.cells (List.getD ZL (0+Int.toNat 8) default)) 0 default))),(.bool true),(.bool true)]))else(Ti G s)else(Ti G s)))):At YF 0 (Za Yd G) Ye 0 58 [(0,.pv (.str s)),(5,.row 0 14 0 14),(6,.pv (.int .i64 8))] [.obj (.row false 9 1 ZL)]:=At.tp (dm [dv (R3 Str Int Bool)] 92 0x2222202022320054222200f4522232222202222202022320054222200f4522232022320054222202c452223222) h
abbrev Fq(a:PV->Prop)(XV:List UInt8):Prop:=(At YF 0 (Za Yd a) Ye 0 58 [(0,(.pv (.str XV))),(5,(.row 0 14 0 14)),(6,(.pv (.int .i64 10)))] [(.obj (.row false 9 1 ZL))])
theorem d9m{G:PV->Prop}(s:List UInt8)(h:Dx (fun(x:Str×Bool×Unit)=>Vb x.1 x.2.1) [(.str (PV.asStr (List.getD (PV.cells (List.getD ZL (0+Int.toNat 9) default)) 0 default))),(.bool false)] fun e:R3 Str Int Bool=>if (R3.c e)=true then if (Str.s (R3.a e)==s)=true then G ((.tup [(.str (PV.asStr (List.getD (PV.cells (List.getD ZL (0+Int.toNat 9) default)) 0 default))),(.bool false),(.bool true)]))else(YY [(.str (PV.asStr (List.getD (PV.cells (List.getD ZL (0+Int.toNat 9) default)) 0 default))),(.bool true)] fun g=>(if (R3.c g)=true then if (Str.s (R3.a g)==s)=true then G ((.tup [(.str (PV.asStr (List.getD (PV.cells (List.getD ZL (0+Int.toNat 9) default)) 0 default))),(.bool true),(.bool true)]))else(Fq G s)else(Fq G s)))else(YY [(.str (PV.asStr (List.getD (PV.cells (List.getD ZL (0+Int.toNat 9) default)) 0 default))),(.bool true)] fun b=>(if (R3.c b)=true then if (Str.s (R3.a b)==s)=true then G ((.tup [(.str (PV.asStr (List.getD (PV.cells (List.getD ZL (0+Int.toNat 9) default)) 0 default))),(.bool true),(.bool true)]))else(Fq G s)else(Fq G s)))):At YF 0 (Za Yd G) Ye 0 58 [(0,.pv (.str s)),(5,.row 0 14 0 14),(6,.pv (.int .i64 9))] [.obj (.row false 9 1 ZL)]:=At.tp (dm [dv (R3 Str Int Bool)] 92 0x2222202022320054222200f4522232222202222202022320054222200f4522232022320054222202c452223222) h
abbrev Oi(a:PV->Prop)(XV:List UInt8):Prop:=(At YF 0 (Za Yd a) Ye 0 58 [(0,(.pv (.str XV))),(5,(.row 0 14 0 14)),(6,(.pv (.int .i64 11)))] [(.obj (.row false 9 1 ZL))])
theorem d5m{G:PV->Prop}(s:List UInt8)(h:Dx (fun(x:Str×Bool×Unit)=>Vb x.1 x.2.1) [(.str (PV.asStr (List.getD (PV.cells (List.getD ZL (0+Int.toNat 10) default)) 0 default))),(.bool false)] fun e:R3 Str Int Bool=>if (R3.c e)=true then if (Str.s (R3.a e)==s)=true then G ((.tup [(.str (PV.asStr (List.getD (PV.cells (List.getD ZL (0+Int.toNat 10) default)) 0 default))),(.bool false),(.bool true)]))else(YY [(.str (PV.asStr (List.getD (PV.cells (List.getD ZL (0+Int.toNat 10) default)) 0 default))),(.bool true)] fun g=>(if (R3.c g)=true then if (Str.s (R3.a g)==s)=true then G ((.tup [(.str (PV.asStr (List.getD (PV.cells (List.getD ZL (0+Int.toNat 10) default)) 0 default))),(.bool true),(.bool true)]))else(Oi G s)else(Oi G s)))else(YY [(.str (PV.asStr (List.getD (PV.cells (List.getD ZL (0+Int.toNat 10) default)) 0 default))),(.bool true)] fun b=>(if (R3.c b)=true then if (Str.s (R3.a b)==s)=true then G ((.tup [(.str (PV.asStr (List.getD (PV.cells (List.getD ZL (0+Int.toNat 10) default)) 0 default))),(.bool true),(.bool true)]))else(Oi G s)else(Oi G s)))):At YF 0 (Za Yd G) Ye 0 58 [(0,.pv (.str s)),(5,.row 0 14 0 14),(6,.pv (.int .i64 10))] [.obj (.row false 9 1 ZL)]:=At.tp (dm [dv (R3 Str Int Bool)] 92 0x2222202022320054222200f4522232222202222202022320054222200f4522232022320054222202c452223222) h
abbrev Fa(a:PV->Prop)(XV:List UInt8):Prop:=(At YF 0 (Za Yd a) Ye 0 58 [(0,(.pv (.str XV))),(5,(.row 0 14 0 14)),(6,(.pv (.int .i64 12)))] [(.obj (.row false 9 1 ZL))])
theorem d4r{G:PV->Prop}(s:List UInt8)(h:Dx (fun(x:Str×Bool×Unit)=>Vb x.1 x.2.1) [(.str (PV.asStr (List.getD (PV.cells (List.getD ZL (0+Int.toNat 11) default)) 0 default))),(.bool false)] fun e:R3 Str Int Bool=>if (R3.c e)=true then if (Str.s (R3.a e)==s)=true then G ((.tup [(.str (PV.asStr (List.getD (PV.cells (List.getD ZL (0+Int.toNat 11) default)) 0 default))),(.bool false),(.bool true)]))else(YY [(.str (PV.asStr (List.getD (PV.cells (List.getD ZL (0+Int.toNat 11) default)) 0 default))),(.bool true)] fun g=>(if (R3.c g)=true then if (Str.s (R3.a g)==s)=true then G ((.tup [(.str (PV.asStr (List.getD (PV.cells (List.getD ZL (0+Int.toNat 11) default)) 0 default))),(.bool true),(.bool true)]))else(Fa G s)else(Fa G s)))else(YY [(.str (PV.asStr (List.getD (PV.cells (List.getD ZL (0+Int.toNat 11) default)) 0 default))),(.bool true)] fun b=>(if (R3.c b)=true then if (Str.s (R3.a b)==s)=true then G ((.tup [(.str (PV.asStr (List.getD (PV.cells (List.getD ZL (0+Int.toNat 11) default)) 0 default))),(.bool true),(.bool true)]))else(Fa G s)else(Fa G s)))):At YF 0 (Za Yd G) Ye 0 58 [(0,.pv (.str s)),(5,.row 0 14 0 14),(6,.pv (.int .i64 11))] [.obj (.row false 9 1 ZL)]:=At.tp (dm [dv (R3 Str Int Bool)] 92 0x2222202022320054222200f4522232222202222202022320054222200f4522232022320054222202c452223222) h
abbrev Fs(a:PV->Prop)(XV:List UInt8):Prop:=(At YF 0 (Za Yd a) Ye 0 58 [(0,(.pv (.str XV))),(5,(.row 0 14 0 14)),(6,(.pv (.int .i64 13)))] [(.obj (.row false 9 1 ZL))])
theorem c8b{G:PV->Prop}(s:List UInt8)(h:Dx (fun(x:Str×Bool×Unit)=>Vb x.1 x.2.1) [(.str (PV.asStr (List.getD (PV.cells (List.getD ZL (0+Int.toNat 12) default)) 0 default))),(.bool false)] fun e:R3 Str Int Bool=>if (R3.c e)=true then if (Str.s (R3.a e)==s)=true then G ((.tup [(.str (PV.asStr (List.getD (PV.cells (List.getD ZL (0+Int.toNat 12) default)) 0 default))),(.bool false),(.bool true)]))else(YY [(.str (PV.asStr (List.getD (PV.cells (List.getD ZL (0+Int.toNat 12) default)) 0 default))),(.bool true)] fun g=>(if (R3.c g)=true then if (Str.s (R3.a g)==s)=true then G ((.tup [(.str (PV.asStr (List.getD (PV.cells (List.getD ZL (0+Int.toNat 12) default)) 0 default))),(.bool true),(.bool true)]))else(Fs G s)else(Fs G s)))else(YY [(.str (PV.asStr (List.getD (PV.cells (List.getD ZL (0+Int.toNat 12) default)) 0 default))),(.bool true)] fun b=>(if (R3.c b)=true then if (Str.s (R3.a b)==s)=true then G ((.tup [(.str (PV.asStr (List.getD (PV.cells (List.getD ZL (0+Int.toNat 12) default)) 0 default))),(.bool true),(.bool true)]))else(Fs G s)else(Fs G s)))):At YF 0 (Za Yd G) Ye 0 58 [(0,.pv (.str s)),(5,.row 0 14 0 14),(6,.pv (.int .i64 12))] [.obj (.row false 9 1 ZL)]:=At.tp (dm [dv (R3 Str Int Bool)] 92 0x2222202022320054222200f4522232222202222202022320054222200f4522232022320054222202c452223222) h
abbrev Fj(a:PV->Prop)(XV:List UInt8):Prop:=(At YF 0 (Za Yd a) Ye 0 58 [(0,(.pv (.str XV))),(5,(.row 0 14 0 14)),(6,(.pv (.int .i64 14)))] [(.obj (.row false 9 1 ZL))])
theorem c7n{G:PV->Prop}(s:List UInt8)(h:Dx (fun(x:Str×Bool×Unit)=>Vb x.1 x.2.1) [(.str (PV.asStr (List.getD (PV.cells (List.getD ZL (0+Int.toNat 13) default)) 0 default))),(.bool false)] fun e:R3 Str Int Bool=>if (R3.c e)=true then if (Str.s (R3.a e)==s)=true then G ((.tup [(.str (PV.asStr (List.getD (PV.cells (List.getD ZL (0+Int.toNat 13) default)) 0 default))),(.bool false),(.bool true)]))else(YY [(.str (PV.asStr (List.getD (PV.cells (List.getD ZL (0+Int.toNat 13) default)) 0 default))),(.bool true)] fun g=>(if (R3.c g)=true then if (Str.s (R3.a g)==s)=true then G ((.tup [(.str (PV.asStr (List.getD (PV.cells (List.getD ZL (0+Int.toNat 13) default)) 0 default))),(.bool true),(.bool true)]))else(Fj G s)else(Fj G s)))else(YY [(.str (PV.asStr (List.getD (PV.cells (List.getD ZL (0+Int.toNat 13) default)) 0 default))),(.bool true)] fun b=>(if (R3.c b)=true then if (Str.s (R3.a b)==s)=true then G ((.tup [(.str (PV.asStr (List.getD (PV.cells (List.getD ZL (0+Int.toNat 13) default)) 0 default))),(.bool true),(.bool true)]))else(Fj G s)else(Fj G s)))):At YF 0 (Za Yd G) Ye 0 58 [(0,.pv (.str s)),(5,.row 0 14 0 14),(6,.pv (.int .i64 13))] [.obj (.row false 9 1 ZL)]:=At.tp (dm [dv (R3 Str Int Bool)] 92 0x2222202022320054222200f4522232222202222202022320054222200f4522232022320054222202c452223222) h
theorem c5q{G:PV->Prop}(s:List UInt8)(h:G ((.tup [(.str []),(.bool false),(.bool false)]))):At YF 0 (Za Yd G) Ye 0 58 [(0,.pv (.str s)),(5,.row 0 14 0 14),(6,.pv (.int .i64 14))] [.obj (.row false 9 1 ZL)]:=At.tp (.lit (.lit (.nil))) h
end Go.Pl
