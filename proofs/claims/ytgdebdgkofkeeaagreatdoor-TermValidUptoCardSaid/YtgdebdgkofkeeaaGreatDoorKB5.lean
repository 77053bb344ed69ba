/-
  Texts of mine that belong together (packed by pack.py), for every input: GUz, QUz, VwH, GUu, VwK, QUw, TyRn, GUw, QUx, GUx1, QUx1, QUx2, QUq.
-/
import Derived.Test.YtgdebdgkofkeeaaGreatDoorChecked
import Derived.Test.YtgdebdgkofkeeaaGreatDoorKB2
import Derived.Test.YtgdebdgkofkeeaaGreatDoorKB3
import Derived.Test.YtgdebdgkofkeeaaGreatDoorKB4
import Derived.KernelRfl
set_option linter.unusedVariables false
set_option linter.unusedSimpArgs false
namespace Go.Pl
open Go.RowKit
open Enc (enc dec is)
open EncL (encL decL isL)
set_option maxRecDepth 100000
abbrev b7i(ps:List PV)(k:Str->Prop):Prop:=XT (fun(x:Int×Unit)=>decide (0<Prod.fst x)&&decide (Prod.fst x<=4611686018427387904)) (fun(x:Int×Unit)=>vN (Int.toNat (Prod.fst x))) ps k
abbrev d8h(ps:List PV)(k:Bool->Prop):Prop:=XT (fun(x:List Str×Str×Unit)=>decide (List.length (Prod.fst x)<=1048576)) (fun(x:List Str×Str×Unit)=>decide (Prod.fst (Prod.snd x)∈Prod.fst x)) ps k
abbrev Hm(N:Nat)(ps:List PV)(k:TS×Int->Prop):Prop:=XT (fun(x:Tm×List Str×List Str×List Str×Int×Unit)=>tW (Prod.fst x)&&(decide (List.length (Prod.fst (Prod.snd x))=List.length (Prod.fst (Prod.snd (Prod.snd x))))&&(decide (List.length (Prod.fst (Prod.snd x))+Zu (Prod.fst x)<=1048576)&&(decide (List.length (Prod.fst (Prod.snd (Prod.snd (Prod.snd x))))<=1048576)&&(decide (1<=Prod.fst (Prod.snd (Prod.snd (Prod.snd (Prod.snd x)))))&&decide (Prod.fst (Prod.snd (Prod.snd (Prod.snd (Prod.snd x))))+(↑(Zk (Prod.fst x)*(List.length (Prod.fst (Prod.snd (Prod.snd (Prod.snd x))))+1)):Int)<=4611686018427387904)))))&&decide (Zu (Prod.fst x)<N)) (fun(x:Tm×List Str×List Str×List Str×Int×Unit)=>Td (Prod.fst x) (Prod.fst (Prod.snd x)) (Prod.fst (Prod.snd (Prod.snd x))) (Prod.fst (Prod.snd (Prod.snd (Prod.snd x)))) (Prod.fst (Prod.snd (Prod.snd (Prod.snd (Prod.snd x)))))) ps k
abbrev d9i(ps:List PV)(k:List Str->Prop):Prop:=XT (fun(x:Tm×Unit)=>tW (Prod.fst x)) (fun(x:Tm×Unit)=>Ye (Prod.fst x)) ps k
abbrev d6a(ps:List PV)(k:TS×Int->Prop):Prop:=XT (fun(x:Tm×List Str×List Str×List Str×Int×Unit)=>tW (Prod.fst x)&&(decide (List.length (Prod.fst (Prod.snd x))=List.length (Prod.fst (Prod.snd (Prod.snd x))))&&(decide (List.length (Prod.fst (Prod.snd x))+Zu (Prod.fst x)<=1048576)&&(decide (List.length (Prod.fst (Prod.snd (Prod.snd (Prod.snd x))))<=1048576)&&(decide (1<=Prod.fst (Prod.snd (Prod.snd (Prod.snd (Prod.snd x)))))&&decide (Prod.fst (Prod.snd (Prod.snd (Prod.snd (Prod.snd x))))+(↑(Zk (Prod.fst x)*(List.length (Prod.fst (Prod.snd (Prod.snd (Prod.snd x))))+1)):Int)<=4611686018427387904)))))) (fun(x:Tm×List Str×List Str×List Str×Int×Unit)=>Td (Prod.fst x) (Prod.fst (Prod.snd x)) (Prod.fst (Prod.snd (Prod.snd x))) (Prod.fst (Prod.snd (Prod.snd (Prod.snd x)))) (Prod.fst (Prod.snd (Prod.snd (Prod.snd (Prod.snd x)))))) ps k
abbrev c9a(ps:List PV)(k:Tm->Prop):Prop:=XT (fun(x:Tm×Unit)=>tW (Prod.fst x)) (fun(x:Tm×Unit)=>Yd (Prod.fst x)) ps k
abbrev d7m(ps:List PV)(k:Bool->Prop):Prop:=XT (fun(x:Tm×Tm×Unit)=>tW (Prod.fst x)&&tW (Prod.fst (Prod.snd x))) (fun(x:Tm×Tm×Unit)=>K5 (Prod.fst x) (Prod.fst (Prod.snd x))) ps k
noncomputable def Z8:IC:=Xy Proofs.Tryz.f75
def Z7:List IRes:=[(.cell true 10 10),(.tmp 11)]
abbrev d0l:Nat:=113
noncomputable def Yy(N:Nat):Zz:=Yr [(75,.pure (preT (fun x:Tm×List Str×List Str×List Str×Int×Unit=>(tW x.1&&(decide (x.2.1.length=x.2.2.1.length)&&(decide (x.2.1.length+Zu x.1<=1048576)&&(decide (x.2.2.2.1.length<=1048576)&&(decide (1<=x.2.2.2.2.1)&&decide (x.2.2.2.2.1+((Zk x.1*(x.2.2.2.1.length+1):Nat):Int)<=4611686018427387904))))))&&decide (Zu x.1<N))) (Zi (fun x:Tm×List Str×List Str×List Str×Int×Unit=>Td x.1 x.2.1 x.2.2.1 x.2.2.2.1 x.2.2.2.2.1))),(100,.pure (preT (fun x:List Str×Str×Unit=>decide (x.1.length<=1048576))) (Zi (fun x:List Str×Str×Unit=>decide (x.2.1∈x.1)))),(101,.pure (preT (fun x:Int×Unit=>decide (0<x.1)&&decide (x.1<=4611686018427387904))) (Zi (fun x:Int×Unit=>vN x.1.toNat)))]
theorem d9e{G:PV->Prop}(N:Nat)(n:Nd)(ks:List Tm)(f g a:List Str)(c:Int)(h:if (Nd.kind n==1)=true then At (Yy N) 0 (Zb Z7 G) Z8 0 113 [(1,(.pv (.sl 1 false (List.map enc f)))),(2,(.pv (.sl 1 false (List.map enc g)))),(3,(.pv (.sl 1 false (List.map enc a)))),(4,(.pv (.int .i64 c))),(5,(.ptr 0 0)),(10,(.ptr 1 0)),(12,(.pv (.int .i64 (IntKind.wrap IntKind.i64 ((↑(List.length (List.map enc f)):Int) - 1)))))] [(.obj (.box (ZY n ks))),(.obj (.box [(.pv (.int .i64 0)),(.pv (.int .i64 0)),(.pv (.str [])),(.pv (.int .i64 0)),(.pv (.str [])),(.pv (.sl 0 true [])),(.pv (.sl 0 true [])),(.pv (.sl 0 true [])),(.pv (.sl 0 true [])),(.pv (.sl 0 true []))]))]else(if (Nd.kind n==5)=true then if ((↑(List.length (List.map enc ks)):Int)==2)=true then At (Yy N) 0 (Zb Z7 G) Z8 1 113 [(1,(.pv (.sl 1 false (List.map enc f)))),(2,(.pv (.sl 1 false (List.map enc g)))),(3,(.pv (.sl 1 false (List.map enc a)))),(4,(.pv (.int .i64 c))),(5,(.ptr 0 0)),(10,(.ptr 1 0)),(13,(.pv (.bool ((↑(List.length (List.map enc ks)):Int)==2)))),(14,(.pv (.str (Str.s (Nd.name n)))))] [(.obj (.box (ZY n ks))),(.obj (.box [(.pv (.int .i64 0)),(.pv (.int .i64 0)),(.pv (.str [])),(.pv (.int .i64 0)),(.pv (.str [])),(.pv (.sl 0 true [])),(.pv (.sl 0 true [])),(.pv (.sl 0 true [])),(.pv (.sl 0 true [])),(.pv (.sl 0 true []))]))]else(At (Yy N) 0 (Zb Z7 G) Z8 2 113 [(1,(.pv (.sl 1 false (List.map enc f)))),(2,(.pv (.sl 1 false (List.map enc g)))),(3,(.pv (.sl 1 false (List.map enc a)))),(4,(.pv (.int .i64 c))),(5,(.ptr 0 0)),(10,(.ptr 1 0)),(13,(.pv (.bool ((↑(List.length (List.map enc ks)):Int)==2)))),(14,(.pv (.str (Str.s (Nd.name n))))),(15,(.pv (.sl 0 true []))),(16,(.pv (.int .i64 0)))] [(.obj (.box (ZY n ks))),(.obj (.box [(.pv (.int .i64 0)),(.pv (.int .i64 0)),(.pv (.str [])),(.pv (.int .i64 0)),(.pv (.str [])),(.pv (.sl 0 true [])),(.pv (.sl 0 true [])),(.pv (.sl 0 true [])),(.pv (.sl 0 true [])),(.pv (.sl 0 true []))]))])else(At (Yy N) 0 (Zb Z7 G) Z8 2 113 [(1,(.pv (.sl 1 false (List.map enc f)))),(2,(.pv (.sl 1 false (List.map enc g)))),(3,(.pv (.sl 1 false (List.map enc a)))),(4,(.pv (.int .i64 c))),(5,(.ptr 0 0)),(10,(.ptr 1 0)),(13,(.pv (.bool false))),(14,(.pv (.str (Str.s (Nd.name n))))),(15,(.pv (.sl 0 true []))),(16,(.pv (.int .i64 0)))] [(.obj (.box (ZY n ks))),(.obj (.box [(.pv (.int .i64 0)),(.pv (.int .i64 0)),(.pv (.str [])),(.pv (.int .i64 0)),(.pv (.str [])),(.pv (.sl 0 true [])),(.pv (.sl 0 true [])),(.pv (.sl 0 true [])),(.pv (.sl 0 true [])),(.pv (.sl 0 true []))]))]))):Zc (Yy N) 0 (Zb Z7 G) Z8 [] (ZJ 113 [.agg [enc n.kind,enc n.line,enc n.name,enc n.num,enc n.elem,enc n.dims,enc n.data,enc n.sizes,enc n.ranks,enc ks],enc f,enc g,enc a,.int .i64 c]):=Zc.tp (dm [] 30 0x222220000142222200b420200242) h
theorem b3l{G:PV->Prop}(N:Nat)(n:Nd)(ks:List Tm)(f g a:List Str)(c:Int)(i:Int)(h:if (decide (i ≥ 0))=true then(Ul f i 1 fun y0=>(if (PV.asStr (List.getD (PV.cells (enc y0)) 0 default)==Str.s (Nd.name n))=true then(Ul g i 1 fun y1=>(if (Nd.kind n==5)=true then if ((↑(List.length (List.map enc ks)):Int)==2)=true then At (Yy N) 0 (Zb Z7 G) Z8 1 113 [(1,(.pv (.sl 1 false (List.map enc f)))),(2,(.pv (.sl 1 false (List.map enc g)))),(3,(.pv (.sl 1 false (List.map enc a)))),(4,(.pv (.int .i64 c))),(5,(.ptr 0 0)),(10,(.ptr 1 0)),(13,(.pv (.bool ((↑(List.length (List.map enc ks)):Int)==2)))),(14,(.pv (.str (PV.asStr (List.getD (PV.cells (enc y1)) 0 default)))))] [(.obj (.box [(.pv (.int .i64 (Nd.kind n))),(.pv (.int .i64 (Nd.line n))),(.pv (.str (PV.asStr (List.getD (PV.cells (enc y1)) 0 default)))),(.pv (.int .i64 (Nd.num n))),(.pv (.str (Str.s (Nd.elem n)))),(.pv (.sl 1 false (List.map enc (Nd.dims n)))),(.pv (.sl 1 false (List.map enc (Nd.data n)))),(.pv (.sl 2 false (List.map enc (Nd.sizes n)))),(.pv (.sl 1 false (List.map enc (Nd.ranks n)))),(.pv (.sl 10 false (List.map enc ks)))])),(.obj (.box [(.pv (.int .i64 0)),(.pv (.int .i64 0)),(.pv (.str [])),(.pv (.int .i64 0)),(.pv (.str [])),(.pv (.sl 0 true [])),(.pv (.sl 0 true [])),(.pv (.sl 0 true [])),(.pv (.sl 0 true [])),(.pv (.sl 0 true []))]))]else(At (Yy N) 0 (Zb Z7 G) Z8 2 113 [(1,(.pv (.sl 1 false (List.map enc f)))),(2,(.pv (.sl 1 false (List.map enc g)))),(3,(.pv (.sl 1 false (List.map enc a)))),(4,(.pv (.int .i64 c))),(5,(.ptr 0 0)),(10,(.ptr 1 0)),(13,(.pv (.bool ((↑(List.length (List.map enc ks)):Int)==2)))),(14,(.pv (.str (PV.asStr (List.getD (PV.cells (enc y1)) 0 default))))),(15,(.pv (.sl 0 true []))),(16,(.pv (.int .i64 0)))] [(.obj (.box [(.pv (.int .i64 (Nd.kind n))),(.pv (.int .i64 (Nd.line n))),(.pv (.str (PV.asStr (List.getD (PV.cells (enc y1)) 0 default)))),(.pv (.int .i64 (Nd.num n))),(.pv (.str (Str.s (Nd.elem n)))),(.pv (.sl 1 false (List.map enc (Nd.dims n)))),(.pv (.sl 1 false (List.map enc (Nd.data n)))),(.pv (.sl 2 false (List.map enc (Nd.sizes n)))),(.pv (.sl 1 false (List.map enc (Nd.ranks n)))),(.pv (.sl 10 false (List.map enc ks)))])),(.obj (.box [(.pv (.int .i64 0)),(.pv (.int .i64 0)),(.pv (.str [])),(.pv (.int .i64 0)),(.pv (.str [])),(.pv (.sl 0 true [])),(.pv (.sl 0 true [])),(.pv (.sl 0 true [])),(.pv (.sl 0 true [])),(.pv (.sl 0 true []))]))])else(At (Yy N) 0 (Zb Z7 G) Z8 2 113 [(1,(.pv (.sl 1 false (List.map enc f)))),(2,(.pv (.sl 1 false (List.map enc g)))),(3,(.pv (.sl 1 false (List.map enc a)))),(4,(.pv (.int .i64 c))),(5,(.ptr 0 0)),(10,(.ptr 1 0)),(13,(.pv (.bool false))),(14,(.pv (.str (PV.asStr (List.getD (PV.cells (enc y1)) 0 default))))),(15,(.pv (.sl 0 true []))),(16,(.pv (.int .i64 0)))] [(.obj (.box [(.pv (.int .i64 (Nd.kind n))),(.pv (.int .i64 (Nd.line n))),(.pv (.str (PV.asStr (List.getD (PV.cells (enc y1)) 0 default)))),(.pv (.int .i64 (Nd.num n))),(.pv (.str (Str.s (Nd.elem n)))),(.pv (.sl 1 false (List.map enc (Nd.dims n)))),(.pv (.sl 1 false (List.map enc (Nd.data n)))),(.pv (.sl 2 false (List.map enc (Nd.sizes n)))),(.pv (.sl 1 false (List.map enc (Nd.ranks n)))),(.pv (.sl 10 false (List.map enc ks)))])),(.obj (.box [(.pv (.int .i64 0)),(.pv (.int .i64 0)),(.pv (.str [])),(.pv (.int .i64 0)),(.pv (.str [])),(.pv (.sl 0 true [])),(.pv (.sl 0 true [])),(.pv (.sl 0 true [])),(.pv (.sl 0 true [])),(.pv (.sl 0 true []))]))])))else(At (Yy N) 0 (Zb Z7 G) Z8 0 113 [(1,(.pv (.sl 1 false (List.map enc f)))),(2,(.pv (.sl 1 false (List.map enc g)))),(3,(.pv (.sl 1 false (List.map enc a)))),(4,(.pv (.int .i64 c))),(5,(.ptr 0 0)),(10,(.ptr 1 0)),(12,(.pv (.int .i64 (IntKind.wrap IntKind.i64 (i - 1)))))] [(.obj (.box (ZY n ks))),(.obj (.box [(.pv (.int .i64 0)),(.pv (.int .i64 0)),(.pv (.str [])),(.pv (.int .i64 0)),(.pv (.str [])),(.pv (.sl 0 true [])),(.pv (.sl 0 true [])),(.pv (.sl 0 true [])),(.pv (.sl 0 true [])),(.pv (.sl 0 true []))]))])))else(if (Nd.kind n==5)=true then if ((↑(List.length (List.map enc ks)):Int)==2)=true then At (Yy N) 0 (Zb Z7 G) Z8 1 113 [(1,(.pv (.sl 1 false (List.map enc f)))),(2,(.pv (.sl 1 false (List.map enc g)))),(3,(.pv (.sl 1 false (List.map enc a)))),(4,(.pv (.int .i64 c))),(5,(.ptr 0 0)),(10,(.ptr 1 0)),(13,(.pv (.bool ((↑(List.length (List.map enc ks)):Int)==2)))),(14,(.pv (.str (Str.s (Nd.name n)))))] [(.obj (.box (ZY n ks))),(.obj (.box [(.pv (.int .i64 0)),(.pv (.int .i64 0)),(.pv (.str [])),(.pv (.int .i64 0)),(.pv (.str [])),(.pv (.sl 0 true [])),(.pv (.sl 0 true [])),(.pv (.sl 0 true [])),(.pv (.sl 0 true [])),(.pv (.sl 0 true []))]))]else(At (Yy N) 0 (Zb Z7 G) Z8 2 113 [(1,(.pv (.sl 1 false (List.map enc f)))),(2,(.pv (.sl 1 false (List.map enc g)))),(3,(.pv (.sl 1 false (List.map enc a)))),(4,(.pv (.int .i64 c))),(5,(.ptr 0 0)),(10,(.ptr 1 0)),(13,(.pv (.bool ((↑(List.length (List.map enc ks)):Int)==2)))),(14,(.pv (.str (Str.s (Nd.name n))))),(15,(.pv (.sl 0 true []))),(16,(.pv (.int .i64 0)))] [(.obj (.box (ZY n ks))),(.obj (.box [(.pv (.int .i64 0)),(.pv (.int .i64 0)),(.pv (.str [])),(.pv (.int .i64 0)),(.pv (.str [])),(.pv (.sl 0 true [])),(.pv (.sl 0 true [])),(.pv (.sl 0 true [])),(.pv (.sl 0 true [])),(.pv (.sl 0 true []))]))])else(At (Yy N) 0 (Zb Z7 G) Z8 2 113 [(1,(.pv (.sl 1 false (List.map enc f)))),(2,(.pv (.sl 1 false (List.map enc g)))),(3,(.pv (.sl 1 false (List.map enc a)))),(4,(.pv (.int .i64 c))),(5,(.ptr 0 0)),(10,(.ptr 1 0)),(13,(.pv (.bool false))),(14,(.pv (.str (Str.s (Nd.name n))))),(15,(.pv (.sl 0 true []))),(16,(.pv (.int .i64 0)))] [(.obj (.box (ZY n ks))),(.obj (.box [(.pv (.int .i64 0)),(.pv (.int .i64 0)),(.pv (.str [])),(.pv (.int .i64 0)),(.pv (.str [])),(.pv (.sl 0 true [])),(.pv (.sl 0 true [])),(.pv (.sl 0 true [])),(.pv (.sl 0 true [])),(.pv (.sl 0 true []))]))]))):At (Yy N) 0 (Zb Z7 G) Z8 0 113 [(1,.pv (enc f)),(2,.pv (enc g)),(3,.pv (enc a)),(4,.pv (.int .i64 c)),(5,.ptr 0 0),(10,.ptr 1 0),(12,.pv (.int .i64 i))] [.obj (.box [.pv (enc n.kind),.pv (enc n.line),.pv (enc n.name),.pv (enc n.num),.pv (enc n.elem),.pv (enc n.dims),.pv (enc n.data),.pv (enc n.sizes),.pv (enc n.ranks),.pv (enc ks)]),.obj (.box [.pv (.int .i64 0),.pv (.int .i64 0),.pv (.str []),.pv (.int .i64 0),.pv (.str []),.pv (.sl 0 true []),.pv (.sl 0 true []),.pv (.sl 0 true []),.pv (.sl 0 true []),.pv (.sl 0 true [])])]:=At.tp (dm [dr Str] 63 0x222220000142222200b42020222220000142222200b422510194225102342) h
theorem d4o{G:PV->Prop}(N:Nat)(n:Nd)(ks:List Tm)(f g a:List Str)(c:Int)(b:Bool)(t:List UInt8)(h:(b7i [(.int .i64 c)] fun y0=>((d8h [(.sl 1 false (List.map enc a)),(.str (Str.s y0))] fun y1=>(if (y1)=true then At (Yy N) 0 (Zb Z7 G) Z8 1 113 [(1,(.pv (.sl 1 false (List.map enc f)))),(2,(.pv (.sl 1 false (List.map enc g)))),(3,(.pv (.sl 1 false (List.map enc a)))),(4,(.pv (.int .i64 (IntKind.wrap IntKind.i64 (c+1))))),(5,(.ptr 0 0)),(10,(.ptr 1 0)),(13,(.pv (.bool b))),(14,(.pv (.str t)))] [(.obj (.box (ZY n ks))),(.obj (.box [(.pv (.int .i64 0)),(.pv (.int .i64 0)),(.pv (.str [])),(.pv (.int .i64 0)),(.pv (.str [])),(.pv (.sl 0 true [])),(.pv (.sl 0 true [])),(.pv (.sl 0 true [])),(.pv (.sl 0 true [])),(.pv (.sl 0 true []))]))]else((b7i [(.int .i64 c)] fun y2=>(At (Yy N) 0 (Zb Z7 G) Z8 2 113 [(1,(.pv (.sl 1 false (List.map enc f)))),(2,(.pv (.sl 1 false (List.map enc g)))),(3,(.pv (.sl 1 false (List.map enc a)))),(4,(.pv (.int .i64 (IntKind.wrap IntKind.i64 (c+1))))),(5,(.ptr 0 0)),(10,(.ptr 1 0)),(13,(.pv (.bool b))),(14,(.pv (.str t))),(15,(.pv (.sl 0 true []))),(16,(.pv (.int .i64 0)))] [(.obj (.box [(.pv (.int .i64 (Nd.kind n))),(.pv (.int .i64 (Nd.line n))),(.pv (.str (Str.s y2))),(.pv (.int .i64 (Nd.num n))),(.pv (.str (Str.s (Nd.elem n)))),(.pv (.sl 1 false (List.map enc (Nd.dims n)))),(.pv (.sl 1 false (List.map enc (Nd.data n)))),(.pv (.sl 2 false (List.map enc (Nd.sizes n)))),(.pv (.sl 1 false (List.map enc (Nd.ranks n)))),(.pv (.sl 10 false (List.map enc ks)))])),(.obj (.box [(.pv (.int .i64 0)),(.pv (.int .i64 0)),(.pv (.str [])),(.pv (.int .i64 0)),(.pv (.str [])),(.pv (.sl 0 true [])),(.pv (.sl 0 true [])),(.pv (.sl 0 true [])),(.pv (.sl 0 true [])),(.pv (.sl 0 true []))]))])))))))):At (Yy N) 0 (Zb Z7 G) Z8 1 113 [(1,.pv (enc f)),(2,.pv (enc g)),(3,.pv (enc a)),(4,.pv (.int .i64 c)),(5,.ptr 0 0),(10,.ptr 1 0),(13,.pv (.bool b)),(14,.pv (.str t))] [.obj (.box [.pv (enc n.kind),.pv (enc n.line),.pv (enc n.name),.pv (enc n.num),.pv (enc n.elem),.pv (enc n.dims),.pv (enc n.data),.pv (enc n.sizes),.pv (enc n.ranks),.pv (enc ks)]),.obj (.box [.pv (.int .i64 0),.pv (.int .i64 0),.pv (.str []),.pv (.int .i64 0),.pv (.str []),.pv (.sl 0 true []),.pv (.sl 0 true []),.pv (.sl 0 true []),.pv (.sl 0 true []),.pv (.sl 0 true [])])]:=At.tp (dm [dv Str,dv Bool] 15 0x2510200246151) h
theorem a5f{G:PV->Prop}(N:Nat)(n:Nd)(ks:List Tm)(f g a:List Str)(c:Int)(b:Bool)(t s:List UInt8)(i:Int)(h:if (decide (i<(↑(List.length (List.map enc ks)):Int)))=true then if (b)=true then if (i==1)=true then(List.isEmpty (List.map enc f)||Enc.sz Str==1)=true∧((List.length ([]:List PV)==0&&0==0&&decide ((0+List.length (List.map enc f))*16<=1099511627776)&&decide (0+List.length (List.map enc f)<=1099511627776))=true∧((List.length (([]:List PV)++List.map enc f)==0+List.length (List.map enc f)&&0+List.length (List.map enc f)==0+List.length (List.map enc f)&&decide ((0+List.length (List.map enc f)+List.length (List.drop 0 (List.take 1 [PV.str t])))*16<=1099511627776)&&decide (0+List.length (List.map enc f)+List.length (List.drop 0 (List.take 1 [PV.str t]))<=1099511627776))=true∧((List.isEmpty (List.map enc g)||Enc.sz Str==1)=true∧((List.length ([]:List PV)==0&&0==0&&decide ((0+List.length (List.map enc g))*16<=1099511627776)&&decide (0+List.length (List.map enc g)<=1099511627776))=true∧((List.length (([]:List PV)++List.map enc g)==0+List.length (List.map enc g)&&0+List.length (List.map enc g)==0+List.length (List.map enc g)&&decide ((0+List.length (List.map enc g)+List.length (List.drop 0 (List.take 1 [PV.str s])))*16<=1099511627776)&&decide (0+List.length (List.map enc g)+List.length (List.drop 0 (List.take 1 [PV.str s]))<=1099511627776))=true∧((Ul ks i 10 fun y0=>(Sy y0=true∧((List.length (([]:List PV)++List.map enc f++List.drop 0 (List.take 1 [PV.str t]))==0+List.length (List.map enc f)+List.length (List.drop 0 (List.take 1 [PV.str t])))=true∧((List.length (([]:List PV)++List.map enc g++List.drop 0 (List.take 1 [PV.str s]))==0+List.length (List.map enc g)+List.length (List.drop 0 (List.take 1 [PV.str s])))=true∧((Hm N [JC y0,(.sl 1 false (List.drop 0 (List.take (0+List.length (List.map enc f)+List.length (List.drop 0 (List.take 1 [PV.str t]))) (([]:List PV)++List.map enc f++List.drop 0 (List.take 1 [PV.str t]))))),(.sl 1 false (List.drop 0 (List.take (0+List.length (List.map enc g)+List.length (List.drop 0 (List.take 1 [PV.str s]))) (([]:List PV)++List.map enc g++List.drop 0 (List.take 1 [PV.str s]))))),(.sl 1 false (List.map enc a)),(.int .i64 c)] fun y1=>(At (Yy N) 0 (Zb Z7 G) Z8 2 113 [(1,(.pv (.sl 1 false (List.map enc f)))),(2,(.pv (.sl 1 false (List.map enc g)))),(3,(.pv (.sl 1 false (List.map enc a)))),(4,(.pv (.int .i64 y1.2))),(5,(.ptr 0 0)),(10,(.ptr 1 0)),(13,(.pv (.bool b))),(14,(.pv (.str t))),(15,(.row 2 1 0 1)),(16,(.pv (.int .i64 (IntKind.wrap IntKind.i64 (i+1)))))] [(.obj (.box [(.pv (.int .i64 (Nd.kind n))),(.pv (.int .i64 (Nd.line n))),(.pv (.str s)),(.pv (.int .i64 (Nd.num n))),(.pv (.str (Str.s (Nd.elem n)))),(.pv (.sl 1 false (List.map enc (Nd.dims n)))),(.pv (.sl 1 false (List.map enc (Nd.data n)))),(.pv (.sl 2 false (List.map enc (Nd.sizes n)))),(.pv (.sl 1 false (List.map enc (Nd.ranks n)))),(.pv (.sl 10 false (List.map enc ks)))])),(.obj (.box [(.pv (.int .i64 0)),(.pv (.int .i64 0)),(.pv (.str [])),(.pv (.int .i64 0)),(.pv (.str [])),(.pv (.sl 0 true [])),(.pv (.sl 0 true [])),(.pv (.sl 0 true [])),(.pv (.sl 0 true [])),(.pv (.sl 0 true []))])),(.obj (.row false 28 10 [(eS y1.1)]))])))))))))))))else((Ul ks i 10 fun y2=>(Sy y2=true∧((Hm N [JC y2,(.sl 1 false (List.map enc f)),(.sl 1 false (List.map enc g)),(.sl 1 false (List.map enc a)),(.int .i64 c)] fun y3=>(At (Yy N) 0 (Zb Z7 G) Z8 2 113 [(1,(.pv (.sl 1 false (List.map enc f)))),(2,(.pv (.sl 1 false (List.map enc g)))),(3,(.pv (.sl 1 false (List.map enc a)))),(4,(.pv (.int .i64 y3.2))),(5,(.ptr 0 0)),(10,(.ptr 1 0)),(13,(.pv (.bool b))),(14,(.pv (.str t))),(15,(.row 2 1 0 1)),(16,(.pv (.int .i64 (IntKind.wrap IntKind.i64 (i+1)))))] [(.obj (.box [(.pv (.int .i64 (Nd.kind n))),(.pv (.int .i64 (Nd.line n))),(.pv (.str s)),(.pv (.int .i64 (Nd.num n))),(.pv (.str (Str.s (Nd.elem n)))),(.pv (.sl 1 false (List.map enc (Nd.dims n)))),(.pv (.sl 1 false (List.map enc (Nd.data n)))),(.pv (.sl 2 false (List.map enc (Nd.sizes n)))),(.pv (.sl 1 false (List.map enc (Nd.ranks n)))),(.pv (.sl 10 false (List.map enc ks)))])),(.obj (.box [(.pv (.int .i64 0)),(.pv (.int .i64 0)),(.pv (.str [])),(.pv (.int .i64 0)),(.pv (.str [])),(.pv (.sl 0 true [])),(.pv (.sl 0 true [])),(.pv (.sl 0 true [])),(.pv (.sl 0 true [])),(.pv (.sl 0 true []))])),(.obj (.row false 28 10 [(eS y3.1)]))]))))))else((Ul ks i 10 fun y4=>(Sy y4=true∧((Hm N [JC y4,(.sl 1 false (List.map enc f)),(.sl 1 false (List.map enc g)),(.sl 1 false (List.map enc a)),(.int .i64 c)] fun y5=>(At (Yy N) 0 (Zb Z7 G) Z8 2 113 [(1,(.pv (.sl 1 false (List.map enc f)))),(2,(.pv (.sl 1 false (List.map enc g)))),(3,(.pv (.sl 1 false (List.map enc a)))),(4,(.pv (.int .i64 y5.2))),(5,(.ptr 0 0)),(10,(.ptr 1 0)),(13,(.pv (.bool b))),(14,(.pv (.str t))),(15,(.row 2 1 0 1)),(16,(.pv (.int .i64 (IntKind.wrap IntKind.i64 (i+1)))))] [(.obj (.box [(.pv (.int .i64 (Nd.kind n))),(.pv (.int .i64 (Nd.line n))),(.pv (.str s)),(.pv (.int .i64 (Nd.num n))),(.pv (.str (Str.s (Nd.elem n)))),(.pv (.sl 1 false (List.map enc (Nd.dims n)))),(.pv (.sl 1 false (List.map enc (Nd.data n)))),(.pv (.sl 2 false (List.map enc (Nd.sizes n)))),(.pv (.sl 1 false (List.map enc (Nd.ranks n)))),(.pv (.sl 10 false (List.map enc ks)))])),(.obj (.box [(.pv (.int .i64 0)),(.pv (.int .i64 0)),(.pv (.str [])),(.pv (.int .i64 0)),(.pv (.str [])),(.pv (.sl 0 true [])),(.pv (.sl 0 true [])),(.pv (.sl 0 true [])),(.pv (.sl 0 true [])),(.pv (.sl 0 true []))])),(.obj (.row false 28 10 [(eS y5.1)]))]))))))else(G ((.tup [(.agg [(.int .i64 (Nd.kind n)),(.int .i64 (Nd.line n)),(.str s),(.int .i64 (Nd.num n)),(.str (Str.s (Nd.elem n))),(.sl 1 false (List.map enc (Nd.dims n))),(.sl 1 false (List.map enc (Nd.data n))),(.sl 2 false (List.map enc (Nd.sizes n))),(.sl 1 false (List.map enc (Nd.ranks n))),(.sl 0 true [])]),(.int .i64 c)])))):At (Yy N) 0 (Zb Z7 G) Z8 2 113 [(1,.pv (enc f)),(2,.pv (enc g)),(3,.pv (enc a)),(4,.pv (.int .i64 c)),(5,.ptr 0 0),(10,.ptr 1 0),(13,.pv (.bool b)),(14,.pv (.str t)),(15,.pv (.sl 0 true [])),(16,.pv (.int .i64 i))] [.obj (.box [.pv (enc n.kind),.pv (enc n.line),.pv (.str s),.pv (enc n.num),.pv (enc n.elem),.pv (enc n.dims),.pv (enc n.data),.pv (enc n.sizes),.pv (enc n.ranks),.pv (enc ks)]),.obj (.box [.pv (.int .i64 0),.pv (.int .i64 0),.pv (.str []),.pv (.int .i64 0),.pv (.str []),.pv (.sl 0 true []),.pv (.sl 0 true []),.pv (.sl 0 true []),.pv (.sl 0 true []),.pv (.sl 0 true [])])]:=At.tp (dm [dr Tm,dv (TS×Int)] 71 0x222222611512220222222611510222222611115112211212211201a422202d404042) h
theorem a5b{G:PV->Prop}(N:Nat)(n:Nd)(ks:List Tm)(f g a:List Str)(c:Int)(b:Bool)(t s:List UInt8)(o:List Tm)(L:Nat)(i:Int)(h:if (decide (i<(↑(List.length (List.map enc ks)):Int)))=true then if (b)=true then if (i==1)=true then(List.isEmpty (List.map enc f)||Enc.sz Str==1)=true∧((List.length ([]:List PV)==0&&0==0&&decide ((0+List.length (List.map enc f))*16<=1099511627776)&&decide (0+List.length (List.map enc f)<=1099511627776))=true∧((List.length (([]:List PV)++List.map enc f)==0+List.length (List.map enc f)&&0+List.length (List.map enc f)==0+List.length (List.map enc f)&&decide ((0+List.length (List.map enc f)+List.length (List.drop 0 (List.take 1 [PV.str t])))*16<=1099511627776)&&decide (0+List.length (List.map enc f)+List.length (List.drop 0 (List.take 1 [PV.str t]))<=1099511627776))=true∧((List.isEmpty (List.map enc g)||Enc.sz Str==1)=true∧((List.length ([]:List PV)==0&&0==0&&decide ((0+List.length (List.map enc g))*16<=1099511627776)&&decide (0+List.length (List.map enc g)<=1099511627776))=true∧((List.length (([]:List PV)++List.map enc g)==0+List.length (List.map enc g)&&0+List.length (List.map enc g)==0+List.length (List.map enc g)&&decide ((0+List.length (List.map enc g)+List.length (List.drop 0 (List.take 1 [PV.str s])))*16<=1099511627776)&&decide (0+List.length (List.map enc g)+List.length (List.drop 0 (List.take 1 [PV.str s]))<=1099511627776))=true∧((Ul ks i 10 fun y0=>(Sy y0=true∧((List.length (([]:List PV)++List.map enc f++List.drop 0 (List.take 1 [PV.str t]))==0+List.length (List.map enc f)+List.length (List.drop 0 (List.take 1 [PV.str t])))=true∧((List.length (([]:List PV)++List.map enc g++List.drop 0 (List.take 1 [PV.str s]))==0+List.length (List.map enc g)+List.length (List.drop 0 (List.take 1 [PV.str s])))=true∧((Hm N [JC y0,(.sl 1 false (List.drop 0 (List.take (0+List.length (List.map enc f)+List.length (List.drop 0 (List.take 1 [PV.str t]))) (([]:List PV)++List.map enc f++List.drop 0 (List.take 1 [PV.str t]))))),(.sl 1 false (List.drop 0 (List.take (0+List.length (List.map enc g)+List.length (List.drop 0 (List.take 1 [PV.str s]))) (([]:List PV)++List.map enc g++List.drop 0 (List.take 1 [PV.str s]))))),(.sl 1 false (List.map enc a)),(.int .i64 c)] fun y1=>((List.length (List.map enc o)==L&&L==L&&decide ((L+List.length (List.drop 0 (List.take 1 [PV.agg [enc (Nd.kind (TS.n y1.1)),enc (Nd.line (TS.n y1.1)),enc (Nd.name (TS.n y1.1)),enc (Nd.num (TS.n y1.1)),enc (Nd.elem (TS.n y1.1)),enc (Nd.dims (TS.n y1.1)),enc (Nd.data (TS.n y1.1)),enc (Nd.sizes (TS.n y1.1)),enc (Nd.ranks (TS.n y1.1)),enc (TS.k y1.1)]])))*176<=1099511627776)&&decide (L+List.length (List.drop 0 (List.take 1 [PV.agg [enc (Nd.kind (TS.n y1.1)),enc (Nd.line (TS.n y1.1)),enc (Nd.name (TS.n y1.1)),enc (Nd.num (TS.n y1.1)),enc (Nd.elem (TS.n y1.1)),enc (Nd.dims (TS.n y1.1)),enc (Nd.data (TS.n y1.1)),enc (Nd.sizes (TS.n y1.1)),enc (Nd.ranks (TS.n y1.1)),enc (TS.k y1.1)]]))<=1099511627776))=true∧(At (Yy N) 0 (Zb Z7 G) Z8 2 113 [(1,(.pv (.sl 1 false (List.map enc f)))),(2,(.pv (.sl 1 false (List.map enc g)))),(3,(.pv (.sl 1 false (List.map enc a)))),(4,(.pv (.int .i64 y1.2))),(5,(.ptr 0 0)),(10,(.ptr 1 0)),(13,(.pv (.bool b))),(14,(.pv (.str t))),(15,(.row 2 (L+List.length (List.drop 0 (List.take 1 [PV.agg [enc (Nd.kind (TS.n y1.1)),enc (Nd.line (TS.n y1.1)),enc (Nd.name (TS.n y1.1)),enc (Nd.num (TS.n y1.1)),enc (Nd.elem (TS.n y1.1)),enc (Nd.dims (TS.n y1.1)),enc (Nd.data (TS.n y1.1)),enc (Nd.sizes (TS.n y1.1)),enc (Nd.ranks (TS.n y1.1)),enc (TS.k y1.1)]]))) 0 (L+List.length (List.drop 0 (List.take 1 [PV.agg [enc (Nd.kind (TS.n y1.1)),enc (Nd.line (TS.n y1.1)),enc (Nd.name (TS.n y1.1)),enc (Nd.num (TS.n y1.1)),enc (Nd.elem (TS.n y1.1)),enc (Nd.dims (TS.n y1.1)),enc (Nd.data (TS.n y1.1)),enc (Nd.sizes (TS.n y1.1)),enc (Nd.ranks (TS.n y1.1)),enc (TS.k y1.1)]]))))),(16,(.pv (.int .i64 (IntKind.wrap IntKind.i64 (i+1)))))] [(.obj (.box [(.pv (.int .i64 (Nd.kind n))),(.pv (.int .i64 (Nd.line n))),(.pv (.str s)),(.pv (.int .i64 (Nd.num n))),(.pv (.str (Str.s (Nd.elem n)))),(.pv (.sl 1 false (List.map enc (Nd.dims n)))),(.pv (.sl 1 false (List.map enc (Nd.data n)))),(.pv (.sl 2 false (List.map enc (Nd.sizes n)))),(.pv (.sl 1 false (List.map enc (Nd.ranks n)))),(.pv (.sl 10 false (List.map enc ks)))])),(.obj (.box [(.pv (.int .i64 0)),(.pv (.int .i64 0)),(.pv (.str [])),(.pv (.int .i64 0)),(.pv (.str [])),(.pv (.sl 0 true [])),(.pv (.sl 0 true [])),(.pv (.sl 0 true [])),(.pv (.sl 0 true [])),(.pv (.sl 0 true []))])),(.obj (.row false 28 10 (List.map enc o++List.drop 0 (List.take 1 [PV.agg [enc (Nd.kind (TS.n y1.1)),enc (Nd.line (TS.n y1.1)),enc (Nd.name (TS.n y1.1)),enc (Nd.num (TS.n y1.1)),enc (Nd.elem (TS.n y1.1)),enc (Nd.dims (TS.n y1.1)),enc (Nd.data (TS.n y1.1)),enc (Nd.sizes (TS.n y1.1)),enc (Nd.ranks (TS.n y1.1)),enc (TS.k y1.1)]]))))]))))))))))))))else((Ul ks i 10 fun y2=>(Sy y2=true∧((Hm N [JC y2,(.sl 1 false (List.map enc f)),(.sl 1 false (List.map enc g)),(.sl 1 false (List.map enc a)),(.int .i64 c)] fun y3=>((List.length (List.map enc o)==L&&L==L&&decide ((L+List.length (List.drop 0 (List.take 1 [PV.agg [enc (Nd.kind (TS.n y3.1)),enc (Nd.line (TS.n y3.1)),enc (Nd.name (TS.n y3.1)),enc (Nd.num (TS.n y3.1)),enc (Nd.elem (TS.n y3.1)),enc (Nd.dims (TS.n y3.1)),enc (Nd.data (TS.n y3.1)),enc (Nd.sizes (TS.n y3.1)),enc (Nd.ranks (TS.n y3.1)),enc (TS.k y3.1)]])))*176<=1099511627776)&&decide (L+List.length (List.drop 0 (List.take 1 [PV.agg [enc (Nd.kind (TS.n y3.1)),enc (Nd.line (TS.n y3.1)),enc (Nd.name (TS.n y3.1)),enc (Nd.num (TS.n y3.1)),enc (Nd.elem (TS.n y3.1)),enc (Nd.dims (TS.n y3.1)),enc (Nd.data (TS.n y3.1)),enc (Nd.sizes (TS.n y3.1)),enc (Nd.ranks (TS.n y3.1)),enc (TS.k y3.1)]]))<=1099511627776))=true∧(At (Yy N) 0 (Zb Z7 G) Z8 2 113 [(1,(.pv (.sl 1 false (List.map enc f)))),(2,(.pv (.sl 1 false (List.map enc g)))),(3,(.pv (.sl 1 false (List.map enc a)))),(4,(.pv (.int .i64 y3.2))),(5,(.ptr 0 0)),(10,(.ptr 1 0)),(13,(.pv (.bool b))),(14,(.pv (.str t))),(15,(.row 2 (L+List.length (List.drop 0 (List.take 1 [PV.agg [enc (Nd.kind (TS.n y3.1)),enc (Nd.line (TS.n y3.1)),enc (Nd.name (TS.n y3.1)),enc (Nd.num (TS.n y3.1)),enc (Nd.elem (TS.n y3.1)),enc (Nd.dims (TS.n y3.1)),enc (Nd.data (TS.n y3.1)),enc (Nd.sizes (TS.n y3.1)),enc (Nd.ranks (TS.n y3.1)),enc (TS.k y3.1)]]))) 0 (L+List.length (List.drop 0 (List.take 1 [PV.agg [enc (Nd.kind (TS.n y3.1)),enc (Nd.line (TS.n y3.1)),enc (Nd.name (TS.n y3.1)),enc (Nd.num (TS.n y3.1)),enc (Nd.elem (TS.n y3.1)),enc (Nd.dims (TS.n y3.1)),enc (Nd.data (TS.n y3.1)),enc (Nd.sizes (TS.n y3.1)),enc (Nd.ranks (TS.n y3.1)),enc (TS.k y3.1)]]))))),(16,(.pv (.int .i64 (IntKind.wrap IntKind.i64 (i+1)))))] [(.obj (.box [(.pv (.int .i64 (Nd.kind n))),(.pv (.int .i64 (Nd.line n))),(.pv (.str s)),(.pv (.int .i64 (Nd.num n))),(.pv (.str (Str.s (Nd.elem n)))),(.pv (.sl 1 false (List.map enc (Nd.dims n)))),(.pv (.sl 1 false (List.map enc (Nd.data n)))),(.pv (.sl 2 false (List.map enc (Nd.sizes n)))),(.pv (.sl 1 false (List.map enc (Nd.ranks n)))),(.pv (.sl 10 false (List.map enc ks)))])),(.obj (.box [(.pv (.int .i64 0)),(.pv (.int .i64 0)),(.pv (.str [])),(.pv (.int .i64 0)),(.pv (.str [])),(.pv (.sl 0 true [])),(.pv (.sl 0 true [])),(.pv (.sl 0 true [])),(.pv (.sl 0 true [])),(.pv (.sl 0 true []))])),(.obj (.row false 28 10 (List.map enc o++List.drop 0 (List.take 1 [PV.agg [enc (Nd.kind (TS.n y3.1)),enc (Nd.line (TS.n y3.1)),enc (Nd.name (TS.n y3.1)),enc (Nd.num (TS.n y3.1)),enc (Nd.elem (TS.n y3.1)),enc (Nd.dims (TS.n y3.1)),enc (Nd.data (TS.n y3.1)),enc (Nd.sizes (TS.n y3.1)),enc (Nd.ranks (TS.n y3.1)),enc (TS.k y3.1)]]))))])))))))else((Ul ks i 10 fun y4=>(Sy y4=true∧((Hm N [JC y4,(.sl 1 false (List.map enc f)),(.sl 1 false (List.map enc g)),(.sl 1 false (List.map enc a)),(.int .i64 c)] fun y5=>((List.length (List.map enc o)==L&&L==L&&decide ((L+List.length (List.drop 0 (List.take 1 [PV.agg [enc (Nd.kind (TS.n y5.1)),enc (Nd.line (TS.n y5.1)),enc (Nd.name (TS.n y5.1)),enc (Nd.num (TS.n y5.1)),enc (Nd.elem (TS.n y5.1)),enc (Nd.dims (TS.n y5.1)),enc (Nd.data (TS.n y5.1)),enc (Nd.sizes (TS.n y5.1)),enc (Nd.ranks (TS.n y5.1)),enc (TS.k y5.1)]])))*176<=1099511627776)&&decide (L+List.length (List.drop 0 (List.take 1 [PV.agg [enc (Nd.kind (TS.n y5.1)),enc (Nd.line (TS.n y5.1)),enc (Nd.name (TS.n y5.1)),enc (Nd.num (TS.n y5.1)),enc (Nd.elem (TS.n y5.1)),enc (Nd.dims (TS.n y5.1)),enc (Nd.data (TS.n y5.1)),enc (Nd.sizes (TS.n y5.1)),enc (Nd.ranks (TS.n y5.1)),enc (TS.k y5.1)]]))<=1099511627776))=true∧(At (Yy N) 0 (Zb Z7 G) Z8 2 113 [(1,(.pv (.sl 1 false (List.map enc f)))),(2,(.pv (.sl 1 false (List.map enc g)))),(3,(.pv (.sl 1 false (List.map enc a)))),(4,(.pv (.int .i64 y5.2))),(5,(.ptr 0 0)),(10,(.ptr 1 0)),(13,(.pv (.bool b))),(14,(.pv (.str t))),(15,(.row 2 (L+List.length (List.drop 0 (List.take 1 [PV.agg [enc (Nd.kind (TS.n y5.1)),enc (Nd.line (TS.n y5.1)),enc (Nd.name (TS.n y5.1)),enc (Nd.num (TS.n y5.1)),enc (Nd.elem (TS.n y5.1)),enc (Nd.dims (TS.n y5.1)),enc (Nd.data (TS.n y5.1)),enc (Nd.sizes (TS.n y5.1)),enc (Nd.ranks (TS.n y5.1)),enc (TS.k y5.1)]]))) 0 (L+List.length (List.drop 0 (List.take 1 [PV.agg [enc (Nd.kind (TS.n y5.1)),enc (Nd.line (TS.n y5.1)),enc (Nd.name (TS.n y5.1)),enc (Nd.num (TS.n y5.1)),enc (Nd.elem (TS.n y5.1)),enc (Nd.dims (TS.n y5.1)),enc (Nd.data (TS.n y5.1)),enc (Nd.sizes (TS.n y5.1)),enc (Nd.ranks (TS.n y5.1)),enc (TS.k y5.1)]]))))),(16,(.pv (.int .i64 (IntKind.wrap IntKind.i64 (i+1)))))] [(.obj (.box [(.pv (.int .i64 (Nd.kind n))),(.pv (.int .i64 (Nd.line n))),(.pv (.str s)),(.pv (.int .i64 (Nd.num n))),(.pv (.str (Str.s (Nd.elem n)))),(.pv (.sl 1 false (List.map enc (Nd.dims n)))),(.pv (.sl 1 false (List.map enc (Nd.data n)))),(.pv (.sl 2 false (List.map enc (Nd.sizes n)))),(.pv (.sl 1 false (List.map enc (Nd.ranks n)))),(.pv (.sl 10 false (List.map enc ks)))])),(.obj (.box [(.pv (.int .i64 0)),(.pv (.int .i64 0)),(.pv (.str [])),(.pv (.int .i64 0)),(.pv (.str [])),(.pv (.sl 0 true [])),(.pv (.sl 0 true [])),(.pv (.sl 0 true [])),(.pv (.sl 0 true [])),(.pv (.sl 0 true []))])),(.obj (.row false 28 10 (List.map enc o++List.drop 0 (List.take 1 [PV.agg [enc (Nd.kind (TS.n y5.1)),enc (Nd.line (TS.n y5.1)),enc (Nd.name (TS.n y5.1)),enc (Nd.num (TS.n y5.1)),enc (Nd.elem (TS.n y5.1)),enc (Nd.dims (TS.n y5.1)),enc (Nd.data (TS.n y5.1)),enc (Nd.sizes (TS.n y5.1)),enc (Nd.ranks (TS.n y5.1)),enc (TS.k y5.1)]]))))])))))))else((List.length (List.map enc o)==L)=true∧(G ((.tup [(.agg [(.int .i64 (Nd.kind n)),(.int .i64 (Nd.line n)),(.str s),(.int .i64 (Nd.num n)),(.str (Str.s (Nd.elem n))),(.sl 1 false (List.map enc (Nd.dims n))),(.sl 1 false (List.map enc (Nd.data n))),(.sl 2 false (List.map enc (Nd.sizes n))),(.sl 1 false (List.map enc (Nd.ranks n))),(.sl 10 false (List.drop 0 (List.take L (List.map enc o))))]),(.int .i64 c)]))))):At (Yy N) 0 (Zb Z7 G) Z8 2 113 [(1,.pv (enc f)),(2,.pv (enc g)),(3,.pv (enc a)),(4,.pv (.int .i64 c)),(5,.ptr 0 0),(10,.ptr 1 0),(13,.pv (.bool b)),(14,.pv (.str t)),(15,.row 2 L 0 L),(16,.pv (.int .i64 i))] [.obj (.box [.pv (enc n.kind),.pv (enc n.line),.pv (.str s),.pv (enc n.num),.pv (enc n.elem),.pv (enc n.dims),.pv (enc n.data),.pv (enc n.sizes),.pv (enc n.ranks),.pv (enc ks)]),.obj (.box [.pv (.int .i64 0),.pv (.int .i64 0),.pv (.str []),.pv (.int .i64 0),.pv (.str []),.pv (.sl 0 true []),.pv (.sl 0 true []),.pv (.sl 0 true []),.pv (.sl 0 true []),.pv (.sl 0 true [])]),.obj (.row false 28 10 (o.map enc))]:=At.tp (dm [dr Tm,dv (TS×Int)] 66 0x1021226115122202122611510212261111511221121221120184222029403a42) h
noncomputable def O0:IC:=Xy Proofs.Tryz.f46
def EK:List IRes:=[(.cell true 10 2)]
abbrev d4y:Nat:=13
noncomputable def b5c:Zz:=Yr [(75,.pure (preT (fun x:Tm×List Str×List Str×List Str×Int×Unit=>tW x.1&&(decide (x.2.1.length=x.2.2.1.length)&&(decide (x.2.1.length+Zu x.1<=1048576)&&(decide (x.2.2.2.1.length<=1048576)&&(decide (1<=x.2.2.2.2.1)&&decide (x.2.2.2.2.1+((Zk x.1*(x.2.2.2.1.length+1):Nat):Int)<=4611686018427387904))))))) (Zi (fun x:Tm×List Str×List Str×List Str×Int×Unit=>Td x.1 x.2.1 x.2.2.1 x.2.2.2.1 x.2.2.2.2.1))),(40,.pure (preT (fun x:Tm×Unit=>tW x.1)) (Zi (fun x:Tm×Unit=>Ye x.1)))]
theorem d6x{G:PV->Prop}(n:Nd)(ks:List Tm)(h:(d9i (Hg n ks) fun y0=>((d6a [(ndC n ks),(.sl 0 true []),(.sl 0 true []),(.sl 1 false (List.map enc y0)),(.int .i64 1)] fun y1=>(G ((eS y1.1))))))):Zc b5c 0 (Zb EK G) O0 [] (ZJ 13 [.agg [enc n.kind,enc n.line,enc n.name,enc n.num,enc n.elem,enc n.dims,enc n.data,enc n.sizes,enc n.ranks,enc ks]]):=Zc.tp (.req (.abs (List Str) (fun YY=>AV.pv (enc YY)) (.req (.abs (TS×Int) (fun YY=>AV.pv (enc YY)) (.nil))))) h
noncomputable def Ei:IC:=Xy Proofs.Tryz.f29
def OV:List IRes:=[(.tmp 4)]
abbrev d3t:Nat:=10
noncomputable def a9u:Zz:=Yr [(46,.pure (preT (fun x:Tm×Unit=>tW x.1)) (Zi (fun x:Tm×Unit=>Yd x.1))),(25,.pure (preT (fun x:Tm×Tm×Unit=>tW x.1&&tW x.2.1)) (Zi (fun x:Tm×Tm×Unit=>K5 x.1 x.2.1)))]
theorem e0n{G:PV->Prop}(n:Nd)(ks:List Tm)(m:Nd)(ls:List Tm)(h:(c9a (Hg n ks) fun y0=>((c9a [(ndC m ls)] fun y1=>((d7m [enc y0,enc y1] fun y2=>(G ((.bool y2))))))))):Zc a9u 0 (Zb OV G) Ei [] (ZJ 10 [.agg [enc n.kind,enc n.line,enc n.name,enc n.num,enc n.elem,enc n.dims,enc n.data,enc n.sizes,enc n.ranks,enc ks],.agg [enc m.kind,enc m.line,enc m.name,enc m.num,enc m.elem,enc m.dims,enc m.data,enc m.sizes,enc m.ranks,enc ls]]):=Zc.tp (dm [dv Tm,dv Bool] 8 0x615151) h
end Go.Pl
namespace Go.Pl
open Go.RowKit
open Enc (enc dec is)
open EncL (encL decL isL)
def sdX(n:Nd)(ks:List Tm)(s:List UInt8):List AV:=[.pv (.int .i64 n.kind),.pv (.int .i64 n.line),.pv (.str s),.pv (.int .i64 n.num),.pv (.str n.elem.s),.pv (.sl 1 false (n.dims.map enc)),.pv (.sl 1 false (n.data.map enc)),.pv (.sl 2 false (n.sizes.map enc)),.pv (.sl 1 false (n.ranks.map enc)),.pv (.sl 10 false (ks.map enc))]
def sdZ:List AV:=[.pv (.int .i64 0),.pv (.int .i64 0),.pv (.str []),.pv (.int .i64 0),.pv (.str []),.pv (.sl 0 true []),.pv (.sl 0 true []),.pv (.sl 0 true []),.pv (.sl 0 true []),.pv (.sl 0 true [])]
theorem b2y(t:Tm)(f g a:List Str)(k:Nat):Td t f g a ((k:Int)+1)=(Jj (Y7 a (YG f g) k t).1,((Y7 a (YG f g) k t).2:Int)+1):=by
 unfold Td
 rw[show((k:Int)+1 - 1).toNat=k by omega]
theorem a3o{N:Nat}{t:Tm}{f g a:List Str}{k:Nat}{ps:List PV}{K:TS×Int->Prop}(e:ps=encL (t,f,g,a,((k:Int)+1),()))(hw:tW t=true)(hfg:f.length=g.length)(h1:f.length+Zu t<=1048576)(ha:a.length<=1048576)(hc:k+1+Zk t*(a.length+1)<=4611686018427387904)(hd:Zu t<N)
  (h:K (Jj (Y7 a (YG f g) k t).1,((Y7 a (YG f g) k t).2:Int)+1)):Hm N ps K:=by
 refine⟨Ze (t,f,g,a,((k:Int)+1),()) e ?_,Zd (t,f,g,a,((k:Int)+1),()) e ?_⟩
 ·show(tW t&&(decide (f.length=g.length)&&(decide (f.length+Zu t<=1048576)&&(decide (a.length<=1048576)&&(decide (1<=(k:Int)+1)&&decide ((k:Int)+1+((Zk t*(a.length+1):Nat):Int)<=4611686018427387904)))))&&decide (Zu t<N))=true
  rw[hw,decide_eq_true hfg,decide_eq_true h1,decide_eq_true ha,decide_eq_true (show 1<=(k:Int)+1 by omega),decide_eq_true (show(k:Int)+1+((Zk t*(a.length+1):Nat):Int)<=4611686018427387904 by omega),decide_eq_true hd]
  rfl
 ·show K (Td t f g a ((k:Int)+1))
  rw[b2y]
  exact h
theorem sd5(t:Tm)(f g a:List Str)(c:Int):([JC t,.sl 1 false (f.map enc),.sl 1 false (g.map enc),.sl 1 false (a.map enc),.int .i64 c]:List PV)=encL (t,f,g,a,c,()):=by rw[Be];rfl
theorem b0q(b:List Str)(s:List UInt8):(PV.sl 1 false (List.drop 0 (List.take (0+List.length (List.map (enc:Str->PV) b)+List.length (List.drop 0 (List.take 1 [PV.str s]))) (([]:List PV)++List.map enc b++List.drop 0 (List.take 1 [PV.str s]))))) = .sl 1 false ((b++[(⟨s⟩:Str)]).map enc):=b9k b ⟨s⟩
theorem d3d(n:Nd)(o:List Tm)(s:List UInt8)(k:Nat):Zm (Jj (Tm.mk (CX n ⟨s⟩) o),((k:Int)+1)) (.tup [.agg [.int .i64 n.kind,.int .i64 n.line,.str s,.int .i64 n.num,.str n.elem.s,.sl 1 false (n.dims.map enc),.sl 1 false (n.data.map enc),.sl 2 false (n.sizes.map enc),.sl 1 false (n.ranks.map enc),.sl 10 false (o.map enc)],.int .i64 ((k:Int)+1)]):=Xm (x:=(Jj (Tm.mk (CX n ⟨s⟩) o),((k:Int)+1))) rfl
theorem c2n(n:Nd)(s:List UInt8)(k:Nat):Zm (Jj (Tm.mk (CX n ⟨s⟩) []),((k:Int)+1)) (.tup [.agg [.int .i64 n.kind,.int .i64 n.line,.str s,.int .i64 n.num,.str n.elem.s,.sl 1 false (n.dims.map enc),.sl 1 false (n.data.map enc),.sl 2 false (n.sizes.map enc),.sl 1 false (n.ranks.map enc),.sl 0 true []],.int .i64 ((k:Int)+1)]):=by
 have h1:is TS (.agg [enc n.kind,enc n.line,enc (⟨s⟩:Str),enc n.num,enc n.elem,enc n.dims,enc n.data,enc n.sizes,enc n.ranks,.sl 0 true []])=true:=by
  show(is Int (enc n.kind)&&is Int (enc n.line)&&is Str (enc (⟨s⟩:Str))&&is Int (enc n.num)&&is Str (enc n.elem)&&is (List Int) (enc n.dims)&&is (List Int) (enc n.data)&&is (List Lin) (enc n.sizes)&&is (List Int) (enc n.ranks)&&is (List Tm) (.sl 0 true []))=true
  simp only[Enc.is_enc,Bool.true_and]
  rfl
 have h2:(dec (.agg [enc n.kind,enc n.line,enc (⟨s⟩:Str),enc n.num,enc n.elem,enc n.dims,enc n.data,enc n.sizes,enc n.ranks,.sl 0 true []]):TS)=Jj (Tm.mk (CX n ⟨s⟩) []):=by
  show(⟨⟨dec (enc n.kind),dec (enc n.line),dec (enc (⟨s⟩:Str)),dec (enc n.num),dec (enc n.elem),dec (enc n.dims),dec (enc n.data),dec (enc n.sizes),dec (enc n.ranks)⟩,dec (.sl 0 true [])⟩:TS)=_
  simp only[Enc.dec_enc]
  rfl
 refine⟨?_,?_⟩
 ·show(is TS (.agg [enc n.kind,enc n.line,enc (⟨s⟩:Str),enc n.num,enc n.elem,enc n.dims,enc n.data,enc n.sizes,enc n.ranks,.sl 0 true []])&&is Int (enc ((k:Int)+1)))=true
  rw[h1,Enc.is_enc];rfl
 ·show((dec (.agg [enc n.kind,enc n.line,enc (⟨s⟩:Str),enc n.num,enc n.elem,enc n.dims,enc n.data,enc n.sizes,enc n.ranks,.sl 0 true []]):TS),(dec (enc ((k:Int)+1)):Int))=_
  rw[h2,Enc.dec_enc]
def Oa(b:Bool)(t s:List UInt8)(f g:List Str):List (Str×Str):=if b then((⟨t⟩:Str),(⟨s⟩:Str))::YG f g else YG f g
section
variable (N:Nat) (n:Nd) (ks:List Tm) (f g a:List Str)
theorem b7m{N:Nat}{f g a:List Str}{b:Bool}{t s:List UInt8}{k i:Nat}{x:Tm}{K:TS×Int->Prop}(hi:b=true->i<=1)(hfg:f.length=g.length)(hw:tW x=true)(h1:f.length+Zu x+1<=1048576)(ha:a.length<=1048576)(hc:k+1+Zk x*(a.length+1)<=4611686018427387904)(hd:Zu x<N)
  (h:K (Jj (Y7 a (if i=0 then YG f g else Oa b t s f g) k x).1,((Y7 a (if i=0 then YG f g else Oa b t s f g) k x).2:Int)+1)) :
  ((b=true∧i=1)->Hm N [JC x,.sl 1 false ((f++[(⟨t⟩:Str)]).map enc),.sl 1 false ((g++[(⟨s⟩:Str)]).map enc),.sl 1 false (a.map enc),.int .i64 ((k:Int)+1)] K)∧(¬ (b=true∧i=1)->Hm N [JC x,.sl 1 false (f.map enc),.sl 1 false (g.map enc),.sl 1 false (a.map enc),.int .i64 ((k:Int)+1)] K):=by
 refine⟨fun hb=> ?_,fun hb=> ?_⟩
 ·rw[if_neg (by omega)]at h
  unfold Oa at h
  rw[if_pos hb.1,<- b1k hfg]at h
  exact a3o (sd5 x (f++[(⟨t⟩:Str)]) (g++[(⟨s⟩:Str)]) a _) hw (by simp[hfg]) (by simp;omega) ha hc hd h
 ·have e:(if i=0 then YG f g else Oa b t s f g)=YG f g:=by
   by_cases h0:i=0
   ·rw[if_pos h0]
   ·rw[if_neg h0]
    unfold Oa
    by_cases hb1:b=true
    ·have:=hi hb1
     exact absurd ⟨hb1,by omega⟩ hb
    ·rw[if_neg hb1]
  rw[e]at h
  exact a3o (sd5 x f g a _) hw hfg (by omega) ha hc hd h
theorem d5c(hfg:f.length=g.length)(ha:a.length<=1048576)(hw:tW (.mk n ks)=true)(h1:f.length+ZL ks+1<=1048576)(hd:ZL ks<N)(b:Bool)(t s:List UInt8)(hb:b=true->ks.length<=2)(R:TS×Int): ∀ (d i:Nat) (o:List Tm) (L k:Nat),d+i=ks.length->L=o.length->L<=i->k+1+Zq (ks.drop i)*(a.length+1)<=4611686018427387904 ->
  R=(Jj (Tm.mk (CX n ⟨s⟩) (o++(Yo a (YG f g) (Oa b t s f g) i k (ks.drop i)).1)),((Yo a (YG f g) (Oa b t s f g) i k (ks.drop i)).2:Int)+1) ->
  At (Yy N) 0 (Zb Z7 (Zm R)) Z8 2 113 [(1,.pv (enc f)),(2,.pv (enc g)),(3,.pv (enc a)),(4,.pv (.int .i64 ((k:Int)+1))),(5,.ptr 0 0),(10,.ptr 1 0),(13,.pv (.bool b)),(14,.pv (.str t)),(15,.row 2 L 0 L),(16,.pv (.int .i64 i))] [.obj (.box (sdX n ks s)),.obj (.box sdZ),.obj (.row false 28 10 (o.map enc))]:=by
 have hkl:=(Ym hw).1
 intro d
 induction d with
 | zero=>
  intro i o L k hi hL hl hc hR
  rw[List.drop_eq_nil_of_le (by omega),Yo,List.append_nil]at hR
  refine a5b N n ks f g a ((k:Int)+1) b t s o L i (YW (X6 (by omega)) ⟨by simp[hL],?_⟩)
  have e:List.drop 0 (List.take L (List.map (enc:Tm->PV) o))=o.map enc:=by rw[List.drop_zero,List.take_of_length_le (by simp[hL])]
  rw[e,hR]
  exact d3d n o s k
 | succ d ih=>
  intro i o L k hi hL hl hc hR
  have h2:i<ks.length:=by omega
  have hwk:=(Ym hw).2 _ (List.getElem_mem h2)
  have hdk:=Qh (List.getElem_mem h2)
  rw[List.drop_eq_getElem_cons h2,Zq,Nat.add_mul]at hc
  rw[List.drop_eq_getElem_cons h2,Yo]at hR
  have hle:=Al a (if i=0 then YG f g else Oa b t s f g) k ks[i]
  have nx : ∀ l:List PV,l=[enc (Y7 a (if i=0 then YG f g else Oa b t s f g) k ks[i]).1] ->
    At (Yy N) 0 (Zb Z7 (Zm R)) Z8 2 113 [(1,.pv (enc f)),(2,.pv (enc g)),(3,.pv (enc a)),(4,.pv (.int .i64 (((Y7 a (if i=0 then YG f g else Oa b t s f g) k ks[i]).2:Int)+1))),(5,.ptr 0 0),(10,.ptr 1 0),(13,.pv (.bool b)),(14,.pv (.str t)),(15,.row 2 (L+l.length) 0 (L+l.length)),(16,.pv (.int .i64 (IntKind.i64.wrap ((i:Int)+1))))] [.obj (.box (sdX n ks s)),.obj (.box sdZ),.obj (.row false 28 10 (o.map enc++l))]:=by
   rintro l rfl
   rw[next (by omega)]
   have h:=ih (i+1) (o++[(Y7 a (if i=0 then YG f g else Oa b t s f g) k ks[i]).1]) (L+1) (Y7 a (if i=0 then YG f g else Oa b t s f g) k ks[i]).2 (by omega) (by simp;omega) (by omega) (by omega) (by rw[hR];simp)
   rw[List.map_append]at h
   exact h
  have bd : ∀ l:List PV,l.length=1->(List.length (List.map (enc:Tm->PV) o)==L&&L==L&&decide ((L+l.length)*176<=1099511627776)&&decide (L+l.length<=1099511627776))=true:=fun l hl1=>by
   rw[hl1];simp;omega
  have kid:=fun(K:TS×Int->Prop) (h:K (Jj (Y7 a (if i=0 then YG f g else Oa b t s f g) k ks[i]).1,((Y7 a (if i=0 then YG f g else Oa b t s f g) k ks[i]).2:Int)+1))=>b7m (N:=N) (K:=K) (fun hb1=>by have:=hb hb1;omega) hfg hwk (by omega) ha (by omega) (by omega) h
  refine a5b N n ks f g a ((k:Int)+1) b t s o L i (YB (XJ h2) (XM (fun hb1=>YO (fun k1=> ?_) fun k1=> ?_) fun hb1=> ?_))
  ·refine⟨by simp[show Enc.sz Str=1 from rfl],by simp;omega,by simp;omega,by simp[show Enc.sz Str=1 from rfl],by simp;omega,by simp;omega,ZB h2 rfl,ZQ h2 ⟨We _,by simp,by simp,?_⟩⟩
   rw[b0q,b0q]
   exact(kid _ ⟨bd _ rfl,nx _ (congrArg (fun z=>[z]) (Kk _))⟩).1 ⟨hb1,by omega⟩
  ·exact⟨ZB h2 rfl,ZQ h2 ⟨We _,(kid _ ⟨bd _ rfl,nx _ (congrArg (fun z=>[z]) (Kk _))⟩).2 (fun h=>k1 (by omega))⟩⟩
  ·exact⟨ZB h2 rfl,ZQ h2 ⟨We _,(kid _ ⟨bd _ rfl,nx _ (congrArg (fun z=>[z]) (Kk _))⟩).2 (fun h=>by rw[hb1]at h;cases h.1)⟩⟩
theorem a2b(hfg:f.length=g.length)(ha:a.length<=1048576)(hw:tW (.mk n ks)=true)(h1:f.length+ZL ks+1<=1048576)(hd:ZL ks<N)(b:Bool)(t s:List UInt8)(hb:b=true->ks.length<=2)(R:TS×Int)(k:Nat)(hc:k+1+Zq ks*(a.length+1)<=4611686018427387904)
  (hR:R=(Jj (Tm.mk (CX n ⟨s⟩) (Yo a (YG f g) (Oa b t s f g) 0 k ks).1),((Yo a (YG f g) (Oa b t s f g) 0 k ks).2:Int)+1)) :
  At (Yy N) 0 (Zb Z7 (Zm R)) Z8 2 113 [(1,.pv (enc f)),(2,.pv (enc g)),(3,.pv (enc a)),(4,.pv (.int .i64 ((k:Int)+1))),(5,.ptr 0 0),(10,.ptr 1 0),(13,.pv (.bool b)),(14,.pv (.str t)),(15,.pv (.sl 0 true [])),(16,.pv (.int .i64 0))] [.obj (.box (sdX n ks s)),.obj (.box sdZ)]:=by
 cases ks with
 | nil=>
  refine a5f N n [] f g a ((k:Int)+1) b t s 0 (YW (by simp) ?_)
  rw[hR,Yo]
  exact c2n n s k
 | cons x ks=>
  have h2:0<(x::ks).length:=by simp
  have hwk:tW x=true:=(Ym hw).2 x (by simp)
  have hdk:=Qh (ks:=x::ks) (k:=x) (by simp)
  rw[Zq,Nat.add_mul]at hc
  have hle:=Al a (YG f g) k x
  rw[Yo]at hR
  have nx : ∀ l:List PV,l=[enc (Y7 a (YG f g) k x).1] ->
    At (Yy N) 0 (Zb Z7 (Zm R)) Z8 2 113 [(1,.pv (enc f)),(2,.pv (enc g)),(3,.pv (enc a)),(4,.pv (.int .i64 (((Y7 a (YG f g) k x).2:Int)+1))),(5,.ptr 0 0),(10,.ptr 1 0),(13,.pv (.bool b)),(14,.pv (.str t)),(15,.row 2 1 0 1),(16,.pv (.int .i64 (IntKind.i64.wrap ((0:Int)+1))))] [.obj (.box (sdX n (x::ks) s)),.obj (.box sdZ),.obj (.row false 28 10 l)]:=by
   rintro l rfl
   exact d5c N n (x::ks) f g a hfg ha hw h1 hd b t s hb R ks.length 1 [(Y7 a (YG f g) k x).1] 1 (Y7 a (YG f g) k x).2 (by simp) rfl (by omega) (by rw[show(x::ks).drop 1=ks from rfl];omega) hR
  have kid:=fun(K:TS×Int->Prop) (h:K (Jj (Y7 a (YG f g) k x).1,((Y7 a (YG f g) k x).2:Int)+1))=>b7m (i:=0) (b:=b) (t:=t) (s:=s) (N:=N) (K:=K) (fun hb1=>by omega) hfg hwk (by omega) ha (by omega) (by omega) h
  refine a5f N n (x::ks) f g a ((k:Int)+1) b t s 0 (YB (XJ (i:=0) h2) (XM (fun hb1=>YO (fun k1=>absurd k1 (by decide)) fun k1=> ?_) fun hb1=> ?_))
  ·exact⟨ZB (i:=0) h2 rfl,ZQ (i:=0) h2 ⟨We _,(kid _ (nx _ (congrArg (fun z=>[z]) (Kk _)))).2 (fun h=>by omega)⟩⟩
  ·exact⟨ZB (i:=0) h2 rfl,ZQ (i:=0) h2 ⟨We _,(kid _ (nx _ (congrArg (fun z=>[z]) (Kk _)))).2 (fun h=>by omega)⟩⟩
theorem d9n(hfg:f.length=g.length)(ha:a.length<=1048576)(hw:tW (.mk n ks)=true)(h1:f.length+ZL ks+1<=1048576)(hd:ZL ks<N)(hb:ks.length<=2)(R:TS×Int)(M:Nat)(hc:M+1+Zq ks*(a.length+1)<=4611686018427387904)
  (hR:R=(Jj (Tm.mk (CX n (vN M)) (Yo a (YG f g) ((n.name,vN M)::YG f g) 0 M ks).1),((Yo a (YG f g) ((n.name,vN M)::YG f g) 0 M ks).2:Int)+1)) : ∀ (d k:Nat),d+k=M->Z0 a k=M ->
  At (Yy N) 0 (Zb Z7 (Zm R)) Z8 1 113 [(1,.pv (enc f)),(2,.pv (enc g)),(3,.pv (enc a)),(4,.pv (.int .i64 ((k:Int)+1))),(5,.ptr 0 0),(10,.ptr 1 0),(13,.pv (.bool true)),(14,.pv (.str n.name.s))] [.obj (.box (ZY n ks)),.obj (.box sdZ)]:=by
 intro d
 induction d with
 | zero=>intro k hk hn;have:=(Vo a k).1;omega
 | succ d ih=>
  intro k hk hn
  have name : ∀ K:Str->Prop,K (vN (k+1))->b7i [.int .i64 ((k:Int)+1)] K:=fun K h=>⟨Ze ((k:Int)+1,()) rfl (by show(decide (0<(k:Int)+1)&&decide ((k:Int)+1<=4611686018427387904))=true;rw[decide_eq_true (show 0<(k:Int)+1 by omega),decide_eq_true (show(k:Int)+1<=4611686018427387904 by omega)];rfl),Zd ((k:Int)+1,()) rfl (by show K (vN ((k:Int)+1).toNat);rw[show((k:Int)+1).toNat=k+1 by omega];exact h)⟩
  refine d4o N n ks f g a ((k:Int)+1) true n.name.s (name _ ⟨Ze (a,vN (k+1),()) rfl (decide_eq_true ha),Zd (a,vN (k+1),()) rfl ?_⟩)
  have e:IntKind.wrap IntKind.i64 ((k:Int)+1+1)=((k+1:Nat):Int)+1:=by rw[QO (by omega) (by omega)];omega
  rw[e]
  by_cases hm:vN (k+1)∈a
  ·refine YB (decide_eq_true hm) ?_
   have hlt:k+1<M:=by
    rcases Nat.lt_or_ge (k+1) M with h|h
    ·exact h
    ·have:M=k+1:=by omega
     exact absurd hm (by rw[<- this,<- hn];exact UX a k)
   exact ih (k+1) (by omega) (Gi a hlt (by rw[<- hn];exact UX a k) fun q q1 q2=>A9 a _ k q (by omega) (by rw[<- hn]at q2;exact q2))
  ·refine YW (by simp[hm]) (name _ ?_)
   have hM:M=k+1:=hn.symm.trans (Gi a (by omega) hm (fun q q1 q2=>by omega))
   rw[<- hM]
   exact a2b N n ks f g a hfg ha hw h1 hd true n.name.s (vN M).s (fun _=>hb) R M hc hR
theorem e0k(hfg:f.length=g.length)(ha:a.length<=1048576)(hw:tW (.mk n ks)=true)(h1:f.length+ZL ks+1<=1048576)(hd:ZL ks<N)(hk:n.kind=1)(R:TS×Int)(k:Nat)(hc:k+1+Zq ks*(a.length+1)<=4611686018427387904)
  (hR:R=(Jj (Tm.mk (CX n (Vr (YG f g) n.name)) (Yo a (YG f g) (YG f g) 0 k ks).1),((Yo a (YG f g) (YG f g) 0 k ks).2:Int)+1)) : ∀ m:Nat,m<=f.length->(∀ j (hj:j<f.length),m<=j->f[j]≠n.name) ->
  At (Yy N) 0 (Zb Z7 (Zm R)) Z8 0 113 [(1,.pv (enc f)),(2,.pv (enc g)),(3,.pv (enc a)),(4,.pv (.int .i64 ((k:Int)+1))),(5,.ptr 0 0),(10,.ptr 1 0),(12,.pv (.int .i64 ((m:Int) - 1)))] [.obj (.box (ZY n ks)),.obj (.box sdZ)]:=by
 intro m
 induction m with
 | zero=>
  intro hm hn
  rw[MW hfg n.name (fun j hj=>hn j hj (by omega))]at hR
  refine b3l N n ks f g a ((k:Int)+1) (((0:Nat):Int) - 1) (YW (by simp) (YW (by simp[hk]) ?_))
  exact a2b N n ks f g a hfg ha hw h1 hd false n.name.s n.name.s (fun h=>by cases h) R k hc hR
 | succ m ih=>
  intro hm hn
  have e:((m+1:Nat):Int) - 1=(m:Int):=by omega
  rw[e]
  have h2:m<f.length:=by omega
  have h3:m<g.length:=by omega
  refine b3l N n ks f g a ((k:Int)+1) (m:Int) (YB (by simp) ⟨ZB h2 rfl,ZQ h2 (YO (fun he=> ?_) fun he=> ?_)⟩)
  ·have he:f[m]=n.name:=stt he
   rw[NI hfg n.name h2 he (fun j hj hlt=>hn j hj (by omega))]at hR
   refine⟨ZB h3 rfl,ZQ h3 ?_⟩
   refine YW (by rw[hk];decide) ?_
   generalize g[m]=y at hR ⊢
   obtain⟨y⟩:=y
   have go:=a2b N n ks f g a hfg ha hw h1 hd false y y (fun h=>by cases h) R k hc hR
   exact go
  ·have e2:IntKind.wrap IntKind.i64 ((m:Int) - 1)=(m:Int) - 1:=QO (by omega) (by omega)
   rw[e2]
   refine ih (by omega) (fun j hj hj2=> ?_)
   rcases Nat.lt_or_ge m j with h|h
   ·exact hn j hj (by omega)
   ·obtain rfl:j=m:=by omega
    exact fun e=>he (by rw[e];rfl)
end
theorem c3b(N:Nat): ∀ x:Tm×List Str×List Str×List Str×Int×Unit,((tW x.1&&(decide (x.2.1.length=x.2.2.1.length)&&(decide (x.2.1.length+Zu x.1<=1048576)&&(decide (x.2.2.2.1.length<=1048576)&&(decide (1<=x.2.2.2.2.1)&&decide (x.2.2.2.2.1+((Zk x.1*(x.2.2.2.1.length+1):Nat):Int)<=4611686018427387904))))))&&decide (Zu x.1<N+1))=true ->
  Zc (Yy N) 0 (Zb Z7 (Zm (Td x.1 x.2.1 x.2.2.1 x.2.2.2.1 x.2.2.2.2.1))) Z8 [] (ZJ d0l (encL x)):=by
 rintro⟨⟨n,ks⟩,f,g,a,c,⟨⟩⟩ h
 simp only[Bool.and_eq_true,decide_eq_true_eq]at h
 obtain⟨⟨hw,hfg,h1,ha,hc1,hc⟩,hd⟩:=h
 obtain⟨k,rfl⟩ : ∃ k:Nat,c=(k:Int)+1:=⟨(c - 1).toNat,by omega⟩
 have h1:f.length+Zu (.mk n ks)<=1048576:=h1
 have hd:Zu (.mk n ks)<N+1:=hd
 have hc:(k:Int)+1+((Zk (.mk n ks)*(a.length+1):Nat):Int)<=4611686018427387904:=hc
 rw[Zu]at h1 hd
 rw[Zk,Nat.add_mul]at hc
 show Zc (Yy N) 0 (Zb Z7 (Zm (Td (.mk n ks) f g a ((k:Int)+1)))) Z8 [] _
 rw[b2y,Y7,show encL ((Tm.mk n ks,f,g,a,((k:Int)+1),()):Tm×List Str×List Str×List Str×Int×Unit)=[ndC n ks,enc f,enc g,enc a,.int .i64 ((k:Int)+1)]from by rw[XD];rfl]
 have nolet:Yq n ks.length=false-> ∀ b:Bool,b=false->n.kind≠1->At (Yy N) 0 (Zb Z7 (Zm (Jj (Tm.mk n (Yo a (YG f g) (YG f g) 0 k ks).1),((Yo a (YG f g) (YG f g) 0 k ks).2:Int)+1))) Z8 2 113 [(1,.pv (enc f)),(2,.pv (enc g)),(3,.pv (enc a)),(4,.pv (.int .i64 ((k:Int)+1))),(5,.ptr 0 0),(10,.ptr 1 0),(13,.pv (.bool b)),(14,.pv (.str n.name.s)),(15,.pv (.sl 0 true [])),(16,.pv (.int .i64 0))] [.obj (.box (ZY n ks)),.obj (.box sdZ)]:=by
  rintro hl b rfl hk
  exact a2b N n ks f g a hfg ha hw (by omega) (by omega) false n.name.s n.name.s (fun h=>by cases h) _ k (by omega) rfl
 refine d9e N n ks f g a ((k:Int)+1) (YO (fun hk=> ?_) fun hk=>YO (fun k5=>YO (fun k2=> ?_) fun k2=> ?_) fun k5=> ?_)
 ·have hl:Yq n ks.length=false:=by unfold Yq;rw[decide_eq_false (show ¬ n.kind=5 by omega)];rfl
  rw[if_neg (by rw[hl];simp)]
  dsimp only
  rw[if_pos hk]
  have e:IntKind.wrap IntKind.i64 (((List.map (enc:Str->PV) f).length:Int) - 1)=(f.length:Int) - 1:=by rw[List.length_map];exact QO (by omega) (by omega)
  rw[e]
  exact e0k N n ks f g a hfg ha hw (by omega) (by omega) hk _ k (by omega) rfl f.length (Nat.le_refl _) (fun j hj h=>by omega)
 ·have e2:ks.length=2:=by rw[List.length_map]at k2;omega
  have hl:Yq n ks.length=true:=by unfold Yq;rw[decide_eq_true k5,decide_eq_true e2];rfl
  rw[if_pos hl]
  dsimp only
  have hn:=Vo a k
  have eb:((((List.map (enc:Tm->PV) ks).length:Nat):Int)==2)=true:=by rw[List.length_map,e2];rfl
  rw[eb]
  exact d9n N n ks f g a hfg ha hw (by omega) (by omega) (by omega) _ (Z0 a k) (by omega) rfl (Z0 a k - k) k (by omega) rfl
 ·have e2 : ¬ ks.length=2:=by rw[List.length_map]at k2;omega
  have hl:Yq n ks.length=false:=by unfold Yq;rw[decide_eq_false e2];simp
  rw[if_neg (by rw[hl];simp)]
  dsimp only
  rw[if_neg hk]
  exact nolet hl _ (by simpa using k2) hk
 ·have hl:Yq n ks.length=false:=by unfold Yq;rw[decide_eq_false k5];rfl
  rw[if_neg (by rw[hl];simp)]
  dsimp only
  rw[if_neg hk]
  exact nolet hl _ rfl hk
end Go.Pl
namespace Go.Pl
open Go.RowKit
end Go.Pl
namespace Go.Pl
open Go.RowKit
open Enc (enc dec is)
open EncL (encL decL isL)
set_option maxRecDepth 100000
end Go.Pl
namespace Go.Pl
open Go.RowKit
end Go.Pl
namespace Go.Pl
open Go.RowKit
open Enc (enc dec is)
open EncL (encL decL isL)
structure RnT where
 nm:Str
 n:Nd
 k:List Tm
instance:Enc RnT where
 sz:=11
 enc x:=.agg [enc x.nm,enc x.n.kind,enc x.n.line,enc x.n.name,enc x.n.num,enc x.n.elem,enc x.n.dims,enc x.n.data,enc x.n.sizes,enc x.n.ranks,enc x.k]
 dec | .agg [z,a,b,c,d,e,f,g,h,i,k]=>⟨dec z,⟨dec a,dec b,dec c,dec d,dec e,dec f,dec g,dec h,dec i⟩,dec k⟩|_=>⟨⟨[]⟩,nd0,[]⟩
 is | .agg [z,a,b,c,d,e,f,g,h,i,k]=>is Str z&&is Int a&&is Int b&&is Str c&&is Int d&&is Str e&&is (List Int) f&&is (List Int) g&&is (List Lin) h&&is (List Int) i&&is (List Tm) k|_=>false
 is_enc v:=by simp
 dec_enc v:=by simp
 sub p h:=by
  cases p with
  | agg xs=>
   match xs,h with
   | [z,a,b,c,d,e,f,g,h',i,k],h=>
    simp only[Bool.and_eq_true]at h
    obtain⟨⟨⟨⟨⟨⟨⟨⟨⟨⟨h0,h1⟩,h2⟩,h3⟩,h4⟩,h5⟩,h6⟩,h7⟩,h8⟩,h9⟩,h10⟩:=h
    exact .agg (.cons (Enc.sub z h0).2 (.cons (Enc.sub a h1).2 (.cons (Enc.sub b h2).2 (.cons (Enc.sub c h3).2 (.cons (Enc.sub d h4).2 (.cons (Enc.sub e h5).2 (.cons (Enc.sub f h6).2 (.cons (Enc.sub g h7).2 (.cons (Enc.sub h' h8).2 (.cons (Enc.sub i h9).2 (.cons (Enc.sub k h10).2 .nil)))))))))))
  | _=>cases h
end Go.Pl
namespace Go.Pl
open Go.RowKit
open Enc (enc dec is)
open EncL (encL decL isL)
set_option maxRecDepth 100000
end Go.Pl
namespace Go.Pl
open Go.RowKit
open Enc (enc dec is)
open EncL (encL decL isL)
theorem SL(n m:Nd)(ks ls:List Tm):([ndC n ks,ndC m ls]:List PV)=encL (Tm.mk n ks,Tm.mk m ls,()):=by rw[XD,XD];rfl
section
variable (n m p:Nd) (ks ls us:List Tm) (s:List UInt8)
end
end Go.Pl
namespace Go.Pl
open Go.RowKit
open Enc (enc dec is)
open EncL (encL decL isL)
set_option maxRecDepth 100000
abbrev b8v(ps:List PV)(k:Bool->Prop):Prop:=XT (fun(x:Tm×Int×Unit)=>tW (Prod.fst x)) (fun(x:Tm×Int×Unit)=>KI (Prod.fst x) (Prod.fst (Prod.snd x))) ps k
abbrev b8p(ps:List PV)(k:Bool->Prop):Prop:=XT (fun(x:Tm×Unit)=>tW (Prod.fst x)) (fun(x:Tm×Unit)=>Xn (Prod.fst x)) ps k
abbrev Ez(ps:List PV)(k:Bool->Prop):Prop:=XT (fun(x:Tm×Tm×Unit)=>tW (Prod.fst x)&&tW (Prod.fst (Prod.snd x))) (fun(x:Tm×Tm×Unit)=>K5 (Prod.fst x) (Prod.fst (Prod.snd x))) ps k
abbrev d4h(ps:List PV)(k:Int->Prop):Prop:=XT (fun(x:Tm×Unit)=>tW (Prod.fst x)) (fun(x:Tm×Unit)=>Kl (Prod.fst x)) ps k
abbrev d5o(ps:List PV)(k:Int->Prop):Prop:=XT (fun(x:Tm×Unit)=>tW (Prod.fst x)) (fun(x:Tm×Unit)=>(↑(Zk (Prod.fst x)):Int)) ps k
abbrev d1k(ps:List PV)(k:Int->Prop):Prop:=XT (fun(x:Tm×Unit)=>tW (Prod.fst x)) (fun(x:Tm×Unit)=>MZ (Prod.fst x)) ps k
abbrev d2s(ps:List PV)(k:Int->Prop):Prop:=XT (fun(x:Tm×Unit)=>tW (Prod.fst x)) (fun(x:Tm×Unit)=>(↑(Zu (Prod.fst x)):Int)) ps k
abbrev b1u(ps:List PV)(k:Bool->Prop):Prop:=XT (fun(x:Tm×Tm×Unit)=>tW (Prod.fst x)&&tW (Prod.fst (Prod.snd x))&&tW (Yd (Prod.fst x))&&tW (Yd (Prod.fst (Prod.snd x)))) (fun(x:Tm×Tm×Unit)=>QZ (Prod.fst x) (Prod.fst (Prod.snd x))) ps k
noncomputable def Et:IC:=Xy Proofs.Tryz.f4
def a0w:List IRes:=[(.tmp 4)]
abbrev d1r:Nat:=57
noncomputable def b6h:Zz:=Yr [(12,.pure (preT (fun _:Unit=>true)) (Zi (fun _:Unit=>true))),(13,.pure (preT (fun x:Tm×Int×Unit=>tW x.1)) (Zi (fun x:Tm×Int×Unit=>KI x.1 x.2.1))),(22,.pure (preT (fun x:Tm×Unit=>tW x.1)) (Zi (fun x:Tm×Unit=>Xn x.1))),(23,.pure (preT (fun x:Tm×Unit=>tW x.1)) (Zi (fun x:Tm×Unit=>Xn x.1))),(24,.pure (preT (fun x:Tm×Tm×Unit=>tW x.1&&tW x.2.1)) (Zi (fun x:Tm×Tm×Unit=>K5 x.1 x.2.1))),(25,.pure (preT (fun x:Tm×Tm×Unit=>tW x.1&&tW x.2.1)) (Zi (fun x:Tm×Tm×Unit=>K5 x.1 x.2.1))),(21,.pure (preT (fun x:Tm×Unit=>tW x.1)) (Zi (fun x:Tm×Unit=>Kl x.1))),(26,.pure (preT (fun x:Tm×Unit=>tW x.1)) (Zi (fun x:Tm×Unit=>(Zk x.1:Int)))),(27,.pure (preT (fun x:Tm×Unit=>tW x.1)) (Zi (fun x:Tm×Unit=>MZ x.1))),(28,.pure (preT (fun x:Tm×Unit=>tW x.1)) (Zi (fun x:Tm×Unit=>(Zu x.1:Int)))),(18,.pure (preT (fun x:Tm×Tm×Unit=>tW x.1&&tW x.2.1&&tW (Yd x.1)&&tW (Yd x.2.1))) (Zi (fun x:Tm×Tm×Unit=>QZ x.1 x.2.1))),(29,.pure (preT (fun x:Tm×Tm×Unit=>tW x.1&&tW x.2.1&&tW (Yd x.1)&&tW (Yd x.2.1))) (Zi (fun x:Tm×Tm×Unit=>QZ x.1 x.2.1)))]
theorem d8t{G:PV->Prop}(n:Nd)(ks:List Tm)(m:Nd)(ls:List Tm)(h : ∃ y0:Bool,AV.pv (Zi (fun(x:Unit)=>true) [])=AV.pv (enc y0)∧(if (!y0)=true then G ((.bool false))else((b8v [(ndC n ks),(.int .i64 30)] fun y1=>(if (!y1)=true then G ((.bool true))else((b8v [(ndC m ls),(.int .i64 30)] fun y2=>(if (!y2)=true then G ((.bool true))else((b8p (Hg n ks) fun y3=>((b8p (Hg n ks) fun y4=>(if (y3==y4)=true then(Ez [ndC n ks,ndC m ls] fun y5=>((Ez [ndC n ks,ndC m ls] fun y6=>(if (y5==y6)=true then(Ez [(ndC n ks),(ndC n ks)] fun y7=>(if (y7)=true then(d4h (Hg n ks) fun y8=>((d5o (Hg n ks) fun y9=>(if (y8==y9)=true then(d1k (Hg n ks) fun y10=>((d2s (Hg n ks) fun y11=>(if (y10==y11)=true then(b1u [ndC n ks,ndC m ls] fun y12=>((b1u [ndC n ks,ndC m ls] fun y13=>(G ((.bool (y12==y13)))))))else(G ((.bool false)))))))else(G ((.bool false)))))))else(G ((.bool false)))))else(G ((.bool false)))))))else(G ((.bool false)))))))))))))))):Zc b6h 0 (Zb a0w G) Et [] (ZJ 57 [.agg [enc n.kind,enc n.line,enc n.name,enc n.num,enc n.elem,enc n.dims,enc n.data,enc n.sizes,enc n.ranks,enc ks],.agg [enc m.kind,enc m.line,enc m.name,enc m.num,enc m.elem,enc m.dims,enc m.data,enc m.sizes,enc m.ranks,enc ls]]):=Zc.tp (dm [dv Bool,dv Int] 202 0x2222222222222222222222222222222022222222222222222222222022222222222222222220222222222222202222222022251222512200d422261226120234222612261203f42512205c42225122251220844251510001422512022220054510001452) h
end Go.Pl
namespace Go.Pl
open Go.RowKit
open Enc (enc dec is)
open EncL (encL decL isL)
theorem Kv{x y:Bool}(h:x=y):(x==y)=true:=by rw[h];simp
theorem c2x: ∀ x:Tm×Tm×Unit,decide (QM x.1+9*Zk x.1+(QM x.2.1+9*Zk x.2.1)<=1048576)=true->Zc b6h 0 (Zb a0w (Zm true)) Et [] (ZJ d1r (encL x)):=by
 rintro⟨⟨n,ks⟩,⟨m,ls⟩,⟨⟩⟩ hw
 have hW:QM (.mk n ks)+9*Zk (.mk n ks)+(QM (.mk m ls)+9*Zk (.mk m ls))<=1048576:=of_decide_eq_true hw
 have t1:tW (.mk n ks)=true:=decide_eq_true (by omega)
 have t2:tW (.mk m ls)=true:=decide_eq_true (by omega)
 have e:(encL ((Tm.mk n ks,Tm.mk m ls,()):Tm×Tm×Unit):List PV)=[ndC n ks,ndC m ls]:=(SL n m ks ls).symm
 rw[e]
 refine d8t n ks m ls (Zd () rfl (W9 (fun h=>nomatch h) fun _=> ?_))
 refine⟨Ze (Tm.mk n ks,(30:Int),()) (ndT n ks (30:Int)).symm t1,Zd (Tm.mk n ks,(30:Int),()) (ndT n ks (30:Int)).symm (W9 (fun _=>Zp rfl) fun g1=> ?_)⟩
 refine⟨Ze (Tm.mk m ls,(30:Int),()) (ndT m ls (30:Int)).symm t2,Zd (Tm.mk m ls,(30:Int),()) (ndT m ls (30:Int)).symm (W9 (fun _=>Zp rfl) fun g2=> ?_)⟩
 have h1:=Mm (t:=.mk n ks) (k:=30) g1
 have h2:=Mm (t:=.mk m ls) (k:=30) g2
 have tS1:tW (Yd (.mk n ks))=true:=a3v (by omega) (by omega)
 have tS2:tW (Yd (.mk m ls))=true:=a3v (by omega) (by omega)
 have p1:preT (fun x:Tm×Unit=>tW x.1) (Hg n ks)=true:=Ze (Tm.mk n ks,()) (Yc n ks) t1
 have p2:preT (fun x:Tm×Tm×Unit=>tW x.1&&tW x.2.1) [ndC n ks,ndC m ls]=true:=Ze (Tm.mk n ks,Tm.mk m ls,()) (SL _ _ _ _) (by show(tW _&&tW _)=true;rw[t1,t2];rfl)
 have p3:preT (fun x:Tm×Tm×Unit=>tW x.1&&tW x.2.1) [ndC n ks,ndC n ks]=true:=Ze (Tm.mk n ks,Tm.mk n ks,()) (SL _ _ _ _) (by show(tW _&&tW _)=true;rw[t1];rfl)
 have p4:preT (fun x:Tm×Tm×Unit=>tW x.1&&tW x.2.1&&tW (Yd x.1)&&tW (Yd x.2.1)) [ndC n ks,ndC m ls]=true:=Ze (Tm.mk n ks,Tm.mk m ls,()) (SL _ _ _ _) (by show(tW _&&tW _&&tW _&&tW _)=true;rw[t1,t2,tS1,tS2];rfl)
 refine⟨p1,Zd (Tm.mk n ks,()) (Yc n ks) ⟨p1,Zd (Tm.mk n ks,()) (Yc n ks) (YB (Kv rfl) ?_)⟩⟩
 refine⟨p2,Zd (Tm.mk n ks,Tm.mk m ls,()) (SL _ _ _ _) ⟨p2,Zd (Tm.mk n ks,Tm.mk m ls,()) (SL _ _ _ _) (YB (Kv rfl) ?_)⟩⟩
 refine⟨p3,Zd (Tm.mk n ks,Tm.mk n ks,()) (SL _ _ _ _) (YB (Ml _) ?_)⟩
 refine⟨p1,Zd (Tm.mk n ks,()) (Yc n ks) ⟨p1,Zd (Tm.mk n ks,()) (Yc n ks) (YB (by simp[Kl]) ?_)⟩⟩
 refine⟨p1,Zd (Tm.mk n ks,()) (Yc n ks) ⟨p1,Zd (Tm.mk n ks,()) (Yc n ks) (YB (by simp[MZ]) ?_)⟩⟩
 exact⟨p4,Zd (Tm.mk n ks,Tm.mk m ls,()) (SL _ _ _ _) ⟨p4,Zd (Tm.mk n ks,Tm.mk m ls,()) (SL _ _ _ _) (Zp (Kv rfl))⟩⟩
theorem c4q: ∀ x:Tm×Unit,tW x.1=true->Zc b5c 0 (Zb EK (Zm (Yd x.1))) O0 [] (ZJ d4y (encL x)):=by
 rintro⟨⟨n,ks⟩,⟨⟩⟩ t1
 have t1:tW (.mk n ks)=true:=t1
 have hsz:=Ur t1
 have hf:=b7z (.mk n ks)
 have hdp:Zu (.mk n ks)<=Zk (.mk n ks):=Q9 _
 have hm:=Nat.mul_le_mul hsz (show(Ye (.mk n ks)).length+1<=1048577 by omega)
 rw[<- nd1]
 have p1:preT (fun x:Tm×Unit=>tW x.1) (Hg n ks)=true:=Ze (Tm.mk n ks,()) (Yc n ks) t1
 have hd:decL ([ndC n ks,.sl 0 true [],.sl 0 true [],.sl 1 false ((Ye (.mk n ks)).map enc),.int .i64 1]:List PV)=(Tm.mk n ks,([]:List Str),([]:List Str),Ye (.mk n ks),(1:Int),()):=by
  rw[XD]
  show(dec (enc (Tm.mk n ks)),([]:List Str),([]:List Str),dec (enc (Ye (.mk n ks))),(1:Int),())=_
  rw[Enc.dec_enc,Enc.dec_enc]
 have hi:isL (Tm×List Str×List Str×List Str×Int×Unit) ([ndC n ks,.sl 0 true [],.sl 0 true [],.sl 1 false ((Ye (.mk n ks)).map enc),.int .i64 1]:List PV)=true:=by
  rw[XD]
  show(is Tm (enc (Tm.mk n ks))&&(true&&(true&&(is (List Str) (enc (Ye (.mk n ks)))&&true))))=true
  rw[Enc.is_enc,Enc.is_enc];rfl
 refine d6x n ks ⟨p1,Zd (Tm.mk n ks,()) (Yc n ks) ⟨a4v _ hi hd ?_,Oq _ hd ?_⟩⟩
 ·show(tW (.mk n ks)&&(decide (([]:List Str).length=([]:List Str).length)&&(decide (([]:List Str).length+Zu (.mk n ks)<=1048576)&&(decide ((Ye (.mk n ks)).length<=1048576)&&(decide (1<=(1:Int))&&decide ((1:Int)+((Zk (.mk n ks)*((Ye (.mk n ks)).length+1):Nat):Int)<=4611686018427387904))))))=true
  have hm':((Zk (.mk n ks)*((Ye (.mk n ks)).length+1):Nat):Int)<=1048576*1048577:=by omega
  rw[t1,decide_eq_true (show([]:List Str).length+Zu (.mk n ks)<=1048576 by simp;omega),decide_eq_true (show(Ye (.mk n ks)).length<=1048576 by omega),decide_eq_true (show(1:Int)+((Zk (.mk n ks)*((Ye (.mk n ks)).length+1):Nat):Int)<=4611686018427387904 by omega)]
  rfl
 ·show Zm (Yd (.mk n ks)) (eS (Jj (Yd (.mk n ks))))
  rw[Kk]
  exact Xm rfl
theorem c3j: ∀ x:Tm×Tm×Unit,(tW x.1&&tW x.2.1&&tW (Yd x.1)&&tW (Yd x.2.1))=true->Zc a9u 0 (Zb OV (Zm (QZ x.1 x.2.1))) Ei [] (ZJ d3t (encL x)):=by
 rintro⟨⟨n,ks⟩,⟨m,ls⟩,⟨⟩⟩ h
 simp only[Bool.and_eq_true]at h
 obtain⟨⟨⟨t1,t2⟩,s1⟩,s2⟩:=h
 have e:(encL ((Tm.mk n ks,Tm.mk m ls,()):Tm×Tm×Unit):List PV)=[ndC n ks,ndC m ls]:=(SL n m ks ls).symm
 rw[e]
 refine e0n n ks m ls ⟨Ze (Tm.mk n ks,()) (Yc n ks) t1,Zd (Tm.mk n ks,()) (Yc n ks) ⟨Ze (Tm.mk m ls,()) (nd1 m ls) t2,Zd (Tm.mk m ls,()) (nd1 m ls) ?_⟩⟩
 exact⟨Ze (Yd (.mk n ks),Yd (.mk m ls),()) rfl (by show(tW _&&tW _)=true;rw[s1,s2];rfl),Zd (Yd (.mk n ks),Yd (.mk m ls),()) rfl (Zp rfl)⟩
theorem a7c: ∀ x:Int×Unit,(decide (0<x.1)&&decide (x.1<=4611686018427387904))=true->Zc KA 0 (Zb Uq (Zm (vN x.1.toNat))) Uw [] (ZJ a1g (encL x)):=by
 rintro⟨n,⟨⟩⟩ h
 simp only[Bool.and_eq_true,decide_eq_true_eq]at h
 have h1:=b6n (n,()) (decide_eq_true ⟨by show 0<=n;omega,by show n<=9223372036854775807;omega⟩)
 have e:nmP n.toNat=vN n.toNat:=by
  unfold nmP vN
  rw[if_neg (by omega)]
  have:=H7 (n:=n.toNat) (by omega)
  unfold itT
  rw[this,Int.natAbs_natCast]
 rw[<- e]
 exact h1
theorem c4n: ∀ x:Tm×Unit,tW x.1=true->Zc c0l 0 (Zb OZ (Zm (Ye x.1))) OM [] (ZJ d2q (encL x)):=by
 rintro⟨⟨n,ks⟩,⟨⟩⟩ hw
 have hw:tW (.mk n ks)=true:=hw
 have hsz:=Ur hw
 have hd:=Q9 (.mk n ks)
 rw[<- nd1]
 have e0:(is Tm (ndC n ks))=true:=by rw[XD,Enc.is_enc]
 have e1:(dec (ndC n ks):Tm) = .mk n ks:=by rw[XD,Enc.dec_enc]
 have h1:isL (List Str×Tm×List Str×Unit) [(.sl 0 true []),ndC n ks,(.sl 0 true [])]=true:=by
  simp only[Ai,RZ,e0]
  rfl
 have h2:(decL [(.sl 0 true []),ndC n ks,(.sl 0 true [])]:List Str×Tm×List Str×Unit)=([],.mk n ks,[],()):=by
  simp only[Dh,Bz,e1]
  rfl
 refine d9k n ks ⟨a4v ([],.mk n ks,[],()) h1 h2 ?_,Oq ([],.mk n ks,[],()) h2 ?_⟩
 ·show(tW (.mk n ks)&&decide (0+Zk (.mk n ks)<=1048576)&&decide (0+Zu (.mk n ks)<=1048576))=true
  rw[hw,decide_eq_true (by omega),decide_eq_true (by omega)]
  rfl
 ·have e : ∀ l:List Str,l=Ye (.mk n ks)->Zm (Ye (.mk n ks)) (.sl 1 false (List.map enc l)):=fun l h=>by rw[h];exact Xm (β:=List Str) rfl
  exact e _ (by unfold Ye;rw[MK])
end Go.Pl
