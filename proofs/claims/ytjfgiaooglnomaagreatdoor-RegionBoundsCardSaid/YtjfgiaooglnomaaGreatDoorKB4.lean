/-
  Texts of mine that belong together (packed by pack.py), for every input: QGc, GRp, QGp, QLr, GLm, GLk, QLk, GLn, QLn, QLo, QLp, QRa, QRb, QRc, TyQ, GLu, GLt, QRs, QRt, QRu, QRv, GLv, QRw, QRx, TyRb, TyRc, TyPo, QGd, GRc, QRd, QRe, GRd, QRf, TyRd, GRx, QRg, GPv, QPv, GPw, QPw.
-/
import Derived.Test.YtjfgiaooglnomaaGreatDoorKB2
import Derived.Test.YtjfgiaooglnomaaGreatDoorKB3
import Derived.KernelRfl
set_option linter.unusedVariables false
set_option linter.unusedSimpArgs false
namespace Go.Pl
open Go.RowKit
open Enc (enc dec is)
open EncL (encL decL isL)
theorem Ls(s:List UInt8)(hs:s.length<=281474976710656): ∀ (m i:Nat),m+i=s.length->At XD 0 (Za Y6 (Zm (Xo s i))) Y5 0 67 [(0,.pv (.str s)),(34,.pv (.sl 1 false (Zw s))),(35,.pv (.int .i64 (Zw s).length)),(36,.pv (.int .i64 i))] []:=by
 intro m
 induction m with
 | zero=>
  intro i hi
  have e:Xo s i=(!(s==[])&&decide (s.length<=30)):=by
   unfold Xo
   cases i with
   | zero=>cases s with
    | nil=>rfl
    | cons c r=>simp at hi
   | succ i=>simp only;rw[List.drop_of_length_le (show s.length<=i+1 by omega)];simp
  rw[e]
  refine TT s i (Z0 (Yd (by rw[UD];omega)) (Xj (fun h=>ZZ ?_) fun h=>ZZ ?_))
  ·rw[h,Bool.true_and];exact decide_eq_decide.2 (by omega)
  ·rw[h,Bool.false_and]
 | succ m ih=>
  intro i hi
  have hlt:i<s.length:=by omega
  have h:=ih (i+1) (by omega)
  refine TT s i ?_
  rw[LQ hlt,next (by omega)]
  have stop:(WB s[i]=false∧(i=0∨Wn s[i]=false))->Zm (Xo s i) (.bool false):=fun hb=>ZZ (Ta hlt hb).symm
  have go:(WB s[i]=true∨(i≠0∧Wn s[i]=true))->At XD 0 (Za Y6 (Zm (Xo s i))) Y5 0 67 [(0,.pv (.str s)),(34,.pv (.sl 1 false (Zw s))),(35,.pv (.int .i64 (Zw s).length)),(36,.pv (.int .i64 ((i+1:Nat):Int)))] []:=fun hb=>by rw[TY hlt hb];exact h
  have rest:WB s[i]=false->(if ((i:Int)==0)=true then Zm (Xo s i) (.bool false)else if decide ((s[i].toNat:Int)<48)=true then Zm (Xo s i) (.bool false)else if decide ((s[i].toNat:Int)>57)=true then Zm (Xo s i) (.bool false)else At XD 0 (Za Y6 (Zm (Xo s i))) Y5 0 67 [(0,.pv (.str s)),(34,.pv (.sl 1 false (Zw s))),(35,.pv (.int .i64 (Zw s).length)),(36,.pv (.int .i64 ((i+1:Nat):Int)))] []):=by
   intro hl
   refine JZ (fun h0=>stop ⟨hl,.inl (by omega)⟩) fun h0=>WR (fun h1=>stop ⟨hl,.inr (KQ (by omega))⟩) fun h1=>WR (fun h2=>stop ⟨hl,.inr (KQ (by omega))⟩) fun h2=>go (.inr ⟨by omega,Vd.2 (by omega)⟩)
  refine ZV (Ya (by rw[UD];exact hlt)) ⟨by rw[UD];simp[hlt],by rfl,?_⟩
  refine WR (fun h1=>rest (KO ?_)) fun h1=>WR (fun h2=>rest (KO ?_)) fun h2=>go (.inl (Ph.2 ?_))
  ·have h1:(s[i].toNat:Int)<97:=h1
   omega
  ·have h2:(s[i].toNat:Int)>122:=h2
   omega
  ·have h1 : ¬ (s[i].toNat:Int)<97:=h1
   have h2 : ¬ (s[i].toNat:Int)>122:=h2
   omega
theorem OE: ∀ a:Str×Unit,decide (a.1.s.length<=281474976710656)=true->Zc XD 0 (Za Y6 (Zm (ZA a.1))) Y5 [] (Yz a5p (encL a)):=by
 rintro⟨⟨s⟩,⟨⟩⟩ hl
 have hl:s.length<=281474976710656:=by simpa using hl
 refine b1y s (Zj (⟨s⟩,⟨[95]⟩,()) rfl (Xj (fun h=> ?_) fun h=> ?_))
 ·have h:[95].isPrefixOf s=true:=h
  obtain⟨r,rfl⟩ : ∃ r,s=95::r:=by
   cases s with
   | nil=>simp at h
   | cons c r=>
    have:95=c:=by simpa using h
    exact⟨r,by rw[this]⟩
  have e1:List.drop (Int.toNat 1) (List.take (List.length (95::r)) (95::r))=r:=by rw[List.take_of_length_le (Nat.le_refl _)];rfl
  simp only[e1]
  refine⟨by simp,Zl (⟨r⟩,()) rfl (by simp at hl ⊢;omega),Zj (⟨r⟩,()) rfl ⟨by show(CL (enc (Yv ⟨r⟩).2)&&true)=true;rw[c1y];rfl,?_⟩⟩
  show if UO (enc (Yv ⟨r⟩).2)=true then(if decide ((Yv ⟨r⟩).1>0)=true then(if _ then _ else Zm (ZA ⟨95::r⟩) _)else Zm (ZA ⟨95::r⟩) _)else Zm (ZA ⟨95::r⟩) _
  rw[Ns]
  by_cases h9:r.length<=9
  ·rw[<- a0b r h9,decide_eq_true h9,Bool.and_true]
   refine Xj (fun h1=>Xj (fun h2=>ZV (by simp;omega) ⟨Zl ((Yv ⟨r⟩).1,()) rfl (by have:=Sc ⟨r⟩;simp;omega),Zj ((Yv ⟨r⟩).1,()) rfl ⟨by simp,ZZ ?_⟩⟩) fun h2=>ZZ ?_) fun h1=>ZZ ?_
   ·rw[h1,h2];simp only[Bool.true_and,Bool.and_true];rfl
   ·rw[h2];simp
   ·rw[h1];simp
  ·rw[decide_eq_false h9,Bool.and_false]
   refine Xj (fun h1=>Xj (fun h2=>Z0 (by simp;omega) (ZZ rfl)) fun h2=>ZZ rfl) fun h1=>ZZ rfl
 ·have h:[95].isPrefixOf s=false:=h
  show At XD 0 (Za Y6 (Zm (ZA ⟨s⟩))) Y5 0 67 _ _
  rw[Ra h]
  exact Ls s hl s.length 0 (by omega)
end Go.Pl

namespace Go.Pl
open Go.RowKit
open Enc (enc dec is)
open EncL (encL decL isL)
set_option maxRecDepth 100000
def RQ:IC:=(.reg [⟨(some 7),(.faddr 0 (.t 1)),0,none⟩,⟨(some 8),(.load false [(.sl 1)] (.t 7)),0,none⟩,⟨(some 9),(.len 1 (.t 8)),0,none⟩,⟨(some 10),(.mksl 3 1 8 (.int .i64 0) (.t 9) (.t 9)),0,none⟩,⟨(some 4),(.mv (.t 10)),1,none⟩] none)
def Ob:List IRes:=[]
def a1i:ZE:=Xg [(48,.own Kh KT)]
theorem c6j{G:AV×List AObj×List AObj->Prop}(E:Yl)(l:Nat)(b:BoxT)(fs:List Fact)(h:(decide (0<=(↑(List.length (PV.asXs (List.getD (List.drop 0 [enc b.v,PV.int .i64 b.m]) 0 default))):Int))&&(↑(List.length (PV.asXs (List.getD (List.drop 0 [enc b.v,PV.int .i64 b.m]) 0 default))):Int)==(↑(List.length (PV.asXs (List.getD (List.drop 0 [enc b.v,PV.int .i64 b.m]) 0 default))):Int)&&decide ((↑(List.length (PV.asXs (List.getD (List.drop 0 [enc b.v,PV.int .i64 b.m]) 0 default))):Int)*(↑8:Int)<=1099511627776)&&decide ((↑(List.length (PV.asXs (List.getD (List.drop 0 [enc b.v,PV.int .i64 b.m]) 0 default))):Int)<=1099511627776))=true∧(E 99 ⟨ZF 52 0 [(0,(.yld l)),(1,(.pv (.rptr [(.sl 1 false (List.map enc b.v)),(.int .i64 b.m)]))),(2,(.pv (.rptr [(.sl 3 false (List.map enc fs))]))),(4,(.row 0 (Int.toNat (↑(List.length (PV.asXs (List.getD (List.drop 0 [enc b.v,PV.int .i64 b.m]) 0 default))):Int)) 0 (Int.toNat (↑(List.length (PV.asXs (List.getD (List.drop 0 [enc b.v,PV.int .i64 b.m]) 0 default))):Int))))],[(.obj (.row false 3 1 (List.replicate (Int.toNat (↑(List.length (PV.asXs (List.getD (List.drop 0 [enc b.v,PV.int .i64 b.m]) 0 default))):Int)) (PV.int .i64 0))))]⟩ (fun x S'=>QL a1i E 0 (Zk 0 Ob G) RQ 99 x S'))):Zv a1i E 0 (Zk 0 Ob G) (.inl RQ) [.seq (.ext 99 [0,1,2,4])] ⟨ZF 52 0 [(0,.yld l),(1,(.pv (.rptr [enc b.v,.int .i64 b.m]))),(2,(.pv (.rptr [enc fs])))],[]⟩:=Zv.mo (.lit (.req (.nil))) h (by kernel_rfl)
def PD:IC:=(.reg [⟨(some 11),(.load true [(.sl 1),(.int .i64)] (.t 1)),0,none⟩,⟨(some 12),(.mv (.t 4)),0,none⟩,⟨(some 13),(.call (.c (.fn 48)) [(.t 11),(.t 12)]),0,none⟩,⟨(some 5),(.mv (.t 13)),2,none⟩] none)
def OM:List IRes:=[]
def a9k:ZE:=Xg [(48,.own Kh KT)]
theorem c5n{G:AV×List AObj×List AObj->Prop}(E:Yl)(l:Nat)(b:BoxT)(fs:List Fact)(n:Nat)(p:List Int)(h:(Kh [(.pv (.agg [(.sl 1 false (PV.asXs (List.getD [enc b.v,PV.int .i64 b.m] 0 default))),(.int .i64 (PV.asInt (List.getD [enc b.v,PV.int .i64 b.m] (0+1) default)))])),(.row 0 n 0 n)] [(.row false 3 1 (List.map enc p))])=true∧(E 99 ⟨ZF 52 0 [(0,(.yld l)),(1,(.pv (.rptr [(.sl 1 false (List.map enc b.v)),(.int .i64 b.m)]))),(2,(.pv (.rptr [(.sl 3 false (List.map enc fs))]))),(4,(.row 0 n 0 n)),(5,(.pv (.sl 2 false (List.map enc (Zd (dec (Sh.co (Sh.sl 1) (List.getD [enc b.v,PV.int .i64 b.m] 0 default))) (a7s (List.map enc p)))))))],[(.obj (.row false 3 1 (List.map enc p)))]⟩ (fun x S'=>QL a9k E 1 (Zk 1 OM G) PD 99 x S'))):Zv a9k E 1 (Zk 1 OM G) (.inl PD) [.seq (.ext 99 [0,1,2,4,5])] ⟨ZF 52 0 [(0,.yld l),(1,(.pv (.rptr [enc b.v,.int .i64 b.m]))),(2,(.pv (.rptr [enc fs]))),(4,.row 0 n 0 n)],[.obj (.row false 3 1 (p.map enc))]⟩:=Zv.mo (.lit (.req (.keep (.nil)))) h (by kernel_rfl)
def Qj:IC:=(.seq (.reg [⟨(some 25),(.mv (.t 4)),0,none⟩,⟨(some 26),(.len 1 (.t 25)),0,none⟩,⟨(some 27),(.bin .num .sub (.t 26) (.c (.int .i64 1))),0,none⟩,⟨(some 6),(.mv (.t 27)),0,none⟩] none) (.seq (.block 2 (.loop [6,4,1,2,0] (.seq (.seq (.reg [⟨(some 28),(.mv (.t 6)),0,none⟩,⟨(some 29),(.bin .num .geq (.t 28) (.c (.int .i64 0))),0,none⟩,⟨(some 30),(.mv (.t 29)),0,none⟩,⟨(some 31),(.mv (.t 4)),0,(some (30,true))⟩,⟨(some 32),(.mv (.t 6)),0,(some (30,true))⟩,⟨(some 33),(.iaddr 1 (.t 31) (.t 32)),0,(some (30,true))⟩,⟨(some 34),(.load false [(.int .i64)] (.t 33)),0,(some (30,true))⟩,⟨(some 35),(.faddr 1 (.t 1)),0,(some (30,true))⟩,⟨(some 36),(.load false [(.int .i64)] (.t 35)),0,(some (30,true))⟩,⟨(some 37),(.bin .num .eql (.t 34) (.t 36)),0,(some (30,true))⟩,⟨(some 38),(.pick (.t 30) (.t 37) (.c (.bool false))),0,none⟩] (some [[],[0],[1,0],[2,1,0],[2,1,0],[3,4,2,1,0],[5,2,3,4,1,0],[2,1,0],[7,2,1,0],[6,8,2,5,3,4,1,0,7],[2,9,1,0,6,8,5,3,4,7]])) (.cond (.t 38) .skip (.exit 2))) (.block 3 (.seq (.reg [⟨(some 39),(.mv (.t 4)),0,none⟩,⟨(some 40),(.mv (.t 6)),0,none⟩,⟨(some 41),(.iaddr 1 (.t 39) (.t 40)),0,none⟩,⟨none,(.store 1 (.t 41) (.c (.int .i64 0))),0,none⟩] none) (.reg [⟨(some 42),(.mv (.t 6)),0,none⟩,⟨(some 43),(.bin .num .sub (.t 42) (.c (.int .i64 1))),0,none⟩,⟨(some 6),(.mv (.t 43)),0,none⟩] none)))))) (.seq (.seq (.reg [⟨(some 44),(.mv (.t 6)),0,none⟩,⟨(some 45),(.bin .num .lss (.t 44) (.c (.int .i64 0))),0,none⟩] none) (.cond (.t 45) .ret .skip)) (.reg [⟨(some 46),(.mv (.t 4)),0,none⟩,⟨(some 47),(.mv (.t 6)),0,none⟩,⟨(some 48),(.iaddr 1 (.t 46) (.t 47)),0,none⟩,⟨(some 49),(.load false [(.int .i64)] (.t 48)),0,none⟩,⟨(some 50),(.bin .num .add (.t 49) (.c (.int .i64 1))),0,none⟩,⟨(some 51),(.iaddr 1 (.t 46) (.t 47)),0,none⟩,⟨none,(.store 1 (.t 51) (.t 50)),0,none⟩] none))))
def Kt:List IRes:=[]
def DU:ZE:=Xg [(48,.own Kh KT)]
theorem b3a{G:AV×List AObj×List AObj->Prop}(E:Yl)(l:Nat)(b:BoxT)(fs:List Fact)(n:Nat)(p:List Int)(k:Int)(h:if (decide (k ≥ 0))=true then(decide (0<=k)&&decide (0+Int.toNat k<n)&&List.length (List.map enc p)==n)=true∧((List.length (List.map enc p)==n&&decide (0+Int.toNat k<List.length (List.map enc p)))=true∧((decide (0+List.length [Sh.int .i64]<=List.length (PV.cells (List.getD (List.map enc p) (0+Int.toNat k) default)))&&WA (PV.cells (List.getD (List.map enc p) (0+Int.toNat k) default)) 0 [Sh.int .i64])=true∧(if (PV.asInt (List.getD (PV.cells (List.getD (List.map enc p) (0+Int.toNat k) default)) 0 default)==PV.asInt (List.getD (List.drop 1 [enc b.v,PV.int .i64 b.m]) 0 default))=true then(decide (0<=k)&&decide (0+Int.toNat k<n)&&List.length (List.map enc p)==n)=true∧((List.length (List.map enc p)==n&&decide (0+Int.toNat k<List.length (List.map enc p))&&List.length (PV.cells (PV.int .i64 0))==1&&decide (0+1<=List.length (PV.cells (List.getD (List.map enc p) (0+Int.toNat k) default)))&&PV.cellsOk (PV.int .i64 0))=true∧(AtS [.seq (.ext 99 [0,1,2,4])] DU E 1 (Zk 1 Kt G) Qj 0 52 [(0,(.yld l)),(1,(.pv (.rptr [(.sl 1 false (List.map enc b.v)),(.int .i64 b.m)]))),(2,(.pv (.rptr [(.sl 3 false (List.map enc fs))]))),(4,(.row 0 n 0 n)),(6,(.pv (.int .i64 (IntKind.wrap IntKind.i64 (k - 1)))))] [(.obj (.row false 3 1 (List.set (List.map enc p) (0+Int.toNat k) (PV.withCells (List.getD (List.map enc p) (0+Int.toNat k) default) (splice (PV.cells (List.getD (List.map enc p) (0+Int.toNat k) default)) 0 (PV.cells (PV.int .i64 0)))))))]))else(if (decide (k<0))=true then G (((.tup []),([(.row false 3 1 (List.map enc p))],[])))else((decide (0<=k)&&decide (0+Int.toNat k<n)&&List.length (List.map enc p)==n)=true∧((List.length (List.map enc p)==n&&decide (0+Int.toNat k<List.length (List.map enc p)))=true∧((decide (0+List.length [Sh.int .i64]<=List.length (PV.cells (List.getD (List.map enc p) (0+Int.toNat k) default)))&&WA (PV.cells (List.getD (List.map enc p) (0+Int.toNat k) default)) 0 [Sh.int .i64])=true∧((decide (0<=k)&&decide (0+Int.toNat k<n)&&List.length (List.map enc p)==n)=true∧((List.length (List.map enc p)==n&&decide (0+Int.toNat k<List.length (List.map enc p))&&List.length (PV.cells (PV.int .i64 (IntKind.wrap IntKind.i64 (PV.asInt (List.getD (PV.cells (List.getD (List.map enc p) (0+Int.toNat k) default)) 0 default)+1))))==1&&decide (0+1<=List.length (PV.cells (List.getD (List.map enc p) (0+Int.toNat k) default)))&&PV.cellsOk (PV.int .i64 (IntKind.wrap IntKind.i64 (PV.asInt (List.getD (PV.cells (List.getD (List.map enc p) (0+Int.toNat k) default)) 0 default)+1))))=true∧(E 99 ⟨ZF 52 0 [(0,(.yld l)),(1,(.pv (.rptr [(.sl 1 false (List.map enc b.v)),(.int .i64 b.m)]))),(2,(.pv (.rptr [(.sl 3 false (List.map enc fs))]))),(4,(.row 0 n 0 n))],[(.obj (.row false 3 1 (List.set (List.map enc p) (0+Int.toNat k) (PV.withCells (List.getD (List.map enc p) (0+Int.toNat k) default) (splice (PV.cells (List.getD (List.map enc p) (0+Int.toNat k) default)) 0 (PV.cells (PV.int .i64 (IntKind.wrap IntKind.i64 (PV.asInt (List.getD (PV.cells (List.getD (List.map enc p) (0+Int.toNat k) default)) 0 default)+1)))))))))]⟩ (fun x S'=>QL DU E 1 (Zk 1 Kt G) Qj 99 x S')))))))))))else(if (decide (k<0))=true then G (((.tup []),([(.row false 3 1 (List.map enc p))],[])))else((decide (0<=k)&&decide (0+Int.toNat k<n)&&List.length (List.map enc p)==n)=true∧((List.length (List.map enc p)==n&&decide (0+Int.toNat k<List.length (List.map enc p)))=true∧((decide (0+List.length [Sh.int .i64]<=List.length (PV.cells (List.getD (List.map enc p) (0+Int.toNat k) default)))&&WA (PV.cells (List.getD (List.map enc p) (0+Int.toNat k) default)) 0 [Sh.int .i64])=true∧((decide (0<=k)&&decide (0+Int.toNat k<n)&&List.length (List.map enc p)==n)=true∧((List.length (List.map enc p)==n&&decide (0+Int.toNat k<List.length (List.map enc p))&&List.length (PV.cells (PV.int .i64 (IntKind.wrap IntKind.i64 (PV.asInt (List.getD (PV.cells (List.getD (List.map enc p) (0+Int.toNat k) default)) 0 default)+1))))==1&&decide (0+1<=List.length (PV.cells (List.getD (List.map enc p) (0+Int.toNat k) default)))&&PV.cellsOk (PV.int .i64 (IntKind.wrap IntKind.i64 (PV.asInt (List.getD (PV.cells (List.getD (List.map enc p) (0+Int.toNat k) default)) 0 default)+1))))=true∧(E 99 ⟨ZF 52 0 [(0,(.yld l)),(1,(.pv (.rptr [(.sl 1 false (List.map enc b.v)),(.int .i64 b.m)]))),(2,(.pv (.rptr [(.sl 3 false (List.map enc fs))]))),(4,(.row 0 n 0 n))],[(.obj (.row false 3 1 (List.set (List.map enc p) (0+Int.toNat k) (PV.withCells (List.getD (List.map enc p) (0+Int.toNat k) default) (splice (PV.cells (List.getD (List.map enc p) (0+Int.toNat k) default)) 0 (PV.cells (PV.int .i64 (IntKind.wrap IntKind.i64 (PV.asInt (List.getD (PV.cells (List.getD (List.map enc p) (0+Int.toNat k) default)) 0 default)+1)))))))))]⟩ (fun x S'=>QL DU E 1 (Zk 1 Kt G) Qj 99 x S'))))))))):AtS [.seq (.ext 99 [0,1,2,4])] DU E 1 (Zk 1 Kt G) Qj 0 52 [(0,.yld l),(1,(.pv (.rptr [enc b.v,.int .i64 b.m]))),(2,(.pv (.rptr [enc fs]))),(4,.row 0 n 0 n),(6,.pv (.int .i64 k))] [.obj (.row false 3 1 (p.map enc))]:=Zv.mo (.lit (.ask (.lit (.lit (.req (.keep (.lit (.req (.req (.lit (.lit (.lit (.lit (.lit (.lit (.ask (.req (.keep (.req (.lit (.nil))))) (.lit (.ask (.nil) (.req (.keep (.req (.req (.lit (.req (.keep (.req (.nil))))))))))))))))))))))))) (.lit (.lit (.lit (.lit (.lit (.lit (.lit (.lit (.lit (.ask (.nil) (.req (.keep (.req (.req (.lit (.req (.keep (.req (.nil))))))))))))))))))))) h (by kernel_rfl)
theorem c6f{G:AV×List AObj×List AObj->Prop}(E:Yl)(l:Nat)(b:BoxT)(fs:List Fact)(n:Nat)(p:List Int)(h:AtS [.seq (.ext 99 [0,1,2,4])] DU E 1 (Zk 1 Kt G) Qj 0 52 [(0,(.yld l)),(1,(.pv (.rptr [(.sl 1 false (List.map enc b.v)),(.int .i64 b.m)]))),(2,(.pv (.rptr [(.sl 3 false (List.map enc fs))]))),(4,(.row 0 n 0 n)),(6,(.pv (.int .i64 (IntKind.wrap IntKind.i64 ((↑(n - 0):Int) - 1)))))] [(.obj (.row false 3 1 (List.map enc p)))]):Zv DU E 1 (Zk 1 Kt G) (.inl Qj) [.seq (.ext 99 [0,1,2,4])] ⟨ZF 52 0 [(0,.yld l),(1,(.pv (.rptr [enc b.v,.int .i64 b.m]))),(2,(.pv (.rptr [enc fs]))),(4,.row 0 n 0 n)],[.obj (.row false 3 1 (p.map enc))]⟩:=Zv.mo (.lit (.nil)) h (by kernel_rfl)
def Wm:IC:=(.seq (.reg [⟨(some 2),(.box 2 (.t 0)),0,none⟩,⟨(some 4),(.mv (.c (.sl 0 true []))),1,none⟩] none) (.seq (.reg [⟨(some 5),(.mv (.c (.sl 0 true []))),0,none⟩] none) (.seq (.seq (.reg [⟨(some 7),(.mv (.t 1)),0,none⟩,⟨(some 8),(.len 1 (.t 7)),0,none⟩,⟨(some 9),(.faddr 0 (.t 2)),0,none⟩,⟨(some 10),(.load false [(.sl 1)] (.t 9)),0,none⟩,⟨(some 11),(.len 1 (.t 10)),0,none⟩,⟨(some 12),(.mm false (.t 8) (.t 11)),0,none⟩,⟨(some 13),(.mv (.c (.int .i64 0))),0,none⟩] none) (.block 0 (.loop [13,12,5,2,1] (.seq (.reg [⟨(some 14),(.bin .num .lss (.t 13) (.t 12)),0,none⟩] none) (.seq (.cond (.t 14) .skip (.exit 0)) (.seq (.block 1 (.seq (.reg [⟨(some 15),(.mv (.t 13)),0,none⟩,⟨(some 6),(.mv (.t 15)),0,none⟩] none) (.reg [⟨(some 16),(.mv (.t 5)),0,none⟩,⟨(some 17),(.faddr 0 (.t 2)),0,none⟩,⟨(some 18),(.load false [(.sl 1)] (.t 17)),0,none⟩,⟨(some 19),(.mv (.t 6)),0,none⟩,⟨(some 20),(.iaddr 1 (.t 18) (.t 19)),0,none⟩,⟨(some 21),(.load false [.str] (.t 20)),0,none⟩,⟨(some 22),(.mv (.t 1)),0,none⟩,⟨(some 23),(.mv (.t 6)),0,none⟩,⟨(some 24),(.iaddr 1 (.t 22) (.t 23)),0,none⟩,⟨(some 25),(.load false [(.int .i64)] (.t 24)),0,none⟩,⟨(some 26),(.build [(.str []),(.int .i64 0)] [(0,(1,(.t 21))),(1,(1,(.t 25)))]),0,none⟩,⟨(some 27),(.bslice 63 2 1 (.agg [(.str []),(.int .i64 0)]) [(0,(.t 26))]),0,none⟩,⟨(some 28),(.append 63 2 24 (.t 16) (.t 27)),1,none⟩,⟨(some 5),(.mv (.t 28)),2,none⟩] (some [[],[],[1],[],[2,3,1],[4,2,3,1],[],[],[6,7],[8,6,7],[5,9,4,2,3,1,8,6,7],[10,5,9,4,2,3,1,8,6,7],[0,11,10,5,9,4,2,3,1,8,6,7],[12,0,1,2,3,4,5,6,7,8,9,10,11]])))) (.reg [⟨(some 29),(.bin .num .add (.t 13) (.c (.int .i64 1))),0,none⟩,⟨(some 13),(.mv (.t 29)),0,none⟩] none))))))) (.seq (.reg [⟨(some 30),(.mv (.t 5)),0,none⟩,⟨(some 4),(.mv (.t 30)),0,none⟩] none) .ret))))
def Wp:List IRes:=[(.tmp 4)]
abbrev a3s:Nat:=31
def Vi:ZE:=Xg []
theorem a7m{G:AV×List AObj×List AObj->Prop}(b:BoxT)(m:Nat)(p:List Int)(h:At Vi 1 (Qf 1 Wp G) Wm 0 31 [(1,(.row 0 m 0 m)),(2,(.ptr 1 0)),(5,(.pv (.sl 0 true []))),(12,(.pv (.int .i64 (if false=true then if (↑(List.length (List.map enc b.v)):Int)>(↑(m - 0):Int)then(↑(List.length (List.map enc b.v)):Int)else(↑(m - 0):Int)else if (↑(List.length (List.map enc b.v)):Int)<(↑(m - 0):Int)then(↑(List.length (List.map enc b.v)):Int)else(↑(m - 0):Int))))),(13,(.pv (.int .i64 0)))] [(.obj (.row false 3 1 (List.map enc p))),(.obj (.box [(.pv (.sl 1 false (List.map enc b.v))),(.pv (.int .i64 b.m))]))]):Zc Vi 1 (Qf 1 Wp G) Wm [] (YD 31 [.pv (enc b),.row 0 m 0 m] [.row false 3 1 (p.map enc)]):=Zc.tf (.nil) h (by kernel_rfl)
theorem BH{G:AV×List AObj×List AObj->Prop}(b:BoxT)(m:Nat)(p:List Int)(n i:Int)(h:if (decide (i<n))=true then(decide (0<=i)&&decide (Int.toNat i<List.length (List.map enc b.v))&&Enc.sz Str==1)=true∧(∃ y0:Str,AV.pv (PV.rptr (PV.cells (List.getD (List.map enc b.v) (Int.toNat i) default)))=AV.pv (PV.rptr (PV.cells ((enc) y0)))∧((decide (0<=i)&&decide (0+Int.toNat i<m)&&List.length (List.map enc p)==m)=true∧((List.length (List.map enc p)==m&&decide (0+Int.toNat i<List.length (List.map enc p)))=true∧((decide (0+List.length [Sh.int .i64]<=List.length (PV.cells (List.getD (List.map enc p) (0+Int.toNat i) default)))&&WA (PV.cells (List.getD (List.map enc p) (0+Int.toNat i) default)) 0 [Sh.int .i64])=true∧(At Vi 1 (Qf 1 Wp G) Wm 0 31 [(1,(.row 0 m 0 m)),(2,(.ptr 1 0)),(5,(.row 2 1 0 1)),(12,(.pv (.int .i64 n))),(13,(.pv (.int .i64 (IntKind.wrap IntKind.i64 (i+1)))))] [(.obj (.row false 3 1 (List.map enc p))),(.obj (.box [(.pv (.sl 1 false (List.map enc b.v))),(.pv (.int .i64 b.m))])),(.obj (.row false 63 2 [(.agg [(.str (PV.asStr (List.getD (PV.cells (enc y0)) 0 default))),(.int .i64 (PV.asInt (List.getD (PV.cells (List.getD (List.map enc p) (0+Int.toNat i) default)) 0 default)))])]))])))))else(G (((.pv (.sl 0 true [])),([(.row false 3 1 (List.map enc p))],[]))))):At Vi 1 (Qf 1 Wp G) Wm 0 31 [(1,.row 0 m 0 m),(2,.ptr 1 0),(5,.pv (.sl 0 true [])),(12,.pv (.int .i64 n)),(13,.pv (.int .i64 i))] [.obj (.row false 3 1 (p.map enc)),.obj (.box [.pv (enc b.v),.pv (.int .i64 b.m)])]:=At.tf (.lit (.ask (.req (.abs (Str) (fun YY=>AV.pv (PV.rptr (PV.cells ((enc) YY)))) (.lit (.req (.keep (.req (.req (.lit (.lit (.lit (.lit (.lit (.lit (.nil)))))))))))))) (.nil))) h (by kernel_rfl)
theorem Av{G:AV×List AObj×List AObj->Prop}(b:BoxT)(m:Nat)(p:List Int)(n i:Int)(q:Nat)(vs:List Coef)(h:if (decide (i<n))=true then(decide (0<=i)&&decide (Int.toNat i<List.length (List.map enc b.v))&&Enc.sz Str==1)=true∧(∃ y0:Str,AV.pv (PV.rptr (PV.cells (List.getD (List.map enc b.v) (Int.toNat i) default)))=AV.pv (PV.rptr (PV.cells ((enc) y0)))∧((decide (0<=i)&&decide (0+Int.toNat i<m)&&List.length (List.map enc p)==m)=true∧((List.length (List.map enc p)==m&&decide (0+Int.toNat i<List.length (List.map enc p)))=true∧((decide (0+List.length [Sh.int .i64]<=List.length (PV.cells (List.getD (List.map enc p) (0+Int.toNat i) default)))&&WA (PV.cells (List.getD (List.map enc p) (0+Int.toNat i) default)) 0 [Sh.int .i64])=true∧((List.length (List.map enc vs)==q&&q==q&&decide ((q+List.length (List.drop 0 (List.take 1 [PV.agg [Sh.co Sh.str (List.getD (PV.cells (enc y0)) 0 default),Sh.co (Sh.int .i64) (List.getD (PV.cells (List.getD (List.map enc p) (0+Int.toNat i) default)) 0 default)]])))*24<=1099511627776)&&decide (q+List.length (List.drop 0 (List.take 1 [PV.agg [Sh.co Sh.str (List.getD (PV.cells (enc y0)) 0 default),Sh.co (Sh.int .i64) (List.getD (PV.cells (List.getD (List.map enc p) (0+Int.toNat i) default)) 0 default)]]))<=1099511627776))=true∧(At Vi 1 (Qf 1 Wp G) Wm 0 31 [(1,(.row 0 m 0 m)),(2,(.ptr 1 0)),(5,(.row 2 (q+List.length (List.drop 0 (List.take 1 [PV.agg [Sh.co Sh.str (List.getD (PV.cells (enc y0)) 0 default),Sh.co (Sh.int .i64) (List.getD (PV.cells (List.getD (List.map enc p) (0+Int.toNat i) default)) 0 default)]]))) 0 (q+List.length (List.drop 0 (List.take 1 [PV.agg [Sh.co Sh.str (List.getD (PV.cells (enc y0)) 0 default),Sh.co (Sh.int .i64) (List.getD (PV.cells (List.getD (List.map enc p) (0+Int.toNat i) default)) 0 default)]]))))),(12,(.pv (.int .i64 n))),(13,(.pv (.int .i64 (IntKind.wrap IntKind.i64 (i+1)))))] [(.obj (.row false 3 1 (List.map enc p))),(.obj (.box [(.pv (.sl 1 false (List.map enc b.v))),(.pv (.int .i64 b.m))])),(.obj (.row false 63 2 (List.map enc vs++List.drop 0 (List.take 1 [PV.agg [Sh.co Sh.str (List.getD (PV.cells (enc y0)) 0 default),Sh.co (Sh.int .i64) (List.getD (PV.cells (List.getD (List.map enc p) (0+Int.toNat i) default)) 0 default)]]))))]))))))else((List.length (List.map enc vs)==q)=true∧(G (((.pv (.sl 2 false (List.drop 0 (List.take q (List.map enc vs))))),([(.row false 3 1 (List.map enc p))],[])))))):At Vi 1 (Qf 1 Wp G) Wm 0 31 [(1,.row 0 m 0 m),(2,.ptr 1 0),(5,.row 2 q 0 q),(12,.pv (.int .i64 n)),(13,.pv (.int .i64 i))] [.obj (.row false 3 1 (p.map enc)),.obj (.box [.pv (enc b.v),.pv (.int .i64 b.m)]),.obj (.row false 63 2 (vs.map enc))]:=At.tf (.lit (.ask (.req (.abs (Str) (fun YY=>AV.pv (PV.rptr (PV.cells ((enc) YY)))) (.lit (.req (.keep (.req (.req (.lit (.lit (.req (.lit (.nil)))))))))))) (.req (.nil)))) h (by kernel_rfl)
end Go.Pl

namespace Go.Pl
open Go.RowKit
open Enc (enc dec is)
open EncL (encL decL isL)
theorem Ao{l:List Int}{i:Nat}(h:i<l.length):List.getD (List.map (enc:Int->PV) l) (0+Int.toNat (i:Int)) default=enc l[i]:=by simp[List.getD,h]
theorem N8(b:BoxT)(p:List Int)(hb:b.v.length<=1000)(hp:p.length<=1000): ∀ (k i:Nat),k+i=min b.v.length p.length->1<=i ->
  At Vi 1 (Qf 1 Wp fun r=> ∃ q q',r.1 = .pv q∧Sub q q'∧((.pv (.sl 2 false ((Zd b.v p).map enc)),[.row false 3 1 (p.map enc)],[]):AV×List AObj×List AObj)=(.pv q',r.2)) Wm 0 31 [(1,.row 0 p.length 0 p.length),(2,.ptr 1 0),(5,.row 2 i 0 i),(12,.pv (.int .i64 ((min b.v.length p.length:Nat):Int))),(13,.pv (.int .i64 i))] [.obj (.row false 3 1 (p.map enc)),.obj (.box [.pv (enc b.v),.pv (.int .i64 b.m)]),.obj (.row false 63 2 ((Zd (b.v.take i) (p.take i)).map enc))]:=by
 intro k
 induction k with
 | zero=>
  intro i hi h1
  have hl:=Hz b.v p (i:=i) (by omega) (by omega)
  refine Av b p.length p _ i i (Zd (b.v.take i) (p.take i)) (Z0 (Yd (by omega)) ⟨by simp[hl],?_⟩)
  rw[List.drop_zero,List.take_of_length_le (by rw[List.length_map,hl];exact Nat.le_refl _),Lx b.v p (by omega)]
  exact⟨_,_,rfl,Sub.refl _,rfl⟩
 | succ k ih=>
  intro i hi h1
  have hl:=Hz b.v p (i:=i) (by omega) (by omega)
  have hlt:i<b.v.length:=by omega
  have hlt2:i<p.length:=by omega
  have e:=Ao hlt2
  refine Av b p.length p _ i i (Zd (b.v.take i) (p.take i)) (ZV (Ya (by omega)) ⟨ZB hlt rfl,ZY hlt ⟨by simp;omega,by simp;omega,?_,?_,?_⟩⟩)
  ·rw[e];rfl
  ·rw[List.length_map,hl]
   show((i==i)&&(i==i)&&decide ((i+1)*24<=1099511627776)&&decide (i+1<=1099511627776))=true
   rw[decide_eq_true (by omega),decide_eq_true (by omega)];simp
  ·have:=ih (i+1) (by omega) (by omega)
   rw[Jc b.v p hlt hlt2,List.map_append,<- next (by omega)]at this
   rw[e]
   exact this
theorem Fa(l:List Int):a7s (l.map enc)=l:=Enc.dec_enc l
theorem FC: ∀ args os,Kh args os=true->Zc Vi os.length (Qf os.length Wp fun r=> ∃ p p',r.1 = .pv p∧Sub p p'∧KT args os=(.pv p',r.2)) Wm [] (YD a3s args os):=by
 intro args os h
 unfold Kh at h
 split at h
 ·rename_i v k n m ty xs
  simp only[Bool.and_eq_true,beq_iff_eq,decide_eq_true_eq]at h
  obtain⟨⟨⟨⟨⟨⟨rfl,h2⟩,rfl⟩,h4⟩,h5⟩,h6⟩,h7⟩:=h
  obtain⟨p,hp⟩:=Ym h4
  have hp:PV.sl 1 false xs=PV.sl 1 false (p.map enc):=hp
  injection hp with _ _ hx
  subst hx
  obtain⟨bv,rfl⟩:=Ym h5
  rw[Enc.dec_enc]at h6
  rw[List.length_map]at h2
  subst h2
  have ev:KT [.pv (.agg [enc bv,.int .i64 k]),.row 0 p.length 0 p.length] [.row false 3 1 (p.map enc)]=(.pv (.sl 2 false ((Zd bv p).map enc)),[.row false 3 1 (p.map enc)],[]):=by
   show(AV.pv (.sl 2 false ((Zd (dec (enc bv:PV)) (a7s (p.map enc))).map enc)),_,_)=_
   rw[Enc.dec_enc,Fa]
  rw[ev]
  refine a7m ⟨bv,k⟩ p.length p ?_
  simp only[List.length_map]
  rw[if_neg (by decide)]
  have em:(if ((bv.length:Nat):Int)<((p.length - 0:Nat):Int)then(bv.length:Int)else((p.length - 0:Nat):Int))=((min bv.length p.length:Nat):Int):=by
   split <;> omega
  rw[em]
  by_cases h0:min bv.length p.length=0
  ·rw[h0]
   refine BH ⟨bv,k⟩ p.length p 0 0 (Z0 (by decide) ?_)
   have:Zd bv p=[]:=by
    rw[<- List.length_eq_zero_iff];unfold Zd;rw[List.length_zipWith];exact h0
   rw[this]
   exact⟨_,_,rfl,Sub.sl0 0 2 true,rfl⟩
  ·have hlt:0<bv.length:=by omega
   have hlt2:0<p.length:=by omega
   have e:=Ao hlt2
   refine BH ⟨bv,k⟩ p.length p _ 0 (ZV (Ya (i:=0) (by omega)) ⟨ZB hlt rfl,ZY hlt ⟨by simp;omega,by simp;omega,?_,?_⟩⟩)
   ·have e:List.getD (List.map (enc:Int->PV) p) (0+Int.toNat 0) default=enc p[0]:=e
    rw[e];rfl
   ·have:=N8 ⟨bv,k⟩ p h6 h7 (min bv.length p.length - 1) 1 (by show min bv.length p.length - 1+1=min bv.length p.length;omega) (by omega)
    rw[show(1:Nat)=0+1 from rfl,Jc bv p hlt hlt2]at this
    have e:List.getD (List.map (enc:Int->PV) p) (0+Int.toNat 0) default=enc p[0]:=e
    rw[e]
    exact this
 ·cases h
def Jn(l:Nat)(b:BoxT)(fs:List Fact)(n:Nat):List AV:=ZF 52 0 [(0,.yld l),(1,.pv (.rptr [enc b.v,.int .i64 b.m])),(2,.pv (.rptr [enc fs])),(4,.row 0 n 0 n)]
def YF(p:List Int):Zu:=[.obj (.row false 3 1 (p.map enc))]
def b2z(l:Nat)(b:BoxT)(fs:List Fact)(n:Nat)(p:List Int):List AV:=ZF 52 0 [(0,.yld l),(1,.pv (.rptr [enc b.v,.int .i64 b.m])),(2,.pv (.rptr [enc fs])),(4,.row 0 n 0 n),(5,.pv (enc (Zd b.v p)))]
theorem c0u(l:Nat)(b:BoxT)(fs:List Fact)(hb:b.v.length<=1000):Zv a1i (fun n S' _=>n=99∧S'=⟨Jn l b fs b.v.length,YF (Uo b.v)⟩) 0 (Zk 0 Ob fun _=>False) (.inl RQ) [.seq (.ext 99 [0,1,2,4])] ⟨ZF 52 0 [(0,.yld l),(1,.pv (.rptr [enc b.v,.int .i64 b.m])),(2,.pv (.rptr [enc fs]))],[]⟩:=by
 have e:PV.asXs (List.getD (List.drop 0 [enc b.v,PV.int .i64 b.m]) 0 default)=b.v.map enc:=rfl
 have en:Int.toNat ((List.length (List.map (enc:Str->PV) b.v):Nat):Int)=b.v.length:=by simp
 have ez:List.replicate b.v.length (PV.int .i64 0)=(Uo b.v).map enc:=by
  unfold Uo
  rw[List.map_map]
  exact(List.map_const' ..).symm
 refine c6j (G:=fun _=>False) _ l b fs ⟨?_,rfl,?_⟩
 ·simp only[e,List.length_map]
  simp
  omega
 ·simp only[e,en,ez]
  rfl
theorem c0h(l:Nat)(b:BoxT)(fs:List Fact)(p:List Int)(hb:b.v.length<=1000)(hp:p.length<=1000):Zv a9k (fun n S' _=>n=99∧S'=⟨b2z l b fs p.length p,YF p⟩) 1 (Zk 1 OM fun _=>False) (.inl PD) [.seq (.ext 99 [0,1,2,4,5])] ⟨Jn l b fs p.length,YF p⟩:=by
 refine c5n (G:=fun _=>False) _ l b fs p.length p ⟨?_,rfl,?_⟩
 ·show(p.length==p.length&&(p.map enc).length==p.length&&3==3&&XX (List Int) (enc p)&&XX (List Str) (enc b.v)&&decide ((dec (enc b.v:PV):List Str).length<=1000)&&decide (p.length<=1000))=true
  rw[ZI,ZI,Enc.dec_enc,decide_eq_true hb,decide_eq_true hp];simp
 ·have e1:Zd (dec (Sh.co (Sh.sl 1) (List.getD [enc b.v,PV.int .i64 b.m] 0 default))) (a7s (p.map enc))=Zd b.v p:=by
   rw[Fa]
   show Zd (dec (enc b.v:PV)) p=_
   rw[Enc.dec_enc]
  rw[e1]
  rfl
theorem b0p(l:Nat)(b:BoxT)(fs:List Fact): ∀ (k:Nat) (p:List Int),k<=p.length->p.length<=1000->(∀ x∈p,-1<=x∧x<=20000) ->
  AtS [.seq (.ext 99 [0,1,2,4])] DU (fun n S' _=>n=99∧ ∃ q,Wv b.m k p=some q∧S'=⟨Jn l b fs p.length,YF q⟩) 1 (Zk 1 Kt fun _=>Wv b.m k p=none) Qj 0 52 [(0,.yld l),(1,.pv (.rptr [enc b.v,.int .i64 b.m])),(2,.pv (.rptr [enc fs])),(4,.row 0 p.length 0 p.length),(6,.pv (.int .i64 ((k:Int) - 1)))] (YF p):=by
 intro k
 induction k with
 | zero=>
  intro p hk hp hx
  exact b3a (G:=fun _=>Wv b.m 0 p=none) _ l b fs p.length p _ (Z0 (by simp) (ZV (by simp) rfl))
 | succ k ih=>
  intro p hk hp hx
  have hlt:k<p.length:=by omega
  have ek:((k+1:Nat):Int) - 1=(k:Int):=by omega
  rw[ek]
  have e:=Ao hlt
  have eg:p.getD k 0=p[k]:=by simp[List.getD,hlt]
  have hxk:=hx _ (List.getElem_mem hlt)
  have em:PV.asInt (List.getD (List.drop 1 [enc b.v,PV.int .i64 b.m]) 0 default)=b.m:=rfl
  have q1:(decide (0<=(k:Int))&&decide (0+Int.toNat (k:Int)<p.length)&&List.length (List.map (enc:Int->PV) p)==p.length)=true:=by simp;omega
  have q2:(List.length (List.map (enc:Int->PV) p)==p.length&&decide (0+Int.toNat (k:Int)<List.length (List.map (enc:Int->PV) p)))=true:=by simp;omega
  have hset : ∀ y:Int,List.set (List.map (enc:Int->PV) p) (0+Int.toNat (k:Int)) (enc y)=(p.set k y).map enc:=fun y=>by rw[Nat.zero_add,Int.toNat_natCast,List.map_set]
  refine b3a (G:=fun _=>Wv b.m (k+1) p=none) _ l b fs p.length p k (ZV (by simp) ?_)
  rw[e]
  refine⟨q1,q2,rfl,JZ (fun h=>⟨q1,?_,?_⟩) fun h=>Z0 (by simp) ⟨q1,q2,rfl,q1,?_,?_⟩⟩
  ·rw[q2];rfl
  ·have h:p[k]=b.m:=h
   have hn:Wv b.m (k+1) p=Wv b.m k (p.set k 0):=by rw[Wv,eg,if_pos h]
   rw[hn]
   have hw:IntKind.i64.wrap ((k:Int) - 1)=(k:Int) - 1:=Wx (by omega) (by omega)
   rw[hw]
   have:=ih (p.set k 0) (by rw[List.length_set];omega) (by rw[List.length_set];exact hp) (fun x hx'=>by
    rcases List.mem_or_eq_of_mem_set hx' with h|rfl
    ·exact hx x h
    ·omega)
   rw[List.length_set]at this
   have e0:=hset 0
   unfold YF at this
   rw[<- e0]at this
   exact this
  ·rw[q2];rfl
  ·have h : ¬ p[k]=b.m:=h
   have hn:Wv b.m (k+1) p=some (p.set k (p[k]+1)):=by rw[Wv,eg,if_neg h]
   have hw:IntKind.i64.wrap (p[k]+1)=p[k]+1:=Wx (by omega) (by omega)
   refine⟨rfl,_,hn,?_⟩
   have e0:=hset (IntKind.i64.wrap (p[k]+1))
   show(⟨Jn l b fs p.length,[.obj (.row false 3 1 (List.set (List.map (enc:Int->PV) p) (0+Int.toNat (k:Int)) (enc (IntKind.i64.wrap (p[k]+1)))))]⟩:St)=_
   rw[e0,hw]
   rfl
theorem b8i(l:Nat)(b:BoxT)(fs:List Fact)(p:List Int)(hp:p.length<=1000)(hx : ∀ x∈p,-1<=x∧x<=20000):Zv DU (fun n S' _=>n=99∧ ∃ q,DK b.m p=some q∧S'=⟨Jn l b fs p.length,YF q⟩) 1 (Zk 1 Kt fun _=>DK b.m p=none) (.inl Qj) [.seq (.ext 99 [0,1,2,4])] ⟨Jn l b fs p.length,YF p⟩:=by
 refine c6f (G:=fun _=>DK b.m p=none) _ l b fs p.length p ?_
 have hw:IntKind.i64.wrap (((p.length - 0:Nat):Int) - 1)=((p.length:Nat):Int) - 1:=by rw[Nat.sub_zero];exact Wx (by omega) (by omega)
 rw[hw]
 exact b0p l b fs p.length p (Nat.le_refl _) hp hx
end Go.Pl

namespace Go.Pl
open Go.RowKit
open Enc (enc dec is)
open EncL (encL decL isL)
end Go.Pl

namespace Go.Pl
open Go.RowKit
open Enc (enc dec is)
open EncL (encL decL isL)
set_option maxRecDepth 100000
end Go.Pl

namespace Go.Pl
open Go.RowKit
open Enc (enc dec is)
open EncL (encL decL isL)
set_option maxRecDepth 100000
end Go.Pl

namespace Go.Pl
open Go.RowKit
open Enc (enc dec is)
open EncL (encL decL isL)
structure Cert2 where
 a:Cert
 b:Cert
instance:Enc Cert2 where
 sz:=10
 enc x:=.agg (PV.cells (enc x.a)++PV.cells (enc x.b))
 dec | .agg [a,b,c,d,e,f,g,h,i,j]=>⟨dec (.agg [a,b,c,d,e]),dec (.agg [f,g,h,i,j])⟩|_=>⟨.mk 0 [] ⟨0,[]⟩ [],.mk 0 [] ⟨0,[]⟩ []⟩
 is | .agg [a,b,c,d,e,f,g,h,i,j]=>is Cert (.agg [a,b,c,d,e])&&is Cert (.agg [f,g,h,i,j])|_=>false
 is_enc v:=by
  obtain⟨⟨k,m,l,ks⟩,⟨k',m',l',ks'⟩⟩:=v
  rw[V9,V9]
  show(is Cert (.agg [enc k,enc m,enc l.k,enc l.t,enc ks])&&is Cert (.agg [enc k',enc m',enc l'.k,enc l'.t,enc ks']))=true
  rw[<- V9,<- V9,Enc.is_enc,Enc.is_enc];rfl
 dec_enc v:=by
  obtain⟨⟨k,m,l,ks⟩,⟨k',m',l',ks'⟩⟩:=v
  rw[V9,V9]
  show(⟨dec (.agg [enc k,enc m,enc l.k,enc l.t,enc ks]),dec (.agg [enc k',enc m',enc l'.k,enc l'.t,enc ks'])⟩:Cert2)=_
  rw[<- V9,<- V9,Enc.dec_enc,Enc.dec_enc]
 sub p h:=by
  cases p with
  | agg xs=>
   match xs,h with
   | [a,b,c,d,e,f,g,h',i,j],h=>
    simp only[Bool.and_eq_true]at h
    have h1:=Enc.sub (α:=Cert) _ h.1
    have h2:=Enc.sub (α:=Cert) _ h.2
    exact Ql.agg (h1.1.append h2.1)
  | _=>cases h
theorem c5t{l:Lin}{n:Int}(h:KG l n=true)(hl:YC l=true):ZP l=true:=by
 simp only[KG,Bool.and_eq_true,List.all_eq_true,decide_eq_true_eq]at h
 simp only[ZP,hl,Bool.true_and,List.all_eq_true,decide_eq_true_eq]
 intro t ht
 have:=h.1 t ht
 omega
mutual
theorem c1o: ∀ (c:Cert) (n:Int),n<=12->Ey c n=true->cOk c=true->1<=n∧(c5i c:Int)<=n∧1<=CP c∧CP c<=n∧cSm c=true
 | .mk k m l ks,n,hn,h,ho=>by
  simp only[Ey,Bool.and_eq_true,Bool.not_eq_true',decide_eq_false_iff_not]at h
  obtain⟨h1,h2,h3,h4,h5⟩:=h
  simp only[cOk,Bool.and_eq_true,decide_eq_true_eq]at ho
  obtain⟨⟨⟨o1,o2⟩,o3⟩,o4⟩:=ho
  obtain⟨a1,a2,a3,a4⟩:=NI ks n 1 (by omega) hn (by omega) (by omega) h5 o4
  rw[c5i,CP]
  refine⟨by omega,by omega,by omega,by omega,?_⟩
  simp only[cSm,c5t h2 o2,a4,decide_eq_true o1,decide_eq_true o3]
  rfl
theorem NI: ∀ (cs:List Cert) (n s:Int),1<=n->n<=12->1<=s->s<=100 - n->Cw cs n=true->a5f cs=true->(LU cs:Int)<=n - 1∧s<=GN s cs∧GN s cs<=s+n - 1∧a4k cs=true
 | [],n,s,h1,h2,h3,h4,_,_=>by
  rw[LU,GN]
  exact⟨by omega,by omega,by omega,rfl⟩
 | c::cs,n,s,h1,h2,h3,h4,h,ho=>by
  simp only[Cw,Bool.and_eq_true]at h
  simp only[a5f,Bool.and_eq_true]at ho
  rw[Wx (by omega) (by omega)]at h
  obtain⟨b1,b2,b3,b4,b5⟩:=c1o c (n - 1) (by omega) h.1 ho.1
  have h':=h.2
  rw[Wx (by omega) (by omega)]at h'
  obtain⟨a1,a2,a3,a4⟩:=NI cs (n - CP c) (s+CP c) (by omega) (by omega) (by omega) (by omega) h' ho.2
  rw[LU,GN,Wx (by omega) (by omega)]
  refine⟨by omega,by omega,by omega,?_⟩
  simp only[a4k,b5,a4]
  rfl
end
end Go.Pl

namespace Go.Pl
open Go.RowKit
open Enc (enc dec is)
open EncL (encL decL isL)
set_option maxRecDepth 100000
end Go.Pl

namespace Go.Pl
open Go.RowKit
open Enc (enc dec is)
open EncL (encL decL isL)
end Go.Pl

namespace Go.Pl
open Go.RowKit
open Enc (enc dec is)
open EncL (encL decL isL)
end Go.Pl

namespace Go.Pl
open Go.RowKit
open Enc (enc dec is)
open EncL (encL decL isL)
end Go.Pl

namespace Go.Pl
open Go.RowKit
def Yo(ts:List Coef)(s:List UInt8):Int:=((ts.find? fun t=>t.v.s==s).map (·.c)).getD 0
def Qq(ts:List Coef):Prop:=ts.Pairwise fun a b=>a.v.s<b.v.s
def nzP(ts:List Coef):Prop:= ∀ t∈ts,t.c≠0
theorem UF(s:List UInt8):Yo [] s=0:=rfl
theorem ZN(t:Coef)(ts:List Coef)(s:List UInt8):Yo (t::ts) s=if t.v.s=s then t.c else Yo ts s:=by
 simp only[Yo,List.find?_cons]
 by_cases h:t.v.s=s
 ·simp[h]
 ·have:(t.v.s==s)=false:=by simpa using h
  simp[this,h]
theorem V8{s:List UInt8}: ∀ {ts:List Coef},(∀ t∈ts,s<t.v.s)->Yo ts s=0
 | [],_=>rfl
 | t::ts,h=>by
  have h1:=h t (by simp)
  rw[ZN,if_neg (fun e=>by rw[e]at h1;exact List.lt_irrefl _ h1)]
  exact V8 fun u hu=>h u (by simp[hu])
theorem Xz{t:Coef}{ts:List Coef}:Qq (t::ts) ↔ (∀ u∈ts,t.v.s<u.v.s)∧Qq ts:=List.pairwise_cons
theorem Rc: ∀ {a b:List Coef},Qq a->nzP a->Qq b->nzP b->(∀ s,Yo a s=Yo b s)->a=b
 | [],[],_,_,_,_,_=>rfl
 | [],y::ys,_,_,_,hn,h=>by
  have:=h y.v.s
  rw[UF,ZN,if_pos rfl]at this
  exact absurd this.symm (hn y (by simp))
 | x::xs,[],_,hn,_,_,h=>by
  have:=h x.v.s
  rw[UF,ZN,if_pos rfl]at this
  exact absurd this (hn x (by simp))
 | x::xs,y::ys,ha,hna,hb,hnb,h=>by
  obtain⟨ha1,ha2⟩:=Xz.1 ha
  obtain⟨hb1,hb2⟩:=Xz.1 hb
  have hxy:x.v.s=y.v.s:=by
   by_cases h1:x.v.s<y.v.s
   ·have e:=h x.v.s
    rw[ZN,if_pos rfl,V8 (ts:=y::ys) (fun t ht=>by
     rcases List.mem_cons.1 ht with rfl|ht
     ·exact h1
     ·exact List.lt_trans h1 (hb1 t ht))]at e
    exact absurd e (hna x (by simp))
   ·by_cases h2:x.v.s=y.v.s
    ·exact h2
    ·have h3:=tri h1 h2
     have e:=h y.v.s
     rw[ZN (t:=y),if_pos rfl,V8 (ts:=x::xs) (fun t ht=>by
      rcases List.mem_cons.1 ht with rfl|ht
      ·exact h3
      ·exact List.lt_trans h3 (ha1 t ht))]at e
     exact absurd e.symm (hnb y (by simp))
  have hc:x.c=y.c:=by
   have e:=h x.v.s
   rwa [ZN,if_pos rfl,ZN,if_pos hxy.symm]at e
  have hxe:x=y:=by
   have hv:x.v=y.v:=K5.2 hxy
   cases x;cases y;simp only at hv hc;rw[hv,hc]
  have ht:xs=ys:=Rc ha2 (fun t ht=>hna t (by simp[ht])) hb2 (fun t ht=>hnb t (by simp[ht])) fun s=>by
   by_cases hs:x.v.s=s
   ·rw[V8 (ts:=xs) (fun t ht=>hs▸ha1 t ht),V8 (ts:=ys) (fun t ht=>hs▸hxy▸hb1 t ht)]
   ·have e:=h s
    rwa [ZN,if_neg hs,ZN,if_neg (fun e=>hs (hxy.trans e))]at e
  rw[hxe,ht]
theorem UW(s:Str)(c:Int): ∀ {ts:List Coef},(∀ t∈ts,s.s<t.v.s)->Xu s c true ts=ts
 | [],_=>by simp[Xu]
 | t::ts,h=>by
  have h1:=h t (by simp)
  rw[a1x,if_neg (fun e=>by rw[e]at h1;exact List.lt_irrefl _ h1),UW s c fun u hu=>h u (by simp[hu])]
theorem a0j(s:Str)(c:Int): ∀ {ts:List Coef},Qq ts-> ∀ u∈Xu s c false ts,u.v.s=s.s ∨ ∃ t∈ts,t.v.s=u.v.s
 | [],_,u,hu=>by
  simp only[Xu,Bool.false_eq_true,if_false,List.mem_singleton]at hu
  exact .inl (by rw[hu])
 | t::ts,h,u,hu=>by
  obtain⟨h1,h2⟩:=Xz.1 h
  rw[Jj]at hu
  split at hu
  ·rename_i hlt
   rw[UW s c (fun u hu=>List.lt_trans hlt (h1 u hu))]at hu
   rcases List.mem_cons.1 hu with rfl|hu
   ·exact .inl rfl
   ·exact .inr ⟨u,hu,rfl⟩
  ·split at hu
   ·rename_i he
    rw[UW s c (fun u hu=>he▸h1 u hu)]at hu
    rcases List.mem_cons.1 hu with rfl|hu
    ·exact .inr ⟨t,by simp,rfl⟩
    ·exact .inr ⟨u,by simp[hu],rfl⟩
   ·rcases List.mem_cons.1 hu with rfl|hu
    ·exact .inr ⟨u,by simp,rfl⟩
    ·rcases a0j s c h2 u hu with h|⟨w,hw,e⟩
     ·exact .inl h
     ·exact .inr ⟨w,by simp[hw],e⟩
theorem PY(s:Str)(c:Int): ∀ {ts:List Coef},Qq ts->Qq (Xu s c false ts)
 | [],_=>by simp[Xu,Qq]
 | t::ts,h=>by
  obtain⟨h1,h2⟩:=Xz.1 h
  rw[Jj]
  split
  ·rename_i hlt
   rw[UW s c (fun u hu=>List.lt_trans hlt (h1 u hu))]
   exact Xz.2 ⟨fun u hu=>by
    rcases List.mem_cons.1 hu with rfl|hu
    ·exact hlt
    ·exact List.lt_trans hlt (h1 u hu),h⟩
  ·rename_i hlt
   split
   ·rename_i he
    rw[UW s c (fun u hu=>he▸h1 u hu)]
    exact Xz.2 ⟨h1,h2⟩
   ·rename_i he
    have hts:t.v.s<s.s:=tri hlt (fun e=>he (K5.2 e.symm))
    refine Xz.2 ⟨fun u hu=> ?_,PY s c h2⟩
    rcases a0j s c h2 u hu with e|⟨w,hw,e⟩
    ·rw[e];exact hts
    ·rw[<- e];exact h1 w hw
theorem Fj(s:Str)(c:Int)(hc:XO c=c): ∀ {ts:List Coef},Qq ts-> ∀ x,Yo (Xu s c false ts) x=if s.s=x then XO (Yo ts s.s+c)else Yo ts x
 | [],_,x=>by
  have e:Xu s c false []=[⟨s,c⟩]:=by simp[Xu]
  rw[e,ZN,UF,UF,Int.zero_add,hc]
 | t::ts,h,x=>by
  obtain⟨h1,h2⟩:=Xz.1 h
  rw[Jj]
  split
  ·rename_i hlt
   rw[UW s c (fun u hu=>List.lt_trans hlt (h1 u hu)),ZN,V8 (ts:=t::ts) (s:=s.s) (fun u hu=>by
    rcases List.mem_cons.1 hu with rfl|hu
    ·exact hlt
    ·exact List.lt_trans hlt (h1 u hu)),Int.zero_add,hc]
  ·rename_i hlt
   split
   ·rename_i he
    have he':t.v.s=s.s:=by rw[he]
    have e1:Yo (t::ts) s.s=t.c:=by rw[ZN,if_pos he']
    have e2:Yo (t::ts) x=if s.s=x then t.c else Yo ts x:=by rw[ZN,he']
    rw[UW s c (fun u hu=>he▸h1 u hu),ZN,e1,e2]
    show(if t.v.s=x then XO (t.c+c)else Yo ts x)=_
    rw[he']
    by_cases hx:s.s=x
    ·rw[if_pos hx,if_pos hx]
    ·rw[if_neg hx,if_neg hx,if_neg hx]
   ·rename_i he
    have he' : ¬ t.v.s=s.s:=fun e=>he (K5.2 e)
    rw[ZN,Fj s c hc h2 x,ZN (s:=s.s),if_neg he',ZN (s:=x)]
    by_cases hx:s.s=x
    ·rw[if_pos hx,if_pos hx,if_neg (fun e=>he' (e.trans hx.symm))]
    ·rw[if_neg hx,if_neg hx]
theorem GI: ∀ {ts:List Coef},Qq ts-> ∀ x,Yo (ts.filter fun t=>decide (t.c≠0)) x=Yo ts x
 | [],_,x=>rfl
 | t::ts,h,x=>by
  obtain⟨h1,h2⟩:=Xz.1 h
  rw[List.filter_cons]
  split
  ·rw[ZN,ZN,GI h2 x]
  ·rename_i hz
   have hz0:t.c=0:=by simpa using hz
   rw[ZN,GI h2 x]
   by_cases hx:t.v.s=x
   ·rw[if_pos hx,hz0,V8 fun u hu=>hx▸h1 u hu]
   ·rw[if_neg hx]
theorem Ac{l:Lin}(s:Str)(c:Int)(h:Qq l.t):Qq (WW l s c).t:=(PY s c h).sublist List.filter_sublist
theorem b6x(l:Lin)(s:Str)(c:Int):nzP (WW l s c).t:=fun t ht=>by simpa using (List.mem_filter.1 ht).2
theorem a4d{l:Lin}(s:Str){c:Int}(hc:XO c=c)(h:Qq l.t)(x:List UInt8):Yo (WW l s c).t x=if s.s=x then XO (Yo l.t s.s+c)else Yo l.t x:=by
 show Yo (List.filter _ _) x=_
 rw[GI (PY s c h),Fj s c hc h]
theorem a0w(n:Int): -9223372036854775808<=XO n∧XO n<=9223372036854775807:=by
 unfold XO IntKind.wrap
 simp only[IntKind.bits,IntKind.signed]
 simp
 split <;> omega
theorem Dk(n:Int):XO (XO n)=XO n:=Wx (by have:=a0w n;omega) (by have:=a0w n;omega)
theorem b1n(s:Str)(c:Int)(x:List UInt8): ∀ m:List (Str×Int),atM (a6v s c m) x=if s.s=x then c else atM m x
 | []=>by
  rw[a6v]
  simp only[atM,List.find?_cons]
  by_cases h:s.s=x
  ·simp[h]
  ·have:(s.s==x)=false:=by simpa using h
   simp[this,h]
 | p::m=>by
  have ih:=b1n s c x m
  rw[a6v]
  split
  ·rename_i he
   simp only[atM,List.find?_cons]
   by_cases h:s.s=x
   ·simp[h]
   ·have h1:(s.s==x)=false:=by simpa using h
    have h2:(p.1.s==x)=false:=by rw[<- he];exact h1
    simp[h1,h2,h]
  ·rename_i he
   simp only[atM,List.find?_cons]at ih ⊢
   by_cases h:p.1.s=x
   ·have h2 : ¬ s.s=x:=fun e=>he (e.trans h.symm)
    simp[h,h2]
   ·have h2:(p.1.s==x)=false:=by simpa using h
    rw[h2]
    exact ih
theorem EU(k:Int): ∀ (x:List Coef) (l:Lin),nzP l.t->nzP (x.foldl (fun o t=>WW o t.v (XO (k*t.c))) l).t
 | [],l,h=>h
 | t::x,l,h=>EU k x _ (b6x _ _ _)
theorem b3o(k:Int): ∀ (x:List Coef) (l:Lin),(x.foldl (fun o t=>WW o t.v (XO (k*t.c))) l).k=l.k
 | [],l=>rfl
 | t::x,l=>b3o k x _
theorem b4h{l x:Lin}{k:Int}(h:nzP l.t):nzP (Vm l x k).t:=EU k x.t _ h
theorem b8u(l x:Lin)(k:Int):(Vm l x k).k=XO (l.k+XO (k*x.k)):=b3o k x.t _
theorem NW: ∀ {l:List Coef},Jg l=true->Qq l
 | [],_=>List.Pairwise.nil
 | [a],_=>by simp[Qq]
 | a::b::l,h=>by
  simp only[Jg,Bool.and_eq_true,decide_eq_true_eq]at h
  have ih:=NW (l:=b::l) h.2
  refine Xz.2 ⟨fun u hu=> ?_,ih⟩
  rcases List.mem_cons.1 hu with rfl|hu
  ·exact h.1
  ·exact List.lt_trans h.1 ((Xz.1 ih).1 u hu)
theorem Gy{l:Lin}(h:Zg l=true):Qq l.t:=by
 simp only[Zg,Bool.and_eq_true]at h
 exact NW h.1.1.2
theorem b1f{l:Lin}(h:Zg l=true):nzP l.t:=fun t ht=>(Q3 h ht).2.1
end Go.Pl

namespace Go.Pl
open Go.RowKit
def wM(m:List (Str×Int)):Prop:= ∀ s,XO (atM m s)=atM m s
theorem add_zero: ∀ (x:List Coef) (m:List (Str×Int)),wM m-> ∀ s,atM (c5d 0 x m) s=atM m s
 | [],m,h,s=>rfl
 | t::x,m,h,s=>by
  have e : ∀ y,atM (a6v t.v (IntKind.i64.wrap (atM m t.v.s+IntKind.i64.wrap (0*t.c))) m) y=atM m y:=fun y=>by
   rw[b1n]
   split
   ·rename_i hy
    have:IntKind.i64.wrap (0*t.c)=0:=by rw[Int.zero_mul];rfl
    rw[this,Int.add_zero,<- hy]
    exact h t.v.s
   ·rfl
  rw[c5d,add_zero x _ (fun y=>by rw[e];exact h y),e]
end Go.Pl

namespace Go.Pl
open Go.RowKit
end Go.Pl

namespace Go.Pl
open Go.RowKit
open Enc (enc dec is)
open EncL (encL decL isL)
end Go.Pl

namespace Go.Pl
open Go.RowKit
open Enc (enc dec is)
open EncL (encL decL isL)
set_option maxRecDepth 100000
end Go.Pl

namespace Go.Pl
open Go.RowKit
open Enc (enc dec is)
open EncL (encL decL isL)
set_option maxRecDepth 100000
end Go.Pl

namespace Go.Pl
open Go.RowKit
open Enc (enc dec is)
open EncL (encL decL isL)
end Go.Pl

namespace Go.Pl
open Go.RowKit
open Enc (enc dec is)
open EncL (encL decL isL)
end Go.Pl

namespace Go.Pl
open Go.RowKit
open Enc (enc dec is)
open EncL (encL decL isL)
end Go.Pl

namespace Go.Pl
open Go.RowKit
open Enc (enc dec is)
open EncL (encL decL isL)
theorem one_of{α:Type}: ∀ {ks:List α},ks.length=1-> ∃ a,ks=[a]
 | [a],_=>⟨a,rfl⟩
end Go.Pl

namespace Go.Pl
open Go.RowKit
open Enc (enc dec is)
open EncL (encL decL isL)
set_option maxRecDepth 100000
end Go.Pl

namespace Go.Pl
open Go.RowKit
open Enc (enc dec is)
open EncL (encL decL isL)
end Go.Pl

namespace Go.Pl
open Go.RowKit
open Enc (enc dec is)
open EncL (encL decL isL)
theorem sub_zero(b:Bool):Sub (.tup [c8i,.bool b]) (enc (((⟨0,[]⟩:Lin),b):Lin×Bool)):=Sub.pair (Sub.agg_cons (.refl _) (Sub.agg_cons (.sl0 _ _ _) Sub.agg_nil)) (.refl _)
end Go.Pl

namespace Go.Pl
open Go.RowKit
open Enc (enc dec is)
open EncL (encL decL isL)
inductive Walk (m:Int):List Int->List (List Int)->Prop
 | last {p}:DK m p=none->Walk m p [p]
 | step {p q l}:DK m p=some q->Walk m q l->Walk m p (p::l)
theorem Walk.walkP{m:Int}{p:List Int}{l:List (List Int)}(h:Walk m p l): ∀ f,l.length<=f->walkP m f p=l:=by
 induction h with
 | last h=>
  intro f hf
  cases f with
  | zero=>simp at hf
  | succ f=>simp[Go.Pl.walkP,h]
 | step h _ ih=>
  intro f hf
  cases f with
  | zero=>simp at hf
  | succ f=>simp only[Go.Pl.walkP,h];rw[ih f (by simpa using hf)]
theorem OH(m x:Int): ∀ (k:Nat) (p:List Int),k<=p.length->Wv m (k+1) (x::p) =
  match Wv m k p with
  | some q=>some (x::q)
  | none=>if x=m then none else some ((x+1)::(List.replicate k 0++p.drop k)):=by
 intro k
 induction k with
 | zero=>intro p _;simp[Wv]
 | succ k ih=>
  intro p hp
  rw[Wv]
  have e:(x::p).getD (k+1) 0=p.getD k 0:=by simp[List.getD]
  rw[e]
  by_cases h:p.getD k 0=m
  ·have hn:Wv m (k+1) p=Wv m k (p.set k 0):=by rw[Wv,if_pos h]
   rw[if_pos h,hn]
   have:=ih (p.set k 0) (by simp;omega)
   rw[List.set_cons_succ,this]
   have e2:List.replicate k (0:Int)++(p.set k 0).drop k=List.replicate (k+1) 0++p.drop (k+1):=by
    rw[List.replicate_succ',List.append_assoc]
    congr 1
    rw[List.drop_eq_getElem_cons (show k<(p.set k 0).length by simp;omega),List.drop_set_of_lt (by omega)]
    simp
   rw[e2]
  ·have hn:Wv m (k+1) p=some (p.set k (p.getD k 0+1)):=by rw[Wv,if_neg h]
   rw[if_neg h,hn]
   simp
theorem J7(m x:Int)(p:List Int):DK m (x::p) =
  match DK m p with
  | some q=>some (x::q)
  | none=>if x=m then none else some ((x+1)::List.replicate p.length 0):=by
 have:=OH m x p.length p (Nat.le_refl _)
 rw[List.drop_length,List.append_nil]at this
 exact this
theorem SI(m:Int): ∀ (k:Nat) (p q:List Int),Wv m k p=some q->q.length=p.length:=by
 intro k
 induction k with
 | zero=>intro p q h;cases h
 | succ k ih=>
  intro p q h
  rw[Wv]at h
  split at h
  ·rw[ih _ _ h,List.length_set]
  ·cases h;rw[List.length_set]
theorem Walk.cons{m x:Int}{rest:List (List Int)}{p:List Int}{l:List (List Int)}(h:Walk m p l):(hr:(x=m∧rest=[])∨(x≠m∧Walk m ((x+1)::List.replicate p.length 0) rest))->Walk m (x::p) (l.map (x:: ·)++rest):=by
 induction h with
 | last h=>
  rename_i p
  rintro(⟨rfl,rfl⟩|⟨h1,h2⟩)
  ·refine .last ?_
   rw[J7,h];simp
  ·refine .step ?_ h2
   rw[J7,h];simp[h1]
 | step h _ ih=>
  rename_i p q l _
  intro hr
  refine .step (q:=x::q) ?_ (ih ?_)
  ·rw[J7,h]
  ·rw[SI m _ _ _ h];exact hr
def b7w(m:Nat):List Int:=(List.range (m+1)).map fun(i:Nat)=>(i:Int)
def Ha(m:Nat):Nat->List (List Int)
 | 0=>[[]]
 | n+1=>(b7w m).flatMap fun x=>(Ha m n).map (x:: ·)
theorem Walk.from{m n:Nat}(h:Walk m (List.replicate n 0) (Ha m n)): ∀ (d i:Nat),i+d=m->Walk m ((i:Int)::List.replicate n 0) (((List.range' i (d+1)).map fun(i:Nat)=>(i:Int)).flatMap fun x=>(Ha m n).map (x:: ·)):=by
 intro d
 induction d with
 | zero=>
  intro i hi
  have:=h.cons (x:=(i:Int)) (rest:=[]) (.inl ⟨by omega,rfl⟩)
  simpa using this
 | succ d ih=>
  intro i hi
  have h1:=ih (i+1) (by omega)
  have:=h.cons (x:=(i:Int)) (.inr ⟨by omega,by rw[List.length_replicate];exact_mod_cast h1⟩)
  rw[List.range'_succ,List.map_cons,List.flatMap_cons]
  exact this
theorem TW(m:Nat): ∀ n,Walk m (List.replicate n 0) (Ha m n):=by
 intro n
 induction n with
 | zero=>exact .last rfl
 | succ n ih=>
  have:=ih.from m 0 (by omega)
  rw[<- List.range_eq_range']at this
  exact_mod_cast this
theorem He(m:Nat): ∀ n,(Ha m n).length=(m+1) ^ n:=by
 intro n
 induction n with
 | zero=>rfl
 | succ n ih=>
  rw[Ha,List.length_flatMap]
  simp only[List.length_map,ih,b7w]
  rw[List.map_const',List.sum_replicate_nat,List.length_map,List.length_range,Nat.pow_succ,Nat.mul_comm]
theorem Nz{m:Nat}{x:Int}:x∈b7w m ↔ 0<=x∧x<=m:=by
 unfold b7w
 rw[List.mem_map]
 constructor
 ·rintro⟨i,hi,rfl⟩
  have:=List.mem_range.1 hi
  omega
 ·rintro⟨h1,h2⟩
  exact⟨x.toNat,List.mem_range.2 (by omega),by omega⟩
theorem Hw{m:Nat}: ∀ {n:Nat} {p:List Int},p∈Ha m n ↔ p.length=n∧ ∀ x∈p,0<=x∧x<=m:=by
 intro n
 induction n with
 | zero=>
  intro p
  simp only[Ha,List.mem_singleton,List.length_eq_zero_iff]
  exact⟨fun h=>⟨h,by simp[h]⟩,fun h=>h.1⟩
 | succ n ih=>
  intro p
  simp only[Ha,List.mem_flatMap,List.mem_map]
  constructor
  ·rintro⟨x,hx,q,hq,rfl⟩
   obtain⟨h1,h2⟩:=ih.1 hq
   refine⟨by simp[h1],?_⟩
   intro y hy
   rcases List.mem_cons.1 hy with rfl|hy
   ·exact Nz.1 hx
   ·exact h2 y hy
  ·rintro⟨h1,h2⟩
   cases p with
   | nil=>simp at h1
   | cons x q=>
    exact⟨x,Nz.2 (h2 x (by simp)),q,ih.2 ⟨by simpa using h1,fun y hy=>h2 y (by simp[hy])⟩,rfl⟩
def Uq(x:List Int×List Coef):List PV:=[enc x.1,enc x.2]
def VZ:List (List PV)->Bool
 | [[v,.int .i64 m],[f]]=>XX (List Str) v&&XX (List Fact) f&&Xy ⟨dec v,m⟩&&Zp (dec f)&&decide ((dec v:List Str).length<=1000)
 | _=>false
def Jl:List (List PV)->List (List Int×List Coef)
 | [[v,.int .i64 m],[f]]=>(ZR ⟨dec v,m⟩ (dec f)).map fun p=>(p,Zd (dec v) p)
 | _=>[]
theorem b2l(m:Nat): ∀ (l:List Str) (n r:Int),0<=n->Jw m l n=some r->r=n*((m:Int)+1) ^ l.length:=by
 intro l
 induction l with
 | nil=>intro n r _ h;simp only[Jw,Option.some.injEq]at h;simp[h]
 | cons s l ih=>
  intro n r hn h
  rw[Jw]at h
  split at h
  ·cases h
  ·rw[ih _ _ (Int.mul_nonneg hn (by omega)) h,List.length_cons,Int.pow_succ,Int.mul_assoc,Int.mul_comm ((m:Int)+1)]
theorem c1u(m:Nat): ∀ (l:List Str) (n r:Int),n<=20000->Jw m l n=some r->r<=20000:=by
 intro l
 induction l with
 | nil=>intro n r hn h;simp only[Jw,Option.some.injEq]at h;omega
 | cons s l ih=>
  intro n r hn h
  rw[Jw]at h
  split at h
  ·cases h
  ·exact ih _ _ (by omega) h
theorem Ue{b:BoxT}:Xy b=true ↔ b.v.all ZA=true∧b.v.Nodup∧(b.v=[]∨b.m<20000)∧0<=b.m∧(Jw b.m b.v 1).isSome=true:=by
 unfold Xy
 simp only[Bool.and_eq_true,decide_eq_true_eq,Bool.or_eq_true,List.isEmpty_iff]
 constructor
 ·rintro⟨⟨⟨⟨h1,h2⟩,h3⟩,h4⟩,h5⟩;exact⟨h1,h2,h3,h4,h5⟩
 ·rintro⟨h1,h2,h3,h4,h5⟩;exact⟨⟨⟨⟨h1,h2⟩,h3⟩,h4⟩,h5⟩
theorem Co{b:BoxT}(h:Xy b=true):(b.m.toNat+1) ^ b.v.length<=20000:=by
 obtain⟨_,_,_,h4,h5⟩:=Ue.1 h
 obtain⟨r,hr⟩:=Option.isSome_iff_exists.1 h5
 have e:b.m=(b.m.toNat:Int):=by omega
 rw[e]at hr
 have h1:=b2l _ _ _ _ (by decide) hr
 have h2:=c1u _ _ _ _ (by decide) hr
 rw[Int.one_mul]at h1
 have:(((b.m.toNat+1) ^ b.v.length:Nat):Int)=r:=by rw[h1];simp
 omega
theorem UA{b:BoxT}(h:Xy b=true):c4x b=Ha b.m.toNat b.v.length:=by
 obtain⟨_,_,_,h4,_⟩:=Ue.1 h
 have hw:=TW b.m.toNat b.v.length
 have hl:=He b.m.toNat b.v.length
 have:=Co h
 have e:(b.m.toNat:Int)=b.m:=by omega
 rw[e]at hw
 have ez:Uo b.v=List.replicate b.v.length 0:=List.map_const' ..
 unfold c4x
 rw[ez]
 exact hw.walkP 20001 (by omega)
end Go.Pl

namespace Go.Pl
open Go.RowKit
open Enc (enc dec is)
open EncL (encL decL isL)
def a0p(m:Int):List Str->Int->Int
 | [],n=>n
 | _::r,n=>a0p m r (n*(m+1))
def Qb(b:BoxT)(fs:List Fact):Bool:=decide (b.v.length<=5)&&decide ((if Xy b then a0p b.m b.v 1 else 1)<=300)&&decide (fs.length<=6)&&D5 fs 6
def Ub:List Str->List Str->Int
 | [],b=> -(b.length:Int)
 | a,[]=>(a.length:Int)
 | x::a,y::b=>if x.s<y.s then -1 else if y.s<x.s then 1 else Ub a b
def Gu:List Str->Bool
 | x::y::r=> !decide (y.s<x.s)&&Gu (y::r)
 | _=>true
def WX(m:Mono):Bool:=decide (m.c≠0)&&decide (-1099511627776<=m.c)&&decide (m.c<=1099511627776)&&decide (m.v.length<=8)&&Gu m.v&&m.v.all ZA
def a3r:List Mono->Bool
 | x::y::r=>decide (Ub x.v y.v<0)&&a3r (y::r)
 | _=>true
def Z9(p:List Mono):Bool:=decide (p.length<=60)&&p.all WX&&a3r p
def Gw(l:List Str)(s:Str):List Str:=match l with
 | []=>[s]
 | t::r=>if t.s<s.s then t::Gw r s else if t=s then t::r else s::t::r
end Go.Pl

namespace Go.Pl
open Go.RowKit
open Enc (enc dec is)
open EncL (encL decL isL)
def Sr(x y:Str):Int:=if x.s<y.s then -1 else if y.s<x.s then 1 else 0
def Gx:List Str->List Str->Int
 | [],[]=>0
 | [],_::_=> -1
 | _::_,[]=>1
 | x::a,y::b=>if x.s<y.s then -1 else if y.s<x.s then 1 else Gx a b
def Yg(p:List Mono):Bool:=Zx p&&p.all fun m=>WF m.v
def XA(p:List Mono):List Str:=p.flatMap (·.v)
def Y8(p:List Mono):List (List UInt8):=Wt ((XA p).map (·.s))
def Yy(p:List Mono):List Str:=(Lib.compact (Y8 p)).map Str.mk
def Ui(p:PV):List Mono:=dec p
def U8:List AV->List AObj->Bool
 | [.pv a],[]=>XX (List Mono) a&&Yg (dec a)&&Z9 (dec a)&& !(XA (dec a)).isEmpty
 | _,_=>false
def Na:List AV->List AObj->AV×List AObj×List AObj
 | [.pv a],_=>(.row 0 (Y8 (Ui a)).length 0 (Lib.compact (Y8 (Ui a))).length,[],[.row false 9 1 ((Vw (Y8 (Ui a))).map .str)])
 | _,_=>Wz
def PR:List AV->List AObj->AV×List AObj×List AObj
 | [.pv a],_=>Ku (Yy (Ui a))
 | _,_=>Wz
def K7:List AV->List AObj->Bool
 | [.pv a],[]=>XX (List Mono) a&&Yg (dec a)&&(!Z9 (dec a)||(XA (dec a)).isEmpty)
 | _,_=>false
def CG:List AV->List AObj->AV×List AObj×List AObj:=fun _ _=>(.pv (.sl 0 true []),[],[])
def Ai(a b:Int):Int×Int:=if U1 a&&U1 b&&U1 (a*b)then(a*b,0)else(0,2)
def VB(l:List Int):Int×Int:=if l.all U1&&U1 l.sum then(l.sum,0)else(0,2)
def EL:Int->List Int->Int×Int
 | o,[]=>(o,0)
 | o,n::r=>if (Ai o n).2≠0 then(0,(Ai o n).2)else EL (Ai o n).1 r
def Y3(l:List Int):Int×Int:=if l.contains 0 then(0,0)else EL 1 l
def M9(vs:List Coef):List Str->Option (List Int)
 | []=>some []
 | s::r=>match Us vs s with
  | none=>none
  | some x=>(M9 vs r).map (x:: ·)
def Ea(vs:List Coef):List Mono->Option (List (List Int))
 | []=>some []
 | m::r=>match M9 vs m.v with
  | none=>none
  | some l=>(Ea vs r).map ((m.c::l):: ·)
def YB:List (List Int)->Option (List Int)
 | []=>some []
 | l::r=>if (Y3 l).2≠0 then none else(YB r).map ((Y3 l).1:: ·)
def Bc(fs:List (List Int)):Bool:=fs.any fun l=>l.tail.any fun x=> !U1 x
def YR(p:List Mono)(vs:List Coef):Int×Int:=
 if Z9 p then(match Ea vs p with
  | none=>(0,7)
  | some fs=>if Bc fs then(0,2)else match YB fs with
   | none=>(0,2)
   | some l=>VB l)
 else(0,1)
def Gt:List AV->List AObj->Bool
 | [.pv x,.ptr 0 0],[.box [.pv (.str v)]]=>XX Coef x
 | _,_=>false
def Cz:List AV->List AObj->AV×List AObj×List AObj
 | [.pv x,_],[.box [.pv (.str v)]]=>(.pv (.bool ((dec x:Coef).v.s==v)),[.box [.pv (.str v)]],[])
 | _,_=>Wz
def VW(g:Nat):List AV->List AObj->Bool
 | [.pv l,.fn g' [] [.ptr 0 0]],[.box [.pv (.str v)]]=>g'==g&&XX (List Coef) l&&decide ((dec l:List Coef).length<=9223372036854775807)
 | _,_=>false
def Kl(p:PV):List Coef:=dec p
def Ch:List AV->List AObj->AV×List AObj×List AObj
 | [.pv l,_],[.box [.pv (.str v)]]=>(.pv (.int .i64 (Zy (fun t:Coef=>t.v.s==v) (Kl l))),[.box [.pv (.str v)]],[])
 | _,_=>Wz
def Wu(n:Int):Int:=n / 2147483648
def XY(n:Int):Int:=n % 2147483648
def Uu:List AV->List AObj->Bool
 | [.pv (.int .i64 n),.ptr 0 0,.ptr 1 0],[.box [.pv (.sl 0 true [])],.box [.pv (.sl 0 true [])]]=>true
 | [.pv (.int .i64 n),.ptr 0 0,.ptr 1 0],[.box [.row 2 q 0 q'],.box [.row 3 r 0 r'],.row false ty 1 xs,.row false ty' 1 ys]=>q'==q&&r'==r&&r==q&&ty==3&&ty'==3&&xs.length==q&&ys.length==q&&decide (q<=1000000)
 | _,_=>false
def U7:List AV->List AObj->AV×List AObj×List AObj
 | [.pv (.int .i64 n),_,_],[.box [.pv (.sl 0 true [])],.box [.pv (.sl 0 true [])]]=>(.tup [],[.box [.row 2 1 0 1],.box [.row 3 1 0 1]],[.row false 3 1 [.int .i64 (Wu n)],.row false 3 1 [.int .i64 (XY n)]])
 | [.pv (.int .i64 n),_,_],[.box [.row 2 q 0 _],.box [.row 3 _ 0 _],.row _ _ _ xs,.row _ _ _ ys]=>(.tup [],[.box [.row 2 (q+1) 0 (q+1)],.box [.row 3 (q+1) 0 (q+1)],.row false 3 1 (xs++[.int .i64 (Wu n)]),.row false 3 1 (ys++[.int .i64 (XY n)])],[])
 | _,_=>Wz
def FT:List Int->List Int->Int
 | x::a,y::b=>x*y+FT a b
 | _,_=>0
def Dn(a b:List Int):Int×Int:=if a.length=b.length then(if a.all U1&&b.all U1&&U1 (FT a b)then(FT a b,0)else(0,2))else(0,1)
def Uc(p:List Mono)(vs:List Str):List (List Int)->Option (List Int)
 | []=>some []
 | q::r=>if (YR p (Zd vs q)).2≠0 then none else(Uc p vs r).map ((YR p (Zd vs q)).1:: ·)
def JJ(b:BoxT)(fs:List Fact)(p:List Mono):Bool:=ZT b&&Zp fs&&decide (fs.length<=100)&&decide (b.v.length<=1000)&&Yg p
def Ww(b:BoxT)(fs:List Fact)(p:List Mono):Int×Int:=
 if Zo b fs (Z9 p) (Yy p)=0 then(match Uc p b.v (ZR b fs)with|none=>(0,2)|some l=>VB l)else(0,Zo b fs (Z9 p) (Yy p))
end Go.Pl

namespace Go.Pl
open Go.RowKit
open Enc (enc dec is)
open EncL (encL decL isL)
theorem b3n: ∀ args os,Yx args os=true->Zc Ep os.length (Zk os.length Po fun r=>r=Xm args os) RO [] (YD c1q args os):=by
 intro args os h
 unfold Yx at h
 split at h
 ·rename_i v m f
  simp only[Bool.and_eq_true]at h
  obtain⟨h1,h2⟩:=h
  obtain⟨vs,rfl⟩:=Ym h1
  obtain⟨fs,rfl⟩:=Ym h2
  exact c2w ⟨vs,m⟩ fs rfl
 ·cases h
theorem XZ(b:BoxT)(fs:List Fact)(ok:Bool)(ns:List Str)(h:Zo b fs ok ns=0):Xy b=true∧XN fs=true∧ok=true∧Gj b.v (ns++fs.flatMap fun f=>Ze f.l)=true:=by
 unfold Zo at h
 split at h
 ·cases h
 ·rename_i h1
  simp only[Bool.or_eq_true,Bool.not_eq_true',not_or,Bool.not_eq_false]at h1
  split at h
  ·rename_i h2
   exact⟨h1.1.1,h1.1.2,h1.2,h2⟩
  ·cases h
theorem c0e{b:BoxT}{fs:List Fact}(h:Xy b=true):(ZR b fs).length<=20000:=by
 unfold ZR
 refine Nat.le_trans (List.length_filter_le _ _) ?_
 rw[UA h,He]
 exact Co h
def gpI(b:BoxT)(fs:List Fact)(k:Nat)(σ:Zu):Prop:=
 (k=0∧σ=[.obj (.box [.pv (.sl 0 true [])])])∨(k≠0∧k<=(ZR b fs).length∧σ=[.obj (.box [.row 1 k 0 k]),.obj (.row false 34 1 (((ZR b fs).take k).map enc))])
def gpE:Yl:=fun n st q=>n=0∧KF Jk 0 (.t 17) 177 [18,19] [(8,18)] U9 Uq VZ Jl st q
theorem H6(b:BoxT)(fs:List Fact):Jl [[enc b.v,.int .i64 b.m],[enc fs]]=(ZR b fs).map fun p=>(p,Zd b.v p):=by
 show((ZR ⟨dec (enc b.v:PV),b.m⟩ (dec (enc fs:PV))).map fun p=>(p,Zd (dec (enc b.v:PV)) p))=_
 rw[Enc.dec_enc,Enc.dec_enc]
theorem JE{b:BoxT}{fs:List Fact}(hb:Xy b=true)(hf:Zp fs=true)(hl:b.v.length<=1000):VZ [[enc b.v,.int .i64 b.m],[enc fs]]=true:=by
 show(XX (List Str) (enc b.v)&&XX (List Fact) (enc fs)&&Xy ⟨dec (enc b.v:PV),b.m⟩&&Zp (dec (enc fs:PV))&&decide ((dec (enc b.v:PV):List Str).length<=1000))=true
 rw[ZI,ZI,Enc.dec_enc,Enc.dec_enc,hf,decide_eq_true hl]
 simp[hb]
theorem b4p(b:BoxT)(fs:List Fact)(hv:Xy b=true)(k:Nat)(p:List Int)(vs:List Coef)(σ:Zu)(hp:(ZR b fs)[k]? = some p)(h:gpI b fs k σ):
  Zv Jk (fun n S' _=>n=99∧gpI b fs (k+1) S'.heap) σ.length (fun st=>False) (.inl U9) [.seq (.ext 99 [])] ⟨ZF 25 0 [(7,.ptr 0 0),(8,.pv (enc p)),(18,.pv (enc p)),(19,.pv (enc vs))],σ⟩:=by
 have hk:=(List.getElem?_eq_some_iff.1 hp).1
 have hkp:=(List.getElem?_eq_some_iff.1 hp).2
 have hl:=c0e (fs:=fs) hv
 rcases h with ⟨rfl,rfl⟩|⟨hne,hk',rfl⟩
 ·refine b6u (G:=fun _=>False) _ p vs ⟨rfl,.inr ⟨by simp,by omega,?_⟩⟩
  have e:(ZR b fs).take (0+1)=[p]:=by rw[List.take_succ_eq_append_getElem hk,hkp];rfl
  rw[e]
  rfl
 ·have e:(ZR b fs).take (k+1)=(ZR b fs).take k++[p]:=by rw[List.take_succ_eq_append_getElem hk,hkp]
  have el:((ZR b fs).take k).length=k:=by rw[List.length_take];omega
  refine c0s (G:=fun _=>False) _ p vs k ((ZR b fs).take k) ⟨?_,rfl,.inr ⟨by omega,by omega,?_⟩⟩
  ·rw[List.length_map,el]
   show((k==k)&&(k==k)&&decide ((k+1)*24<=1099511627776)&&decide (k+1<=1099511627776))=true
   rw[decide_eq_true (by omega),decide_eq_true (by omega)];simp
  ·rw[e,List.map_append]
   rfl
theorem c0v: ∀ x:BoxT×List Fact×Unit,(ZT x.1&&Zp x.2.1&&decide (x.2.1.length<=100)&&decide (x.1.v.length<=1000))=true->U3 Jk gpE 0 (Za G8 (Zm (Xd x.1 x.2.1))) GY [] (Yz c5y (encL x)):=by
 rintro⟨b,fs,⟨⟩⟩ hp
 simp only[Bool.and_eq_true,decide_eq_true_eq]at hp
 obtain⟨⟨⟨h1,h2⟩,h3⟩,h4⟩:=hp
 refine c7y gpE b fs ⟨Zl (b,fs,true,⟨⟩,()) rfl (by simp[h1,h2,h3]),Zj (b,fs,true,⟨⟩,()) rfl ?_⟩
 show if (Zo b fs true [] != 0)=true then _ else _
 by_cases h0:Zo b fs true []=0
 ·rw[if_neg (by simp[h0])]
  obtain⟨hv,_⟩:=XZ b fs true [] h0
  have hpt:Xd b fs=(ZR b fs,0):=by unfold Xd;rw[if_pos h0]
  rw[hpt]
  refine⟨?_,rfl,[1,2],[[enc b.v,.int .i64 b.m],[enc fs]],[7],[],⟨ZF 25 0 [(7,.ptr 0 0)],[.obj (.box [.pv (.sl 0 true [])])]⟩,gpI b fs,fun _=>False,rfl,by simp,rfl,?_,by kernel_rfl,JE hv h2 h4,.inl ⟨rfl,rfl⟩,?_,?_,fun σ h=>h.elim⟩
  ·show(XX (List Str) (enc b.v)&&XX (List Fact) (enc fs))=true
   rw[ZI,ZI];rfl
  ·intro j l ps hl hps
   match j with
   | 0=>cases hl;cases hps;rfl
   | 1=>cases hl;cases hps;rfl
   | j+2=>simp at hl
  ·intro k x σ hx hI
   rw[H6,List.getElem?_map]at hx
   obtain⟨p,hp,rfl⟩:=Option.map_eq_some_iff.1 hx
   have e:D8 [(8,18)] (Ht [18,19] ((Uq (p,Zd b.v p)).map .pv) (ZF 25 0 [(7,.ptr 0 0)]))=ZF 25 0 [(7,.ptr 0 0),(8,.pv (enc p)),(18,.pv (enc p)),(19,.pv (enc (Zd b.v p)))]:=by kernel_rfl
   have:=b4p b fs hv k p (Zd b.v p) σ hp hI
   rw[<- e]at this
   exact this
  ·intro σ hI
   rw[H6,List.length_map]at hI
   rcases hI with ⟨e,rfl⟩|⟨e,_,rfl⟩
   ·refine b7v gpE b fs ?_
    rw[List.length_eq_zero_iff.1 e]
    exact⟨rfl,rfl⟩
   ·refine c1v gpE b fs (ZR b fs).length ((ZR b fs).take (ZR b fs).length) ⟨by simp,?_⟩
    rw[List.take_length,List.drop_zero,List.take_of_length_le (by simp)]
    exact ZK (x:=((ZR b fs),(0:Int))) rfl
 ·rw[if_pos (by simpa using h0)]
  have hpt:Xd b fs=([],Zo b fs true []):=by unfold Xd;rw[if_neg h0]
  rw[hpt]
  exact⟨rfl,rfl⟩
theorem O8: ∀ x:BoxT×List Fact×Unit,(ZT x.1&&Zp x.2.1&&decide (x.2.1.length<=100)&&decide (x.1.v.length<=1000))=true->Zc CW 0 (Za Dc (Zm (Dl x.1 x.2.1))) GA [] (Yz a3g (encL x)):=by
 rintro⟨b,fs,⟨⟩⟩ hp
 refine a8q b fs ⟨Zl (b,fs,()) rfl hp,Zj (b,fs,()) rfl ?_⟩
 rw[List.length_map]
 exact ZK (x:=((((Xd b fs).1.length:Nat):Int),(Xd b fs).2)) rfl
end Go.Pl

namespace Go.Pl
open Go.RowKit
open Enc (enc dec is)
open EncL (encL decL isL)
set_option maxRecDepth 100000
def Vz:IC:=(.seq (.reg [⟨(some 1),(.box 2 (.t 0)),0,none⟩,⟨(some 2),(.mv (.c (.bool false))),1,none⟩] none) (.seq (.reg [⟨(some 3),(.mv (.c (.int .i64 1))),0,none⟩] none) (.seq (.seq (.reg [⟨(some 4),(.mv (.c (.int .i64 0))),0,none⟩] none) (.block 0 (.loop [4,1,3] (.seq (.seq (.reg [⟨(some 6),(.mv (.t 4)),0,none⟩,⟨(some 7),(.faddr 0 (.t 1)),0,none⟩,⟨(some 8),(.load false [(.sl 1)] (.t 7)),0,none⟩,⟨(some 9),(.len 1 (.t 8)),0,none⟩,⟨(some 10),(.bin .num .lss (.t 6) (.t 9)),0,none⟩] none) (.cond (.t 10) .skip (.exit 0))) (.seq (.block 1 (.seq (.seq (.reg [⟨(some 13),(.faddr 0 (.t 1)),0,none⟩,⟨(some 14),(.load false [(.sl 1)] (.t 13)),0,none⟩,⟨(some 15),(.mv (.t 4)),0,none⟩,⟨(some 16),(.iaddr 1 (.t 14) (.t 15)),0,none⟩,⟨(some 17),(.load false [.str] (.t 16)),0,none⟩,⟨(some 18),(.call (.c (.fn 84)) [(.t 17)]),0,none⟩,⟨(some 19),(.un .not (.t 18)),2,none⟩,⟨(some 20),(.mv (.t 19)),2,none⟩,⟨(some 21),(.faddr 1 (.t 1)),2,(some (20,false))⟩,⟨(some 22),(.load false [(.int .i64)] (.t 21)),2,(some (20,false))⟩,⟨(some 23),(.bin .num .geq (.t 22) (.c (.int .i64 20000))),2,(some (20,false))⟩,⟨(some 24),(.pick (.t 20) (.c (.bool true)) (.t 23)),2,none⟩] none) (.cond (.t 24) (.seq (.reg [⟨(some 2),(.mv (.c (.bool false))),0,none⟩] none) .ret) .skip)) (.seq (.seq (.reg [⟨(some 5),(.mv (.c (.int .i64 0))),0,none⟩] none) (.block 2 (.loop [5,4,1,3] (.seq (.seq (.reg [⟨(some 25),(.mv (.t 5)),0,none⟩,⟨(some 26),(.mv (.t 4)),0,none⟩,⟨(some 27),(.bin .num .lss (.t 25) (.t 26)),0,none⟩] none) (.cond (.t 27) .skip (.exit 2))) (.seq (.block 3 (.seq (.reg [⟨(some 30),(.faddr 0 (.t 1)),0,none⟩,⟨(some 31),(.load false [(.sl 1)] (.t 30)),0,none⟩,⟨(some 32),(.mv (.t 5)),0,none⟩,⟨(some 33),(.iaddr 1 (.t 31) (.t 32)),0,none⟩,⟨(some 34),(.load false [.str] (.t 33)),0,none⟩,⟨(some 35),(.faddr 0 (.t 1)),0,none⟩,⟨(some 36),(.load false [(.sl 1)] (.t 35)),0,none⟩,⟨(some 37),(.mv (.t 4)),0,none⟩,⟨(some 38),(.iaddr 1 (.t 36) (.t 37)),0,none⟩,⟨(some 39),(.load false [.str] (.t 38)),0,none⟩,⟨(some 40),(.bin .num .eql (.t 34) (.t 39)),0,none⟩] (some [[],[0],[],[1,2,0],[3,1,2,0],[],[5],[],[6,7,5],[8,6,7,5],[4,9,3,1,2,0,8,6,7,5]])) (.cond (.t 40) (.seq (.reg [⟨(some 2),(.mv (.c (.bool false))),0,none⟩] none) .ret) .skip))) (.reg [⟨(some 28),(.mv (.t 5)),0,none⟩,⟨(some 29),(.bin .num .add (.t 28) (.c (.int .i64 1))),0,none⟩,⟨(some 5),(.mv (.t 29)),0,none⟩] none)))))) (.seq (.reg [⟨(some 41),(.mv (.t 3)),0,none⟩,⟨(some 42),(.bin .num .leq (.t 41) (.c (.int .i64 20000))),0,none⟩] none) (.cond (.t 42) (.reg [⟨(some 43),(.mv (.t 3)),0,none⟩,⟨(some 44),(.faddr 1 (.t 1)),0,none⟩,⟨(some 45),(.load false [(.int .i64)] (.t 44)),0,none⟩,⟨(some 46),(.bin .num .add (.t 45) (.c (.int .i64 1))),0,none⟩,⟨(some 47),(.bin .num .mul (.t 43) (.t 46)),0,none⟩,⟨(some 3),(.mv (.t 47)),0,none⟩] none) .skip))))) (.reg [⟨(some 11),(.mv (.t 4)),0,none⟩,⟨(some 12),(.bin .num .add (.t 11) (.c (.int .i64 1))),0,none⟩,⟨(some 4),(.mv (.t 12)),0,none⟩] none)))))) (.seq (.reg [⟨(some 48),(.faddr 1 (.t 1)),0,none⟩,⟨(some 49),(.load false [(.int .i64)] (.t 48)),0,none⟩,⟨(some 50),(.bin .num .geq (.t 49) (.c (.int .i64 0))),0,none⟩,⟨(some 51),(.mv (.t 50)),0,none⟩,⟨(some 52),(.mv (.t 3)),0,(some (51,true))⟩,⟨(some 53),(.bin .num .leq (.t 52) (.c (.int .i64 20000))),0,(some (51,true))⟩,⟨(some 54),(.pick (.t 51) (.t 53) (.c (.bool false))),0,none⟩,⟨(some 2),(.mv (.t 54)),0,none⟩] none) .ret))))
def VO:List IRes:=[(.tmp 2)]
abbrev c4i:Nat:=55
def QO:ZE:=Xg [(84,.pure (preT (fun _:Str×Unit=>true)) (Zf (fun x:Str×Unit=>ZA x.1)))]
theorem c7h{G:PV->Prop}(b:BoxT)(h:At QO 0 (Za VO G) Vz 0 55 [(1,(.ptr 0 0)),(3,(.pv (.int .i64 1))),(4,(.pv (.int .i64 0)))] [(.obj (.box [(.pv (.sl 1 false (List.map enc b.v))),(.pv (.int .i64 b.m))]))]):Zc QO 0 (Za VO G) Vz [] (Yz 55 [enc b]):=Zc.tp (.nil) h (by kernel_rfl)
theorem b2m{G:PV->Prop}(b:BoxT)(n i:Int)(h:if (decide (i<(↑(List.length (List.map enc b.v)):Int)))=true then(decide (0<=i)&&decide (Int.toNat i<List.length (List.map enc b.v))&&Enc.sz Str==1)=true∧(∃ y0:Str,AV.pv (PV.rptr (PV.cells (List.getD (List.map enc b.v) (Int.toNat i) default)))=AV.pv (PV.rptr (PV.cells ((enc) y0)))∧(∃ y1:Bool,AV.pv (Zf (fun(x:Str×Unit)=>ZA x.1) [(.str (PV.asStr (List.getD (PV.cells (enc y0)) 0 default)))])=AV.pv (enc y1)∧(if (!y1)=true then G ((.bool false))else(if (decide (BoxT.m b ≥ 20000))=true then G ((.bool false))else(At QO 0 (Za VO G) Vz 1 55 [(1,(.ptr 0 0)),(3,(.pv (.int .i64 n))),(4,(.pv (.int .i64 i))),(5,(.pv (.int .i64 0)))] [(.obj (.box [(.pv (.sl 1 false (List.map enc b.v))),(.pv (.int .i64 b.m))]))])))))else(if (decide (BoxT.m b ≥ 0))=true then G ((.bool (decide (n<=20000))))else(G ((.bool false))))):At QO 0 (Za VO G) Vz 0 55 [(1,.ptr 0 0),(3,.pv (.int .i64 n)),(4,.pv (.int .i64 i))] [.obj (.box [.pv (enc b.v),.pv (.int .i64 b.m)])]:=At.tp (.lit (.ask (.req (.abs (Str) (fun YY=>AV.pv (PV.rptr (PV.cells ((enc) YY)))) (.lit (.lit (.abs (Bool) (fun YY=>AV.pv (enc YY)) (.ask (.lit (.lit (.lit (.lit (.nil))))) (.lit (.lit (.lit (.lit (.ask (.nil) (.nil)))))))))))) (.lit (.ask (.lit (.lit (.lit (.nil)))) (.lit (.lit (.nil))))))) h (by kernel_rfl)
theorem b6k{G:PV->Prop}(b:BoxT)(n i k:Int)(h:if (decide (k<i))=true then(decide (0<=k)&&decide (Int.toNat k<List.length (List.map enc b.v))&&Enc.sz Str==1)=true∧(∃ y0:Str,AV.pv (PV.rptr (PV.cells (List.getD (List.map enc b.v) (Int.toNat k) default)))=AV.pv (PV.rptr (PV.cells ((enc) y0)))∧((decide (0<=i)&&decide (Int.toNat i<List.length (List.map enc b.v))&&Enc.sz Str==1)=true∧(∃ y1:Str,AV.pv (PV.rptr (PV.cells (List.getD (List.map enc b.v) (Int.toNat i) default)))=AV.pv (PV.rptr (PV.cells ((enc) y1)))∧(if (PV.asStr (List.getD (PV.cells (enc y0)) 0 default)==PV.asStr (List.getD (PV.cells (enc y1)) 0 default))=true then G ((.bool false))else(At QO 0 (Za VO G) Vz 1 55 [(1,(.ptr 0 0)),(3,(.pv (.int .i64 n))),(4,(.pv (.int .i64 i))),(5,(.pv (.int .i64 (IntKind.wrap IntKind.i64 (k+1)))))] [(.obj (.box [(.pv (.sl 1 false (List.map enc b.v))),(.pv (.int .i64 b.m))]))])))))else(if (decide (n<=20000))=true then At QO 0 (Za VO G) Vz 0 55 [(1,(.ptr 0 0)),(3,(.pv (.int .i64 (IntKind.wrap IntKind.i64 (n*IntKind.wrap IntKind.i64 (BoxT.m b+1)))))),(4,(.pv (.int .i64 (IntKind.wrap IntKind.i64 (i+1)))))] [(.obj (.box [(.pv (.sl 1 false (List.map enc b.v))),(.pv (.int .i64 b.m))]))]else(At QO 0 (Za VO G) Vz 0 55 [(1,(.ptr 0 0)),(3,(.pv (.int .i64 n))),(4,(.pv (.int .i64 (IntKind.wrap IntKind.i64 (i+1)))))] [(.obj (.box [(.pv (.sl 1 false (List.map enc b.v))),(.pv (.int .i64 b.m))]))]))):At QO 0 (Za VO G) Vz 1 55 [(1,.ptr 0 0),(3,.pv (.int .i64 n)),(4,.pv (.int .i64 i)),(5,.pv (.int .i64 k))] [.obj (.box [.pv (enc b.v),.pv (.int .i64 b.m)])]:=At.tp (.lit (.ask (.req (.abs (Str) (fun YY=>AV.pv (PV.rptr (PV.cells ((enc) YY)))) (.lit (.req (.abs (Str) (fun YY=>AV.pv (PV.rptr (PV.cells ((enc) YY)))) (.lit (.lit (.ask (.nil) (.lit (.nil)))))))))) (.lit (.ask (.lit (.lit (.lit (.nil)))) (.lit (.nil)))))) h (by kernel_rfl)
def Wh:IC:=(.seq (.reg [⟨(some 2),(.box 2 (.t 0)),0,none⟩,⟨(some 4),(.mv (.c (.sl 0 true []))),1,none⟩] none) (.seq (.reg [⟨(some 5),(.mv (.c (.sl 0 true []))),0,none⟩] none) (.seq (.seq (.reg [⟨(some 6),(.mv (.c (.int .i64 0))),0,none⟩] none) (.block 0 (.loop [6,2,1,5] (.seq (.seq (.reg [⟨(some 7),(.mv (.t 6)),0,none⟩,⟨(some 8),(.faddr 0 (.t 2)),0,none⟩,⟨(some 9),(.load false [(.sl 1)] (.t 8)),0,none⟩,⟨(some 10),(.len 1 (.t 9)),0,none⟩,⟨(some 11),(.bin .num .lss (.t 7) (.t 10)),0,none⟩,⟨(some 12),(.mv (.t 11)),0,none⟩,⟨(some 13),(.mv (.t 6)),0,(some (12,true))⟩,⟨(some 14),(.mv (.t 1)),0,(some (12,true))⟩,⟨(some 15),(.len 1 (.t 14)),0,(some (12,true))⟩,⟨(some 16),(.bin .num .lss (.t 13) (.t 15)),0,(some (12,true))⟩,⟨(some 17),(.pick (.t 12) (.t 16) (.c (.bool false))),0,none⟩] none) (.cond (.t 17) .skip (.exit 0))) (.seq (.block 1 (.reg [⟨(some 20),(.mv (.t 5)),0,none⟩,⟨(some 21),(.faddr 0 (.t 2)),0,none⟩,⟨(some 22),(.load false [(.sl 1)] (.t 21)),0,none⟩,⟨(some 23),(.mv (.t 6)),0,none⟩,⟨(some 24),(.iaddr 1 (.t 22) (.t 23)),0,none⟩,⟨(some 25),(.load false [.str] (.t 24)),0,none⟩,⟨(some 26),(.mv (.t 1)),0,none⟩,⟨(some 27),(.mv (.t 6)),0,none⟩,⟨(some 28),(.iaddr 1 (.t 26) (.t 27)),0,none⟩,⟨(some 29),(.load false [(.int .i64)] (.t 28)),0,none⟩,⟨(some 30),(.build [(.str []),(.int .i64 0)] [(0,(1,(.t 25))),(1,(1,(.t 29)))]),0,none⟩,⟨(some 31),(.bslice 63 2 1 (.agg [(.str []),(.int .i64 0)]) [(0,(.t 30))]),0,none⟩,⟨(some 32),(.append 63 2 24 (.t 20) (.t 31)),1,none⟩,⟨(some 5),(.mv (.t 32)),2,none⟩] (some [[],[],[1],[],[2,3,1],[4,2,3,1],[],[],[6,7],[8,6,7],[5,9,4,2,3,1,8,6,7],[10,5,9,4,2,3,1,8,6,7],[0,11,10,5,9,4,2,3,1,8,6,7],[12,0,1,2,3,4,5,6,7,8,9,10,11]]))) (.reg [⟨(some 18),(.mv (.t 6)),0,none⟩,⟨(some 19),(.bin .num .add (.t 18) (.c (.int .i64 1))),0,none⟩,⟨(some 6),(.mv (.t 19)),0,none⟩] none)))))) (.seq (.reg [⟨(some 33),(.mv (.t 5)),0,none⟩,⟨(some 4),(.mv (.t 33)),0,none⟩] none) .ret))))
def Wo:List IRes:=[(.tmp 4)]
abbrev a6k:Nat:=34
def Vo:ZE:=Xg []
theorem a7d{G:PV->Prop}(b:BoxT)(p:List Int)(h:At Vo 0 (Za Wo G) Wh 0 34 [(1,(.pv (.sl 1 false (List.map enc p)))),(2,(.ptr 0 0)),(5,(.pv (.sl 0 true []))),(6,(.pv (.int .i64 0)))] [(.obj (.box [(.pv (.sl 1 false (List.map enc b.v))),(.pv (.int .i64 b.m))]))]):Zc Vo 0 (Za Wo G) Wh [] (Yz 34 [enc b,enc p]):=Zc.tp (.nil) h (by kernel_rfl)
theorem JL{G:PV->Prop}(b:BoxT)(p:List Int)(i:Int)(h:if (decide (i<(↑(List.length (List.map enc b.v)):Int)))=true then if (decide (i<(↑(List.length (List.map enc p)):Int)))=true then(decide (0<=i)&&decide (Int.toNat i<List.length (List.map enc b.v))&&Enc.sz Str==1)=true∧(∃ y0:Str,AV.pv (PV.rptr (PV.cells (List.getD (List.map enc b.v) (Int.toNat i) default)))=AV.pv (PV.rptr (PV.cells ((enc) y0)))∧((decide (0<=i)&&decide (Int.toNat i<List.length (List.map enc p))&&Enc.sz Int==1)=true∧(∃ y1:Int,AV.pv (PV.rptr (PV.cells (List.getD (List.map enc p) (Int.toNat i) default)))=AV.pv (PV.rptr (PV.cells ((enc) y1)))∧(At Vo 0 (Za Wo G) Wh 0 34 [(1,(.pv (.sl 1 false (List.map enc p)))),(2,(.ptr 0 0)),(5,(.row 1 1 0 1)),(6,(.pv (.int .i64 (IntKind.wrap IntKind.i64 (i+1)))))] [(.obj (.box [(.pv (.sl 1 false (List.map enc b.v))),(.pv (.int .i64 b.m))])),(.obj (.row false 63 2 [(.agg [(.str (PV.asStr (List.getD (PV.cells (enc y0)) 0 default))),(.int .i64 (PV.asInt (List.getD (PV.cells (enc y1)) 0 default)))])]))]))))else(G ((.sl 0 true [])))else(G ((.sl 0 true [])))):At Vo 0 (Za Wo G) Wh 0 34 [(1,.pv (enc p)),(2,.ptr 0 0),(5,.pv (.sl 0 true [])),(6,.pv (.int .i64 i))] [.obj (.box [.pv (enc b.v),.pv (.int .i64 b.m)])]:=At.tp (.lit (.ask (.lit (.lit (.lit (.lit (.lit (.ask (.req (.abs (Str) (fun YY=>AV.pv (PV.rptr (PV.cells ((enc) YY)))) (.lit (.req (.abs (Int) (fun YY=>AV.pv (PV.rptr (PV.cells ((enc) YY)))) (.lit (.lit (.lit (.lit (.lit (.lit (.lit (.nil))))))))))))) (.nil))))))) (.lit (.lit (.lit (.lit (.lit (.nil)))))))) h (by kernel_rfl)
theorem J4{G:PV->Prop}(b:BoxT)(p:List Int)(i:Int)(q:Nat)(vs:List Coef)(h:if (decide (i<(↑(List.length (List.map enc b.v)):Int)))=true then if (decide (i<(↑(List.length (List.map enc p)):Int)))=true then(decide (0<=i)&&decide (Int.toNat i<List.length (List.map enc b.v))&&Enc.sz Str==1)=true∧(∃ y0:Str,AV.pv (PV.rptr (PV.cells (List.getD (List.map enc b.v) (Int.toNat i) default)))=AV.pv (PV.rptr (PV.cells ((enc) y0)))∧((decide (0<=i)&&decide (Int.toNat i<List.length (List.map enc p))&&Enc.sz Int==1)=true∧(∃ y1:Int,AV.pv (PV.rptr (PV.cells (List.getD (List.map enc p) (Int.toNat i) default)))=AV.pv (PV.rptr (PV.cells ((enc) y1)))∧((List.length (List.map enc vs)==q&&q==q&&decide ((q+List.length (List.drop 0 (List.take 1 [PV.agg [Sh.co Sh.str (List.getD (PV.cells (enc y0)) 0 default),Sh.co (Sh.int .i64) (List.getD (PV.cells (enc y1)) 0 default)]])))*24<=1099511627776)&&decide (q+List.length (List.drop 0 (List.take 1 [PV.agg [Sh.co Sh.str (List.getD (PV.cells (enc y0)) 0 default),Sh.co (Sh.int .i64) (List.getD (PV.cells (enc y1)) 0 default)]]))<=1099511627776))=true∧(At Vo 0 (Za Wo G) Wh 0 34 [(1,(.pv (.sl 1 false (List.map enc p)))),(2,(.ptr 0 0)),(5,(.row 1 (q+List.length (List.drop 0 (List.take 1 [PV.agg [Sh.co Sh.str (List.getD (PV.cells (enc y0)) 0 default),Sh.co (Sh.int .i64) (List.getD (PV.cells (enc y1)) 0 default)]]))) 0 (q+List.length (List.drop 0 (List.take 1 [PV.agg [Sh.co Sh.str (List.getD (PV.cells (enc y0)) 0 default),Sh.co (Sh.int .i64) (List.getD (PV.cells (enc y1)) 0 default)]]))))),(6,(.pv (.int .i64 (IntKind.wrap IntKind.i64 (i+1)))))] [(.obj (.box [(.pv (.sl 1 false (List.map enc b.v))),(.pv (.int .i64 b.m))])),(.obj (.row false 63 2 (List.map enc vs++List.drop 0 (List.take 1 [PV.agg [Sh.co Sh.str (List.getD (PV.cells (enc y0)) 0 default),Sh.co (Sh.int .i64) (List.getD (PV.cells (enc y1)) 0 default)]]))))])))))else((List.length (List.map enc vs)==q)=true∧(G ((.sl 2 false (List.drop 0 (List.take q (List.map enc vs)))))))else((List.length (List.map enc vs)==q)=true∧(G ((.sl 2 false (List.drop 0 (List.take q (List.map enc vs)))))))):At Vo 0 (Za Wo G) Wh 0 34 [(1,.pv (enc p)),(2,.ptr 0 0),(5,.row 1 q 0 q),(6,.pv (.int .i64 i))] [.obj (.box [.pv (enc b.v),.pv (.int .i64 b.m)]),.obj (.row false 63 2 (vs.map enc))]:=At.tp (.lit (.ask (.lit (.lit (.lit (.lit (.lit (.ask (.req (.abs (Str) (fun YY=>AV.pv (PV.rptr (PV.cells ((enc) YY)))) (.lit (.req (.abs (Int) (fun YY=>AV.pv (PV.rptr (PV.cells ((enc) YY)))) (.lit (.lit (.lit (.req (.lit (.nil))))))))))) (.req (.nil)))))))) (.lit (.lit (.lit (.lit (.lit (.req (.nil))))))))) h (by kernel_rfl)
def VG:IC:=(.seq (.reg [⟨(some 2),(.box 2 (.t 0)),0,none⟩,⟨(some 4),(.mv (.c (.bool false))),1,none⟩] none) (.seq (.reg [⟨(some 5),(.mv (.c (.int .i64 1))),0,none⟩] none) (.seq (.seq (.reg [⟨(some 6),(.mv (.c (.int .i64 0))),0,none⟩] none) (.block 0 (.loop [6,2,5,1] (.seq (.seq (.reg [⟨(some 7),(.mv (.t 6)),0,none⟩,⟨(some 8),(.faddr 0 (.t 2)),0,none⟩,⟨(some 9),(.load false [(.sl 1)] (.t 8)),0,none⟩,⟨(some 10),(.len 1 (.t 9)),0,none⟩,⟨(some 11),(.bin .num .lss (.t 7) (.t 10)),0,none⟩,⟨(some 12),(.mv (.t 11)),0,none⟩,⟨(some 13),(.load true [(.sl 1),(.int .i64)] (.t 2)),0,(some (12,true))⟩,⟨(some 14),(.call (.c (.fn 51)) [(.t 13)]),0,(some (12,true))⟩,⟨(some 15),(.pick (.t 12) (.t 14) (.c (.bool false))),2,none⟩] none) (.cond (.t 15) .skip (.exit 0))) (.seq (.block 1 (.reg [⟨(some 18),(.mv (.t 5)),0,none⟩,⟨(some 19),(.faddr 1 (.t 2)),0,none⟩,⟨(some 20),(.load false [(.int .i64)] (.t 19)),0,none⟩,⟨(some 21),(.bin .num .add (.t 20) (.c (.int .i64 1))),0,none⟩,⟨(some 22),(.bin .num .mul (.t 18) (.t 21)),0,none⟩,⟨(some 5),(.mv (.t 22)),0,none⟩] none)) (.reg [⟨(some 16),(.mv (.t 6)),0,none⟩,⟨(some 17),(.bin .num .add (.t 16) (.c (.int .i64 1))),0,none⟩,⟨(some 6),(.mv (.t 17)),0,none⟩] none)))))) (.seq (.reg [⟨(some 23),(.faddr 0 (.t 2)),0,none⟩,⟨(some 24),(.load false [(.sl 1)] (.t 23)),0,none⟩,⟨(some 25),(.len 1 (.t 24)),0,none⟩,⟨(some 26),(.bin .num .leq (.t 25) (.c (.int .i64 5))),0,none⟩,⟨(some 27),(.mv (.t 26)),0,none⟩,⟨(some 28),(.mv (.t 5)),0,(some (27,true))⟩,⟨(some 29),(.bin .num .leq (.t 28) (.c (.int .i64 300))),0,(some (27,true))⟩,⟨(some 30),(.pick (.t 27) (.t 29) (.c (.bool false))),0,none⟩,⟨(some 31),(.mv (.t 30)),0,none⟩,⟨(some 32),(.mv (.t 1)),0,(some (31,true))⟩,⟨(some 33),(.len 1 (.t 32)),0,(some (31,true))⟩,⟨(some 34),(.bin .num .leq (.t 33) (.c (.int .i64 6))),0,(some (31,true))⟩,⟨(some 35),(.pick (.t 31) (.t 34) (.c (.bool false))),0,none⟩,⟨(some 36),(.mv (.t 35)),0,none⟩,⟨(some 37),(.mv (.t 1)),0,(some (36,true))⟩,⟨(some 38),(.call (.c (.fn 31)) [(.t 37),(.c (.int .i64 6))]),0,(some (36,true))⟩,⟨(some 39),(.pick (.t 36) (.t 38) (.c (.bool false))),2,none⟩,⟨(some 4),(.mv (.t 39)),2,none⟩] none) .ret))))
def Wj:List IRes:=[(.tmp 4)]
abbrev a5n:Nat:=40
def Vr:ZE:=Xg [(51,.pure (preT (fun x:BoxT×Unit=>ZT x.1)) (Zf (fun x:BoxT×Unit=>Xy x.1))),(31,.pure (preT (fun x:List Fact×Int×Unit=>YQ x.1)) (Zf (fun x:List Fact×Int×Unit=>D5 x.1 x.2.1)))]
theorem a8h{G:PV->Prop}(b:BoxT)(fs:List Fact)(h:At Vr 0 (Za Wj G) VG 0 40 [(1,(.pv (.sl 3 false (List.map enc fs)))),(2,(.ptr 0 0)),(5,(.pv (.int .i64 1))),(6,(.pv (.int .i64 0)))] [(.obj (.box [(.pv (.sl 1 false (List.map enc b.v))),(.pv (.int .i64 b.m))]))]):Zc Vr 0 (Za Wj G) VG [] (Yz 40 [enc b,enc fs]):=Zc.tp (.nil) h (by kernel_rfl)
theorem K3{G:PV->Prop}(b:BoxT)(fs:List Fact)(n i:Int)(h:if (decide (i<(↑(List.length (List.map enc b.v)):Int)))=true then(Go.Pl.preT (fun(x:BoxT×Unit)=>ZT x.1) [(.agg [(.sl 1 false (List.map enc b.v)),(.int .i64 b.m)])])=true∧(∃ y0:Bool,AV.pv (Zf (fun(x:BoxT×Unit)=>Xy x.1) [(.agg [(.sl 1 false (List.map enc b.v)),(.int .i64 b.m)])])=AV.pv (enc y0)∧(if (y0)=true then At Vr 0 (Za Wj G) VG 0 40 [(1,(.pv (.sl 3 false (List.map enc fs)))),(2,(.ptr 0 0)),(5,(.pv (.int .i64 (IntKind.wrap IntKind.i64 (n*IntKind.wrap IntKind.i64 (BoxT.m b+1)))))),(6,(.pv (.int .i64 (IntKind.wrap IntKind.i64 (i+1)))))] [(.obj (.box [(.pv (.sl 1 false (List.map enc b.v))),(.pv (.int .i64 b.m))]))]else(if (decide ((↑(List.length (List.map enc b.v)):Int)<=5))=true then if (decide (n<=300))=true then if (decide ((↑(List.length (List.map enc fs)):Int)<=6))=true then(Go.Pl.preT (fun(x:List Fact×Int×Unit)=>YQ x.1) [(.sl 3 false (List.map enc fs)),(.int .i64 6)])=true∧(∃ y1:Bool,AV.pv (Zf (fun(x:List Fact×Int×Unit)=>D5 x.1 x.2.1) [(.sl 3 false (List.map enc fs)),(.int .i64 6)])=AV.pv (enc y1)∧(G ((.bool y1))))else(G ((.bool false)))else(G ((.bool false)))else(G ((.bool false))))))else(if (decide ((↑(List.length (List.map enc b.v)):Int)<=5))=true then if (decide (n<=300))=true then if (decide ((↑(List.length (List.map enc fs)):Int)<=6))=true then(Go.Pl.preT (fun(x:List Fact×Int×Unit)=>YQ x.1) [(.sl 3 false (List.map enc fs)),(.int .i64 6)])=true∧(∃ y2:Bool,AV.pv (Zf (fun(x:List Fact×Int×Unit)=>D5 x.1 x.2.1) [(.sl 3 false (List.map enc fs)),(.int .i64 6)])=AV.pv (enc y2)∧(G ((.bool y2))))else(G ((.bool false)))else(G ((.bool false)))else(G ((.bool false))))):At Vr 0 (Za Wj G) VG 0 40 [(1,.pv (enc fs)),(2,.ptr 0 0),(5,.pv (.int .i64 n)),(6,.pv (.int .i64 i))] [.obj (.box [.pv (enc b.v),.pv (.int .i64 b.m)])]:=At.tp (.lit (.ask (.lit (.req (.abs (Bool) (fun YY=>AV.pv (enc YY)) (.lit (.ask (.lit (.lit (.lit (.nil)))) (.lit (.ask (.lit (.lit (.lit (.ask (.lit (.lit (.lit (.lit (.ask (.lit (.req (.abs (Bool) (fun YY=>AV.pv (enc YY)) (.lit (.nil))))) (.lit (.lit (.nil)))))))) (.lit (.lit (.lit (.lit (.lit (.lit (.nil))))))))))) (.lit (.lit (.lit (.lit (.lit (.lit (.lit (.lit (.lit (.nil))))))))))))))))) (.lit (.lit (.lit (.lit (.ask (.lit (.lit (.lit (.ask (.lit (.lit (.lit (.lit (.ask (.lit (.req (.abs (Bool) (fun YY=>AV.pv (enc YY)) (.lit (.nil))))) (.lit (.lit (.nil)))))))) (.lit (.lit (.lit (.lit (.lit (.lit (.nil))))))))))) (.lit (.lit (.lit (.lit (.lit (.lit (.lit (.lit (.lit (.nil))))))))))))))))) h (by kernel_rfl)
end Go.Pl

namespace Go.Pl
open Go.RowKit
open Enc (enc dec is)
open EncL (encL decL isL)
def gwL(m:Int):List Str->List Str->Int->Bool
 | _,[],n=>decide (m ≥ 0)&&decide (n<=20000)
 | seen,s::r,n=>ZA s&& !decide (m ≥ 20000)&& !seen.contains s&&gwL m (seen++[s]) r (if n<=20000 then XO (n*XO (m+1))else n)
theorem a1q{m:Int}(hm:m<0): ∀ (r seen:List Str) (n:Int),gwL m seen r n=false
 | [],seen,n=>by rw[gwL,decide_eq_false (by omega)];rfl
 | s::r,seen,n=>by rw[gwL,a1q hm r];simp
theorem b7y{m:Int}(hm:m<0): ∀ (r seen:List Str) (n:Int),gvL m seen r n=false
 | [],seen,n=>by rw[gvL,decide_eq_false (by omega)]
 | s::r,seen,n=>by rw[gvL,decide_eq_true hm];simp
theorem EQ(m:Int): ∀ (r seen:List Str) (n:Int),20000<n->gwL m seen r n=false
 | [],seen,n,h=>by rw[gwL,decide_eq_false (show ¬ n<=20000 by omega),Bool.and_false]
 | s::r,seen,n,h=>by rw[gwL,if_neg (by omega),EQ m r _ n h];simp
theorem ER(m:Int): ∀ (r seen:List Str) (n:Int),1<=n->n<=20000->gwL m seen r n=gvL m seen r n
 | [],seen,n,h1,h2=>by rw[gwL,gvL,decide_eq_true h2,Bool.and_true]
 | s::r,seen,n,h1,h2=>by
  by_cases hm:m<0
  ·rw[a1q hm,b7y hm]
  ·rw[gwL,gvL,if_pos h2,decide_eq_false hm]
   by_cases hb:m ≥ 20000
   ·rw[decide_eq_true hb];simp
   ·have q1:m+1<=20000:=by omega
    have q2:1<=m+1:=by omega
    have hm2:n*(m+1)<=20000*20000:=Int.le_trans (Int.mul_le_mul_of_nonneg_left q1 (by omega)) (Int.mul_le_mul_of_nonneg_right h2 (by omega))
    have hm1:1<=n*(m+1):=by
     have:=Int.mul_le_mul h1 q2 (by omega) (by omega)
     omega
    rw[Wx (n:=m+1) (by omega) (by omega),Wx (n:=n*(m+1)) (by omega) (by omega),decide_eq_false hb]
    by_cases hn:n*(m+1)>20000
    ·rw[decide_eq_true hn,EQ _ _ _ _ hn];simp
    ·rw[decide_eq_false hn,ER m r _ _ hm1 (by omega)]
     cases ZA s <;> cases seen.contains s <;> rfl
theorem c3q(b:BoxT)(R:Bool)(n:Int){i:Nat}(hi:i<b.v.length)(hl:b.v.length<=9223372036854775807)(hyes:(b.v.take i).contains b.v[i]=true->R=false)
  (hno:(b.v.take i).contains b.v[i]=false->At QO 0 (Za VO (Zm R)) Vz 0 55 [(1,.ptr 0 0),(3,.pv (.int .i64 (if n<=20000 then XO (n*XO (b.m+1))else n))),(4,.pv (.int .i64 ((i+1:Nat):Int)))] [.obj (.box [.pv (enc b.v),.pv (.int .i64 b.m)])]) :
  ∀ (d k:Nat),d+k=i->(∀ j (h:j<b.v.length),j<k->b.v[j]≠b.v[i]) ->
  At QO 0 (Za VO (Zm R)) Vz 1 55 [(1,.ptr 0 0),(3,.pv (.int .i64 n)),(4,.pv (.int .i64 i)),(5,.pv (.int .i64 k))] [.obj (.box [.pv (enc b.v),.pv (.int .i64 b.m)])]:=by
 intro d
 induction d with
 | zero=>
  intro k hk hne
  obtain rfl:k=i:=by omega
  have hc:(b.v.take k).contains b.v[k]=false:=by
   rw[<- Bool.not_eq_true,List.contains_iff_mem]
   intro hm
   obtain⟨j,hj,e⟩:=List.getElem_of_mem hm
   rw[List.length_take]at hj
   rw[List.getElem_take]at e
   exact hne j (by omega) (by omega) e
  have:=hno hc
  refine b6k b n k k (Z0 (Yd (by omega)) (WR (fun h=> ?_) fun h=> ?_))
  ·rw[if_pos h]at this
   rw[next (by omega)]
   exact this
  ·rw[if_neg h]at this
   rw[next (by omega)]
   exact this
 | succ d ih=>
  intro k hk hne
  have hkl:k<b.v.length:=by omega
  refine b6k b n i k (ZV (Ya (by omega)) ⟨ZB hkl rfl,ZY hkl ⟨ZB hi rfl,ZY hi (JZ (fun h=> ?_) fun h=> ?_)⟩⟩)
  ·have e:b.v[k]=b.v[i]:=by
    have h:b.v[k].s=b.v[i].s:=h
    cases hx:b.v[k];cases hy:b.v[i]
    rw[hx,hy]at h
    exact congrArg Str.mk h
   refine ZZ (hyes ?_).symm
   rw[List.contains_iff_mem,<- e,List.mem_take_iff_getElem]
   exact⟨k,by omega,rfl⟩
  ·rw[next (by omega)]
   refine ih (k+1) (by omega) fun j hj hjk=> ?_
   by_cases e:j=k
   ·subst e
    intro e2
    exact h (congrArg Str.s e2)
   ·exact hne j hj (by omega)
theorem b1q(b:BoxT)(hl:b.v.length<=9223372036854775807): ∀ (d i:Nat) (n:Int),d+i=b.v.length ->
  At QO 0 (Za VO (Zm (gwL b.m (b.v.take i) (b.v.drop i) n))) Vz 0 55 [(1,.ptr 0 0),(3,.pv (.int .i64 n)),(4,.pv (.int .i64 i))] [.obj (.box [.pv (enc b.v),.pv (.int .i64 b.m)])]:=by
 intro d
 induction d with
 | zero=>
  intro i n hi
  rw[List.drop_of_length_le (by omega)]
  refine b2m b n i (Z0 (UJ (by omega)) ?_)
  rw[gwL]
  refine WR (fun h=> ?_) fun h=> ?_
  ·rw[decide_eq_true h];exact ZZ rfl
  ·rw[decide_eq_false h];exact ZZ rfl
 | succ d ih=>
  intro i n hi
  have hlt:i<b.v.length:=by omega
  have hd:b.v.drop i=b.v[i]::b.v.drop (i+1):=List.drop_eq_getElem_cons hlt
  have ht:b.v.take (i+1)=b.v.take i++[b.v[i]]:=List.take_succ_eq_append_getElem hlt
  rw[hd,gwL]
  refine b2m b n i (ZV (Uj hlt) ⟨ZB hlt rfl,ZY hlt (Zj (b.v[i],()) rfl (Vu (fun h=> ?_) fun h=>WR (fun h2=> ?_) fun h2=> ?_))⟩)
  ·have h:ZA b.v[i]=false:=h
   rw[h];exact ZZ rfl
  ·rw[decide_eq_true h2];simp only[Bool.not_true,Bool.and_false,Bool.false_and];exact ZZ rfl
  ·have h:ZA b.v[i]=true:=h
   rw[decide_eq_false h2,h]
   simp only[Bool.not_false,Bool.true_and,Bool.and_true]
   refine c3q b _ n hlt hl (fun hc=>by rw[hc];rfl) (fun hc=> ?_) i 0 (by omega) (fun j _ hj=>by omega)
   rw[hc,Bool.not_false,Bool.true_and,<- ht]
   exact ih (i+1) _ (by omega)
theorem b9d: ∀ a:BoxT×Unit,ZT a.1=true->Zc QO 0 (Za VO (Zm (Xy a.1))) Vz [] (Yz c4i (encL a)):=by
 rintro⟨b,⟨⟩⟩ h
 simp only[ZT,WF,Bool.and_eq_true]at h
 rw[<- EK,<- ER b.m b.v [] 1 (by decide) (by decide)]
 exact c7h b (b1q b (Z8.1 h.1) b.v.length 0 1 (by omega))
theorem Ml(b:BoxT)(p:List Int)(hb:b.v.length<=1000)(hp:p.length<=9223372036854775807): ∀ (k i:Nat),k+i=min b.v.length p.length->1<=i ->
  At Vo 0 (Za Wo (Zm (Zd b.v p))) Wh 0 34 [(1,.pv (enc p)),(2,.ptr 0 0),(5,.row 1 i 0 i),(6,.pv (.int .i64 i))] [.obj (.box [.pv (enc b.v),.pv (.int .i64 b.m)]),.obj (.row false 63 2 ((Zd (b.v.take i) (p.take i)).map enc))]:=by
 intro k
 induction k with
 | zero=>
  intro i hi h1
  have hl:=Hz b.v p (i:=i) (by omega) (by omega)
  have fin:Zm (Zd b.v p) (PV.sl 2 false (List.drop 0 (List.take i (List.map enc (Zd (b.v.take i) (p.take i)))))):=by
   rw[List.drop_zero,List.take_of_length_le (by rw[List.length_map,hl];exact Nat.le_refl _),Lx b.v p (by omega)]
   exact ZK (x:=Zd b.v p) rfl
  by_cases hbl:i<b.v.length
  ·exact J4 b p i i (Zd (b.v.take i) (p.take i)) (ZV (Uj hbl) (Z0 (UJ (by omega)) ⟨by simp[hl],fin⟩))
  ·exact J4 b p i i (Zd (b.v.take i) (p.take i)) (Z0 (UJ hbl) ⟨by simp[hl],fin⟩)
 | succ k ih=>
  intro i hi h1
  have hl:=Hz b.v p (i:=i) (by omega) (by omega)
  have hlt:i<b.v.length:=by omega
  have hlt2:i<p.length:=by omega
  refine J4 b p i i (Zd (b.v.take i) (p.take i)) (ZV (Uj hlt) (ZV (Uj hlt2) ⟨ZB hlt rfl,ZY hlt ⟨ZB hlt2 rfl,ZY hlt2 ⟨?_,?_⟩⟩⟩))
  ·rw[List.length_map,hl]
   show((i==i)&&(i==i)&&decide ((i+1)*24<=1099511627776)&&decide (i+1<=1099511627776))=true
   rw[decide_eq_true (by omega),decide_eq_true (by omega)];simp
  ·have:=ih (i+1) (by omega) (by omega)
   rw[Jc b.v p hlt hlt2,List.map_append,<- next (by omega)]at this
   exact this
theorem Ee: ∀ a:BoxT×List Int×Unit,(decide (a.1.v.length<=1000)&&Zx a.2.1)=true->Zc Vo 0 (Za Wo (Zm (Zd a.1.v a.2.1))) Wh [] (Yz a6k (encL a)):=by
 rintro⟨b,p,⟨⟩⟩ h
 simp only[Bool.and_eq_true,decide_eq_true_eq]at h
 obtain⟨h1,h2⟩:=h
 refine a7d b p ?_
 have hl2:=Z8.1 h2
 by_cases h0:min b.v.length p.length=0
 ·have:Zd b.v p=[]:=by
   rw[<- List.length_eq_zero_iff];unfold Zd;rw[List.length_zipWith];exact h0
  rw[this]
  by_cases hbl:0<b.v.length
  ·exact JL b p ((0:Nat):Int) (ZV (Uj hbl) (Z0 (UJ (by omega)) ⟨rfl,rfl⟩))
  ·exact JL b p ((0:Nat):Int) (Z0 (UJ hbl) ⟨rfl,rfl⟩)
 ·have hlt:0<b.v.length:=by omega
  have hlt2:0<p.length:=by omega
  refine JL b p ((0:Nat):Int) (ZV (Uj hlt) (ZV (Uj hlt2) ⟨ZB hlt rfl,ZY hlt ⟨ZB hlt2 rfl,ZY hlt2 ?_⟩⟩))
  have:=Ml b p h1 hl2 (min b.v.length p.length - 1) 1 (by omega) (by omega)
  rw[show(1:Nat)=0+1 from rfl,Jc b.v p hlt hlt2]at this
  exact this
end Go.Pl

namespace Go.Pl
open Go.RowKit
open Enc (enc dec is)
open EncL (encL decL isL)
def b2w(m:Int):Nat->Int->Int
 | 0,n=>n
 | k+1,n=>b2w m k (XO (n*XO (m+1)))
theorem JY(b:BoxT)(fs:List Fact)(hl:b.v.length<=9223372036854775807)(hf:YQ fs=true)(n:Int){P:Prop}{G:PV->Prop}(hG : ∀ x,x=(decide (b.v.length<=5)&&decide (n<=300)&&decide (fs.length<=6)&&D5 fs 6)->G (.bool x)):
  if (decide ((↑(List.length (List.map (enc:Str->PV) (BoxT.v b))):Int)<=5))=true then if (decide (n<=300))=true then if (decide ((↑(List.length (List.map (enc:Fact->PV) fs)):Int)<=6))=true then
   (Go.Pl.preT (fun(x:List Fact×Int×Unit)=>YQ (Prod.fst x)) [(.sl 3 false (List.map enc fs)),(.int .i64 6)])=true∧(∃ y1:Bool,AV.pv (Zf (fun(x:List Fact×Int×Unit)=>D5 (Prod.fst x) (Prod.fst (Prod.snd x))) [(.sl 3 false (List.map enc fs)),(.int .i64 6)])=AV.pv (enc y1)∧(G ((.bool y1))))else(G ((.bool false)))else(G ((.bool false)))else(G ((.bool false))):=by
 simp only[List.length_map]
 refine WR (fun h1=>WR (fun h2=>WR (fun h3=>⟨Zl (fs,6,()) rfl hf,Zj (fs,6,()) rfl (hG _ ?_)⟩) fun h3=>hG _ ?_) fun h2=>hG _ ?_) fun h1=>hG _ ?_
 ·rw[decide_eq_true (show b.v.length<=5 by omega),decide_eq_true h2,decide_eq_true (show fs.length<=6 by omega)];rfl
 ·rw[decide_eq_false (show ¬ fs.length<=6 by omega)];simp
 ·rw[decide_eq_false h2];simp
 ·rw[decide_eq_false (show ¬ b.v.length<=5 by omega)];simp
theorem MH(b:BoxT)(fs:List Fact)(hb:ZT b=true)(hv:Xy b=true)(hf:YQ fs=true): ∀ (k i:Nat) (n:Int),k+i=b.v.length ->
  At Vr 0 (Za Wj (Zm (decide (b.v.length<=5)&&decide (b2w b.m k n<=300)&&decide (fs.length<=6)&&D5 fs 6))) VG 0 40 [(1,.pv (enc fs)),(2,.ptr 0 0),(5,.pv (.int .i64 n)),(6,.pv (.int .i64 i))] [.obj (.box [.pv (enc b.v),.pv (.int .i64 b.m)])]:=by
 have hbo:=hb
 simp only[ZT,WF,Bool.and_eq_true]at hb
 have hl:=Z8.1 hb.1
 intro k
 induction k with
 | zero=>
  intro i n hi
  exact K3 b fs n i (Z0 (UJ (by omega)) (JY (P:=True) b fs hl hf n fun x hx=>ZZ hx))
 | succ k ih=>
  intro i n hi
  have hlt:i<b.v.length:=by omega
  refine K3 b fs n i (ZV (Uj hlt) ⟨Zl (b,()) rfl hbo,Zj (b,()) rfl (ZV hv ?_)⟩)
  rw[next (by omega)]
  exact ih (i+1) _ (by omega)
theorem MX(m:Nat): ∀ (l:List Str) (n r:Int),0<=n->n<=20000->Jw m l n=some r->m<=20000->b2w m l.length n=a0p m l n
 | [],n,r,_,_,_,_=>rfl
 | s::l,n,r,h0,h1,h,hm=>by
  rw[Jw]at h
  split at h
  ·cases h
  ·rename_i hn
   show b2w m l.length (XO (n*XO ((m:Int)+1)))=a0p m l (n*((m:Int)+1))
   have e0:0<=n*((m:Int)+1):=Int.mul_nonneg h0 (by omega)
   rw[Wx (n:=(m:Int)+1) (by omega) (by omega),Wx (by omega) (by omega)]
   exact MX m l _ r e0 (by omega) h hm
theorem Fs: ∀ x:BoxT×List Fact×Unit,(ZT x.1&&YQ x.2.1)=true->Zc Vr 0 (Za Wj (Zm (Qb x.1 x.2.1))) VG [] (Yz a5n (encL x)):=by
 rintro⟨b,fs,⟨⟩⟩ h
 simp only[Bool.and_eq_true]at h
 obtain⟨hb,hf⟩:=h
 have hbo:=hb
 simp only[ZT,WF,Bool.and_eq_true]at hb
 have hl:=Z8.1 hb.1
 refine a8h b fs ?_
 cases hv:Xy b
 ·have ef:Qb b fs=(decide (b.v.length<=5)&&decide ((1:Int)<=300)&&decide (fs.length<=6)&&D5 fs 6):=by unfold Qb;rw[hv];rfl
  show At Vr 0 (Za Wj (Zm (Qb b fs))) _ _ _ _ _
  rw[ef]
  by_cases h0:0<b.v.length
  ·refine K3 b fs 1 ((0:Nat):Int) (ZV (Uj h0) ⟨Zl (b,()) rfl hbo,Zj (b,()) rfl (Z0 (show ¬ Xy b=true by simp[hv]) ?_)⟩)
   exact JY (P:=True) b fs hl hf 1 fun x hx=>ZZ hx
  ·exact K3 b fs 1 ((0:Nat):Int) (Z0 (UJ h0) (JY (P:=True) b fs hl hf 1 fun x hx=>ZZ hx))
 ·have ef:Qb b fs=(decide (b.v.length<=5)&&decide (b2w b.m b.v.length 1<=300)&&decide (fs.length<=6)&&D5 fs 6):=by
   unfold Qb
   rw[hv,if_pos rfl]
   obtain⟨_,_,h3,h4,h5⟩:=Ue.1 hv
   obtain⟨r,hr⟩:=Option.isSome_iff_exists.1 h5
   rcases h3 with h3|h3
   ·rw[h3];rfl
   ·have e:b.m=(b.m.toNat:Int):=by omega
    rw[e]at hr ⊢
    rw[MX _ _ _ _ (by decide) (by decide) hr (by omega)]
  show At Vr 0 (Za Wj (Zm (Qb b fs))) _ _ _ _ _
  rw[ef]
  exact MH b fs hbo hv hf b.v.length 0 1 (by omega)
end Go.Pl

namespace Go.Pl
open Go.RowKit
open Enc (enc dec is)
open EncL (encL decL isL)
set_option maxRecDepth 100000
end Go.Pl

namespace Go.Pl
open Go.RowKit
open Enc (enc dec is)
open EncL (encL decL isL)
theorem Tq(v a b:List Str):Gj v (a++b)=(Gj v a&&Gj v b):=by unfold Gj;rw[List.all_append]
theorem b8n{b:BoxT}(h:Xy b=true): ∀ y∈Ha b.m.toNat b.v.length,∀ x∈y,-1<=x∧x<=20000:=by
 intro y hy x hx
 obtain⟨q1,q2⟩:=Hw.1 hy
 have:=q2 x hx
 obtain⟨_,_,h3,h4,_⟩:=Ue.1 h
 rcases h3 with h3|h3
 ·rw[h3]at q1
  rw[List.length_eq_zero_iff.1 q1]at hx
  cases hx
 ·omega
end Go.Pl

namespace Go.Pl
open Go.RowKit
open Enc (enc dec is)
open EncL (encL decL isL)
def ZH(m n:Int):Bool:=decide (m<n)
def Z5(m n:Int):Bool:=decide (m>n)
def XP(g:Nat):List AV->List AObj->Bool
 | [.pv (.int .i64 n),.ptr 0 0,.ptr 1 0,.ptr 2 0],[.box [.pv (.bool s)],.box [.pv (.fn g')],.box [.pv (.int .i64 z)]]=>g'==g
 | _,_=>false
def WI(f:Int->Int->Bool):List AV->List AObj->AV×List AObj×List AObj
 | [.pv (.int .i64 n),_,_,_],[.box [.pv (.bool s)],.box [.pv (.fn g)],.box [.pv (.int .i64 z)]]=>(.tup [],[.box [.pv (.bool true)],.box [.pv (.fn g)],.box [.pv (.int .i64 (if !s||f n z then n else z))]],[])
 | _,_=>Wz
def X5(f:Int->Int->Bool):List Int->Option Int
 | []=>none
 | x::l=>some (l.foldl (fun z n=>if f n z then n else z) x)
def Zt(b:BoxT)(fs:List Fact)(l:Lin):List Int:=(ZR b fs).map fun p=>(ZX l (Zd b.v p)).1
def YA(b:BoxT)(fs:List Fact)(l:Lin):Bool:=ZT b&&Zp fs&&decide (fs.length<=100)&&decide (b.v.length<=1000)&&ZP l&&decide (l.t.length<=1000)
def Yw(f:Int->Int->Bool)(b:BoxT)(fs:List Fact)(l:Lin):Int×Int:=
 if Zo b fs (Zg l) (Ze l)=0 then(match X5 f (Zt b fs l)with|none=>(0,9)|some z=>(z,0))else(0,Zo b fs (Zg l) (Ze l))
end Go.Pl

namespace Go.Pl
open Go.RowKit
open Enc (enc dec is)
open EncL (encL decL isL)
set_option maxRecDepth 100000
def OP:IC:=(.seq (.reg [⟨(some 4),(.mv (.c (.bool false))),0,none⟩] none) (.seq (.reg [⟨(some 5),(.mv (.t 0)),0,none⟩,⟨(some 6),(.mv (.t 1)),0,none⟩,⟨(some 7),(.bin .num .lss (.t 5) (.t 6)),0,none⟩,⟨(some 4),(.mv (.t 7)),0,none⟩] none) .ret))
def FN:List IRes:=[(.tmp 4)]
abbrev c4a:Nat:=8
def b6j:ZE:=Xg []
theorem c7i{G:PV->Prop}(m n:Int)(h:G ((.bool (decide (m<n))))):Zc b6j 0 (Za FN G) OP [] (Yz 8 [enc m,enc n]):=Zc.tp (.lit (.nil)) h (by kernel_rfl)
def Es:IC:=(.seq (.reg [⟨(some 4),(.mv (.c (.bool false))),0,none⟩] none) (.seq (.reg [⟨(some 5),(.mv (.t 0)),0,none⟩,⟨(some 6),(.mv (.t 1)),0,none⟩,⟨(some 7),(.bin .num .gtr (.t 5) (.t 6)),0,none⟩,⟨(some 4),(.mv (.t 7)),0,none⟩] none) .ret))
def OZ:List IRes:=[(.tmp 4)]
abbrev c4o:Nat:=8
def b6b:ZE:=Xg []
theorem c7p{G:PV->Prop}(m n:Int)(h:G ((.bool (decide (m>n))))):Zc b6b 0 (Za OZ G) Es [] (Yz 8 [enc m,enc n]):=Zc.tp (.lit (.nil)) h (by kernel_rfl)
def Cq:IC:=(.seq (.reg [⟨(some 5),(.load false [.bool] (.t 1)),0,none⟩,⟨(some 6),(.un .not (.t 5)),0,none⟩,⟨(some 7),(.mv (.t 6)),0,none⟩,⟨(some 8),(.load false [.any] (.t 2)),0,(some (7,false))⟩,⟨(some 9),(.mv (.t 0)),0,(some (7,false))⟩,⟨(some 10),(.load false [(.int .i64)] (.t 3)),0,(some (7,false))⟩,⟨(some 11),(.call (.t 8) [(.t 9),(.t 10)]),0,(some (7,false))⟩,⟨(some 12),(.pick (.t 7) (.c (.bool true)) (.t 11)),2,none⟩] none) (.cond (.t 12) (.reg [⟨(some 13),(.mv (.t 0)),0,none⟩,⟨none,(.store 1 (.t 3) (.t 13)),0,none⟩,⟨none,(.store 1 (.t 1) (.c (.bool true))),0,none⟩] none) .skip))
def Rw:List IRes:=[]
abbrev c1t:Nat:=14
def Et:ZE:=Xg [(128,.pure (preT (fun _:Int×Int×Unit=>true)) (Zf (fun x:Int×Int×Unit=>decide (x.1<x.2.1))))]
theorem c4z{G:AV×List AObj×List AObj->Prop}(n:Int)(s:Bool)(z:Int)(h:if (!s)=true then G (((.tup []),([(.box [(.pv (.bool true))]),(.box [(.pv (.fn 128))]),(.box [(.pv (.int .i64 n))])],[])))else(∃ y0:Bool,AV.pv (Zf (fun(x:Int×Int×Unit)=>decide (x.1<x.2.1)) [(.int .i64 n),(.int .i64 z)])=AV.pv (enc y0)∧(if (y0)=true then G (((.tup []),([(.box [(.pv (.bool true))]),(.box [(.pv (.fn 128))]),(.box [(.pv (.int .i64 n))])],[])))else(G (((.tup []),([(.box [(.pv (.bool s))]),(.box [(.pv (.fn 128))]),(.box [(.pv (.int .i64 z))])],[]))))))):Zc Et 3 (Zk 3 Rw G) Cq [] (YD 14 [.pv (.int .i64 n),.ptr 0 0,.ptr 1 0,.ptr 2 0] [.box [.pv (.bool s)],.box [.pv (.fn 128)],.box [.pv (.int .i64 z)]]):=Zc.to (.ask (.lit (.lit (.lit (.lit (.lit (.nil)))))) (.lit (.lit (.lit (.lit (.abs (Bool) (fun YY=>AV.pv (enc YY)) (.lit (.ask (.nil) (.nil))))))))) h (by kernel_rfl)
def Vk:IC:=(.seq (.reg [⟨(some 4),(.box 2 (.t 0)),0,none⟩,⟨(some 6),(.box 2 (.t 2)),1,none⟩,⟨(some 7),(.box 1 (.t 3)),2,none⟩,⟨(some 8),(.alloc (.int .i64 0)),3,none⟩,⟨(some 9),(.alloc (.int .i64 0)),4,none⟩] none) (.seq (.seq (.reg [⟨(some 18),(.load true [(.sl 1),(.int .i64)] (.t 4)),0,none⟩,⟨(some 19),(.mv (.t 1)),0,none⟩,⟨(some 20),(.load true [(.int .i64),(.sl 2)] (.t 6)),0,none⟩,⟨(some 21),(.call (.c (.fn 73)) [(.t 20)]),0,none⟩,⟨(some 22),(.load true [(.int .i64),(.sl 2)] (.t 6)),2,none⟩,⟨(some 23),(.call (.c (.fn 174)) [(.t 22)]),2,none⟩,⟨(some 24),(.call (.c (.fn 116)) [(.t 18),(.t 19),(.t 21),(.t 23)]),4,none⟩,⟨(some 10),(.mv (.t 24)),6,none⟩] (some [[],[],[],[2],[],[4,3,2],[0,1,3,5,2,4],[6,0,1,2,3,4,5]])) (.seq (.reg [⟨(some 25),(.mv (.t 10)),0,none⟩,⟨(some 26),(.bin .num .neq (.t 25) (.c (.int .i64 0))),0,none⟩] none) (.cond (.t 26) (.seq (.reg [⟨(some 27),(.mv (.t 10)),0,none⟩,⟨none,(.store 1 (.t 8) (.c (.int .i64 0))),0,none⟩,⟨none,(.store 1 (.t 9) (.t 27)),0,none⟩] none) .ret) .skip))) (.seq (.reg [⟨(some 11),(.alloc (.int .i64 0)),0,none⟩,⟨(some 12),(.alloc (.bool false)),1,none⟩,⟨none,(.store 1 (.t 11) (.c (.int .i64 0))),2,none⟩,⟨none,(.store 1 (.t 12) (.c (.bool false))),2,none⟩] none) (.seq (.reg [⟨(some 28),(.mkfn 194 [] [(.t 12),(.t 7),(.t 11)]),0,none⟩,⟨(some 13),(.alloc .nilfn),0,none⟩,⟨none,(.store 1 (.t 13) (.t 28)),1,none⟩] none) (.seq (.seq (.reg [⟨(some 29),(.load true [(.sl 1),(.int .i64)] (.t 4)),0,none⟩,⟨(some 30),(.mv (.t 1)),0,none⟩,⟨(some 31),(.call (.c (.fn 117)) [(.t 29),(.t 30)]),0,none⟩] none) (.block 0 (.ext 0 [31,33,6,15,35,36,37,34,38,39,17,40,41,8,9,42,13,16,43,44,12,11]))) (.seq (.seq (.reg [⟨(some 46),(.load false [.bool] (.t 12)),0,none⟩,⟨(some 47),(.un .not (.t 46)),0,none⟩] none) (.cond (.t 47) (.seq (.reg [⟨none,(.store 1 (.t 8) (.c (.int .i64 0))),0,none⟩,⟨none,(.store 1 (.t 9) (.c (.int .i64 9))),0,none⟩] none) .ret) .skip)) (.seq (.reg [⟨(some 48),(.load false [(.int .i64)] (.t 11)),0,none⟩,⟨none,(.store 1 (.t 8) (.t 48)),0,none⟩,⟨none,(.store 1 (.t 9) (.c (.int .i64 0))),0,none⟩] none) .ret)))))))
def Qx:List IRes:=[(.cell false 1 8),(.cell false 1 9)]
abbrev b1z:Nat:=49
def VU:ZE:=Xg [(73,.pure (preT (fun x:Lin×Unit=>ZP x.1)) (Zf (fun x:Lin×Unit=>Zg x.1))),(174,.own Uw KY),(116,.pure (preT (fun x:BoxT×List Fact×Bool×NilS×Unit=>ZT x.1&&Zp x.2.1&&decide (x.2.1.length<=100))) (Zf (fun x:BoxT×List Fact×Bool×NilS×Unit=>Zo x.1 x.2.1 x.2.2.1 []))),(117,.own Yx Xm),(38,.pure (preT (fun x:Lin×List Coef×Unit=>ZP x.1&&decide (x.2.1.length<=9223372036854775807))) (Zf (fun x:Lin×List Coef×Unit=>ZX x.1 x.2.1))),(194,.own (XP 128) (WI ZH))]
theorem b9y{G:PV->Prop}(E:Yl)(b:BoxT)(fs:List Fact)(l:Lin)(h:(Go.Pl.preT (fun(x:Lin×Unit)=>ZP x.1) [(.agg [(.int .i64 l.k),(.sl 2 false (List.map enc l.t))])])=true∧(∃ y0:Bool,AV.pv (Zf (fun(x:Lin×Unit)=>Zg x.1) [(.agg [(.int .i64 l.k),(.sl 2 false (List.map enc l.t))])])=AV.pv (enc y0)∧((Uw [(.pv (.agg [(.int .i64 l.k),(.sl 2 false (List.map enc l.t))]))] [])=true∧((Go.Pl.preT (fun(x:BoxT×List Fact×Bool×NilS×Unit)=>ZT x.1&&Zp x.2.1&&decide (List.length x.2.1<=100)) [(.agg [(.sl 1 false (List.map enc b.v)),(.int .i64 b.m)]),(.sl 3 false (List.map enc fs)),(.bool y0),(.sl 0 true [])])=true∧(∃ y1:Int,AV.pv (Zf (fun(x:BoxT×List Fact×Bool×NilS×Unit)=>Zo x.1 x.2.1 x.2.2.1 []) [(.agg [(.sl 1 false (List.map enc b.v)),(.int .i64 b.m)]),(.sl 3 false (List.map enc fs)),(.bool y0),(.sl 0 true [])])=AV.pv (enc y1)∧(if (y1 != 0)=true then G ((.tup [(.int .i64 0),(.int .i64 y1)]))else((Yx [(.pv (.agg [(.sl 1 false (List.map enc b.v)),(.int .i64 b.m)])),(.pv (.sl 3 false (List.map enc fs)))] [])=true∧(E 0 ⟨ZF 49 0 [(6,(.ptr 0 0)),(8,(.ptr 1 0)),(9,(.ptr 2 0)),(11,(.ptr 3 0)),(12,(.ptr 4 0)),(13,(.ptr 5 0)),(15,.undef),(16,.undef),(17,.undef),(31,(.fn 177 [] [(.ptr 6 0),(.ptr 7 0)])),(33,.undef),(34,.undef),(35,.undef),(36,.undef),(37,.undef),(38,.undef),(39,.undef),(40,.undef),(41,.undef),(42,.undef),(43,.undef),(44,.undef)],[(.obj (.box [(.pv (.int .i64 l.k)),(.pv (.sl 2 false (List.map enc l.t)))])),(.obj (.box [(.pv (.int .i64 0))])),(.obj (.box [(.pv (.int .i64 0))])),(.obj (.box [(.pv (.int .i64 0))])),(.obj (.box [(.pv (.bool false))])),(.obj (.box [(.fn 194 [] [(.ptr 4 0),(.ptr 8 0),(.ptr 3 0)])])),(.obj (.box [(.pv (.sl 1 false (List.map enc b.v))),(.pv (.int .i64 b.m))])),(.obj (.box [(.pv (.sl 3 false (List.map enc fs)))])),(.obj (.box [(.pv (.fn 128))]))]⟩ (fun x S'=>QL VU E 0 (Za Qx G) Vk 0 x S'))))))))):Zv VU E 0 (Za Qx G) (.inl Vk) [] (Yz 49 [enc b,enc fs,enc l,.fn 128]):=Zv.mp (.req (.abs (Bool) (fun YY=>AV.pv (enc YY)) (.req (.keep (.req (.abs (Int) (fun YY=>AV.pv (enc YY)) (.lit (.ask (.nil) (.req (.keep (.nil))))))))))) h (by kernel_rfl)
theorem b2c{G:PV->Prop}(E:Yl)(b:BoxT)(fs:List Fact)(l:Lin)(z:Int)(s:Bool)(h:if (!s)=true then G ((.tup [(.int .i64 0),(.int .i64 9)]))else(G ((.tup [(.int .i64 z),(.int .i64 0)])))):QL VU E 0 (Za Qx G) Vk 0 .normal ⟨ZF 49 0 [(6,.ptr 0 0),(8,.ptr 1 0),(9,.ptr 2 0),(11,.ptr 3 0),(12,.ptr 4 0),(13,.ptr 5 0)],[.obj (.box [.pv (.int .i64 l.k),.pv (enc l.t)]),.obj (.box [.pv (.int .i64 0)]),.obj (.box [.pv (.int .i64 0)]),.obj (.box [.pv (.int .i64 z)]),.obj (.box [.pv (.bool s)]),.obj (.box [.fn 194 [] [.ptr 4 0,.ptr 6 0,.ptr 3 0]]),.obj (.box [.pv (.fn 128)])]⟩:=Zv.mp (.ask (.nil) (.nil)) h (by kernel_rfl)
def QT:IC:=Vk
def QK:List IRes:=[(.cell false 1 8),(.cell false 1 9)]
abbrev b1r:Nat:=49
def VR:ZE:=Xg [(73,.pure (preT (fun x:Lin×Unit=>ZP x.1)) (Zf (fun x:Lin×Unit=>Zg x.1))),(174,.own Ux QW),(116,.own WN Uy),(117,.own Yx Xm),(38,.pure (preT (fun x:Lin×List Coef×Unit=>ZP x.1&&decide (x.2.1.length<=9223372036854775807))) (Zf (fun x:Lin×List Coef×Unit=>ZX x.1 x.2.1))),(194,.own (XP 128) (WI ZH))]
theorem b8d{G:PV->Prop}(E:Yl)(b:BoxT)(fs:List Fact)(l:Lin)(h:(Go.Pl.preT (fun(x:Lin×Unit)=>ZP x.1) [(.agg [(.int .i64 l.k),(.sl 2 false (List.map enc l.t))])])=true∧(∃ y0:Bool,AV.pv (Zf (fun(x:Lin×Unit)=>Zg x.1) [(.agg [(.int .i64 l.k),(.sl 2 false (List.map enc l.t))])])=AV.pv (enc y0)∧((Ux [(.pv (.agg [(.int .i64 l.k),(.sl 2 false (List.map enc l.t))]))] [])=true∧((WN [(.pv (.agg [(.sl 1 false (List.map enc b.v)),(.int .i64 b.m)])),(.pv (.sl 3 false (List.map enc fs))),(.pv (.bool y0)),(.row 0 (List.length (Ze (D7 (PV.agg [enc l.k,enc l.t])))) 0 (List.length (Ze (D7 (PV.agg [enc l.k,enc l.t])))))] [(.row false 9 1 (List.map enc (Ze (D7 (PV.agg [enc l.k,enc l.t])))))])=true∧(if (Zo (Rx (PV.agg [enc b.v,enc b.m])) (Hy (enc fs)) y0 (QZ (List.map enc (Ze (D7 (PV.agg [enc l.k,enc l.t]))))) != 0)=true then G ((.tup [(.int .i64 0),(.int .i64 (Zo (Rx (PV.agg [enc b.v,enc b.m])) (Hy (enc fs)) y0 (QZ (List.map enc (Ze (D7 (PV.agg [enc l.k,enc l.t])))))))]))else((Yx [(.pv (.agg [(.sl 1 false (List.map enc b.v)),(.int .i64 b.m)])),(.pv (.sl 3 false (List.map enc fs)))] [])=true∧(E 0 ⟨ZF 49 0 [(6,(.ptr 0 0)),(8,(.ptr 1 0)),(9,(.ptr 2 0)),(11,(.ptr 3 0)),(12,(.ptr 4 0)),(13,(.ptr 5 0)),(15,.undef),(16,.undef),(17,.undef),(31,(.fn 177 [] [(.ptr 6 0),(.ptr 7 0)])),(33,.undef),(34,.undef),(35,.undef),(36,.undef),(37,.undef),(38,.undef),(39,.undef),(40,.undef),(41,.undef),(42,.undef),(43,.undef),(44,.undef)],[(.obj (.box [(.pv (.int .i64 l.k)),(.pv (.sl 2 false (List.map enc l.t)))])),(.obj (.box [(.pv (.int .i64 0))])),(.obj (.box [(.pv (.int .i64 0))])),(.obj (.box [(.pv (.int .i64 0))])),(.obj (.box [(.pv (.bool false))])),(.obj (.box [(.fn 194 [] [(.ptr 4 0),(.ptr 8 0),(.ptr 3 0)])])),(.obj (.box [(.pv (.sl 1 false (List.map enc b.v))),(.pv (.int .i64 b.m))])),(.obj (.box [(.pv (.sl 3 false (List.map enc fs)))])),(.obj (.box [(.pv (.fn 128))]))]⟩ (fun x S'=>QL VR E 0 (Za QK G) QT 0 x S')))))))):Zv VR E 0 (Za QK G) (.inl QT) [] (Yz 49 [enc b,enc fs,enc l,.fn 128]):=Zv.mp (.req (.abs (Bool) (fun YY=>AV.pv (enc YY)) (.req (.keep (.req (.keep (.lit (.ask (.nil) (.req (.keep (.nil))))))))))) h (by kernel_rfl)
theorem a8o{G:PV->Prop}(E:Yl)(b:BoxT)(fs:List Fact)(l:Lin)(z:Int)(s:Bool)(h:if (!s)=true then G ((.tup [(.int .i64 0),(.int .i64 9)]))else(G ((.tup [(.int .i64 z),(.int .i64 0)])))):QL VR E 0 (Za QK G) QT 0 .normal ⟨ZF 49 0 [(6,.ptr 0 0),(8,.ptr 1 0),(9,.ptr 2 0),(11,.ptr 3 0),(12,.ptr 4 0),(13,.ptr 5 0)],[.obj (.box [.pv (.int .i64 l.k),.pv (enc l.t)]),.obj (.box [.pv (.int .i64 0)]),.obj (.box [.pv (.int .i64 0)]),.obj (.box [.pv (.int .i64 z)]),.obj (.box [.pv (.bool s)]),.obj (.box [.fn 194 [] [.ptr 4 0,.ptr 6 0,.ptr 3 0]]),.obj (.box [.pv (.fn 128)])]⟩:=Zv.mp (.ask (.nil) (.nil)) h (by kernel_rfl)
def PH:IC:=(.seq (.reg [⟨(some 3),(.box 2 (.t 0)),0,none⟩,⟨(some 5),(.box 2 (.t 2)),1,none⟩,⟨(some 6),(.mv (.c (.int .i64 0))),2,none⟩,⟨(some 7),(.mv (.c (.int .i64 0))),2,none⟩] none) (.seq (.reg [⟨(some 8),(.load true [(.sl 1),(.int .i64)] (.t 3)),0,none⟩,⟨(some 9),(.mv (.t 1)),0,none⟩,⟨(some 10),(.load true [(.int .i64),(.sl 2)] (.t 5)),0,none⟩,⟨(some 11),(.call (.c (.fn 127)) [(.t 8),(.t 9),(.t 10),(.c (.fn 128))]),0,none⟩,⟨(some 12),(.extract (.t 11) 0),2,none⟩,⟨(some 13),(.extract (.t 11) 1),2,none⟩,⟨(some 6),(.mv (.t 12)),2,none⟩,⟨(some 7),(.mv (.t 13)),2,none⟩] none) .ret))
def P8:List IRes:=[(.tmp 6),(.tmp 7)]
abbrev c0o:Nat:=14
def Ew:ZE:=Xg [(127,.pure (preT (fun x:BoxT×List Fact×Lin×FnV 128×Unit=>YA x.1 x.2.1 x.2.2.1)) (Zf (fun x:BoxT×List Fact×Lin×FnV 128×Unit=>Yw ZH x.1 x.2.1 x.2.2.1)))]
theorem c3w{G:PV->Prop}(b:BoxT)(fs:List Fact)(l:Lin)(h:(Go.Pl.preT (fun(x:BoxT×List Fact×Lin×FnV 128×Unit)=>YA x.1 x.2.1 x.2.2.1) [(.agg [(.sl 1 false (List.map enc b.v)),(.int .i64 b.m)]),(.sl 3 false (List.map enc fs)),(.agg [(.int .i64 l.k),(.sl 2 false (List.map enc l.t))]),(.fn 128)])=true∧(∃ y0:Int×Int,AV.pv (Zf (fun(x:BoxT×List Fact×Lin×FnV 128×Unit)=>Yw ZH x.1 x.2.1 x.2.2.1) [(.agg [(.sl 1 false (List.map enc b.v)),(.int .i64 b.m)]),(.sl 3 false (List.map enc fs)),(.agg [(.int .i64 l.k),(.sl 2 false (List.map enc l.t))]),(.fn 128)])=AV.pv (enc y0)∧(G ((.tup [(.int .i64 y0.1),(.int .i64 y0.2)]))))):Zc Ew 0 (Za P8 G) PH [] (Yz 14 [enc b,enc fs,enc l]):=Zc.tp (.req (.abs (Int×Int) (fun YY=>AV.pv (enc YY)) (.nil))) h (by kernel_rfl)
def Vs:IC:=(.block 1 (.seq (.reg [⟨(some 35),(.load true [(.int .i64),(.sl 2)] (.t 6)),0,none⟩,⟨(some 36),(.mv (.t 15)),0,none⟩,⟨(some 37),(.call (.c (.fn 38)) [(.t 35),(.t 36)]),0,none⟩,⟨(some 34),(.mv (.t 37)),2,none⟩,⟨(some 38),(.extract (.t 34) 0),2,none⟩,⟨(some 39),(.extract (.t 34) 1),2,none⟩,⟨(some 16),(.mv (.t 38)),2,none⟩,⟨(some 17),(.mv (.t 39)),2,none⟩] none) (.seq (.seq (.reg [⟨(some 40),(.mv (.t 17)),0,none⟩,⟨(some 41),(.bin .num .neq (.t 40) (.c (.int .i64 0))),0,none⟩] none) (.cond (.t 41) (.seq (.reg [⟨(some 42),(.mv (.t 17)),0,none⟩,⟨none,(.store 1 (.t 8) (.c (.int .i64 0))),0,none⟩,⟨none,(.store 1 (.t 9) (.t 42)),0,none⟩] none) .ret) .skip)) (.reg [⟨(some 43),(.load false [.any] (.t 13)),0,none⟩,⟨(some 44),(.mv (.t 16)),0,none⟩,⟨(some 45),(.call (.t 43) [(.t 44)]),0,none⟩] none))))
def a0q:ZE:=Xg [(73,.pure (preT (fun x:Lin×Unit=>ZP x.1)) (Zf (fun x:Lin×Unit=>Zg x.1))),(174,.own Uw KY),(116,.pure (preT (fun x:BoxT×List Fact×Bool×NilS×Unit=>ZT x.1&&Zp x.2.1&&decide (x.2.1.length<=100))) (Zf (fun x:BoxT×List Fact×Bool×NilS×Unit=>Zo x.1 x.2.1 x.2.2.1 []))),(117,.own Yx Xm),(38,.pure (preT (fun x:Lin×List Coef×Unit=>ZP x.1&&decide (x.2.1.length<=9223372036854775807))) (Zf (fun x:Lin×List Coef×Unit=>ZX x.1 x.2.1))),(194,.own (XP 128) (WI ZH))]
theorem b3p{G:Zu->Prop}(E:Yl)(l:Lin)(p:List Int)(vs:List Coef)(z:Int)(s:Bool)(h:(Go.Pl.preT (fun(x:Lin×List Coef×Unit)=>ZP x.1&&decide (List.length x.2.1<=9223372036854775807)) [(.agg [(.int .i64 l.k),(.sl 2 false (List.map enc l.t))]),(.sl 2 false (List.map enc vs))])=true∧(∃ y0:Int×Int,AV.pv (Zf (fun(x:Lin×List Coef×Unit)=>ZX x.1 x.2.1) [(.agg [(.int .i64 l.k),(.sl 2 false (List.map enc l.t))]),(.sl 2 false (List.map enc vs))])=AV.pv (enc y0)∧(if (y0.2 != 0)=true then G ([(.obj (.box [(.pv (.int .i64 l.k)),(.pv (.sl 2 false (List.map enc l.t)))])),(.obj (.box [(.pv (.int .i64 0))])),(.obj (.box [(.pv (.int .i64 y0.2))])),(.obj (.box [(.pv (.int .i64 z))])),(.obj (.box [(.pv (.bool s))])),(.obj (.box [(.fn 194 [] [(.ptr 4 0),(.ptr 6 0),(.ptr 3 0)])])),(.obj (.box [(.pv (.fn 128))])),.fresh,.fresh])else(E 99 ⟨ZF 49 0 [],[(.obj (.box [(.pv (.int .i64 l.k)),(.pv (.sl 2 false (List.map enc l.t)))])),(.obj (.box [(.pv (.int .i64 0))])),(.obj (.box [(.pv (.int .i64 0))])),(.obj (.box [(.pv (.int .i64 (if (!s||ZH y0.1 z)=true then y0.1 else z)))])),(.obj (.box [(.pv (.bool true))])),(.obj (.box [(.fn 194 [] [(.ptr 4 0),(.ptr 6 0),(.ptr 3 0)])])),(.obj (.box [(.pv (.fn 128))]))]⟩ (fun x S'=>QL a0q E 7 (fun st=>G st.heap) Vs 99 x S'))))):Zv a0q E 7 (fun st=>G st.heap) (.inl Vs) [.seq (.ext 99 [])] ⟨ZF 49 0 [(6,.ptr 0 0),(8,.ptr 1 0),(9,.ptr 2 0),(11,.ptr 3 0),(12,.ptr 4 0),(13,.ptr 5 0),(15,.pv (enc vs)),(32,.pv (enc p)),(33,.pv (enc vs))],[.obj (.box [.pv (.int .i64 l.k),.pv (enc l.t)]),.obj (.box [.pv (.int .i64 0)]),.obj (.box [.pv (.int .i64 0)]),.obj (.box [.pv (.int .i64 z)]),.obj (.box [.pv (.bool s)]),.obj (.box [.fn 194 [] [.ptr 4 0,.ptr 6 0,.ptr 3 0]]),.obj (.box [.pv (.fn 128)])]⟩:=Zv.mh (.req (.abs (Int×Int) (fun YY=>AV.pv (enc YY)) (.lit (.ask (.nil) (.lit (.keep (.nil))))))) h (by kernel_rfl)
def Qs:IC:=Vs
def a2e:ZE:=Xg [(73,.pure (preT (fun x:Lin×Unit=>ZP x.1)) (Zf (fun x:Lin×Unit=>Zg x.1))),(174,.own Ux QW),(116,.own WN Uy),(117,.own Yx Xm),(38,.pure (preT (fun x:Lin×List Coef×Unit=>ZP x.1&&decide (x.2.1.length<=9223372036854775807))) (Zf (fun x:Lin×List Coef×Unit=>ZX x.1 x.2.1))),(194,.own (XP 128) (WI ZH))]
theorem b5h{G:Zu->Prop}(E:Yl)(l:Lin)(p:List Int)(vs:List Coef)(z:Int)(s:Bool)(h:(Go.Pl.preT (fun(x:Lin×List Coef×Unit)=>ZP x.1&&decide (List.length x.2.1<=9223372036854775807)) [(.agg [(.int .i64 l.k),(.sl 2 false (List.map enc l.t))]),(.sl 2 false (List.map enc vs))])=true∧(∃ y0:Int×Int,AV.pv (Zf (fun(x:Lin×List Coef×Unit)=>ZX x.1 x.2.1) [(.agg [(.int .i64 l.k),(.sl 2 false (List.map enc l.t))]),(.sl 2 false (List.map enc vs))])=AV.pv (enc y0)∧(if (y0.2 != 0)=true then G ([(.obj (.box [(.pv (.int .i64 l.k)),(.pv (.sl 2 false (List.map enc l.t)))])),(.obj (.box [(.pv (.int .i64 0))])),(.obj (.box [(.pv (.int .i64 y0.2))])),(.obj (.box [(.pv (.int .i64 z))])),(.obj (.box [(.pv (.bool s))])),(.obj (.box [(.fn 194 [] [(.ptr 4 0),(.ptr 6 0),(.ptr 3 0)])])),(.obj (.box [(.pv (.fn 128))])),.fresh,.fresh])else(E 99 ⟨ZF 49 0 [],[(.obj (.box [(.pv (.int .i64 l.k)),(.pv (.sl 2 false (List.map enc l.t)))])),(.obj (.box [(.pv (.int .i64 0))])),(.obj (.box [(.pv (.int .i64 0))])),(.obj (.box [(.pv (.int .i64 (if (!s||ZH y0.1 z)=true then y0.1 else z)))])),(.obj (.box [(.pv (.bool true))])),(.obj (.box [(.fn 194 [] [(.ptr 4 0),(.ptr 6 0),(.ptr 3 0)])])),(.obj (.box [(.pv (.fn 128))]))]⟩ (fun x S'=>QL a2e E 7 (fun st=>G st.heap) Qs 99 x S'))))):Zv a2e E 7 (fun st=>G st.heap) (.inl Qs) [.seq (.ext 99 [])] ⟨ZF 49 0 [(6,.ptr 0 0),(8,.ptr 1 0),(9,.ptr 2 0),(11,.ptr 3 0),(12,.ptr 4 0),(13,.ptr 5 0),(15,.pv (enc vs)),(32,.pv (enc p)),(33,.pv (enc vs))],[.obj (.box [.pv (.int .i64 l.k),.pv (enc l.t)]),.obj (.box [.pv (.int .i64 0)]),.obj (.box [.pv (.int .i64 0)]),.obj (.box [.pv (.int .i64 z)]),.obj (.box [.pv (.bool s)]),.obj (.box [.fn 194 [] [.ptr 4 0,.ptr 6 0,.ptr 3 0]]),.obj (.box [.pv (.fn 128)])]⟩:=Zv.mh (.req (.abs (Int×Int) (fun YY=>AV.pv (enc YY)) (.lit (.ask (.nil) (.lit (.keep (.nil))))))) h (by kernel_rfl)
def Rz:IC:=Cq
def RX:List IRes:=[]
abbrev b9f:Nat:=14
def EC:ZE:=Xg [(133,.pure (preT (fun _:Int×Int×Unit=>true)) (Zf (fun x:Int×Int×Unit=>decide (x.1>x.2.1))))]
theorem c3i{G:AV×List AObj×List AObj->Prop}(n:Int)(s:Bool)(z:Int)(h:if (!s)=true then G (((.tup []),([(.box [(.pv (.bool true))]),(.box [(.pv (.fn 133))]),(.box [(.pv (.int .i64 n))])],[])))else(∃ y0:Bool,AV.pv (Zf (fun(x:Int×Int×Unit)=>decide (x.1>x.2.1)) [(.int .i64 n),(.int .i64 z)])=AV.pv (enc y0)∧(if (y0)=true then G (((.tup []),([(.box [(.pv (.bool true))]),(.box [(.pv (.fn 133))]),(.box [(.pv (.int .i64 n))])],[])))else(G (((.tup []),([(.box [(.pv (.bool s))]),(.box [(.pv (.fn 133))]),(.box [(.pv (.int .i64 z))])],[]))))))):Zc EC 3 (Zk 3 RX G) Rz [] (YD 14 [.pv (.int .i64 n),.ptr 0 0,.ptr 1 0,.ptr 2 0] [.box [.pv (.bool s)],.box [.pv (.fn 133)],.box [.pv (.int .i64 z)]]):=Zc.to (.ask (.lit (.lit (.lit (.lit (.lit (.nil)))))) (.lit (.lit (.lit (.lit (.abs (Bool) (fun YY=>AV.pv (enc YY)) (.lit (.ask (.nil) (.nil))))))))) h (by kernel_rfl)
def QI:IC:=Vk
def QE:List IRes:=[(.cell false 1 8),(.cell false 1 9)]
abbrev b1e:Nat:=49
def VY:ZE:=Xg [(73,.pure (preT (fun x:Lin×Unit=>ZP x.1)) (Zf (fun x:Lin×Unit=>Zg x.1))),(174,.own Uw KY),(116,.pure (preT (fun x:BoxT×List Fact×Bool×NilS×Unit=>ZT x.1&&Zp x.2.1&&decide (x.2.1.length<=100))) (Zf (fun x:BoxT×List Fact×Bool×NilS×Unit=>Zo x.1 x.2.1 x.2.2.1 []))),(117,.own Yx Xm),(38,.pure (preT (fun x:Lin×List Coef×Unit=>ZP x.1&&decide (x.2.1.length<=9223372036854775807))) (Zf (fun x:Lin×List Coef×Unit=>ZX x.1 x.2.1))),(194,.own (XP 133) (WI Z5))]
theorem b8v{G:PV->Prop}(E:Yl)(b:BoxT)(fs:List Fact)(l:Lin)(h:(Go.Pl.preT (fun(x:Lin×Unit)=>ZP x.1) [(.agg [(.int .i64 l.k),(.sl 2 false (List.map enc l.t))])])=true∧(∃ y0:Bool,AV.pv (Zf (fun(x:Lin×Unit)=>Zg x.1) [(.agg [(.int .i64 l.k),(.sl 2 false (List.map enc l.t))])])=AV.pv (enc y0)∧((Uw [(.pv (.agg [(.int .i64 l.k),(.sl 2 false (List.map enc l.t))]))] [])=true∧((Go.Pl.preT (fun(x:BoxT×List Fact×Bool×NilS×Unit)=>ZT x.1&&Zp x.2.1&&decide (List.length x.2.1<=100)) [(.agg [(.sl 1 false (List.map enc b.v)),(.int .i64 b.m)]),(.sl 3 false (List.map enc fs)),(.bool y0),(.sl 0 true [])])=true∧(∃ y1:Int,AV.pv (Zf (fun(x:BoxT×List Fact×Bool×NilS×Unit)=>Zo x.1 x.2.1 x.2.2.1 []) [(.agg [(.sl 1 false (List.map enc b.v)),(.int .i64 b.m)]),(.sl 3 false (List.map enc fs)),(.bool y0),(.sl 0 true [])])=AV.pv (enc y1)∧(if (y1 != 0)=true then G ((.tup [(.int .i64 0),(.int .i64 y1)]))else((Yx [(.pv (.agg [(.sl 1 false (List.map enc b.v)),(.int .i64 b.m)])),(.pv (.sl 3 false (List.map enc fs)))] [])=true∧(E 0 ⟨ZF 49 0 [(6,(.ptr 0 0)),(8,(.ptr 1 0)),(9,(.ptr 2 0)),(11,(.ptr 3 0)),(12,(.ptr 4 0)),(13,(.ptr 5 0)),(15,.undef),(16,.undef),(17,.undef),(31,(.fn 177 [] [(.ptr 6 0),(.ptr 7 0)])),(33,.undef),(34,.undef),(35,.undef),(36,.undef),(37,.undef),(38,.undef),(39,.undef),(40,.undef),(41,.undef),(42,.undef),(43,.undef),(44,.undef)],[(.obj (.box [(.pv (.int .i64 l.k)),(.pv (.sl 2 false (List.map enc l.t)))])),(.obj (.box [(.pv (.int .i64 0))])),(.obj (.box [(.pv (.int .i64 0))])),(.obj (.box [(.pv (.int .i64 0))])),(.obj (.box [(.pv (.bool false))])),(.obj (.box [(.fn 194 [] [(.ptr 4 0),(.ptr 8 0),(.ptr 3 0)])])),(.obj (.box [(.pv (.sl 1 false (List.map enc b.v))),(.pv (.int .i64 b.m))])),(.obj (.box [(.pv (.sl 3 false (List.map enc fs)))])),(.obj (.box [(.pv (.fn 133))]))]⟩ (fun x S'=>QL VY E 0 (Za QE G) QI 0 x S'))))))))):Zv VY E 0 (Za QE G) (.inl QI) [] (Yz 49 [enc b,enc fs,enc l,.fn 133]):=Zv.mp (.req (.abs (Bool) (fun YY=>AV.pv (enc YY)) (.req (.keep (.req (.abs (Int) (fun YY=>AV.pv (enc YY)) (.lit (.ask (.nil) (.req (.keep (.nil))))))))))) h (by kernel_rfl)
theorem b5k{G:PV->Prop}(E:Yl)(b:BoxT)(fs:List Fact)(l:Lin)(z:Int)(s:Bool)(h:if (!s)=true then G ((.tup [(.int .i64 0),(.int .i64 9)]))else(G ((.tup [(.int .i64 z),(.int .i64 0)])))):QL VY E 0 (Za QE G) QI 0 .normal ⟨ZF 49 0 [(6,.ptr 0 0),(8,.ptr 1 0),(9,.ptr 2 0),(11,.ptr 3 0),(12,.ptr 4 0),(13,.ptr 5 0)],[.obj (.box [.pv (.int .i64 l.k),.pv (enc l.t)]),.obj (.box [.pv (.int .i64 0)]),.obj (.box [.pv (.int .i64 0)]),.obj (.box [.pv (.int .i64 z)]),.obj (.box [.pv (.bool s)]),.obj (.box [.fn 194 [] [.ptr 4 0,.ptr 6 0,.ptr 3 0]]),.obj (.box [.pv (.fn 133)])]⟩:=Zv.mp (.ask (.nil) (.nil)) h (by kernel_rfl)
def QH:IC:=Vk
def QQ:List IRes:=[(.cell false 1 8),(.cell false 1 9)]
abbrev a9x:Nat:=49
def VX:ZE:=Xg [(73,.pure (preT (fun x:Lin×Unit=>ZP x.1)) (Zf (fun x:Lin×Unit=>Zg x.1))),(174,.own Ux QW),(116,.own WN Uy),(117,.own Yx Xm),(38,.pure (preT (fun x:Lin×List Coef×Unit=>ZP x.1&&decide (x.2.1.length<=9223372036854775807))) (Zf (fun x:Lin×List Coef×Unit=>ZX x.1 x.2.1))),(194,.own (XP 133) (WI Z5))]
theorem b6p{G:PV->Prop}(E:Yl)(b:BoxT)(fs:List Fact)(l:Lin)(h:(Go.Pl.preT (fun(x:Lin×Unit)=>ZP x.1) [(.agg [(.int .i64 l.k),(.sl 2 false (List.map enc l.t))])])=true∧(∃ y0:Bool,AV.pv (Zf (fun(x:Lin×Unit)=>Zg x.1) [(.agg [(.int .i64 l.k),(.sl 2 false (List.map enc l.t))])])=AV.pv (enc y0)∧((Ux [(.pv (.agg [(.int .i64 l.k),(.sl 2 false (List.map enc l.t))]))] [])=true∧((WN [(.pv (.agg [(.sl 1 false (List.map enc b.v)),(.int .i64 b.m)])),(.pv (.sl 3 false (List.map enc fs))),(.pv (.bool y0)),(.row 0 (List.length (Ze (D7 (PV.agg [enc l.k,enc l.t])))) 0 (List.length (Ze (D7 (PV.agg [enc l.k,enc l.t])))))] [(.row false 9 1 (List.map enc (Ze (D7 (PV.agg [enc l.k,enc l.t])))))])=true∧(if (Zo (Rx (PV.agg [enc b.v,enc b.m])) (Hy (enc fs)) y0 (QZ (List.map enc (Ze (D7 (PV.agg [enc l.k,enc l.t]))))) != 0)=true then G ((.tup [(.int .i64 0),(.int .i64 (Zo (Rx (PV.agg [enc b.v,enc b.m])) (Hy (enc fs)) y0 (QZ (List.map enc (Ze (D7 (PV.agg [enc l.k,enc l.t])))))))]))else((Yx [(.pv (.agg [(.sl 1 false (List.map enc b.v)),(.int .i64 b.m)])),(.pv (.sl 3 false (List.map enc fs)))] [])=true∧(E 0 ⟨ZF 49 0 [(6,(.ptr 0 0)),(8,(.ptr 1 0)),(9,(.ptr 2 0)),(11,(.ptr 3 0)),(12,(.ptr 4 0)),(13,(.ptr 5 0)),(15,.undef),(16,.undef),(17,.undef),(31,(.fn 177 [] [(.ptr 6 0),(.ptr 7 0)])),(33,.undef),(34,.undef),(35,.undef),(36,.undef),(37,.undef),(38,.undef),(39,.undef),(40,.undef),(41,.undef),(42,.undef),(43,.undef),(44,.undef)],[(.obj (.box [(.pv (.int .i64 l.k)),(.pv (.sl 2 false (List.map enc l.t)))])),(.obj (.box [(.pv (.int .i64 0))])),(.obj (.box [(.pv (.int .i64 0))])),(.obj (.box [(.pv (.int .i64 0))])),(.obj (.box [(.pv (.bool false))])),(.obj (.box [(.fn 194 [] [(.ptr 4 0),(.ptr 8 0),(.ptr 3 0)])])),(.obj (.box [(.pv (.sl 1 false (List.map enc b.v))),(.pv (.int .i64 b.m))])),(.obj (.box [(.pv (.sl 3 false (List.map enc fs)))])),(.obj (.box [(.pv (.fn 133))]))]⟩ (fun x S'=>QL VX E 0 (Za QQ G) QH 0 x S')))))))):Zv VX E 0 (Za QQ G) (.inl QH) [] (Yz 49 [enc b,enc fs,enc l,.fn 133]):=Zv.mp (.req (.abs (Bool) (fun YY=>AV.pv (enc YY)) (.req (.keep (.req (.keep (.lit (.ask (.nil) (.req (.keep (.nil))))))))))) h (by kernel_rfl)
theorem b2a{G:PV->Prop}(E:Yl)(b:BoxT)(fs:List Fact)(l:Lin)(z:Int)(s:Bool)(h:if (!s)=true then G ((.tup [(.int .i64 0),(.int .i64 9)]))else(G ((.tup [(.int .i64 z),(.int .i64 0)])))):QL VX E 0 (Za QQ G) QH 0 .normal ⟨ZF 49 0 [(6,.ptr 0 0),(8,.ptr 1 0),(9,.ptr 2 0),(11,.ptr 3 0),(12,.ptr 4 0),(13,.ptr 5 0)],[.obj (.box [.pv (.int .i64 l.k),.pv (enc l.t)]),.obj (.box [.pv (.int .i64 0)]),.obj (.box [.pv (.int .i64 0)]),.obj (.box [.pv (.int .i64 z)]),.obj (.box [.pv (.bool s)]),.obj (.box [.fn 194 [] [.ptr 4 0,.ptr 6 0,.ptr 3 0]]),.obj (.box [.pv (.fn 133)])]⟩:=Zv.mp (.ask (.nil) (.nil)) h (by kernel_rfl)
def R4:IC:=(.seq (.reg [⟨(some 3),(.box 2 (.t 0)),0,none⟩,⟨(some 5),(.box 2 (.t 2)),1,none⟩,⟨(some 6),(.mv (.c (.int .i64 0))),2,none⟩,⟨(some 7),(.mv (.c (.int .i64 0))),2,none⟩] none) (.seq (.reg [⟨(some 8),(.load true [(.sl 1),(.int .i64)] (.t 3)),0,none⟩,⟨(some 9),(.mv (.t 1)),0,none⟩,⟨(some 10),(.load true [(.int .i64),(.sl 2)] (.t 5)),0,none⟩,⟨(some 11),(.call (.c (.fn 127)) [(.t 8),(.t 9),(.t 10),(.c (.fn 133))]),0,none⟩,⟨(some 12),(.extract (.t 11) 0),2,none⟩,⟨(some 13),(.extract (.t 11) 1),2,none⟩,⟨(some 6),(.mv (.t 12)),2,none⟩,⟨(some 7),(.mv (.t 13)),2,none⟩] none) .ret))
def PE:List IRes:=[(.tmp 6),(.tmp 7)]
abbrev b7r:Nat:=14
def FZ:ZE:=Xg [(127,.pure (preT (fun x:BoxT×List Fact×Lin×FnV 133×Unit=>YA x.1 x.2.1 x.2.2.1)) (Zf (fun x:BoxT×List Fact×Lin×FnV 133×Unit=>Yw Z5 x.1 x.2.1 x.2.2.1)))]
theorem c4g{G:PV->Prop}(b:BoxT)(fs:List Fact)(l:Lin)(h:(Go.Pl.preT (fun(x:BoxT×List Fact×Lin×FnV 133×Unit)=>YA x.1 x.2.1 x.2.2.1) [(.agg [(.sl 1 false (List.map enc b.v)),(.int .i64 b.m)]),(.sl 3 false (List.map enc fs)),(.agg [(.int .i64 l.k),(.sl 2 false (List.map enc l.t))]),(.fn 133)])=true∧(∃ y0:Int×Int,AV.pv (Zf (fun(x:BoxT×List Fact×Lin×FnV 133×Unit)=>Yw Z5 x.1 x.2.1 x.2.2.1) [(.agg [(.sl 1 false (List.map enc b.v)),(.int .i64 b.m)]),(.sl 3 false (List.map enc fs)),(.agg [(.int .i64 l.k),(.sl 2 false (List.map enc l.t))]),(.fn 133)])=AV.pv (enc y0)∧(G ((.tup [(.int .i64 y0.1),(.int .i64 y0.2)]))))):Zc FZ 0 (Za PE G) R4 [] (Yz 14 [enc b,enc fs,enc l]):=Zc.tp (.req (.abs (Int×Int) (fun YY=>AV.pv (enc YY)) (.nil))) h (by kernel_rfl)
def QD:IC:=Vs
def a0z:ZE:=Xg [(73,.pure (preT (fun x:Lin×Unit=>ZP x.1)) (Zf (fun x:Lin×Unit=>Zg x.1))),(174,.own Uw KY),(116,.pure (preT (fun x:BoxT×List Fact×Bool×NilS×Unit=>ZT x.1&&Zp x.2.1&&decide (x.2.1.length<=100))) (Zf (fun x:BoxT×List Fact×Bool×NilS×Unit=>Zo x.1 x.2.1 x.2.2.1 []))),(117,.own Yx Xm),(38,.pure (preT (fun x:Lin×List Coef×Unit=>ZP x.1&&decide (x.2.1.length<=9223372036854775807))) (Zf (fun x:Lin×List Coef×Unit=>ZX x.1 x.2.1))),(194,.own (XP 133) (WI Z5))]
theorem b2b{G:Zu->Prop}(E:Yl)(l:Lin)(p:List Int)(vs:List Coef)(z:Int)(s:Bool)(h:(Go.Pl.preT (fun(x:Lin×List Coef×Unit)=>ZP x.1&&decide (List.length x.2.1<=9223372036854775807)) [(.agg [(.int .i64 l.k),(.sl 2 false (List.map enc l.t))]),(.sl 2 false (List.map enc vs))])=true∧(∃ y0:Int×Int,AV.pv (Zf (fun(x:Lin×List Coef×Unit)=>ZX x.1 x.2.1) [(.agg [(.int .i64 l.k),(.sl 2 false (List.map enc l.t))]),(.sl 2 false (List.map enc vs))])=AV.pv (enc y0)∧(if (y0.2 != 0)=true then G ([(.obj (.box [(.pv (.int .i64 l.k)),(.pv (.sl 2 false (List.map enc l.t)))])),(.obj (.box [(.pv (.int .i64 0))])),(.obj (.box [(.pv (.int .i64 y0.2))])),(.obj (.box [(.pv (.int .i64 z))])),(.obj (.box [(.pv (.bool s))])),(.obj (.box [(.fn 194 [] [(.ptr 4 0),(.ptr 6 0),(.ptr 3 0)])])),(.obj (.box [(.pv (.fn 133))])),.fresh,.fresh])else(E 99 ⟨ZF 49 0 [],[(.obj (.box [(.pv (.int .i64 l.k)),(.pv (.sl 2 false (List.map enc l.t)))])),(.obj (.box [(.pv (.int .i64 0))])),(.obj (.box [(.pv (.int .i64 0))])),(.obj (.box [(.pv (.int .i64 (if (!s||Z5 y0.1 z)=true then y0.1 else z)))])),(.obj (.box [(.pv (.bool true))])),(.obj (.box [(.fn 194 [] [(.ptr 4 0),(.ptr 6 0),(.ptr 3 0)])])),(.obj (.box [(.pv (.fn 133))]))]⟩ (fun x S'=>QL a0z E 7 (fun st=>G st.heap) QD 99 x S'))))):Zv a0z E 7 (fun st=>G st.heap) (.inl QD) [.seq (.ext 99 [])] ⟨ZF 49 0 [(6,.ptr 0 0),(8,.ptr 1 0),(9,.ptr 2 0),(11,.ptr 3 0),(12,.ptr 4 0),(13,.ptr 5 0),(15,.pv (enc vs)),(32,.pv (enc p)),(33,.pv (enc vs))],[.obj (.box [.pv (.int .i64 l.k),.pv (enc l.t)]),.obj (.box [.pv (.int .i64 0)]),.obj (.box [.pv (.int .i64 0)]),.obj (.box [.pv (.int .i64 z)]),.obj (.box [.pv (.bool s)]),.obj (.box [.fn 194 [] [.ptr 4 0,.ptr 6 0,.ptr 3 0]]),.obj (.box [.pv (.fn 133)])]⟩:=Zv.mh (.req (.abs (Int×Int) (fun YY=>AV.pv (enc YY)) (.lit (.ask (.nil) (.lit (.keep (.nil))))))) h (by kernel_rfl)
def Qw:IC:=Vs
def a0m:ZE:=Xg [(73,.pure (preT (fun x:Lin×Unit=>ZP x.1)) (Zf (fun x:Lin×Unit=>Zg x.1))),(174,.own Ux QW),(116,.own WN Uy),(117,.own Yx Xm),(38,.pure (preT (fun x:Lin×List Coef×Unit=>ZP x.1&&decide (x.2.1.length<=9223372036854775807))) (Zf (fun x:Lin×List Coef×Unit=>ZX x.1 x.2.1))),(194,.own (XP 133) (WI Z5))]
theorem b1s{G:Zu->Prop}(E:Yl)(l:Lin)(p:List Int)(vs:List Coef)(z:Int)(s:Bool)(h:(Go.Pl.preT (fun(x:Lin×List Coef×Unit)=>ZP x.1&&decide (List.length x.2.1<=9223372036854775807)) [(.agg [(.int .i64 l.k),(.sl 2 false (List.map enc l.t))]),(.sl 2 false (List.map enc vs))])=true∧(∃ y0:Int×Int,AV.pv (Zf (fun(x:Lin×List Coef×Unit)=>ZX x.1 x.2.1) [(.agg [(.int .i64 l.k),(.sl 2 false (List.map enc l.t))]),(.sl 2 false (List.map enc vs))])=AV.pv (enc y0)∧(if (y0.2 != 0)=true then G ([(.obj (.box [(.pv (.int .i64 l.k)),(.pv (.sl 2 false (List.map enc l.t)))])),(.obj (.box [(.pv (.int .i64 0))])),(.obj (.box [(.pv (.int .i64 y0.2))])),(.obj (.box [(.pv (.int .i64 z))])),(.obj (.box [(.pv (.bool s))])),(.obj (.box [(.fn 194 [] [(.ptr 4 0),(.ptr 6 0),(.ptr 3 0)])])),(.obj (.box [(.pv (.fn 133))])),.fresh,.fresh])else(E 99 ⟨ZF 49 0 [],[(.obj (.box [(.pv (.int .i64 l.k)),(.pv (.sl 2 false (List.map enc l.t)))])),(.obj (.box [(.pv (.int .i64 0))])),(.obj (.box [(.pv (.int .i64 0))])),(.obj (.box [(.pv (.int .i64 (if (!s||Z5 y0.1 z)=true then y0.1 else z)))])),(.obj (.box [(.pv (.bool true))])),(.obj (.box [(.fn 194 [] [(.ptr 4 0),(.ptr 6 0),(.ptr 3 0)])])),(.obj (.box [(.pv (.fn 133))]))]⟩ (fun x S'=>QL a0m E 7 (fun st=>G st.heap) Qw 99 x S'))))):Zv a0m E 7 (fun st=>G st.heap) (.inl Qw) [.seq (.ext 99 [])] ⟨ZF 49 0 [(6,.ptr 0 0),(8,.ptr 1 0),(9,.ptr 2 0),(11,.ptr 3 0),(12,.ptr 4 0),(13,.ptr 5 0),(15,.pv (enc vs)),(32,.pv (enc p)),(33,.pv (enc vs))],[.obj (.box [.pv (.int .i64 l.k),.pv (enc l.t)]),.obj (.box [.pv (.int .i64 0)]),.obj (.box [.pv (.int .i64 0)]),.obj (.box [.pv (.int .i64 z)]),.obj (.box [.pv (.bool s)]),.obj (.box [.fn 194 [] [.ptr 4 0,.ptr 6 0,.ptr 3 0]]),.obj (.box [.pv (.fn 133)])]⟩:=Zv.mh (.req (.abs (Int×Int) (fun YY=>AV.pv (enc YY)) (.lit (.ask (.nil) (.lit (.keep (.nil))))))) h (by kernel_rfl)
end Go.Pl

namespace Go.Pl
open Go.RowKit
open Enc (enc dec is)
open EncL (encL decL isL)
theorem Te{s:Str}: ∀ {vs:List Str} {p:List Int},s∈vs->p.length=vs.length-> ∃ x∈p,Us (Zd vs p) s=some x
 | [],_,h,_=>by cases h
 | v::vs,[],_,h=>by simp at h
 | v::vs,x::p,h,hl=>by
  by_cases e:v=s
  ·refine⟨x,by simp,?_⟩
   show((List.find? (fun t:Coef=>decide (t.v=s)) (⟨v,x⟩::Zd vs p)).map (·.c))=some x
   rw[List.find?_cons_of_pos (by simpa using e)];rfl
  ·obtain⟨y,hy,h2⟩:=Te (s:=s) (vs:=vs) (p:=p) ((List.mem_cons.1 h).resolve_left fun h=>e h.symm) (by simpa using hl)
   refine⟨y,by simp[hy],?_⟩
   show((List.find? (fun t:Coef=>decide (t.v=s)) (⟨v,x⟩::Zd vs p)).map (·.c))=some y
   rw[List.find?_cons_of_neg (by simpa using e)]
   exact h2
theorem A7{vs:List Str}{p:List Int}(hl:p.length=vs.length)(hx : ∀ x∈p,-1000000000<=x∧x<=1000000000): ∀ (ts:List Coef) (n:Int),(∀ t∈ts,t.v∈vs)->(Vy (Zd vs p) n ts).2=0
 | [],n,_=>rfl
 | t::r,n,h=>by
  obtain⟨x,h1,h2⟩:=Te (h t (by simp)) hl
  have:=hx x h1
  rw[Vy,h2]
  show(if x < -1000000000 then((0:Int),(2:Int))else if x>1000000000 then(0,2)else _).2=0
  rw[if_neg (by omega),if_neg (by omega)]
  exact A7 hl hx r _ fun u hu=>h u (by simp[hu])
theorem b9j{b:BoxT}{fs:List Fact}{p:List Int}(hv:Xy b=true)(h:p∈ZR b fs):p.length=b.v.length∧(∀ x∈p,0<=x∧x<=b.m)∧ ∀ x∈p,-1<=x∧x<=20000:=by
 unfold ZR at h
 rw[UA hv]at h
 have h:=(List.mem_filter.1 h).1
 obtain⟨h1,h2⟩:=Hw.1 h
 have:0<=b.m:=(Ue.1 hv).2.2.2.1
 exact⟨h1,fun x hx=>by have:=h2 x hx;omega,b8n hv p h⟩
theorem UG{b:BoxT}{fs:List Fact}{l:Lin}{p:List Int}(hr:Zo b fs (Zg l) (Ze l)=0)(h:p∈ZR b fs):(ZX l (Zd b.v p)).2=0:=by
 obtain⟨hv,_,hl,hin⟩:=XZ _ _ _ _ hr
 obtain⟨h1,_,h3⟩:=b9j hv h
 rw[Tq,Bool.and_eq_true]at hin
 unfold ZX
 rw[if_pos hl]
 refine A7 h1 (fun x hx=>by have:=h3 x hx;omega) _ _ fun t ht=> ?_
 have:=List.all_eq_true.1 hin.1 t.v (by unfold Ze;exact List.mem_map.2 ⟨t,ht,rfl⟩)
 simpa using this
theorem a3t(f:Int->Int->Bool)(l:List Int)(x:Int):X5 f (l++[x])=some (match X5 f l with|none=>x|some z=>if f x z then x else z):=by
 cases l with
 | nil=>rfl
 | cons y l=>simp[X5,List.foldl_append]
def YM(f:Int->Int->Bool)(l:List Int):Int×Bool:=match X5 f l with|none=>(0,false)|some z=>(z,true)
theorem KZ(f:Int->Int->Bool)(l:List Int)(x:Int):YM f (l++[x])=(if !(YM f l).2||f x (YM f l).1 then x else(YM f l).1,true):=by
 unfold YM
 rw[a3t]
 cases X5 f l <;> rfl
theorem b2s(l:Lin):D7 (PV.agg [enc l.k,enc l.t])=l:=Enc.dec_enc l
theorem PO(b:BoxT):Rx (PV.agg [enc b.v,enc b.m])=b:=Enc.dec_enc b
theorem Ar(fs:List Fact):Hy (enc fs)=fs:=Enc.dec_enc fs
def NS(l:Lin)(z:Int)(s:Bool):Zu:=[.obj (.box [.pv (.int .i64 l.k),.pv (enc l.t)]),.obj (.box [.pv (.int .i64 0)]),.obj (.box [.pv (.int .i64 0)]),.obj (.box [.pv (.int .i64 z)]),.obj (.box [.pv (.bool s)]),.obj (.box [.fn 194 [] [.ptr 4 0,.ptr 6 0,.ptr 3 0]]),.obj (.box [.pv (.fn 128)])]
theorem b3u: ∀ args os,XP 128 args os=true->Zc Et os.length (Zk os.length Rw fun r=>r=WI ZH args os) Cq [] (YD c1t args os):=by
 intro args os h
 unfold XP at h
 split at h
 ·rename_i n s g z
  have h:g=128:=by simpa using h
  subst h
  refine c4z n s z (Vu (fun h=> ?_) fun h=>Zj (n,z,()) rfl (Xj (fun h2=> ?_) fun h2=> ?_))
  ·subst h;rfl
  ·subst h
   have h2:ZH n z=true:=h2
   show _=(AV.tup [],[AObj.box [.pv (.bool true)],.box [.pv (.fn 128)],.box [.pv (.int .i64 (if !true||ZH n z then n else z))]],[])
   rw[h2];rfl
  ·subst h
   have h2:ZH n z=false:=h2
   show _=(AV.tup [],[AObj.box [.pv (.bool true)],.box [.pv (.fn 128)],.box [.pv (.int .i64 (if !true||ZH n z then n else z))]],[])
   rw[h2];rfl
 ·cases h
def JS:Yl:=fun n st q=>n=0∧KF VU 0 (.t 31) 177 [32,33] [(15,33)] Vs Uq VZ Jl st q
theorem Nw(b:BoxT)(fs:List Fact)(l:Lin)(hl:ZP l=true)(hb:b.v.length<=1000)(hr:Zo b fs (Zg l) (Ze l)=0)(k:Nat)(p:List Int)(hp:(ZR b fs)[k]? = some p):
  Zv VU (fun n S' _=>n=99∧S'.heap=NS l (YM ZH ((Zt b fs l).take (k+1))).1 (YM ZH ((Zt b fs l).take (k+1))).2) 7 (fun st=>False) (.inl Vs) [.seq (.ext 99 [])]
   ⟨ZF 49 0 [(6,.ptr 0 0),(8,.ptr 1 0),(9,.ptr 2 0),(11,.ptr 3 0),(12,.ptr 4 0),(13,.ptr 5 0),(15,.pv (enc (Zd b.v p))),(32,.pv (enc p)),(33,.pv (enc (Zd b.v p)))],NS l (YM ZH ((Zt b fs l).take k)).1 (YM ZH ((Zt b fs l).take k)).2⟩:=by
 have hk:=(List.getElem?_eq_some_iff.1 hp).1
 have hkp:=(List.getElem?_eq_some_iff.1 hp).2
 have hm:p∈ZR b fs:=List.mem_of_getElem? hp
 have hkv:k<(Zt b fs l).length:=by unfold Zt;rw[List.length_map];exact hk
 have hgv:(Zt b fs l)[k]=(ZX l (Zd b.v p)).1:=by
  have:(Zt b fs l)[k]? = some (ZX l (Zd b.v p)).1:=by unfold Zt;rw[List.getElem?_map,hp];rfl
  exact(List.getElem?_eq_some_iff.1 this).2
 have ht:(Zt b fs l).take (k+1)=(Zt b fs l).take k++[(ZX l (Zd b.v p)).1]:=by rw[List.take_succ_eq_append_getElem hkv,hgv]
 rw[ht,KZ]
 refine b3p (G:=fun _=>False) _ l p (Zd b.v p) _ _ ⟨Zl (l,Zd b.v p,()) rfl ?_,Zj (l,Zd b.v p,()) rfl ?_⟩
 ·show(ZP l&&decide ((Zd b.v p).length<=9223372036854775807))=true
  rw[hl,decide_eq_true (by unfold Zd;rw[List.length_zipWith];omega)];rfl
 ·refine Z0 (by rw[UG hr hm];simp) ⟨rfl,rfl⟩
theorem a6u: ∀ x:BoxT×List Fact×Lin×FnV 128×Unit,(YA x.1 x.2.1 x.2.2.1&&x.2.2.1.t.isEmpty)=true->U3 VU JS 0 (Za Qx (Zm (Yw ZH x.1 x.2.1 x.2.2.1))) Vk [] (Yz b1z (encL x)):=by
 rintro⟨b,fs,l,⟨⟩,⟨⟩⟩ hp
 simp only[YA,Bool.and_eq_true,decide_eq_true_eq]at hp
 obtain⟨⟨⟨⟨⟨⟨h1,h2⟩,h3⟩,h4⟩,h5⟩,h6⟩,h7⟩:=hp
 have key:Zo b fs (Zg l) (Ze l)=0->JS 0 ⟨ZF 49 0 [(6,(.ptr 0 0)),(8,(.ptr 1 0)),(9,(.ptr 2 0)),(11,(.ptr 3 0)),(12,(.ptr 4 0)),(13,(.ptr 5 0)),(15,.undef),(16,.undef),(17,.undef),(31,(.fn 177 [] [(.ptr 6 0),(.ptr 7 0)])),(33,.undef),(34,.undef),(35,.undef),(36,.undef),(37,.undef),(38,.undef),(39,.undef),(40,.undef),(41,.undef),(42,.undef),(43,.undef),(44,.undef)],[(.obj (.box [(.pv (.int .i64 (Lin.k l))),(.pv (.sl 2 false (List.map enc (Lin.t l))))])),(.obj (.box [(.pv (.int .i64 0))])),(.obj (.box [(.pv (.int .i64 0))])),(.obj (.box [(.pv (.int .i64 0))])),(.obj (.box [(.pv (.bool false))])),(.obj (.box [(.fn 194 [] [(.ptr 4 0),(.ptr 8 0),(.ptr 3 0)])])),(.obj (.box [(.pv (.sl 1 false (List.map enc (BoxT.v b)))),(.pv (.int .i64 (BoxT.m b)))])),(.obj (.box [(.pv (.sl 3 false (List.map enc fs)))])),(.obj (.box [(.pv (.fn 128))]))]⟩ (fun x S'=>QL VU JS 0 (Za Qx (Zm (Yw ZH b fs l))) Vk 0 x S'):=by
  intro h0
  obtain⟨hv,_⟩:=XZ _ _ _ _ h0
  refine⟨rfl,[6,7],[[enc b.v,.int .i64 b.m],[enc fs]],[6,8,9,11,12,13],[],⟨ZF 49 0 [(6,.ptr 0 0),(8,.ptr 1 0),(9,.ptr 2 0),(11,.ptr 3 0),(12,.ptr 4 0),(13,.ptr 5 0)],NS l 0 false⟩,(fun k σ=>σ=NS l (YM ZH ((Zt b fs l).take k)).1 (YM ZH ((Zt b fs l).take k)).2),fun _=>False,rfl,by simp,rfl,?_,by kernel_rfl,JE hv h2 h4,rfl,?_,?_,fun σ h=>h.elim⟩
  ·intro j l' ps hl hps
   match j with
   | 0=>cases hl;cases hps;rfl
   | 1=>cases hl;cases hps;rfl
   | j+2=>simp at hl
  ·intro k x σ hx hI
   rw[H6,List.getElem?_map]at hx
   obtain⟨p,hp,rfl⟩:=Option.map_eq_some_iff.1 hx
   subst hI
   have e:D8 [(15,33)] (Ht [32,33] ((Uq (p,Zd b.v p)).map .pv) (ZF 49 0 [(6,.ptr 0 0),(8,.ptr 1 0),(9,.ptr 2 0),(11,.ptr 3 0),(12,.ptr 4 0),(13,.ptr 5 0)]))=ZF 49 0 [(6,.ptr 0 0),(8,.ptr 1 0),(9,.ptr 2 0),(11,.ptr 3 0),(12,.ptr 4 0),(13,.ptr 5 0),(15,.pv (enc (Zd b.v p))),(32,.pv (enc p)),(33,.pv (enc (Zd b.v p)))]:=by kernel_rfl
   have:=Nw b fs l h5 h4 h0 k p hp
   rw[<- e]at this
   exact this
  ·intro σ hI
   rw[H6,List.length_map]at hI
   subst hI
   have hall:(Zt b fs l).take (ZR b fs).length=Zt b fs l:=List.take_of_length_le (by unfold Zt;rw[List.length_map];exact Nat.le_refl _)
   rw[hall]
   refine b2c (G:=Zm (Yw ZH b fs l)) JS b fs l _ _ ?_
   unfold Yw YM
   rw[if_pos h0]
   cases X5 ZH (Zt b fs l)with
   | none=>exact ZV rfl (ZK (x:=((0:Int),(9:Int))) rfl)
   | some z=>exact Z0 (by simp) (ZK (x:=((z:Int),(0:Int))) rfl)
 have hbad:Zo b fs (Zg l) (Ze l)≠0->Zm (Yw ZH b fs l) (.tup [.int .i64 0,.int .i64 (Zo b fs (Zg l) (Ze l))]):=by
  intro h0
  unfold Yw
  rw[if_neg h0]
  exact ZK (x:=((0:Int),Zo b fs (Zg l) (Ze l))) rfl
 have ht:l.t=[]:=List.isEmpty_iff.1 h7
 have hn:Ze l=[]:=by unfold Ze;rw[ht];rfl
 refine b9y JS b fs l ⟨Zl (l,()) rfl h5,Zj (l,()) rfl ⟨?_,Zl (b,fs,Zg l,⟨⟩,()) rfl (by simp[h1,h2,h3]),Zj (b,fs,Zg l,⟨⟩,()) rfl ?_⟩⟩
 ·show(XX Lin (enc l)&&(dec (enc l:PV):Lin).t.isEmpty)=true
  rw[ZI,Enc.dec_enc,ht];rfl
 ·show if (Zo b fs (Zg l) [] != 0)=true then _ else _
  rw[hn]at key hbad
  by_cases h0:Zo b fs (Zg l) []=0
  ·rw[if_neg (by simp[h0])]
   refine⟨?_,key h0⟩
   show(XX (List Str) (enc b.v)&&XX (List Fact) (enc fs))=true
   rw[ZI,ZI];rfl
  ·rw[if_pos (by simpa using h0)]
   exact hbad h0
def JD:Yl:=fun n st q=>n=0∧KF VR 0 (.t 31) 177 [32,33] [(15,33)] Qs Uq VZ Jl st q
theorem LV(b:BoxT)(fs:List Fact)(l:Lin)(hl:ZP l=true)(hb:b.v.length<=1000)(hr:Zo b fs (Zg l) (Ze l)=0)(k:Nat)(p:List Int)(hp:(ZR b fs)[k]? = some p):
  Zv VR (fun n S' _=>n=99∧S'.heap=NS l (YM ZH ((Zt b fs l).take (k+1))).1 (YM ZH ((Zt b fs l).take (k+1))).2) 7 (fun st=>False) (.inl Qs) [.seq (.ext 99 [])]
   ⟨ZF 49 0 [(6,.ptr 0 0),(8,.ptr 1 0),(9,.ptr 2 0),(11,.ptr 3 0),(12,.ptr 4 0),(13,.ptr 5 0),(15,.pv (enc (Zd b.v p))),(32,.pv (enc p)),(33,.pv (enc (Zd b.v p)))],NS l (YM ZH ((Zt b fs l).take k)).1 (YM ZH ((Zt b fs l).take k)).2⟩:=by
 have hk:=(List.getElem?_eq_some_iff.1 hp).1
 have hkp:=(List.getElem?_eq_some_iff.1 hp).2
 have hm:p∈ZR b fs:=List.mem_of_getElem? hp
 have hkv:k<(Zt b fs l).length:=by unfold Zt;rw[List.length_map];exact hk
 have hgv:(Zt b fs l)[k]=(ZX l (Zd b.v p)).1:=by
  have:(Zt b fs l)[k]? = some (ZX l (Zd b.v p)).1:=by unfold Zt;rw[List.getElem?_map,hp];rfl
  exact(List.getElem?_eq_some_iff.1 this).2
 have ht:(Zt b fs l).take (k+1)=(Zt b fs l).take k++[(ZX l (Zd b.v p)).1]:=by rw[List.take_succ_eq_append_getElem hkv,hgv]
 rw[ht,KZ]
 refine b5h (G:=fun _=>False) _ l p (Zd b.v p) _ _ ⟨Zl (l,Zd b.v p,()) rfl ?_,Zj (l,Zd b.v p,()) rfl ?_⟩
 ·show(ZP l&&decide ((Zd b.v p).length<=9223372036854775807))=true
  rw[hl,decide_eq_true (by unfold Zd;rw[List.length_zipWith];omega)];rfl
 ·refine Z0 (by rw[UG hr hm];simp) ⟨rfl,rfl⟩
theorem a3w: ∀ x:BoxT×List Fact×Lin×FnV 128×Unit,(YA x.1 x.2.1 x.2.2.1&& !x.2.2.1.t.isEmpty)=true->U3 VR JD 0 (Za QK (Zm (Yw ZH x.1 x.2.1 x.2.2.1))) QT [] (Yz b1r (encL x)):=by
 rintro⟨b,fs,l,⟨⟩,⟨⟩⟩ hp
 simp only[YA,Bool.and_eq_true,decide_eq_true_eq]at hp
 obtain⟨⟨⟨⟨⟨⟨h1,h2⟩,h3⟩,h4⟩,h5⟩,h6⟩,h7⟩:=hp
 have key:Zo b fs (Zg l) (Ze l)=0->JD 0 ⟨ZF 49 0 [(6,(.ptr 0 0)),(8,(.ptr 1 0)),(9,(.ptr 2 0)),(11,(.ptr 3 0)),(12,(.ptr 4 0)),(13,(.ptr 5 0)),(15,.undef),(16,.undef),(17,.undef),(31,(.fn 177 [] [(.ptr 6 0),(.ptr 7 0)])),(33,.undef),(34,.undef),(35,.undef),(36,.undef),(37,.undef),(38,.undef),(39,.undef),(40,.undef),(41,.undef),(42,.undef),(43,.undef),(44,.undef)],[(.obj (.box [(.pv (.int .i64 (Lin.k l))),(.pv (.sl 2 false (List.map enc (Lin.t l))))])),(.obj (.box [(.pv (.int .i64 0))])),(.obj (.box [(.pv (.int .i64 0))])),(.obj (.box [(.pv (.int .i64 0))])),(.obj (.box [(.pv (.bool false))])),(.obj (.box [(.fn 194 [] [(.ptr 4 0),(.ptr 8 0),(.ptr 3 0)])])),(.obj (.box [(.pv (.sl 1 false (List.map enc (BoxT.v b)))),(.pv (.int .i64 (BoxT.m b)))])),(.obj (.box [(.pv (.sl 3 false (List.map enc fs)))])),(.obj (.box [(.pv (.fn 128))]))]⟩ (fun x S'=>QL VR JD 0 (Za QK (Zm (Yw ZH b fs l))) QT 0 x S'):=by
  intro h0
  obtain⟨hv,_⟩:=XZ _ _ _ _ h0
  refine⟨rfl,[6,7],[[enc b.v,.int .i64 b.m],[enc fs]],[6,8,9,11,12,13],[],⟨ZF 49 0 [(6,.ptr 0 0),(8,.ptr 1 0),(9,.ptr 2 0),(11,.ptr 3 0),(12,.ptr 4 0),(13,.ptr 5 0)],NS l 0 false⟩,(fun k σ=>σ=NS l (YM ZH ((Zt b fs l).take k)).1 (YM ZH ((Zt b fs l).take k)).2),fun _=>False,rfl,by simp,rfl,?_,by kernel_rfl,JE hv h2 h4,rfl,?_,?_,fun σ h=>h.elim⟩
  ·intro j l' ps hl hps
   match j with
   | 0=>cases hl;cases hps;rfl
   | 1=>cases hl;cases hps;rfl
   | j+2=>simp at hl
  ·intro k x σ hx hI
   rw[H6,List.getElem?_map]at hx
   obtain⟨p,hp,rfl⟩:=Option.map_eq_some_iff.1 hx
   subst hI
   have e:D8 [(15,33)] (Ht [32,33] ((Uq (p,Zd b.v p)).map .pv) (ZF 49 0 [(6,.ptr 0 0),(8,.ptr 1 0),(9,.ptr 2 0),(11,.ptr 3 0),(12,.ptr 4 0),(13,.ptr 5 0)]))=ZF 49 0 [(6,.ptr 0 0),(8,.ptr 1 0),(9,.ptr 2 0),(11,.ptr 3 0),(12,.ptr 4 0),(13,.ptr 5 0),(15,.pv (enc (Zd b.v p))),(32,.pv (enc p)),(33,.pv (enc (Zd b.v p)))]:=by kernel_rfl
   have:=LV b fs l h5 h4 h0 k p hp
   rw[<- e]at this
   exact this
  ·intro σ hI
   rw[H6,List.length_map]at hI
   subst hI
   have hall:(Zt b fs l).take (ZR b fs).length=Zt b fs l:=List.take_of_length_le (by unfold Zt;rw[List.length_map];exact Nat.le_refl _)
   rw[hall]
   refine a8o (G:=Zm (Yw ZH b fs l)) JD b fs l _ _ ?_
   unfold Yw YM
   rw[if_pos h0]
   cases X5 ZH (Zt b fs l)with
   | none=>exact ZV rfl (ZK (x:=((0:Int),(9:Int))) rfl)
   | some z=>exact Z0 (by simp) (ZK (x:=((z:Int),(0:Int))) rfl)
 have hbad:Zo b fs (Zg l) (Ze l)≠0->Zm (Yw ZH b fs l) (.tup [.int .i64 0,.int .i64 (Zo b fs (Zg l) (Ze l))]):=by
  intro h0
  unfold Yw
  rw[if_neg h0]
  exact ZK (x:=((0:Int),Zo b fs (Zg l) (Ze l))) rfl
 have hne:l.t≠[]:=by intro h;rw[h]at h7;simp at h7
 refine b8d JD b fs l ⟨Zl (l,()) rfl h5,Zj (l,()) rfl ⟨?_,?_⟩⟩
 ·show(XX Lin (enc l)&& !(dec (enc l:PV):Lin).t.isEmpty&&decide ((dec (enc l:PV):Lin).t.length<=1000000))=true
  rw[ZI,Enc.dec_enc,decide_eq_true (by omega)]
  simpa using hne
 ·rw[b2s,PO,Ar,V7]
  have hnl:(Ze l).length=l.t.length:=by unfold Ze;rw[List.length_map]
  refine⟨?_,?_⟩
  ·show(XX BoxT (enc b)&&XX (List Fact) (enc fs)&&9==9&&Am (Ze l).length (Ze l).length ((Ze l).map enc)&&decide ((Ze l).length<=1000)&& !((Ze l).map (enc:Str->PV)).isEmpty&&ZT (dec (enc b:PV))&&Zp (dec (enc fs:PV))&&decide ((dec (enc fs:PV):List Fact).length<=100)&&decide (((Ze l).map (enc:Str->PV)).length<=1000))=true
   rw[List.length_map,ZI,ZI,Enc.dec_enc,Enc.dec_enc,Gg rfl (by omega),h1,h2,decide_eq_true h3,decide_eq_true (show(Ze l).length<=1000 by omega)]
   have:((Ze l).map (enc:Str->PV)).isEmpty=false:=by
    rw[List.isEmpty_eq_false_iff]
    intro h
    have:=congrArg List.length h
    rw[List.length_map,hnl]at this
    exact hne (List.length_eq_zero_iff.1 this)
   rw[this];simp
  ·show if (Zo b fs (Zg l) (Ze l) != 0)=true then _ else _
   by_cases h0:Zo b fs (Zg l) (Ze l)=0
   ·rw[if_neg (by simp[h0])]
    refine⟨?_,key h0⟩
    show(XX (List Str) (enc b.v)&&XX (List Fact) (enc fs))=true
    rw[ZI,ZI];rfl
   ·rw[if_pos (by simpa using h0)]
    exact hbad h0
theorem a7k: ∀ x:BoxT×List Fact×Lin×Unit,YA x.1 x.2.1 x.2.2.1=true->Zc Ew 0 (Za P8 (Zm (Yw ZH x.1 x.2.1 x.2.2.1))) PH [] (Yz c0o (encL x)):=by
 rintro⟨b,fs,l,⟨⟩⟩ hp
 exact c3w b fs l ⟨Zl (b,fs,l,⟨()⟩,()) rfl hp,Zj (b,fs,l,⟨()⟩,()) rfl (ZK (x:=Yw ZH b fs l) rfl)⟩
def MM(l:Lin)(z:Int)(s:Bool):Zu:=[.obj (.box [.pv (.int .i64 l.k),.pv (enc l.t)]),.obj (.box [.pv (.int .i64 0)]),.obj (.box [.pv (.int .i64 0)]),.obj (.box [.pv (.int .i64 z)]),.obj (.box [.pv (.bool s)]),.obj (.box [.fn 194 [] [.ptr 4 0,.ptr 6 0,.ptr 3 0]]),.obj (.box [.pv (.fn 133)])]
theorem b2k: ∀ args os,XP 133 args os=true->Zc EC os.length (Zk os.length RX fun r=>r=WI Z5 args os) Rz [] (YD b9f args os):=by
 intro args os h
 unfold XP at h
 split at h
 ·rename_i n s g z
  have h:g=133:=by simpa using h
  subst h
  refine c3i n s z (Vu (fun h=> ?_) fun h=>Zj (n,z,()) rfl (Xj (fun h2=> ?_) fun h2=> ?_))
  ·subst h;rfl
  ·subst h
   have h2:Z5 n z=true:=h2
   show _=(AV.tup [],[AObj.box [.pv (.bool true)],.box [.pv (.fn 133)],.box [.pv (.int .i64 (if !true||Z5 n z then n else z))]],[])
   rw[h2];rfl
  ·subst h
   have h2:Z5 n z=false:=h2
   show _=(AV.tup [],[AObj.box [.pv (.bool true)],.box [.pv (.fn 133)],.box [.pv (.int .i64 (if !true||Z5 n z then n else z))]],[])
   rw[h2];rfl
 ·cases h
def Jt:Yl:=fun n st q=>n=0∧KF VY 0 (.t 31) 177 [32,33] [(15,33)] QD Uq VZ Jl st q
theorem Mt(b:BoxT)(fs:List Fact)(l:Lin)(hl:ZP l=true)(hb:b.v.length<=1000)(hr:Zo b fs (Zg l) (Ze l)=0)(k:Nat)(p:List Int)(hp:(ZR b fs)[k]? = some p):
  Zv VY (fun n S' _=>n=99∧S'.heap=MM l (YM Z5 ((Zt b fs l).take (k+1))).1 (YM Z5 ((Zt b fs l).take (k+1))).2) 7 (fun st=>False) (.inl QD) [.seq (.ext 99 [])]
   ⟨ZF 49 0 [(6,.ptr 0 0),(8,.ptr 1 0),(9,.ptr 2 0),(11,.ptr 3 0),(12,.ptr 4 0),(13,.ptr 5 0),(15,.pv (enc (Zd b.v p))),(32,.pv (enc p)),(33,.pv (enc (Zd b.v p)))],MM l (YM Z5 ((Zt b fs l).take k)).1 (YM Z5 ((Zt b fs l).take k)).2⟩:=by
 have hk:=(List.getElem?_eq_some_iff.1 hp).1
 have hkp:=(List.getElem?_eq_some_iff.1 hp).2
 have hm:p∈ZR b fs:=List.mem_of_getElem? hp
 have hkv:k<(Zt b fs l).length:=by unfold Zt;rw[List.length_map];exact hk
 have hgv:(Zt b fs l)[k]=(ZX l (Zd b.v p)).1:=by
  have:(Zt b fs l)[k]? = some (ZX l (Zd b.v p)).1:=by unfold Zt;rw[List.getElem?_map,hp];rfl
  exact(List.getElem?_eq_some_iff.1 this).2
 have ht:(Zt b fs l).take (k+1)=(Zt b fs l).take k++[(ZX l (Zd b.v p)).1]:=by rw[List.take_succ_eq_append_getElem hkv,hgv]
 rw[ht,KZ]
 refine b2b (G:=fun _=>False) _ l p (Zd b.v p) _ _ ⟨Zl (l,Zd b.v p,()) rfl ?_,Zj (l,Zd b.v p,()) rfl ?_⟩
 ·show(ZP l&&decide ((Zd b.v p).length<=9223372036854775807))=true
  rw[hl,decide_eq_true (by unfold Zd;rw[List.length_zipWith];omega)];rfl
 ·refine Z0 (by rw[UG hr hm];simp) ⟨rfl,rfl⟩
theorem a7a: ∀ x:BoxT×List Fact×Lin×FnV 133×Unit,(YA x.1 x.2.1 x.2.2.1&&x.2.2.1.t.isEmpty)=true->U3 VY Jt 0 (Za QE (Zm (Yw Z5 x.1 x.2.1 x.2.2.1))) QI [] (Yz b1e (encL x)):=by
 rintro⟨b,fs,l,⟨⟩,⟨⟩⟩ hp
 simp only[YA,Bool.and_eq_true,decide_eq_true_eq]at hp
 obtain⟨⟨⟨⟨⟨⟨h1,h2⟩,h3⟩,h4⟩,h5⟩,h6⟩,h7⟩:=hp
 have key:Zo b fs (Zg l) (Ze l)=0->Jt 0 ⟨ZF 49 0 [(6,(.ptr 0 0)),(8,(.ptr 1 0)),(9,(.ptr 2 0)),(11,(.ptr 3 0)),(12,(.ptr 4 0)),(13,(.ptr 5 0)),(15,.undef),(16,.undef),(17,.undef),(31,(.fn 177 [] [(.ptr 6 0),(.ptr 7 0)])),(33,.undef),(34,.undef),(35,.undef),(36,.undef),(37,.undef),(38,.undef),(39,.undef),(40,.undef),(41,.undef),(42,.undef),(43,.undef),(44,.undef)],[(.obj (.box [(.pv (.int .i64 (Lin.k l))),(.pv (.sl 2 false (List.map enc (Lin.t l))))])),(.obj (.box [(.pv (.int .i64 0))])),(.obj (.box [(.pv (.int .i64 0))])),(.obj (.box [(.pv (.int .i64 0))])),(.obj (.box [(.pv (.bool false))])),(.obj (.box [(.fn 194 [] [(.ptr 4 0),(.ptr 8 0),(.ptr 3 0)])])),(.obj (.box [(.pv (.sl 1 false (List.map enc (BoxT.v b)))),(.pv (.int .i64 (BoxT.m b)))])),(.obj (.box [(.pv (.sl 3 false (List.map enc fs)))])),(.obj (.box [(.pv (.fn 133))]))]⟩ (fun x S'=>QL VY Jt 0 (Za QE (Zm (Yw Z5 b fs l))) QI 0 x S'):=by
  intro h0
  obtain⟨hv,_⟩:=XZ _ _ _ _ h0
  refine⟨rfl,[6,7],[[enc b.v,.int .i64 b.m],[enc fs]],[6,8,9,11,12,13],[],⟨ZF 49 0 [(6,.ptr 0 0),(8,.ptr 1 0),(9,.ptr 2 0),(11,.ptr 3 0),(12,.ptr 4 0),(13,.ptr 5 0)],MM l 0 false⟩,(fun k σ=>σ=MM l (YM Z5 ((Zt b fs l).take k)).1 (YM Z5 ((Zt b fs l).take k)).2),fun _=>False,rfl,by simp,rfl,?_,by kernel_rfl,JE hv h2 h4,rfl,?_,?_,fun σ h=>h.elim⟩
  ·intro j l' ps hl hps
   match j with
   | 0=>cases hl;cases hps;rfl
   | 1=>cases hl;cases hps;rfl
   | j+2=>simp at hl
  ·intro k x σ hx hI
   rw[H6,List.getElem?_map]at hx
   obtain⟨p,hp,rfl⟩:=Option.map_eq_some_iff.1 hx
   subst hI
   have e:D8 [(15,33)] (Ht [32,33] ((Uq (p,Zd b.v p)).map .pv) (ZF 49 0 [(6,.ptr 0 0),(8,.ptr 1 0),(9,.ptr 2 0),(11,.ptr 3 0),(12,.ptr 4 0),(13,.ptr 5 0)]))=ZF 49 0 [(6,.ptr 0 0),(8,.ptr 1 0),(9,.ptr 2 0),(11,.ptr 3 0),(12,.ptr 4 0),(13,.ptr 5 0),(15,.pv (enc (Zd b.v p))),(32,.pv (enc p)),(33,.pv (enc (Zd b.v p)))]:=by kernel_rfl
   have:=Mt b fs l h5 h4 h0 k p hp
   rw[<- e]at this
   exact this
  ·intro σ hI
   rw[H6,List.length_map]at hI
   subst hI
   have hall:(Zt b fs l).take (ZR b fs).length=Zt b fs l:=List.take_of_length_le (by unfold Zt;rw[List.length_map];exact Nat.le_refl _)
   rw[hall]
   refine b5k (G:=Zm (Yw Z5 b fs l)) Jt b fs l _ _ ?_
   unfold Yw YM
   rw[if_pos h0]
   cases X5 Z5 (Zt b fs l)with
   | none=>exact ZV rfl (ZK (x:=((0:Int),(9:Int))) rfl)
   | some z=>exact Z0 (by simp) (ZK (x:=((z:Int),(0:Int))) rfl)
 have hbad:Zo b fs (Zg l) (Ze l)≠0->Zm (Yw Z5 b fs l) (.tup [.int .i64 0,.int .i64 (Zo b fs (Zg l) (Ze l))]):=by
  intro h0
  unfold Yw
  rw[if_neg h0]
  exact ZK (x:=((0:Int),Zo b fs (Zg l) (Ze l))) rfl
 have ht:l.t=[]:=List.isEmpty_iff.1 h7
 have hn:Ze l=[]:=by unfold Ze;rw[ht];rfl
 refine b8v Jt b fs l ⟨Zl (l,()) rfl h5,Zj (l,()) rfl ⟨?_,Zl (b,fs,Zg l,⟨⟩,()) rfl (by simp[h1,h2,h3]),Zj (b,fs,Zg l,⟨⟩,()) rfl ?_⟩⟩
 ·show(XX Lin (enc l)&&(dec (enc l:PV):Lin).t.isEmpty)=true
  rw[ZI,Enc.dec_enc,ht];rfl
 ·show if (Zo b fs (Zg l) [] != 0)=true then _ else _
  rw[hn]at key hbad
  by_cases h0:Zo b fs (Zg l) []=0
  ·rw[if_neg (by simp[h0])]
   refine⟨?_,key h0⟩
   show(XX (List Str) (enc b.v)&&XX (List Fact) (enc fs))=true
   rw[ZI,ZI];rfl
  ·rw[if_pos (by simpa using h0)]
   exact hbad h0
def JN:Yl:=fun n st q=>n=0∧KF VX 0 (.t 31) 177 [32,33] [(15,33)] Qw Uq VZ Jl st q
theorem M8(b:BoxT)(fs:List Fact)(l:Lin)(hl:ZP l=true)(hb:b.v.length<=1000)(hr:Zo b fs (Zg l) (Ze l)=0)(k:Nat)(p:List Int)(hp:(ZR b fs)[k]? = some p):
  Zv VX (fun n S' _=>n=99∧S'.heap=MM l (YM Z5 ((Zt b fs l).take (k+1))).1 (YM Z5 ((Zt b fs l).take (k+1))).2) 7 (fun st=>False) (.inl Qw) [.seq (.ext 99 [])]
   ⟨ZF 49 0 [(6,.ptr 0 0),(8,.ptr 1 0),(9,.ptr 2 0),(11,.ptr 3 0),(12,.ptr 4 0),(13,.ptr 5 0),(15,.pv (enc (Zd b.v p))),(32,.pv (enc p)),(33,.pv (enc (Zd b.v p)))],MM l (YM Z5 ((Zt b fs l).take k)).1 (YM Z5 ((Zt b fs l).take k)).2⟩:=by
 have hk:=(List.getElem?_eq_some_iff.1 hp).1
 have hkp:=(List.getElem?_eq_some_iff.1 hp).2
 have hm:p∈ZR b fs:=List.mem_of_getElem? hp
 have hkv:k<(Zt b fs l).length:=by unfold Zt;rw[List.length_map];exact hk
 have hgv:(Zt b fs l)[k]=(ZX l (Zd b.v p)).1:=by
  have:(Zt b fs l)[k]? = some (ZX l (Zd b.v p)).1:=by unfold Zt;rw[List.getElem?_map,hp];rfl
  exact(List.getElem?_eq_some_iff.1 this).2
 have ht:(Zt b fs l).take (k+1)=(Zt b fs l).take k++[(ZX l (Zd b.v p)).1]:=by rw[List.take_succ_eq_append_getElem hkv,hgv]
 rw[ht,KZ]
 refine b1s (G:=fun _=>False) _ l p (Zd b.v p) _ _ ⟨Zl (l,Zd b.v p,()) rfl ?_,Zj (l,Zd b.v p,()) rfl ?_⟩
 ·show(ZP l&&decide ((Zd b.v p).length<=9223372036854775807))=true
  rw[hl,decide_eq_true (by unfold Zd;rw[List.length_zipWith];omega)];rfl
 ·refine Z0 (by rw[UG hr hm];simp) ⟨rfl,rfl⟩
theorem a2s: ∀ x:BoxT×List Fact×Lin×FnV 133×Unit,(YA x.1 x.2.1 x.2.2.1&& !x.2.2.1.t.isEmpty)=true->U3 VX JN 0 (Za QQ (Zm (Yw Z5 x.1 x.2.1 x.2.2.1))) QH [] (Yz a9x (encL x)):=by
 rintro⟨b,fs,l,⟨⟩,⟨⟩⟩ hp
 simp only[YA,Bool.and_eq_true,decide_eq_true_eq]at hp
 obtain⟨⟨⟨⟨⟨⟨h1,h2⟩,h3⟩,h4⟩,h5⟩,h6⟩,h7⟩:=hp
 have key:Zo b fs (Zg l) (Ze l)=0->JN 0 ⟨ZF 49 0 [(6,(.ptr 0 0)),(8,(.ptr 1 0)),(9,(.ptr 2 0)),(11,(.ptr 3 0)),(12,(.ptr 4 0)),(13,(.ptr 5 0)),(15,.undef),(16,.undef),(17,.undef),(31,(.fn 177 [] [(.ptr 6 0),(.ptr 7 0)])),(33,.undef),(34,.undef),(35,.undef),(36,.undef),(37,.undef),(38,.undef),(39,.undef),(40,.undef),(41,.undef),(42,.undef),(43,.undef),(44,.undef)],[(.obj (.box [(.pv (.int .i64 (Lin.k l))),(.pv (.sl 2 false (List.map enc (Lin.t l))))])),(.obj (.box [(.pv (.int .i64 0))])),(.obj (.box [(.pv (.int .i64 0))])),(.obj (.box [(.pv (.int .i64 0))])),(.obj (.box [(.pv (.bool false))])),(.obj (.box [(.fn 194 [] [(.ptr 4 0),(.ptr 8 0),(.ptr 3 0)])])),(.obj (.box [(.pv (.sl 1 false (List.map enc (BoxT.v b)))),(.pv (.int .i64 (BoxT.m b)))])),(.obj (.box [(.pv (.sl 3 false (List.map enc fs)))])),(.obj (.box [(.pv (.fn 133))]))]⟩ (fun x S'=>QL VX JN 0 (Za QQ (Zm (Yw Z5 b fs l))) QH 0 x S'):=by
  intro h0
  obtain⟨hv,_⟩:=XZ _ _ _ _ h0
  refine⟨rfl,[6,7],[[enc b.v,.int .i64 b.m],[enc fs]],[6,8,9,11,12,13],[],⟨ZF 49 0 [(6,.ptr 0 0),(8,.ptr 1 0),(9,.ptr 2 0),(11,.ptr 3 0),(12,.ptr 4 0),(13,.ptr 5 0)],MM l 0 false⟩,(fun k σ=>σ=MM l (YM Z5 ((Zt b fs l).take k)).1 (YM Z5 ((Zt b fs l).take k)).2),fun _=>False,rfl,by simp,rfl,?_,by kernel_rfl,JE hv h2 h4,rfl,?_,?_,fun σ h=>h.elim⟩
  ·intro j l' ps hl hps
   match j with
   | 0=>cases hl;cases hps;rfl
   | 1=>cases hl;cases hps;rfl
   | j+2=>simp at hl
  ·intro k x σ hx hI
   rw[H6,List.getElem?_map]at hx
   obtain⟨p,hp,rfl⟩:=Option.map_eq_some_iff.1 hx
   subst hI
   have e:D8 [(15,33)] (Ht [32,33] ((Uq (p,Zd b.v p)).map .pv) (ZF 49 0 [(6,.ptr 0 0),(8,.ptr 1 0),(9,.ptr 2 0),(11,.ptr 3 0),(12,.ptr 4 0),(13,.ptr 5 0)]))=ZF 49 0 [(6,.ptr 0 0),(8,.ptr 1 0),(9,.ptr 2 0),(11,.ptr 3 0),(12,.ptr 4 0),(13,.ptr 5 0),(15,.pv (enc (Zd b.v p))),(32,.pv (enc p)),(33,.pv (enc (Zd b.v p)))]:=by kernel_rfl
   have:=M8 b fs l h5 h4 h0 k p hp
   rw[<- e]at this
   exact this
  ·intro σ hI
   rw[H6,List.length_map]at hI
   subst hI
   have hall:(Zt b fs l).take (ZR b fs).length=Zt b fs l:=List.take_of_length_le (by unfold Zt;rw[List.length_map];exact Nat.le_refl _)
   rw[hall]
   refine b2a (G:=Zm (Yw Z5 b fs l)) JN b fs l _ _ ?_
   unfold Yw YM
   rw[if_pos h0]
   cases X5 Z5 (Zt b fs l)with
   | none=>exact ZV rfl (ZK (x:=((0:Int),(9:Int))) rfl)
   | some z=>exact Z0 (by simp) (ZK (x:=((z:Int),(0:Int))) rfl)
 have hbad:Zo b fs (Zg l) (Ze l)≠0->Zm (Yw Z5 b fs l) (.tup [.int .i64 0,.int .i64 (Zo b fs (Zg l) (Ze l))]):=by
  intro h0
  unfold Yw
  rw[if_neg h0]
  exact ZK (x:=((0:Int),Zo b fs (Zg l) (Ze l))) rfl
 have hne:l.t≠[]:=by intro h;rw[h]at h7;simp at h7
 refine b6p JN b fs l ⟨Zl (l,()) rfl h5,Zj (l,()) rfl ⟨?_,?_⟩⟩
 ·show(XX Lin (enc l)&& !(dec (enc l:PV):Lin).t.isEmpty&&decide ((dec (enc l:PV):Lin).t.length<=1000000))=true
  rw[ZI,Enc.dec_enc,decide_eq_true (by omega)]
  simpa using hne
 ·rw[b2s,PO,Ar,V7]
  have hnl:(Ze l).length=l.t.length:=by unfold Ze;rw[List.length_map]
  refine⟨?_,?_⟩
  ·show(XX BoxT (enc b)&&XX (List Fact) (enc fs)&&9==9&&Am (Ze l).length (Ze l).length ((Ze l).map enc)&&decide ((Ze l).length<=1000)&& !((Ze l).map (enc:Str->PV)).isEmpty&&ZT (dec (enc b:PV))&&Zp (dec (enc fs:PV))&&decide ((dec (enc fs:PV):List Fact).length<=100)&&decide (((Ze l).map (enc:Str->PV)).length<=1000))=true
   rw[List.length_map,ZI,ZI,Enc.dec_enc,Enc.dec_enc,Gg rfl (by omega),h1,h2,decide_eq_true h3,decide_eq_true (show(Ze l).length<=1000 by omega)]
   have:((Ze l).map (enc:Str->PV)).isEmpty=false:=by
    rw[List.isEmpty_eq_false_iff]
    intro h
    have:=congrArg List.length h
    rw[List.length_map,hnl]at this
    exact hne (List.length_eq_zero_iff.1 this)
   rw[this];simp
  ·show if (Zo b fs (Zg l) (Ze l) != 0)=true then _ else _
   by_cases h0:Zo b fs (Zg l) (Ze l)=0
   ·rw[if_neg (by simp[h0])]
    refine⟨?_,key h0⟩
    show(XX (List Str) (enc b.v)&&XX (List Fact) (enc fs))=true
    rw[ZI,ZI];rfl
   ·rw[if_pos (by simpa using h0)]
    exact hbad h0
theorem b3t: ∀ x:BoxT×List Fact×Lin×Unit,YA x.1 x.2.1 x.2.2.1=true->Zc FZ 0 (Za PE (Zm (Yw Z5 x.1 x.2.1 x.2.2.1))) R4 [] (Yz b7r (encL x)):=by
 rintro⟨b,fs,l,⟨⟩⟩ hp
 exact c4g b fs l ⟨Zl (b,fs,l,⟨()⟩,()) rfl hp,Zj (b,fs,l,⟨()⟩,()) rfl (ZK (x:=Yw Z5 b fs l) rfl)⟩
theorem c0k: ∀ x:Int×Int×Unit,(fun _:Int×Int×Unit=>true) x=true->Zc b6j 0 (Za FN (Zm (decide (x.1<x.2.1)))) OP [] (Yz c4a (encL x)):=by
 rintro⟨m,n,⟨⟩⟩ _
 exact c7i m n (ZZ rfl)
theorem b9x: ∀ x:Int×Int×Unit,(fun _:Int×Int×Unit=>true) x=true->Zc b6b 0 (Za OZ (Zm (decide (x.1>x.2.1)))) Es [] (Yz c4o (encL x)):=by
 rintro⟨m,n,⟨⟩⟩ _
 exact c7p m n (ZZ rfl)
end Go.Pl

namespace Go.Pl
open Go.RowKit
open Enc (enc dec is)
open EncL (encL decL isL)
set_option maxRecDepth 100000
def Nc:IC:=(.seq (.reg [⟨(some 2),(.mv (.c (.bool false))),0,none⟩] none) (.seq (.reg [⟨(some 3),(.mv (.t 0)),0,none⟩,⟨(some 4),(.call (.c (.fn 119)) [(.t 3)]),0,none⟩,⟨(some 5),(.un .not (.t 4)),2,none⟩,⟨(some 2),(.mv (.t 5)),2,none⟩] none) .ret))
def P9:List IRes:=[(.tmp 2)]
abbrev b7t:Nat:=6
def F5:ZE:=Xg [(119,.pure (preT (fun x:Str×Unit=>decide (x.1.s.length<=281474976710656))) (Zf (fun x:Str×Unit=>ZA x.1)))]
theorem c3s{G:PV->Prop}(s:List UInt8)(h:(Go.Pl.preT (fun(x:Str×Unit)=>decide (List.length (Str.s x.1)<=281474976710656)) [(.str s)])=true∧(∃ y0:Bool,AV.pv (Zf (fun(x:Str×Unit)=>ZA x.1) [(.str s)])=AV.pv (enc y0)∧(G ((.bool !y0))))):Zc F5 0 (Za P9 G) Nc [] (Yz 6 [.str s]):=Zc.tp (.req (.abs (Bool) (fun YY=>AV.pv (enc YY)) (.nil))) h (by kernel_rfl)
def Ju:IC:=UZ
def JV:List IRes:=[(.tmp 4)]
abbrev c3e:Nat:=19
def Af:ZE:=Xg [(185,.pure (preT (fun x:Str×Unit=>decide (x.1.s.length<=281474976710656))) (Zf (fun x:Str×Unit=> !(ZA x.1))))]
theorem c7e{G:PV->Prop}(l:List Str)(h:At Af 0 (Za JV G) Ju 0 19 [(0,(.pv (.sl 1 false (List.map enc l)))),(1,(.pv (.fn 185))),(7,(.pv (.int .i64 (↑(List.length (List.map enc l)):Int)))),(8,(.pv (.int .i64 0)))] []):Zc Af 0 (Za JV G) Ju [] (Yz 19 [enc l,.fn 185]):=Zc.tp (.nil) h (by kernel_rfl)
theorem b0l{G:PV->Prop}(l:List Str)(i:Int)(h:if (decide (i<(↑(List.length l):Int)))=true then(decide (0<=i)&&decide (Int.toNat i<List.length (List.map enc l))&&Enc.sz Str==1)=true∧(∃ y0:Str,AV.pv (PV.rptr (PV.cells (List.getD (List.map enc l) (Int.toNat i) default)))=AV.pv (PV.rptr (PV.cells ((enc) y0)))∧((Go.Pl.preT (fun(x:Str×Unit)=>decide (List.length (Str.s x.1)<=281474976710656)) [(.str (PV.asStr (List.getD (PV.cells (enc y0)) 0 default)))])=true∧(∃ y1:Bool,AV.pv (Zf (fun(x:Str×Unit)=> !ZA x.1) [(.str (PV.asStr (List.getD (PV.cells (enc y0)) 0 default)))])=AV.pv (enc y1)∧(if (y1)=true then G ((.int .i64 i))else(At Af 0 (Za JV G) Ju 0 19 [(0,(.pv (.sl 1 false (List.map enc l)))),(1,(.pv (.fn 185))),(7,(.pv (.int .i64 (↑(List.length l):Int)))),(8,(.pv (.int .i64 (IntKind.wrap IntKind.i64 (i+1)))))] [])))))else(G ((.int .i64 (-1))))):At Af 0 (Za JV G) Ju 0 19 [(0,.pv (enc l)),(1,.pv (.fn 185)),(7,.pv (.int .i64 l.length)),(8,.pv (.int .i64 i))] []:=At.tp (.lit (.ask (.req (.abs (Str) (fun YY=>AV.pv (PV.rptr (PV.cells ((enc) YY)))) (.lit (.req (.abs (Bool) (fun YY=>AV.pv (enc YY)) (.ask (.nil) (.lit (.nil)))))))) (.nil))) h (by kernel_rfl)
def Ei:IC:=Ay
def F9:List IRes:=[(.tmp 4)]
abbrev c2y:Nat:=9
def b5a:ZE:=Xg [(238,.pure (preT (fun x:List Str×FnV 185×Unit=>WF x.1)) (Zf (fun x:List Str×FnV 185×Unit=>Zy (fun s:Str=> !(ZA s)) x.1)))]
theorem c8n{G:PV->Prop}(l:List Str)(h:(Go.Pl.preT (fun(x:List Str×FnV 185×Unit)=>WF x.1) [(.sl 1 false (List.map enc l)),(.fn 185)])=true∧(∃ y0:Int,AV.pv (Zf (fun(x:List Str×FnV 185×Unit)=>Zy (fun(s:Str)=> !ZA s) x.1) [(.sl 1 false (List.map enc l)),(.fn 185)])=AV.pv (enc y0)∧(G ((.bool (decide (y0 ≥ 0))))))):Zc b5a 0 (Za F9 G) Ei [] (Yz 9 [enc l,.fn 185]):=Zc.tp (.req (.abs (Int) (fun YY=>AV.pv (enc YY)) (.lit (.nil)))) h (by kernel_rfl)
def PP:IC:=(.seq (.reg [⟨(some 2),(.mv (.c (.bool false))),0,none⟩] none) (.seq (.reg [⟨(some 3),(.mv (.t 0)),0,none⟩,⟨(some 4),(.mv (.t 0)),0,none⟩,⟨(some 5),(.bin .num .neq (.t 3) (.t 4)),0,none⟩,⟨(some 2),(.mv (.t 5)),0,none⟩] none) .ret))
def PZ:List IRes:=[(.tmp 2)]
abbrev b8w:Nat:=6
def Oq:ZE:=Xg []
theorem c2s{G:PV->Prop}(s:List UInt8)(h:G ((.bool (!s==s)))):Zc Oq 0 (Za PZ G) PP [] (Yz 6 [.str s]):=Zc.tp (.lit (.nil)) h (by kernel_rfl)
def Ab:IC:=(.seq (.reg [⟨(some 4),(.mv (.c (.bool false))),0,none⟩] none) (.seq (.reg [⟨(some 5),(.mv (.t 0)),0,none⟩,⟨(some 6),(.call (.c (.fn 283)) [(.t 5)]),0,none⟩,⟨(some 7),(.mv (.t 6)),2,none⟩,⟨(some 8),(.mv (.t 1)),2,(some (7,true))⟩,⟨(some 9),(.call (.c (.fn 283)) [(.t 8)]),2,(some (7,true))⟩,⟨(some 10),(.un .not (.t 9)),4,(some (7,true))⟩,⟨(some 11),(.pick (.t 7) (.t 10) (.c (.bool false))),4,none⟩,⟨(some 12),(.mv (.t 11)),4,none⟩,⟨(some 13),(.mv (.t 0)),4,(some (12,false))⟩,⟨(some 14),(.mv (.t 1)),4,(some (12,false))⟩,⟨(some 15),(.bin .num .lss (.t 13) (.t 14)),4,(some (12,false))⟩,⟨(some 16),(.pick (.t 12) (.c (.bool true)) (.t 15)),4,none⟩,⟨(some 4),(.mv (.t 16)),4,none⟩] none) .ret))
def BU:List IRes:=[(.tmp 4)]
abbrev a9n:Nat:=17
def Pz:ZE:=Xg [(283,.pure (preT (fun _:Str×Unit=>true)) (Zf (fun _:Str×Unit=>false)))]
theorem b9o{G:PV->Prop}(s t:List UInt8)(h : ∃ y0:Bool,AV.pv (Zf (fun(x:Str×Unit)=>false) [(.str s)])=AV.pv (enc y0)∧(if (y0)=true then ∃ y1:Bool,AV.pv (Zf (fun(x:Str×Unit)=>false) [(.str t)])=AV.pv (enc y1)∧(if (!y1)=true then G ((.bool true))else(G ((.bool (Op.bytesLess s t)))))else(G ((.bool (Op.bytesLess s t)))))):Zc Pz 0 (Za BU G) Ab [] (Yz 17 [.str s,.str t]):=Zc.tp (.lit (.abs (Bool) (fun YY=>AV.pv (enc YY)) (.ask (.lit (.lit (.abs (Bool) (fun YY=>AV.pv (enc YY)) (.lit (.lit (.ask (.lit (.lit (.lit (.nil)))) (.lit (.lit (.lit (.lit (.nil))))))))))) (.lit (.lit (.lit (.lit (.lit (.lit (.lit (.lit (.nil)))))))))))) h (by kernel_rfl)
def Ps:IC:=(.seq (.reg [⟨(some 4),(.mv (.c (.int .i64 0))),0,none⟩] none) (.seq (.reg [⟨(some 7),(.mv (.t 0)),0,none⟩,⟨(some 8),(.call (.c (.fn 283)) [(.t 7)]),0,none⟩,⟨(some 5),(.mv (.t 8)),2,none⟩] none) (.seq (.reg [⟨(some 9),(.mv (.t 1)),0,none⟩,⟨(some 10),(.call (.c (.fn 283)) [(.t 9)]),0,none⟩,⟨(some 6),(.mv (.t 10)),2,none⟩] none) (.seq (.seq (.reg [⟨(some 11),(.mv (.t 5)),0,none⟩] none) (.cond (.t 11) (.seq (.seq (.reg [⟨(some 12),(.mv (.t 6)),0,none⟩] none) (.cond (.t 12) (.seq (.reg [⟨(some 4),(.mv (.c (.int .i64 0))),0,none⟩] none) .ret) .skip)) (.seq (.reg [⟨(some 4),(.mv (.c (.int .i64 (-1)))),0,none⟩] none) .ret)) .skip)) (.seq (.seq (.reg [⟨(some 13),(.mv (.t 6)),0,none⟩] none) (.cond (.t 13) (.seq (.reg [⟨(some 4),(.mv (.c (.int .i64 1))),0,none⟩] none) .ret) .skip)) (.seq (.seq (.reg [⟨(some 14),(.mv (.t 0)),0,none⟩,⟨(some 15),(.mv (.t 1)),0,none⟩,⟨(some 16),(.bin .num .lss (.t 14) (.t 15)),0,none⟩] none) (.cond (.t 16) (.seq (.reg [⟨(some 4),(.mv (.c (.int .i64 (-1)))),0,none⟩] none) .ret) .skip)) (.seq (.seq (.reg [⟨(some 17),(.mv (.t 0)),0,none⟩,⟨(some 18),(.mv (.t 1)),0,none⟩,⟨(some 19),(.bin .num .gtr (.t 17) (.t 18)),0,none⟩] none) (.cond (.t 19) (.seq (.reg [⟨(some 4),(.mv (.c (.int .i64 1))),0,none⟩] none) .ret) .skip)) (.seq (.reg [⟨(some 4),(.mv (.c (.int .i64 0))),0,none⟩] none) .ret))))))))
def Pd:List IRes:=[(.tmp 4)]
abbrev b9h:Nat:=20
def OT:ZE:=Xg [(283,.pure (preT (fun _:Str×Unit=>true)) (Zf (fun _:Str×Unit=>false)))]
theorem c6e{G:PV->Prop}(s t:List UInt8)(h : ∃ y0:Bool,AV.pv (Zf (fun(x:Str×Unit)=>false) [(.str s)])=AV.pv (enc y0)∧(∃ y1:Bool,AV.pv (Zf (fun(x:Str×Unit)=>false) [(.str t)])=AV.pv (enc y1)∧(if (y0)=true then if (y1)=true then G ((.int .i64 0))else(G ((.int .i64 (-1))))else(if (y1)=true then G ((.int .i64 1))else(if (Op.bytesLess s t)=true then G ((.int .i64 (-1)))else(if (!(Op.bytesLess s t||s==t))=true then G ((.int .i64 1))else(G ((.int .i64 0))))))))):Zc OT 0 (Za Pd G) Ps [] (Yz 20 [.str s,.str t]):=Zc.tp (.lit (.abs (Bool) (fun YY=>AV.pv (enc YY)) (.lit (.abs (Bool) (fun YY=>AV.pv (enc YY)) (.ask (.ask (.nil) (.nil)) (.ask (.nil) (.lit (.ask (.nil) (.lit (.ask (.nil) (.nil))))))))))) h (by kernel_rfl)
def WP:IC:=(.seq (.reg [⟨(some 2),(.mv (.c (.bool false))),0,none⟩] none) (.seq (.seq (.reg [⟨(some 4),(.mv (.t 0)),0,none⟩,⟨(some 5),(.len 1 (.t 4)),0,none⟩,⟨(some 6),(.bin .num .sub (.t 5) (.c (.int .i64 1))),0,none⟩,⟨(some 3),(.mv (.t 6)),0,none⟩] none) (.block 0 (.loop [3,0] (.seq (.seq (.reg [⟨(some 7),(.mv (.t 3)),0,none⟩,⟨(some 8),(.bin .num .gtr (.t 7) (.c (.int .i64 0))),0,none⟩] none) (.cond (.t 8) .skip (.exit 0))) (.seq (.block 1 (.seq (.reg [⟨(some 11),(.mv (.t 0)),0,none⟩,⟨(some 12),(.mv (.t 3)),0,none⟩,⟨(some 13),(.iaddr 1 (.t 11) (.t 12)),0,none⟩,⟨(some 14),(.load false [.str] (.t 13)),0,none⟩,⟨(some 15),(.mv (.t 0)),0,none⟩,⟨(some 16),(.mv (.t 3)),0,none⟩,⟨(some 17),(.bin .num .sub (.t 16) (.c (.int .i64 1))),0,none⟩,⟨(some 18),(.iaddr 1 (.t 15) (.t 17)),0,none⟩,⟨(some 19),(.load false [.str] (.t 18)),0,none⟩,⟨(some 20),(.call (.c (.fn 244)) [(.t 14),(.t 19)]),0,none⟩] (some [[],[],[0,1],[2,0,1],[],[],[5],[4,6,5],[7,4,6,5],[3,8,2,0,1,7,4,6,5]])) (.cond (.t 20) (.seq (.reg [⟨(some 2),(.mv (.c (.bool false))),0,none⟩] none) .ret) .skip))) (.reg [⟨(some 9),(.mv (.t 3)),0,none⟩,⟨(some 10),(.bin .num .sub (.t 9) (.c (.int .i64 1))),0,none⟩,⟨(some 3),(.mv (.t 10)),0,none⟩] none)))))) (.seq (.reg [⟨(some 2),(.mv (.c (.bool true))),0,none⟩] none) .ret)))
def WQ:List IRes:=[(.tmp 2)]
abbrev Oz:Nat:=21
def VP:ZE:=Xg [(244,.pure (preT (fun _:Str×Str×Unit=>true)) (Zf (fun x:Str×Str×Unit=>decide (x.1.s<x.2.1.s))))]
theorem a6x{G:PV->Prop}(l:List Str)(h:At VP 0 (Za WQ G) WP 0 21 [(0,(.pv (.sl 1 false (List.map enc l)))),(3,(.pv (.int .i64 (IntKind.wrap IntKind.i64 ((↑(List.length (List.map enc l)):Int) - 1)))))] []):Zc VP 0 (Za WQ G) WP [] (Yz 21 [enc l]):=Zc.tp (.lit (.nil)) h (by kernel_rfl)
theorem JG{G:PV->Prop}(l:List Str)(i:Int)(h:if (decide (i>0))=true then(decide (0<=i)&&decide (Int.toNat i<List.length (List.map enc l))&&Enc.sz Str==1)=true∧(∃ y0:Str,AV.pv (PV.rptr (PV.cells (List.getD (List.map enc l) (Int.toNat i) default)))=AV.pv (PV.rptr (PV.cells ((enc) y0)))∧((decide (0<=IntKind.wrap IntKind.i64 (i - 1))&&decide (Int.toNat (IntKind.wrap IntKind.i64 (i - 1))<List.length (List.map enc l))&&Enc.sz Str==1)=true∧(∃ y1:Str,AV.pv (PV.rptr (PV.cells (List.getD (List.map enc l) (Int.toNat (IntKind.wrap IntKind.i64 (i - 1))) default)))=AV.pv (PV.rptr (PV.cells ((enc) y1)))∧(∃ y2:Bool,AV.pv (Zf (fun(x:Str×Str×Unit)=>decide (Str.s x.1<Str.s x.2.1)) [(.str (PV.asStr (List.getD (PV.cells (enc y0)) 0 default))),(.str (PV.asStr (List.getD (PV.cells (enc y1)) 0 default)))])=AV.pv (enc y2)∧(if (y2)=true then G ((.bool false))else(At VP 0 (Za WQ G) WP 0 21 [(0,(.pv (.sl 1 false (List.map enc l)))),(3,(.pv (.int .i64 (IntKind.wrap IntKind.i64 (i - 1)))))] []))))))else(G ((.bool true)))):At VP 0 (Za WQ G) WP 0 21 [(0,.pv (enc l)),(3,.pv (.int .i64 i))] []:=At.tp (.lit (.ask (.req (.abs (Str) (fun YY=>AV.pv (PV.rptr (PV.cells ((enc) YY)))) (.lit (.lit (.req (.abs (Str) (fun YY=>AV.pv (PV.rptr (PV.cells ((enc) YY)))) (.lit (.lit (.abs (Bool) (fun YY=>AV.pv (enc YY)) (.ask (.nil) (.lit (.nil)))))))))))) (.nil))) h (by kernel_rfl)
def VE:IC:=(.seq (.reg [⟨(some 4),(.mv (.c (.int .i64 0))),0,none⟩] none) (.seq (.seq (.reg [⟨(some 9),(.mv (.t 0)),0,none⟩,⟨(some 10),(.len 1 (.t 9)),0,none⟩,⟨(some 11),(.mv (.c (.int .i64 0))),0,none⟩] none) (.block 0 (.loop [11,10,9,1,0] (.seq (.reg [⟨(some 12),(.bin .num .lss (.t 11) (.t 10)),0,none⟩] none) (.seq (.cond (.t 12) .skip (.exit 0)) (.seq (.block 1 (.seq (.reg [⟨(some 13),(.mv (.t 11)),0,none⟩,⟨(some 14),(.iaddr 1 (.t 9) (.t 11)),0,none⟩,⟨(some 15),(.load false [.str] (.t 14)),0,none⟩,⟨(some 5),(.mv (.t 13)),0,none⟩,⟨(some 6),(.mv (.t 15)),0,none⟩] none) (.seq (.seq (.reg [⟨(some 16),(.mv (.t 5)),0,none⟩,⟨(some 17),(.mv (.t 1)),0,none⟩,⟨(some 18),(.len 1 (.t 17)),0,none⟩,⟨(some 19),(.bin .num .geq (.t 16) (.t 18)),0,none⟩] none) (.cond (.t 19) (.seq (.reg [⟨(some 4),(.mv (.c (.int .i64 1))),0,none⟩] none) .ret) .skip)) (.seq (.reg [⟨(some 20),(.mv (.t 1)),0,none⟩,⟨(some 21),(.mv (.t 5)),0,none⟩,⟨(some 22),(.iaddr 1 (.t 20) (.t 21)),0,none⟩,⟨(some 23),(.load false [.str] (.t 22)),0,none⟩,⟨(some 7),(.mv (.t 23)),0,none⟩] none) (.seq (.reg [⟨(some 24),(.mv (.t 6)),0,none⟩,⟨(some 25),(.mv (.t 7)),0,none⟩,⟨(some 26),(.call (.c (.fn 245)) [(.t 24),(.t 25)]),0,none⟩,⟨(some 8),(.mv (.t 26)),2,none⟩] none) (.seq (.reg [⟨(some 27),(.mv (.t 8)),0,none⟩,⟨(some 28),(.bin .num .neq (.t 27) (.c (.int .i64 0))),0,none⟩] none) (.cond (.t 28) (.seq (.reg [⟨(some 29),(.mv (.t 8)),0,none⟩,⟨(some 4),(.mv (.t 29)),0,none⟩] none) .ret) .skip))))))) (.reg [⟨(some 30),(.bin .num .add (.t 11) (.c (.int .i64 1))),0,none⟩,⟨(some 11),(.mv (.t 30)),0,none⟩] none))))))) (.seq (.seq (.reg [⟨(some 31),(.mv (.t 0)),0,none⟩,⟨(some 32),(.len 1 (.t 31)),0,none⟩,⟨(some 33),(.mv (.t 1)),0,none⟩,⟨(some 34),(.len 1 (.t 33)),0,none⟩,⟨(some 35),(.bin .num .lss (.t 32) (.t 34)),0,none⟩] none) (.cond (.t 35) (.seq (.reg [⟨(some 4),(.mv (.c (.int .i64 (-1)))),0,none⟩] none) .ret) .skip)) (.seq (.reg [⟨(some 4),(.mv (.c (.int .i64 0))),0,none⟩] none) .ret))))
def VD:List IRes:=[(.tmp 4)]
abbrev a5o:Nat:=36
def UK:ZE:=Xg [(245,.pure (preT (fun _:Str×Str×Unit=>true)) (Zf (fun x:Str×Str×Unit=>Sr x.1 x.2.1)))]
theorem b0o{G:PV->Prop}(a b:List Str)(h:At UK 0 (Za VD G) VE 0 36 [(0,(.pv (.sl 1 false (List.map enc a)))),(1,(.pv (.sl 1 false (List.map enc b)))),(9,(.pv (.sl 1 false (List.map enc a)))),(10,(.pv (.int .i64 (↑(List.length (List.map enc a)):Int)))),(11,(.pv (.int .i64 0)))] []):Zc UK 0 (Za VD G) VE [] (Yz 36 [enc a,enc b]):=Zc.tp (.nil) h (by kernel_rfl)
theorem TC{G:PV->Prop}(a b:List Str)(i:Int)(h:if (decide (i<(↑(List.length a):Int)))=true then(decide (0<=i)&&decide (Int.toNat i<List.length (List.map enc a))&&Enc.sz Str==1)=true∧(∃ y0:Str,AV.pv (PV.rptr (PV.cells (List.getD (List.map enc a) (Int.toNat i) default)))=AV.pv (PV.rptr (PV.cells ((enc) y0)))∧(if (decide (i ≥ (↑(List.length (List.map enc b)):Int)))=true then G ((.int .i64 1))else((decide (0<=i)&&decide (Int.toNat i<List.length (List.map enc b))&&Enc.sz Str==1)=true∧(∃ y1:Str,AV.pv (PV.rptr (PV.cells (List.getD (List.map enc b) (Int.toNat i) default)))=AV.pv (PV.rptr (PV.cells ((enc) y1)))∧(∃ y2:Int,AV.pv (Zf (fun(x:Str×Str×Unit)=>Sr x.1 x.2.1) [(.str (PV.asStr (List.getD (PV.cells (enc y0)) 0 default))),(.str (PV.asStr (List.getD (PV.cells (enc y1)) 0 default)))])=AV.pv (enc y2)∧(if (y2 != 0)=true then G ((.int .i64 y2))else(At UK 0 (Za VD G) VE 0 36 [(0,(.pv (.sl 1 false (List.map enc a)))),(1,(.pv (.sl 1 false (List.map enc b)))),(9,(.pv (.sl 1 false (List.map enc a)))),(10,(.pv (.int .i64 (↑(List.length a):Int)))),(11,(.pv (.int .i64 (IntKind.wrap IntKind.i64 (i+1)))))] [])))))))else(if (decide ((↑(List.length (List.map enc a)):Int)<(↑(List.length (List.map enc b)):Int)))=true then G ((.int .i64 (-1)))else(G ((.int .i64 0))))):At UK 0 (Za VD G) VE 0 36 [(0,.pv (enc a)),(1,.pv (enc b)),(9,.pv (enc a)),(10,.pv (.int .i64 a.length)),(11,.pv (.int .i64 i))] []:=At.tp (.lit (.ask (.req (.abs (Str) (fun YY=>AV.pv (PV.rptr (PV.cells ((enc) YY)))) (.lit (.lit (.ask (.nil) (.req (.abs (Str) (fun YY=>AV.pv (PV.rptr (PV.cells ((enc) YY)))) (.lit (.lit (.abs (Int) (fun YY=>AV.pv (enc YY)) (.lit (.ask (.nil) (.lit (.nil)))))))))))))) (.lit (.ask (.nil) (.nil))))) h (by kernel_rfl)
def WY:IC:=(.seq (.reg [⟨(some 2),(.mv (.c (.bool false))),0,none⟩] none) (.seq (.seq (.reg [⟨(some 5),(.mv (.t 0)),0,none⟩,⟨(some 6),(.len 1 (.t 5)),0,none⟩,⟨(some 7),(.mv (.c (.int .i64 0))),0,none⟩] none) (.block 0 (.loop [7,6,5,0] (.seq (.reg [⟨(some 8),(.bin .num .lss (.t 7) (.t 6)),0,none⟩] none) (.seq (.cond (.t 8) .skip (.exit 0)) (.seq (.block 1 (.seq (.reg [⟨(some 9),(.mv (.t 7)),0,none⟩,⟨(some 10),(.iaddr 2 (.t 5) (.t 7)),0,none⟩,⟨(some 11),(.load true [(.int .i64),(.sl 1)] (.t 10)),0,none⟩,⟨(some 4),(.alloc (.agg [(.int .i64 0),(.sl 0 true [])])),0,none⟩,⟨(some 3),(.mv (.t 9)),1,none⟩,⟨none,(.store 2 (.t 4) (.t 11)),1,none⟩] none) (.seq (.seq (.reg [⟨(some 12),(.faddr 0 (.t 4)),0,none⟩,⟨(some 13),(.load false [(.int .i64)] (.t 12)),0,none⟩,⟨(some 14),(.bin .num .eql (.t 13) (.c (.int .i64 0))),0,none⟩,⟨(some 15),(.mv (.t 14)),0,none⟩,⟨(some 16),(.faddr 0 (.t 4)),0,(some (15,false))⟩,⟨(some 17),(.load false [(.int .i64)] (.t 16)),0,(some (15,false))⟩,⟨(some 18),(.bin .num .lss (.t 17) (.c (.int .i64 (-1099511627776)))),0,(some (15,false))⟩,⟨(some 19),(.pick (.t 15) (.c (.bool true)) (.t 18)),0,none⟩,⟨(some 20),(.mv (.t 19)),0,none⟩,⟨(some 21),(.faddr 0 (.t 4)),0,(some (20,false))⟩,⟨(some 22),(.load false [(.int .i64)] (.t 21)),0,(some (20,false))⟩,⟨(some 23),(.bin .num .gtr (.t 22) (.c (.int .i64 1099511627776))),0,(some (20,false))⟩,⟨(some 24),(.pick (.t 20) (.c (.bool true)) (.t 23)),0,none⟩,⟨(some 25),(.mv (.t 24)),0,none⟩,⟨(some 26),(.faddr 1 (.t 4)),0,(some (25,false))⟩,⟨(some 27),(.load false [(.sl 1)] (.t 26)),0,(some (25,false))⟩,⟨(some 28),(.len 1 (.t 27)),0,(some (25,false))⟩,⟨(some 29),(.bin .num .gtr (.t 28) (.c (.int .i64 8))),0,(some (25,false))⟩,⟨(some 30),(.pick (.t 25) (.c (.bool true)) (.t 29)),0,none⟩,⟨(some 31),(.mv (.t 30)),0,none⟩,⟨(some 32),(.faddr 1 (.t 4)),0,(some (31,false))⟩,⟨(some 33),(.load false [(.sl 1)] (.t 32)),0,(some (31,false))⟩,⟨(some 34),(.call (.c (.fn 184)) [(.t 33)]),0,(some (31,false))⟩,⟨(some 35),(.un .not (.t 34)),2,(some (31,false))⟩,⟨(some 36),(.pick (.t 31) (.c (.bool true)) (.t 35)),2,none⟩] none) (.cond (.t 36) (.seq (.reg [⟨(some 2),(.mv (.c (.bool false))),0,none⟩] none) .ret) .skip)) (.seq (.seq (.reg [⟨(some 37),(.faddr 1 (.t 4)),0,none⟩,⟨(some 38),(.load false [(.sl 1)] (.t 37)),0,none⟩,⟨(some 39),(.call (.c (.fn 175)) [(.t 38),(.c (.fn 185))]),0,none⟩] none) (.cond (.t 39) (.seq (.reg [⟨(some 2),(.mv (.c (.bool false))),0,none⟩] none) .ret) .skip)) (.seq (.reg [⟨(some 40),(.mv (.t 3)),0,none⟩,⟨(some 41),(.bin .num .gtr (.t 40) (.c (.int .i64 0))),0,none⟩,⟨(some 42),(.mv (.t 41)),0,none⟩,⟨(some 43),(.mv (.t 0)),0,(some (42,true))⟩,⟨(some 44),(.mv (.t 3)),0,(some (42,true))⟩,⟨(some 45),(.bin .num .sub (.t 44) (.c (.int .i64 1))),0,(some (42,true))⟩,⟨(some 46),(.iaddr 2 (.t 43) (.t 45)),0,(some (42,true))⟩,⟨(some 47),(.faddr 1 (.t 46)),0,(some (42,true))⟩,⟨(some 48),(.load false [(.sl 1)] (.t 47)),0,(some (42,true))⟩,⟨(some 49),(.faddr 1 (.t 4)),0,(some (42,true))⟩,⟨(some 50),(.load false [(.sl 1)] (.t 49)),0,(some (42,true))⟩,⟨(some 51),(.call (.c (.fn 186)) [(.t 48),(.t 50)]),0,(some (42,true))⟩,⟨(some 52),(.bin .num .geq (.t 51) (.c (.int .i64 0))),2,(some (42,true))⟩,⟨(some 53),(.pick (.t 42) (.t 52) (.c (.bool false))),2,none⟩] (some [[],[0],[1,0],[2,1,0],[2,1,0],[4,2,1,0],[3,5,2,1,0,4],[6,2,3,5,1,0,4],[7,2,6,3,5,1,0,4],[2,1,0],[9,2,1,0],[8,10,2,7,6,3,5,1,0,4,9],[11,2,8,10,7,6,3,5,1,0,4,9],[2,12,1,0,11,8,10,7,6,3,5,4,9]])) (.cond (.t 53) (.seq (.reg [⟨(some 2),(.mv (.c (.bool false))),0,none⟩] none) .ret) .skip)))))) (.reg [⟨(some 54),(.bin .num .add (.t 7) (.c (.int .i64 1))),0,none⟩,⟨(some 7),(.mv (.t 54)),0,none⟩] none))))))) (.seq (.reg [⟨(some 55),(.mv (.t 0)),0,none⟩,⟨(some 56),(.len 1 (.t 55)),0,none⟩,⟨(some 57),(.bin .num .leq (.t 56) (.c (.int .i64 60))),0,none⟩,⟨(some 2),(.mv (.t 57)),0,none⟩] none) .ret)))
def Wi:List IRes:=[(.tmp 2)]
abbrev a3v:Nat:=58
def Vf:ZE:=Xg [(184,.pure (preT (fun x:List Str×Unit=>Zx x.1)) (Zf (fun x:List Str×Unit=>Gu x.1))),(175,.pure (preT (fun x:List Str×FnV 185×Unit=>WF x.1)) (Zf (fun x:List Str×FnV 185×Unit=>x.1.any fun s:Str=> !(ZA s)))),(186,.pure (preT (fun x:List Str×List Str×Unit=>Zx x.1&&Zx x.2.1)) (Zf (fun x:List Str×List Str×Unit=>Gx x.1 x.2.1)))]
theorem b2x{G:PV->Prop}(p:List Mono)(h:At Vf 0 (Za Wi G) WY 0 58 [(0,(.pv (.sl 2 false (List.map enc p)))),(5,(.pv (.sl 2 false (List.map enc p)))),(6,(.pv (.int .i64 (↑(List.length (List.map enc p)):Int)))),(7,(.pv (.int .i64 0)))] []):Zc Vf 0 (Za Wi G) WY [] (Yz 58 [enc p]):=Zc.tp (.nil) h (by kernel_rfl)
theorem TH{G:PV->Prop}(p:List Mono)(i:Int)(h:if (decide (i<(↑(List.length p):Int)))=true then(decide (0<=i)&&decide (Int.toNat i<List.length (List.map enc p))&&Enc.sz Mono==2)=true∧(∃ y0:Mono,AV.pv (PV.rptr (PV.cells (List.getD (List.map enc p) (Int.toNat i) default)))=AV.pv (PV.rptr (PV.cells ((enc) y0)))∧(if (PV.asInt (List.getD (PV.cells (enc y0)) 0 default)==0)=true then G ((.bool false))else(if (decide (PV.asInt (List.getD (PV.cells (enc y0)) 0 default)<(-1099511627776:Int)))=true then G ((.bool false))else(if (decide (PV.asInt (List.getD (PV.cells (enc y0)) 0 default)>1099511627776))=true then G ((.bool false))else(if (decide ((↑(List.length (PV.asXs (List.getD (PV.cells (enc y0)) (0+1) default))):Int)>8))=true then G ((.bool false))else((Go.Pl.preT (fun(x:List Str×Unit)=>Zx x.1) [(.sl 1 false (PV.asXs (List.getD (PV.cells (enc y0)) (0+1) default)))])=true∧(∃ y1:Bool,AV.pv (Zf (fun(x:List Str×Unit)=>Gu x.1) [(.sl 1 false (PV.asXs (List.getD (PV.cells (enc y0)) (0+1) default)))])=AV.pv (enc y1)∧(if (!y1)=true then G ((.bool false))else((Go.Pl.preT (fun(x:List Str×FnV 185×Unit)=>WF x.1) [(.sl 1 false (PV.asXs (List.getD (PV.cells (enc y0)) (0+1) default))),(.fn 185)])=true∧(∃ y2:Bool,AV.pv (Zf (fun(x:List Str×FnV 185×Unit)=>List.any x.1 fun(s:Str)=> !ZA s) [(.sl 1 false (PV.asXs (List.getD (PV.cells (enc y0)) (0+1) default))),(.fn 185)])=AV.pv (enc y2)∧(if (y2)=true then G ((.bool false))else(if (decide (i>0))=true then(decide (0<=IntKind.wrap IntKind.i64 (i - 1))&&decide (Int.toNat (IntKind.wrap IntKind.i64 (i - 1))<List.length (List.map enc p))&&Enc.sz Mono==2)=true∧(∃ y3:Mono,AV.pv (PV.rptr (PV.cells (List.getD (List.map enc p) (Int.toNat (IntKind.wrap IntKind.i64 (i - 1))) default)))=AV.pv (PV.rptr (PV.cells ((enc) y3)))∧((Go.Pl.preT (fun(x:List Str×List Str×Unit)=>Zx x.1&&Zx x.2.1) [(.sl 1 false (PV.asXs (List.getD (List.drop 1 (PV.cells (enc y3))) 0 default))),(.sl 1 false (PV.asXs (List.getD (PV.cells (enc y0)) (0+1) default)))])=true∧(∃ y4:Int,AV.pv (Zf (fun(x:List Str×List Str×Unit)=>Gx x.1 x.2.1) [(.sl 1 false (PV.asXs (List.getD (List.drop 1 (PV.cells (enc y3))) 0 default))),(.sl 1 false (PV.asXs (List.getD (PV.cells (enc y0)) (0+1) default)))])=AV.pv (enc y4)∧(if (decide (y4 ≥ 0))=true then G ((.bool false))else(At Vf 0 (Za Wi G) WY 0 58 [(0,(.pv (.sl 2 false (List.map enc p)))),(5,(.pv (.sl 2 false (List.map enc p)))),(6,(.pv (.int .i64 (↑(List.length p):Int)))),(7,(.pv (.int .i64 (IntKind.wrap IntKind.i64 (i+1)))))] [])))))else(At Vf 0 (Za Wi G) WY 0 58 [(0,(.pv (.sl 2 false (List.map enc p)))),(5,(.pv (.sl 2 false (List.map enc p)))),(6,(.pv (.int .i64 (↑(List.length p):Int)))),(7,(.pv (.int .i64 (IntKind.wrap IntKind.i64 (i+1)))))] [])))))))))))))else(G ((.bool (decide ((↑(List.length (List.map enc p)):Int)<=60)))))):At Vf 0 (Za Wi G) WY 0 58 [(0,.pv (enc p)),(5,.pv (enc p)),(6,.pv (.int .i64 p.length)),(7,.pv (.int .i64 i))] []:=At.tp (.lit (.ask (.req (.abs (Mono) (fun YY=>AV.pv (PV.rptr (PV.cells ((enc) YY)))) (.lit (.lit (.ask (.lit (.lit (.lit (.lit (.lit (.lit (.lit (.lit (.lit (.lit (.lit (.lit (.lit (.lit (.lit (.lit (.lit (.lit (.nil))))))))))))))))))) (.lit (.lit (.lit (.lit (.ask (.lit (.lit (.lit (.lit (.lit (.lit (.lit (.lit (.lit (.lit (.lit (.lit (.lit (.lit (.nil))))))))))))))) (.lit (.lit (.lit (.lit (.ask (.lit (.lit (.lit (.lit (.lit (.lit (.lit (.lit (.lit (.lit (.nil))))))))))) (.lit (.lit (.lit (.lit (.lit (.ask (.lit (.lit (.lit (.lit (.lit (.nil)))))) (.lit (.lit (.req (.abs (Bool) (fun YY=>AV.pv (enc YY)) (.lit (.lit (.ask (.nil) (.req (.abs (Bool) (fun YY=>AV.pv (enc YY)) (.ask (.nil) (.lit (.ask (.lit (.lit (.lit (.lit (.req (.abs (Mono) (fun YY=>AV.pv (PV.rptr (PV.cells ((enc) YY)))) (.lit (.lit (.lit (.lit (.lit (.lit (.req (.abs (Int) (fun YY=>AV.pv (enc YY)) (.lit (.lit (.lit (.ask (.nil) (.lit (.nil)))))))))))))))))))) (.lit (.lit (.lit (.lit (.lit (.lit (.lit (.lit (.lit (.lit (.lit (.lit (.nil)))))))))))))))))))))))))))))))))))))))))))))) (.lit (.nil)))) h (by kernel_rfl)
end Go.Pl

namespace Go.Pl
open Go.RowKit
open Enc (enc dec is)
open EncL (encL decL isL)
theorem a7u: ∀ x:Str×Unit,decide (x.1.s.length<=281474976710656)=true->Zc F5 0 (Za P9 (Zm (!(ZA x.1)))) Nc [] (Yz b7t (encL x)):=by
 rintro⟨⟨s⟩,⟨⟩⟩ h
 exact c3s s ⟨Zl (⟨s⟩,()) rfl h,Zj (⟨s⟩,()) rfl (ZZ rfl)⟩
theorem b2i(l:List Str)(hs : ∀ s∈l,decide (s.s.length<=281474976710656)=true)(hl:l.length<=9223372036854775807): ∀ (m i:Nat),m+i=l.length->(∀ j (h:j<l.length),j<i->(!(ZA l[j]))=false) ->
  At Af 0 (Za JV (Zm (Zy (fun s:Str=> !(ZA s)) l))) Ju 0 19 [(0,.pv (enc l)),(1,.pv (.fn 185)),(7,.pv (.int .i64 l.length)),(8,.pv (.int .i64 i))] []:=by
 intro m
 induction m with
 | zero=>
  intro i hi hno
  refine b0l l i (Z0 (Yd (by omega)) (Ka ?_))
  rw[U5 _ _ (fun j hj=>hno j hj (by omega))]
 | succ m ih=>
  intro i hi hno
  have hlt:i<l.length:=by omega
  refine b0l l i (ZV (Ya hlt) ⟨ZB hlt rfl,ZY hlt ⟨Zl (l[i],()) rfl (hs _ (List.getElem_mem hlt)),Zj (l[i],()) rfl (Xj (fun hb=> ?_) fun hb=> ?_)⟩⟩)
  ·exact Ka (Qc (fun s:Str=> !(ZA s)) l i hlt hno hb).symm
  ·rw[next (by omega)]
   refine ih (i+1) (by omega) fun j hj hji=> ?_
   by_cases e:j=i
   ·subst e;exact hb
   ·exact hno j hj (by omega)
theorem c1d: ∀ a:List Str×FnV 185×Unit,WF a.1=true->Zc Af 0 (Za JV (Zm (Zy (fun s:Str=> !(ZA s)) a.1))) Ju [] (Yz c3e (encL a)):=by
 rintro⟨l,g,⟨⟩⟩ h
 have h':=h
 simp only[WF,Bool.and_eq_true,List.all_eq_true]at h'
 refine c7e l ?_
 rw[List.length_map]
 exact b2i l h'.2 (Z8.1 h'.1) l.length 0 (by omega) (fun j hj h=>by omega)
theorem c0t: ∀ a:List Str×FnV 185×Unit,WF a.1=true->Zc b5a 0 (Za F9 (Zm (a.1.any fun s:Str=> !(ZA s)))) Ei [] (Yz c2y (encL a)):=by
 rintro⟨l,g,⟨⟩⟩ h
 exact c8n l ⟨Zl (l,{},()) rfl h,Zj (l,{},()) rfl (ZZ (XL _ _))⟩
theorem a9m: ∀ a:Str×Unit,(fun _:Str×Unit=>true) a=true->Zc Oq 0 (Za PZ (Zm (false:Bool))) PP [] (Yz b8w (encL a)):=by
 rintro⟨⟨s⟩,⟨⟩⟩ _
 exact c2s s (ZZ (by simp))
theorem a3e: ∀ a:Str×Str×Unit,(fun _:Str×Str×Unit=>true) a=true->Zc Pz 0 (Za BU (Zm (decide (a.1.s<a.2.1.s)))) Ab [] (Yz a9n (encL a)):=by
 rintro⟨⟨s⟩,⟨t⟩,⟨⟩⟩ _
 exact b9o s t (Zj (⟨s⟩,()) rfl (Z0 (by simp) (ZZ (YP s t))))
theorem b5i: ∀ a:Str×Str×Unit,(fun _:Str×Str×Unit=>true) a=true->Zc OT 0 (Za Pd (Zm (Sr a.1 a.2.1))) Ps [] (Yz b9h (encL a)):=by
 rintro⟨⟨s⟩,⟨t⟩,⟨⟩⟩ _
 refine c6e s t (Zj (⟨s⟩,()) rfl (Zj (⟨t⟩,()) rfl (Z0 (by simp) (Z0 (by simp) ?_))))
 show if (Op.bytesLess s t)=true then Zm (Sr ⟨s⟩ ⟨t⟩) _ else if (!(Op.bytesLess s t||s==t))=true then Zm (Sr ⟨s⟩ ⟨t⟩) _ else Zm (Sr ⟨s⟩ ⟨t⟩) _
 rw[YP]
 unfold Sr
 by_cases h1:s<t
 ·rw[decide_eq_true h1,if_pos rfl,if_pos h1];exact Ka rfl
 ·rw[decide_eq_false h1,if_neg (by simp),if_neg h1]
  by_cases h2:s=t
  ·subst h2
   rw[if_neg (by simp),if_neg h1];exact Ka rfl
  ·have h3:t<s:=by
    rcases List.le_total s t with h|h
    ·exact absurd (Std.lt_of_le_of_ne h h2) h1
    ·exact Std.lt_of_le_of_ne h (Ne.symm h2)
   rw[if_pos (by simp[h2]),if_pos h3];exact Ka rfl
theorem a7g(l:List Str):Gu l=true ↔ ∀ i (h:i+1<l.length),¬ l[i+1].s<l[i].s:=by
 induction l with
 | nil=>simp[Gu]
 | cons x l ih=>
  cases l with
  | nil=>simp[Gu]
  | cons y r=>
   rw[Gu,Bool.and_eq_true,ih]
   constructor
   ·rintro⟨h1,h2⟩ i hi
    cases i with
    | zero=>simpa using h1
    | succ i=>exact h2 i (by simpa using hi)
   ·intro h
    exact⟨by simpa using h 0 (by simp),fun i hi=>h (i+1) (by simpa using hi)⟩
theorem Np(l:List Str)(hl:l.length<=9223372036854775807): ∀ (i:Nat),i<l.length->(∀ j (h:j+1<l.length),i<=j-> ¬ l[j+1].s<l[j].s) ->
  At VP 0 (Za WQ (Zm (Gu l))) WP 0 21 [(0,.pv (enc l)),(3,.pv (.int .i64 i))] []:=by
 intro i
 induction i with
 | zero=>
  intro hi hok
  refine JG l ((0:Nat):Int) (Z0 (by decide) (ZZ ?_))
  exact((a7g l).2 fun j hj=>hok j hj (Nat.zero_le _)).symm
 | succ i ih=>
  intro hi hok
  have hi2:i<l.length:=by omega
  have e:((i+1:Nat):Int) - 1=(i:Int):=by omega
  have hw:IntKind.i64.wrap (((i+1:Nat):Int) - 1)=(i:Int):=by rw[e];exact Wx (by omega) (by omega)
  refine JG l ((i+1:Nat):Int) (ZV (by simp) ⟨ZB hi rfl,ZY hi ?_⟩)
  rw[hw]
  refine⟨ZB hi2 rfl,ZY hi2 (Zj (l[i+1],l[i],()) rfl (Xj (fun h=>ZZ ?_) fun h=>ih hi2 fun j hj hij=> ?_))⟩
  ·have h:l[i+1].s<l[i].s:=of_decide_eq_true h
   cases hc:Gu l
   ·rfl
   ·exact absurd h ((a7g l).1 hc i hi)
  ·have h : ¬ l[i+1].s<l[i].s:=of_decide_eq_false h
   by_cases ej:j=i
   ·subst ej;exact h
   ·exact hok j hj (by omega)
theorem MR: ∀ a:List Str×Unit,Zx a.1=true->Zc VP 0 (Za WQ (Zm (Gu a.1))) WP [] (Yz Oz (encL a)):=by
 rintro⟨l,⟨⟩⟩ h
 have hl:=Z8.1 h
 refine a6x l ?_
 rw[List.length_map]
 cases hc:l with
 | nil=>
  refine JG [] _ (Z0 (by decide) (ZZ rfl))
 | cons x r=>
  have hw:IntKind.i64.wrap (((x::r).length:Int) - 1)=((r.length:Nat):Int):=by
   rw[List.length_cons]
   rw[hc,List.length_cons]at hl
   rw[show((r.length+1:Nat):Int) - 1=(r.length:Int) by omega]
   exact Wx (by omega) (by omega)
  rw[hw]
  exact Np (x::r) (by rw[<- hc];exact hl) r.length (by simp) (fun j hj h=>by simp at hj;omega)
theorem Ff(a b:List Str)(ha:a.length<=9223372036854775807)(hb:b.length<=9223372036854775807): ∀ (k i:Nat),k+i=a.length->i<=b.length ->
  At UK 0 (Za VD (Zm (Gx (a.drop i) (b.drop i)))) VE 0 36 [(0,.pv (enc a)),(1,.pv (enc b)),(9,.pv (enc a)),(10,.pv (.int .i64 a.length)),(11,.pv (.int .i64 i))] []:=by
 intro k
 induction k with
 | zero=>
  intro i hi hib
  rw[List.drop_of_length_le (show a.length<=i by omega)]
  refine TC a b i (Z0 (Yd (by omega)) ?_)
  simp only[List.length_map]
  refine WR (fun h=> ?_) fun h=> ?_
  ·rw[List.drop_eq_getElem_cons (show i<b.length by omega)]
   exact Ka rfl
  ·rw[List.drop_of_length_le (show b.length<=i by omega)]
   exact Ka rfl
 | succ k ih=>
  intro i hi hib
  have hlt:i<a.length:=by omega
  rw[List.drop_eq_getElem_cons hlt]
  refine TC a b i (ZV (Ya hlt) ⟨ZB hlt rfl,ZY hlt ?_⟩)
  simp only[List.length_map]
  refine WR (fun h=> ?_) fun h=> ?_
  ·rw[List.drop_of_length_le (show b.length<=i by omega)]
   exact Ka rfl
  ·have hlt2:i<b.length:=by omega
   have h1:=ih (i+1) (by omega) (by omega)
   rw[List.drop_eq_getElem_cons hlt2]
   refine⟨by simp[hlt2],ZY hlt2 (Zj (a[i],b[i],()) rfl ?_)⟩
   show if (Sr a[i] b[i] != 0)=true then _ else _
   unfold Gx Sr
   by_cases q1:a[i].s<b[i].s
   ·rw[if_pos q1,if_pos (by simp),if_pos q1];exact Ka rfl
   ·rw[if_neg q1,if_neg q1]
    by_cases q2:b[i].s<a[i].s
    ·rw[if_pos q2,if_pos (by simp),if_pos q2];exact Ka rfl
    ·rw[if_neg q2,if_neg (by simp),if_neg q2,next (by omega)]
     exact h1
theorem OO: ∀ x:List Str×List Str×Unit,(Zx x.1&&Zx x.2.1)=true->Zc UK 0 (Za VD (Zm (Gx x.1 x.2.1))) VE [] (Yz a5o (encL x)):=by
 rintro⟨a,b,⟨⟩⟩ h
 simp only[Bool.and_eq_true]at h
 refine b0o a b ?_
 rw[List.length_map]
 exact Ff a b (Z8.1 h.1) (Z8.1 h.2) a.length 0 (by omega) (Nat.zero_le _)
theorem CQ: ∀ a b:List Str,Gx a b<0 ↔ Ub a b<0
 | [],[]=>by decide
 | [],y::b=>by
  have e1:Gx [] (y::b) = -1:=rfl
  have e2:Ub [] (y::b) = -((y::b).length:Int):=rfl
  rw[e1,e2,List.length_cons];omega
 | x::a,[]=>by
  have e1:Gx (x::a) []=1:=rfl
  have e2:Ub (x::a) []=((x::a).length:Int):=rfl
  rw[e1,e2];omega
 | x::a,y::b=>by
  rw[Gx,Ub]
  split
  ·exact Iff.rfl
  ·split
   ·exact Iff.rfl
   ·exact CQ a b
def pvL:Option Mono->List Mono->Bool
 | _,[]=>true
 | o,m::r=>WX m&&(match o with|none=>true|some q=>decide (Ub q.v m.v<0))&&pvL (some m) r
theorem a9l(o:Option Mono)(m:Mono)(r:List Mono):pvL o (m::r)=(WX m&&(match o with|none=>true|some q=>decide (Ub q.v m.v<0))&&pvL (some m) r):=by cases o <;> rfl
theorem LG: ∀ (l:List Mono) (q:Mono),pvL (some q) l=(l.all WX&&a3r (q::l))
 | [],q=>rfl
 | m::r,q=>by
  rw[pvL,LG r m,a3r,List.all_cons]
  cases WX m <;> cases decide (Ub q.v m.v<0) <;> cases r.all WX <;> cases a3r (m::r) <;> rfl
theorem b5l(l:List Mono):(pvL none l&&decide (l.length<=60))=Z9 l:=by
 unfold Z9
 cases l with
 | nil=>rfl
 | cons m r=>
  rw[pvL,LG,List.all_cons,Bool.and_true]
  cases WX m <;> cases decide ((m::r).length<=60) <;> cases r.all WX <;> cases a3r (m::r) <;> rfl
def Lc(p:List Mono):Nat->Option Mono
 | 0=>none
 | i+1=>p[i]?
theorem Li(p:List Mono)(hp:Yg p=true): ∀ (k i:Nat),k+i=p.length ->
  At Vf 0 (Za Wi (Zm (pvL (Lc p i) (p.drop i)&&decide (p.length<=60)))) WY 0 58 [(0,.pv (enc p)),(5,.pv (enc p)),(6,.pv (.int .i64 p.length)),(7,.pv (.int .i64 i))] []:=by
 simp only[Yg,Bool.and_eq_true,List.all_eq_true]at hp
 have hl:=Z8.1 hp.1
 intro k
 induction k with
 | zero=>
  intro i hi
  rw[List.drop_of_length_le (by omega)]
  refine TH p i (Z0 (Yd (by omega)) (ZZ ?_))
  rw[List.length_map,pvL,Bool.true_and]
  exact decide_eq_decide.2 (by omega)
 | succ k ih=>
  intro i hi
  have hlt:i<p.length:=by omega
  have hm:=hp.2 _ (List.getElem_mem hlt)
  have hml:Zx p[i].v=true:=by
   simp only[WF,Bool.and_eq_true]at hm
   exact hm.1
  have h1:=ih (i+1) (by omega)
  have hpr:Lc p (i+1)=some p[i]:=List.getElem?_eq_getElem hlt
  rw[hpr]at h1
  rw[List.drop_eq_getElem_cons hlt,a9l]
  have bad:WX p[i]=false->Zm (WX p[i]&&(match Lc p i with|none=>true|some q=>decide (Ub q.v p[i].v<0))&&pvL (some p[i]) (p.drop (i+1))&&decide (p.length<=60)) (.bool false):=fun h=>ZZ (by rw[h];simp)
  apply TH (G:=Zm (WX p[i]&&(match Lc p i with|none=>true|some q=>decide (Ub q.v p[i].v<0))&&pvL (some p[i]) (p.drop (i+1))&&decide (p.length<=60))) p i
  apply ZV (Ya hlt)
  refine⟨ZB hlt rfl,ZY hlt (JZ (fun h=>bad ?_) fun h2=>WR (fun h=>bad ?_) fun h3=>WR (fun h=>bad ?_) fun h4=>WR (fun h=>bad ?_) fun h5=>⟨Zl (p[i].v,()) rfl hml,Zj (p[i].v,()) rfl (Vu (fun h=>bad ?_) fun h6=>⟨Zl (p[i].v,{},()) rfl hm,Zj (p[i].v,{},()) rfl (Xj (fun h=>bad ?_) fun h7=> ?_)⟩)⟩)⟩
  ·have h:p[i].c=0:=h
   simp[WX,h]
  ·have h:p[i].c < -1099511627776:=h
   unfold WX
   rw[decide_eq_false (show ¬ -1099511627776<=p[i].c by omega)];simp
  ·have h:p[i].c>1099511627776:=h
   unfold WX
   rw[decide_eq_false (show ¬ p[i].c<=1099511627776 by omega)];simp
  ·have h:((p[i].v.map (enc:Str->PV)).length:Int)>8:=h
   rw[List.length_map]at h
   unfold WX
   rw[decide_eq_false (show ¬ p[i].v.length<=8 by omega)];simp
  ·have h:Gu p[i].v=false:=h
   simp[WX,h]
  ·have h:(p[i].v.any fun s=> !(ZA s))=true:=h
   have h2:p[i].v.all ZA=false:=by
    rw[<- Bool.not_eq_true]
    intro h3
    obtain⟨s,hs,h4⟩:=List.any_eq_true.1 h
    rw[List.all_eq_true.1 h3 s hs]at h4
    cases h4
   unfold WX
   rw[h2];simp
  ·have hok:WX p[i]=true:=by
    have h2 : ¬ p[i].c=0:=h2
    have h3 : ¬ p[i].c < -1099511627776:=h3
    have h4 : ¬ p[i].c>1099511627776:=h4
    have h5 : ¬ ((p[i].v.map (enc:Str->PV)).length:Int)>8:=h5
    rw[List.length_map]at h5
    have h6:Gu p[i].v=true:=h6
    have h7:(p[i].v.any fun s=> !(ZA s))=false:=h7
    have h8:p[i].v.all ZA=true:=by
     rw[List.all_eq_true]
     intro s hs
     cases hn:ZA s
     ·rw[<- Bool.not_eq_true]at h7
      exact absurd (List.any_eq_true.2 ⟨s,hs,by rw[hn];rfl⟩) h7
     ·rfl
    unfold WX
    rw[decide_eq_true h2,decide_eq_true (show -1099511627776<=p[i].c by omega),decide_eq_true (show p[i].c<=1099511627776 by omega),decide_eq_true (show p[i].v.length<=8 by omega),h6,h8]
    rfl
   rw[hok,Bool.true_and]
   cases i with
   | zero=>
    refine Z0 (by decide) ?_
    rw[next (by omega)]
    exact h1
   | succ j=>
    have hj:j<p.length:=by omega
    have e:((j+1:Nat):Int) - 1=(j:Int):=by omega
    have hw:IntKind.i64.wrap (((j+1:Nat):Int) - 1)=(j:Int):=by rw[e];exact Wx (by omega) (by omega)
    have hprev:Lc p (j+1)=some p[j]:=List.getElem?_eq_getElem hj
    rw[hprev]
    have hjl:Zx p[j].v=true:=by
     have:=hp.2 _ (List.getElem_mem hj)
     simp only[WF,Bool.and_eq_true]at this
     exact this.1
    refine ZV (by simp) ?_
    rw[hw]
    refine⟨ZB hj rfl,ZY hj ⟨Zl (p[j].v,p[j+1].v,()) rfl (by show(Zx p[j].v&&Zx p[j+1].v)=true;rw[hjl,hml];rfl),Zj (p[j].v,p[j+1].v,()) rfl (WR (fun h=> ?_) fun h=> ?_)⟩⟩
    ·have h:Gx p[j].v p[j+1].v ≥ 0:=h
     have : ¬ Ub p[j].v p[j+1].v<0:=fun h2=>by have:=(CQ _ _).2 h2;omega
     exact ZZ (by simp[this])
    ·have h : ¬ Gx p[j].v p[j+1].v ≥ 0:=h
     have:Ub p[j].v p[j+1].v<0:=(CQ _ _).1 (by omega)
     show At Vf 0 (Za Wi (Zm (decide (Ub p[j].v p[j+1].v<0)&&_&&_))) _ _ _ _ _
     rw[decide_eq_true this,Bool.true_and,next (by omega)]
     exact h1
theorem FJ: ∀ x:List Mono×Unit,Yg x.1=true->Zc Vf 0 (Za Wi (Zm (Z9 x.1))) WY [] (Yz a3v (encL x)):=by
 rintro⟨p,⟨⟩⟩ h
 refine b2x p ?_
 rw[List.length_map,<- b5l]
 exact Li p h p.length 0 (by omega)
end Go.Pl

namespace Go.Pl
open Go.RowKit
open Enc (enc dec is)
open EncL (encL decL isL)
set_option maxRecDepth 100000
def Xa:IC:=(.seq (.reg [⟨(some 2),(.mv (.c (.sl 0 true []))),0,none⟩] none) (.seq (.seq (.reg [⟨(some 6),(.mv (.t 0)),0,none⟩,⟨(some 7),(.call (.c (.fn 122)) [(.t 6)]),0,none⟩,⟨(some 8),(.un .not (.t 7)),2,none⟩] none) (.cond (.t 8) (.seq (.reg [⟨(some 2),(.mv (.c (.sl 0 true []))),0,none⟩] none) .ret) .skip)) (.seq (.reg [⟨(some 3),(.mv (.c (.sl 0 true []))),0,none⟩] none) (.seq (.seq (.reg [⟨(some 9),(.mv (.t 0)),0,none⟩,⟨(some 10),(.len 1 (.t 9)),0,none⟩,⟨(some 11),(.mv (.c (.int .i64 0))),0,none⟩] none) (.block 0 (.loop [11,10,9,3] (.seq (.reg [⟨(some 12),(.bin .num .lss (.t 11) (.t 10)),0,none⟩] none) (.seq (.cond (.t 12) .skip (.exit 0)) (.seq (.block 1 (.seq (.reg [⟨(some 13),(.iaddr 2 (.t 9) (.t 11)),0,none⟩,⟨(some 14),(.load true [(.int .i64),(.sl 1)] (.t 13)),0,none⟩,⟨(some 5),(.alloc (.agg [(.int .i64 0),(.sl 0 true [])])),0,none⟩,⟨none,(.store 2 (.t 5) (.t 14)),1,none⟩] none) (.reg [⟨(some 15),(.mv (.t 3)),0,none⟩,⟨(some 16),(.faddr 1 (.t 5)),0,none⟩,⟨(some 17),(.load false [(.sl 1)] (.t 16)),0,none⟩,⟨(some 18),(.append 9 1 16 (.t 15) (.t 17)),0,none⟩,⟨(some 3),(.mv (.t 18)),1,none⟩] none))) (.reg [⟨(some 19),(.bin .num .add (.t 11) (.c (.int .i64 1))),0,none⟩,⟨(some 11),(.mv (.t 19)),0,none⟩] none))))))) (.seq (.reg [⟨(some 20),(.mv (.t 3)),0,none⟩,⟨(some 21),(.call (.c (.fn 154)) [(.t 20)]),0,none⟩] none) (.seq (.reg [⟨(some 22),(.mv (.t 3)),0,none⟩,⟨(some 23),(.call (.c (.fn 187)) [(.t 22)]),0,none⟩,⟨(some 2),(.mv (.t 23)),2,none⟩] none) .ret))))))
def Xf:List IRes:=[(.tmp 2)]
abbrev AB:Nat:=24
def XU:ZE:=Xg [(122,.pure (preT (fun x:List Mono×Unit=>Yg x.1)) (Zf (fun x:List Mono×Unit=>Z9 x.1))),(154,.own XJ QR),(187,.own XJ QP)]
theorem a1h{G:AV×List AObj×List AObj->Prop}(p:List Mono)(h:(Go.Pl.preT (fun(x:List Mono×Unit)=>Yg x.1) [(.sl 2 false (List.map enc p))])=true∧(∃ y0:Bool,AV.pv (Zf (fun(x:List Mono×Unit)=>Z9 x.1) [(.sl 2 false (List.map enc p))])=AV.pv (enc y0)∧(if (!y0)=true then G (((.pv (.sl 0 true [])),([],[])))else(At XU 0 (Zk 0 Xf G) Xa 0 24 [(3,(.pv (.sl 0 true []))),(9,(.pv (.sl 2 false (List.map enc p)))),(10,(.pv (.int .i64 (↑(List.length (List.map enc p)):Int)))),(11,(.pv (.int .i64 0)))] [])))):Zc XU 0 (Zk 0 Xf G) Xa [] (YD 24 [.pv (enc p)] []):=Zc.to (.req (.abs (Bool) (fun YY=>AV.pv (enc YY)) (.ask (.nil) (.nil)))) h (by kernel_rfl)
theorem Tz{G:AV×List AObj×List AObj->Prop}(p:List Mono)(i:Int)(h:if (decide (i<(↑(List.length p):Int)))=true then(decide (0<=i)&&decide (Int.toNat i<List.length (List.map enc p))&&Enc.sz Mono==2)=true∧(∃ y0:Mono,AV.pv (PV.rptr (PV.cells (List.getD (List.map enc p) (Int.toNat i) default)))=AV.pv (PV.rptr (PV.cells ((enc) y0)))∧((List.isEmpty (PV.asXs (List.getD (PV.cells (enc y0)) (0+1) default))||1==1)=true∧(if (List.isEmpty (PV.asXs (List.getD (PV.cells (enc y0)) (0+1) default)))=true then At XU 0 (Zk 0 Xf G) Xa 0 24 [(3,(.pv (.sl 0 true []))),(9,(.pv (.sl 2 false (List.map enc p)))),(10,(.pv (.int .i64 (↑(List.length p):Int)))),(11,(.pv (.int .i64 (IntKind.wrap IntKind.i64 (i+1)))))] []else(((List.isEmpty ([]:List PV)||0==1)&&decide ((List.length ([]:List PV)+List.length (PV.asXs (List.getD (PV.cells (enc y0)) (0+1) default)))*16<=1099511627776)&&decide (List.length ([]:List PV)+List.length (PV.asXs (List.getD (PV.cells (enc y0)) (0+1) default))<=1099511627776))=true∧(At XU 0 (Zk 0 Xf G) Xa 0 24 [(3,(.row 0 (List.length ([]:List PV)+List.length (PV.asXs (List.getD (PV.cells (enc y0)) (0+1) default))) 0 (List.length ([]:List PV)+List.length (PV.asXs (List.getD (PV.cells (enc y0)) (0+1) default))))),(9,(.pv (.sl 2 false (List.map enc p)))),(10,(.pv (.int .i64 (↑(List.length p):Int)))),(11,(.pv (.int .i64 (IntKind.wrap IntKind.i64 (i+1)))))] [(.obj (.row false 9 1 (([]:List PV)++PV.asXs (List.getD (PV.cells (enc y0)) (0+1) default))))])))))else(G (((.pv (.sl 0 true [])),([],[]))))):At XU 0 (Zk 0 Xf G) Xa 0 24 [(3,.pv (.sl 0 true [])),(9,.pv (enc p)),(10,.pv (.int .i64 p.length)),(11,.pv (.int .i64 i))] []:=At.to (.lit (.ask (.req (.abs (Mono) (fun YY=>AV.pv (PV.rptr (PV.cells ((enc) YY)))) (.lit (.req (.lit (.ask (.lit (.nil)) (.req (.lit (.nil))))))))) (.lit (.keep (.lit (.keep (.nil))))))) h (by kernel_rfl)
theorem Ti{G:AV×List AObj×List AObj->Prop}(p:List Mono)(i:Int)(q:Nat)(xs:List Str)(h:if (decide (i<(↑(List.length p):Int)))=true then(decide (0<=i)&&decide (Int.toNat i<List.length (List.map enc p))&&Enc.sz Mono==2)=true∧(∃ y0:Mono,AV.pv (PV.rptr (PV.cells (List.getD (List.map enc p) (Int.toNat i) default)))=AV.pv (PV.rptr (PV.cells ((enc) y0)))∧((List.isEmpty (PV.asXs (List.getD (PV.cells (enc y0)) (0+1) default))||1==1)=true∧((List.length (List.map enc xs)==q&&q==q&&decide ((q+List.length (PV.asXs (List.getD (PV.cells (enc y0)) (0+1) default)))*16<=1099511627776)&&decide (q+List.length (PV.asXs (List.getD (PV.cells (enc y0)) (0+1) default))<=1099511627776))=true∧(At XU 0 (Zk 0 Xf G) Xa 0 24 [(3,(.row 0 (q+List.length (PV.asXs (List.getD (PV.cells (enc y0)) (0+1) default))) 0 (q+List.length (PV.asXs (List.getD (PV.cells (enc y0)) (0+1) default))))),(9,(.pv (.sl 2 false (List.map enc p)))),(10,(.pv (.int .i64 (↑(List.length p):Int)))),(11,(.pv (.int .i64 (IntKind.wrap IntKind.i64 (i+1)))))] [(.obj (.row false 9 1 (List.map enc xs++PV.asXs (List.getD (PV.cells (enc y0)) (0+1) default))))]))))else((XJ [(.row 0 q 0 q)] [(.row false 9 1 (List.map enc xs))])=true∧((XJ [(.row 0 q 0 q)] [(.row false 9 1 (List.map PV.str (Wt (List.map UH (List.map enc xs)))))])=true∧(G (((.row 0 q 0 (List.length (Lib.compact (List.map UH (List.map PV.str (Wt (List.map UH (List.map enc xs)))))))),([],[(.row false 9 1 (List.map PV.str (Vw (List.map UH (List.map PV.str (Wt (List.map UH (List.map enc xs))))))))]))))))):At XU 0 (Zk 0 Xf G) Xa 0 24 [(3,.row 0 q 0 q),(9,.pv (enc p)),(10,.pv (.int .i64 p.length)),(11,.pv (.int .i64 i))] [.obj (.row false 9 1 (xs.map enc))]:=At.to (.lit (.ask (.req (.abs (Mono) (fun YY=>AV.pv (PV.rptr (PV.cells ((enc) YY)))) (.lit (.req (.req (.lit (.nil))))))) (.req (.keep (.req (.keep (.nil))))))) h (by kernel_rfl)
def Ox:IC:=(.seq (.reg [⟨(some 2),(.box 2 (.t 0)),0,none⟩,⟨(some 3),(.mv (.c (.bool false))),1,none⟩] none) (.seq (.reg [⟨(some 4),(.faddr 0 (.t 2)),0,none⟩,⟨(some 5),(.load false [.str] (.t 4)),0,none⟩,⟨(some 6),(.load false [.str] (.t 1)),0,none⟩,⟨(some 7),(.bin .num .eql (.t 5) (.t 6)),0,none⟩,⟨(some 3),(.mv (.t 7)),0,none⟩] none) .ret))
def FB:List IRes:=[(.tmp 3)]
abbrev c3p:Nat:=8
def a8x:ZE:=Xg []
theorem c7n{G:AV×List AObj×List AObj->Prop}(x:Coef)(v:List UInt8)(h:G (((.pv (.bool (Str.s x.v==v))),([(.box [(.pv (.str v))])],[])))):Zc a8x 1 (Zk 1 FB G) Ox [] (YD 8 [.pv (enc x),.ptr 0 0] [.box [.pv (.str v)]]):=Zc.to (.lit (.nil)) h (by kernel_rfl)
def J6:IC:=KE
def Jr:List IRes:=[(.tmp 4)]
abbrev c5w:Nat:=19
def Bh:ZE:=Xg [(188,.own Gt Cz)]
theorem c8a{G:AV×List AObj×List AObj->Prop}(l:List Coef)(v:List UInt8)(h:At Bh 1 (Zk 1 Jr G) J6 0 19 [(0,(.pv (.sl 2 false (List.map enc l)))),(1,(.fn 188 [] [(.ptr 0 0)])),(7,(.pv (.int .i64 (↑(List.length (List.map enc l)):Int)))),(8,(.pv (.int .i64 0)))] [(.obj (.box [(.pv (.str v))]))]):Zc Bh 1 (Zk 1 Jr G) J6 [] (YD 19 [.pv (enc l),.fn 188 [] [.ptr 0 0]] [.box [.pv (.str v)]]):=Zc.to (.nil) h (by kernel_rfl)
theorem a8f{G:AV×List AObj×List AObj->Prop}(l:List Coef)(v:List UInt8)(i:Int)(h:if (decide (i<(↑(List.length l):Int)))=true then(decide (0<=i)&&decide (Int.toNat i<List.length (List.map enc l))&&Enc.sz Coef==2)=true∧(∃ y0:Coef,AV.pv (PV.rptr (PV.cells (List.getD (List.map enc l) (Int.toNat i) default)))=AV.pv (PV.rptr (PV.cells ((enc) y0)))∧((Gt [(.pv (.agg [(.str (PV.asStr (List.getD (PV.cells (enc y0)) 0 default))),(.int .i64 (PV.asInt (List.getD (PV.cells (enc y0)) (0+1) default)))])),(.ptr 0 0)] [(.box [(.pv (.str v))])])=true∧(if (Str.s (Coef.v (dec (PV.agg (QB (PV.cells (enc y0)) 0 [Sh.str,Sh.int .i64]))))==v)=true then G (((.pv (.int .i64 i)),([(.box [(.pv (.str v))])],[])))else(At Bh 1 (Zk 1 Jr G) J6 0 19 [(0,(.pv (.sl 2 false (List.map enc l)))),(1,(.fn 188 [] [(.ptr 0 0)])),(7,(.pv (.int .i64 (↑(List.length l):Int)))),(8,(.pv (.int .i64 (IntKind.wrap IntKind.i64 (i+1)))))] [(.obj (.box [(.pv (.str v))]))]))))else(G (((.pv (.int .i64 (-1))),([(.box [(.pv (.str v))])],[]))))):At Bh 1 (Zk 1 Jr G) J6 0 19 [(0,.pv (enc l)),(1,.fn 188 [] [.ptr 0 0]),(7,.pv (.int .i64 l.length)),(8,.pv (.int .i64 i))] [.obj (.box [.pv (.str v)])]:=At.to (.lit (.ask (.req (.abs (Coef) (fun YY=>AV.pv (PV.rptr (PV.cells ((enc) YY)))) (.lit (.req (.keep (.ask (.nil) (.lit (.nil)))))))) (.nil))) h (by kernel_rfl)
def Kb:IC:=(.seq (.reg [⟨(some 4),(.mv (.c (.int .i64 0))),0,none⟩] none) (.seq (.seq (.reg [⟨(some 6),(.mv (.t 0)),0,none⟩,⟨(some 7),(.len 1 (.t 6)),0,none⟩,⟨(some 8),(.mv (.c (.int .i64 0))),0,none⟩] none) (.block 0 (.loop [8,7,1,0] (.seq (.reg [⟨(some 9),(.bin .num .lss (.t 8) (.t 7)),0,none⟩] none) (.seq (.cond (.t 9) .skip (.exit 0)) (.seq (.block 1 (.seq (.reg [⟨(some 10),(.mv (.t 8)),0,none⟩,⟨(some 5),(.mv (.t 10)),0,none⟩] none) (.seq (.reg [⟨(some 11),(.mv (.t 1)),0,none⟩,⟨(some 12),(.mv (.t 0)),0,none⟩,⟨(some 13),(.mv (.t 5)),0,none⟩,⟨(some 14),(.iaddr 1 (.t 12) (.t 13)),0,none⟩,⟨(some 15),(.load false [(.int .i64)] (.t 14)),0,none⟩,⟨(some 16),(.bin .num .eql (.t 11) (.t 15)),0,none⟩] none) (.cond (.t 16) (.seq (.reg [⟨(some 17),(.mv (.t 5)),0,none⟩,⟨(some 4),(.mv (.t 17)),0,none⟩] none) .ret) .skip)))) (.reg [⟨(some 18),(.bin .num .add (.t 8) (.c (.int .i64 1))),0,none⟩,⟨(some 8),(.mv (.t 18)),0,none⟩] none))))))) (.seq (.reg [⟨(some 4),(.mv (.c (.int .i64 (-1)))),0,none⟩] none) .ret)))
def Kg:List IRes:=[(.tmp 4)]
abbrev c0z:Nat:=19
def Jz:ZE:=Xg []
theorem c6n{G:PV->Prop}(l:List Int)(n:Int)(h:At Jz 0 (Za Kg G) Kb 0 19 [(0,(.pv (.sl 1 false (List.map enc l)))),(1,(.pv (.int .i64 n))),(7,(.pv (.int .i64 (↑(List.length (List.map enc l)):Int)))),(8,(.pv (.int .i64 0)))] []):Zc Jz 0 (Za Kg G) Kb [] (Yz 19 [enc l,enc n]):=Zc.tp (.nil) h (by kernel_rfl)
theorem a1v{G:PV->Prop}(l:List Int)(n:Int)(i:Int)(h:if (decide (i<(↑(List.length l):Int)))=true then(decide (0<=i)&&decide (Int.toNat i<List.length (List.map enc l))&&Enc.sz Int==1)=true∧(∃ y0:Int,AV.pv (PV.rptr (PV.cells (List.getD (List.map enc l) (Int.toNat i) default)))=AV.pv (PV.rptr (PV.cells ((enc) y0)))∧(if (n==PV.asInt (List.getD (PV.cells (enc y0)) 0 default))=true then G ((.int .i64 i))else(At Jz 0 (Za Kg G) Kb 0 19 [(0,(.pv (.sl 1 false (List.map enc l)))),(1,(.pv (.int .i64 n))),(7,(.pv (.int .i64 (↑(List.length l):Int)))),(8,(.pv (.int .i64 (IntKind.wrap IntKind.i64 (i+1)))))] [])))else(G ((.int .i64 (-1))))):At Jz 0 (Za Kg G) Kb 0 19 [(0,.pv (enc l)),(1,.pv (enc n)),(7,.pv (.int .i64 l.length)),(8,.pv (.int .i64 i))] []:=At.tp (.lit (.ask (.req (.abs (Int) (fun YY=>AV.pv (PV.rptr (PV.cells ((enc) YY)))) (.lit (.lit (.ask (.nil) (.lit (.nil))))))) (.nil))) h (by kernel_rfl)
def G5:IC:=(.seq (.reg [⟨(some 4),(.mv (.c (.bool false))),0,none⟩] none) (.seq (.reg [⟨(some 5),(.mv (.t 0)),0,none⟩,⟨(some 6),(.mv (.t 1)),0,none⟩,⟨(some 7),(.call (.c (.fn 284)) [(.t 5),(.t 6)]),0,none⟩,⟨(some 8),(.bin .num .geq (.t 7) (.c (.int .i64 0))),2,none⟩,⟨(some 4),(.mv (.t 8)),2,none⟩] none) .ret))
def G6:List IRes:=[(.tmp 4)]
abbrev a5q:Nat:=9
def Bf:ZE:=Xg [(284,.pure (preT (fun x:List Int×Int×Unit=>Zx x.1)) (Zf (fun x:List Int×Int×Unit=>Zy (fun n:Int=>decide (x.2.1=n)) x.1)))]
theorem b5f{G:PV->Prop}(l:List Int)(n:Int)(h:(Go.Pl.preT (fun(x:List Int×Int×Unit)=>Zx x.1) [(.sl 1 false (List.map enc l)),(.int .i64 n)])=true∧(∃ y0:Int,AV.pv (Zf (fun(x:List Int×Int×Unit)=>Zy (fun(n:Int)=>decide (x.2.1=n)) x.1) [(.sl 1 false (List.map enc l)),(.int .i64 n)])=AV.pv (enc y0)∧(G ((.bool (decide (y0 ≥ 0))))))):Zc Bf 0 (Za G6 G) G5 [] (Yz 9 [enc l,enc n]):=Zc.tp (.req (.abs (Int) (fun YY=>AV.pv (enc YY)) (.lit (.nil)))) h (by kernel_rfl)
def UI:IC:=(.seq (.reg [⟨(some 2),(.mv (.c (.int .i64 0))),0,none⟩,⟨(some 3),(.mv (.c (.int .i64 0))),0,none⟩] none) (.seq (.seq (.reg [⟨(some 9),(.mv (.t 0)),0,none⟩,⟨(some 10),(.call (.c (.fn 246)) [(.t 9),(.c (.int .i64 0))]),0,none⟩] none) (.cond (.t 10) (.seq (.reg [⟨(some 2),(.mv (.c (.int .i64 0))),0,none⟩,⟨(some 3),(.mv (.c (.int .i64 0))),0,none⟩] none) .ret) .skip)) (.seq (.reg [⟨(some 4),(.mv (.c (.int .i64 1))),0,none⟩] none) (.seq (.seq (.reg [⟨(some 11),(.mv (.t 0)),0,none⟩,⟨(some 12),(.len 1 (.t 11)),0,none⟩,⟨(some 13),(.mv (.c (.int .i64 0))),0,none⟩] none) (.block 0 (.loop [13,12,11,4] (.seq (.reg [⟨(some 14),(.bin .num .lss (.t 13) (.t 12)),0,none⟩] none) (.seq (.cond (.t 14) .skip (.exit 0)) (.seq (.block 1 (.seq (.reg [⟨(some 15),(.iaddr 1 (.t 11) (.t 13)),0,none⟩,⟨(some 16),(.load false [(.int .i64)] (.t 15)),0,none⟩,⟨(some 6),(.mv (.t 16)),0,none⟩] none) (.seq (.reg [⟨(some 18),(.mv (.t 4)),0,none⟩,⟨(some 19),(.mv (.t 6)),0,none⟩,⟨(some 20),(.call (.c (.fn 247)) [(.t 18),(.t 19)]),0,none⟩,⟨(some 17),(.mv (.t 20)),2,none⟩,⟨(some 21),(.extract (.t 17) 0),2,none⟩,⟨(some 22),(.extract (.t 17) 1),2,none⟩,⟨(some 7),(.mv (.t 21)),2,none⟩,⟨(some 8),(.mv (.t 22)),2,none⟩] none) (.seq (.seq (.reg [⟨(some 23),(.mv (.t 8)),0,none⟩,⟨(some 24),(.bin .num .neq (.t 23) (.c (.int .i64 0))),0,none⟩] none) (.cond (.t 24) (.seq (.reg [⟨(some 25),(.mv (.t 8)),0,none⟩,⟨(some 2),(.mv (.c (.int .i64 0))),0,none⟩,⟨(some 3),(.mv (.t 25)),0,none⟩] none) .ret) .skip)) (.reg [⟨(some 26),(.mv (.t 7)),0,none⟩,⟨(some 4),(.mv (.t 26)),0,none⟩] none))))) (.reg [⟨(some 27),(.bin .num .add (.t 13) (.c (.int .i64 1))),0,none⟩,⟨(some 13),(.mv (.t 27)),0,none⟩] none))))))) (.seq (.reg [⟨(some 28),(.mv (.t 4)),0,none⟩,⟨(some 2),(.mv (.t 28)),0,none⟩,⟨(some 3),(.mv (.c (.int .i64 0))),0,none⟩] none) .ret)))))
def V5:List IRes:=[(.tmp 2),(.tmp 3)]
abbrev a9f:Nat:=29
def U4:ZE:=Xg [(246,.pure (preT (fun x:List Int×Int×Unit=>Zx x.1)) (Zf (fun x:List Int×Int×Unit=>x.1.contains x.2.1))),(247,.pure (preT (fun _:Int×Int×Unit=>true)) (Zf (fun x:Int×Int×Unit=>Ai x.1 x.2.1)))]
theorem b6m{G:PV->Prop}(l:List Int)(h:(Go.Pl.preT (fun(x:List Int×Int×Unit)=>Zx x.1) [(.sl 1 false (List.map enc l)),(.int .i64 0)])=true∧(∃ y0:Bool,AV.pv (Zf (fun(x:List Int×Int×Unit)=>List.contains x.1 x.2.1) [(.sl 1 false (List.map enc l)),(.int .i64 0)])=AV.pv (enc y0)∧(if (y0)=true then G ((.tup [(.int .i64 0),(.int .i64 0)]))else(At U4 0 (Za V5 G) UI 0 29 [(4,(.pv (.int .i64 1))),(11,(.pv (.sl 1 false (List.map enc l)))),(12,(.pv (.int .i64 (↑(List.length (List.map enc l)):Int)))),(13,(.pv (.int .i64 0)))] [])))):Zc U4 0 (Za V5 G) UI [] (Yz 29 [enc l]):=Zc.tp (.req (.abs (Bool) (fun YY=>AV.pv (enc YY)) (.ask (.nil) (.nil)))) h (by kernel_rfl)
theorem MK{G:PV->Prop}(l:List Int)(o i:Int)(h:if (decide (i<(↑(List.length l):Int)))=true then(decide (0<=i)&&decide (Int.toNat i<List.length (List.map enc l))&&Enc.sz Int==1)=true∧(∃ y0:Int,AV.pv (PV.rptr (PV.cells (List.getD (List.map enc l) (Int.toNat i) default)))=AV.pv (PV.rptr (PV.cells ((enc) y0)))∧(∃ y1:Int×Int,AV.pv (Zf (fun(x:Int×Int×Unit)=>Ai x.1 x.2.1) [(.int .i64 o),(.int .i64 (PV.asInt (List.getD (PV.cells (enc y0)) 0 default)))])=AV.pv (enc y1)∧(if (y1.2 != 0)=true then G ((.tup [(.int .i64 0),(.int .i64 y1.2)]))else(At U4 0 (Za V5 G) UI 0 29 [(4,(.pv (.int .i64 y1.1))),(11,(.pv (.sl 1 false (List.map enc l)))),(12,(.pv (.int .i64 (↑(List.length l):Int)))),(13,(.pv (.int .i64 (IntKind.wrap IntKind.i64 (i+1)))))] []))))else(G ((.tup [(.int .i64 o),(.int .i64 0)])))):At U4 0 (Za V5 G) UI 0 29 [(4,.pv (.int .i64 o)),(11,.pv (enc l)),(12,.pv (.int .i64 l.length)),(13,.pv (.int .i64 i))] []:=At.tp (.lit (.ask (.req (.abs (Int) (fun YY=>AV.pv (PV.rptr (PV.cells ((enc) YY)))) (.lit (.lit (.abs (Int×Int) (fun YY=>AV.pv (enc YY)) (.lit (.ask (.nil) (.lit (.nil))))))))) (.nil))) h (by kernel_rfl)
def ZG:IC:=(.seq (.reg [⟨(some 4),(.mv (.c (.int .i64 0))),0,none⟩,⟨(some 5),(.mv (.c (.int .i64 0))),0,none⟩] none) (.seq (.seq (.reg [⟨(some 20),(.mv (.t 0)),0,none⟩,⟨(some 21),(.call (.c (.fn 122)) [(.t 20)]),0,none⟩,⟨(some 22),(.un .not (.t 21)),2,none⟩] none) (.cond (.t 22) (.seq (.reg [⟨(some 4),(.mv (.c (.int .i64 0))),0,none⟩,⟨(some 5),(.mv (.c (.int .i64 1))),0,none⟩] none) .ret) .skip)) (.seq (.reg [⟨(some 6),(.mv (.c (.sl 0 true []))),0,none⟩] none) (.seq (.reg [⟨(some 7),(.mv (.c (.bool false))),0,none⟩] none) (.seq (.seq (.reg [⟨(some 23),(.mv (.t 0)),0,none⟩,⟨(some 24),(.len 1 (.t 23)),0,none⟩,⟨(some 25),(.mv (.c (.int .i64 0))),0,none⟩] none) (.block 0 (.loop [25,24,23,1,7,6] (.seq (.reg [⟨(some 26),(.bin .num .lss (.t 25) (.t 24)),0,none⟩] none) (.seq (.cond (.t 26) .skip (.exit 0)) (.seq (.block 1 (.seq (.reg [⟨(some 27),(.iaddr 2 (.t 23) (.t 25)),0,none⟩,⟨(some 28),(.load true [(.int .i64),(.sl 1)] (.t 27)),0,none⟩,⟨(some 9),(.alloc (.agg [(.int .i64 0),(.sl 0 true [])])),0,none⟩,⟨none,(.store 2 (.t 9) (.t 28)),1,none⟩] none) (.seq (.reg [⟨(some 29),(.faddr 0 (.t 9)),0,none⟩,⟨(some 30),(.load false [(.int .i64)] (.t 29)),0,none⟩,⟨(some 31),(.bslice 3 1 1 (.int .i64 0) [(0,(.t 30))]),0,none⟩,⟨(some 10),(.mv (.t 31)),1,none⟩] none) (.seq (.seq (.reg [⟨(some 32),(.faddr 1 (.t 9)),0,none⟩,⟨(some 33),(.load false [(.sl 1)] (.t 32)),0,none⟩,⟨(some 34),(.len 1 (.t 33)),0,none⟩,⟨(some 35),(.mv (.c (.int .i64 0))),0,none⟩] none) (.block 2 (.loop [35,34,33,1,7,10,6,25,24,23] (.seq (.reg [⟨(some 36),(.bin .num .lss (.t 35) (.t 34)),0,none⟩] none) (.seq (.cond (.t 36) .skip (.exit 2)) (.seq (.block 3 (.seq (.reg [⟨(some 37),(.iaddr 1 (.t 33) (.t 35)),0,none⟩,⟨(some 38),(.load false [.str] (.t 37)),0,none⟩,⟨(some 12),(.alloc (.str [])),0,none⟩,⟨none,(.store 1 (.t 12) (.t 38)),1,none⟩] none) (.seq (.reg [⟨(some 39),(.mv (.t 1)),0,none⟩,⟨(some 40),(.mkfn 188 [] [(.t 12)]),0,none⟩,⟨(some 41),(.call (.c (.fn 109)) [(.t 39),(.t 40)]),0,none⟩,⟨(some 13),(.mv (.t 41)),2,none⟩] none) (.seq (.seq (.reg [⟨(some 42),(.mv (.t 13)),0,none⟩,⟨(some 43),(.bin .num .lss (.t 42) (.c (.int .i64 0))),0,none⟩] none) (.cond (.t 43) (.seq (.reg [⟨(some 4),(.mv (.c (.int .i64 0))),0,none⟩,⟨(some 5),(.mv (.c (.int .i64 7))),0,none⟩] none) .ret) .skip)) (.seq (.reg [⟨(some 44),(.mv (.t 1)),0,none⟩,⟨(some 45),(.mv (.t 13)),0,none⟩,⟨(some 46),(.iaddr 2 (.t 44) (.t 45)),0,none⟩,⟨(some 47),(.faddr 1 (.t 46)),0,none⟩,⟨(some 48),(.load false [(.int .i64)] (.t 47)),0,none⟩,⟨(some 14),(.mv (.t 48)),0,none⟩] none) (.seq (.reg [⟨(some 49),(.mv (.t 7)),0,none⟩,⟨(some 50),(.mv (.t 49)),0,none⟩,⟨(some 51),(.mv (.t 14)),0,(some (50,false))⟩,⟨(some 52),(.bin .num .lss (.t 51) (.c (.int .i64 (-4611686018427387904)))),0,(some (50,false))⟩,⟨(some 53),(.pick (.t 50) (.c (.bool true)) (.t 52)),0,none⟩,⟨(some 54),(.mv (.t 53)),0,none⟩,⟨(some 55),(.mv (.t 14)),0,(some (54,false))⟩,⟨(some 56),(.bin .num .gtr (.t 55) (.c (.int .i64 4611686018427387904))),0,(some (54,false))⟩,⟨(some 57),(.pick (.t 54) (.c (.bool true)) (.t 56)),0,none⟩,⟨(some 7),(.mv (.t 57)),0,none⟩] none) (.reg [⟨(some 58),(.mv (.t 10)),0,none⟩,⟨(some 59),(.mv (.t 14)),0,none⟩,⟨(some 60),(.bslice 3 1 1 (.int .i64 0) [(0,(.t 59))]),0,none⟩,⟨(some 61),(.append 3 1 8 (.t 58) (.t 60)),1,none⟩,⟨(some 10),(.mv (.t 61)),2,none⟩] none))))))) (.reg [⟨(some 62),(.bin .num .add (.t 35) (.c (.int .i64 1))),0,none⟩,⟨(some 35),(.mv (.t 62)),0,none⟩] none))))))) (.reg [⟨(some 63),(.mv (.t 6)),0,none⟩,⟨(some 64),(.mv (.t 10)),0,none⟩,⟨(some 65),(.bslice 34 1 1 (.sl 0 true []) [(0,(.t 64))]),0,none⟩,⟨(some 66),(.append 34 1 24 (.t 63) (.t 65)),1,none⟩,⟨(some 6),(.mv (.t 66)),2,none⟩] none))))) (.reg [⟨(some 67),(.bin .num .add (.t 25) (.c (.int .i64 1))),0,none⟩,⟨(some 25),(.mv (.t 67)),0,none⟩] none))))))) (.seq (.seq (.reg [⟨(some 68),(.mv (.t 7)),0,none⟩] none) (.cond (.t 68) (.seq (.reg [⟨(some 4),(.mv (.c (.int .i64 0))),0,none⟩,⟨(some 5),(.mv (.c (.int .i64 2))),0,none⟩] none) .ret) .skip)) (.seq (.reg [⟨(some 15),(.mv (.c (.sl 0 true []))),0,none⟩] none) (.seq (.seq (.reg [⟨(some 69),(.mv (.t 6)),0,none⟩,⟨(some 70),(.len 1 (.t 69)),0,none⟩,⟨(some 71),(.mv (.c (.int .i64 0))),0,none⟩] none) (.block 4 (.loop [71,70,69,15] (.seq (.reg [⟨(some 72),(.bin .num .lss (.t 71) (.t 70)),0,none⟩] none) (.seq (.cond (.t 72) .skip (.exit 4)) (.seq (.block 5 (.seq (.reg [⟨(some 73),(.iaddr 1 (.t 69) (.t 71)),0,none⟩,⟨(some 74),(.load false [(.sl 1)] (.t 73)),0,none⟩,⟨(some 17),(.mv (.t 74)),0,none⟩] none) (.seq (.reg [⟨(some 76),(.mv (.t 17)),0,none⟩,⟨(some 77),(.call (.c (.fn 189)) [(.t 76)]),0,none⟩,⟨(some 75),(.mv (.t 77)),2,none⟩,⟨(some 78),(.extract (.t 75) 0),2,none⟩,⟨(some 79),(.extract (.t 75) 1),2,none⟩,⟨(some 18),(.mv (.t 78)),2,none⟩,⟨(some 19),(.mv (.t 79)),2,none⟩] none) (.seq (.seq (.reg [⟨(some 80),(.mv (.t 19)),0,none⟩,⟨(some 81),(.bin .num .neq (.t 80) (.c (.int .i64 0))),0,none⟩] none) (.cond (.t 81) (.seq (.reg [⟨(some 4),(.mv (.c (.int .i64 0))),0,none⟩,⟨(some 5),(.mv (.c (.int .i64 2))),0,none⟩] none) .ret) .skip)) (.reg [⟨(some 82),(.mv (.t 15)),0,none⟩,⟨(some 83),(.mv (.t 18)),0,none⟩,⟨(some 84),(.bslice 3 1 1 (.int .i64 0) [(0,(.t 83))]),0,none⟩,⟨(some 85),(.append 3 1 8 (.t 82) (.t 84)),1,none⟩,⟨(some 15),(.mv (.t 85)),2,none⟩] none))))) (.reg [⟨(some 86),(.bin .num .add (.t 71) (.c (.int .i64 1))),0,none⟩,⟨(some 71),(.mv (.t 86)),0,none⟩] none))))))) (.seq (.reg [⟨(some 87),(.mv (.t 15)),0,none⟩,⟨(some 88),(.call (.c (.fn 190)) [(.t 87)]),0,none⟩,⟨(some 89),(.extract (.t 88) 0),2,none⟩,⟨(some 90),(.extract (.t 88) 1),2,none⟩,⟨(some 4),(.mv (.t 89)),2,none⟩,⟨(some 5),(.mv (.t 90)),2,none⟩] none) .ret)))))))))
def ZC:List IRes:=[(.tmp 4),(.tmp 5)]
abbrev b1m:Nat:=91
def ZQ:ZE:=Xg [(122,.pure (preT (fun x:List Mono×Unit=>Yg x.1)) (Zf (fun x:List Mono×Unit=>Z9 x.1))),(109,.own (VW 188) Ch),(189,.pure (preT (fun x:List Int×Unit=>Zx x.1)) (Zf (fun x:List Int×Unit=>Y3 x.1))),(190,.pure (preT (fun x:List Int×Unit=>decide (x.1.length<=10000))) (Zf (fun x:List Int×Unit=>VB x.1)))]
theorem c1h{G:PV->Prop}(p:List Mono)(vs:List Coef)(h:(Go.Pl.preT (fun(x:List Mono×Unit)=>Yg x.1) [(.sl 2 false (List.map enc p))])=true∧(∃ y0:Bool,AV.pv (Zf (fun(x:List Mono×Unit)=>Z9 x.1) [(.sl 2 false (List.map enc p))])=AV.pv (enc y0)∧(if (!y0)=true then G ((.tup [(.int .i64 0),(.int .i64 1)]))else(At ZQ 0 (Za ZC G) ZG 0 91 [(1,(.pv (.sl 2 false (List.map enc vs)))),(6,(.pv (.sl 0 true []))),(7,(.pv (.bool false))),(23,(.pv (.sl 2 false (List.map enc p)))),(24,(.pv (.int .i64 (↑(List.length (List.map enc p)):Int)))),(25,(.pv (.int .i64 0)))] [])))):Zc ZQ 0 (Za ZC G) ZG [] (Yz 91 [enc p,enc vs]):=Zc.tp (.req (.abs (Bool) (fun YY=>AV.pv (enc YY)) (.ask (.nil) (.nil)))) h (by kernel_rfl)
theorem TM{G:PV->Prop}(p:List Mono)(vs:List Coef)(bd:Bool)(i:Int)(h:if (decide (i<(↑(List.length p):Int)))=true then(decide (0<=i)&&decide (Int.toNat i<List.length (List.map enc p))&&Enc.sz Mono==2)=true∧(∃ y0:Mono,AV.pv (PV.rptr (PV.cells (List.getD (List.map enc p) (Int.toNat i) default)))=AV.pv (PV.rptr (PV.cells ((enc) y0)))∧(At ZQ 0 (Za ZC G) ZG 1 91 [(1,(.pv (.sl 2 false (List.map enc vs)))),(6,(.pv (.sl 0 true []))),(7,(.pv (.bool bd))),(10,(.row 0 1 0 1)),(23,(.pv (.sl 2 false (List.map enc p)))),(24,(.pv (.int .i64 (↑(List.length p):Int)))),(25,(.pv (.int .i64 i))),(33,(.pv (.sl 1 false (PV.asXs (List.getD (PV.cells (enc y0)) (0+1) default))))),(34,(.pv (.int .i64 (↑(List.length (PV.asXs (List.getD (PV.cells (enc y0)) (0+1) default))):Int)))),(35,(.pv (.int .i64 0)))] [(.obj (.row false 3 1 [(.int .i64 (PV.asInt (List.getD (PV.cells (enc y0)) 0 default)))]))]))else(if (bd)=true then G ((.tup [(.int .i64 0),(.int .i64 2)]))else(At ZQ 0 (Za ZC G) ZG 2 91 [(15,(.pv (.sl 0 true []))),(69,(.pv (.sl 0 true []))),(70,(.pv (.int .i64 0))),(71,(.pv (.int .i64 0)))] []))):At ZQ 0 (Za ZC G) ZG 0 91 [(6,.pv (.sl 0 true [])),(1,.pv (enc vs)),(7,.pv (.bool bd)),(23,.pv (enc p)),(24,.pv (.int .i64 p.length)),(25,.pv (.int .i64 i))] []:=At.tp (.lit (.ask (.req (.abs (Mono) (fun YY=>AV.pv (PV.rptr (PV.cells ((enc) YY)))) (.lit (.lit (.nil))))) (.ask (.nil) (.nil)))) h (by kernel_rfl)
theorem Rj{G:PV->Prop}(p:List Mono)(vs:List Coef)(bd:Bool)(i:Int)(q:Nat)(fs:List (List Int))(h:if (decide (i<(↑(List.length p):Int)))=true then(decide (0<=i)&&decide (Int.toNat i<List.length (List.map enc p))&&Enc.sz Mono==2)=true∧(∃ y0:Mono,AV.pv (PV.rptr (PV.cells (List.getD (List.map enc p) (Int.toNat i) default)))=AV.pv (PV.rptr (PV.cells ((enc) y0)))∧(At ZQ 0 (Za ZC G) ZG 1 91 [(1,(.pv (.sl 2 false (List.map enc vs)))),(6,(.row 0 q 0 q)),(7,(.pv (.bool bd))),(10,(.row 1 1 0 1)),(23,(.pv (.sl 2 false (List.map enc p)))),(24,(.pv (.int .i64 (↑(List.length p):Int)))),(25,(.pv (.int .i64 i))),(33,(.pv (.sl 1 false (PV.asXs (List.getD (PV.cells (enc y0)) (0+1) default))))),(34,(.pv (.int .i64 (↑(List.length (PV.asXs (List.getD (PV.cells (enc y0)) (0+1) default))):Int)))),(35,(.pv (.int .i64 0)))] [(.obj (.row false 34 1 (List.map enc fs))),(.obj (.row false 3 1 [(.int .i64 (PV.asInt (List.getD (PV.cells (enc y0)) 0 default)))]))]))else(if (bd)=true then G ((.tup [(.int .i64 0),(.int .i64 2)]))else(At ZQ 0 (Za ZC G) ZG 2 91 [(15,(.pv (.sl 0 true []))),(69,(.row 0 q 0 q)),(70,(.pv (.int .i64 (↑(q - 0):Int)))),(71,(.pv (.int .i64 0)))] [(.obj (.row false 34 1 (List.map enc fs)))]))):At ZQ 0 (Za ZC G) ZG 0 91 [(6,.row 0 q 0 q),(1,.pv (enc vs)),(7,.pv (.bool bd)),(23,.pv (enc p)),(24,.pv (.int .i64 p.length)),(25,.pv (.int .i64 i))] [.obj (.row false 34 1 (fs.map enc))]:=At.tp (.lit (.ask (.req (.abs (Mono) (fun YY=>AV.pv (PV.rptr (PV.cells ((enc) YY)))) (.lit (.lit (.nil))))) (.ask (.nil) (.nil)))) h (by kernel_rfl)
theorem TQ{G:PV->Prop}(p:List Mono)(vs:List Coef)(bd:Bool)(i j:Int)(ns:List Str)(r:Nat)(l:List Int)(h:if (decide (j<(↑(List.length ns):Int)))=true then(decide (0<=j)&&decide (Int.toNat j<List.length (List.map enc ns))&&Enc.sz Str==1)=true∧(∃ y0:Str,AV.pv (PV.rptr (PV.cells (List.getD (List.map enc ns) (Int.toNat j) default)))=AV.pv (PV.rptr (PV.cells ((enc) y0)))∧((VW 188 [(.pv (.sl 2 false (List.map enc vs))),(.fn 188 [] [(.ptr 0 0)])] [(.box [(.pv (.str (PV.asStr (List.getD (PV.cells (enc y0)) 0 default))))])])=true∧(if (decide (Zy (fun(t:Coef)=>Str.s t.v==PV.asStr (List.getD (PV.cells (enc y0)) 0 default)) (Kl (enc vs))<0))=true then G ((.tup [(.int .i64 0),(.int .i64 7)]))else((decide (0<=Zy (fun(t:Coef)=>Str.s t.v==PV.asStr (List.getD (PV.cells (enc y0)) 0 default)) (Kl (enc vs)))&&decide (Int.toNat (Zy (fun(t:Coef)=>Str.s t.v==PV.asStr (List.getD (PV.cells (enc y0)) 0 default)) (Kl (enc vs)))<List.length (List.map enc vs))&&Enc.sz Coef==2)=true∧(∃ y1:Coef,AV.pv (PV.rptr (PV.cells (List.getD (List.map enc vs) (Int.toNat (Zy (fun(t:Coef)=>Str.s t.v==PV.asStr (List.getD (PV.cells (enc y0)) 0 default)) (Kl (enc vs)))) default)))=AV.pv (PV.rptr (PV.cells ((enc) y1)))∧(if (bd)=true then(List.length (List.map enc l)==r&&r==r&&decide ((r+List.length (List.drop 0 (List.take 1 [Sh.co (Sh.int .i64) (List.getD (List.drop 1 (PV.cells (enc y1))) 0 default)])))*8<=1099511627776)&&decide (r+List.length (List.drop 0 (List.take 1 [Sh.co (Sh.int .i64) (List.getD (List.drop 1 (PV.cells (enc y1))) 0 default)]))<=1099511627776))=true∧(At ZQ 0 (Za ZC G) ZG 1 91 [(1,(.pv (.sl 2 false (List.map enc vs)))),(6,(.pv (.sl 0 true []))),(7,(.pv (.bool true))),(10,(.row 0 (r+List.length (List.drop 0 (List.take 1 [Sh.co (Sh.int .i64) (List.getD (List.drop 1 (PV.cells (enc y1))) 0 default)]))) 0 (r+List.length (List.drop 0 (List.take 1 [Sh.co (Sh.int .i64) (List.getD (List.drop 1 (PV.cells (enc y1))) 0 default)]))))),(23,(.pv (.sl 2 false (List.map enc p)))),(24,(.pv (.int .i64 (↑(List.length p):Int)))),(25,(.pv (.int .i64 i))),(33,(.pv (.sl 1 false (List.map enc ns)))),(34,(.pv (.int .i64 (↑(List.length ns):Int)))),(35,(.pv (.int .i64 (IntKind.wrap IntKind.i64 (j+1)))))] [(.obj (.row false 3 1 (List.map enc l++List.drop 0 (List.take 1 [Sh.co (Sh.int .i64) (List.getD (List.drop 1 (PV.cells (enc y1))) 0 default)]))))])else(if (decide (PV.asInt (List.getD (List.drop 1 (PV.cells (enc y1))) 0 default)<(-4611686018427387904:Int)))=true then(List.length (List.map enc l)==r&&r==r&&decide ((r+List.length (List.drop 0 (List.take 1 [Sh.co (Sh.int .i64) (List.getD (List.drop 1 (PV.cells (enc y1))) 0 default)])))*8<=1099511627776)&&decide (r+List.length (List.drop 0 (List.take 1 [Sh.co (Sh.int .i64) (List.getD (List.drop 1 (PV.cells (enc y1))) 0 default)]))<=1099511627776))=true∧(At ZQ 0 (Za ZC G) ZG 1 91 [(1,(.pv (.sl 2 false (List.map enc vs)))),(6,(.pv (.sl 0 true []))),(7,(.pv (.bool true))),(10,(.row 0 (r+List.length (List.drop 0 (List.take 1 [Sh.co (Sh.int .i64) (List.getD (List.drop 1 (PV.cells (enc y1))) 0 default)]))) 0 (r+List.length (List.drop 0 (List.take 1 [Sh.co (Sh.int .i64) (List.getD (List.drop 1 (PV.cells (enc y1))) 0 default)]))))),(23,(.pv (.sl 2 false (List.map enc p)))),(24,(.pv (.int .i64 (↑(List.length p):Int)))),(25,(.pv (.int .i64 i))),(33,(.pv (.sl 1 false (List.map enc ns)))),(34,(.pv (.int .i64 (↑(List.length ns):Int)))),(35,(.pv (.int .i64 (IntKind.wrap IntKind.i64 (j+1)))))] [(.obj (.row false 3 1 (List.map enc l++List.drop 0 (List.take 1 [Sh.co (Sh.int .i64) (List.getD (List.drop 1 (PV.cells (enc y1))) 0 default)]))))])else((List.length (List.map enc l)==r&&r==r&&decide ((r+List.length (List.drop 0 (List.take 1 [Sh.co (Sh.int .i64) (List.getD (List.drop 1 (PV.cells (enc y1))) 0 default)])))*8<=1099511627776)&&decide (r+List.length (List.drop 0 (List.take 1 [Sh.co (Sh.int .i64) (List.getD (List.drop 1 (PV.cells (enc y1))) 0 default)]))<=1099511627776))=true∧(At ZQ 0 (Za ZC G) ZG 1 91 [(1,(.pv (.sl 2 false (List.map enc vs)))),(6,(.pv (.sl 0 true []))),(7,(.pv (.bool (decide (PV.asInt (List.getD (List.drop 1 (PV.cells (enc y1))) 0 default)>4611686018427387904))))),(10,(.row 0 (r+List.length (List.drop 0 (List.take 1 [Sh.co (Sh.int .i64) (List.getD (List.drop 1 (PV.cells (enc y1))) 0 default)]))) 0 (r+List.length (List.drop 0 (List.take 1 [Sh.co (Sh.int .i64) (List.getD (List.drop 1 (PV.cells (enc y1))) 0 default)]))))),(23,(.pv (.sl 2 false (List.map enc p)))),(24,(.pv (.int .i64 (↑(List.length p):Int)))),(25,(.pv (.int .i64 i))),(33,(.pv (.sl 1 false (List.map enc ns)))),(34,(.pv (.int .i64 (↑(List.length ns):Int)))),(35,(.pv (.int .i64 (IntKind.wrap IntKind.i64 (j+1)))))] [(.obj (.row false 3 1 (List.map enc l++List.drop 0 (List.take 1 [Sh.co (Sh.int .i64) (List.getD (List.drop 1 (PV.cells (enc y1))) 0 default)]))))])))))))))else((List.length (List.map enc l)==r)=true∧(At ZQ 0 (Za ZC G) ZG 0 91 [(1,(.pv (.sl 2 false (List.map enc vs)))),(6,(.row 0 1 0 1)),(7,(.pv (.bool bd))),(23,(.pv (.sl 2 false (List.map enc p)))),(24,(.pv (.int .i64 (↑(List.length p):Int)))),(25,(.pv (.int .i64 (IntKind.wrap IntKind.i64 (i+1)))))] [(.obj (.row false 34 1 [(.sl 1 false (List.drop 0 (List.take r (List.map enc l))))]))]))):At ZQ 0 (Za ZC G) ZG 1 91 [(6,.pv (.sl 0 true [])),(1,.pv (enc vs)),(7,.pv (.bool bd)),(23,.pv (enc p)),(24,.pv (.int .i64 p.length)),(25,.pv (.int .i64 i)),(33,.pv (enc ns)),(34,.pv (.int .i64 ns.length)),(35,.pv (.int .i64 j)),(10,.row 0 r 0 r)] [.obj (.row false 3 1 (l.map enc))]:=At.tp (.lit (.ask (.req (.abs (Str) (fun YY=>AV.pv (PV.rptr (PV.cells ((enc) YY)))) (.lit (.req (.keep (.lit (.ask (.nil) (.req (.abs (Coef) (fun YY=>AV.pv (PV.rptr (PV.cells ((enc) YY)))) (.lit (.ask (.lit (.lit (.lit (.lit (.lit (.lit (.lit (.req (.lit (.nil)))))))))) (.lit (.lit (.lit (.ask (.lit (.lit (.lit (.lit (.req (.lit (.nil))))))) (.lit (.lit (.lit (.lit (.lit (.req (.lit (.nil))))))))))))))))))))))) (.req (.lit (.lit (.lit (.lit (.lit (.lit (.nil)))))))))) h (by kernel_rfl)
theorem Rl{G:PV->Prop}(p:List Mono)(vs:List Coef)(bd:Bool)(i j:Int)(ns:List Str)(r:Nat)(l:List Int)(q:Nat)(fs:List (List Int))(h:if (decide (j<(↑(List.length ns):Int)))=true then(decide (0<=j)&&decide (Int.toNat j<List.length (List.map enc ns))&&Enc.sz Str==1)=true∧(∃ y0:Str,AV.pv (PV.rptr (PV.cells (List.getD (List.map enc ns) (Int.toNat j) default)))=AV.pv (PV.rptr (PV.cells ((enc) y0)))∧((VW 188 [(.pv (.sl 2 false (List.map enc vs))),(.fn 188 [] [(.ptr 0 0)])] [(.box [(.pv (.str (PV.asStr (List.getD (PV.cells (enc y0)) 0 default))))])])=true∧(if (decide (Zy (fun(t:Coef)=>Str.s t.v==PV.asStr (List.getD (PV.cells (enc y0)) 0 default)) (Kl (enc vs))<0))=true then G ((.tup [(.int .i64 0),(.int .i64 7)]))else((decide (0<=Zy (fun(t:Coef)=>Str.s t.v==PV.asStr (List.getD (PV.cells (enc y0)) 0 default)) (Kl (enc vs)))&&decide (Int.toNat (Zy (fun(t:Coef)=>Str.s t.v==PV.asStr (List.getD (PV.cells (enc y0)) 0 default)) (Kl (enc vs)))<List.length (List.map enc vs))&&Enc.sz Coef==2)=true∧(∃ y1:Coef,AV.pv (PV.rptr (PV.cells (List.getD (List.map enc vs) (Int.toNat (Zy (fun(t:Coef)=>Str.s t.v==PV.asStr (List.getD (PV.cells (enc y0)) 0 default)) (Kl (enc vs)))) default)))=AV.pv (PV.rptr (PV.cells ((enc) y1)))∧(if (bd)=true then(List.length (List.map enc l)==r&&r==r&&decide ((r+List.length (List.drop 0 (List.take 1 [Sh.co (Sh.int .i64) (List.getD (List.drop 1 (PV.cells (enc y1))) 0 default)])))*8<=1099511627776)&&decide (r+List.length (List.drop 0 (List.take 1 [Sh.co (Sh.int .i64) (List.getD (List.drop 1 (PV.cells (enc y1))) 0 default)]))<=1099511627776))=true∧(At ZQ 0 (Za ZC G) ZG 1 91 [(1,(.pv (.sl 2 false (List.map enc vs)))),(6,(.row 0 q 0 q)),(7,(.pv (.bool true))),(10,(.row 1 (r+List.length (List.drop 0 (List.take 1 [Sh.co (Sh.int .i64) (List.getD (List.drop 1 (PV.cells (enc y1))) 0 default)]))) 0 (r+List.length (List.drop 0 (List.take 1 [Sh.co (Sh.int .i64) (List.getD (List.drop 1 (PV.cells (enc y1))) 0 default)]))))),(23,(.pv (.sl 2 false (List.map enc p)))),(24,(.pv (.int .i64 (↑(List.length p):Int)))),(25,(.pv (.int .i64 i))),(33,(.pv (.sl 1 false (List.map enc ns)))),(34,(.pv (.int .i64 (↑(List.length ns):Int)))),(35,(.pv (.int .i64 (IntKind.wrap IntKind.i64 (j+1)))))] [(.obj (.row false 34 1 (List.map enc fs))),(.obj (.row false 3 1 (List.map enc l++List.drop 0 (List.take 1 [Sh.co (Sh.int .i64) (List.getD (List.drop 1 (PV.cells (enc y1))) 0 default)]))))])else(if (decide (PV.asInt (List.getD (List.drop 1 (PV.cells (enc y1))) 0 default)<(-4611686018427387904:Int)))=true then(List.length (List.map enc l)==r&&r==r&&decide ((r+List.length (List.drop 0 (List.take 1 [Sh.co (Sh.int .i64) (List.getD (List.drop 1 (PV.cells (enc y1))) 0 default)])))*8<=1099511627776)&&decide (r+List.length (List.drop 0 (List.take 1 [Sh.co (Sh.int .i64) (List.getD (List.drop 1 (PV.cells (enc y1))) 0 default)]))<=1099511627776))=true∧(At ZQ 0 (Za ZC G) ZG 1 91 [(1,(.pv (.sl 2 false (List.map enc vs)))),(6,(.row 0 q 0 q)),(7,(.pv (.bool true))),(10,(.row 1 (r+List.length (List.drop 0 (List.take 1 [Sh.co (Sh.int .i64) (List.getD (List.drop 1 (PV.cells (enc y1))) 0 default)]))) 0 (r+List.length (List.drop 0 (List.take 1 [Sh.co (Sh.int .i64) (List.getD (List.drop 1 (PV.cells (enc y1))) 0 default)]))))),(23,(.pv (.sl 2 false (List.map enc p)))),(24,(.pv (.int .i64 (↑(List.length p):Int)))),(25,(.pv (.int .i64 i))),(33,(.pv (.sl 1 false (List.map enc ns)))),(34,(.pv (.int .i64 (↑(List.length ns):Int)))),(35,(.pv (.int .i64 (IntKind.wrap IntKind.i64 (j+1)))))] [(.obj (.row false 34 1 (List.map enc fs))),(.obj (.row false 3 1 (List.map enc l++List.drop 0 (List.take 1 [Sh.co (Sh.int .i64) (List.getD (List.drop 1 (PV.cells (enc y1))) 0 default)]))))])else((List.length (List.map enc l)==r&&r==r&&decide ((r+List.length (List.drop 0 (List.take 1 [Sh.co (Sh.int .i64) (List.getD (List.drop 1 (PV.cells (enc y1))) 0 default)])))*8<=1099511627776)&&decide (r+List.length (List.drop 0 (List.take 1 [Sh.co (Sh.int .i64) (List.getD (List.drop 1 (PV.cells (enc y1))) 0 default)]))<=1099511627776))=true∧(At ZQ 0 (Za ZC G) ZG 1 91 [(1,(.pv (.sl 2 false (List.map enc vs)))),(6,(.row 0 q 0 q)),(7,(.pv (.bool (decide (PV.asInt (List.getD (List.drop 1 (PV.cells (enc y1))) 0 default)>4611686018427387904))))),(10,(.row 1 (r+List.length (List.drop 0 (List.take 1 [Sh.co (Sh.int .i64) (List.getD (List.drop 1 (PV.cells (enc y1))) 0 default)]))) 0 (r+List.length (List.drop 0 (List.take 1 [Sh.co (Sh.int .i64) (List.getD (List.drop 1 (PV.cells (enc y1))) 0 default)]))))),(23,(.pv (.sl 2 false (List.map enc p)))),(24,(.pv (.int .i64 (↑(List.length p):Int)))),(25,(.pv (.int .i64 i))),(33,(.pv (.sl 1 false (List.map enc ns)))),(34,(.pv (.int .i64 (↑(List.length ns):Int)))),(35,(.pv (.int .i64 (IntKind.wrap IntKind.i64 (j+1)))))] [(.obj (.row false 34 1 (List.map enc fs))),(.obj (.row false 3 1 (List.map enc l++List.drop 0 (List.take 1 [Sh.co (Sh.int .i64) (List.getD (List.drop 1 (PV.cells (enc y1))) 0 default)]))))])))))))))else((List.length (List.map enc l)==r)=true∧((List.length (List.map enc fs)==q&&q==q&&decide ((q+List.length (List.drop 0 (List.take 1 [PV.sl 1 false (List.drop 0 (List.take r (List.map enc l)))])))*24<=1099511627776)&&decide (q+List.length (List.drop 0 (List.take 1 [PV.sl 1 false (List.drop 0 (List.take r (List.map enc l)))]))<=1099511627776))=true∧(At ZQ 0 (Za ZC G) ZG 0 91 [(1,(.pv (.sl 2 false (List.map enc vs)))),(6,(.row 0 (q+List.length (List.drop 0 (List.take 1 [PV.sl 1 false (List.drop 0 (List.take r (List.map enc l)))]))) 0 (q+List.length (List.drop 0 (List.take 1 [PV.sl 1 false (List.drop 0 (List.take r (List.map enc l)))]))))),(7,(.pv (.bool bd))),(23,(.pv (.sl 2 false (List.map enc p)))),(24,(.pv (.int .i64 (↑(List.length p):Int)))),(25,(.pv (.int .i64 (IntKind.wrap IntKind.i64 (i+1)))))] [(.obj (.row false 34 1 (List.map enc fs++List.drop 0 (List.take 1 [PV.sl 1 false (List.drop 0 (List.take r (List.map enc l)))]))))])))):At ZQ 0 (Za ZC G) ZG 1 91 [(6,.row 0 q 0 q),(1,.pv (enc vs)),(7,.pv (.bool bd)),(23,.pv (enc p)),(24,.pv (.int .i64 p.length)),(25,.pv (.int .i64 i)),(33,.pv (enc ns)),(34,.pv (.int .i64 ns.length)),(35,.pv (.int .i64 j)),(10,.row 1 r 0 r)] [.obj (.row false 34 1 (fs.map enc)),.obj (.row false 3 1 (l.map enc))]:=At.tp (.lit (.ask (.req (.abs (Str) (fun YY=>AV.pv (PV.rptr (PV.cells ((enc) YY)))) (.lit (.req (.keep (.lit (.ask (.nil) (.req (.abs (Coef) (fun YY=>AV.pv (PV.rptr (PV.cells ((enc) YY)))) (.lit (.ask (.lit (.lit (.lit (.lit (.lit (.lit (.lit (.req (.lit (.nil)))))))))) (.lit (.lit (.lit (.ask (.lit (.lit (.lit (.lit (.req (.lit (.nil))))))) (.lit (.lit (.lit (.lit (.lit (.req (.lit (.nil))))))))))))))))))))))) (.req (.lit (.lit (.req (.lit (.nil)))))))) h (by kernel_rfl)
theorem a4c{G:PV->Prop}(p:List Mono)(vs:List Coef)(i:Int)(q:Nat)(fs:List (List Int))(h:if (decide (i<(↑q:Int)))=true then(decide (0<=i)&&decide (0+Int.toNat i<q)&&List.length (List.map enc fs)==q)=true∧((List.length (List.map enc fs)==q&&decide (0+Int.toNat i<List.length (List.map enc fs)))=true∧((decide (0+List.length [Sh.sl 1]<=List.length (PV.cells (List.getD (List.map enc fs) (0+Int.toNat i) default)))&&WA (PV.cells (List.getD (List.map enc fs) (0+Int.toNat i) default)) 0 [Sh.sl 1])=true∧((Go.Pl.preT (fun(x:List Int×Unit)=>Zx x.1) [(.sl 1 (PV.asT (List.getD (PV.cells (List.getD (List.map enc fs) (0+Int.toNat i) default)) 0 default)) (PV.asXs (List.getD (PV.cells (List.getD (List.map enc fs) (0+Int.toNat i) default)) 0 default)))])=true∧(∃ y0:Int×Int,AV.pv (Zf (fun(x:List Int×Unit)=>Y3 x.1) [(.sl 1 (PV.asT (List.getD (PV.cells (List.getD (List.map enc fs) (0+Int.toNat i) default)) 0 default)) (PV.asXs (List.getD (PV.cells (List.getD (List.map enc fs) (0+Int.toNat i) default)) 0 default)))])=AV.pv (enc y0)∧(if (y0.2 != 0)=true then G ((.tup [(.int .i64 0),(.int .i64 2)]))else(At ZQ 0 (Za ZC G) ZG 2 91 [(15,(.row 0 1 0 1)),(69,(.row 1 q 0 q)),(70,(.pv (.int .i64 (↑q:Int)))),(71,(.pv (.int .i64 (IntKind.wrap IntKind.i64 (i+1)))))] [(.obj (.row false 3 1 [(.int .i64 y0.1)])),(.obj (.row false 34 1 (List.map enc fs)))]))))))else(∃ y1:Int×Int,AV.pv (Zf (fun(x:List Int×Unit)=>VB x.1) [(.sl 0 true [])])=AV.pv (enc y1)∧(G ((.tup [(.int .i64 y1.1),(.int .i64 y1.2)]))))):At ZQ 0 (Za ZC G) ZG 2 91 [(15,.pv (.sl 0 true [])),(69,.row 0 q 0 q),(70,.pv (.int .i64 q)),(71,.pv (.int .i64 i))] [.obj (.row false 34 1 (fs.map enc))]:=At.tp (.lit (.ask (.req (.keep (.req (.req (.req (.abs (Int×Int) (fun YY=>AV.pv (enc YY)) (.lit (.ask (.nil) (.lit (.lit (.lit (.lit (.lit (.lit (.nil))))))))))))))) (.lit (.abs (Int×Int) (fun YY=>AV.pv (enc YY)) (.nil))))) h (by kernel_rfl)
theorem Tt{G:PV->Prop}(p:List Mono)(vs:List Coef)(i:Int)(q:Nat)(fs:List (List Int))(r:Nat)(ps:List Int)(h:if (decide (i<(↑q:Int)))=true then(decide (0<=i)&&decide (0+Int.toNat i<q)&&List.length (List.map enc fs)==q)=true∧((List.length (List.map enc fs)==q&&decide (0+Int.toNat i<List.length (List.map enc fs)))=true∧((decide (0+List.length [Sh.sl 1]<=List.length (PV.cells (List.getD (List.map enc fs) (0+Int.toNat i) default)))&&WA (PV.cells (List.getD (List.map enc fs) (0+Int.toNat i) default)) 0 [Sh.sl 1])=true∧((Go.Pl.preT (fun(x:List Int×Unit)=>Zx x.1) [(.sl 1 (PV.asT (List.getD (PV.cells (List.getD (List.map enc fs) (0+Int.toNat i) default)) 0 default)) (PV.asXs (List.getD (PV.cells (List.getD (List.map enc fs) (0+Int.toNat i) default)) 0 default)))])=true∧(∃ y0:Int×Int,AV.pv (Zf (fun(x:List Int×Unit)=>Y3 x.1) [(.sl 1 (PV.asT (List.getD (PV.cells (List.getD (List.map enc fs) (0+Int.toNat i) default)) 0 default)) (PV.asXs (List.getD (PV.cells (List.getD (List.map enc fs) (0+Int.toNat i) default)) 0 default)))])=AV.pv (enc y0)∧(if (y0.2 != 0)=true then G ((.tup [(.int .i64 0),(.int .i64 2)]))else((List.length (List.map enc ps)==r&&r==r&&decide ((r+List.length (List.drop 0 (List.take 1 [enc y0.1])))*8<=1099511627776)&&decide (r+List.length (List.drop 0 (List.take 1 [enc y0.1]))<=1099511627776))=true∧(At ZQ 0 (Za ZC G) ZG 2 91 [(15,(.row 0 (r+List.length (List.drop 0 (List.take 1 [enc y0.1]))) 0 (r+List.length (List.drop 0 (List.take 1 [enc y0.1]))))),(69,(.row 1 q 0 q)),(70,(.pv (.int .i64 (↑q:Int)))),(71,(.pv (.int .i64 (IntKind.wrap IntKind.i64 (i+1)))))] [(.obj (.row false 3 1 (List.map enc ps++List.drop 0 (List.take 1 [enc y0.1])))),(.obj (.row false 34 1 (List.map enc fs)))])))))))else((List.length (List.map enc ps)==r)=true∧((Go.Pl.preT (fun(x:List Int×Unit)=>decide (List.length x.1<=10000)) [(.sl 1 false (List.drop 0 (List.take r (List.map enc ps))))])=true∧(∃ y1:Int×Int,AV.pv (Zf (fun(x:List Int×Unit)=>VB x.1) [(.sl 1 false (List.drop 0 (List.take r (List.map enc ps))))])=AV.pv (enc y1)∧(G ((.tup [(.int .i64 y1.1),(.int .i64 y1.2)]))))))):At ZQ 0 (Za ZC G) ZG 2 91 [(15,.row 0 r 0 r),(69,.row 1 q 0 q),(70,.pv (.int .i64 q)),(71,.pv (.int .i64 i))] [.obj (.row false 3 1 (ps.map enc)),.obj (.row false 34 1 (fs.map enc))]:=At.tp (.lit (.ask (.req (.keep (.req (.req (.req (.abs (Int×Int) (fun YY=>AV.pv (enc YY)) (.lit (.ask (.nil) (.lit (.lit (.req (.lit (.nil))))))))))))) (.req (.req (.abs (Int×Int) (fun YY=>AV.pv (enc YY)) (.nil)))))) h (by kernel_rfl)
theorem a2q{G:PV->Prop}(p:List Mono)(vs:List Coef)(h : ∃ y0:Int×Int,AV.pv (Zf (fun(x:List Int×Unit)=>VB x.1) [(.sl 0 true [])])=AV.pv (enc y0)∧(G ((.tup [(.int .i64 y0.1),(.int .i64 y0.2)])))):At ZQ 0 (Za ZC G) ZG 2 91 [(15,.pv (.sl 0 true [])),(69,.pv (.sl 0 true [])),(70,.pv (.int .i64 0)),(71,.pv (.int .i64 0))] []:=At.tp (.lit (.lit (.lit (.abs (Int×Int) (fun YY=>AV.pv (enc YY)) (.nil))))) h (by kernel_rfl)
def Cf:IC:=(.reg [⟨(some 4),(.load false [(.sl 1)] (.t 1)),0,none⟩,⟨(some 5),(.mv (.t 0)),0,none⟩,⟨(some 6),(.bin .num .shr (.t 5) (.c (.int .u64 31))),0,none⟩,⟨(some 7),(.bslice 3 1 1 (.int .i64 0) [(0,(.t 6))]),0,none⟩,⟨(some 8),(.append 3 1 8 (.t 4) (.t 7)),1,none⟩,⟨(some 9),(.load false [(.sl 1)] (.t 2)),2,none⟩,⟨(some 10),(.mv (.t 0)),2,none⟩,⟨(some 11),(.bin .num .and (.t 10) (.c (.int .i64 2147483647))),2,none⟩,⟨(some 12),(.bslice 3 1 1 (.int .i64 0) [(0,(.t 11))]),2,none⟩,⟨(some 13),(.append 3 1 8 (.t 9) (.t 12)),3,none⟩,⟨none,(.store 1 (.t 1) (.t 8)),4,none⟩,⟨none,(.store 1 (.t 2) (.t 13)),4,none⟩] (some [[],[],[1],[2,1],[0,3,2,1],[],[],[6],[7,6],[5,8,4,7,6,0,3,2,1],[4,9,0,1,2,3,5,8,7,6],[9,10,0,1,2,3,4,5,6,7,8]]))
def Cx:List IRes:=[]
abbrev b7z:Nat:=14
def PT:ZE:=Xg []
theorem c4m{G:AV×List AObj×List AObj->Prop}(n:Int)(h:G (((.tup []),([(.box [(.row 2 1 0 1)]),(.box [(.row 3 1 0 1)])],[(.row false 3 1 [(.int .i64 (Int.fdiv n (2 ^ min (Int.toNat 31) (IntKind.bits IntKind.i64))))]),(.row false 3 1 [(.int .i64 (IntKind.wrap IntKind.i64 (↑(BitVec.toNat (BitVec.ofInt (IntKind.bits IntKind.i64) n &&& BitVec.ofInt (IntKind.bits IntKind.i64) 2147483647)):Int)))])])))):Zc PT 2 (Zk 2 Cx G) Cf [] (YD 14 [.pv (.int .i64 n),.ptr 0 0,.ptr 1 0] [.box [.pv (.sl 0 true [])],.box [.pv (.sl 0 true [])]]):=Zc.to (.lit (.lit (.lit (.lit (.lit (.lit (.lit (.lit (.lit (.lit (.lit (.lit (.nil))))))))))))) h (by kernel_rfl)
theorem c2q{G:AV×List AObj×List AObj->Prop}(n:Int)(q:Nat)(xs ys:List PV)(h:(List.length xs==q&&q==q&&decide ((q+List.length (List.drop 0 (List.take 1 [PV.int .i64 (Int.fdiv n (2 ^ min (Int.toNat 31) (IntKind.bits IntKind.i64)))])))*8<=1099511627776)&&decide (q+List.length (List.drop 0 (List.take 1 [PV.int .i64 (Int.fdiv n (2 ^ min (Int.toNat 31) (IntKind.bits IntKind.i64)))]))<=1099511627776))=true∧((List.length ys==q&&q==q&&decide ((q+List.length (List.drop 0 (List.take 1 [PV.int .i64 (IntKind.wrap IntKind.i64 (↑(BitVec.toNat (BitVec.ofInt (IntKind.bits IntKind.i64) n &&& BitVec.ofInt (IntKind.bits IntKind.i64) 2147483647)):Int))])))*8<=1099511627776)&&decide (q+List.length (List.drop 0 (List.take 1 [PV.int .i64 (IntKind.wrap IntKind.i64 (↑(BitVec.toNat (BitVec.ofInt (IntKind.bits IntKind.i64) n &&& BitVec.ofInt (IntKind.bits IntKind.i64) 2147483647)):Int))]))<=1099511627776))=true∧(G (((.tup []),([(.box [(.row 2 (q+List.length (List.drop 0 (List.take 1 [PV.int .i64 (Int.fdiv n (2 ^ min (Int.toNat 31) (IntKind.bits IntKind.i64)))]))) 0 (q+List.length (List.drop 0 (List.take 1 [PV.int .i64 (Int.fdiv n (2 ^ min (Int.toNat 31) (IntKind.bits IntKind.i64)))]))))]),(.box [(.row 3 (q+List.length (List.drop 0 (List.take 1 [PV.int .i64 (IntKind.wrap IntKind.i64 (↑(BitVec.toNat (BitVec.ofInt (IntKind.bits IntKind.i64) n &&& BitVec.ofInt (IntKind.bits IntKind.i64) 2147483647)):Int))]))) 0 (q+List.length (List.drop 0 (List.take 1 [PV.int .i64 (IntKind.wrap IntKind.i64 (↑(BitVec.toNat (BitVec.ofInt (IntKind.bits IntKind.i64) n &&& BitVec.ofInt (IntKind.bits IntKind.i64) 2147483647)):Int))]))))]),(.row false 3 1 (xs++List.drop 0 (List.take 1 [PV.int .i64 (Int.fdiv n (2 ^ min (Int.toNat 31) (IntKind.bits IntKind.i64)))]))),(.row false 3 1 (ys++List.drop 0 (List.take 1 [PV.int .i64 (IntKind.wrap IntKind.i64 (↑(BitVec.toNat (BitVec.ofInt (IntKind.bits IntKind.i64) n &&& BitVec.ofInt (IntKind.bits IntKind.i64) 2147483647)):Int))])))],[])))))):Zc PT 4 (Zk 4 Cx G) Cf [] (YD 14 [.pv (.int .i64 n),.ptr 0 0,.ptr 1 0] [.box [.row 2 q 0 q],.box [.row 3 q 0 q],.row false 3 1 xs,.row false 3 1 ys]):=Zc.to (.lit (.lit (.lit (.req (.lit (.lit (.lit (.req (.nil))))))))) h (by kernel_rfl)
end Go.Pl

namespace Go.Pl
open Go.RowKit
open Enc (enc dec is)
open EncL (encL decL isL)
def U0(p:List Mono)(i:Nat):List Str:=(p.take i).flatMap (·.v)
theorem MJ(p:List Mono){i:Nat}(h:i<p.length):U0 p (i+1)=U0 p i++p[i].v:=by
 unfold U0
 rw[List.take_succ_eq_append_getElem h,List.flatMap_append]
 simp
theorem PS(p:List Mono)(hp : ∀ m∈p,m.v.length<=8): ∀ i,i<=p.length->(U0 p i).length<=8*i:=by
 intro i
 induction i with
 | zero=>intro _;simp[U0]
 | succ i ih=>
  intro hi
  have:=ih (by omega)
  rw[MJ p (by omega),List.length_append]
  have:=hp _ (List.getElem_mem (show i<p.length by omega))
  omega
theorem Hr{p:List Mono}(h:Z9 p=true):p.length<=60∧ ∀ m∈p,m.v.length<=8:=by
 unfold Z9 at h
 simp only[Bool.and_eq_true,decide_eq_true_eq]at h
 refine⟨h.1.1,fun m hm=> ?_⟩
 have:=List.all_eq_true.1 h.1.2 m hm
 unfold WX at this
 simp only[Bool.and_eq_true,decide_eq_true_eq]at this
 exact this.1.1.2
theorem a8s(l:List Str):List.map UH (List.map (enc:Str->PV) l)=l.map (·.s):=by
 rw[List.map_map];rfl
theorem c0c(l:List (List UInt8)):List.map UH (List.map PV.str l)=l:=by
 rw[List.map_map];exact(List.map_congr_left (fun _ _=>rfl)).trans (List.map_id _)
theorem Nr(l:List (List UInt8)):(Wt l).length=l.length:=(List.mergeSort_perm l _).length_eq
def pvW(p:List Mono):AV×List AObj×List AObj:=if (XA p).isEmpty then(.pv (.sl 0 true []),[],[])else Na [.pv (enc p)] []
theorem O0(p:List Mono)(hp:Z9 p=true): ∀ (k i:Nat),k+i=p.length ->
  if (U0 p i).isEmpty then At XU 0 (Zk 0 Xf fun r=>r=pvW p) Xa 0 24 [(3,.pv (.sl 0 true [])),(9,.pv (enc p)),(10,.pv (.int .i64 p.length)),(11,.pv (.int .i64 i))] []
  else At XU 0 (Zk 0 Xf fun r=>r=pvW p) Xa 0 24 [(3,.row 0 (U0 p i).length 0 (U0 p i).length),(9,.pv (enc p)),(10,.pv (.int .i64 p.length)),(11,.pv (.int .i64 i))] [.obj (.row false 9 1 ((U0 p i).map enc))]:=by
 obtain⟨hl,hm⟩:=Hr hp
 intro k
 induction k with
 | zero=>
  intro i hi
  obtain rfl:i=p.length:=by omega
  have e:U0 p p.length=XA p:=by unfold U0 XA;rw[List.take_length]
  rw[e]
  cases hc:(XA p).isEmpty
  ·rw[if_neg (by simp)]
   have hlen:(XA p).length<=480:=by have:=PS p hm p.length (Nat.le_refl _);rw[e]at this;omega
   refine Ti p p.length _ (XA p) (Z0 (Yd (by omega)) ⟨?_,?_,?_⟩)
   ·show((XA p).length==((XA p).map (enc:Str->PV)).length&&(XA p).length==(XA p).length&&((XA p).map (enc:Str->PV)).all JA&&decide ((XA p).length<4611686018427387904))=true
    have:((XA p).map (enc:Str->PV)).all JA=true:=by rw[List.all_map];exact List.all_eq_true.2 fun _ _=>rfl
    rw[this,List.length_map,decide_eq_true (by omega)];simp
   ·rw[a8s]
    show((XA p).length==((Wt ((XA p).map (·.s))).map PV.str).length&&(XA p).length==(XA p).length&&((Wt ((XA p).map (·.s))).map PV.str).all JA&&decide ((XA p).length<4611686018427387904))=true
    have:((Wt ((XA p).map (·.s))).map PV.str).all JA=true:=by rw[List.all_map];exact List.all_eq_true.2 fun _ _=>rfl
    rw[this,List.length_map,Nr,List.length_map,decide_eq_true (by omega)];simp
   ·rw[a8s,c0c]
    unfold pvW
    rw[hc,if_neg (by simp)]
    show _=(AV.row 0 (Y8 (dec (enc p:PV))).length 0 (Lib.compact (Y8 (dec (enc p:PV)))).length,[],[AObj.row false 9 1 ((Vw (Y8 (dec (enc p:PV)))).map .str)])
    rw[Enc.dec_enc]
    have:(Y8 p).length=(XA p).length:=by unfold Y8;rw[Nr,List.length_map]
    rw[this]
    rfl
  ·rw[if_pos rfl]
   refine Tz p p.length (Z0 (Yd (by omega)) ?_)
   unfold pvW
   rw[hc,if_pos rfl]
 | succ k ih=>
  intro i hi
  have hlt:i<p.length:=by omega
  have h1:=ih (i+1) (by omega)
  have hmi:=hm _ (List.getElem_mem hlt)
  have hoi:=PS p hm i (by omega)
  rw[MJ p hlt]at h1
  cases hc:(U0 p i).isEmpty
  ·rw[if_neg (by simp)]
   have hc2:(U0 p i++p[i].v).isEmpty=false:=by
    rw[List.isEmpty_eq_false_iff]at hc ⊢
    simp[hc]
   rw[hc2,if_neg (by simp)]at h1
   refine Ti p i _ (U0 p i) (ZV (Ya hlt) ⟨ZB hlt rfl,ZY hlt ⟨by simp,?_,?_⟩⟩)
   ·show(((U0 p i).map (enc:Str->PV)).length==(U0 p i).length&&(U0 p i).length==(U0 p i).length&&decide (((U0 p i).length+(p[i].v.map (enc:Str->PV)).length)*16<=1099511627776)&&decide ((U0 p i).length+(p[i].v.map (enc:Str->PV)).length<=1099511627776))=true
    rw[List.length_map,List.length_map,decide_eq_true (by omega),decide_eq_true (by omega)];simp
   ·rw[next (by omega)]
    rw[List.length_append,List.map_append]at h1
    have e:(PV.asXs (List.getD (PV.cells (enc p[i])) (0+1) default)).length=p[i].v.length:=by
     show(p[i].v.map (enc:Str->PV)).length=_
     rw[List.length_map]
    rw[e]
    exact h1
  ·rw[if_pos rfl]
   have hnil:U0 p i=[]:=List.isEmpty_iff.1 hc
   rw[hnil,List.nil_append]at h1
   refine Tz p i (ZV (Ya hlt) ⟨ZB hlt rfl,ZY hlt ⟨by simp,?_⟩⟩)
   show if (p[i].v.map (enc:Str->PV)).isEmpty=true then _ else _
   rw[List.isEmpty_map]
   cases hv:p[i].v.isEmpty
   ·rw[hv,if_neg (by simp)]at h1
    refine Z0 (by simp) ⟨?_,?_⟩
    ·show((List.isEmpty ([]:List PV)||0==1)&&decide ((List.length ([]:List PV)+(p[i].v.map (enc:Str->PV)).length)*16<=1099511627776)&&decide (List.length ([]:List PV)+(p[i].v.map (enc:Str->PV)).length<=1099511627776))=true
     rw[List.length_map,decide_eq_true (by simp;omega),decide_eq_true (by simp;omega)];rfl
    ·rw[next (by omega)]
     have e:List.length ([]:List PV)+(PV.asXs (List.getD (PV.cells (enc p[i])) (0+1) default)).length=p[i].v.length:=by
      show 0+(p[i].v.map (enc:Str->PV)).length=_
      rw[List.length_map,Nat.zero_add]
     rw[e]
     exact h1
   ·rw[hv,if_pos rfl]at h1
    refine ZV rfl ?_
    rw[next (by omega)]
    exact h1
theorem TJ(p:List Mono)(hs:Yg p=true)(hp:Z9 p=true):Zc XU 0 (Zk 0 Xf fun r=>r=pvW p) Xa [] (YD AB [.pv (enc p)] []):=by
 refine a1h p ⟨Zl (p,()) rfl hs,Zj (p,()) rfl (Z0 (by simp[hp]) ?_)⟩
 rw[List.length_map]
 have:=O0 p hp p.length 0 (by omega)
 rw[show(U0 p 0).isEmpty=true from rfl,if_pos rfl]at this
 exact this
theorem OX: ∀ args os,U8 args os=true->Zc XU os.length (Zk os.length Xf fun r=>r=Na args os) Xa [] (YD AB args os):=by
 intro args os h
 unfold U8 at h
 split at h
 ·rename_i a
  simp only[Bool.and_eq_true,Bool.not_eq_true']at h
  obtain⟨⟨⟨h1,h2⟩,h3⟩,h4⟩:=h
  obtain⟨p,rfl⟩:=Ym h1
  rw[Enc.dec_enc]at h2 h3 h4
  have:=TJ p h2 h3
  unfold pvW at this
  rw[h4,if_neg (by simp)]at this
  exact this
 ·cases h
theorem O6: ∀ args os,K7 args os=true->Zc XU os.length (Zk os.length Xf fun r=>r=CG args os) Xa [] (YD AB args os):=by
 intro args os h
 unfold K7 at h
 split at h
 ·rename_i a
  simp only[Bool.and_eq_true]at h
  obtain⟨⟨h1,h2⟩,h3⟩:=h
  obtain⟨p,rfl⟩:=Ym h1
  rw[Enc.dec_enc]at h2 h3
  cases hv:Z9 p
  ·exact a1h p ⟨Zl (p,()) rfl h2,Zj (p,()) rfl (ZV (by simp[hv]) rfl)⟩
  ·rw[hv]at h3
   have h3:(XA p).isEmpty=true:=by simpa using h3
   have:=TJ p h2 hv
   unfold pvW at this
   rw[h3,if_pos rfl]at this
   exact this
 ·cases h
theorem b9m: ∀ args os,Gt args os=true->Zc a8x os.length (Zk os.length FB fun r=>r=Cz args os) Ox [] (YD c3p args os):=by
 intro args os h
 unfold Gt at h
 split at h
 ·rename_i x v
  obtain⟨x,rfl⟩:=Ym h
  refine c7n x v ?_
  simp only[Cz,Enc.dec_enc]
 ·cases h
theorem a7l(l:List Coef)(v:List UInt8)(hl:l.length<=9223372036854775807)(R:AV×List AObj×List AObj)(hR:R=(.pv (.int .i64 (Zy (fun t:Coef=>t.v.s==v) l)),[.box [.pv (.str v)]],[])): ∀ (m i:Nat),m+i=l.length->(∀ j (h:j<l.length),j<i->(l[j].v.s==v)=false) ->
  At Bh 1 (Zk 1 Jr fun r=>r=R) J6 0 19 [(0,.pv (enc l)),(1,.fn 188 [] [.ptr 0 0]),(7,.pv (.int .i64 l.length)),(8,.pv (.int .i64 i))] [.obj (.box [.pv (.str v)])]:=by
 intro m
 induction m with
 | zero=>
  intro i hi hno
  refine a8f l v i (Z0 (Yd (by omega)) ?_)
  rw[hR,U5 _ _ (fun j hj=>hno j hj (by omega))]
 | succ m ih=>
  intro i hi hno
  have hlt:i<l.length:=by omega
  have ed:(dec (PV.agg (QB (PV.cells (enc l[i])) 0 [Sh.str,Sh.int .i64])):Coef)=l[i]:=Enc.dec_enc l[i]
  refine a8f l v i (ZV (Ya hlt) ⟨ZB hlt rfl,ZY hlt ⟨ZI l[i],?_⟩⟩)
  rw[ed]
  refine Xj (fun hb=> ?_) fun hb=> ?_
  ·rw[hR,Qc (fun t:Coef=>t.v.s==v) l i hlt hno hb]
  ·rw[next (by omega)]
   refine ih (i+1) (by omega) fun j hj hji=> ?_
   by_cases e:j=i
   ·subst e;exact hb
   ·exact hno j hj (by omega)
theorem c0q: ∀ args os,VW 188 args os=true->Zc Bh os.length (Zk os.length Jr fun r=>r=Ch args os) J6 [] (YD c5w args os):=by
 intro args os h
 unfold VW at h
 split at h
 ·rename_i l g v
  simp only[Bool.and_eq_true,beq_iff_eq,decide_eq_true_eq]at h
  obtain⟨⟨rfl,h1⟩,h2⟩:=h
  obtain⟨l,rfl⟩:=Ym h1
  rw[Enc.dec_enc]at h2
  refine c8a l v ?_
  rw[List.length_map]
  exact a7l l v h2 _ (by simp only[Ch,Kl,Enc.dec_enc]) l.length 0 (by omega) (fun j hj h=>by omega)
 ·cases h
theorem a2z(l:List Int)(n:Int)(hl:l.length<=9223372036854775807): ∀ (m i:Nat),m+i=l.length->(∀ j (h:j<l.length),j<i->decide (n=l[j])=false) ->
  At Jz 0 (Za Kg (Zm (Zy (fun x:Int=>decide (n=x)) l))) Kb 0 19 [(0,.pv (enc l)),(1,.pv (enc n)),(7,.pv (.int .i64 l.length)),(8,.pv (.int .i64 i))] []:=by
 intro m
 induction m with
 | zero=>
  intro i hi hno
  refine a1v l n i (Z0 (Yd (by omega)) (Ka ?_))
  rw[U5 _ _ (fun j hj=>hno j hj (by omega))]
 | succ m ih=>
  intro i hi hno
  have hlt:i<l.length:=by omega
  refine a1v l n i (ZV (Ya hlt) ⟨ZB hlt rfl,ZY hlt (JZ (fun hb=> ?_) fun hb=> ?_)⟩)
  ·have hb:n=l[i]:=hb
   exact Ka (Qc (fun x:Int=>decide (n=x)) l i hlt hno (by simp[hb])).symm
  ·have hb : ¬ n=l[i]:=hb
   rw[next (by omega)]
   refine ih (i+1) (by omega) fun j hj hji=> ?_
   by_cases e:j=i
   ·subst e;simp[hb]
   ·exact hno j hj (by omega)
theorem a9u: ∀ a:List Int×Int×Unit,Zx a.1=true->Zc Jz 0 (Za Kg (Zm (Zy (fun x:Int=>decide (a.2.1=x)) a.1))) Kb [] (Yz c0z (encL a)):=by
 rintro⟨l,n,⟨⟩⟩ h
 refine c6n l n ?_
 rw[List.length_map]
 exact a2z l n (Z8.1 h) l.length 0 (by omega) (fun j hj h=>by omega)
theorem OI: ∀ a:List Int×Int×Unit,Zx a.1=true->Zc Bf 0 (Za G6 (Zm (a.1.contains a.2.1))) G5 [] (Yz a5q (encL a)):=by
 rintro⟨l,n,⟨⟩⟩ h
 refine b5f l n ⟨Zl (l,n,()) rfl h,Zj (l,n,()) rfl (ZZ ?_)⟩
 show decide (Zy (fun x:Int=>decide (n=x)) l ≥ 0)=_
 rw[XL,Bool.eq_iff_iff]
 simp[List.any_eq_true]
theorem Eu(l:List Int)(hl:l.length<=9223372036854775807): ∀ (m i:Nat) (o:Int),m+i=l.length ->
  At U4 0 (Za V5 (Zm (EL o (l.drop i)))) UI 0 29 [(4,.pv (.int .i64 o)),(11,.pv (enc l)),(12,.pv (.int .i64 l.length)),(13,.pv (.int .i64 i))] []:=by
 intro m
 induction m with
 | zero=>
  intro i o hi
  rw[List.drop_of_length_le (by omega)]
  exact MK l o i (Z0 (Yd (by omega)) (ZK (x:=(o,(0:Int))) rfl))
 | succ m ih=>
  intro i o hi
  have hlt:i<l.length:=by omega
  rw[List.drop_eq_getElem_cons hlt]
  refine MK l o i (ZV (Ya hlt) ⟨ZB hlt rfl,ZY hlt (Zj (o,l[i],()) rfl ?_)⟩)
  show if ((Ai o l[i]).2 != 0)=true then _ else _
  rw[EL]
  by_cases h:(Ai o l[i]).2=0
  ·rw[if_neg (by simp[h]),if_neg (by simp[h]),next (by omega)]
   exact ih (i+1) _ (by omega)
  ·rw[if_pos (by simp[h]),if_pos h]
   exact ZK (x:=((0:Int),(Ai o l[i]).2)) rfl
theorem a6r: ∀ a:List Int×Unit,Zx a.1=true->Zc U4 0 (Za V5 (Zm (Y3 a.1))) UI [] (Yz a9f (encL a)):=by
 rintro⟨l,⟨⟩⟩ h
 refine b6m l ⟨Zl (l,0,()) rfl h,Zj (l,0,()) rfl (Xj (fun hc=> ?_) fun hc=> ?_)⟩
 ·have hc:l.contains 0=true:=hc
  show Zm (Y3 l) _
  unfold Y3
  rw[hc,if_pos rfl]
  exact ZK (x:=((0:Int),(0:Int))) rfl
 ·have hc:l.contains 0=false:=hc
  show At U4 0 (Za V5 (Zm (Y3 l))) _ _ _ _ _
  unfold Y3
  rw[hc,if_neg (by simp),List.length_map]
  exact Eu l (Z8.1 h) l.length 0 1 (by omega)
theorem QF{α:Type}[Enc α]{l:List α}{i:Nat}(h:i<l.length):List.getD (List.map (enc:α->PV) l) (0+Int.toNat (i:Int)) default=enc l[i]:=by simp[List.getD,h]
def Qn(ps:List Int)(o:Option (List Int)):Int×Int:=match o with|none=>(0,2)|some l=>VB (ps++l)
theorem a4x(p:List Mono)(vs:List Coef)(fs:List (List Int))(hf:fs.length<=60)(hl : ∀ l∈fs,Zx l=true): ∀ (d i:Nat) (ps:List Int),d+i=fs.length->ps.length=i->1<=i ->
  At ZQ 0 (Za ZC (Zm (Qn ps (YB (fs.drop i))))) ZG 2 91 [(15,.row 0 i 0 i),(69,.row 1 fs.length 0 fs.length),(70,.pv (.int .i64 fs.length)),(71,.pv (.int .i64 i))] [.obj (.row false 3 1 (ps.map enc)),.obj (.row false 34 1 (fs.map enc))]:=by
 intro d
 induction d with
 | zero=>
  intro i ps hi hps h1
  rw[List.drop_of_length_le (by omega)]
  have hr:Qn ps (YB [])=VB ps:=by show VB (ps++[])=_;rw[List.append_nil]
  rw[hr]
  have et:List.drop 0 (List.take i (List.map (enc:Int->PV) ps))=ps.map enc:=by rw[List.drop_zero,List.take_of_length_le (by simp[hps])]
  apply Tt (G:=Zm (VB ps)) p vs i fs.length fs i ps
  refine Z0 (Yd (by omega)) ⟨by simp[hps],?_⟩
  rw[et]
  exact⟨Zl (ps,()) rfl (by simp;omega),Zj (ps,()) rfl (ZK (x:=VB ps) rfl)⟩
 | succ d ih=>
  intro i ps hi hps h1
  have hlt:i<fs.length:=by omega
  have e:=QF hlt
  rw[List.drop_eq_getElem_cons hlt,YB]
  apply Tt (G:=Zm (Qn ps (if (Y3 fs[i]).2≠0 then none else(YB (fs.drop (i+1))).map ((Y3 fs[i]).1:: ·)))) p vs i fs.length fs i ps
  apply ZV (Ya hlt)
  rw[e]
  refine⟨by simp;omega,by simp;omega,rfl,Zl (fs[i],()) rfl (hl _ (List.getElem_mem hlt)),Zj (fs[i],()) rfl ?_⟩
  show if ((Y3 fs[i]).2 != 0)=true then _ else _
  by_cases h:(Y3 fs[i]).2=0
  ·rw[if_neg (by simp[h])]
   have hr:Qn ps (if (Y3 fs[i]).2≠0 then none else(YB (fs.drop (i+1))).map ((Y3 fs[i]).1:: ·))=Qn (ps++[(Y3 fs[i]).1]) (YB (fs.drop (i+1))):=by
    rw[if_neg (by simp[h])]
    cases YB (fs.drop (i+1))with
    | none=>rfl
    | some l=>show VB (ps++_::l)=VB (ps++[_]++l);rw[List.append_assoc];rfl
   rw[hr]
   refine⟨?_,?_⟩
   ·rw[List.length_map,hps]
    show((i==i)&&(i==i)&&decide ((i+1)*8<=1099511627776)&&decide (i+1<=1099511627776))=true
    rw[decide_eq_true (by omega),decide_eq_true (by omega)];simp
   ·rw[next (by omega)]
    have:=ih (i+1) (ps++[(Y3 fs[i]).1]) (by omega) (by simp[hps]) (by omega)
    rw[List.map_append]at this
    exact this
  ·rw[if_pos (by simp[h])]
   have hr:Qn ps (if (Y3 fs[i]).2≠0 then none else(YB (fs.drop (i+1))).map ((Y3 fs[i]).1:: ·))=((0:Int),(2:Int)):=by rw[if_pos h];rfl
   rw[hr]
   exact ZK (x:=((0:Int),(2:Int))) rfl
theorem c9k(p:List Mono)(vs:List Coef)(fs:List (List Int))(hne:0<fs.length)(hf:fs.length<=60)(hl : ∀ l∈fs,Zx l=true):
  At ZQ 0 (Za ZC (Zm (Qn [] (YB fs)))) ZG 2 91 [(15,.pv (.sl 0 true [])),(69,.row 0 fs.length 0 fs.length),(70,.pv (.int .i64 fs.length)),(71,.pv (.int .i64 0))] [.obj (.row false 34 1 (fs.map enc))]:=by
 have e:=QF hne
 have hr:YB fs=if (Y3 fs[0]).2≠0 then none else(YB (fs.drop 1)).map ((Y3 fs[0]).1:: ·):=by
  cases fs with
  | nil=>simp at hne
  | cons l r=>rfl
 rw[hr]
 apply a4c (G:=Zm (Qn [] (if (Y3 fs[0]).2≠0 then none else(YB (fs.drop 1)).map ((Y3 fs[0]).1:: ·)))) p vs ((0:Nat):Int) fs.length fs
 apply ZV (Ya hne)
 rw[e]
 refine⟨by simp;omega,by simp;omega,rfl,Zl (fs[0],()) rfl (hl _ (List.getElem_mem hne)),Zj (fs[0],()) rfl ?_⟩
 show if ((Y3 fs[0]).2 != 0)=true then _ else _
 by_cases h:(Y3 fs[0]).2=0
 ·rw[if_neg (by simp[h]),if_neg (by simp[h])]
  have hr:Qn [] ((YB (fs.drop 1)).map ((Y3 fs[0]).1:: ·))=Qn [(Y3 fs[0]).1] (YB (fs.drop 1)):=by
   cases YB (fs.drop 1)with
   | none=>rfl
   | some l=>rfl
  rw[hr,next (by omega)]
  exact a4x p vs fs hf hl (fs.length - 1) 1 [(Y3 fs[0]).1] (by omega) rfl (by omega)
 ·rw[if_pos (by simp[h]),if_pos h]
  exact ZK (x:=((0:Int),(2:Int))) rfl
theorem c9h(p:List Mono)(vs:List Coef):At ZQ 0 (Za ZC (Zm (Qn [] (YB [])))) ZG 2 91 [(15,.pv (.sl 0 true [])),(69,.pv (.sl 0 true [])),(70,.pv (.int .i64 0)),(71,.pv (.int .i64 0))] []:=by
 have hr:Qn [] (YB [])=VB []:=rfl
 rw[hr]
 apply a2q (G:=Zm (VB [])) p vs
 exact OC ([],()) rfl (ZK (x:=VB []) rfl)
def Rp(vs:List Coef)(fs:List (List Int))(bd:Bool)(r:List Mono):Int×Int:=match Ea vs r with
 | none=>(0,7)
 | some gs=>if bd||Bc gs then(0,2)else Qn [] (YB (fs++gs))
def evH(vs:List Coef)(fs:List (List Int))(bd:Bool)(l:List Int)(ns:List Str)(r:List Mono):Int×Int:=match M9 vs ns with
 | none=>(0,7)
 | some xs=>Rp vs (fs++[l++xs]) (bd||xs.any fun x=> !U1 x) r
theorem MU(vs:List Coef)(fs:List (List Int))(bd:Bool)(m:Mono)(r:List Mono):Rp vs fs bd (m::r)=evH vs fs bd [m.c] m.v r:=by
 unfold Rp evH Ea
 cases M9 vs m.v with
 | none=>rfl
 | some xs=>
  show(match (Ea vs r).map ((m.c::xs):: ·)with|none=>_|some gs=>_)=Rp vs (fs++[[m.c]++xs]) _ r
  unfold Rp
  cases Ea vs r with
  | none=>rfl
  | some gs=>
   show(if bd||Bc ((m.c::xs)::gs)then _ else Qn [] (YB (fs++(m.c::xs)::gs)))=(if (bd||xs.any fun x=> !U1 x)||Bc gs then _ else Qn [] (YB (fs++[[m.c]++xs]++gs)))
   have e1:Bc ((m.c::xs)::gs)=((xs.any fun x=> !U1 x)||Bc gs):=rfl
   rw[e1,List.append_assoc,Bool.or_assoc]
   rfl
theorem Dj(vs:List Coef)(s:Str)(r:List Str):M9 vs (s::r)=match Us vs s with|none=>none|some x=>(M9 vs r).map (x:: ·):=rfl
theorem NG(vs:List Coef)(fs:List (List Int))(bd:Bool)(l:List Int)(s:Str)(ns:List Str)(r:List Mono)(x:Int)(h:Us vs s=some x):evH vs fs bd l (s::ns) r=evH vs fs (bd || !U1 x) (l++[x]) ns r:=by
 unfold evH
 rw[Dj,h]
 show(match (M9 vs ns).map (x:: ·)with|none=>_|some xs=>_)=_
 cases M9 vs ns with
 | none=>rfl
 | some xs=>
  show Rp vs (fs++[l++x::xs]) (bd||(x::xs).any fun x=> !U1 x) r=Rp vs (fs++[l++[x]++xs]) ((bd || !U1 x)||xs.any fun x=> !U1 x) r
  rw[List.append_assoc,List.any_cons,Bool.or_assoc]
  rfl
theorem CE(x:Int):(!U1 x)=(decide (x < -4611686018427387904)||decide (x>4611686018427387904)):=by
 unfold U1
 by_cases h1:x < -4611686018427387904
 ·rw[decide_eq_true h1,decide_eq_false (show ¬ -4611686018427387904<=x by omega)];rfl
 ·rw[decide_eq_false h1,decide_eq_true (show -4611686018427387904<=x by omega)]
  by_cases h2:x>4611686018427387904
  ·rw[decide_eq_true h2,decide_eq_false (show ¬ x<=4611686018427387904 by omega)];rfl
  ·rw[decide_eq_false h2,decide_eq_true (show x<=4611686018427387904 by omega)];rfl
theorem c9z(p:List Mono)(vs:List Coef)(hv:vs.length<=9223372036854775807)(i:Nat)(hi:i<60)(hip:i<p.length)(ns:List Str)(hn:ns.length<=8)(R:Int×Int)
  (hnext : ∀ (l:List Int) (bd:Bool),l.length<=100->R=Rp vs ([]++[l]) bd (p.drop (i+1))->At ZQ 0 (Za ZC (Zm R)) ZG 0 91 [(6,.row 0 1 0 1),(1,.pv (enc vs)),(7,.pv (.bool bd)),(23,.pv (enc p)),(24,.pv (.int .i64 p.length)),(25,.pv (.int .i64 ((i+1:Nat):Int)))] [.obj (.row false 34 1 (([]++[l]).map enc))]) :
  ∀ (d j:Nat) (l:List Int) (bd:Bool),d+j=ns.length->l.length=j+1->R=evH vs [] bd l (ns.drop j) (p.drop (i+1)) ->
  At ZQ 0 (Za ZC (Zm R)) ZG 1 91 [(6,.pv (.sl 0 true [])),(1,.pv (enc vs)),(7,.pv (.bool bd)),(23,.pv (enc p)),(24,.pv (.int .i64 p.length)),(25,.pv (.int .i64 i)),(33,.pv (enc ns)),(34,.pv (.int .i64 ns.length)),(35,.pv (.int .i64 j)),(10,.row 0 (j+1) 0 (j+1))] [.obj (.row false 3 1 (l.map enc))]:=by
 intro d
 induction d with
 | zero=>
  intro j l bd hd hl hR
  rw[List.drop_of_length_le (by omega)]at hR
  have hR2:R=Rp vs ([]++[l]) bd (p.drop (i+1)):=by
   rw[hR]
   show Rp vs ([]++[l++[]]) (bd||false) _=_
   rw[List.append_nil,Bool.or_false]
  have hn0:=hnext l bd (by omega) hR2
  have et:(PV.sl 1 false (List.drop 0 (List.take (j+1) (List.map (enc:Int->PV) l))))=enc l:=by rw[List.drop_zero,List.take_of_length_le (by simp[hl])];rfl
  apply TQ (G:=Zm R) p vs bd i j ns (j+1) l
  apply Z0 (Yd (by omega))
  refine⟨by simp[hl],?_⟩
  rw[et,next (by omega)]
  exact hn0
 | succ d ih=>
  intro j l bd hd hl hR
  have hlt:j<ns.length:=by omega
  rw[List.drop_eq_getElem_cons hlt]at hR
  have ecd:Kl (enc vs)=vs:=Enc.dec_enc vs
  apply TQ (G:=Zm R) p vs bd i j ns (j+1) l
  apply ZV (Ya hlt)
  refine⟨ZB hlt rfl,ZY hlt ?_⟩
  have e0:PV.asStr (List.getD (PV.cells (enc ns[j])) 0 default)=ns[j].s:=rfl
  rw[e0,ecd]
  refine⟨by show VW _ [.pv (enc vs),_] _=true;simp[VW,hv],?_⟩
  rcases Ni vs ns[j]with ⟨h1,h2⟩|⟨k,hk,h1,h2⟩
  ·have:R=(0,7):=by rw[hR];unfold evH;rw[Dj,h2]
   rw[this]
   exact ZV (by simpa using h1) (ZK (x:=((0:Int),(7:Int))) rfl)
  ·rw[h1]
   rw[NG vs _ _ _ _ _ _ _ h2]at hR
   have hq : ∀ bd',(bd || !U1 vs[k].c)=bd'->At ZQ 0 (Za ZC (Zm R)) ZG 1 91 [(6,.pv (.sl 0 true [])),(1,.pv (enc vs)),(7,.pv (.bool bd')),(23,.pv (enc p)),(24,.pv (.int .i64 p.length)),(25,.pv (.int .i64 i)),(33,.pv (enc ns)),(34,.pv (.int .i64 ns.length)),(35,.pv (.int .i64 ((j+1:Nat):Int))),(10,.row 0 (j+1+1) 0 (j+1+1))] [.obj (.row false 3 1 ((l++[vs[k].c]).map enc))]:=fun bd' hb=>ih (j+1) (l++[vs[k].c]) bd' (by omega) (by simp[hl]) (by rw[<- hb];exact hR)
   have hap:(List.length (List.map (enc:Int->PV) l)==j+1&&(j+1==j+1)&&decide (((j+1)+List.length (List.drop 0 (List.take 1 [PV.int .i64 vs[k].c])))*8<=1099511627776)&&decide ((j+1)+List.length (List.drop 0 (List.take 1 [PV.int .i64 vs[k].c]))<=1099511627776))=true:=by
    rw[List.length_map,hl]
    show((j+1==j+1)&&(j+1==j+1)&&decide (((j+1)+1)*8<=1099511627776)&&decide ((j+1)+1<=1099511627776))=true
    rw[decide_eq_true (by omega),decide_eq_true (by omega)];simp
   refine Z0 (by simp) ⟨ZB hk rfl,ZY hk ?_⟩
   rw[next (by omega)]
   rw[List.map_append]at hq
   refine Xj (fun hb=>⟨hap,hq true (by rw[hb];rfl)⟩) fun hb=>WR (fun h3=>⟨hap,hq true ?_⟩) fun h3=>⟨hap,hq _ ?_⟩
   ·have h3:vs[k].c < -4611686018427387904:=h3
    rw[CE,decide_eq_true h3,hb];rfl
   ·have h3 : ¬ vs[k].c < -4611686018427387904:=h3
    rw[CE,decide_eq_false h3,hb];rfl
theorem c9o(p:List Mono)(vs:List Coef)(hv:vs.length<=9223372036854775807)(fs:List (List Int))(hfl:fs.length<=60)(i:Nat)(hi:i<60)(hip:i<p.length)(ns:List Str)(hn:ns.length<=8)(R:Int×Int)
  (hnext : ∀ (l:List Int) (bd:Bool),l.length<=100->R=Rp vs (fs++[l]) bd (p.drop (i+1))->At ZQ 0 (Za ZC (Zm R)) ZG 0 91 [(6,.row 0 (fs.length+1) 0 (fs.length+1)),(1,.pv (enc vs)),(7,.pv (.bool bd)),(23,.pv (enc p)),(24,.pv (.int .i64 p.length)),(25,.pv (.int .i64 ((i+1:Nat):Int)))] [.obj (.row false 34 1 ((fs++[l]).map enc))]) :
  ∀ (d j:Nat) (l:List Int) (bd:Bool),d+j=ns.length->l.length=j+1->R=evH vs fs bd l (ns.drop j) (p.drop (i+1)) ->
  At ZQ 0 (Za ZC (Zm R)) ZG 1 91 [(6,.row 0 fs.length 0 fs.length),(1,.pv (enc vs)),(7,.pv (.bool bd)),(23,.pv (enc p)),(24,.pv (.int .i64 p.length)),(25,.pv (.int .i64 i)),(33,.pv (enc ns)),(34,.pv (.int .i64 ns.length)),(35,.pv (.int .i64 j)),(10,.row 1 (j+1) 0 (j+1))] [.obj (.row false 34 1 (fs.map enc)),.obj (.row false 3 1 (l.map enc))]:=by
 intro d
 induction d with
 | zero=>
  intro j l bd hd hl hR
  rw[List.drop_of_length_le (by omega)]at hR
  have hR2:R=Rp vs (fs++[l]) bd (p.drop (i+1)):=by
   rw[hR]
   show Rp vs (fs++[l++[]]) (bd||false) _=_
   rw[List.append_nil,Bool.or_false]
  have hn0:=hnext l bd (by omega) hR2
  have et:(PV.sl 1 false (List.drop 0 (List.take (j+1) (List.map (enc:Int->PV) l))))=enc l:=by rw[List.drop_zero,List.take_of_length_le (by simp[hl])];rfl
  apply Rl (G:=Zm R) p vs bd i j ns (j+1) l fs.length fs
  apply Z0 (Yd (by omega))
  refine⟨by simp[hl],?_,?_⟩
  ·rw[et,List.length_map]
   show((fs.length==fs.length)&&(fs.length==fs.length)&&decide ((fs.length+1)*24<=1099511627776)&&decide (fs.length+1<=1099511627776))=true
   rw[decide_eq_true (by omega),decide_eq_true (by omega)];simp
  ·rw[et,next (by omega)]
   rw[List.map_append]at hn0
   exact hn0
 | succ d ih=>
  intro j l bd hd hl hR
  have hlt:j<ns.length:=by omega
  rw[List.drop_eq_getElem_cons hlt]at hR
  have ecd:Kl (enc vs)=vs:=Enc.dec_enc vs
  apply Rl (G:=Zm R) p vs bd i j ns (j+1) l fs.length fs
  apply ZV (Ya hlt)
  refine⟨ZB hlt rfl,ZY hlt ?_⟩
  have e0:PV.asStr (List.getD (PV.cells (enc ns[j])) 0 default)=ns[j].s:=rfl
  rw[e0,ecd]
  refine⟨by show VW _ [.pv (enc vs),_] _=true;simp[VW,hv],?_⟩
  rcases Ni vs ns[j]with ⟨h1,h2⟩|⟨k,hk,h1,h2⟩
  ·have:R=(0,7):=by rw[hR];unfold evH;rw[Dj,h2]
   rw[this]
   exact ZV (by simpa using h1) (ZK (x:=((0:Int),(7:Int))) rfl)
  ·rw[h1]
   rw[NG vs _ _ _ _ _ _ _ h2]at hR
   have hq : ∀ bd',(bd || !U1 vs[k].c)=bd'->At ZQ 0 (Za ZC (Zm R)) ZG 1 91 [(6,.row 0 fs.length 0 fs.length),(1,.pv (enc vs)),(7,.pv (.bool bd')),(23,.pv (enc p)),(24,.pv (.int .i64 p.length)),(25,.pv (.int .i64 i)),(33,.pv (enc ns)),(34,.pv (.int .i64 ns.length)),(35,.pv (.int .i64 ((j+1:Nat):Int))),(10,.row 1 (j+1+1) 0 (j+1+1))] [.obj (.row false 34 1 (fs.map enc)),.obj (.row false 3 1 ((l++[vs[k].c]).map enc))]:=fun bd' hb=>ih (j+1) (l++[vs[k].c]) bd' (by omega) (by simp[hl]) (by rw[<- hb];exact hR)
   have hap:(List.length (List.map (enc:Int->PV) l)==j+1&&(j+1==j+1)&&decide (((j+1)+List.length (List.drop 0 (List.take 1 [PV.int .i64 vs[k].c])))*8<=1099511627776)&&decide ((j+1)+List.length (List.drop 0 (List.take 1 [PV.int .i64 vs[k].c]))<=1099511627776))=true:=by
    rw[List.length_map,hl]
    show((j+1==j+1)&&(j+1==j+1)&&decide (((j+1)+1)*8<=1099511627776)&&decide ((j+1)+1<=1099511627776))=true
    rw[decide_eq_true (by omega),decide_eq_true (by omega)];simp
   refine Z0 (by simp) ⟨ZB hk rfl,ZY hk ?_⟩
   rw[next (by omega)]
   rw[List.map_append]at hq
   refine Xj (fun hb=>⟨hap,hq true (by rw[hb];rfl)⟩) fun hb=>WR (fun h3=>⟨hap,hq true ?_⟩) fun h3=>⟨hap,hq _ ?_⟩
   ·have h3:vs[k].c < -4611686018427387904:=h3
    rw[CE,decide_eq_true h3,hb];rfl
   ·have h3 : ¬ vs[k].c < -4611686018427387904:=h3
    rw[CE,decide_eq_false h3,hb];rfl
theorem a7q(vs:List Coef)(fs:List (List Int))(bd:Bool):Rp vs fs bd []=if bd then(0,2)else Qn [] (YB fs):=by
 show(if bd||Bc []then _ else Qn [] (YB (fs++[])))=_
 have:Bc []=false:=rfl
 rw[this,Bool.or_false,List.append_nil]
theorem En(p:List Mono)(vs:List Coef)(hp:Z9 p=true)(hv:vs.length<=9223372036854775807): ∀ (d i:Nat) (fs:List (List Int)) (bd:Bool),d+i=p.length->fs.length=i->1<=i->(∀ l∈fs,l.length<=100) ->
  At ZQ 0 (Za ZC (Zm (Rp vs fs bd (p.drop i)))) ZG 0 91 [(6,.row 0 fs.length 0 fs.length),(1,.pv (enc vs)),(7,.pv (.bool bd)),(23,.pv (enc p)),(24,.pv (.int .i64 p.length)),(25,.pv (.int .i64 i))] [.obj (.row false 34 1 (fs.map enc))]:=by
 obtain⟨hpl,hpm⟩:=Hr hp
 intro d
 induction d with
 | zero=>
  intro i fs bd hi hfi h1 hls
  rw[List.drop_of_length_le (by omega),a7q]
  apply Rj (G:=Zm (if bd then((0:Int),(2:Int))else Qn [] (YB fs))) p vs bd i fs.length fs
  apply Z0 (Yd (by omega))
  refine Xj (fun hb=> ?_) fun hb=> ?_
  ·rw[hb,if_pos rfl]
   exact ZK (x:=((0:Int),(2:Int))) rfl
  ·rw[hb,if_neg (by simp),Nat.sub_zero]
   exact c9k p vs fs (by omega) (by omega) fun l hl=>Z8.2 (by have:=hls l hl;omega)
 | succ d ih=>
  intro i fs bd hi hfi h1 hls
  have hlt:i<p.length:=by omega
  have hm:=hpm _ (List.getElem_mem hlt)
  rw[List.drop_eq_getElem_cons hlt,MU]
  apply Rj (G:=Zm (evH vs fs bd [p[i].c] p[i].v (p.drop (i+1)))) p vs bd i fs.length fs
  apply ZV (Ya hlt)
  refine⟨ZB hlt rfl,ZY hlt ?_⟩
  have:=c9o p vs hv fs (by omega) i (by omega) hlt p[i].v hm (evH vs fs bd [p[i].c] p[i].v (p.drop (i+1))) (fun l bd' hl hR=>by
   rw[hR]
   have:=ih (i+1) (fs++[l]) bd' (by omega) (by simp[hfi]) (by omega) (fun x hx=>by
    rcases List.mem_append.1 hx with hx|hx
    ·exact hls x hx
    ·rw[List.mem_singleton.1 hx];exact hl)
   rw[List.length_append]at this
   exact this) p[i].v.length 0 [p[i].c] bd (by omega) rfl rfl
  have eL:(((PV.asXs (List.getD (PV.cells (enc p[i])) (0+1) default)).length:Nat):Int)=(p[i].v.length:Int):=by
   show(((p[i].v.map (enc:Str->PV)).length:Nat):Int)=_
   rw[List.length_map]
  rw[eL]
  exact this
theorem a7f{p:List Mono}{vs:List Coef}(h:Z9 p=true):Rp vs [] false p=YR p vs:=by
 unfold Rp YR
 rw[h,if_pos rfl]
 cases Ea vs p with
 | none=>rfl
 | some fs=>
  show(if false||Bc fs then _ else Qn [] (YB ([]++fs)))=_
  rw[Bool.false_or,List.nil_append]
  show _=if Bc fs then _ else _
  by_cases hb:Bc fs=true
  ·rw[if_pos hb,if_pos hb]
  ·rw[if_neg hb,if_neg hb]
   cases YB fs with
   | none=>rfl
   | some l=>rfl
theorem a4z: ∀ x:List Mono×List Coef×Unit,(Yg x.1&&Zx x.2.1)=true->Zc ZQ 0 (Za ZC (Zm (YR x.1 x.2.1))) ZG [] (Yz b1m (encL x)):=by
 rintro⟨p,vs,⟨⟩⟩ h
 simp only[Bool.and_eq_true]at h
 obtain⟨hs,hv⟩:=h
 have hv:=Z8.1 hv
 refine c1h p vs ⟨Zl (p,()) rfl hs,Zj (p,()) rfl ?_⟩
 show if (!(Z9 p))=true then _ else _
 cases hp:Z9 p
 ·rw[if_pos (by rfl)]
  have:YR p vs=(0,1):=by unfold YR;rw[hp,if_neg (by simp)]
  show Zm (YR p vs) _
  rw[this]
  exact ZK (x:=((0:Int),(1:Int))) rfl
 ·rw[if_neg (by simp)]
  obtain⟨hpl,hpm⟩:=Hr hp
  show At ZQ 0 (Za ZC (Zm (YR p vs))) _ _ _ _ _
  rw[<- a7f hp,List.length_map]
  cases hpc:p with
  | nil=>
   have e:Rp vs [] false []=Qn [] (YB []):=by rw[a7q];rfl
   rw[e]
   apply TM (G:=Zm (Qn [] (YB []))) [] vs false ((0:Nat):Int)
   apply Z0 (Yd (by simp))
   exact Z0 (by simp) (c9h [] vs)
  | cons m r=>
   have hlt:0<p.length:=by rw[hpc];simp
   have e0:p[0]=m:=by simp[hpc]
   rw[<- hpc]
   have hm:=hpm _ (List.getElem_mem hlt)
   have ed:p=p[0]::p.drop 1:=(List.drop_eq_getElem_cons hlt).symm▸rfl
   have eg:Rp vs [] false p=evH vs [] false [p[0].c] p[0].v (p.drop 1):=by
    rw[<- MU]
    have:=List.drop_eq_getElem_cons hlt
    rw[List.drop_zero]at this
    rw[<- this]
   rw[eg]
   apply TM (G:=Zm (evH vs [] false [p[0].c] p[0].v (p.drop 1))) p vs false ((0:Nat):Int)
   apply ZV (Ya hlt)
   refine⟨ZB hlt rfl,ZY hlt ?_⟩
   have:=c9z p vs hv 0 (by omega) hlt p[0].v hm (evH vs [] false [p[0].c] p[0].v (p.drop 1)) (fun l bd' hl hR=>by
    rw[hR]
    exact En p vs hp hv (p.length - 1) 1 ([]++[l]) bd' (by omega) (by simp) (by omega) (fun x hx=>by
     rw[List.nil_append]at hx
     rw[List.mem_singleton.1 hx];exact hl)) p[0].v.length 0 [p[0].c] false (by omega) rfl rfl
   have eL:(((PV.asXs (List.getD (PV.cells (enc p[0])) (0+1) default)).length:Nat):Int)=(p[0].v.length:Int):=by
    show(((p[0].v.map (enc:Str->PV)).length:Nat):Int)=_
    rw[List.length_map]
   rw[eL]
   exact this
end Go.Pl

