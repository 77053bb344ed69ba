/-
  Texts of mine that belong together (packed by pack.py), for every input: QUb, QUc, QUg, GUh, QUh, GUj, GTv, QTg, VwU, QTv, QUj, VwL, GTd, QTd, GWy, QWy, GVa, QVa, QCo, GL7, QL7, GL9, QL9, TyRa, GRa, QGc, TyZ0, TyCm, GUk, QUk, GUn, QUn, GUo, QUo, GUd, QUd, GUi, GUl, QUl, GUm, GUp, QUp.
-/
import Derived.Test.YtgdebdgkofkeeaaGreatDoorChecked
import Derived.Test.YtgdebdgkofkeeaaGreatDoorProg
import Derived.Test.YtgdebdgkofkeeaaGreatDoorKV2
import Derived.Test.YtgdebdgkofkeeaaGreatDoorKV3
import Derived.KernelRfl
import Derived.Lib.ItoaLen
set_option linter.unusedVariables false
set_option linter.unusedSimpArgs false
namespace Go.Pl
open Go.RowKit
open Enc (enc dec is)
open EncL (encL decL isL)
theorem Em{α:Type}[BEq α][LawfulBEq α]{x y:α}{P Q:Prop}(h1:x≠y->P)(h2:x=y->Q):if (x != y)=true then P else Q:=by by_cases h:x=y;rw[if_neg (by simpa using h)];exact h2 h;rw[if_pos (by simpa using h)];exact h1 h
theorem d4q{α:Type}[BEq α][LawfulBEq α]{x y:α}{P Q:Prop}(h1:x≠y->P)(h2:x=y->Q):if (!x==y)=true then P else Q:=by by_cases h:x=y;rw[if_neg (by simpa using h)];exact h2 h;rw[if_pos (by simpa using h)];exact h1 h
theorem Al{α β:Type}[Enc α][Enc β]{a:List α}{b:List β}{P Q:Prop}(h1:a.length≠b.length->P)(h2:a.length=b.length->Q):if ((↑(List.length (List.map (enc:α->PV) a)):Int) != (↑(List.length (List.map (enc:β->PV) b)):Int))=true then P else Q:=
 Em (fun h=>h1 fun e=>h (by rw[List.length_map,List.length_map,e])) fun h=>h2 (by rw[List.length_map,List.length_map]at h;omega)
theorem CP{α:Type}[DecidableEq α]{x y:α}{a b:List α}(h:x≠y):decide (x::a=y::b)=false:=decide_eq_false fun e=>h (List.cons.inj e).1
theorem BU{α:Type}[DecidableEq α]{x y:α}{a b:List α}(h:x=y):decide (x::a=y::b)=decide (a=b):=decide_eq_decide.2 ⟨fun e=>(List.cons.inj e).2,fun e=>by rw[h,e]⟩
theorem a6w{α:Type}[DecidableEq α]{a b:List α}(h:a.length≠b.length):decide (a=b)=false:=decide_eq_false fun e=>h (by rw[e])
theorem idf{x y:Int}(h:x≠y):x≠y:=h
theorem idt{x y:Int}(h:x=y):x=y:=h
theorem stt{x y:Str}(h:x.s=y.s):x=y:=by cases x;cases y;cases h;rfl
theorem b5b(a b:List Int)(hl:a.length<=1048576)(e:a.length=b.length)(R:Bool): ∀ (d i:Nat),d+i=a.length->R=decide (a.drop i=b.drop i) ->
  At Sg 0 (Zb GM (Zo R)) Hu 0 26 [(0,.pv (enc a)),(1,.pv (enc b)),(5,.pv (.int .i64 i))] []:=by
 intro d
 induction d with
 | zero=>
  intro i hi hR
  refine b4k a b i (XV (Va (by omega)) (ZF ?_))
  rw[hR,List.drop_eq_nil_of_le (by omega),List.drop_eq_nil_of_le (by omega)];rfl
 | succ d ih=>
  intro i hi hR
  have h1:i<a.length:=by omega
  have h2:i<b.length:=by omega
  rw[List.drop_eq_getElem_cons h1,List.drop_eq_getElem_cons h2]at hR
  refine b4k a b i (Y7 (WN h1) ⟨ZJ h1 rfl,Z4 h1 ⟨ZJ h2 rfl,Z4 h2 (Em (fun h=>ZF ?_) fun h=> ?_)⟩⟩)
  ·rw[hR,CP (show a[i]≠b[i]from idf h)]
  ·rw[next (by omega)]
   exact ih (i+1) (by omega) (by rw[hR,BU (show a[i]=b[i]from idt h)])
theorem b8j: ∀ x:List Int×List Int×Unit,decide (x.1.length<=1048576)=true->Zd Sg 0 (Zb GM (Zo (decide (x.1=x.2.1)))) Hu [] (Z9 d0r (encL x)):=by
 rintro⟨a,b,⟨⟩⟩ h
 refine d5z a b (Al (fun k=>ZF (a6w k).symm) fun k=> ?_)
 exact b5b a b (of_decide_eq_true h) k _ a.length 0 (by omega) rfl
theorem a7l(a b:Lin)(hl:a.t.length<=1048576)(e:a.t.length=b.t.length)(R:Bool): ∀ (d i:Nat),d+i=a.t.length->R=decide (a.t.drop i=b.t.drop i) ->
  At Tv 0 (Zb Hq (Zo R)) Ho 0 38 [(2,.ptr 0 0),(3,.ptr 1 0),(5,.pv (.int .i64 i))] [.obj (.box [.pv (enc a.k),.pv (enc a.t)]),.obj (.box [.pv (enc b.k),.pv (enc b.t)])]:=by
 intro d
 induction d with
 | zero=>
  intro i hi hR
  refine a6p a b i (XV (Va (by omega)) (ZF ?_))
  rw[hR,List.drop_eq_nil_of_le (by omega),List.drop_eq_nil_of_le (by omega)];rfl
 | succ d ih=>
  intro i hi hR
  have h1:i<a.t.length:=by omega
  have h2:i<b.t.length:=by omega
  rw[List.drop_eq_getElem_cons h1,List.drop_eq_getElem_cons h2]at hR
  have hc:(PV.asStr (List.getD (PV.cells (enc a.t[i])) 0 default)==PV.asStr (List.getD (PV.cells (enc b.t[i])) 0 default)&&(PV.asInt (List.getD (PV.cells (enc a.t[i])) (0+1) default)==PV.asInt (List.getD (PV.cells (enc b.t[i])) (0+1) default)&&true))=decide (a.t[i]=b.t[i]):=by
   rw[co1,co1,co2,co2,Bool.and_true]
   rcases a.t[i]with ⟨⟨v⟩,c⟩
   rcases b.t[i]with ⟨⟨w⟩,c'⟩
   rw[Bool.eq_iff_iff]
   simp
  refine a6p a b i (Y7 (WN h1) ⟨ZJ h1 rfl,Z4 h1 ⟨ZJ h2 rfl,Z4 h2 ?_⟩⟩)
  rw[hc]
  refine VT (fun h=>ZF ?_) fun h=> ?_
  ·rw[hR,CP (of_decide_eq_false h)]
  ·rw[next (by omega)]
   exact ih (i+1) (by omega) (by rw[hR,BU (of_decide_eq_true h)])
theorem c0j: ∀ x:Lin×Lin×Unit,decide (x.1.t.length<=1048576)=true->Zd Tv 0 (Zb Hq (Zo (decide (x.1=x.2.1)))) Ho [] (Z9 c9s (encL x)):=by
 rintro⟨a,b,⟨⟩⟩ h
 refine d2g a b (Em (fun k=>ZF (decide_eq_false fun e=>k (by rw[show a=b from e])).symm) fun k0=>Al (fun k=>ZF (decide_eq_false fun e=>k (by rw[show a=b from e])).symm) fun k=> ?_)
 refine a7l a b (of_decide_eq_true h) k _ a.t.length 0 (by omega) (decide_eq_decide.2 ⟨fun e=>by rw[show a=b from e],fun e=> ?_⟩)
 cases a;cases b
 simp only[List.drop_zero]at e k0
 rw[k0,e]
theorem Yl{n m:Nd}{ks ls:List Tm}:Jb (.mk n ks) (.mk m ls)=true ↔ (n.kind=m.kind∧n.name=m.name∧n.num=m.num∧n.elem=m.elem∧n.dims=m.dims∧n.data=m.data∧n.sizes=m.sizes∧n.ranks=m.ranks)∧VU ks ls=true:=by
 rw[Jb]
 unfold c5k
 simp only[Bool.and_eq_true,decide_eq_true_eq,and_assoc]
theorem JD: ∀ {ks ls:List Tm},VU ks ls=true->ks.length=ls.length
 | [],[],_=>rfl
 | [],_::_,h=>by simp[VU]at h
 | _::_,[],h=>by simp[VU]at h
 | k::ks,l::ls,h=>by
  rw[VU,Bool.and_eq_true]at h
  rw[List.length_cons,List.length_cons,JD h.2]
theorem X4{b:Bool}(h:b=true->False):false=b:=by cases b;rfl;exact(h rfl).elim
theorem a2h{n m:Nd}{ks ls:List Tm}:Di (.mk n ks) (.mk m ls)=true ↔ n=m∧Dx ks ls=true:=by
 rw[Di,Bool.and_eq_true,decide_eq_true_eq]
mutual
theorem c4o: ∀ {a b:Tm},Di a b=true->Jb a b=true
 | .mk n ks,.mk m ls,h=>by
  obtain⟨e,h2⟩:=a2h.1 h
  subst e
  exact Yl.2 ⟨⟨rfl,rfl,rfl,rfl,rfl,rfl,rfl,rfl⟩,b7d h2⟩
theorem b7d: ∀ {ks ls:List Tm},Dx ks ls=true->VU ks ls=true
 | [],[],_=>by rw[VU]
 | [],_::_,h=>by simp[Dx]at h
 | _::_,[],h=>by simp[Dx]at h
 | k::ks,l::ls,h=>by
  rw[Dx,Bool.and_eq_true]at h
  rw[VU,c4o h.1,b7d h.2];rfl
end
theorem b3m{a b:List Int}{P:Bool->Prop}(h:a.length<=1048576)(k:P (decide (a=b))):a1h [.sl 1 false (a.map enc),.sl 1 false (b.map enc)] P:=⟨Ze (a,b,()) rfl (decide_eq_true h),Zg (a,b,()) rfl k⟩
theorem M0{N:Nat}{n:Nd}{ks:List Tm}(h:tW (.mk n ks)=true)(hd:ZZ ks<N){k l:Tm}(hk:k∈ks)(hl:tW l=true):(fun x:Tm×Tm×Unit=>(tW x.1&&tW x.2.1)&&decide (ZQ x.1<N)) (k,l,())=true:=by
 have h:=DZ h hd hk
 simp only[Bool.and_eq_true]at h ⊢
 exact⟨⟨h.1,hl⟩,h.2⟩
theorem a3m(a b:Tm):[Ap a,Ap b]=encL (a,b,()):=by rw[Cq,Cq];rfl
theorem a6b(n m:Nd)(ks ls:List Tm):[ndC n ks,ndC m ls]=encL (Tm.mk n ks,Tm.mk m ls,()):=by rw[XC,XC];rfl
theorem a8j(N:Nat)(n m:Nd)(ks ls:List Tm)(hw:tW (.mk n ks)=true)(hv:tW (.mk m ls)=true)(hd:ZZ ks<N)(e:ks.length=ls.length)(R:Bool): ∀ (d i:Nat),d+i=ks.length->R=VU (ks.drop i) (ls.drop i) ->
  At (KH N) 0 (Zb Ul (Zo R)) Uh 1 117 [(2,.ptr 0 0),(3,.ptr 1 0),(6,.pv (.int .i64 i))] [.obj (.box (ZW n ks)),.obj (.box (ZW m ls))]:=by
 intro d
 induction d with
 | zero=>
  intro i hi hR
  rw[List.drop_eq_nil_of_le (by omega),List.drop_eq_nil_of_le (by omega),VU]at hR
  exact b4l N n ks m ls i (XV (Va (by omega)) (ZF hR.symm))
 | succ d ih=>
  intro i hi hR
  have h1:i<ks.length:=by omega
  have h2:i<ls.length:=by omega
  have hkl:=(Yh hw).1
  rw[List.drop_eq_getElem_cons h1,List.drop_eq_getElem_cons h2,VU]at hR
  refine b4l N n ks m ls i (Y7 (WN h1) ⟨ZJ h1 rfl,Z4 h1 ⟨Wm _,ZJ h2 rfl,Z4 h2 ⟨Wm _,Ze (ks[i],ls[i],()) (a3m _ _) (M0 hw hd (List.getElem_mem h1) ((Yh hv).2 _ (List.getElem_mem h2))),Zg (ks[i],ls[i],()) (a3m _ _) (VT (fun h=>ZF ?_) fun h=> ?_)⟩⟩⟩)
  ·have h:Jb ks[i] ls[i]=false:=h
   rw[hR,h];rfl
  ·have h:Jb ks[i] ls[i]=true:=h
   rw[next (by omega)]
   exact ih (i+1) (by omega) (by rw[hR,h];rfl)
theorem a5k(N:Nat)(n m:Nd)(ks ls:List Tm)(hw:tW (.mk n ks)=true)(hv:tW (.mk m ls)=true)(hd:ZZ ks<N)(e:ks.length=ls.length)(es:n.sizes.length=m.sizes.length)(R:Bool): ∀ (d i:Nat),d+i=n.sizes.length->R=(decide (n.sizes.drop i=m.sizes.drop i)&&VU ks ls) ->
  At (KH N) 0 (Zb Ul (Zo R)) Uh 0 117 [(2,.ptr 0 0),(3,.ptr 1 0),(5,.pv (.int .i64 i))] [.obj (.box (ZW n ks)),.obj (.box (ZW m ls))]:=by
 intro d
 induction d with
 | zero=>
  intro i hi hR
  rw[List.drop_eq_nil_of_le (by omega),List.drop_eq_nil_of_le (by omega)]at hR
  exact b1x N n ks m ls i (XV (Va (by omega)) (a8j N n m ks ls hw hv hd e R ks.length 0 (by omega) (by rw[hR];rfl)))
 | succ d ih=>
  intro i hi hR
  have h1:i<n.sizes.length:=by omega
  have h2:i<m.sizes.length:=by omega
  have hn:=Ol hw
  have hb:=hn.sizes
  rw[List.drop_eq_getElem_cons h1,List.drop_eq_getElem_cons h2]at hR
  refine b1x N n ks m ls i (Y7 (WN h1) ⟨ZJ h1 rfl,Z4 h1 ⟨ZJ h2 rfl,Z4 h2 ⟨Ze (n.sizes[i],m.sizes[i],()) rfl (decide_eq_true (hn.lens _ (List.getElem_mem h1))),Zg (n.sizes[i],m.sizes[i],()) rfl (VT (fun h=>ZF ?_) fun h=> ?_)⟩⟩⟩)
  ·rw[hR,CP (of_decide_eq_false h)];rfl
  ·rw[next (by omega)]
   exact ih (i+1) (by omega) (by rw[hR,BU (of_decide_eq_true h)])
theorem c4g(N:Nat): ∀ x:Tm×Tm×Unit,((tW x.1&&tW x.2.1)&&decide (ZQ x.1<N+1))=true->Zd (KH N) 0 (Zb Ul (Zo (Jb x.1 x.2.1))) Uh [] (Z9 d1b (encL x)):=by
 rintro⟨⟨n,ks⟩,⟨m,ls⟩,⟨⟩⟩ h
 simp only[Bool.and_eq_true,decide_eq_true_eq]at h
 obtain⟨⟨hw,hv⟩,hd⟩:=h
 have hd:ZQ (.mk n ks)<N+1:=hd
 rw[ZQ]at hd
 have hn:=Ol hw
 rw[<- a6b]
 refine d3i N n ks m ls ?_
 refine Em (fun k=>ZF (X4 fun h=>k (Yl.1 h).1.1)) fun k1=> ?_
 refine d4q (fun k=>ZF (X4 fun h=>k (by rw[(Yl.1 h).1.2.1]))) fun k2=> ?_
 refine Em (fun k=>ZF (X4 fun h=>k (Yl.1 h).1.2.2.1)) fun k3=> ?_
 refine Al (fun k=>ZF (X4 fun h=>k (by rw[(Yl.1 h).1.2.2.2.2.2.2.1]))) fun k4=> ?_
 refine Al (fun k=>ZF (X4 fun h=>k (JD (Yl.1 h).2))) fun k5=> ?_
 refine d4q (fun k=>ZF (X4 fun h=>k (by rw[(Yl.1 h).1.2.2.2.1]))) fun k6=> ?_
 refine b3m hn.dims (VT (fun k=>ZF (X4 fun h=>of_decide_eq_false k (Yl.1 h).1.2.2.2.2.1)) fun k7=> ?_)
 refine b3m hn.data (VT (fun k=>ZF (X4 fun h=>of_decide_eq_false k (Yl.1 h).1.2.2.2.2.2.1)) fun k8=> ?_)
 refine b3m hn.ranks (VT (fun k=>ZF (X4 fun h=>of_decide_eq_false k (Yl.1 h).1.2.2.2.2.2.2.2)) fun k9=> ?_)
 refine a5k N n m ks ls hw hv (by omega) k5 k4 _ n.sizes.length 0 (by omega) ?_
 rw[Bool.eq_iff_iff]
 show Jb (.mk n ks) (.mk m ls)=true ↔ _
 rw[Yl,Bool.and_eq_true,decide_eq_true_eq]
 exact⟨fun h=>⟨h.1.2.2.2.2.2.2.1,h.2⟩,fun h=>⟨⟨k1,stt k2,k3,stt k6,of_decide_eq_true k7,of_decide_eq_true k8,h.1,of_decide_eq_true k9⟩,h.2⟩⟩
theorem b6a(N:Nat)(n m:Nd)(ks ls:List Tm)(hw:tW (.mk n ks)=true)(hv:tW (.mk m ls)=true)(hd:ZZ ks<N)(e:ks.length=ls.length)(R:Bool): ∀ (d i:Nat),d+i=ks.length->R=Dx (ks.drop i) (ls.drop i) ->
  At (S9 N) 0 (Zb Ga (Zo R)) GV 0 36 [(2,.ptr 0 0),(3,.ptr 1 0),(5,.pv (.int .i64 i))] [.obj (.box (ZW n ks)),.obj (.box (ZW m ls))]:=by
 intro d
 induction d with
 | zero=>
  intro i hi hR
  rw[List.drop_eq_nil_of_le (by omega),List.drop_eq_nil_of_le (by omega),Dx]at hR
  exact b2a N n ks m ls i (XV (Va (by omega)) (ZF hR.symm))
 | succ d ih=>
  intro i hi hR
  have h1:i<ks.length:=by omega
  have h2:i<ls.length:=by omega
  have hkl:=(Yh hw).1
  rw[List.drop_eq_getElem_cons h1,List.drop_eq_getElem_cons h2,Dx]at hR
  refine b2a N n ks m ls i (Y7 (WN h1) ⟨ZJ h1 rfl,Z4 h1 ⟨Wm _,ZJ h2 rfl,Z4 h2 ⟨Wm _,Ze (ks[i],ls[i],()) (a3m _ _) (M0 hw hd (List.getElem_mem h1) ((Yh hv).2 _ (List.getElem_mem h2))),Zg (ks[i],ls[i],()) (a3m _ _) (VT (fun h=>ZF ?_) fun h=> ?_)⟩⟩⟩)
  ·have h:Di ks[i] ls[i]=false:=h
   rw[hR,h];rfl
  ·have h:Di ks[i] ls[i]=true:=h
   rw[next (by omega)]
   exact ih (i+1) (by omega) (by rw[hR,h];rfl)
theorem c3n(N:Nat): ∀ x:Tm×Tm×Unit,((tW x.1&&tW x.2.1)&&decide (ZQ x.1<N+1))=true->Zd (S9 N) 0 (Zb Ga (Zo (Di x.1 x.2.1))) GV [] (Z9 c9t (encL x)):=by
 rintro⟨⟨n,ks⟩,⟨m,ls⟩,⟨⟩⟩ h
 have h0:=h
 simp only[Bool.and_eq_true,decide_eq_true_eq]at h
 obtain⟨⟨hw,hv⟩,hd⟩:=h
 have hd:ZQ (.mk n ks)<N+1:=hd
 rw[ZQ]at hd
 rw[<- a6b]
 refine d3g N n ks m ls (Em (fun k=>ZF (X4 fun h=>k (by rw[(a2h.1 h).1]))) fun k1=> ?_)
 refine⟨Ze (Tm.mk n ks,Tm.mk m ls,()) (a6b ..) (by simp only[Bool.and_eq_true];exact⟨hw,hv⟩),Zg (Tm.mk n ks,Tm.mk m ls,()) (a6b ..) (VT (fun k=>ZF (X4 fun h=> ?_)) fun k=> ?_)⟩
 ·have k:Jb (.mk n ks) (.mk m ls)=false:=k
  rw[c4o h]at k;exact absurd k (by simp)
 ·have k:Jb (.mk n ks) (.mk m ls)=true:=k
  obtain⟨⟨a1,a2,a3,a4,a5,a6,a7,a8⟩,ak⟩:=Yl.1 k
  have e:n=m:=by cases n;cases m;simp only at *;subst a1 a2 a3 a4 a5 a6 a7 a8 k1;rfl
  refine b6a N n m ks ls hw hv (by omega) (JD ak) _ ks.length 0 (by omega) ?_
  show Di (.mk n ks) (.mk m ls)=_
  rw[Di,decide_eq_true e];rfl
theorem P6(n:Nd)(ks:List Tm){α:Type}[Enc α](x:α):encL (Tm.mk n ks,x,())=[ndC n ks,enc x]:=by rw[XC];rfl
theorem DW:Zo (tm0,false) (.tup [(.agg [(.int .i64 0),(.int .i64 0),(.str []),(.int .i64 0),(.str []),(.sl 0 true []),(.sl 0 true []),(.sl 0 true []),(.sl 0 true []),(.sl 0 true [])]),(.bool false)]):=⟨rfl,rfl⟩
theorem b4g: ∀ x:Tm×Int×Unit,tW x.1=true->Zd TP 0 (Zb DX (Zo (Xo (WJ x.1 x.2.1)))) Ca [] (Z9 b9s (encL x)):=by
 rintro⟨⟨n,ks⟩,i,⟨⟩⟩ h
 rw[P6]
 show Zd TP 0 (Zb DX (Zo (Xo (WJ (.mk n ks) i)))) Ca [] _
 refine d0w n ks i ⟨Ze (Tm.mk n ks,()) (Xm n ks) h,Zg (Tm.mk n ks,()) (Xm n ks) ?_⟩
 show if decide (i<0)=true then _ else _
 refine Xf (fun k=> ?_) fun k=>Xf (fun k2=> ?_) fun k2=> ?_
 ·rw[show WJ (.mk n ks) i=none from if_neg (by omega)]
  exact DW
 ·rw[List.length_map]at k2
  have k3:(Yk (.mk n ks)).length<=i.toNat:=by
   have k2:i ≥ ((Yk (.mk n ks)).length:Int):=k2
   omega
  rw[show WJ (.mk n ks) i=none from(if_pos (by omega)).trans (List.getElem?_eq_none k3)]
  exact DW
 ·rw[List.length_map]at k2
  have k2 : ¬ i ≥ ((Yk (.mk n ks)).length:Int):=k2
  obtain⟨j,rfl⟩ : ∃ j:Nat,i=j:=⟨i.toNat,by omega⟩
  have hj:j<(Yk (.mk n ks)).length:=by omega
  refine⟨ZJ hj rfl,Z4 hj ⟨Wm _,?_⟩⟩
  rw[Cq,show WJ (.mk n ks) j=some (Yk (.mk n ks))[j]from(if_pos (by omega)).trans (List.getElem?_eq_getElem hj)]
  exact Ua (β:=Tm×Bool) rfl
theorem a9o(p:List Int)(hp:p.length<=1048576)(R:Tm×Bool): ∀ (d i:Nat) (n:Nd) (ks:List Tm),d+i=p.length->R=Xo (ZH (.mk n ks) (p.drop i)) ->
  At Bl 0 (Zb KO (Zo R)) K5 0 38 [(1,.pv (enc p)),(2,.ptr 0 0),(4,.ptr 1 0),(6,.pv (.int .i64 i))] [.obj (.box (ZW n ks)),.obj (.box [.pv (.int .i64 0),.pv (.int .i64 0),.pv (.str []),.pv (.int .i64 0),.pv (.str []),.pv (.sl 0 true []),.pv (.sl 0 true []),.pv (.sl 0 true []),.pv (.sl 0 true []),.pv (.sl 0 true [])])]:=by
 intro d
 induction d with
 | zero=>
  intro i n ks hi hR
  rw[List.drop_eq_nil_of_le (by omega),ZH]at hR
  refine b6u n ks p i (XV (Va (by omega)) ?_)
  rw[hR,XC]
  exact Ua (β:=Tm×Bool) rfl
 | succ d ih=>
  intro i n ks hi hR
  have h1:i<p.length:=by omega
  rw[List.drop_eq_getElem_cons h1,ZH]at hR
  refine b6u n ks p i (Y7 (WN h1) ⟨ZJ h1 rfl,Z4 h1 (Xf (fun k=> ?_) fun k=>⟨ZJ h1 rfl,Z4 h1 (Xf (fun k2=> ?_) fun k2=>⟨ZJ h1 rfl,Z4 h1 ?_⟩)⟩)⟩)
  ·have k:p[i]<0:=k
   rw[hR,if_neg (by omega)]
   exact DW
  ·have k : ¬ p[i]<0:=k
   rw[List.length_map]at k2
   have k2:p[i] ≥ (ks.length:Int):=k2
   rw[hR,if_pos (by omega),Tm.ks,List.getElem?_eq_none (by omega)]
   exact DW
  ·have k : ¬ p[i]<0:=k
   rw[List.length_map]at k2
   have k2 : ¬ p[i] ≥ (ks.length:Int):=k2
   obtain⟨j,hj⟩ : ∃ j:Nat,p[i]=j:=⟨p[i].toNat,by omega⟩
   have hjl:j<ks.length:=by omega
   rw[if_pos (by omega),Tm.ks,hj,Int.toNat_natCast,List.getElem?_eq_getElem hjl]at hR
   show(decide (0<=p[i])&&decide (Int.toNat p[i]<List.length (List.map (enc:Tm->PV) ks))&&Enc.sz Tm==10)=true∧_
   rw[show PV.asInt (List.getD (PV.cells (enc p[i])) 0 default)=(j:Int)from hj,hj]
   refine⟨ZJ hjl rfl,Z4 hjl ⟨Wm _,?_⟩⟩
   rw[next (by omega)]
   cases he:ks[j]with
   | mk m ls=>
    rw[a9m]
    rw[he]at hR
    exact ih (i+1) m ls (by omega) hR
theorem c3t: ∀ x:Tm×List Int×Unit,decide (x.2.1.length<=1048576)=true->Zd Bl 0 (Zb KO (Zo (Xo (ZH x.1 x.2.1)))) K5 [] (Z9 c8u (encL x)):=by
 rintro⟨⟨n,ks⟩,p,⟨⟩⟩ h
 rw[P6]
 exact d3q n ks p (a9o p (of_decide_eq_true h) _ p.length 0 n ks (by omega) rfl)
theorem c8a: ∀ x:Str×Unit,true=true->Zd d3t 0 (Zb c5o (Zo (vT x.1))) c5e [] (Z9 d1w (encL x)):=by
 rintro⟨⟨s⟩,⟨⟩⟩ _
 exact d7b s ⟨by simp,by simp[vT,nd0]⟩
def d4m(s:Str)(a b:Tm):Tm:=.mk {nd0 with kind:=5,name:=s} [a,b]
theorem b4c: ∀ x:Str×Tm×Tm×Unit,true=true->Zd b7f 0 (Zb a2b (Zo (d4m x.1 x.2.1 x.2.2.1))) a0d [] (Z9 b7q (encL x)):=by
 rintro⟨⟨s⟩,⟨n,ks⟩,⟨m,ls⟩,⟨⟩⟩ _
 rw[show encL ((⟨s⟩:Str),Tm.mk n ks,Tm.mk m ls,())=[.str s,ndC n ks,ndC m ls]from by rw[XC,XC];rfl]
 refine d0j s n ks m ls ?_
 rw[XC,XC]
 have h:is (List Tm) (.sl 10 false ([Tm.mk n ks,Tm.mk m ls].map enc))=true:=Enc.is_enc [Tm.mk n ks,Tm.mk m ls]
 have h2:(dec (.sl 10 false ([Tm.mk n ks,Tm.mk m ls].map enc)):List Tm)=[Tm.mk n ks,Tm.mk m ls]:=Enc.dec_enc [Tm.mk n ks,Tm.mk m ls]
 refine⟨?_,?_⟩
 ·have:is (List Tm) (.sl 10 false [enc (Tm.mk n ks),enc (Tm.mk m ls)])=true:=h
  simp[this]
 ·have h:is (List Tm) (.sl 10 false [enc (Tm.mk n ks),enc (Tm.mk m ls)])=true:=h
  have h2:(dec (.sl 10 false [enc (Tm.mk n ks),enc (Tm.mk m ls)]):List Tm)=[Tm.mk n ks,Tm.mk m ls]:=h2
  rw[b6e _ _ _ _ _ _ _ _ _ _ h,h2]
  simp[d4m,nd0]
end Go.Pl
namespace Go.Pl
open Go.RowKit
open Enc (enc dec is)
open EncL (encL decL isL)
mutual
theorem LK: ∀ {a b:List Str} (h : ∀ x,x∈a ↔ x∈b) (t:Tm),Xd a t=Xd b t
 | a,b,h,.mk n ks=>by
  rw[Xd,Xd,Sw h]
  simp only[h]
theorem Sw: ∀ {a b:List Str} (h : ∀ x,x∈a ↔ x∈b) (l:Bool) (s:Str) (i:Nat) (ks:List Tm),Xk a l s i ks=Xk b l s i ks
 | a,b,h,l,s,i,[]=>by rw[Xk,Xk]
 | a,b,h,l,s,i,k::ks=>by
  rw[Xk,Xk,Sw h l s (i+1) ks,LK (a:=if (l&&decide (i=1))=true then s::a else a) (b:=if (l&&decide (i=1))=true then s::b else b) (fun x=>by split <;> simp[h]) k]
end
mutual
theorem Jz: ∀ (b:List Str) (t:Tm),(Xd b t).length<=Zv t
 | b,.mk n ks=>by
  have h:=Sq b (Wx n ks.length) n.name 0 ks
  rw[Xd,Zv,List.length_append]
  split
  ·simp only[List.length_singleton];omega
  ·simp only[List.length_nil];omega
theorem Sq: ∀ (b:List Str) (l:Bool) (s:Str) (i:Nat) (ks:List Tm),(Xk b l s i ks).length<=Zp ks
 | b,l,s,i,[]=>by rw[Xk,Zp];simp
 | b,l,s,i,k::ks=>by
  have h1:=Jz (if (l&&decide (i=1))=true then s::b else b) k
  have h2:=Sq b l s (i+1) ks
  rw[Xk,Zp,List.length_append]
  omega
end
end Go.Pl
namespace Go.Pl
open Go.RowKit
open Enc (enc dec is)
open EncL (encL decL isL)
theorem SF: ∀ (l o:List Str),(l.foldl Y6 o).length<=o.length+l.length
 | [],o=>by simp
 | a::l,o=>by have:=SF l (Y6 o a);have:=JL o a;rw[List.foldl_cons,List.length_cons];omega
theorem b3g{N:Nat}{t:Tm}{b g:List Str}(hw:tW t=true)(hd:ZQ t<N)(h1:b.length+ZQ t<=1048576)(h2:g.length+Zv t<=1048576):Wu N [(.pv (Ap t)),(.map 0),(.map 1)] [(.map (Yc b)),(.map (Yc g))]=true:=by
 rw[Cq]
 simp only[Wu,Uc,Enc.dec_enc,hw,VJ,decide_eq_true hd,decide_eq_true h1,decide_eq_true h2,Bool.true_and,Bool.and_true,Bool.and_eq_true]
 exact⟨@decide_eq_true _ (_) trivial,@decide_eq_true _ (_) trivial⟩
theorem b1u(N:Nat)(n:Nd)(ks:List Tm)(b:List Str)(hw:tW (.mk n ks)=true)(hd:ZZ ks<N)(hb:b.length+ZZ ks+1<=1048576)(R:List Str): ∀ (d i:Nat) (g:List Str),d+i=ks.length->g.length+Zp (ks.drop i)<=1048576->R=(Xk b (Wx n ks.length) n.name i (ks.drop i)).foldl Y6 g ->
  At (Vu N) 2 (Yf 2 XU fun r=>r=(.tup [],[.map (Yc b),.map (Yc R)],[])) XQ 0 54 [(1,.map 0),(2,.map 1),(3,.ptr 2 0),(23,.pv (enc ks)),(24,.pv (.int .i64 (ks.map (enc:Tm->PV)).length)),(25,.pv (.int .i64 i))] [.obj (.map (Yc b)),.obj (.map (Yc g)),.obj (.box (ZW n ks))]:=by
 intro d
 induction d with
 | zero=>
  intro i g hi hg hR
  rw[List.drop_eq_nil_of_le (by omega),Xk]at hR
  exact b6s N n ks b g i (XV (Va (by omega)) (by rw[hR];rfl))
 | succ d ih=>
  intro i g hi hg hR
  have h1:i<ks.length:=by omega
  have hkl:=(Yh hw).1
  have hwk:=(Yh hw).2 _ (List.getElem_mem h1)
  have hdk:=Td (List.getElem_mem h1)
  rw[List.drop_eq_getElem_cons h1,Zp]at hg
  rw[List.drop_eq_getElem_cons h1,Xk,List.foldl_append]at hR
  have go : ∀ bd:List Str,(Xd bd ks[i]=Xd (if (Wx n ks.length&&decide (i=1))=true then n.name::b else b) ks[i])->At (Vu N) 2 (Yf 2 XU fun r=>r=(.tup [],[.map (Yc b),.map (Yc R)],[])) XQ 0 54 [(1,.map 0),(2,.map 1),(3,.ptr 2 0),(23,.pv (enc ks)),(24,.pv (.int .i64 (ks.map (enc:Tm->PV)).length)),(25,.pv (.int .i64 (IntKind.i64.wrap ((i:Int)+1))))] [.obj (.map (Yc b)),.obj (.map (Yc ((Xd bd ks[i]).foldl Y6 g))),.obj (.box (ZW n ks))]:=fun bd e=>by
   rw[next (by omega),e]
   refine ih (i+1) _ (by omega) ?_ hR
   have l1:=SF (Xd (if (Wx n ks.length&&decide (i=1))=true then n.name::b else b) ks[i]) g
   have l2:=Jz (if (Wx n ks.length&&decide (i=1))=true then n.name::b else b) ks[i]
   omega
  have plain:(Wx n ks.length&&decide (i=1))=false->Wu N [(.pv (Ap ks[i])),(.map 0),(.map 1)] [(.map (Yc b)),(.map (Yc g))]=true∧At (Vu N) 2 (Yf 2 XU fun r=>r=(.tup [],[.map (Yc b),.map (Yc R)],[])) XQ 0 54 [(1,.map 0),(2,.map 1),(3,.ptr 2 0),(23,.pv (enc ks)),(24,.pv (.int .i64 (ks.map (enc:Tm->PV)).length)),(25,.pv (.int .i64 (IntKind.i64.wrap ((i:Int)+1))))] [.obj (.map (Yc b)),.obj (.map (Yc (List.foldl Y6 (YO (Yc g)) (Xd (YO (Yc b)) (dec (agS ks[i])))))),.obj (.box (ZW n ks))]:=fun e=>
   ⟨b3g hwk (by omega) (by omega) (by omega),by rw[VJ,VJ,b2y,Enc.dec_enc];exact go b (by rw[e];rfl)⟩
  refine b6s N n ks b g i (Y7 (WN h1) ⟨ZJ h1 rfl,Z4 h1 ⟨Wm _,VR (fun k5=>VR (fun k2=>VR (fun k1=> ?_) fun k1=> ?_) fun k2=> ?_) fun k5=> ?_⟩⟩)
  ·have e2:ks.length=2:=by rw[List.length_map]at k2;omega
   have e1:i=1:=by omega
   have el:(Wx n ks.length&&decide (i=1))=true:=by unfold Wx;rw[decide_eq_true k5,decide_eq_true e2,decide_eq_true e1];rfl
   have hu:Wo (enc n.name) (.bool true) (Yc b)=Yc (Y6 b n.name):=(H6 b n.name).2
   have:=JL b n.name
   refine⟨(H6 b n.name).1,?_⟩
   rw[hu,VJ,VJ,b2y,Enc.dec_enc]
   exact⟨b3g hwk (by omega) (by omega) (by omega),go (Y6 b n.name) (LK (fun x=>by rw[el];simp[Bz,or_comm]) _)⟩
  ·exact plain (by rw[decide_eq_false (show ¬ i=1 by omega),Bool.and_false])
  ·exact plain (by unfold Wx;rw[decide_eq_false (show ¬ ks.length=2 by rw[List.length_map]at k2;omega)];simp)
  ·exact plain (by unfold Wx;rw[decide_eq_false k5];simp)
theorem c0s(b:List Str)(s:Str):VD (enc s) (Yc b)=true∧YG (enc s) (PV.bool false) (Yc b) = .bool (decide (s∈b)):=by
 have key:HY (enc s) (Yc b)=some (if s∈b then some (PV.bool true)else none):=by
  induction b with
  | nil=>rfl
  | cons a b ih=>
   show(match QK (enc s) (PV.str a.s)with|some true=>some (some (PV.bool true))|some false=>HY (enc s) (Yc b)|none=>none)=_
   have e:QK (enc s:PV) (PV.str a.s)=some (s.s==a.s):=rfl
   rw[e]
   by_cases h:s=a
   ·subst h;simp
   ·have:(s.s==a.s)=false:=by
     rw[beq_eq_false_iff_ne]
     intro e;apply h;cases a;cases s;simp at e;rw[e]
    rw[this]
    show HY (enc s) (Yc b)=_
    rw[ih]
    simp[h]
 unfold VD YG
 rw[key]
 by_cases h:s∈b
 ·simp[h]
 ·simp[h]
theorem c1m(N:Nat): ∀ args os,Wu (N+1) args os=true->Zd (Vu N) os.length (Yf os.length XU fun r=>r=Gf args os) XQ [] (XF d0x args os):=by
 intro args os hp
 unfold Wu at hp
 split at hp
 ·rename_i p es fs
  simp only[Bool.and_eq_true,decide_eq_true_eq]at hp
  obtain⟨h1,hw,h3,h4,h5,h6,h7⟩:=hp
  obtain⟨⟨n,ks⟩,rfl⟩:=Rx h1
  rw[Enc.dec_enc]at hw h3 h6 h7
  generalize YO es=b at h4 h6
  generalize YO fs=g at h5 h7
  subst h4 h5
  rw[ZQ]at h3 h6
  rw[Zv]at h7
  have key : ∀ g':List Str,g'.length+Zp ks<=1048576->(Xd b (.mk n ks)).foldl Y6 g=(Xk b (Wx n ks.length) n.name 0 ks).foldl Y6 g'->At (Vu N) 2 (Yf 2 XU fun r=>r=(.tup [],[.map (Yc b),.map (Yc ((Xd b (.mk n ks)).foldl Y6 g))],[])) XQ 0 54 [(1,.map 0),(2,.map 1),(3,.ptr 2 0),(23,.pv (enc ks)),(24,.pv (.int .i64 (ks.map (enc:Tm->PV)).length)),(25,.pv (.int .i64 0))] [.obj (.map (Yc b)),.obj (.map (Yc g')),.obj (.box (ZW n ks))]:=fun g' l e=>
   b1u N n ks b hw (by omega) (by omega) _ ks.length 0 g' (by omega) (by simpa using l) (by rw[e];rfl)
  have e:Gf [.pv (enc (Tm.mk n ks)),.map 0,.map 1] [.map (Yc b),.map (Yc g)]=(.tup [],[.map (Yc b),.map (Yc ((Xd b (.mk n ks)).foldl Y6 g))],[]):=by
   simp only[Gf,Enc.dec_enc,VJ]
  rw[e,Zq]
  refine d4c N n ks b g (VR (fun k=> ?_) fun k=>key g (by omega) (by rw[Xd,if_neg (fun h=>k h.1)];rfl))
  obtain⟨l1,l2⟩:=c0s b n.name
  rw[l1,l2]
  refine⟨rfl,VT (fun k2=> ?_) fun k2=> ?_⟩
  ·have k2:n.name ∉ b:=of_decide_eq_false k2
   have hu:Wo (enc n.name) (.bool true) (Yc g)=Yc (Y6 g n.name):=(H6 g n.name).2
   refine⟨(H6 g n.name).1,?_⟩
   rw[hu]
   refine key (Y6 g n.name) (by have:=JL g n.name;omega) ?_
   rw[Xd,if_pos ⟨k,k2⟩];rfl
  ·have k2:n.name∈b:=of_decide_eq_true k2
   exact key g (by omega) (by rw[Xd,if_neg (fun h=>h.2 k2)];rfl)
 ·cases hp
noncomputable def Vm:List AV->List AObj->Bool
 | [.pv p,.map 0,.map 1],[.map es,.map fs]=>can Tm p&&(tW (dec p)&&(@decide (es=Yc (YO es)) (Classical.propDecidable _)&&(@decide (fs=Yc (YO fs)) (Classical.propDecidable _)&&(decide ((YO es).length+ZQ (dec p:Tm)<=1048576)&&decide ((YO fs).length+Zv (dec p:Tm)<=1048576)))))
 | _,_=>false
def a8p:List AV->List AObj->Nat
 | [.pv p,_,_],_=>ZQ (dec p:Tm)
 | _,_=>0
theorem d5o{N:Nat}{args:List AV}{os:List AObj}(h:(Vm args os&&decide (a8p args os<N))=true):Wu N args os=true:=by
 rw[Bool.and_eq_true]at h
 obtain⟨h1,h2⟩:=h
 unfold Vm at h1
 split at h1
 ·simp only[Bool.and_eq_true]at h1
  obtain⟨q1,q2,q3,q4,q5,q6⟩:=h1
  simp only[Wu,Bool.and_eq_true]
  exact⟨q1,q2,h2,q3,q4,q5,q6⟩
 ·cases h1
theorem d3d{N:Nat}{args:List AV}{os:List AObj}(h:Wu N args os=true):(Vm args os&&decide (a8p args os<N))=true:=by
 unfold Wu at h
 split at h
 ·simp only[Bool.and_eq_true]at h
  obtain⟨q1,q2,q3,q4,q5,q6,q7⟩:=h
  rw[Bool.and_eq_true]
  refine⟨?_,q3⟩
  simp only[Vm,Bool.and_eq_true]
  exact⟨q1,q2,q4,q5,q6,q7⟩
 ·cases h
theorem c9x{t:Tm}{b g:List Str}(hw:tW t=true)(h1:b.length+ZQ t<=1048576)(h2:g.length+Zv t<=1048576):Vm [(.pv (enc t)),(.map 0),(.map 1)] [(.map (Yc b)),(.map (Yc g))]=true:=by
 simp only[Vm,Uc,Enc.dec_enc,hw,VJ,decide_eq_true h1,decide_eq_true h2,Bool.true_and,Bool.and_true,Bool.and_eq_true]
 exact⟨@decide_eq_true _ (_) trivial,@decide_eq_true _ (_) trivial⟩
end Go.Pl
namespace Go.Pl
open Go.RowKit
open Enc (enc dec is)
open EncL (encL decL isL)
set_option maxRecDepth 100000
noncomputable def a8x:IC:=Wn Proofs.Tryz.f20
def b2f:List IRes:=[(.tmp 2)]
abbrev c8n:Nat:=12
noncomputable def c4k:ZC:=YI [(55,.own Vm Gf),(57,.own U9 (Ke 79)),(56,.own (WU 79) VZ)]
theorem d5c{G:PV->Prop}(n:Nd)(ks:List Tm)(h:(Vm [(.pv (.agg [(.int .i64 (Nd.kind n)),(.int .i64 (Nd.line n)),(.str (Str.s (Nd.name n))),(.int .i64 (Nd.num n)),(.str (Str.s (Nd.elem n))),(.sl 1 false (List.map enc (Nd.dims n))),(.sl 1 false (List.map enc (Nd.data n))),(.sl 2 false (List.map enc (Nd.sizes n))),(.sl 1 false (List.map enc (Nd.ranks n))),(.sl 10 false (List.map enc ks))])),(.map 0),(.map 1)] [(.map []),(.map [])])=true∧((WU 79 [(.fn 79 [] [(.ptr 0 0)])] [(.box [(.map 1)]),(.map (Yc (List.foldl Y6 (YO []) (Xd (YO []) (dec (PV.agg [enc (Nd.kind n),enc (Nd.line n),enc (Nd.name n),enc (Nd.num n),enc (Nd.elem n),enc (Nd.dims n),enc (Nd.data n),enc (Nd.sizes n),enc (Nd.ranks n),enc ks]))))))])=true∧(G ((.sl 1 false (List.map PV.str (YZ (List.map Vi (Yc (List.foldl Y6 (YO []) (Xd (YO []) (dec (PV.agg [enc (Nd.kind n),enc (Nd.line n),enc (Nd.name n),enc (Nd.num n),enc (Nd.elem n),enc (Nd.dims n),enc (Nd.data n),enc (Nd.sizes n),enc (Nd.ranks n),enc ks]))))))))))))):Zd c4k 0 (Zb b2f G) a8x [] (Z9 12 [.agg [enc n.kind,enc n.line,enc n.name,enc n.num,enc n.elem,enc n.dims,enc n.data,enc n.sizes,enc n.ranks,enc ks]]):=Zd.tp (dm [] 8 0x313231) h
end Go.Pl
namespace Go.Pl
open Go.RowKit
open Enc (enc dec is)
open EncL (encL decL isL)
mutual
theorem b2z: ∀ (b:List Str) (t:Tm) (s:Str),s∈Xd b t->s.s.length<=Vj t
 | b,.mk n ks,s,h=>by
  rw[Xd]at h
  rw[Vj]
  rcases List.mem_append.1 h with h|h
  ·split at h
   ·have:s=n.name:=by simpa using h
    subst this
    unfold wNd;omega
   ·cases h
  ·have:=a1u b (Wx n ks.length) n.name 0 ks s h;omega
theorem a1u: ∀ (b:List Str) (l:Bool) (x:Str) (i:Nat) (ks:List Tm) (s:Str),s∈Xk b l x i ks->s.s.length<=Xi ks
 | b,l,x,i,[],s,h=>by rw[Xk]at h;cases h
 | b,l,x,i,k::ks,s,h=>by
  rw[Xk]at h
  rw[Xi]
  rcases List.mem_append.1 h with h|h
  ·have:=b2z _ k s h;omega
  ·have:=a1u b l x (i+1) ks s h;omega
end
theorem b4z{l:List Str}(h1 : ∀ s∈l,s.s.length<=1048576)(h2:l.length<=1048576):Kb (Yc (Wz l))=true:=by
 have h3:(Yc (Wz l)).all c5j=true:=by
  rw[List.all_eq_true]
  intro x hx
  obtain⟨s,hs,rfl⟩:=List.mem_map.1 hx
  rcases (Sc l [] s).1 hs with h|h
  ·cases h
  ·exact decide_eq_true (h1 s h)
 have h4:((Yc (Wz l)).map Vi).Nodup:=by
  have e:(Yc (Wz l)).map Vi=(Wz l).map (·.s):=by unfold Yc;rw[List.map_map];rfl
  rw[e]
  have:=QB l [] (by simp)
  refine List.Pairwise.map _ (fun a b hab=> ?_) this
  intro he;apply hab;cases a;cases b;simp at he;rw[he]
 have h5:(Yc (Wz l)).length<=1048576:=by
  have:=GY l []
  unfold Yc
  rw[List.length_map]
  have e:Wz l=l.foldl Y6 []:=rfl
  rw[e]
  simp at this
  omega
 unfold Kb
 rw[h3,decide_eq_true h4,decide_eq_true h5];rfl
theorem Ns(l:List Str):(PV.sl 1 false (List.map PV.str (YZ (List.map Vi (Yc (Wz l))))))=enc (QP l):=by
 have e:(Yc (Wz l)).map Vi=(Wz l).map (·.s):=by unfold Yc;rw[List.map_map];rfl
 rw[e]
 unfold QP
 show _=PV.sl 1 false (List.map enc (List.map Str.mk _))
 rw[List.map_map]
 rfl
theorem b8t: ∀ x:Tm×Unit,tW x.1=true->Zd c4k 0 (Zb b2f (Zo (Wi x.1))) a8x [] (Z9 c8n (encL x)):=by
 rintro⟨⟨n,ks⟩,⟨⟩⟩ hw
 rw[show encL ((Tm.mk n ks,()):Tm×Unit)=[PV.agg [enc n.kind,enc n.line,enc n.name,enc n.num,enc n.elem,enc n.dims,enc n.data,enc n.sizes,enc n.ranks,enc ks]]from by
  show [enc (Tm.mk n ks)]=_
  rw[Zq]]
 have hw:tW (.mk n ks)=true:=hw
 refine d5c n ks ?_
 have hs:=Km hw
 have hW:=of_decide_eq_true hw
 have hd:ZQ (.mk n ks)<=1048576:=Nat.le_trans (BP _) hs
 have e:(dec (PV.agg [enc (Nd.kind n),enc (Nd.line n),enc (Nd.name n),enc (Nd.num n),enc (Nd.elem n),enc (Nd.dims n),enc (Nd.data n),enc (Nd.sizes n),enc (Nd.ranks n),enc ks]):Tm) = .mk n ks:=by rw[<- Zq,Enc.dec_enc]
 rw[e]
 refine⟨?_,?_,?_⟩
 ·have:=c9x (t:=.mk n ks) (b:=[]) (g:=[]) hw (by simpa using hd) (by simpa using hs)
  rw[Zq]at this
  exact this
 ·show(79==79&&Kb (Yc (Wz (Xd [] (.mk n ks)))))=true
  rw[b4z (fun s h=>by have:=b2z _ _ s h;omega) (by have:=Jz [] (.mk n ks);omega)]
  simp
 ·show Zo _ (PV.sl 1 false (List.map PV.str (YZ (List.map Vi (Yc (Wz (Xd [] (.mk n ks))))))))
  rw[Ns]
  exact Ua rfl
end Go.Pl
namespace Go.Pl
open Go.RowKit
open Enc (enc dec is)
open EncL (encL decL isL)
set_option maxRecDepth 100000
noncomputable def JF:IC:=icx Um Proofs.Tryz.f21
def QX:List IRes:=[(.tmp 2)]
abbrev c2q:Nat:=11
noncomputable def Qc:ZC:=YI [(58,.own Yu (Xh 80))]
theorem c6z{G:PV->Prop}(E:YT)(n:Nd)(ks:List Tm)(h:(Yu [(.pv (.agg [(.int .i64 (Nd.kind n)),(.int .i64 (Nd.line n)),(.str (Str.s (Nd.name n))),(.int .i64 (Nd.num n)),(.str (Str.s (Nd.elem n))),(.sl 1 false (List.map enc (Nd.dims n))),(.sl 1 false (List.map enc (Nd.data n))),(.sl 2 false (List.map enc (Nd.sizes n))),(.sl 1 false (List.map enc (Nd.ranks n))),(.sl 10 false (List.map enc ks))]))] [])=true∧(E 0 ⟨ZL 11 0 [(3,(.ptr 0 0)),(5,(.fn 80 [] [(.ptr 1 0)])),(8,.undef),(9,.undef)],[(.obj (.box [(.pv (.int .i64 0))])),(.obj (.box (ZW n ks)))]⟩ (fun x S'=>Qs Qc E 0 (Zb QX G) JF 0 x S'))):Zx Qc E 0 (Zb QX G) (.inl JF) [] (Z9 11 [.agg [enc n.kind,enc n.line,enc n.name,enc n.num,enc n.elem,enc n.dims,enc n.data,enc n.sizes,enc n.ranks,enc ks]]):=Zx.mp (.req (.keep (.nil))) h
theorem c2a{G:PV->Prop}(E:YT)(n:Nd)(ks:List Tm)(c:Int)(h:G ((.int .i64 c))):Qs Qc E 0 (Zb QX G) JF 0 .normal ⟨ZL 11 0 [(3,.ptr 0 0)],[.obj (.box [.pv (.int .i64 c)])]⟩:=Zx.mp (.nil) h
def Jy:IC:=.skip
noncomputable def b5u:ZC:=YI [(58,.own Yu (Xh 80))]
theorem c4i{G:Zm->Prop}(E:YT)(n:Nd)(ks:List Tm)(c:Int)(v:Int)(h:E 99 ⟨ZL 11 0 [(3,(.ptr 0 0))],[(.obj (.box [(.pv (.int .i64 c))]))]⟩ (fun x S'=>Qs b5u E 1 (fun st=>G st.heap) Jy 99 x S')):Zx b5u E 1 (fun st=>G st.heap) (.inl Jy) [.seq (.ext 99 [3])] ⟨ZL 11 0 [(3,.ptr 0 0),(6,.pv (.agg [enc n.kind,enc n.line,enc n.name,enc n.num,enc n.elem,enc n.dims,enc n.data,enc n.sizes,enc n.ranks,enc ks])),(7,.pv (.int .i64 v))],[.obj (.box [.pv (.int .i64 c)])]⟩:=Zx.mh (.nil) h
def JI:IC:=(.block 1 (.reg [Zz 8 (DY [(.int .i64)] (.t 3)) 0,Zz 9 (Gm .add (.t 8) (Uu 1)) 0,Dv (.store 1 (.t 3) (.t 9)) 0] none))
noncomputable def b0z:ZC:=YI [(58,.own Yu (Xh 80))]
theorem b8p{G:Zm->Prop}(E:YT)(n:Nd)(ks:List Tm)(c:Int)(v:Int)(h:E 99 ⟨ZL 11 0 [],[(.obj (.box [(.pv (.int .i64 (IntKind.wrap IntKind.i64 (c+1))))]))]⟩ (fun x S'=>Qs b0z E 1 (fun st=>G st.heap) JI 99 x S')):Zx b0z E 1 (fun st=>G st.heap) (.inl JI) [.seq (.ext 99 [])] ⟨ZL 11 0 [(3,.ptr 0 0)],[.obj (.box [.pv (.int .i64 c)])]⟩:=Zx.mh (.lit (.nil)) h
noncomputable def Jj:IC:=icx Um Proofs.Tryz.f32
def Kn:List IRes:=[(.tmp 2)]
abbrev b9l:Nat:=29
noncomputable def Qg:ZC:=YI [(58,.own Yu (Xh 80)),(57,.own U9 (Ke 79)),(56,.own (WU 79) VZ)]
theorem c7r{G:PV->Prop}(E:YT)(n:Nd)(ks:List Tm)(h:(Yu [(.pv (.agg [(.int .i64 (Nd.kind n)),(.int .i64 (Nd.line n)),(.str (Str.s (Nd.name n))),(.int .i64 (Nd.num n)),(.str (Str.s (Nd.elem n))),(.sl 1 false (List.map enc (Nd.dims n))),(.sl 1 false (List.map enc (Nd.data n))),(.sl 2 false (List.map enc (Nd.sizes n))),(.sl 1 false (List.map enc (Nd.ranks n))),(.sl 10 false (List.map enc ks))]))] [])=true∧(E 0 ⟨ZL 29 0 [(3,(.ptr 0 0)),(4,.undef),(7,(.fn 80 [] [(.ptr 1 0)])),(8,.undef),(10,.undef),(11,.undef),(12,.undef),(13,.undef),(14,.undef),(15,.undef),(16,.undef),(17,.undef),(18,.undef),(19,.undef),(20,.undef),(21,.undef),(22,.undef),(23,.undef),(24,.undef),(25,.undef)],[(.obj (.box [(.map 2)])),(.obj (.box (ZW n ks))),(.obj (.map []))]⟩ (fun x S'=>Qs Qg E 0 (Zb Kn G) Jj 0 x S'))):Zx Qg E 0 (Zb Kn G) (.inl Jj) [] (Z9 29 [.agg [enc n.kind,enc n.line,enc n.name,enc n.num,enc n.elem,enc n.dims,enc n.data,enc n.sizes,enc n.ranks,enc ks]]):=Zx.mp (.req (.keep (.nil))) h
theorem c2z{G:PV->Prop}(E:YT)(n:Nd)(ks:List Tm)(m:List Str)(h:(WU 79 [(.fn 79 [] [(.ptr 0 0)])] [(.box [(.map 1)]),(.map (Yc m))])=true∧(G ((.sl 1 false (List.map PV.str (YZ (List.map Vi (Yc m)))))))):Qs Qg E 0 (Zb Kn G) Jj 0 .normal ⟨ZL 29 0 [(3,.ptr 0 0)],[.obj (.box [.map 1]),.obj (.map (Yc m))]⟩:=Zx.mp (.lit (.keep (.req (.keep (.nil))))) h
def Jw:IC:=(.reg [Zz 4 (.alloc (.agg [(.int .i64 0),(.int .i64 0),(.str []),(.int .i64 0),(.str []),(.sl 0 true []),(.sl 0 true []),(.sl 0 true []),(.sl 0 true []),(.sl 0 true [])])) 0,Dv (.store 10 (.t 4) (.t 8)) 1] none)
noncomputable def b6g:ZC:=YI [(58,.own Yu (Xh 80)),(57,.own U9 (Ke 79)),(56,.own (WU 79) VZ)]
theorem c0w{G:Zm->Prop}(E:YT)(n:Nd)(ks:List Tm)(m:List Str)(v:Int)(h:E 99 ⟨ZL 29 0 [(3,(.ptr 0 0)),(4,(.ptr 2 0))],[(.obj (.box [(.map 1)])),(.obj (.map (Yc m))),(.obj (.box (ZW n ks)))]⟩ (fun x S'=>Qs b6g E 2 (fun st=>G st.heap) Jw 99 x S')):Zx b6g E 2 (fun st=>G st.heap) (.inl Jw) [.seq (.ext 99 [3,4])] ⟨ZL 29 0 [(3,.ptr 0 0),(8,.pv (.agg [enc n.kind,enc n.line,enc n.name,enc n.num,enc n.elem,enc n.dims,enc n.data,enc n.sizes,enc n.ranks,enc ks])),(9,.pv (.int .i64 v))],[.obj (.box [.map 1]),.obj (.map (Yc m))]⟩:=Zx.mh (.nil) h
def VX:IC:=(.block 1 (WK [Zz 10 (.faddr 0 (.t 4)) 0,Zz 11 (DY [(.int .i64)] (.t 10)) 0,Zz 12 (Gm .eql (.t 11) (Uu 6)) 0,Zz 13 (X5 12) 0,r'' 14 (.faddr 0 (.t 4)) 0 13,r'' 15 (DY [(.int .i64)] (.t 14)) 0 13,r'' 16 (Gm .eql (.t 15) (Uu 8)) 0 13,Zz 17 (.pick (.t 13) (.c (.bool true)) (.t 16)) 0,Zz 18 (X5 17) 0,r'' 19 (.faddr 0 (.t 4)) 0 18,r'' 20 (DY [(.int .i64)] (.t 19)) 0 18,r'' 21 (Gm .eql (.t 20) (Uu 9)) 0 18,Zz 22 (.pick (.t 18) (.c (.bool true)) (.t 21)) 0] (.cond (.t 22) (.reg [Zz 23 (.load false [.any] (.t 3)) 0,Zz 24 (.faddr 2 (.t 4)) 0,Zz 25 (.load false [.str] (.t 24)) 0,Dv (.mapupd true (.t 23) (.t 25) (.c (.bool true))) 0] none) .skip)))
noncomputable def CU:ZC:=YI [(58,.own Yu (Xh 80)),(57,.own U9 (Ke 79)),(56,.own (WU 79) VZ)]
theorem c4f{G:Zm->Prop}(E:YT)(n:Nd)(ks:List Tm)(m:List Str)(v:Int)(h:if (Nd.kind n==6)=true then(V6 (enc (Nd.name n)) (PV.bool true) (Yc m))=true∧(E 99 ⟨ZL 29 0 [],[(.obj (.box [(.map 1)])),(.obj (.map (Wo (enc (Nd.name n)) (PV.bool true) (Yc m)))),(.obj (.box (ZW n ks)))]⟩ (fun x S'=>Qs CU E 3 (fun st=>G st.heap) VX 99 x S'))else(if (Nd.kind n==8)=true then(V6 (enc (Nd.name n)) (PV.bool true) (Yc m))=true∧(E 99 ⟨ZL 29 0 [],[(.obj (.box [(.map 1)])),(.obj (.map (Wo (enc (Nd.name n)) (PV.bool true) (Yc m)))),(.obj (.box (ZW n ks)))]⟩ (fun x S'=>Qs CU E 3 (fun st=>G st.heap) VX 99 x S'))else(if (Nd.kind n==9)=true then(V6 (enc (Nd.name n)) (PV.bool true) (Yc m))=true∧(E 99 ⟨ZL 29 0 [],[(.obj (.box [(.map 1)])),(.obj (.map (Wo (enc (Nd.name n)) (PV.bool true) (Yc m)))),(.obj (.box (ZW n ks)))]⟩ (fun x S'=>Qs CU E 3 (fun st=>G st.heap) VX 99 x S'))else(E 99 ⟨ZL 29 0 [],[(.obj (.box [(.map 1)])),(.obj (.map (Yc m))),(.obj (.box (ZW n ks)))]⟩ (fun x S'=>Qs CU E 3 (fun st=>G st.heap) VX 99 x S'))))):Zx CU E 3 (fun st=>G st.heap) (.inl VX) [.seq (.ext 99 [])] ⟨ZL 29 0 [(3,.ptr 0 0),(4,.ptr 2 0)],[.obj (.box [.map 1]),.obj (.map (Yc m)),.obj (.box [.pv (enc n.kind),.pv (enc n.line),.pv (enc n.name),.pv (enc n.num),.pv (enc n.elem),.pv (enc n.dims),.pv (enc n.data),.pv (enc n.sizes),.pv (enc n.ranks),.pv (enc ks)])]⟩:=Zx.mh (dm [] 41 0x10024222201222200642222012222222200a42) h
noncomputable def QS:IC:=icx Um Proofs.Tryz.f35
def U6:List IRes:=[(.cell true 10 4),(.cell false 1 5)]
abbrev c0u:Nat:=20
noncomputable def Uj:ZC:=YI [(58,.own Yu (Xh 80)),(71,.pure (preT (fun x:Tm×Unit=>tW x.1)) (Zj (fun x:Tm×Unit=>VV x.1)))]
theorem d0h{G:PV->Prop}(E:YT)(n:Nd)(ks:List Tm)(i:Int)(h:(Yu [(.pv (.agg [(.int .i64 (Nd.kind n)),(.int .i64 (Nd.line n)),(.str (Str.s (Nd.name n))),(.int .i64 (Nd.num n)),(.str (Str.s (Nd.elem n))),(.sl 1 false (List.map enc (Nd.dims n))),(.sl 1 false (List.map enc (Nd.data n))),(.sl 2 false (List.map enc (Nd.sizes n))),(.sl 1 false (List.map enc (Nd.ranks n))),(.sl 10 false (List.map enc ks))]))] [])=true∧(E 0 ⟨ZL 20 0 [(3,(.ptr 0 0)),(4,(.ptr 1 0)),(5,(.ptr 2 0)),(6,(.ptr 3 0)),(7,.undef),(9,(.fn 80 [] [(.ptr 4 0)])),(10,.undef),(12,.undef),(13,.undef),(14,.undef),(15,.undef),(16,.undef),(17,.undef),(18,.undef)],[(.obj (.box [(.pv (.int .i64 i))])),(.obj (.box [(.pv (.int .i64 0)),(.pv (.int .i64 0)),(.pv (.str [])),(.pv (.int .i64 0)),(.pv (.str [])),(.pv (.sl 0 true [])),(.pv (.sl 0 true [])),(.pv (.sl 0 true [])),(.pv (.sl 0 true [])),(.pv (.sl 0 true []))])),(.obj (.box [(.pv (.bool false))])),(.obj (.box [(.pv (.int .i64 0))])),(.obj (.box (ZW n ks)))]⟩ (fun x S'=>Qs Uj E 0 (Zb U6 G) QS 0 x S'))):Zx Uj E 0 (Zb U6 G) (.inl QS) [] (Z9 20 [.agg [enc n.kind,enc n.line,enc n.name,enc n.num,enc n.elem,enc n.dims,enc n.data,enc n.sizes,enc n.ranks,enc ks],.int .i64 i]):=Zx.mp (.req (.keep (.nil))) h
theorem c0l{G:PV->Prop}(E:YT)(n:Nd)(ks:List Tm)(i:Int)(c:Int)(h:G ((.tup [(.agg [(.int .i64 0),(.int .i64 0),(.str []),(.int .i64 0),(.str []),(.sl 0 true []),(.sl 0 true []),(.sl 0 true []),(.sl 0 true []),(.sl 0 true [])]),(.bool false)]))):Qs Uj E 0 (Zb U6 G) QS 0 .normal ⟨ZL 20 0 [(3,.ptr 0 0),(4,.ptr 1 0),(5,.ptr 2 0),(6,.ptr 3 0)],[.obj (.box [.pv (.int .i64 i)]),.obj (.box [.pv (.int .i64 0),.pv (.int .i64 0),.pv (.str []),.pv (.int .i64 0),.pv (.str []),.pv (.sl 0 true []),.pv (.sl 0 true []),.pv (.sl 0 true []),.pv (.sl 0 true []),.pv (.sl 0 true [])]),.obj (.box [.pv (.bool false)]),.obj (.box [.pv (.int .i64 c)])]⟩:=Zx.mp (.nil) h
theorem b0o{G:PV->Prop}(E:YT)(n:Nd)(ks:List Tm)(i:Int)(y:TS)(c:Int)(rest:List Slot)(h:G ((.tup [(.agg [(.int .i64 (Nd.kind (TS.n y))),(.int .i64 (Nd.line (TS.n y))),(.str (Str.s (Nd.name (TS.n y)))),(.int .i64 (Nd.num (TS.n y))),(.str (Str.s (Nd.elem (TS.n y)))),(.sl 1 false (List.map enc (Nd.dims (TS.n y)))),(.sl 1 false (List.map enc (Nd.data (TS.n y)))),(.sl 2 false (List.map enc (Nd.sizes (TS.n y)))),(.sl 1 false (List.map enc (Nd.ranks (TS.n y)))),(.sl 10 false (List.map enc (TS.k y)))]),(.bool true)]))):Qs Uj E 0 (Zb U6 G) QS 0 .ret ⟨ZL 20 0 [(3,.ptr 0 0),(4,.ptr 1 0),(5,.ptr 2 0),(6,.ptr 3 0)],(.obj (.box [.pv (.int .i64 i)]):: .obj (.box [.pv (enc y.n.kind),.pv (enc y.n.line),.pv (enc y.n.name),.pv (enc y.n.num),.pv (enc y.n.elem),.pv (enc y.n.dims),.pv (enc y.n.data),.pv (enc y.n.sizes),.pv (enc y.n.ranks),.pv (enc y.k)]):: .obj (.box [.pv (.bool true)])::rest)⟩:=Zx.mp (.nil) h
def JP:IC:=(.reg [Zz 7 (.alloc (.agg [(.int .i64 0),(.int .i64 0),(.str []),(.int .i64 0),(.str []),(.sl 0 true []),(.sl 0 true []),(.sl 0 true []),(.sl 0 true []),(.sl 0 true [])])) 0,Dv (.store 10 (.t 7) (.t 10)) 1] none)
noncomputable def a6t:ZC:=YI [(58,.own Yu (Xh 80)),(71,.pure (preT (fun x:Tm×Unit=>tW x.1)) (Zj (fun x:Tm×Unit=>VV x.1)))]
theorem b8c{G:Zm->Prop}(E:YT)(n:Nd)(ks:List Tm)(i:Int)(c:Int)(v:Int)(h:E 99 ⟨ZL 20 0 [(3,(.ptr 0 0)),(4,(.ptr 1 0)),(5,(.ptr 2 0)),(6,(.ptr 3 0)),(7,(.ptr 4 0))],[(.obj (.box [(.pv (.int .i64 i))])),(.obj (.box [(.pv (.int .i64 0)),(.pv (.int .i64 0)),(.pv (.str [])),(.pv (.int .i64 0)),(.pv (.str [])),(.pv (.sl 0 true [])),(.pv (.sl 0 true [])),(.pv (.sl 0 true [])),(.pv (.sl 0 true [])),(.pv (.sl 0 true []))])),(.obj (.box [(.pv (.bool false))])),(.obj (.box [(.pv (.int .i64 c))])),(.obj (.box (ZW n ks)))]⟩ (fun x S'=>Qs a6t E 4 (fun st=>G st.heap) JP 99 x S')):Zx a6t E 4 (fun st=>G st.heap) (.inl JP) [.seq (.ext 99 [3,4,5,6,7])] ⟨ZL 20 0 [(3,.ptr 0 0),(4,.ptr 1 0),(5,.ptr 2 0),(6,.ptr 3 0),(10,.pv (.agg [enc n.kind,enc n.line,enc n.name,enc n.num,enc n.elem,enc n.dims,enc n.data,enc n.sizes,enc n.ranks,enc ks])),(11,.pv (.int .i64 v))],[.obj (.box [.pv (.int .i64 i)]),.obj (.box [.pv (.int .i64 0),.pv (.int .i64 0),.pv (.str []),.pv (.int .i64 0),.pv (.str []),.pv (.sl 0 true []),.pv (.sl 0 true []),.pv (.sl 0 true []),.pv (.sl 0 true []),.pv (.sl 0 true [])]),.obj (.box [.pv (.bool false)]),.obj (.box [.pv (.int .i64 c)])]⟩:=Zx.mh (.nil) h
def JA:IC:=(.block 1 (.seq (WK [Zz 12 (DY [(.int .i64)] (.t 6)) 0,Zz 13 (DY [(.int .i64)] (.t 3)) 0,Zz 14 (Gm .eql (.t 12) (.t 13)) 0] (.cond (.t 14) (WK [Zz 15 (.load true [(.int .i64),(.int .i64),.str,(.int .i64),.str,(.sl 1),(.sl 1),(.sl 2),(.sl 1),(.sl 10)] (.t 7)) 0,Zz 16 (c'' 71 [(.t 15)]) 0,Dv (.store 10 (.t 4) (.t 16)) 2,Dv (.store 1 (.t 5) (.c (.bool true))) 2] .ret) .skip)) (.reg [Zz 17 (DY [(.int .i64)] (.t 6)) 0,Zz 18 (Gm .add (.t 17) (Uu 1)) 0,Dv (.store 1 (.t 6) (.t 18)) 0] none)))
noncomputable def b4h:ZC:=YI [(58,.own Yu (Xh 80)),(71,.pure (preT (fun x:Tm×Unit=>tW x.1)) (Zj (fun x:Tm×Unit=>VV x.1)))]
theorem c1k{G:Zm->Prop}(E:YT)(n:Nd)(ks:List Tm)(i:Int)(c:Int)(v:Int)(h:if (c==i)=true then(Go.Pl.preT (fun(x:Tm×Unit)=>tW x.1) (MW n ks))=true∧(∃ y0:TS,AV.pv (Zj (fun(x:Tm×Unit)=>VV x.1) (MW n ks))=AV.pv (enc y0)∧(G ([(.obj (.box [(.pv (.int .i64 i))])),(.obj (.box [(.pv (.int .i64 (Nd.kind (TS.n y0)))),(.pv (.int .i64 (Nd.line (TS.n y0)))),(.pv (.str (Str.s (Nd.name (TS.n y0))))),(.pv (.int .i64 (Nd.num (TS.n y0)))),(.pv (.str (Str.s (Nd.elem (TS.n y0))))),(.pv (.sl 1 false (List.map enc (Nd.dims (TS.n y0))))),(.pv (.sl 1 false (List.map enc (Nd.data (TS.n y0))))),(.pv (.sl 2 false (List.map enc (Nd.sizes (TS.n y0))))),(.pv (.sl 1 false (List.map enc (Nd.ranks (TS.n y0))))),(.pv (.sl 10 false (List.map enc (TS.k y0))))])),(.obj (.box [(.pv (.bool true))])),(.obj (.box [(.pv (.int .i64 c))])),(.obj (.box (ZW n ks))),.fresh,.fresh])))else(E 99 ⟨ZL 20 0 [],[(.obj (.box [(.pv (.int .i64 i))])),(.obj (.box [(.pv (.int .i64 0)),(.pv (.int .i64 0)),(.pv (.str [])),(.pv (.int .i64 0)),(.pv (.str [])),(.pv (.sl 0 true [])),(.pv (.sl 0 true [])),(.pv (.sl 0 true [])),(.pv (.sl 0 true [])),(.pv (.sl 0 true []))])),(.obj (.box [(.pv (.bool false))])),(.obj (.box [(.pv (.int .i64 (IntKind.wrap IntKind.i64 (c+1))))])),(.obj (.box (ZW n ks)))]⟩ (fun x S'=>Qs b4h E 5 (fun st=>G st.heap) JA 99 x S'))):Zx b4h E 5 (fun st=>G st.heap) (.inl JA) [.seq (.ext 99 [])] ⟨ZL 20 0 [(3,.ptr 0 0),(4,.ptr 1 0),(5,.ptr 2 0),(6,.ptr 3 0),(7,.ptr 4 0)],[.obj (.box [.pv (.int .i64 i)]),.obj (.box [.pv (.int .i64 0),.pv (.int .i64 0),.pv (.str []),.pv (.int .i64 0),.pv (.str []),.pv (.sl 0 true []),.pv (.sl 0 true []),.pv (.sl 0 true []),.pv (.sl 0 true []),.pv (.sl 0 true [])]),.obj (.box [.pv (.bool false)]),.obj (.box [.pv (.int .i64 c)]),.obj (.box [.pv (enc n.kind),.pv (enc n.line),.pv (enc n.name),.pv (enc n.num),.pv (enc n.elem),.pv (enc n.dims),.pv (enc n.data),.pv (enc n.sizes),.pv (enc n.ranks),.pv (enc ks)])]⟩:=Zx.mh (dm [dv TS] 11 0x205100342) h
end Go.Pl
namespace Go.Pl
open Go.RowKit
open Enc (enc dec is)
open EncL (encL decL isL)
set_option maxRecDepth 100000
abbrev d3l(ps:List PV)(k:Bool->Prop):Prop:=Qt (fun(x:Tm×Unit)=>tW (Prod.fst x)) (fun(x:Tm×Unit)=>Gu (Prod.fst x)) ps k
noncomputable def Rb:IC:=Wn Proofs.Tryz.f58
def Rf:List IRes:=[(.tmp 2)]
abbrev c0t:Nat:=4
def Oq:ZC:=YI []
theorem d1i{G:AV×List AObj×List AObj->Prop}(n:Nd)(ks:List Tm)(h:G (((.fn 80 [] [(.ptr 0 0)]),([],[(.box [(.pv (.int .i64 (Nd.kind n))),(.pv (.int .i64 (Nd.line n))),(.pv (.str (Str.s (Nd.name n)))),(.pv (.int .i64 (Nd.num n))),(.pv (.str (Str.s (Nd.elem n)))),(.pv (.sl 1 false (List.map enc (Nd.dims n)))),(.pv (.sl 1 false (List.map enc (Nd.data n)))),(.pv (.sl 2 false (List.map enc (Nd.sizes n)))),(.pv (.sl 1 false (List.map enc (Nd.ranks n)))),(.pv (.sl 10 false (List.map enc ks)))])])))):Zd Oq 0 (Yf 0 Rf G) Rb [] (XF 4 [.pv (.agg [enc n.kind,enc n.line,enc n.name,enc n.num,enc n.elem,enc n.dims,enc n.data,enc n.sizes,enc n.ranks,enc ks])] []):=Zd.to (.nil) h
noncomputable def GU:IC:=icx Um Proofs.Tryz.f22
def KR:List IRes:=[(.cell false 1 2)]
abbrev c7n:Nat:=23
noncomputable def KG:ZC:=YI [(58,.own Yu (Xh 80)),(59,.pure (preT (fun x:Tm×Unit=>tW x.1)) (Zj (fun x:Tm×Unit=>Gu x.1)))]
theorem d5e{G:PV->Prop}(E:YT)(n:Nd)(ks:List Tm)(h:(Yu [(.pv (.agg [(.int .i64 (Nd.kind n)),(.int .i64 (Nd.line n)),(.str (Str.s (Nd.name n))),(.int .i64 (Nd.num n)),(.str (Str.s (Nd.elem n))),(.sl 1 false (List.map enc (Nd.dims n))),(.sl 1 false (List.map enc (Nd.data n))),(.sl 2 false (List.map enc (Nd.sizes n))),(.sl 1 false (List.map enc (Nd.ranks n))),(.sl 10 false (List.map enc ks))]))] [])=true∧(E 0 ⟨ZL 23 0 [(2,(.ptr 0 0)),(3,(.ptr 1 0)),(4,.undef),(5,.undef),(7,(.fn 80 [] [(.ptr 2 0)])),(8,.undef),(9,.undef),(10,.undef),(11,.undef),(12,.undef),(13,.undef),(14,.undef),(15,.undef),(16,.undef),(17,.undef),(18,.undef),(19,.undef),(20,.undef),(21,.undef),(22,.undef)],[(.obj (.box [(.pv (.bool false))])),(.obj (.box [(.pv (.int .i64 0))])),(.obj (.box [(.pv (.int .i64 (Nd.kind n))),(.pv (.int .i64 (Nd.line n))),(.pv (.str (Str.s (Nd.name n)))),(.pv (.int .i64 (Nd.num n))),(.pv (.str (Str.s (Nd.elem n)))),(.pv (.sl 1 false (List.map enc (Nd.dims n)))),(.pv (.sl 1 false (List.map enc (Nd.data n)))),(.pv (.sl 2 false (List.map enc (Nd.sizes n)))),(.pv (.sl 1 false (List.map enc (Nd.ranks n)))),(.pv (.sl 10 false (List.map enc ks)))]))]⟩ (fun x S'=>Qs KG E 0 (Zb KR G) GU 0 x S'))):Zx KG E 0 (Zb KR G) (.inl GU) [] (Z9 23 [.agg [enc n.kind,enc n.line,enc n.name,enc n.num,enc n.elem,enc n.dims,enc n.data,enc n.sizes,enc n.ranks,enc ks]]):=Zx.mp (.req (.keep (.nil))) h
theorem c7x{G:PV->Prop}(E:YT)(n:Nd)(ks:List Tm)(c:Int)(h:G ((.bool true))):Qs KG E 0 (Zb KR G) GU 0 .normal ⟨ZL 23 0 [(2,.ptr 0 0),(3,.ptr 1 0)],[.obj (.box [.pv (.bool false)]),.obj (.box [.pv (.int .i64 c)])]⟩:=Zx.mp (.nil) h
theorem b9v{G:PV->Prop}(E:YT)(n:Nd)(ks:List Tm)(c:Int)(rest:List Slot)(h:G ((.bool false))):Qs KG E 0 (Zb KR G) GU 0 .ret ⟨ZL 23 0 [(2,.ptr 0 0),(3,.ptr 1 0)],(.obj (.box [.pv (.bool false)]):: .obj (.box [.pv (.int .i64 c)])::rest)⟩:=Zx.mp (.nil) h
def BQ:IC:=(WK [Zz 4 (.alloc (.agg [(.int .i64 0),(.int .i64 0),(.str []),(.int .i64 0),(.str []),(.sl 0 true []),(.sl 0 true []),(.sl 0 true []),(.sl 0 true []),(.sl 0 true [])])) 0,Dv (.store 10 (.t 4) (.t 8)) 1] (.reg [Zz 5 (X5 9) 0] none))
noncomputable def c6i:ZC:=YI [(58,.own Yu (Xh 80)),(59,.pure (preT (fun x:Tm×Unit=>tW x.1)) (Zj (fun x:Tm×Unit=>Gu x.1)))]
theorem d0i{G:Zm->Prop}(E:YT)(n:Nd)(ks:List Tm)(c v:Int)(h:E 99 ⟨ZL 23 0 [(2,(.ptr 0 0)),(3,(.ptr 1 0)),(4,(.ptr 2 0)),(5,(.pv (.int .i64 v)))],[(.obj (.box [(.pv (.bool false))])),(.obj (.box [(.pv (.int .i64 c))])),(.obj (.box [(.pv (.int .i64 (Nd.kind n))),(.pv (.int .i64 (Nd.line n))),(.pv (.str (Str.s (Nd.name n)))),(.pv (.int .i64 (Nd.num n))),(.pv (.str (Str.s (Nd.elem n)))),(.pv (.sl 1 false (List.map enc (Nd.dims n)))),(.pv (.sl 1 false (List.map enc (Nd.data n)))),(.pv (.sl 2 false (List.map enc (Nd.sizes n)))),(.pv (.sl 1 false (List.map enc (Nd.ranks n)))),(.pv (.sl 10 false (List.map enc ks)))]))]⟩ (fun x S'=>Qs c6i E 2 (fun st=>G st.heap) BQ 99 x S')):Zx c6i E 2 (fun st=>G st.heap) (.inl BQ) [.seq (.ext 99 [2,3,4,5])] ⟨ZL 23 0 [(2,.ptr 0 0),(3,.ptr 1 0),(8,.pv (.agg [enc n.kind,enc n.line,enc n.name,enc n.num,enc n.elem,enc n.dims,enc n.data,enc n.sizes,enc n.ranks,enc ks])),(9,.pv (.int .i64 v))],[.obj (.box [.pv (.bool false)]),.obj (.box [.pv (.int .i64 c)])]⟩:=Zx.mh (.nil) h
def CB:IC:=(.block 1 (WK [Zz 10 (DY [(.int .i64)] (.t 3)) 0,Zz 11 (Gm .add (.t 10) (Uu 1)) 0,Dv (.store 1 (.t 3) (.t 11)) 0] (WK [Zz 12 (DY [(.int .i64)] (.t 3)) 0,Zz 13 (Gm .gtr (.t 12) (Uu 400)) 0,Zz 14 (X5 13) 0,r'' 15 (X5 5) 0 14,r'' 16 (Gm .gtr (.t 15) (Uu 40)) 0 14,Zz 17 (.pick (.t 14) (.c (.bool true)) (.t 16)) 0,Zz 18 (X5 17) 0,r'' 19 (.load true [(.int .i64),(.int .i64),.str,(.int .i64),.str,(.sl 1),(.sl 1),(.sl 2),(.sl 1),(.sl 10)] (.t 4)) 0 18,r'' 20 (c'' 59 [(.t 19)]) 0 18,r'' 21 (.un .not (.t 20)) 2 18,Zz 22 (.pick (.t 18) (.c (.bool true)) (.t 21)) 2] (.cond (.t 22) (WK [Dv (.store 1 (.t 2) (.c (.bool false))) 0] .ret) .skip))))
noncomputable def c5g:ZC:=YI [(58,.own Yu (Xh 80)),(59,.pure (preT (fun x:Tm×Unit=>tW x.1)) (Zj (fun x:Tm×Unit=>Gu x.1)))]
theorem d0m{G:Zm->Prop}(E:YT)(n:Nd)(ks:List Tm)(c v:Int)(h:if (decide (IntKind.wrap IntKind.i64 (c+1)>400))=true then G ([(.obj (.box [(.pv (.bool false))])),(.obj (.box [(.pv (.int .i64 (IntKind.wrap IntKind.i64 (c+1))))])),(.obj (.box [(.pv (.int .i64 (Nd.kind n))),(.pv (.int .i64 (Nd.line n))),(.pv (.str (Str.s (Nd.name n)))),(.pv (.int .i64 (Nd.num n))),(.pv (.str (Str.s (Nd.elem n)))),(.pv (.sl 1 false (List.map enc (Nd.dims n)))),(.pv (.sl 1 false (List.map enc (Nd.data n)))),(.pv (.sl 2 false (List.map enc (Nd.sizes n)))),(.pv (.sl 1 false (List.map enc (Nd.ranks n)))),(.pv (.sl 10 false (List.map enc ks)))])),.fresh,.fresh])else(if (decide (v>40))=true then G ([(.obj (.box [(.pv (.bool false))])),(.obj (.box [(.pv (.int .i64 (IntKind.wrap IntKind.i64 (c+1))))])),(.obj (.box [(.pv (.int .i64 (Nd.kind n))),(.pv (.int .i64 (Nd.line n))),(.pv (.str (Str.s (Nd.name n)))),(.pv (.int .i64 (Nd.num n))),(.pv (.str (Str.s (Nd.elem n)))),(.pv (.sl 1 false (List.map enc (Nd.dims n)))),(.pv (.sl 1 false (List.map enc (Nd.data n)))),(.pv (.sl 2 false (List.map enc (Nd.sizes n)))),(.pv (.sl 1 false (List.map enc (Nd.ranks n)))),(.pv (.sl 10 false (List.map enc ks)))])),.fresh,.fresh])else((d3l [(.agg [(.int .i64 (Nd.kind n)),(.int .i64 (Nd.line n)),(.str (Str.s (Nd.name n))),(.int .i64 (Nd.num n)),(.str (Str.s (Nd.elem n))),(.sl 1 false (List.map enc (Nd.dims n))),(.sl 1 false (List.map enc (Nd.data n))),(.sl 2 false (List.map enc (Nd.sizes n))),(.sl 1 false (List.map enc (Nd.ranks n))),(.sl 10 false (List.map enc ks))])] fun y0=>(if (!y0)=true then G ([(.obj (.box [(.pv (.bool false))])),(.obj (.box [(.pv (.int .i64 (IntKind.wrap IntKind.i64 (c+1))))])),(.obj (.box [(.pv (.int .i64 (Nd.kind n))),(.pv (.int .i64 (Nd.line n))),(.pv (.str (Str.s (Nd.name n)))),(.pv (.int .i64 (Nd.num n))),(.pv (.str (Str.s (Nd.elem n)))),(.pv (.sl 1 false (List.map enc (Nd.dims n)))),(.pv (.sl 1 false (List.map enc (Nd.data n)))),(.pv (.sl 2 false (List.map enc (Nd.sizes n)))),(.pv (.sl 1 false (List.map enc (Nd.ranks n)))),(.pv (.sl 10 false (List.map enc ks)))])),.fresh,.fresh])else(E 99 ⟨ZL 23 0 [],[(.obj (.box [(.pv (.bool false))])),(.obj (.box [(.pv (.int .i64 (IntKind.wrap IntKind.i64 (c+1))))])),(.obj (.box [(.pv (.int .i64 (Nd.kind n))),(.pv (.int .i64 (Nd.line n))),(.pv (.str (Str.s (Nd.name n)))),(.pv (.int .i64 (Nd.num n))),(.pv (.str (Str.s (Nd.elem n)))),(.pv (.sl 1 false (List.map enc (Nd.dims n)))),(.pv (.sl 1 false (List.map enc (Nd.data n)))),(.pv (.sl 2 false (List.map enc (Nd.sizes n)))),(.pv (.sl 1 false (List.map enc (Nd.ranks n)))),(.pv (.sl 10 false (List.map enc ks)))]))]⟩ (fun x S'=>Qs c5g E 3 (fun st=>G st.heap) CB 99 x S'))))))):Zx c5g E 3 (fun st=>G st.heap) (.inl CB) [.seq (.ext 99 [])] ⟨ZL 23 0 [(2,.ptr 0 0),(3,.ptr 1 0),(4,.ptr 2 0),(5,.pv (.int .i64 v))],[.obj (.box [.pv (.bool false)]),.obj (.box [.pv (.int .i64 c)]),.obj (.box [.pv (enc n.kind),.pv (enc n.line),.pv (enc n.name),.pv (enc n.num),.pv (enc n.elem),.pv (enc n.dims),.pv (enc n.data),.pv (enc n.sizes),.pv (enc n.ranks),.pv (enc ks)])]⟩:=Zx.mh (dm [dv Bool] 38 0x142251202222005422202222222008422) h
end Go.Pl
namespace Go.Pl
open Go.RowKit
open Enc (enc dec is)
open EncL (encL decL isL)
theorem b9c{s:Str}:(s=⟨[]⟩) ↔ s.s=[]:=by cases s;simp
theorem b8x(n:Nd):YC n 0 0=Pz n:=by
 unfold YC Pz
 cases n.sizes <;> cases n.ranks <;> simp <;> omega
theorem c3l(k:Nat):((k:Int)=1) ↔ k=1:=by omega
theorem c3f(k:Nat):((k:Int)=2) ↔ k=2:=by omega
theorem c3m(k:Nat):((1:Int)<=(k:Int)) ↔ 1<=k:=by omega
theorem b1t(k:Nat):((k:Int)<=16) ↔ k<=16:=by omega
theorem b0d(n:Nd):YC n 1 0=(decide (n.sizes.length<=1)&&n.sizes.all ZM&&n.ranks.isEmpty):=by
 unfold YC
 rw[show decide ((n.sizes.length:Int)<=1)=decide (n.sizes.length<=1)from decide_eq_decide.2 (by omega),show decide ((n.ranks.length:Int)<=0)=n.ranks.isEmpty by cases n.ranks <;> simp <;> omega,Bool.and_assoc,Bool.and_assoc,Bool.and_comm n.ranks.isEmpty]
set_option maxHeartbeats 2000000 in
theorem a3j: ∀ x:Tm×Unit,tW x.1=true->Zd TL 0 (Zb Cz (Zo (Gu x.1))) Nw [] (Z9 b2o (encL x)):=by
 rintro⟨⟨n,ks⟩,⟨⟩⟩ ht
 rw[<- WM]
 show Zd TL 0 (Zb Cz (Zo (VW n ks.length))) _ _ _
 have hnm:decide (n.name.s.length<=1048576)=true:=decide_eq_true (Ol ht).name
 have har:a3y (Ps n)=true:=d0l ht
 have leaf : ∀ b:Bool,VW n ks.length=b->Zo (VW n ks.length) (.bool b):=fun b h=>ZF h.symm
 refine c4c n ks ?_
 refine Xf (fun h1=>leaf _ ?_) fun h1=>Xf (fun h2=>leaf _ ?_) fun h2=> ?_
 ·unfold VW;rw[decide_eq_false (by omega)];rfl
 ·unfold VW;rw[decide_eq_false (show ¬ n.line<=10000 by omega)];simp
 have hk:VW n ks.length=N7 n ks.length:=by
  unfold VW;rw[decide_eq_true (by omega),decide_eq_true (show n.line<=10000 by omega)];simp
 rw[hk]at leaf ⊢
 repeat' (first
  | refine VR (fun h=> ?_) (fun h=> ?_)
  | refine Xf (fun h=> ?_) (fun h=> ?_)
  | refine VE (fun h=> ?_) (fun h=> ?_)
  | refine⟨Ze (n.name,()) rfl hnm,Zg (n.name,()) rfl ?_⟩
  | refine⟨Ze (.mk n ks,0,0,()) (VF n ks 0 0) ht,Zg (.mk n ks,0,0,()) (VF n ks 0 0) ?_⟩
  | refine⟨Ze (.mk n ks,1,0,()) (VF n ks 1 0) ht,Zg (.mk n ks,1,0,()) (VF n ks 1 0) ?_⟩
  | refine⟨Ze (.mk n ks,()) (WM n ks) ht,Zg (.mk n ks,()) (WM n ks) ?_⟩
  | refine⟨Ze (Ps n,()) rfl har,Zg (Ps n,()) rfl ?_⟩
  | refine leaf _ ?_)
 all_goals clear ht hnm har leaf hk
 all_goals (unfold N7 Rw;simp_all[b9c,Tm.nd,Tm.ks,b8x,Ps,c3l,c3f,c3m,b1t,b0d])
 intro hk
 omega
end Go.Pl
namespace Go.Proofs.YtgdebdgkofkeeaaGreatDoor
open Go.RowKit Go.Pl
open Enc (enc dec is)
open EncL (encL decL isL)
set_option maxRecDepth 100000
def ndC(n:Nd)(ks:List Tm):List PV:=[enc n.kind,enc n.line,enc n.name,enc n.num,enc n.elem,enc n.dims,enc n.data,enc n.sizes,enc n.ranks,enc ks]
abbrev wkT:ZC:=YI []
def eW(L:List (Nat×AV)):List AV:=ZL 28 0 L
def wk0(n:Nd)(ks:List Tm)(lev:Int)(l:Nat):List (Nat×AV):=[(0,.pv (.agg (ndC n ks))),(1,.pv (.int .i64 lev)),(2,.yld l)]
def wk1(n:Nd)(ks:List Tm)(lev:Int)(l:Nat):List (Nat×AV):=wk0 n ks lev l++[(3,.ptr 0 0),(6,.pv (.bool false))]
def wk2(n:Nd)(ks:List Tm)(lev:Int)(l:Nat):List (Nat×AV):=wk1 n ks lev l++[(9,.yld l),(10,.pv (.agg (ndC n ks))),(11,.pv (.int .i64 lev))]
def wk3(n:Nd)(ks:List Tm)(lev:Int)(l:Nat)(b:Bool):List (Nat×AV):=wk2 n ks lev l++[(12,.pv (.bool b))]
def wk4(n:Nd)(ks:List Tm)(lev:Int)(l:Nat)(b:Bool):List (Nat×AV):=wk3 n ks lev l b++[(13,.pv (.bool (!b)))]
def wk5(n:Nd)(ks:List Tm)(lev:Int)(l:Nat):List (Nat×AV):=wk4 n ks lev l true++[(14,.ptr 0 9),(15,.pv (enc ks)),(16,.pv (.int .i64 (ks.map enc).length)),(17,.pv (.int .i64 0))]
def wl0(ks:List Tm)(lev:Int)(l:Nat)(i:Int):List (Nat×AV):=[(17,.pv (.int .i64 i)),(16,.pv (.int .i64 (ks.map enc).length)),(15,.pv (enc ks)),(1,.pv (.int .i64 lev)),(2,.yld l)]
def wl1(ks:List Tm)(lev:Int)(l:Nat)(i:Int):List (Nat×AV):=wl0 ks lev l i++[(18,.pv (.bool (decide (i<((ks.map enc).length:Int)))))]
def wl5(ks:List Tm)(lev:Int)(l:Nat)(i:Int)(n:Nd)(kk:List Tm):List (Nat×AV):=wl1 ks lev l i++[(19,.pv (.rptr (ndC n kk))),(20,.pv (.agg (ndC n kk))),(8,.ptr 0 0)]
def wl6(ks:List Tm)(lev:Int)(l:Nat)(i:Int)(n:Nd)(kk:List Tm):List (Nat×AV):=wl5 ks lev l i n kk++[(21,.pv (.agg (ndC n kk))),(22,.pv (.int .i64 lev)),(23,.pv (.int .i64 (IntKind.i64.wrap (lev+1)))),(24,.yld l)]
def wl7(ks:List Tm)(lev:Int)(l:Nat)(i:Int)(b:Bool):List (Nat×AV):=wl0 ks lev l i++[(25,.pv (.bool b))]
def wl8(ks:List Tm)(lev:Int)(l:Nat)(i:Int)(b:Bool):List (Nat×AV):=wl7 ks lev l i b++[(26,.pv (.bool (!b)))]
def wl9(ks:List Tm)(lev:Int)(l:Nat)(i:Int):List (Nat×AV):=[(27,.pv (.int .i64 (IntKind.i64.wrap (i+1)))),(17,.pv (.int .i64 (IntKind.i64.wrap (i+1)))),(16,.pv (.int .i64 (ks.map enc).length)),(15,.pv (enc ks)),(1,.pv (.int .i64 lev)),(2,.yld l)]
def bx(n:Nd)(ks:List Tm):Zm:=[.obj (.box ((ndC n ks).map .pv))]
theorem FU{T:ZC}{base d L sz:Nat}{env:List AV}{σ:Zm}{x i:IOp}{t:Bool}{xs:List PV}{n:Nat}{k:IntKind}{p:PV}{ps:List PI}(hx:ev env x = .pv (.sl sz t xs))(hi:ev env i = .pv (.int k (n:Int)))(hp:xs[n]? = some p):
  UH T base (⟨some d,.iaddr sz x i,L,none⟩::ps) ⟨env,σ⟩=UH T base ps ⟨env.set d (.pv (.rptr p.cells)),σ⟩:=by
 have hlt:n<xs.length:=(List.getElem?_eq_some_iff.1 hp).1
 have hg:xs[n]=p:=(List.getElem?_eq_some_iff.1 hp).2
 have h:(YQ T (base+L) env (.iaddr sz x i)).run σ=some (.pv (.rptr p.cells),σ):=by
  simp only[YQ,YA,hx,hi]
  simp[HM.run,hlt,hg]
 show(J7 T base ⟨some d,.iaddr sz x i,L,none⟩ ⟨env,σ⟩).bind (UH T base ps)=_
 simp only[J7,YH,h,Option.map_some,Option.bind_some,Z8]
set_option maxHeartbeats 1000000 in
theorem c9p: ∃ (o0 o1 o2 o3 o4 o5 o6 o7 o8 o9:Array Oper) (a1 b1 a6 b6:List Oper) (y c:Oper) (t1 t2:Array TypeId),
  Tryz.f81.body=some ((Code.region 0 o0 false).seq (((Code.region 1 o1 false).seq (Code.cond (.tmp 13) ((Code.region 2 o2 false).seq .ret) .skip)).seq (((Code.region 3 o3 false).seq (Code.block 0
   (Code.loop ((Code.region 4 o4 false).seq ((Code.cond (.tmp 18) .skip (.exit 0)).seq ((Code.block 1 ((Code.region 5 o5 false).seq ((Code.region 6 o6 false).seq (Code.cond (.tmp 26) ((Code.region 7 o7 false).seq .ret) .skip)))).seq (Code.region 8 o8 false))))))).seq ((Code.region 9 o9 false).seq .ret)))) ∧
  o1.toList=a1++y::b1∧y.op = .call {callee:=.value (.tmp 9),args:=#[.tmp 10,.tmp 11],argTypes:=t1}∧y.guard=none∧y.dst=some 12 ∧
  o6.toList=a6++c::b6∧c.op = .call {callee:=.value (.func 81),args:=#[.tmp 21,.tmp 23,.tmp 24],argTypes:=t2}∧c.guard=none∧c.dst=some 25 ∧
  (∀ n ks lev l,Qi Tryz.prog wkT o0 o0.toList ⟨eW (wk0 n ks lev l),[]⟩=some ⟨eW (wk1 n ks lev l),bx n ks⟩) ∧
  (∀ n ks lev l,Qi Tryz.prog wkT o1 a1 ⟨eW (wk1 n ks lev l),bx n ks⟩=some ⟨eW (wk2 n ks lev l),bx n ks⟩) ∧
  (∀ n ks lev l b,Qi Tryz.prog wkT o1 b1 ⟨eW (wk3 n ks lev l b),bx n ks⟩=some ⟨eW (wk4 n ks lev l b),bx n ks⟩) ∧
  (∀ L,Qi Tryz.prog wkT o2 o2.toList ⟨eW L,[]⟩=some ⟨(eW L).set 6 (.pv (.bool false)),[]⟩) ∧
  (∀ n ks lev l,Qi Tryz.prog wkT o3 o3.toList ⟨eW (wk4 n ks lev l true),bx n ks⟩=some ⟨eW (wk5 n ks lev l),bx n ks⟩) ∧
  (∀ ks lev l i,Qi Tryz.prog wkT o4 o4.toList ⟨eW (wl0 ks lev l i),[]⟩=some ⟨eW (wl1 ks lev l i),[]⟩) ∧
  (∀ ks lev l (i:Nat) n kk,ks[i]? = some (.mk n kk)->Qi Tryz.prog wkT o5 o5.toList ⟨eW (wl1 ks lev l i),[]⟩=some ⟨eW (wl5 ks lev l i n kk),bx n kk⟩) ∧
  (∀ ks lev l i n kk,Qi Tryz.prog wkT o6 a6 ⟨eW (wl5 ks lev l i n kk),bx n kk⟩=some ⟨eW (wl6 ks lev l i n kk),bx n kk⟩) ∧
  (∀ ks lev l i b,Qi Tryz.prog wkT o6 b6 ⟨eW (wl7 ks lev l i b),[]⟩=some ⟨eW (wl8 ks lev l i b),[]⟩) ∧
  (∀ L,Qi Tryz.prog wkT o7 o7.toList ⟨eW L,[]⟩=some ⟨(eW L).set 6 (.pv (.bool false)),[]⟩) ∧
  (∀ ks lev l i,Qi Tryz.prog wkT o8 o8.toList ⟨eW (wl0 ks lev l i),[]⟩=some ⟨eW (wl9 ks lev l i),[]⟩) ∧
  (∀ L,Qi Tryz.prog wkT o9 o9.toList ⟨eW L,[]⟩=some ⟨(eW L).set 6 (.pv (.bool true)),[]⟩):=by
 refine⟨_,_,_,_,_,_,_,_,_,_,[_,_,_],[_],[_,_,_,_],[_],_,_,_,_,rfl,rfl,rfl,rfl,rfl,rfl,rfl,rfl,rfl,?_,?_,?_,?_,?_,?_,?_,?_,?_,?_,?_,?_⟩
 ·intro n ks lev l;kernel_rfl
 ·intro n ks lev l;kernel_rfl
 ·intro n ks lev l b;kernel_rfl
 ·intro L;kernel_rfl
 ·intro n ks lev l;kernel_rfl
 ·intro ks lev l i;kernel_rfl
 ·intro ks lev l i n kk h
  unfold Qi
  refine(Option.bind_eq_some_iff).2 ⟨_,(show Yx _ _ _ _=some [⟨some 19,.iaddr 10 (.t 15) (.t 17),0,none⟩,⟨some 20,.load true [.int .i64,.int .i64,.str,.int .i64,.str,.sl 1,.sl 1,.sl 2,.sl 1,.sl 10] (.t 19),0,none⟩,⟨some 8,.alloc (.agg [.int .i64 0,.int .i64 0,.str [],.int .i64 0,.str [],.sl 0 true [],.sl 0 true [],.sl 0 true [],.sl 0 true [],.sl 0 true []]),0,none⟩,⟨none,.store 10 (.t 8) (.t 20),1,none⟩] by kernel_rfl),?_⟩
  have hk:(ks.map (enc:Tm->PV))[i]? = some (.agg (ndC n kk)):=by
   rw[List.getElem?_map,h,Option.map_some,Zq];rfl
  refine(FU (t:=false) (xs:=ks.map enc) (k:=.i64) (n:=i) rfl rfl hk).trans ?_
  kernel_rfl
 ·intro ks lev l i n kk;kernel_rfl
 ·intro ks lev l i b;kernel_rfl
 ·intro L;kernel_rfl
 ·intro ks lev l i;kernel_rfl
 ·intro L;kernel_rfl
def encNd(x:Tm×Int):List PV:=[enc x.1,.int .i64 x.2]
def F7(J:Nat->Zn->(Nat->Prop)->World->Prop)(Jx:Zn->(Nat->Prop)->World->Prop)(k:Nat)(Φ:Zn)(X:Nat->Prop)(W:World)(e:Ending)(W':World):Prop:=
 ∃ Φ',Φ.le Φ'∧(∀ b,X b->W'.heap[b]? = W.heap[b]?)∧((e = .returned (.bool true)∧J k Φ' X W')∨(e = .returned (.bool false)∧Jx Φ' X W'))
theorem UU(a b:List Tm):Zp (a++b)=Zp a+Zp b:=by rw[KJ,KJ,KJ,List.map_append,List.sum_append]
theorem PP(l:Nat)(a b:List Tm):ZG l (a++b)=ZG l a++ZG l b:=by rw[Qb,Qb,Qb,List.flatMap_append]
theorem Ow{ks:List Tm}{k:Tm}(h:k∈ks):Zv k<=Zp ks:=by
 induction ks with
 | nil=>cases h
 | cons a ks ih=>
  rw[Zp]
  rcases List.mem_cons.1 h with rfl|h
  ·omega
  ·have:=ih h;omega
theorem a6d(t:Tm):1<=Zv t:=by cases t;rw[Zv];omega
theorem Ej(ks:List Tm):ks.length<=Zp ks:=by
 induction ks with
 | nil=>simp
 | cons a ks ih=>have:=a6d a;rw[Zp,List.length_cons];omega
theorem Jl(n:Nd)(ks:List Tm):FH (bx n ks):=by
 intro l o h ty sz xs e
 subst e
 match l,h with
 | 0,h=>cases h
 | l+1,h=>simp[bx]at h
theorem UJ:FH []:=by
 intro l o h
 simp at h
theorem UY{Φ:Zn}{W:World}{a:Act}{env:List AV}(hg:GlobOK Φ)(hp:Z7 Φ W)(he:Yw (fun _ _=>none) Φ a.tmps env)(hd:a.defers=[]):Xj (entry (fun _ _=>none) Φ [] W) ⟨env,[]⟩ a W:=⟨_,Φ,Xr hg hp,he,hd⟩
theorem WB{μ':Mu}{Φ Φ':Zn}{σ':Zm}{W W':World}{X:Nat->Prop}(j1:Go.Pl.Good (entry (fun _ _=>none) Φ [] W) μ' Φ' σ' W')(hs:FH σ')(hx : ∀ b,X b->b<W.heap.size∧Φ b=none):
  Go.Pl.Steps X X Φ Φ' W W'∧(∀ b,X b->W'.heap[b]? = W.heap[b]?):=by
 obtain⟨h1,h2,h3⟩:=TG j1 hs hx
 exact⟨h1.drop fun b h=>.inl h,h2⟩
theorem UW{μ:Mu}{Φ:Zn}{a:Act}{env:List AV}{x:Operand}{y:IOp}{b:Bool}(h:Yw μ Φ a.tmps env)(hx:ZT x=some y)(he:ev env y = .pv (.bool b)):a.eval x = .bool b:=by
 have:=ZE h hx
 rw[he]at this
 generalize a.eval x=v at this ⊢
 cases ZP this
 rfl
theorem d0n{μ:Mu}{Φ:Zn}{a:Act}{env:List AV}{x:Operand}{y:IOp}{k:IntKind}{n:Int}(h:Yw μ Φ a.tmps env)(hx:ZT x=some y)(he:ev env y = .pv (.int k n)):a.eval x = .int k n:=by
 have:=ZE h hx
 rw[he]at this
 generalize a.eval x=v at this ⊢
 cases ZP this
 rfl
theorem F8{μ:Mu}{Φ:Zn}{a:Act}{env:List AV}{x:Operand}{y:IOp}{l:Nat}(h:Yw μ Φ a.tmps env)(hx:ZT x=some y)(he:ev env y = .yld l):a.eval x = .func (.yield l) #[] #[]:=by
 have:=ZE h hx
 rw[he]at this
 generalize a.eval x=v at this ⊢
 cases this
 rfl
theorem EW{μ:Mu}{Φ:Zn}{a:Act}{env:List AV}{x:Operand}{y:IOp}{p:PV}(h:Yw μ Φ a.tmps env)(hx:ZT x=some y)(he:ev env y = .pv p):RP Φ (a.eval x) p:=by
 have:=ZE h hx
 rw[he]at this
 exact ZP this
theorem c7g{id:Nat}{ops:Array Oper}{b:Bool}{Q:Yq}{a:Act}{w:World}{Φ:Zn}{X:Nat->Prop}{J:Zn->(Nat->Prop)->World->Prop}(hJ:JOK J)(hj:J Φ X w)(hd:a.defers=[])(hsz:a.tmps.size=28)
  (h : ∀ L,Qi Tryz.prog wkT ops ops.toList ⟨eW L,[]⟩=some ⟨(eW L).set 6 (.pv (.bool b)),[]⟩)
  (hQ : ∀ (a':Act) w' Φ',a'.defers=[]->a'.tmps.getD 6 undef = .bool b->Φ.le Φ'->(∀ b,X b->w'.heap[b]? = w.heap[b]?)->J Φ' X w'->Q .ret a' w'):((Code.region id ops false).seq .ret).wpIn (Ym none) 4 Tryz.prog Q a w:=by
 refine wpIn_seq (Gh Zi (h []) (UY (hJ.glob hj) (hJ.phi hj) (Ph (L:=[]) (n:=28) hsz (fun p hp=>by cases hp)) hd) ?_)
 rintro a' w' ⟨μ',Φ',hg,he,hd'⟩
 refine wpIn_ret ?_
 obtain⟨s1,s2⟩:=WB hg UJ (fun b hb=>hJ.out hj hb)
 exact hQ a' w' Φ' hd' (UW (x:=.tmp 6) (y:=.t 6) he rfl (by cases b <;> kernel_rfl)) hg.Φle s2 (hJ.step hj s1)
theorem d5r{Φ:Zn}{v:Value}{n:Nd}{ks:List Tm}{lev:Nat}{l:Nat}(hv:RP Φ v (.agg (ndC n ks))):Yw (fun _ _=>none) Φ (#[v,.int .i64 lev,.func (.yield l) #[] #[]]++Array.replicate 25 undef) (eW (wk0 n ks lev l)):=by
 refine Ph (by simp) ?_
 intro q hq u hu
 simp only[wk0,List.mem_cons,List.not_mem_nil,or_false]at hq
 rcases hq with rfl|rfl|rfl
 ·simp[Array.getElem?_append]at hu
  subst hu
  exact .pv _ _ hv
 ·simp[Array.getElem?_append]at hu
  subst hu
  exact .pv _ _ (.int _ _)
 ·simp[Array.getElem?_append]at hu
  subst hu
  exact .yld l
theorem FT{μ:Mu}{Φ:Zn}{t:Array Value}{L:List (Nat×AV)}(h:Yw μ Φ t (eW L)):t.size=28:=(Hr (n:=28) h).1
set_option maxHeartbeats 4000000 in
theorem b7v{l:Nat}{J:Nat->Zn->(Nat->Prop)->World->Prop}{Jx:Zn->(Nat->Prop)->World->Prop}{xs:List (Tm×Int)}(hJok : ∀ k,JOK (J k))(hJxok:JOK Jx)(hY:a0u Tryz.prog l encNd xs J Jx):
  ∀ (m:Nat) (t:Tm),SizeOf.sizeOf t<m-> ∀ (lev k:Nat) (Φ:Zn) (X:Nat->Prop) (W:World) (v:Value),J k Φ X W->RP Φ v (enc t)->(∀ i x,(Zt lev t)[i]? = some x->xs[k+i]? = some x)->lev+Zv t<=4611686018427387904 ->
   Calls Tryz.prog 81 #[v,.int .i64 lev,.func (.yield l) #[] #[]] W (F7 J Jx (k+Zv t) Φ X W):=by
 intro m
 induction m with
 | zero=>intro t h;omega
 | succ m ih=>
  intro t ht lev k Φ X W v hj hv hx hlev
  obtain⟨n,ks⟩:=t
  obtain⟨o0,o1,o2,o3,o4,o5,o6,o7,o8,o9,a1,b1,a6,b6,y,c,t1,t2,hbody,e1,y1,y2,y3,e6,c1,c2,c3,h0,h1,h1b,h2,h3,h4,h5,h6,h6b,h7,h8,h9⟩:=c9p
  rw[Zq]at hv
  refine callsIn_wide.1 (callsIn_of_wp (F:=Fence.wide) (n:=4) Tryz.func81 hbody trivial ?_ rfl)
  have hE0:Yw (fun _ _=>none) Φ (#[v,.int .i64 lev,.func (.yield l) #[] #[]]++Array.replicate 25 undef) (eW (wk0 n ks lev l)):=d5r hv
  have hX0 : ∀ b,X b->b<W.heap.size∧Φ b=none:=fun b hb=>(hJok k).out hj hb
  refine wpIn_seq (Gh (nn:=4) Zi (h0 n ks lev l) (UY ((hJok k).glob hj) ((hJok k).phi hj) hE0 rfl) ?_)
  intro a w hr
  refine wpIn_seq (wpIn_seq (wpIn_region_list ?_))
  rw[e1]
  refine Je Zi (fun o ho=>by rw[e1];simp[ho]) (h1 n ks lev l) hr ?_
  rintro a2 w2 ⟨μ2,Φ2,hg2,he2,hd2⟩
  obtain⟨s2,k2,n2⟩:=TG hg2 (Jl n ks) hX0
  have hj2:=(hJok k).step hj s2
  have hx0:xs[k]? = some (.mk n ks,(lev:Int)):=hx 0 _ (by rw[Zt];rfl)
  have r10:RP Φ2 (a2.eval (.tmp 10)) (enc (Tm.mk n ks)):=by
   rw[Zq]
   exact EW he2 (y:=.t 10) rfl (by kernel_rfl)
  have r11:RP Φ2 (a2.eval (.tmp 11)) (.int .i64 lev):=EW he2 (y:=.t 11) rfl (by kernel_rfl)
  have hvs:Xa Φ2 (#[a2.eval (.tmp 10),a2.eval (.tmp 11)]:Array Value).toList (encNd (.mk n ks,(lev:Int))):=b3c r10 (b3c r11 a2r)
  refine a7m y1 y2 y3 (F8 he2 (y:=.t 9) rfl (by kernel_rfl)) (vs:=#[a2.eval (.tmp 10),a2.eval (.tmp 11)]) (by simp) (hY 3 k _ Φ2 _ w2 _ hx0 hj2 hvs) ?_
  rintro e w3 ⟨Φ3,hle3,hkeep3,hres⟩
  -- both answers
  have both : ∀ (b:Bool) (JJ:Zn->(Nat->Prop)->World->Prop),JOK JJ->JJ Φ3 (fun b=>X b∨H8 μ2 (bx n ks) b) w3-> 
    Xj (entry μ2 Φ3 (bx n ks) w3) ⟨eW (wk3 n ks lev l b),bx n ks⟩ (a2.put (some 12) (.bool b)) w3:=by
   intro b JJ hJJ hjj
   refine⟨μ2,Φ3,hg2.moved (hJJ.glob hjj) hle3 (hJJ.phi hjj) (fun q hq=>hkeep3 q (.inr hq)) (fun q hq=>(hJJ.out hjj (.inr hq)).2) (Jl n ks),?_,by rw[Xt];exact hd2⟩
   have:=U3 (d:=some 12) (he2.mono (.refl _) hle3) (.pv _ _ (.bool b))
   exact this
  have fin : ∀ (b:Bool) (a':Act) (w':World) (Φ':Zn),a'.defers=[]->a'.tmps.getD 6 undef = .bool b->(F7 J Jx (k+Zv (.mk n ks)) Φ X W (.returned (.bool b)) w')->bodyPost Tryz.prog Tryz.f81 (F7 J Jx (k+Zv (.mk n ks)) Φ X W) .ret a' w':=by
   intro b a' w' Φ' hd h6 hp
   refine bodyPost_ret (results_tmp rfl _ _ _) hd ?_
   rw[h6]
   exact hp
  rcases hres with ⟨rfl,hj3⟩|⟨rfl,hj3⟩
  ·refine⟨_,rfl,?_⟩
   rw[<- List.append_nil b1]
   refine Je Zi (fun o ho=>by rw[e1];simp[ho]) (h1b n ks lev l true) (both true _ (hJok _) hj3) ?_
   intro a4 w4 hr4
   have he4:=hr4
   obtain⟨μ4,Φ4,hg4,he4,hd4⟩:=he4
   refine wpIn_cond (t:=false) (UW (x:=.tmp 13) (y:=.t 13) he4 rfl (by kernel_rfl)) (wpIn_skip ?_)
   refine wpIn_seq (wpIn_seq (Gh (nn:=4) Zi (h3 n ks lev l) hr4 ?_))
   rintro a5 w5 ⟨μ5,Φ5,hg5,he5,hd5⟩
   have hX3 : ∀ b,X b->b<w3.heap.size∧Φ3 b=none:=fun b hb=>(hJok _).out hj3 (.inl hb)
   obtain⟨s5,k5⟩:=GL hg5 (Jl n ks) hX3 n2
   have hj5:=(hJok _).step hj3 (s5.drop (Y:=X) fun b h=>.inl h)
   have hk5 : ∀ b,X b->w5.heap[b]? = W.heap[b]? :=fun b hb=>(k5 b hb).trans ((hkeep3 b (.inl hb)).trans (k2 b hb))
   have hle5:Φ.le Φ5:=hg2.Φle.trans (hle3.trans hg5.Φle)
   have he5':Yw (fun _ _=>none) Φ5 a5.tmps (eW (wl0 ks lev l 0)):=b7m (n:=28) he5 (.refl _) (by
    intro p hp
    simp only[wl0,List.mem_cons,List.not_mem_nil,or_false]at hp
    rcases hp with rfl|rfl|rfl|rfl|rfl <;> exact⟨by simp,rfl,rfl⟩)
   clear both hr4 hg4 he4 hd4 hE0 hr hg2 he2 hd2 r10 r11 hvs
   refine wpIn_block (wpIn_loop_ghost (fun(z:Nat) (a:Act) (w:World)=> ∃ (i:Nat) (Φ':Zn),z=ks.length - i∧i<=ks.length∧Φ.le Φ'∧(∀ b,X b->w.heap[b]? = W.heap[b]?)∧J (k+1+Zp (ks.take i)) Φ' X w∧Yw (fun _ _=>none) Φ' a.tmps (eW (wl0 ks lev l i))∧a.defers=[]) _
    ⟨0,Φ5,rfl,Nat.zero_le _,hle5,hk5,hj5,he5',hd5⟩ ?_)
   clear hj5 hk5 hle5 he5' hd5 s5 k5 hg5 he5
   rintro z a w ⟨i,Φi,rfl,hi,hle,hk,hj,he,hd⟩
   have hXi : ∀ b,X b->b<w.heap.size∧Φi b=none:=fun b hb=>(hJok _).out hj hb
   refine wpIn_seq (Gh (nn:=4) Zi (h4 ks lev l i) (UY ((hJok _).glob hj) ((hJok _).phi hj) he hd) ?_)
   intro a7 w7 hr7
   have hr7':=hr7
   obtain⟨μ7,Φ7,hg7,he7,hd7⟩:=hr7'
   by_cases hlt:i<ks.length
   ·have hb:decide ((i:Int)<((ks.map (enc:Tm->PV)).length:Int))=true:=by simpa using hlt
    refine wpIn_seq (wpIn_cond (t:=true) (UW (x:=.tmp 18) (y:=.t 18) he7 rfl (by rw[<- hb];kernel_rfl)) (wpIn_skip ?_))
    obtain⟨kn,kk,hkk⟩ : ∃ kn kk,ks[i]? = some (.mk kn kk):=by
     cases hki:ks[i]with
     | mk kn kk=>exact⟨kn,kk,by rw[List.getElem?_eq_getElem hlt,hki]⟩
    refine wpIn_seq (wpIn_block (wpIn_seq (Gh (nn:=4) Zi (h5 ks lev l i kn kk hkk) hr7 ?_)))
    intro a8 w8 hr8
    refine wpIn_seq (wpIn_region_list ?_)
    rw[e6]
    refine Je Zi (fun o ho=>by rw[e6];simp[ho]) (h6 ks lev l i kn kk) hr8 ?_
    rintro a9 w9 ⟨μ9,Φ9,hg9,he9,hd9⟩
    obtain⟨s9,k9⟩:=WB hg9 (Jl kn kk) hXi
    have hj9:=(hJok _).step hj s9
    have hmem:Tm.mk kn kk∈ks:=List.mem_of_getElem? hkk
    have hsz:=FR (n:=n) hmem
    have hdm:=Ow hmem
    have hdp:Zv (.mk n ks)=Zp ks+1:=by rw[Zv]
    have hkl:=Ej ks
    have hcut:ks=ks.take i++(.mk kn kk)::ks.drop (i+1):=by
     have h:=List.getElem?_eq_some_iff.1 hkk
     obtain⟨h1,h2⟩:=h
     rw[<- h2,List.getElem_cons_drop,List.take_append_drop]
    have r21:RP Φ9 (a9.eval (.tmp 21)) (enc (Tm.mk kn kk)):=by
     rw[Zq]
     exact EW he9 (y:=.t 21) rfl (by kernel_rfl)
    have e23:a9.eval (.tmp 23) = .int .i64 ((lev+1:Nat):Int):=by
     have:=d0n (x:=.tmp 23) (y:=.t 23) he9 rfl (by kernel_rfl:_=AV.pv (.int .i64 (IntKind.i64.wrap ((lev:Int)+1))))
     rw[this,next (by omega)]
    have e24:a9.eval (.tmp 24) = .func (.yield l) #[] #[]:=F8 he9 (y:=.t 24) rfl (by kernel_rfl)
    have hxk : ∀ j x,(Zt (lev+1) (.mk kn kk))[j]? = some x->xs[k+1+Zp (ks.take i)+j]? = some x:=by
     intro j x hjx
     have:(Zt lev (.mk n ks))[1+Zp (ks.take i)+j]? = some x:=by
      rw[Zt,show 1+Zp (ks.take i)+j=(Zp (ks.take i)+j)+1 by omega,List.getElem?_cons_succ,hcut,PP,ZG,<- hcut,<- KZ (lev+1) (ks.take i),
       List.getElem?_append_right (by omega),Nat.add_sub_cancel_left,List.getElem?_append_left (List.getElem?_eq_some_iff.1 hjx).1,hjx]
     have:=hx _ _ this
     rw[<- this]
     congr 1
     omega
    have hcall:=ih (.mk kn kk) (by omega) (lev+1) (k+1+Zp (ks.take i)) Φ9 X w9 _ hj9 r21 hxk (by omega)
    refine LW c1 c2 c3 Tryz.func81 rfl (by kernel_rfl) (vs:=#[a9.eval (.tmp 21),.int .i64 ((lev+1:Nat):Int),.func (.yield l) #[] #[]]) (by simp only[List.map_toArray,List.map_cons,List.map_nil,e23,e24]) hcall ?_
    rintro e w10 ⟨Φ10,hle10,hkeep10,hres⟩
    have hks : ∀ b,X b->w10.heap[b]? = W.heap[b]? :=fun b hb=>(hkeep10 b hb).trans ((k9 b hb).trans (hk b hb))
    have he10 : ∀ b,Yw (fun _ _=>none) Φ10 (a9.put (some 25) (.bool b)).tmps (eW (wl7 ks lev l i b)):=by
     intro b
     have h:=U3 (d:=some 25) (he9.mono (.refl _) hle10) (.pv _ _ (.bool b))
     refine b7m (n:=28) (L:=wl6 ks lev l i kn kk++[(25,.pv (.bool b))]) h (.refl _) ?_
     intro p hp
     simp only[wl7,wl0,List.mem_cons,List.mem_append,List.not_mem_nil,or_false]at hp
     rcases hp with (rfl|rfl|rfl|rfl|rfl)|rfl <;> exact⟨by simp,rfl,rfl⟩
    have hsz10:ks.take (i+1)=ks.take i++[.mk kn kk]:=by rw[List.take_add_one,hkk];rfl
    rcases hres with ⟨rfl,hj10⟩|⟨rfl,hj10⟩
    ·refine⟨_,rfl,?_⟩
     rw[<- List.append_nil b6]
     refine Je Zi (fun o ho=>by rw[e6];simp[ho]) (h6b ks lev l i true) (UY ((hJok _).glob hj10) ((hJok _).phi hj10) (he10 true) (by rw[Xt];exact hd9)) ?_
     intro a11 w11 hr11
     obtain⟨μ11,Φ11,hg11,he11,hd11⟩:=hr11
     obtain⟨s11,k11⟩:=WB hg11 UJ (fun b hb=>(hJok _).out hj10 hb)
     have hj11:=(hJok _).step hj10 s11
     refine wpIn_cond (t:=false) (UW (x:=.tmp 26) (y:=.t 26) he11 rfl (by kernel_rfl)) (wpIn_skip ?_)
     have he11':Yw (fun _ _=>none) Φ11 a11.tmps (eW (wl0 ks lev l i)):=b7m (n:=28) he11 (.refl _) (by
      intro p hp
      simp only[wl0,List.mem_cons,List.not_mem_nil,or_false]at hp
      rcases hp with rfl|rfl|rfl|rfl|rfl <;> exact⟨by simp,rfl,rfl⟩)
     refine Gh (nn:=4) Zi (h8 ks lev l i) (UY ((hJok _).glob hj11) ((hJok _).phi hj11) he11' hd11) ?_
     rintro a12 w12 ⟨μ12,Φ12,hg12,he12,hd12⟩
     obtain⟨s12,k12⟩:=WB hg12 UJ (fun b hb=>(hJok _).out hj11 hb)
     have hj12:=(hJok _).step hj11 s12
     refine⟨ks.length - (i+1),by omega,i+1,Φ12,rfl,hlt,hle.trans (hg9.Φle.trans (hle10.trans (hg11.Φle.trans hg12.Φle))),fun b hb=>(k12 b hb).trans ((k11 b hb).trans (hks b hb)),?_,?_,hd12⟩
     ·rw[hsz10,UU,Zp,Zp,Nat.add_zero,<- Nat.add_assoc]
      exact hj12
     ·refine b7m (n:=28) he12 (.refl _) ?_
      intro p hp
      simp only[wl0,List.mem_cons,List.not_mem_nil,or_false]at hp
      rcases hp with rfl|rfl|rfl|rfl|rfl
      ·exact⟨by simp,by rw[<- next (show i<9223372036854775807 by omega)];rfl,rfl⟩
      all_goals exact⟨by simp,rfl,rfl⟩
    ·refine⟨_,rfl,?_⟩
     rw[<- List.append_nil b6]
     refine Je Zi (fun o ho=>by rw[e6];simp[ho]) (h6b ks lev l i false) (UY (hJxok.glob hj10) (hJxok.phi hj10) (he10 false) (by rw[Xt];exact hd9)) ?_
     rintro a11 w11 ⟨μ11,Φ11,hg11,he11,hd11⟩
     obtain⟨s11,k11⟩:=WB hg11 UJ (fun b hb=>hJxok.out hj10 hb)
     have hj11:=hJxok.step hj10 s11
     refine wpIn_cond (t:=true) (UW (x:=.tmp 26) (y:=.t 26) he11 rfl (by kernel_rfl)) ?_
     refine c7g hJxok hj11 hd11 (FT he11) h7 ?_
     intro a' w' Φ' hd' h6' hle' hk' hj'
     refine fin false a' w' Φ' hd' h6' ⟨Φ',?_,fun b hb=>(hk' b hb).trans ((k11 b hb).trans (hks b hb)),.inr ⟨rfl,hj'⟩⟩
     exact hle.trans (hg9.Φle.trans (hle10.trans (hg11.Φle.trans hle')))
   ·have hb:decide ((i:Int)<((ks.map (enc:Tm->PV)).length:Int))=false:=by simpa using hlt
    refine wpIn_seq (wpIn_cond (t:=false) (UW (x:=.tmp 18) (y:=.t 18) he7 rfl (by rw[<- hb];kernel_rfl)) (wpIn_exit ?_))
    obtain⟨s7,k7⟩:=WB hg7 UJ hXi
    have hj7:=(hJok _).step hj s7
    have hii:i=ks.length:=by omega
    subst hii
    rw[List.take_length]at hj7
    show((Code.region 9 o9 false).seq .ret).wpIn _ _ _ _ _ _
    refine c7g (hJok _) hj7 hd7 (FT he7) h9 ?_
    intro a' w' Φ' hd' h6' hle' hk' hj'
    refine fin true a' w' Φ' hd' h6' ⟨Φ',hle.trans (hg7.Φle.trans hle'),fun b hb=>(hk' b hb).trans ((k7 b hb).trans (hk b hb)),.inl ⟨rfl,?_⟩⟩
    rw[Zv,show k+(Zp ks+1)=k+1+Zp ks by omega]
    exact hj'
  ·refine⟨_,rfl,?_⟩
   rw[<- List.append_nil b1]
   refine Je Zi (fun o ho=>by rw[e1];simp[ho]) (h1b n ks lev l false) (both false _ hJxok hj3) ?_
   rintro a4 w4 ⟨μ4,Φ4,hg4,he4,hd4⟩
   refine wpIn_cond (t:=true) (UW (x:=.tmp 13) (y:=.t 13) he4 rfl (by kernel_rfl)) ?_
   obtain⟨s4,k4⟩:=GL hg4 (Jl n ks) (fun b hb=>hJxok.out hj3 (.inl hb)) n2
   have hj4:=hJxok.step hj3 (s4.drop (Y:=X) fun b h=>.inl h)
   refine c7g hJxok hj4 hd4 (FT he4) h2 ?_
   intro a' w' Φ' hd' h6' hle' hk' hj'
   exact fin false a' w' Φ' hd' h6' ⟨Φ',hg2.Φle.trans (hle3.trans (hg4.Φle.trans hle')),fun b hb=>(hk' b hb).trans ((k4 b hb).trans ((hkeep3 b (.inl hb)).trans (k2 b hb))),.inr ⟨rfl,hj'⟩⟩
def d2c(pss:List (List PV)):Tm:=match pss with
 | [ps]=>dec (.agg ps)
 | _=>.mk nd0 []
noncomputable def pre_ndI(pss:List (List PV)):Bool:=match pss with
 | [ps]=>can Tm (.agg ps)&&decide (Zv (dec (.agg ps))<=1048576)
 | _=>false
def F_ndI(pss:List (List PV)):List (Tm×Int):=Zt 1 (d2c pss)
theorem tmOf_nd(n:Nd)(ks:List Tm):d2c [ndC n ks] = .mk n ks:=by
 show dec (PV.agg (ndC n ks))=_
 rw[show(PV.agg (ndC n ks))=enc (Tm.mk n ks)from(Zq n ks).symm,Enc.dec_enc]
theorem pre_nd{n:Nd}{ks:List Tm}(h:Zv (.mk n ks)<=1048576):pre_ndI [ndC n ks]=true:=by
 show(can Tm (.agg (ndC n ks))&&decide (Zv (dec (PV.agg (ndC n ks)))<=1048576))=true
 rw[show(PV.agg (ndC n ks))=enc (Tm.mk n ks)from(Zq n ks).symm,Enc.dec_enc,Uc,Bool.true_and]
 exact decide_eq_true h
theorem c8r: ∃ (o:Array Oper) (a:List Oper) (c:Oper) (t:Array TypeId),Tryz.f80.body=some (.region 0 o false)∧o.toList=a++[c] ∧
  c.op = .call {callee:=.value (.func 81),args:=#[.tmp 3,.const (.int .i64 1),.tmp 4],argTypes:=t}∧c.guard=none∧c.dst=some 5 ∧
  ∀ n ks l,Qi Tryz.prog wkT o a ⟨ZL 6 0 [(0,.yld l),(1,.pv (.rptr (ndC n ks)))],[]⟩=some ⟨ZL 6 0 [(0,.yld l),(1,.pv (.rptr (ndC n ks))),(3,.pv (.agg (ndC n ks))),(4,.yld l)],[]⟩:=by
 refine⟨_,[_,_],_,_,rfl,rfl,rfl,rfl,rfl,?_⟩
 intro n ks l
 kernel_rfl
set_option maxHeartbeats 1000000 in
theorem JC:b2i Tryz.prog 80 encNd pre_ndI F_ndI:=by
 refine⟨⟨_,Tryz.func80,rfl,rfl⟩,?_⟩
 intro pss hpre Φ0 lb l J Jx W hcaps hJok hJxok hY h0
 unfold pre_ndI at hpre
 split at hpre
 ·rename_i ps
  simp only[Bool.and_eq_true,decide_eq_true_eq]at hpre
  obtain⟨hc,hsz⟩:=hpre
  obtain⟨t,ht⟩:=Rx hc
  obtain⟨n,ks⟩:=t
  rw[ht,Enc.dec_enc]at hsz
  rw[Zq]at ht
  obtain rfl:ps=ndC n ks:=by injection ht
  have hF:F_ndI [ndC n ks]=Zt 1 (.mk n ks):=by unfold F_ndI;rw[tmOf_nd]
  rw[hF]at hY ⊢
  obtain⟨lb⟩:=lb
  match lb,hcaps.1 with
  | [p1],_=>
   obtain⟨B1,c1,rfl,g1,r1,o1⟩:=hcaps.2 0 p1 _ rfl rfl
   have k1:=a6c g1 r1 o1
   obtain⟨o,a,c,t,hbody,e1,c1,c2,c3,hgo⟩:=c8r
   refine callsIn_wide.1 (callsIn_of_wp (F:=Fence.wide) (n:=4) Tryz.func80 hbody trivial ?_ rfl)
   have hE:Yw (fun _ _=>none) Φ0 ((#[Value.func (.yield l) #[] #[]]++ #[Value.pointer (some ⟨B1,0,none⟩)])++Array.replicate 4 undef) (ZL 6 0 [(0,.yld l),(1,.pv (.rptr (ndC n ks)))]):=by
    refine Ph (by simp) ?_
    intro q hq u hu
    simp only[List.mem_cons,List.not_mem_nil,or_false]at hq
    rcases hq with rfl|rfl
    ·simp[Array.getElem?_append]at hu
     subst hu
     exact .yld l
    ·simp[Array.getElem?_append]at hu
     subst hu
     exact .pv _ _ k1
   refine wpIn_region_list ?_
   rw[e1]
   refine Je (nn:=4) Zi (fun x hx=>by rw[e1];simp[hx]) (hgo n ks l) (UY ((hJok 0).glob h0) ((hJok 0).phi h0) hE rfl) ?_
   rintro a2 w2 ⟨μ2,Φ2,hg2,he2,hd2⟩
   obtain⟨s2,k2⟩:=WB (X:=fun _=>False) hg2 UJ (fun b hb=>hb.elim)
   have hj2:=(hJok _).step h0 s2
   have r3:RP Φ2 (a2.eval (.tmp 3)) (enc (Tm.mk n ks)):=by
    rw[Zq]
    exact EW he2 (y:=.t 3) rfl (by kernel_rfl)
   have e4:a2.eval (.tmp 4) = .func (.yield l) #[] #[]:=F8 he2 (y:=.t 4) rfl (by kernel_rfl)
   have hcall:=b7v hJok hJxok hY (SizeOf.sizeOf (Tm.mk n ks)+1) (.mk n ks) (Nat.lt_succ_self _) 1 0 Φ2 _ w2 _ hj2 r3 (fun i x h=>by rw[Nat.zero_add];exact h) (by omega)
   refine LW c1 c2 c3 Tryz.func81 rfl (by kernel_rfl) (vs:=#[a2.eval (.tmp 3),.int .i64 ((1:Nat):Int),.func (.yield l) #[] #[]]) (by simp only[List.map_toArray,List.map_cons,List.map_nil,e4];rfl) hcall ?_
   rintro e w3 ⟨Φ3,hle3,hkeep3,hres⟩
   have fin : ∀ v,(∃ Φ' X',J (Zt 1 (.mk n ks)).length Φ' X' w3∨Jx Φ' X' w3)->wpListIn (Ym none) 4 Tryz.prog o (bodyPost Tryz.prog Tryz.f80 fun e W'=>(∃ v,e = .returned v)∧ ∃ Φ' X',(J (Zt 1 (.mk n ks)).length Φ' X' W'∨Jx Φ' X' W')) [] (a2.put (some 5) v) w3:=by
    intro v hv
    exact⟨by rw[Xt];exact hd2,_,results_none rfl _ _ _,⟨_,rfl⟩,hv⟩
   rcases hres with ⟨rfl,hj3⟩|⟨rfl,hj3⟩
   ·refine⟨_,rfl,fin _ ⟨Φ3,fun _=>False,.inl ?_⟩⟩
    rw[XX,<- Nat.zero_add (Zv _)]
    exact hj3
   ·exact⟨_,rfl,fin _ ⟨Φ3,_,.inr hj3⟩⟩
 ·cases hpre
end Go.Proofs.YtgdebdgkofkeeaaGreatDoor
namespace Go.Pl
open Go.RowKit
open Enc (enc dec is)
open EncL (encL decL isL)
open Go.Proofs.YtgdebdgkofkeeaaGreatDoor (encNd pre_ndI F_ndI tmOf_nd pre_nd)
theorem a6z: ∀ args os,Yu args os=true->Zd Oq os.length (Yf os.length Rf fun r=>r=Xh 80 args os) Rb [] (XF c0t args os):=by
 intro args os h
 unfold Yu at h
 split at h
 ·obtain⟨⟨n,ks⟩,rfl⟩:=Rx h
  rw[Zq]
  exact d1i n ks rfl
 ·cases h
def tvI(t:Tm)(k:Nat)(σ:Zm):Prop:=(∀ j p,j<k->(Zt 1 t)[j]? = some p->okN j p=true)∧k<=400∧σ=[.obj (.box [.pv (.bool false)]),.obj (.box [.pv (.int .i64 k)])]
def tvX(t:Tm)(σ:Zm):Prop:=VH t=false∧ ∃ (c:Int) (r:List Slot),σ = .obj (.box [.pv (.bool false)]):: .obj (.box [.pv (.int .i64 c)])::r
def tvE:YT:=fun n st q=>n=0∧Cr KG 0 (.t 7) 80 [8,9] BQ CB encNd pre_ndI F_ndI st q
def tvM(t:Tm)(k:Nat)(x:Tm×Int)(st:St):Prop:=(∀ j p,j<k->(Zt 1 t)[j]? = some p->okN j p=true)∧k<=400 ∧
 st=⟨ZL 23 0 [(2,.ptr 0 0),(3,.ptr 1 0),(4,.ptr 2 0),(5,.pv (.int .i64 x.2))],[.obj (.box [.pv (.bool false)]),.obj (.box [.pv (.int .i64 k)]),.obj (.box ((Go.Proofs.YtgdebdgkofkeeaaGreatDoor.ndC x.1.nd x.1.ks).map .pv))]⟩
theorem c1v: ∀ x:Tm×Unit,tW x.1=true->VN KG tvE 0 (Zb KR (Zo (VH x.1))) GU [] (Z9 c7n (encL x)):=by
 rintro⟨t,⟨⟩⟩ ht
 have ht:tW t=true:=ht
 obtain⟨n,ks⟩:=t
 rw[<- WM]
 show VN KG tvE 0 (Zb KR (Zo (VH (.mk n ks)))) _ _ _
 have hsz:Zv (.mk n ks)<=1048576:=Nat.le_trans (UM _) (of_decide_eq_true ht)
 have hF:F_ndI [Go.Proofs.YtgdebdgkofkeeaaGreatDoor.ndC n ks]=Zt 1 (.mk n ks):=by unfold F_ndI;rw[tmOf_nd]
 refine d5e tvE n ks ⟨?_,rfl,[2],[Go.Proofs.YtgdebdgkofkeeaaGreatDoor.ndC n ks],[2,3],[2,3,4,5],[],⟨ZL 23 0 [(2,.ptr 0 0),(3,.ptr 1 0)],[.obj (.box [.pv (.bool false)]),.obj (.box [.pv (.int .i64 0)])]⟩,tvI (.mk n ks),tvX (.mk n ks),tvM (.mk n ks),
  rfl,by simp,rfl,?_,by kernel_rfl,pre_nd hsz,⟨fun j p hj=>by omega,by omega,rfl⟩,?_,?_,?_,?_⟩
 ·show can Tm (PV.agg (Go.Proofs.YtgdebdgkofkeeaaGreatDoor.ndC n ks))=true
  rw[show(PV.agg (Go.Proofs.YtgdebdgkofkeeaaGreatDoor.ndC n ks))=enc (Tm.mk n ks)from(Zq n ks).symm,Uc]
 ·intro j l ps hl hps
  match j with
  | 0=>cases hl;cases hps;rfl
  | j+1=>simp at hl
 ·rintro k ⟨⟨xn,xk⟩,v⟩ σ hx ⟨hall,hk,rfl⟩
  have e:Ja [8,9] ((encNd (.mk xn xk,v)).map .pv) (ZL 23 0 [(2,.ptr 0 0),(3,.ptr 1 0)])=ZL 23 0 [(2,.ptr 0 0),(3,.ptr 1 0),(8,.pv (.agg (Go.Proofs.YtgdebdgkofkeeaaGreatDoor.ndC xn xk))),(9,.pv (.int .i64 v))]:=by
   show Ja [8,9] (([enc (Tm.mk xn xk),.int .i64 v]).map .pv) _=_
   rw[Zq]
   kernel_rfl
  rw[e]
  exact d0i (G:=fun _=>False) _ xn xk k v ⟨rfl,hall,hk,rfl⟩
 ·rintro k ⟨⟨xn,xk⟩,v⟩ st hx ⟨hall,hk,rfl⟩
  rw[hF]at hx
  have hno:=fun h=>b3w (.mk n ks) hx h
  have hw:IntKind.i64.wrap ((k:Int)+1)=((k+1:Nat):Int):=next (by omega)
  refine d0m (G:=tvX (.mk n ks)) _ xn xk k v ?_
  rw[hw]
  have bad:okN k (.mk xn xk,v)=false-> ∀ r,tvX (.mk n ks) (.obj (.box [.pv (.bool false)]):: .obj (.box [.pv (.int .i64 ((k+1:Nat):Int))])::r):=fun h r=>⟨hno h,_,r,rfl⟩
  refine Xf (fun h1=>bad ?_ _) fun h1=>Xf (fun h2=>bad ?_ _) fun h2=>⟨Ze (.mk xn xk,()) (WM xn xk) (QL ht (List.mem_of_getElem? hx)),Zg (.mk xn xk,()) (WM xn xk) (VT (fun h3=>bad ?_ _) fun h3=>⟨rfl,⟨ZL 23 0 [(2,.ptr 0 0),(3,.ptr 1 0)],[.obj (.box [.pv (.bool false)]),.obj (.box [.pv (.int .i64 ((k+1:Nat):Int))])]⟩,by kernel_rfl,rfl,?_,?_,rfl⟩)⟩
  ·unfold okN;rw[decide_eq_false (show ¬ k<400 by omega)];rfl
  ·unfold okN;rw[decide_eq_false (show ¬ v<=40 by omega),Bool.and_false];rfl
  ·have h3:Gu (.mk xn xk)=false:=h3
   unfold okN;rw[h3,Bool.and_false]
  ·have h3:Gu (.mk xn xk)=true:=h3
   intro j p hj hp
   rw[Nat.lt_succ_iff_lt_or_eq]at hj
   rcases hj with hj|rfl
   ·exact hall j p hj hp
   ·rw[hx]at hp
    cases hp
    unfold okN
    rw[h3,decide_eq_true (show j<400 by omega),decide_eq_true (show v<=40 by omega)];rfl
  ·omega
 ·rintro σ ⟨hall,hk,rfl⟩
  refine c7x tvE n ks _ (ZF (a3k _ fun j p hp=>hall j p ?_ hp).symm)
  rw[hF]
  exact(List.getElem?_eq_some_iff.1 hp).1
 ·rintro σ ⟨hv,c,r,rfl⟩
  exact b9v tvE n ks c r (ZF hv.symm)
end Go.Pl
namespace Go.Pl
open Go.RowKit
open Enc (enc dec is)
open EncL (encL decL isL)
open Go.Proofs.YtgdebdgkofkeeaaGreatDoor (encNd pre_ndI F_ndI tmOf_nd pre_nd)
abbrev Ku(n:Nd)(ks:List Tm):List PV:=Go.Proofs.YtgdebdgkofkeeaaGreatDoor.ndC n ks
def G6(t:Tm):Int:=Zv t
def c2r(t:Tm)(k:Nat)(σ:Zm):Prop:=σ=[.obj (.box [.pv (.int .i64 (((Zt 1 t).take k).length:Int))])]
def d3r(t:Tm)(k:Nat)(x:Tm×Int)(st:St):Prop:=st=⟨ZL 11 0 [(3,.ptr 0 0)],[.obj (.box [.pv (.int .i64 (((Zt 1 t).take k).length:Int))])]⟩
def a3v:YT:=fun n st q=>n=0∧Cr Qc 0 (.t 5) 80 [6,7] Jy JI encNd pre_ndI F_ndI st q
theorem c1e: ∀ x:Tm×Unit,tW x.1=true->VN Qc a3v 0 (Zb QX (Zo (G6 x.1))) JF [] (Z9 c2q (encL x)):=by
 rintro⟨t,⟨⟩⟩ ht
 have ht:tW t=true:=ht
 obtain⟨n,ks⟩:=t
 rw[<- WM]
 show VN Qc a3v 0 (Zb QX (Zo (G6 (.mk n ks)))) _ _ _
 have hsz:Zv (.mk n ks)<=1048576:=Nat.le_trans (UM _) (of_decide_eq_true ht)
 have hlen:(Zt 1 (.mk n ks)).length=Zv (.mk n ks):=XX _ _
 have hF:F_ndI [Ku n ks]=Zt 1 (.mk n ks):=by unfold F_ndI;rw[tmOf_nd]
 refine c6z a3v n ks ⟨?_,rfl,[1],[Ku n ks],[3],[3],[],⟨ZL 11 0 [(3,.ptr 0 0)],[.obj (.box [.pv (.int .i64 0)])]⟩,c2r (.mk n ks),fun _=>False,d3r (.mk n ks),rfl,by simp,rfl,?_,by kernel_rfl,pre_nd hsz,rfl,?_,?_,?_,?_⟩
 ·show can Tm (PV.agg (Ku n ks))=true
  rw[show(PV.agg (Ku n ks))=enc (Tm.mk n ks)from(Zq n ks).symm,Uc]
 ·intro j l ps hl hps
  match j with
  | 0=>cases hl;cases hps;rfl
  | j+1=>simp at hl
 ·rintro k ⟨⟨xn,xk⟩,v⟩ σ hx hi
  unfold c2r at hi
  subst hi
  have e:Ja [6,7] ((encNd (.mk xn xk,v)).map .pv) (ZL 11 0 [(3,.ptr 0 0)])=ZL 11 0 [(3,.ptr 0 0),(6,.pv (.agg (Ku xn xk))),(7,.pv (.int .i64 v))]:=by
   show Ja [6,7] (([enc (Tm.mk xn xk),.int .i64 v]).map .pv) _=_
   rw[Zq]
   kernel_rfl
  rw[e]
  exact c4i (G:=fun _=>False) _ xn xk _ v ⟨rfl,rfl⟩
 ·rintro k ⟨⟨xn,xk⟩,v⟩ st hx hst
  unfold d3r at hst
  subst hst
  rw[hF]at hx
  have hk:k<Zv (.mk n ks):=by rw[<- hlen];exact(List.getElem?_eq_some_iff.1 hx).1
  have ek:(Zt 1 (.mk n ks)).take (k+1)=(Zt 1 (.mk n ks)).take k++[(.mk xn xk,v)]:=by rw[List.take_add_one,hx];rfl
  refine b8p (G:=fun _=>False) _ xn xk _ v ⟨rfl,_,rfl,rfl,?_⟩
  unfold c2r
  rw[ek,List.length_append,next (by rw[List.length_take];omega)]
  rfl
 ·rintro σ hi
  unfold c2r at hi
  subst hi
  rw[hF,List.take_length]
  exact c2a a3v n ks _ (Ux (by unfold G6;rw[hlen]))
 ·exact fun σ h=>h.elim
def mxF(c v:Int):Int:=if v>c then v else c
mutual
theorem b5w: ∀ (t:Tm) (l:Nat) (c:Int),((Zt l t).map (·.2)).foldl mxF c=max c ((l:Int)+ZQ t - 1)
 | .mk n ks,l,c=>by
  rw[Zt,List.map_cons,List.foldl_cons,Sd ks (l+1) (mxF c l) (by unfold mxF;split <;> omega),ZQ]
  unfold mxF
  split <;> omega
theorem Sd: ∀ (ks:List Tm) (l:Nat) (c:Int),(l:Int) - 1<=c->((ZG l ks).map (·.2)).foldl mxF c=max c ((l:Int)+ZZ ks - 1)
 | [],l,c,h=>by rw[ZG,ZZ];simp;omega
 | k::ks,l,c,h=>by
  rw[ZG,List.map_append,List.foldl_append,b5w k l c,Sd ks l _ (by omega),ZZ]
  omega
end
theorem b9g{t:Tm}(h:tW t=true): ∀ s∈(Yk t).flatMap Vd,s.s.length<=1048576:=by
 intro s hs
 obtain⟨p,hp,hs⟩:=List.mem_flatMap.1 hs
 unfold Yk at hp
 obtain⟨q,hq,rfl⟩:=List.mem_map.1 hp
 have hw:=QL h hq
 unfold Vd at hs
 split at hs
 ·have:s=q.1.nd.name:=by simpa using hs
  subst this
  obtain⟨⟨n,ks⟩,l⟩:=q
  exact(Ol hw).name
 ·cases hs
theorem ND{α β:Type}(f:α->List β)(hf : ∀ x,(f x).length<=1): ∀ l:List α,(l.flatMap f).length<=l.length
 | []=>by simp
 | a::l=>by have:=hf a;have:=ND f hf l;rw[List.flatMap_cons,List.length_append,List.length_cons];omega
theorem a4x(t:Tm):((Yk t).flatMap Vd).length<=Zv t:=by
 have:=ND Vd (fun x=>by unfold Vd;split <;> simp) (Yk t)
 rw[JV]at this
 exact this
def Oa(t:Tm)(k:Nat)(σ:Zm):Prop:=σ=[.obj (.box [.map 1]),.obj (.map (Yc (Wz ((((Zt 1 t).take k).map (·.1)).flatMap Vd))))]
def d5d(t:Tm)(k:Nat)(x:Tm×Int)(st:St):Prop:=st=⟨ZL 29 0 [(3,.ptr 0 0),(4,.ptr 2 0)],[.obj (.box [.map 1]),.obj (.map (Yc (Wz ((((Zt 1 t).take k).map (·.1)).flatMap Vd)))),.obj (.box (ZW x.1.nd x.1.ks))]⟩
def a4t:YT:=fun n st q=>n=0∧Cr Qg 0 (.t 7) 80 [8,9] Jw VX encNd pre_ndI F_ndI st q
theorem b9i: ∀ x:Tm×Unit,tW x.1=true->VN Qg a4t 0 (Zb Kn (Zo (KV x.1))) Jj [] (Z9 b9l (encL x)):=by
 rintro⟨t,⟨⟩⟩ ht
 have ht:tW t=true:=ht
 obtain⟨n,ks⟩:=t
 rw[<- WM]
 show VN Qg a4t 0 (Zb Kn (Zo (KV (.mk n ks)))) _ _ _
 have hsz:Zv (.mk n ks)<=1048576:=Nat.le_trans (UM _) (of_decide_eq_true ht)
 have hlen:(Zt 1 (.mk n ks)).length=Zv (.mk n ks):=XX _ _
 have hF:F_ndI [Ku n ks]=Zt 1 (.mk n ks):=by unfold F_ndI;rw[tmOf_nd]
 refine c7r a4t n ks ⟨?_,rfl,[1],[Ku n ks],[3],[3,4],[],⟨ZL 29 0 [(3,.ptr 0 0)],[.obj (.box [.map 1]),.obj (.map (Yc []))]⟩,Oa (.mk n ks),fun _=>False,d5d (.mk n ks),rfl,by simp,rfl,?_,by kernel_rfl,pre_nd hsz,rfl,?_,?_,?_,?_⟩
 ·show can Tm (PV.agg (Ku n ks))=true
  rw[show(PV.agg (Ku n ks))=enc (Tm.mk n ks)from(Zq n ks).symm,Uc]
 ·intro j l ps hl hps
  match j with
  | 0=>cases hl;cases hps;rfl
  | j+1=>simp at hl
 ·rintro k ⟨⟨xn,xk⟩,v⟩ σ hx hi
  unfold Oa at hi
  subst hi
  have e:Ja [8,9] ((encNd (.mk xn xk,v)).map .pv) (ZL 29 0 [(3,.ptr 0 0)])=ZL 29 0 [(3,.ptr 0 0),(8,.pv (.agg (Ku xn xk))),(9,.pv (.int .i64 v))]:=by
   show Ja [8,9] (([enc (Tm.mk xn xk),.int .i64 v]).map .pv) _=_
   rw[Zq]
   kernel_rfl
  rw[e]
  exact c0w (G:=fun _=>False) _ xn xk _ v ⟨rfl,rfl⟩
 ·rintro k ⟨⟨xn,xk⟩,v⟩ st hx hst
  unfold d5d at hst
  subst hst
  rw[hF]at hx
  have hk:k<Zv (.mk n ks):=by rw[<- hlen];exact(List.getElem?_eq_some_iff.1 hx).1
  have ek:(Zt 1 (.mk n ks)).take (k+1)=(Zt 1 (.mk n ks)).take k++[(.mk xn xk,v)]:=by rw[List.take_add_one,hx];rfl
  have yes:(xn.kind=6∨xn.kind=8∨xn.kind=9)->V6 (enc xn.name) (PV.bool true) (Yc (Wz (((Zt 1 (.mk n ks)).take k).map (·.1) |>.flatMap Vd)))=true∧Oa (.mk n ks) (k+1) [.obj (.box [.map 1]),.obj (.map (Wo (enc xn.name) (PV.bool true) (Yc (Wz (((Zt 1 (.mk n ks)).take k).map (·.1) |>.flatMap Vd)))))]:=fun h=>by
   refine⟨(H6 _ xn.name).1,?_⟩
   unfold Oa
   rw[show Wo (enc xn.name) (PV.bool true) (Yc (Wz (((Zt 1 (.mk n ks)).take k).map (·.1) |>.flatMap Vd)))=_ from(H6 _ xn.name).2,ek,List.map_append,List.flatMap_append]
   unfold Wz
   rw[List.foldl_append,List.map_cons,List.map_nil,List.flatMap_cons,List.flatMap_nil]
   rw[show Vd (.mk xn xk)=[xn.name]from if_pos h]
   rfl
  have no : ¬ (xn.kind=6∨xn.kind=8∨xn.kind=9)->Oa (.mk n ks) (k+1) [.obj (.box [.map 1]),.obj (.map (Yc (Wz (((Zt 1 (.mk n ks)).take k).map (·.1) |>.flatMap Vd))))]:=fun h=>by
   unfold Oa
   rw[ek,List.map_append,List.flatMap_append,List.map_cons,List.map_nil,List.flatMap_cons,List.flatMap_nil,show Vd (.mk xn xk)=[]from if_neg h]
   simp
  refine c4f (G:=fun _=>False) _ xn xk _ v (VR (fun h1=>⟨(yes (.inl h1)).1,rfl,_,rfl,rfl,(yes (.inl h1)).2⟩) fun h1=>VR (fun h2=>⟨(yes (.inr (.inl h2))).1,rfl,_,rfl,rfl,(yes (.inr (.inl h2))).2⟩) fun h2=>VR (fun h3=>⟨(yes (.inr (.inr h3))).1,rfl,_,rfl,rfl,(yes (.inr (.inr h3))).2⟩) fun h3=>⟨rfl,_,rfl,rfl,no (by rintro(h|h|h);exact h1 h;exact h2 h;exact h3 h)⟩)
 ·rintro σ hi
  unfold Oa at hi
  subst hi
  rw[hF,List.take_length]
  refine c2z a4t n ks _ ⟨?_,?_⟩
  ·show(79==79&&Kb (Yc (Wz ((Yk (.mk n ks)).flatMap Vd))))=true
   rw[b4z (b9g ht) (by have:=a4x (.mk n ks);omega)]
   simp
  ·show Zo _ (PV.sl 1 false (List.map PV.str (YZ (List.map Vi (Yc (Wz ((Yk (.mk n ks)).flatMap Vd)))))))
   rw[Ns]
   exact Ua rfl
 ·exact fun σ h=>h.elim
def d6x(i:Int)(k:Nat)(σ:Zm):Prop:=(∀ j:Nat,j<k->(j:Int)≠i)∧σ=[.obj (.box [.pv (.int .i64 i)]),.obj (.box [.pv (.int .i64 0),.pv (.int .i64 0),.pv (.str []),.pv (.int .i64 0),.pv (.str []),.pv (.sl 0 true []),.pv (.sl 0 true []),.pv (.sl 0 true []),.pv (.sl 0 true []),.pv (.sl 0 true [])]),.obj (.box [.pv (.bool false)]),.obj (.box [.pv (.int .i64 k)])]
def d1q(t:Tm)(i:Int)(σ:Zm):Prop:= ∃ (y:TS) (r:List Slot),WJ t i=some y.t∧σ = .obj (.box [.pv (.int .i64 i)]):: .obj (.box [.pv (enc y.n.kind),.pv (enc y.n.line),.pv (enc y.n.name),.pv (enc y.n.num),.pv (enc y.n.elem),.pv (enc y.n.dims),.pv (enc y.n.data),.pv (enc y.n.sizes),.pv (enc y.n.ranks),.pv (enc y.k)]):: .obj (.box [.pv (.bool true)])::r
def d7f(i:Int)(k:Nat)(x:Tm×Int)(st:St):Prop:=(∀ j:Nat,j<k->(j:Int)≠i)∧st=⟨ZL 20 0 [(3,.ptr 0 0),(4,.ptr 1 0),(5,.ptr 2 0),(6,.ptr 3 0),(7,.ptr 4 0)],[.obj (.box [.pv (.int .i64 i)]),.obj (.box [.pv (.int .i64 0),.pv (.int .i64 0),.pv (.str []),.pv (.int .i64 0),.pv (.str []),.pv (.sl 0 true []),.pv (.sl 0 true []),.pv (.sl 0 true []),.pv (.sl 0 true []),.pv (.sl 0 true [])]),.obj (.box [.pv (.bool false)]),.obj (.box [.pv (.int .i64 k)]),.obj (.box (ZW x.1.nd x.1.ks))]⟩
def FO:YT:=fun n st q=>n=0∧Cr Uj 0 (.t 9) 80 [10,11] JP JA encNd pre_ndI F_ndI st q
theorem Ll(y:TS):Zo (y.t,true) (.tup [(.agg [(.int .i64 (Nd.kind (TS.n y))),(.int .i64 (Nd.line (TS.n y))),(.str (Str.s (Nd.name (TS.n y)))),(.int .i64 (Nd.num (TS.n y))),(.str (Str.s (Nd.elem (TS.n y)))),(.sl 1 false (List.map enc (Nd.dims (TS.n y)))),(.sl 1 false (List.map enc (Nd.data (TS.n y)))),(.sl 2 false (List.map enc (Nd.sizes (TS.n y)))),(.sl 1 false (List.map enc (Nd.ranks (TS.n y)))),(.sl 10 false (List.map enc (TS.k y)))]),(.bool true)]):=by
 show Zo (y.t,true) (PV.tup [enc y,.bool true])
 rw[show(enc y:PV)=enc y.t from Gg y.t]
 exact Ua (β:=Tm×Bool) rfl
theorem Bg:Zo (tm0,false) (.tup [(.agg [(.int .i64 0),(.int .i64 0),(.str []),(.int .i64 0),(.str []),(.sl 0 true []),(.sl 0 true []),(.sl 0 true []),(.sl 0 true []),(.sl 0 true [])]),(.bool false)]):=⟨rfl,rfl⟩
theorem b8m: ∀ x:Tm×Int×Unit,tW x.1=true->VN Uj FO 0 (Zb U6 (Zo (Xo (WJ x.1 x.2.1)))) QS [] (Z9 c0u (encL x)):=by
 rintro⟨t,i,⟨⟩⟩ ht
 have ht:tW t=true:=ht
 obtain⟨n,ks⟩:=t
 rw[show(encL ((Tm.mk n ks,i,()):Tm×Int×Unit))=[PV.agg (Ku n ks),.int .i64 i] by show [enc (Tm.mk n ks),_]=_;rw[Zq];rfl]
 show VN Uj FO 0 (Zb U6 (Zo (Xo (WJ (.mk n ks) i)))) _ _ _
 have hsz:Zv (.mk n ks)<=1048576:=Nat.le_trans (UM _) (of_decide_eq_true ht)
 have hlen:(Zt 1 (.mk n ks)).length=Zv (.mk n ks):=XX _ _
 have hF:F_ndI [Ku n ks]=Zt 1 (.mk n ks):=by unfold F_ndI;rw[tmOf_nd]
 refine d0h FO n ks i ⟨?_,rfl,[4],[Ku n ks],[3,4,5,6],[3,4,5,6,7],[],⟨ZL 20 0 [(3,.ptr 0 0),(4,.ptr 1 0),(5,.ptr 2 0),(6,.ptr 3 0)],[.obj (.box [.pv (.int .i64 i)]),.obj (.box [.pv (.int .i64 0),.pv (.int .i64 0),.pv (.str []),.pv (.int .i64 0),.pv (.str []),.pv (.sl 0 true []),.pv (.sl 0 true []),.pv (.sl 0 true []),.pv (.sl 0 true []),.pv (.sl 0 true [])]),.obj (.box [.pv (.bool false)]),.obj (.box [.pv (.int .i64 0)])]⟩,d6x i,d1q (.mk n ks) i,d7f i,rfl,by simp,rfl,?_,by kernel_rfl,pre_nd hsz,⟨fun j hj=>by omega,rfl⟩,?_,?_,?_,?_⟩
 ·show can Tm (PV.agg (Ku n ks))=true
  rw[show(PV.agg (Ku n ks))=enc (Tm.mk n ks)from(Zq n ks).symm,Uc]
 ·intro j l ps hl hps
  match j with
  | 0=>cases hl;cases hps;rfl
  | j+1=>simp at hl
 ·rintro k ⟨⟨xn,xk⟩,v⟩ σ hx ⟨hall,rfl⟩
  have e:Ja [10,11] ((encNd (.mk xn xk,v)).map .pv) (ZL 20 0 [(3,.ptr 0 0),(4,.ptr 1 0),(5,.ptr 2 0),(6,.ptr 3 0)])=ZL 20 0 [(3,.ptr 0 0),(4,.ptr 1 0),(5,.ptr 2 0),(6,.ptr 3 0),(10,.pv (.agg (Ku xn xk))),(11,.pv (.int .i64 v))]:=by
   show Ja [10,11] (([enc (Tm.mk xn xk),.int .i64 v]).map .pv) _=_
   rw[Zq]
   kernel_rfl
  rw[e]
  exact b8c (G:=fun _=>False) _ xn xk i _ v ⟨rfl,hall,rfl⟩
 ·rintro k ⟨⟨xn,xk⟩,v⟩ st hx ⟨hall,rfl⟩
  rw[hF]at hx
  have hk:k<Zv (.mk n ks):=by rw[<- hlen];exact(List.getElem?_eq_some_iff.1 hx).1
  refine c1k (G:=d1q (.mk n ks) i) _ xn xk i _ v (VR (fun h1=> ?_) fun h1=> ?_)
  ·refine⟨Ze (Tm.mk xn xk,()) (Xm xn xk) (QL ht (List.mem_of_getElem? hx)),Zg (Tm.mk xn xk,()) (Xm xn xk) ⟨VV (.mk xn xk),_,?_,rfl⟩⟩
   rw[d2v,<- h1]
   unfold WJ
   rw[if_pos (by omega)]
   show(List.map (·.1) (Zt 1 (.mk n ks)))[(k:Int).toNat]? = _
   rw[Int.toNat_natCast,List.getElem?_map,hx];rfl
  ·refine⟨rfl,_,rfl,rfl,?_,?_⟩
   ·intro j hj
    rcases Nat.lt_succ_iff_lt_or_eq.1 hj with hj|rfl
    ·exact hall j hj
    ·exact h1
   ·rw[next (by omega)]
 ·rintro σ ⟨hall,rfl⟩
  refine c0l FO n ks i _ ?_
  rw[show WJ (.mk n ks) i=none from ?_]
  ·exact Bg
  unfold WJ
  split
  ·rename_i h0
   refine List.getElem?_eq_none ?_
   rw[hF]at hall
   show(List.map _ (Zt 1 (.mk n ks))).length<=_
   rw[List.length_map]
   refine Nat.le_of_not_lt fun hlt=>hall i.toNat hlt (by omega)
  ·rfl
 ·rintro σ ⟨y,r,hy,rfl⟩
  refine b0o FO n ks i y 0 r ?_
  rw[hy]
  exact Ll y
end Go.Pl
namespace Go.Pl
open Go.RowKit
mutual
theorem Rm: ∀ (t:Tm) (bd:List Str) (x:Str),x∈Xd bd t ↔ x ∉ bd∧x∈Xd [] t
 | .mk n ks,bd,x=>by
  rw[Xd,Xd,List.mem_append,List.mem_append,LY ks bd]
  have h:(x∈(if n.kind=1∧n.name ∉ bd then [n.name]else []) ↔ x ∉ bd∧x∈(if n.kind=1∧n.name ∉ ([]:List Str)then [n.name]else [])):=by
   by_cases h1:n.kind=1
   ·by_cases h2:n.name∈bd
    ·rw[if_neg (fun h=>h.2 h2),if_pos ⟨h1,by simp⟩]
     simp only[List.not_mem_nil,List.mem_singleton,false_iff]
     rintro⟨h3,rfl⟩
     exact h3 h2
    ·rw[if_pos ⟨h1,h2⟩,if_pos ⟨h1,by simp⟩]
     simp only[List.mem_singleton]
     exact⟨fun e=>⟨e▸h2,e⟩,fun e=>e.2⟩
   ·rw[if_neg (fun h=>h1 h.1),if_neg (fun h=>h1 h.1)];simp
  rw[h]
  exact⟨fun h=>h.elim (fun h=>⟨h.1,.inl h.2⟩) fun h=>⟨h.1,.inr h.2⟩,fun h=>h.2.elim (fun k=>.inl ⟨h.1,k⟩) fun k=>.inr ⟨h.1,k⟩⟩
theorem LY: ∀ (ks:List Tm) (bd:List Str) {l:Bool} {s:Str} {i:Nat} {x:Str},x∈Xk bd l s i ks ↔ x ∉ bd∧x∈Xk [] l s i ks
 | [],bd,l,s,i,x=>by simp[Xk]
 | k::ks,bd,l,s,i,x=>by
  rw[Xk,Xk,List.mem_append,List.mem_append,LY ks bd]
  have h:(x∈Xd (if l&&decide (i=1)then s::bd else bd) k ↔ x ∉ bd∧x∈Xd (if l&&decide (i=1)then [s]else []) k):=by
   by_cases c:(l&&decide (i=1))=true
   ·rw[if_pos c,if_pos c,Rm k (s::bd),Rm k [s]]
    simp only[List.mem_cons,List.not_mem_nil,or_false,not_or]
    exact⟨fun h=>⟨h.1.2,h.1.1,h.2⟩,fun h=>⟨⟨h.2.1,h.1⟩,h.2.2⟩⟩
   ·rw[if_neg c,if_neg c,Rm k bd]
  rw[h]
  exact⟨fun h=>h.elim (fun h=>⟨h.1,.inl h.2⟩) fun h=>⟨h.1,.inr h.2⟩,fun h=>h.2.elim (fun k=>.inl ⟨h.1,k⟩) fun k=>.inr ⟨h.1,k⟩⟩
end
end Go.Pl
namespace Go.Pl
open Go.RowKit
open Enc (enc dec is)
open EncL (encL decL isL)
set_option maxRecDepth 100000
noncomputable def F5:IC:=Wn Proofs.Tryz.f57
def Ev:List IRes:=[(.tmp 2)]
abbrev c7m:Nat:=4
def b6l:ZC:=YI []
theorem d4h{G:AV×List AObj×List AObj->Prop}(es:List (PV×PV))(h:G (((.fn 79 [] [(.ptr 1 0)]),([(.map es)],[(.box [(.map 0)])])))):Zd b6l 1 (Yf 1 Ev G) F5 [] (XF 4 [.map 0] [.map es]):=Zd.to (.nil) h
end Go.Pl
namespace Go.Pl
open Go.RowKit
open Enc (enc dec is)
open EncL (encL decL isL)
open Go.Proofs.YtgdebdgkofkeeaaGreatDoor (encNd pre_ndI F_ndI tmOf_nd pre_nd)
theorem b9u: ∀ args os,U9 args os=true->Zd b6l os.length (Yf os.length Ev fun r=>r=Ke 79 args os) F5 [] (XF c7m args os):=by
 intro args os h
 unfold U9 at h
 split at h
 ·exact d4h _ rfl
 ·cases h
end Go.Pl
namespace Go.Pl
open Go.RowKit
open Enc (enc dec is)
open EncL (encL decL isL)
set_option maxRecDepth 100000
abbrev d3v(ps:List PV)(k:Arr×Int->Prop):Prop:=Qt (fun(x:Str×List Int×List Int×Unit)=>decide (List.length (Prod.fst (Prod.snd x))<=2000000)&&decide (List.length (Prod.fst (Prod.snd (Prod.snd x)))<=2000000)) (fun(x:Str×List Int×List Int×Unit)=>Fq (Prod.fst x) (Prod.fst (Prod.snd x)) (Prod.fst (Prod.snd (Prod.snd x)))) ps k
noncomputable def b1j:IC:=Wn Proofs.Tryz.f173
def b3n:List IRes:=[(.tmp 4)]
abbrev d0y:Nat:=22
def c6c:ZC:=YI []
theorem d1z{G:PV->Prop}(e:List UInt8)(n:Int)(h:if (e==[(105:UInt8),(110:UInt8),(116:UInt8)])=true then if (decide (n ≥ (-2147483648:Int)))=true then G ((.bool (decide (n<=2147483647))))else(G ((.bool false)))else(if (e==[(98:UInt8),(111:UInt8),(111:UInt8),(108:UInt8)])=true then if (n==0)=true then G ((.bool true))else(G ((.bool (n==1))))else(G ((.bool false))))):Zd c6c 0 (Zb b3n G) b1j [] (Z9 22 [.str e,.int .i64 n]):=Zd.tp (dm [] 36 0x2220220034200c4202202220044200c42) h
noncomputable def Es:IC:=Wn Proofs.Tryz.f172
def OH:List IRes:=[(.tmp 3)]
abbrev c8o:Nat:=8
def b1o:ZC:=YI [(173,.pure (preT (fun _:Str×Int×Unit=>true)) (Zj (fun x:Str×Int×Unit=>Wt x.1 x.2.1)))]
theorem d5j{G:AV×List AObj×List AObj->Prop}(e:List UInt8)(n:Int)(h : ∃ y0:Bool,AV.pv (Zj (fun(x:Str×Int×Unit)=>Wt x.1 x.2.1) [(.str e),(.int .i64 n)])=AV.pv (enc y0)∧(G (((.pv (.bool !y0)),([(.box [(.pv (.str e))])],[]))))):Zd b1o 1 (Yf 1 OH G) Es [] (XF 8 [.pv (.int .i64 n),.ptr 0 0] [.box [.pv (.str e)]]):=Zd.to (.lit (.abs (Bool) (fun YY=>AV.pv (enc YY)) (.nil))) h
noncomputable def KM:IC:=KU
def Jg:List IRes:=[(.tmp 4)]
abbrev a8i:Nat:=19
def BF:ZC:=YI [(172,.own D7 RB)]
theorem d1n{G:AV×List AObj×List AObj->Prop}(e:List UInt8)(l:List Int)(t:Bool)(h:At BF 1 (Yf 1 Jg G) KM 0 19 [(0,(.pv (.sl 1 t (List.map enc l)))),(1,(.fn 172 [] [(.ptr 0 0)])),(7,(.pv (.int .i64 (↑(List.length (List.map enc l)):Int)))),(8,(.pv (.int .i64 0)))] [(.obj (.box [(.pv (.str e))]))]):Zd BF 1 (Yf 1 Jg G) KM [] (XF 19 [.pv (.sl 1 t (l.map enc)),.fn 172 [] [.ptr 0 0]] [.box [.pv (.str e)]]):=Zd.to (.nil) h
theorem b4n{G:AV×List AObj×List AObj->Prop}(e:List UInt8)(l:List Int)(t:Bool)(i:Int)(h:if (decide (i<(↑(List.length l):Int)))=true then(decide (0<=i)&&decide (Int.toNat i<List.length (List.map enc l))&&1==1)=true∧(∃ y0:Int,AV.pv (PV.rptr (PV.cells (List.getD (List.map enc l) (Int.toNat i) default)))=AV.pv (PV.rptr (PV.cells ((enc) y0)))∧(if (!Wt (Str.mk e) (PV.asInt (List.getD (PV.cells (enc y0)) 0 default)))=true then G (((.pv (.int .i64 i)),([(.box [(.pv (.str e))])],[])))else(At BF 1 (Yf 1 Jg G) KM 0 19 [(0,(.pv (.sl 1 t (List.map enc l)))),(1,(.fn 172 [] [(.ptr 0 0)])),(7,(.pv (.int .i64 (↑(List.length l):Int)))),(8,(.pv (.int .i64 (IntKind.wrap IntKind.i64 (i+1)))))] [(.obj (.box [(.pv (.str e))]))])))else(G (((.pv (.int .i64 (-1))),([(.box [(.pv (.str e))])],[]))))):At BF 1 (Yf 1 Jg G) KM 0 19 [(0,.pv (.sl 1 t (l.map enc))),(1,.fn 172 [] [.ptr 0 0]),(7,.pv (.int .i64 l.length)),(8,.pv (.int .i64 i))] [.obj (.box [.pv (.str e)])]:=At.to (dm [dr Int] 19 0x2000143225100c42) h
noncomputable def FN:IC:=OX
def OL:List IRes:=[(.tmp 4)]
abbrev c8h:Nat:=9
def b7i:ZC:=YI [(144,.own Wd Ci)]
theorem d5v{G:AV×List AObj×List AObj->Prop}(e:List UInt8)(l:List Int)(t:Bool)(h:(Wd [(.pv (.sl 1 t (List.map enc l))),(.fn 172 [] [(.ptr 0 0)])] [(.box [(.pv (.str e))])])=true∧(G (((.pv (.bool (decide (Uk (Str.mk e) (List.map dec (List.map enc l)) 0 ≥ 0)))),([(.box [(.pv (.str e))])],[]))))):Zd b7i 1 (Yf 1 OL G) FN [] (XF 9 [.pv (.sl 1 t (l.map enc)),.fn 172 [] [.ptr 0 0]] [.box [.pv (.str e)]]):=Zd.to (.req (.keep (.lit (.nil)))) h
noncomputable def G7:IC:=Wn Proofs.Tryz.f143
def Dt:List IRes:=[(.tmp 4)]
abbrev MV:Nat:=9
def Ak:ZC:=YI [(113,.own Wd RJ)]
theorem FK{G:PV->Prop}(e:List UInt8)(l:List Int)(h:(Wd [(.pv (.sl 1 false (List.map enc l))),(.fn 172 [] [(.ptr 0 0)])] [(.box [(.pv (.str e))])])=true∧(G ((.bool (!decide (0<=Uk (Str.mk e) (List.map dec (List.map enc l)) 0)))))):Zd Ak 0 (Zb Dt G) G7 [] (Z9 9 [.str e,enc l]):=Zd.tp (.req (.keep (.nil))) h
noncomputable def a1j:IC:=Wn Proofs.Tryz.f112
def EX:List IRes:=[(.cell true 3 6),(.tmp 7)]
abbrev c1p:Nat:=45
def b5a:ZC:=YI [(142,.pure (preT (fun _:List Int×Unit=>true)) (Zj (fun x:List Int×Unit=>Ww x.1))),(143,.pure (preT (fun x:Str×List Int×Unit=>decide (x.2.1.length<=2000000))) (Zj (fun x:Str×List Int×Unit=>x.2.1.all (Wt x.1)))),(93,.pure (preT (fun x:List Int×Unit=>decide (x.1.length<=2000000))) (Zj (fun x:List Int×Unit=>x.1)))]
theorem d0k{G:PV->Prop}(e:List UInt8)(d x:List Int)(h:if (!e==[(105:UInt8),(110:UInt8),(116:UInt8)])=true then if (!e==[(98:UInt8),(111:UInt8),(111:UInt8),(108:UInt8)])=true then G ((.tup [(.agg [(.str []),(.sl 0 true []),(.sl 0 true [])]),(.int .i64 12)]))else((Go.Pl.preT (fun(x:List Int×Unit)=>true) [(.sl 1 false (List.map enc d))])=true∧(∃ y0:Int×Int,AV.pv (Zj (fun(x:List Int×Unit)=>Ww x.1) [(.sl 1 false (List.map enc d))])=AV.pv (enc y0)∧(if (y0.2 != 0)=true then G ((.tup [(.agg [(.str []),(.sl 0 true []),(.sl 0 true [])]),(.int .i64 y0.2)]))else(if ((↑(List.length (List.map enc x)):Int) != y0.1)=true then G ((.tup [(.agg [(.str []),(.sl 0 true []),(.sl 0 true [])]),(.int .i64 1)]))else((Go.Pl.preT (fun(x:Str×List Int×Unit)=>decide (List.length x.2.1<=2000000)) [(.str e),(.sl 1 false (List.map enc x))])=true∧(∃ y1:Bool,AV.pv (Zj (fun(x:Str×List Int×Unit)=>List.all x.2.1 (Wt x.1)) [(.str e),(.sl 1 false (List.map enc x))])=AV.pv (enc y1)∧(if (!y1)=true then G ((.tup [(.agg [(.str []),(.sl 0 true []),(.sl 0 true [])]),(.int .i64 2)]))else((Go.Pl.preT (fun(x:List Int×Unit)=>decide (List.length x.1<=2000000)) [(.sl 1 false (List.map enc d))])=true∧(∃ y2:List Int,AV.pv (Zj (fun(x:List Int×Unit)=>x.1) [(.sl 1 false (List.map enc d))])=AV.pv (enc y2)∧((Go.Pl.preT (fun(x:List Int×Unit)=>decide (List.length x.1<=2000000)) [(.sl 1 false (List.map enc x))])=true∧(∃ y3:List Int,AV.pv (Zj (fun(x:List Int×Unit)=>x.1) [(.sl 1 false (List.map enc x))])=AV.pv (enc y3)∧(G ((.tup [(.agg [(.str e),(.sl 1 false (List.map enc y2)),(.sl 1 false (List.map enc y3))]),(.int .i64 0)]))))))))))))))else((Go.Pl.preT (fun(x:List Int×Unit)=>true) [(.sl 1 false (List.map enc d))])=true∧(∃ y4:Int×Int,AV.pv (Zj (fun(x:List Int×Unit)=>Ww x.1) [(.sl 1 false (List.map enc d))])=AV.pv (enc y4)∧(if (y4.2 != 0)=true then G ((.tup [(.agg [(.str []),(.sl 0 true []),(.sl 0 true [])]),(.int .i64 y4.2)]))else(if ((↑(List.length (List.map enc x)):Int) != y4.1)=true then G ((.tup [(.agg [(.str []),(.sl 0 true []),(.sl 0 true [])]),(.int .i64 1)]))else((Go.Pl.preT (fun(x:Str×List Int×Unit)=>decide (List.length x.2.1<=2000000)) [(.str e),(.sl 1 false (List.map enc x))])=true∧(∃ y5:Bool,AV.pv (Zj (fun(x:Str×List Int×Unit)=>List.all x.2.1 (Wt x.1)) [(.str e),(.sl 1 false (List.map enc x))])=AV.pv (enc y5)∧(if (!y5)=true then G ((.tup [(.agg [(.str []),(.sl 0 true []),(.sl 0 true [])]),(.int .i64 2)]))else((Go.Pl.preT (fun(x:List Int×Unit)=>decide (List.length x.1<=2000000)) [(.sl 1 false (List.map enc d))])=true∧(∃ y6:List Int,AV.pv (Zj (fun(x:List Int×Unit)=>x.1) [(.sl 1 false (List.map enc d))])=AV.pv (enc y6)∧((Go.Pl.preT (fun(x:List Int×Unit)=>decide (List.length x.1<=2000000)) [(.sl 1 false (List.map enc x))])=true∧(∃ y7:List Int,AV.pv (Zj (fun(x:List Int×Unit)=>x.1) [(.sl 1 false (List.map enc x))])=AV.pv (enc y7)∧(G ((.tup [(.agg [(.str e),(.sl 1 false (List.map enc y6)),(.sl 1 false (List.map enc y7))]),(.int .i64 0)]))))))))))))))):Zd b5a 0 (Zb EX G) a1j [] (Z9 45 [.str e,enc d,enc x]):=Zd.tp (dm [dv (Int×Int),dv Bool,dv (List Int)] 69 0x7171000146100014200014251222071710001461000142000142510001422202242) h
noncomputable def b1c:IC:=Wn Proofs.Tryz.f85
def a7y:List IRes:=[(.tmp 2)]
abbrev c7c:Nat:=17
def c5a:ZC:=YI [(112,.pure (preT (fun x:Str×List Int×List Int×Unit=>decide (x.2.1.length<=2000000)&&decide (x.2.2.1.length<=2000000))) (Zj (fun x:Str×List Int×List Int×Unit=>Fq x.1 x.2.1 x.2.2.1)))]
theorem d5n{G:PV->Prop}(a:Arr)(h:(d3v [(.str (Str.s (Arr.e a))),(.sl 1 false (List.map enc (Arr.d a))),(.sl 1 false (List.map enc (Arr.x a)))] fun y0=>(G ((.bool (y0.2==0)))))):Zd c5a 0 (Zb a7y G) b1c [] (Z9 17 [enc a]):=Zd.tp (.req (.abs (Arr×Int) (fun YY=>AV.pv (enc YY)) (.lit (.nil)))) h
end Go.Pl
namespace Go.Pl
open Go.RowKit
open Enc (enc dec is)
open EncL (encL decL isL)
theorem b7j: ∀ a:Str×Int×Unit,true=true->Zd c6c 0 (Zb b3n (Zo (Wt a.1 a.2.1))) b1j [] (Z9 d0y (encL a)):=by
 rintro⟨⟨e⟩,n,⟨⟩⟩ _
 refine d1z e n ?_
 simp only[beq_iff_eq,decide_eq_true_eq,Zo,b8u,b2v,true_and,Wt,AR,QQ,ge_iff_le]
 split
 ·split <;> simp[*]
 ·split
  ·split <;> simp[*]
  ·simp[*]
theorem c2p: ∀ args os,D7 args os=true->Zd b1o os.length (Yf os.length OH fun r=>r=RB args os) Es [] (XF c8o args os):=by
 intro args os hp
 unfold D7 at hp
 split at hp
 ·rename_i n e
  refine d5j e n ?_
  exact Zg (⟨e⟩,n,()) rfl rfl
 ·cases hp
theorem BB(e:Str): ∀ (l:List Int) (k:Nat),decide (0<=Uk e l k) = !l.all (Wt e)
 | [],k=>by simp[Uk]
 | n::l,k=>by
  simp only[Uk,List.all_cons]
  by_cases h:Wt e n=true
  ·simp only[h,if_true,Bool.true_and];exact BB e l (k+1)
  ·simp only[Bool.not_eq_true]at h;simp[h]
theorem a9x(e:List UInt8)(l:List Int)(t:Bool)(hl:l.length<=2000000)(r:AV×List AObj×List AObj): ∀ (m k:Nat),m+k=l.length->r=(.pv (.int .i64 (Uk ⟨e⟩ (l.drop k) k)),[.box [.pv (.str e)]],[]) ->
  At BF 1 (Yf 1 Jg fun x=>x=r) KM 0 a8i [(0,.pv (.sl 1 t (l.map enc))),(1,.fn 172 [] [.ptr 0 0]),(7,.pv (.int .i64 l.length)),(8,.pv (.int .i64 k))] [.obj (.box [.pv (.str e)])]:=by
 intro m
 induction m with
 | zero=>
  intro k hk hr
  refine b4n e l t k ?_
  rw[if_neg (by simp;omega),hr,List.drop_of_length_le (by omega)]
  rfl
 | succ m ih=>
  intro k hk hr
  have hlt:k<l.length:=by omega
  refine b4n e l t k ?_
  rw[if_pos (by simp;omega)]
  refine⟨by simp;omega,l[k],by rw[JM _ hlt],?_⟩
  rw[List.drop_eq_getElem_cons hlt,Uk]at hr
  show if (!Wt ⟨e⟩ l[k])=true then _ else _
  cases h:Wt ⟨e⟩ l[k]with
  | true=>
   rw[if_neg (by simp),next (by omega)]
   rw[h,if_pos rfl]at hr
   exact ih (k+1) (by omega) hr
  | false=>
   rw[if_pos (by decide)]
   rw[h,if_neg (by simp)]at hr
   exact hr.symm
theorem c0d: ∀ args os,Wd args os=true->Zd BF os.length (Yf os.length Jg fun r=>r=Ci args os) KM [] (XF a8i args os):=by
 intro args os hp
 unfold Wd at hp
 split at hp
 ·rename_i t xs e
  simp only[Bool.and_eq_true,decide_eq_true_eq]at hp
  rw[a1v hp.1]
  have hl:(xs.map (dec:PV->Int)).length<=2000000:=by simpa using hp.2
  generalize xs.map (dec:PV->Int)=l at hl ⊢
  refine d1n e l t ?_
  rw[List.length_map]
  refine a9x e l t hl _ l.length 0 (by omega) ?_
  simp[Ci]
 ·cases hp
theorem c2m: ∀ args os,Wd args os=true->Zd b7i os.length (Yf os.length OL fun r=>r=RJ args os) FN [] (XF c8h args os):=by
 intro args os hp
 have hp':=hp
 unfold Wd at hp
 split at hp
 ·rename_i t xs e
  simp only[Bool.and_eq_true,decide_eq_true_eq]at hp
  rw[a1v hp.1]at hp' ⊢
  exact d5v e _ t ⟨hp',rfl⟩
 ·cases hp
theorem Py: ∀ a:Str×List Int×Unit,decide (a.2.1.length<=2000000)=true->Zd Ak 0 (Zb Dt (Zo (a.2.1.all (Wt a.1)))) G7 [] (Z9 MV (encL a)):=by
 rintro⟨⟨e⟩,l,⟨⟩⟩ hp
 refine FK e l ⟨?_,rfl,?_⟩
 ·simpa [Wd]using hp
 ·simp[BB]
theorem b3x: ∀ a:Str×List Int×List Int×Unit,(decide (a.2.1.length<=2000000)&&decide (a.2.2.1.length<=2000000))=true->Zd b5a 0 (Zb EX (Zo (Fq a.1 a.2.1 a.2.2.1))) a1j [] (Z9 c1p (encL a)):=by
 rintro⟨⟨e⟩,d,x,⟨⟩⟩ hp
 simp only[Bool.and_eq_true,decide_eq_true_eq]at hp
 refine d0k e d x ?_
 have hp1:=hp.1
 have hp2:=hp.2
 simp only[preT,Zj,a9h,c3a,a6e,a8u,d2j,Ox,c8v,c3j,c6t,MN,List.isEmpty_iff,Bool.and_true,beq_self_eq_true,Bool.or_true,Bool.true_and,decide_eq_true_eq,AV.pv.injEq,c9y,exists_eq_left',hp1,hp2,true_and,Enc.sz,List.length_map,Zo,c8i,d0s,c6x,c3u,c0y,c2e,List.all_nil,List.isEmpty_nil,Bool.true_or,List.map_nil,Bool.not_eq_true',beq_eq_false_iff_ne,bne_iff_ne,Fq,AR,QQ]
 by_cases h1:e=[105,110,116]
 ·simp only[h1,ne_eq,not_true,if_false,false_and]
  split
  ·rfl
  ·split
   ·rfl
   ·split
    ·simp_all
    ·simp_all
 ·simp only[h1,ne_eq,not_false_eq_true,if_true,true_and]
  split
  ·rfl
  ·split
   ·rfl
   ·split
    ·rfl
    ·split
     ·simp_all
     ·simp_all
theorem c1r: ∀ a:Arr×Unit,a3y a.1=true->Zd c5a 0 (Zb a7y (Zo (Rc a.1))) b1c [] (Z9 c7c (encL a)):=by
 rintro⟨a,⟨⟩⟩ hp
 refine d5n a ⟨Ze (a.e,a.d,a.x,()) rfl hp,Zg (a.e,a.d,a.x,()) rfl ?_⟩
 exact⟨rfl,rfl⟩
end Go.Pl
namespace Go.Pl
open Go.RowKit
set_option maxRecDepth 100000
def X6:IC:=(WK [Zz 4 (.mv (Uu 0)) 0] (.seq (WK [Zz 6 (X5 0) 0,Zz 7 (.len 1 (.t 6)) 0,Zz 8 (.mv (Uu 0)) 0] (.block 0 (.loop [8,7,1,0] (WK [Zz 9 (Gm .lss (.t 8) (.t 7)) 0] (.seq (.cond (.t 9) .skip (.exit 0)) (.seq (.block 1 (WK [Zz 10 (X5 8) 0,Zz 5 (X5 10) 0] (WK [Zz 11 (X5 1) 0,Zz 12 (X5 0) 0,Zz 13 (X5 5) 0,Zz 14 (.iaddr 1 (.t 12) (.t 13)) 0,Zz 15 (DY [(.int .i64)] (.t 14)) 0,Zz 16 (Gm .eql (.t 11) (.t 15)) 0] (.cond (.t 16) (WK [Zz 17 (X5 5) 0,Zz 4 (X5 17) 0] .ret) .skip)))) (.reg [Zz 18 (Gm .add (.t 8) (Uu 1)) 0,Zz 8 (X5 18) 0] none))))))) (WK [Zz 4 (.mv (.c (.int .i64 (-1)))) 0] .ret)))
def Wh:List IRes:=[(.tmp 4)]
def Vk:ZC:=YI []
theorem a3t{r:PV}(ns:List Int)(t:Bool)(v:Int)(hn:At Vk 0 (fun st=>fin st Wh=some r) X6 0 19 [(0,(.pv (.sl 1 t (Zr ns)))),(1,(.pv (.int .i64 v))),(7,(.pv (.int .i64 (↑(Zr ns).length:Int)))),(8,(.pv (.int .i64 0)))] []):Zd Vk 0 (fun st=>fin st Wh=some r) X6 [] (Z9 19 [.sl 1 t (Zr ns),.int .i64 v]):=Zd.w (.nil) hn (by kernel_rfl)
theorem Oc{r:PV}(ns:List Int)(t:Bool)(v:Int)(i:Int)(h0:(decide (i<(↑(Zr ns).length:Int)))=true)(h1:(decide (0<=i)&&decide (i.toNat<(Zr ns).length)&&1==1)=true)(h2:(decide (0+[Sh.int .i64].length<=((Zr ns).getD i.toNat default).cells.length)&&Yt ((Zr ns).getD i.toNat default).cells 0 [Sh.int .i64])=true)(h3:(v==(((Zr ns).getD i.toNat default).cells.getD 0 default).asInt)=true)(hr:(.int .i64 i)=r):At Vk 0 (fun st=>fin st Wh=some r) X6 0 19 [(0,.pv (.sl 1 t (Zr ns))),(1,.pv (.int .i64 v)),(7,.pv (.int .i64 (Zr ns).length)),(8,.pv (.int .i64 i))] []:=At.w (.lit (.ans true (.req (.req (.lit (.ans true (.nil))))))) (And.intro h0 (And.intro h1 (And.intro h2 (And.intro h3 hr)))) (by kernel_rfl)
theorem OO{r:PV}(ns:List Int)(t:Bool)(v:Int)(i:Int)(h0:(decide (i<(↑(Zr ns).length:Int)))=true)(h1:(decide (0<=i)&&decide (i.toNat<(Zr ns).length)&&1==1)=true)(h2:(decide (0+[Sh.int .i64].length<=((Zr ns).getD i.toNat default).cells.length)&&Yt ((Zr ns).getD i.toNat default).cells 0 [Sh.int .i64])=true)(h3:(v==(((Zr ns).getD i.toNat default).cells.getD 0 default).asInt)=false)(hn:At Vk 0 (fun st=>fin st Wh=some r) X6 0 19 [(0,(.pv (.sl 1 t (Zr ns)))),(1,(.pv (.int .i64 v))),(7,(.pv (.int .i64 (↑(Zr ns).length:Int)))),(8,(.pv (.int .i64 (IntKind.i64.wrap (i+1)))))] []):At Vk 0 (fun st=>fin st Wh=some r) X6 0 19 [(0,.pv (.sl 1 t (Zr ns))),(1,.pv (.int .i64 v)),(7,.pv (.int .i64 (Zr ns).length)),(8,.pv (.int .i64 i))] []:=At.w (.lit (.ans true (.req (.req (.lit (.ans false (.lit (.nil)))))))) (And.intro h0 (And.intro h1 (And.intro h2 (And.intro h3 hn)))) (by kernel_rfl)
theorem FZ{r:PV}(ns:List Int)(t:Bool)(v:Int)(i:Int)(h0:(decide (i<(↑(Zr ns).length:Int)))=false)(hr:(.int .i64 (-1))=r):At Vk 0 (fun st=>fin st Wh=some r) X6 0 19 [(0,.pv (.sl 1 t (Zr ns))),(1,.pv (.int .i64 v)),(7,.pv (.int .i64 (Zr ns).length)),(8,.pv (.int .i64 i))] []:=At.w (.lit (.ans false (.nil))) (And.intro h0 hr) (by kernel_rfl)
end Go.Pl
namespace Go.Pl
open Go.RowKit
def Ea(v:Int):List Int->Nat->Int
 | [],_=> -1
 | n::r,i=>bif v==n then i else Ea v r (i+1)
theorem b0q{v:Int}: ∀ {l:List Int} {i:Nat},decide (0<=Ea v l i)=l.any (· == v):=by
 intro l
 induction l with
 | nil=>intro i;rfl
 | cons n r ih=>
  intro i
  simp only[Ea,List.any_cons]
  by_cases h:v=n
  ·subst h;simp
  ·have h1:(v==n)=false:=by simpa using h
   have h2:(n==v)=false:=by simp;omega
   simp only[h1,h2,cond_false,Bool.false_or]
   exact ih
def Q0:List PV->PV
 | [.sl _ _ xs,.int _ v]=>.int .i64 (Ea v (xs.map PV.asInt) 0)
 | _=>.nilp
theorem FX(ns:List Int)(t:Bool)(v:Int)(hl:ns.length<=1099511627776){r:PV}: ∀ (m k:Nat),m+k=ns.length->r = .int .i64 (Ea v (ns.drop k) k) ->
  At Vk 0 (fun st=>fin st Wh=some r) X6 0 19 [(0,.pv (.sl 1 t (Zr ns))),(1,.pv (.int .i64 v)),(7,.pv (.int .i64 (Zr ns).length)),(8,.pv (.int .i64 k))] []:=by
 intro m
 induction m with
 | zero=>
  intro k hk hr
  rw[List.drop_of_length_le (by omega)]at hr
  exact FZ ns t v k (by simp;omega) hr.symm
 | succ m ih=>
  intro k hk hr
  have hlt:k<ns.length:=by omega
  have e:=Bu hlt
  rw[List.drop_eq_getElem_cons hlt,Ea]at hr
  cases hb:v==ns[k]with
  | true=>
   rw[hb,cond_true]at hr
   exact Oc ns t v k (by simp;omega) (by simp;omega) (by rw[e];rfl) (by rw[e];exact hb) hr.symm
  | false=>
   rw[hb,cond_false]at hr
   refine OO ns t v k (by simp;omega) (by simp;omega) (by rw[e];rfl) (by rw[e];exact hb) ?_
   rw[next (by omega)]
   exact ih (k+1) (by omega) hr
theorem a3w: ∀ ps,Z6 ps=true->Zd Vk 0 (fun st=>fin st Wh=some (Q0 ps)) X6 [] (Z9 19 ps):=by
 intro ps hp
 unfold Z6 at hp
 split at hp
 ·rename_i t xs v
  simp only[Bool.and_eq_true,decide_eq_true_eq]at hp
  obtain⟨ns,rfl⟩:=RO hp.1
  refine a3t ns t v ?_
  exact FX ns t v (by have:=hp.2;rwa [Dr]at this) ns.length 0 (by omega) (by simp[Q0])
 ·cases hp
def PV.ns(p:PV):List Int:=p.asXs.map PV.asInt
def QE:IC:=(WK [Zz 4 (f'' false) 0] (WK [Zz 5 (X5 0) 0,Zz 6 (X5 1) 0,Zz 7 (c'' 193 [(.t 5),(.t 6)]) 0,Zz 8 (Gm .geq (.t 7) (Uu 0)) 2,Zz 4 (X5 8) 2] .ret))
def QC:List IRes:=[(.tmp 4)]
abbrev Ny:Nat:=9
def KN:ZC:=YI [(193,.pure Z6 Q0)]
theorem Ro{r:PV}(ns:List Int)(t:Bool)(v:Int)(h0:(Z6 [(.sl 1 t (Zr ns)),(.int .i64 v)])=true)(hr:(.bool (decide (Ea v (List.map PV.asInt (Zr ns)) 0 ≥ 0)))=r):Zd KN 0 (fun st=>fin st QC=some r) QE [] (Z9 9 [.sl 1 t (Zr ns),.int .i64 v]):=Zd.w (.req (.lit (.nil))) (And.intro h0 hr) (by kernel_rfl)
theorem Pd: ∀ ps,Z6 ps=true->Zd KN 0 (fun st=>fin st QC=some (Vg ps)) QE [] (Z9 Ny ps):=by
 intro ps hp
 have hp':=hp
 unfold Z6 at hp
 split at hp
 ·rename_i t xs v
  simp only[Bool.and_eq_true,decide_eq_true_eq]at hp
  obtain⟨ns,rfl⟩:=RO hp.1
  refine Ro ns t v hp' ?_
  have:=b0q (v:=v) (l:=ns) (i:=0)
  simp only[WG,Vg,Bp,ge_iff_le]
  rw[<- this]
 ·cases hp
end Go.Pl
namespace Go.Pl
open Go.RowKit
open Enc (enc dec is)
open EncL (encL decL isL)
set_option maxRecDepth 100000
end Go.Pl
namespace Go.Pl
open Go.RowKit
open Enc (enc dec is)
open EncL (encL decL isL)
theorem b4q{s:List UInt8}{i:Nat}(h:i<s.length):List.getD (Zw s) (Int.toNat (i:Int)) default = .int .u8 (s[i].toNat:Int):=by
 simp[Zw,List.getD,h]
theorem HZ(s:List UInt8):(Zw s).length=s.length:=by simp[Zw]
def MK(c:UInt8):Bool:=lowB c||digB c
theorem a0j{c:UInt8}:lowB c=true ↔ 97<=c.toNat∧c.toNat<=122:=by
 simp only[lowB,Bool.and_eq_true,decide_eq_true_eq,UInt8.le_iff_toNat_le]
 have e1:(97:UInt8).toNat=97:=rfl
 have e2:(122:UInt8).toNat=122:=rfl
 rw[e1,e2]
theorem SN{c:UInt8}(h : ¬ (97<=c.toNat∧c.toNat<=122)):lowB c=false:=by
 cases e:lowB c
 ·rfl
 ·exact absurd (a0j.1 e) h
theorem Tn{c:UInt8}(h : ¬ (48<=c.toNat∧c.toNat<=57)):digB c=false:=by
 cases e:digB c
 ·rfl
 ·exact absurd (Wl.1 e) h
def Wy(s:List UInt8)(i:Nat):Bool:=(match i with|0=>(match s with|[]=>true|c::r=>lowB c&&r.all MK)|i+1=>(s.drop (i+1)).all MK)&&(!(s==[]))&&decide (s.length<=30)
theorem a5l{s:List UInt8}{i:Nat}(h:i<s.length)(hb:lowB s[i]=true∨(i≠0∧digB s[i]=true)):Wy s i=Wy s (i+1):=by
 cases i with
 | zero=>
  cases s with
  | nil=>simp at h
  | cons c r=>
   rcases hb with hb|hb
   ·have hb:lowB c=true:=hb
    simp[Wy,hb]
   ·exact absurd rfl hb.1
 | succ i=>
  unfold Wy
  simp only
  rw[List.drop_eq_getElem_cons h,List.all_cons]
  have:MK s[i+1]=true:=by
   rcases hb with hb|hb
   ·simp[MK,hb]
   ·simp[MK,hb.2]
  rw[this,Bool.true_and]
theorem a3f{s:List UInt8}{i:Nat}(h:i<s.length)(hb:lowB s[i]=false∧(i=0∨digB s[i]=false)):Wy s i=false:=by
 cases i with
 | zero=>
  cases s with
  | nil=>simp at h
  | cons c r=>
   have hb:lowB c=false:=hb.1
   simp[Wy,hb]
 | succ i=>
  unfold Wy
  simp only
  rw[List.drop_eq_getElem_cons h,List.all_cons]
  have:MK s[i+1]=false:=by
   rcases hb.2 with h0|h0
   ·cases h0
   ·simp[MK,hb.1,h0]
  rw[this];simp
theorem a4u{s:List UInt8}(h:[95].isPrefixOf s=false):Yz ⟨s⟩=Wy s 0:=by
 cases s with
 | nil=>rfl
 | cons c r=>
  have hc : ¬ c=95:=by intro e;subst e;simp at h
  have e:decide ((c::r).length<=30)=decide (r.length<=29):=decide_eq_decide.2 (by simp)
  unfold Wy
  rw[e]
  simp only[Yz,if_neg hc]
  show _=(lowB c&&r.all MK&& !((c::r)==[])&&_)
  have e2:((c::r)==[])=false:=rfl
  rw[e2]
  simp only[Bool.not_false,Bool.and_true]
  rfl
theorem Ep(s:Str): -9223372036854775808<=(YU s).1∧((YU s).1<=9223372036854775807):=by
 unfold YU
 split
 ·rename_i v hv;exact Lib.atoiAll_bounds hv
 ·have:=Lib.atoiSat_bounds s.s
  exact⟨by show _<=Lib.atoiSat s.s;omega,by show Lib.atoiSat s.s<=_;omega⟩
 ·exact⟨by show(-9223372036854775808:Int)<=0;omega,by show(0:Int)<=_;omega⟩
end Go.Pl
namespace Go.Pl
open Go.RowKit
open Enc (enc dec is)
open EncL (encL decL isL)
set_option maxRecDepth 100000
abbrev c5y(ps:List PV)(k:Int->Prop):Prop:=ceP (fun(x:Int×Int×Unit)=>Jf (Prod.fst x) (Prod.fst (Prod.snd x))) ps k
abbrev d3u(ps:List PV)(k:Int->Prop):Prop:=ceP (fun(x:Coef×Coef×Unit)=>GK (Prod.fst x) (Prod.fst (Prod.snd x))) ps k
abbrev d1v(ps:List PV)(k:Int->Prop):Prop:=Qt (fun(x:List Coef×List Coef×FnV 121×Unit)=>decide (List.length (Prod.fst x)<=9223372036854775807)&&decide (List.length (Prod.fst (Prod.snd x))<=9223372036854775807)) (fun(x:List Coef×List Coef×FnV 121×Unit)=>XK (Prod.fst x) (Prod.fst (Prod.snd x))) ps k
abbrev d1o(ps:List PV)(k:Int->Prop):Prop:=Qt (fun(x:Lin×Lin×Unit)=>Yd (Prod.fst x)&&Yd (Prod.fst (Prod.snd x))) (fun(x:Lin×Lin×Unit)=>VG (Prod.fst x) (Prod.fst (Prod.snd x))) ps k
noncomputable def SC:IC:=Wn Proofs.Tryz.f123
def Gq:List IRes:=[(.tmp 4)]
abbrev a6j:Nat:=13
def BJ:ZC:=YI []
theorem b5c{G:PV->Prop}(a b:Int)(h:if (decide (a<b))=true then G ((.int .i64 (-1)))else(if (decide (a>b))=true then G ((.int .i64 1))else(G ((.int .i64 0))))):Zd BJ 0 (Zb Gq G) SC [] (Z9 13 [enc a,enc b]):=Zd.tp (dm [] 14 0x142000142) h
noncomputable def NG:IC:=Wn Proofs.Tryz.f121
def CL:List IRes:=[(.tmp 4)]
abbrev a7e:Nat:=19
def RF:ZC:=YI [(122,.pure (preT (fun _:Str×Str×Unit=>true)) (Zj (fun x:Str×Str×Unit=>Lib.compareBytes x.1.s x.2.1.s))),(123,.pure (preT (fun _:Int×Int×Unit=>true)) (Zj (fun x:Int×Int×Unit=>Jf x.1 x.2.1)))]
theorem b9y{G:PV->Prop}(x y:Coef)(h : ∃ y0:Int,AV.pv (Zj (fun(x:Str×Str×Unit)=>Lib.compareBytes (Str.s x.1) (Str.s x.2.1)) [(.str (Str.s x.v)),(.str (Str.s y.v))])=AV.pv (enc y0)∧(if (y0 != 0)=true then G ((.int .i64 y0))else(c5y [(.int .i64 x.c),(.int .i64 y.c)] fun y1=>(G ((.int .i64 y1)))))):Zd RF 0 (Zb CL G) NG [] (Z9 19 [enc x,enc y]):=Zd.tp (dm [dv Int] 12 0x5200014252) h
noncomputable def UL:IC:=Wn Proofs.Tryz.f120
def UD:List IRes:=[(.tmp 6)]
abbrev b6p:Nat:=39
def QT:ZC:=YI [(121,.pure (preT (fun _:Coef×Coef×Unit=>true)) (Zj (fun x:Coef×Coef×Unit=>GK x.1 x.2.1)))]
theorem b9t{G:PV->Prop}(a b:List Coef)(h:At QT 0 (Zb UD G) UL 0 39 [(0,(.pv (.sl 2 false (List.map enc a)))),(1,(.pv (.sl 2 false (List.map enc b)))),(2,(.pv (.fn 121))),(11,(.pv (.sl 2 false (List.map enc a)))),(12,(.pv (.int .i64 (↑(List.length (List.map enc a)):Int)))),(13,(.pv (.int .i64 0)))] []):Zd QT 0 (Zb UD G) UL [] (Z9 39 [enc a,enc b,.fn 121]):=Zd.tp (.nil) h
theorem M3{G:PV->Prop}(a b:List Coef)(i:Int)(h:if (decide (i<(↑(List.length a):Int)))=true then(Jt a i 2 fun y0=>(if (decide (i ≥ (↑(List.length (List.map enc b)):Int)))=true then G ((.int .i64 1))else((Jt b i 2 fun y1=>(d3u [(.agg [(.str (PV.asStr (List.getD (PV.cells (enc y0)) 0 default))),(.int .i64 (PV.asInt (List.getD (PV.cells (enc y0)) (0+1) default)))]),(.agg [(.str (PV.asStr (List.getD (PV.cells (enc y1)) 0 default))),(.int .i64 (PV.asInt (List.getD (PV.cells (enc y1)) (0+1) default)))])] fun y2=>(if (y2 != 0)=true then G ((.int .i64 y2))else(At QT 0 (Zb UD G) UL 0 39 [(0,(.pv (.sl 2 false (List.map enc a)))),(1,(.pv (.sl 2 false (List.map enc b)))),(2,(.pv (.fn 121))),(11,(.pv (.sl 2 false (List.map enc a)))),(12,(.pv (.int .i64 (↑(List.length a):Int)))),(13,(.pv (.int .i64 (IntKind.wrap IntKind.i64 (i+1)))))] [])))))))else(if (decide ((↑(List.length (List.map enc a)):Int)<(↑(List.length (List.map enc b)):Int)))=true then G ((.int .i64 (-1)))else(G ((.int .i64 0))))):At QT 0 (Zb UD G) UL 0 39 [(0,.pv (enc a)),(1,.pv (enc b)),(2,.pv (.fn 121)),(11,.pv (enc a)),(12,.pv (.int .i64 a.length)),(13,.pv (.int .i64 i))] []:=At.tp (dm [dr Coef,dv Int] 35 0x142020001426225100014225101642) h
noncomputable def EL:IC:=Wn Proofs.Tryz.f89
def Rq:List IRes:=[(.tmp 4)]
abbrev c2j:Nat:=19
def FD:ZC:=YI [(120,.pure (preT (fun x:List Coef×List Coef×FnV 121×Unit=>decide (x.1.length<=9223372036854775807)&&decide (x.2.1.length<=9223372036854775807))) (Zj (fun x:List Coef×List Coef×FnV 121×Unit=>XK x.1 x.2.1))),(123,.pure (preT (fun _:Int×Int×Unit=>true)) (Zj (fun x:Int×Int×Unit=>Jf x.1 x.2.1)))]
theorem c8e{G:PV->Prop}(a b:Lin)(h:(d1v [(.sl 2 false (List.map enc a.t)),(.sl 2 false (List.map enc b.t)),(.fn 121)] fun y0=>(if (y0 != 0)=true then G ((.int .i64 y0))else(c5y [(.int .i64 a.k),(.int .i64 b.k)] fun y1=>(G ((.int .i64 y1))))))):Zd FD 0 (Zb Rq G) EL [] (Z9 19 [enc a,enc b]):=Zd.tp (dm [dv Int] 12 0x5200014251) h
noncomputable def b2t:IC:=Wn Proofs.Tryz.f63
def a9q:List IRes:=[(.tmp 4)]
abbrev d1e:Nat:=9
def c5l:ZC:=YI [(89,.pure (preT (fun x:Lin×Lin×Unit=>Yd x.1&&Yd x.2.1)) (Zj (fun x:Lin×Lin×Unit=>VG x.1 x.2.1)))]
theorem d4r{G:PV->Prop}(a b:Lin)(h:(d1o [(.agg [(.int .i64 a.k),(.sl 2 false (List.map enc a.t))]),(.agg [(.int .i64 b.k),(.sl 2 false (List.map enc b.t))])] fun y0=>(G ((.bool (y0==0)))))):Zd c5l 0 (Zb a9q G) b2t [] (Z9 9 [enc a,enc b]):=Zd.tp (.req (.abs (Int) (fun YY=>AV.pv (enc YY)) (.lit (.nil)))) h
end Go.Pl
namespace Go.Pl
open Go.RowKit
open Enc (enc dec is)
open EncL (encL decL isL)
theorem OD: ∀ a:Int×Int×Unit,true=true->Zd BJ 0 (Zb Gq (Zo (Jf a.1 a.2.1))) SC [] (Z9 a6j (encL a)):=by
 rintro⟨a,b,⟨⟩⟩ -
 show Zd BJ 0 (Zb Gq (Zo (Jf a b))) _ _ _
 refine b5c a b (Xf (fun h=> ?_) fun h=>Xf (fun k=> ?_) fun k=> ?_)
 ·exact Ux (by simp[Jf,h])
 ·exact Ux (by simp[Jf,h,k])
 ·exact Ux (by simp[Jf,h,k])
theorem a5r: ∀ a:Coef×Coef×Unit,true=true->Zd RF 0 (Zb CL (Zo (GK a.1 a.2.1))) NG [] (Z9 a7e (encL a)):=by
 rintro⟨x,y,⟨⟩⟩ -
 show Zd RF 0 (Zb CL (Zo (GK x y))) _ _ _
 unfold GK
 refine b9y x y (Zg (x.v,y.v,()) rfl (Rv (fun h=> ?_) fun h=>Zg (x.c,y.c,()) rfl ?_))
 ·have h:Lib.compareBytes x.v.s y.v.s≠0:=by simpa using h
  rw[if_pos h]
  exact Ux rfl
 ·have h : ¬ Lib.compareBytes x.v.s y.v.s≠0:=by simpa using h
  rw[if_neg h]
  exact Ux rfl
theorem Mv(t:Coef):(PV.agg [.str (PV.asStr (List.getD (PV.cells (enc t)) 0 default)),.int .i64 (PV.asInt (List.getD (PV.cells (enc t)) (0+1) default))])=enc t:=rfl
theorem FI(a b:List Coef)(ha:a.length<=9223372036854775807): ∀ (m i:Nat),m+i=a.length->i<=b.length ->
  At QT 0 (Zb UD (Zo (XK (a.drop i) (b.drop i)))) UL 0 39 [(0,.pv (enc a)),(1,.pv (enc b)),(2,.pv (.fn 121)),(11,.pv (enc a)),(12,.pv (.int .i64 a.length)),(13,.pv (.int .i64 i))] []:=by
 intro m
 induction m with
 | zero=>
  intro i hi hb
  have ea:a.drop i=[]:=List.drop_of_length_le (by omega)
  rw[ea]
  refine M3 a b i (XV (Qe (by omega)) (Xf (fun h=> ?_) fun h=> ?_))
  ·have h:a.length<b.length:=by simpa using h
   have:b.drop i=b[i]::b.drop (i+1):=List.drop_eq_getElem_cons (by omega)
   rw[this]
   exact Ux (by rw[XK])
  ·have h : ¬ a.length<b.length:=by simpa using h
   have:b.drop i=[]:=List.drop_of_length_le (by omega)
   rw[this]
   exact Ux (by rw[XK])
 | succ m ih=>
  intro i hi hb
  have hlt:i<a.length:=by omega
  have ea:a.drop i=a[i]::a.drop (i+1):=List.drop_eq_getElem_cons hlt
  rw[ea]
  refine M3 a b i (Y7 (Qz hlt) ⟨ZJ hlt rfl,Z4 hlt (Xf (fun h=> ?_) fun h=> ?_)⟩)
  ·have h:b.length<=i:=by
    have:(i:Int) ≥ ((List.map (enc:Coef->PV) b).length:Int):=h
    rw[List.length_map]at this
    omega
   have:b.drop i=[]:=List.drop_of_length_le h
   rw[this]
   exact Ux (by rw[XK])
  ·have h:i<b.length:=by
    have : ¬ (i:Int) ≥ ((List.map (enc:Coef->PV) b).length:Int):=h
    rw[List.length_map]at this
    omega
   have eb:b.drop i=b[i]::b.drop (i+1):=List.drop_eq_getElem_cons h
   rw[eb]
   refine⟨ZJ h rfl,Z4 h ?_⟩
   rw[Mv,Mv]
   refine Zg (a[i],b[i],()) rfl (Rv (fun hc=> ?_) fun hc=> ?_)
   ·have hc:GK a[i] b[i]≠0:=by simpa using hc
    exact Ux (by rw[XK,if_pos hc])
   ·have hc : ¬ GK a[i] b[i]≠0:=by simpa using hc
    have e:XK (a[i]::a.drop (i+1)) (b[i]::b.drop (i+1))=XK (a.drop (i+1)) (b.drop (i+1)):=by rw[XK,if_neg hc]
    rw[e,next (by omega)]
    exact ih (i+1) (by omega) (by omega)
theorem a6m: ∀ a:List Coef×List Coef×FnV 121×Unit,(decide (a.1.length<=9223372036854775807)&&decide (a.2.1.length<=9223372036854775807))=true->Zd QT 0 (Zb UD (Zo (XK a.1 a.2.1))) UL [] (Z9 b6p (encL a)):=by
 rintro⟨a,b,g,⟨⟩⟩ h
 simp only[Bool.and_eq_true,decide_eq_true_eq]at h
 refine b9t a b ?_
 rw[List.length_map]
 exact FI a b h.1 a.length 0 (by omega) (by omega)
theorem b3y: ∀ a:Lin×Lin×Unit,(Yd a.1&&Yd a.2.1)=true->Zd FD 0 (Zb Rq (Zo (VG a.1 a.2.1))) EL [] (Z9 c2j (encL a)):=by
 rintro⟨a,b,⟨⟩⟩ h
 show Zd FD 0 (Zb Rq (Zo (VG a b))) _ _ _
 unfold VG
 refine c8e a b ⟨Ze (a.t,b.t,({}:FnV 121),()) rfl h,Zg (a.t,b.t,({}:FnV 121),()) rfl (Rv (fun hc=> ?_) fun hc=>Zg (a.k,b.k,()) rfl ?_)⟩
 ·have hc:XK a.t b.t≠0:=by simpa using hc
  rw[if_pos hc]
  exact Ux rfl
 ·have hc : ¬ XK a.t b.t≠0:=by simpa using hc
  rw[if_neg hc]
  exact Ux rfl
theorem b9x: ∀ a:Lin×Lin×Unit,(Yd a.1&&Yd a.2.1)=true->Zd c5l 0 (Zb a9q (Zo (VG a.1 a.2.1==0))) b2t [] (Z9 d1e (encL a)):=by
 rintro⟨a,b,⟨⟩⟩ h
 exact d4r a b ⟨Ze (a,b,()) rfl h,Zg (a,b,()) rfl (ZF rfl)⟩
structure BoxT where
 v:List Str
 m:Int
 deriving DecidableEq
instance:Enc BoxT where
 sz:=2
 enc x:=.agg [enc x.v,enc x.m]
 dec | .agg [a,b]=>⟨dec a,dec b⟩|_=>⟨[],0⟩
 is | .agg [a,b]=>is (List Str) a&&is Int b|_=>false
 is_enc v:=by simp
 dec_enc v:=by simp
 sub p h:=by
  cases p with
  | agg xs=>
   match xs,h with
   | [a,b],h=>
    simp only[Bool.and_eq_true]at h
    exact .agg (.cons (Enc.sub a h.1).2 (.cons (Enc.sub b h.2).2 .nil))
  | _=>cases h
@[simp] theorem d6e (a b : PV) : is BoxT (.agg [a, b]) = (is (List Str) a && is Int b) := rfl
@[simp] theorem d2d (a b : PV) : (dec (.agg [a, b]) : BoxT) = ⟨dec a, dec b⟩ := rfl
structure Mono where
 c:Int
 v:List Str
 deriving DecidableEq
instance:Enc Mono where
 sz:=2
 enc x:=.agg [enc x.c,enc x.v]
 dec | .agg [a,b]=>⟨dec a,dec b⟩|_=>⟨0,[]⟩
 is | .agg [a,b]=>is Int a&&is (List Str) b|_=>false
 is_enc v:=by simp
 dec_enc v:=by simp
 sub p h:=by
  cases p with
  | agg xs=>
   match xs,h with
   | [a,b],h=>
    simp only[Bool.and_eq_true]at h
    exact .agg (.cons (Enc.sub a h.1).2 (.cons (Enc.sub b h.2).2 .nil))
  | _=>cases h
@[simp] theorem d6a (a b : PV) : is Mono (.agg [a, b]) = (is Int a && is (List Str) b) := rfl
@[simp] theorem d5w (a b : PV) : (dec (.agg [a, b]) : Mono) = ⟨dec a, dec b⟩ := rfl
structure NilS where
 deriving DecidableEq
instance:Enc NilS where
 sz:=1
 enc _:=.sl 0 true []
 dec _:=⟨⟩
 is | .sl 0 true []=>true|_=>false
 is_enc _:=rfl
 dec_enc _:=rfl
 sub p h:=by
  cases p with
  | sl s t xs=>
   cases xs with
   | nil=>cases s with
    | zero=>cases t with
     | true=>exact .refl _
     | false=>cases h
    | succ s=>cases h
   | cons x xs=>cases s <;> cases t <;> cases h
  | _=>cases h
end Go.Pl
namespace Go.Pl
open Go.RowKit
open Enc (enc dec is)
open EncL (encL decL isL)
set_option maxRecDepth 100000
abbrev d1p(ps:List PV)(k:Int×Er->Prop):Prop:=Qt (fun(x:Str×Unit)=>decide (List.length (Str.s (Prod.fst x))<=281474976710656)) (fun(x:Str×Unit)=>YU (Prod.fst x)) ps k
abbrev d2p(ps:List PV)(k:Str->Prop):Prop:=Qt (fun(x:Int×Unit)=>decide ((-9223372036854775808:Int)<=Prod.fst x)&&decide (Prod.fst x<=9223372036854775807)) (fun(x:Int×Unit)=>Vz (Prod.fst x)) ps k
-- IMPOSSIBLE
noncomputable def YR:IC:=Wn Proofs.Tryz.f140
def YP:List IRes:=[(.tmp 2)]
abbrev a5d:Nat:=67
def Xq:ZC:=YI [(169,.pure (preT (fun _:Str×Str×Unit=>true)) (Zj (fun x:Str×Str×Unit=>x.2.1.s.isPrefixOf x.1.s))),(170,.pure (preT (fun x:Str×Unit=>decide (x.1.s.length<=281474976710656))) (Zj (fun x:Str×Unit=>YU x.1))),(68,.pure (preT (fun x:Int×Unit=>decide (-9223372036854775808<=x.1)&&decide (x.1<=9223372036854775807))) (Zj (fun x:Int×Unit=>Vz x.1)))]
theorem a6q{G:PV->Prop}(s:List UInt8)(h : ∃ y0:Bool,AV.pv (Zj (fun(x:Str×Str×Unit)=>List.isPrefixOf (Str.s x.2.1) (Str.s x.1)) [(.str s),(.str [(95:UInt8)])])=AV.pv (enc y0)∧(if (y0)=true then(decide (0<=1)&&true&&decide (Int.toNat 1<=List.length s)&&decide (List.length s<=List.length s))=true∧((d1p [(.str (List.drop (Int.toNat 1) (List.take (List.length s) s)))] fun y1=>((NY (enc y1.2)&&Prod.fst (true,PV.bool (QG (enc y1.2))))=true∧(if (QG (enc y1.2))=true then if (decide (y1.1>0))=true then if (decide ((↑(List.length s):Int)<=10))=true then(d2p [(.int .i64 y1.1)] fun y2=>((decide (0<=1)&&true&&decide (Int.toNat 1<=List.length s)&&decide (List.length s<=List.length s))=true∧(G ((.bool (Str.s y2==List.drop (Int.toNat 1) (List.take (List.length s) s)))))))else(G ((.bool false)))else(G ((.bool false)))else(G ((.bool false)))))))else(At Xq 0 (Zb YP G) YR 0 67 [(0,(.pv (.str s))),(34,(.pv (.sl 1 false (Zw s)))),(35,(.pv (.int .i64 (↑(List.length (Zw s)):Int)))),(36,(.pv (.int .i64 0)))] []))):Zd Xq 0 (Zb YP G) YR [] (Z9 67 [.str s]):=Zd.tp (dm [dv Bool,dv (Int×Er),dv Str] 70 0x2222222222220222222222022222022212271200a4222201842220294161103e452) h
theorem SS{G:PV->Prop}(s:List UInt8)(i:Int)(h:if (decide (i<(↑(List.length (Zw s)):Int)))=true then(decide (0<=i)&&decide (Int.toNat i<List.length (Zw s))&&1==1)=true∧((decide (0+List.length [Sh.int IntKind.u8]<=List.length (PV.cells (List.getD (Zw s) (Int.toNat i) default)))&&Yt (PV.cells (List.getD (Zw s) (Int.toNat i) default)) 0 [Sh.int IntKind.u8])=true∧(if (decide (PV.asInt (List.getD (PV.cells (List.getD (Zw s) (Int.toNat i) default)) 0 default)<97))=true then if (i==0)=true then G ((.bool false))else(if (decide (PV.asInt (List.getD (PV.cells (List.getD (Zw s) (Int.toNat i) default)) 0 default)<48))=true then G ((.bool false))else(if (decide (PV.asInt (List.getD (PV.cells (List.getD (Zw s) (Int.toNat i) default)) 0 default)>57))=true then G ((.bool false))else(At Xq 0 (Zb YP G) YR 0 67 [(0,(.pv (.str s))),(34,(.pv (.sl 1 false (Zw s)))),(35,(.pv (.int .i64 (↑(List.length (Zw s)):Int)))),(36,(.pv (.int .i64 (IntKind.wrap IntKind.i64 (i+1)))))] [])))else(if (decide (PV.asInt (List.getD (PV.cells (List.getD (Zw s) (Int.toNat i) default)) 0 default)>122))=true then if (i==0)=true then G ((.bool false))else(if (decide (PV.asInt (List.getD (PV.cells (List.getD (Zw s) (Int.toNat i) default)) 0 default)<48))=true then G ((.bool false))else(if (decide (PV.asInt (List.getD (PV.cells (List.getD (Zw s) (Int.toNat i) default)) 0 default)>57))=true then G ((.bool false))else(At Xq 0 (Zb YP G) YR 0 67 [(0,(.pv (.str s))),(34,(.pv (.sl 1 false (Zw s)))),(35,(.pv (.int .i64 (↑(List.length (Zw s)):Int)))),(36,(.pv (.int .i64 (IntKind.wrap IntKind.i64 (i+1)))))] [])))else(At Xq 0 (Zb YP G) YR 0 67 [(0,(.pv (.str s))),(34,(.pv (.sl 1 false (Zw s)))),(35,(.pv (.int .i64 (↑(List.length (Zw s)):Int)))),(36,(.pv (.int .i64 (IntKind.wrap IntKind.i64 (i+1)))))] []))))else(if (!s==[])=true then G ((.bool (decide ((↑(List.length s):Int)<=30))))else(G ((.bool false))))):At Xq 0 (Zb YP G) YR 0 67 [(0,.pv (.str s)),(34,.pv (.sl 1 false (Zw s))),(35,.pv (.int .i64 (Zw s).length)),(36,.pv (.int .i64 i))] []:=At.tp (dm [] 137 0x22202222005420222222220200014222220222220064222220222222222200b422202d42220200014222220222220064222220222222222200b42222220304213107542) h
end Go.Pl
namespace Go.Pl
open Go.RowKit
open Enc (enc dec is)
open EncL (encL decL isL)
theorem PZ(s:List UInt8)(hs:s.length<=281474976710656): ∀ (m i:Nat),m+i=s.length->At Xq 0 (Zb YP (Zo (Wy s i))) YR 0 67 [(0,.pv (.str s)),(34,.pv (.sl 1 false (Zw s))),(35,.pv (.int .i64 (Zw s).length)),(36,.pv (.int .i64 i))] []:=by
 intro m
 induction m with
 | zero=>
  intro i hi
  have e:Wy s i=(!(s==[])&&decide (s.length<=30)):=by
   unfold Wy
   cases i with
   | zero=>cases s with
    | nil=>rfl
    | cons c r=>simp at hi
   | succ i=>simp only;rw[List.drop_of_length_le (show s.length<=i+1 by omega)];simp
  rw[e]
  refine SS s i (XV (Qe (by rw[HZ];omega)) (VE (fun h=>ZF ?_) fun h=>ZF ?_))
  ·rw[h,Bool.true_and];exact decide_eq_decide.2 (by omega)
  ·rw[h,Bool.false_and]
 | succ m ih=>
  intro i hi
  have hlt:i<s.length:=by omega
  have h:=ih (i+1) (by omega)
  refine SS s i ?_
  rw[b4q hlt,next (by omega)]
  have stop:(lowB s[i]=false∧(i=0∨digB s[i]=false))->Zo (Wy s i) (.bool false):=fun hb=>ZF (a3f hlt hb).symm
  have go:(lowB s[i]=true∨(i≠0∧digB s[i]=true))->At Xq 0 (Zb YP (Zo (Wy s i))) YR 0 67 [(0,.pv (.str s)),(34,.pv (.sl 1 false (Zw s))),(35,.pv (.int .i64 (Zw s).length)),(36,.pv (.int .i64 ((i+1:Nat):Int)))] []:=fun hb=>by rw[a5l hlt hb];exact h
  have rest:lowB s[i]=false->(if ((i:Int)==0)=true then Zo (Wy s i) (.bool false)else if decide ((s[i].toNat:Int)<48)=true then Zo (Wy s i) (.bool false)else if decide ((s[i].toNat:Int)>57)=true then Zo (Wy s i) (.bool false)else At Xq 0 (Zb YP (Zo (Wy s i))) YR 0 67 [(0,.pv (.str s)),(34,.pv (.sl 1 false (Zw s))),(35,.pv (.int .i64 (Zw s).length)),(36,.pv (.int .i64 ((i+1:Nat):Int)))] []):=by
   intro hl
   refine VR (fun h0=>stop ⟨hl,.inl (by omega)⟩) fun h0=>Xf (fun h1=>stop ⟨hl,.inr (Tn (by omega))⟩) fun h1=>Xf (fun h2=>stop ⟨hl,.inr (Tn (by omega))⟩) fun h2=>go (.inr ⟨by omega,Wl.2 (by omega)⟩)
  refine Y7 (Qz (by rw[HZ];exact hlt)) ⟨by rw[HZ];simp[hlt],by rfl,?_⟩
  refine Xf (fun h1=>rest (SN ?_)) fun h1=>Xf (fun h2=>rest (SN ?_)) fun h2=>go (.inl (a0j.2 ?_))
  ·have h1:(s[i].toNat:Int)<97:=h1
   omega
  ·have h2:(s[i].toNat:Int)>122:=h2
   omega
  ·have h1 : ¬ (s[i].toNat:Int)<97:=h1
   have h2 : ¬ (s[i].toNat:Int)>122:=h2
   omega
theorem FE: ∀ a:Str×Unit,decide (a.1.s.length<=281474976710656)=true->Zd Xq 0 (Zb YP (Zo (Yz a.1))) YR [] (Z9 a5d (encL a)):=by
 rintro⟨⟨s⟩,⟨⟩⟩ hl
 have hl:s.length<=281474976710656:=by simpa using hl
 refine a6q s (Zg (⟨s⟩,⟨[95]⟩,()) rfl (VE (fun h=> ?_) fun h=> ?_))
 ·have h:[95].isPrefixOf s=true:=h
  obtain⟨r,rfl⟩ : ∃ r,s=95::r:=by
   cases s with
   | nil=>simp at h
   | cons c r=>
    have:95=c:=by simpa using h
    exact⟨r,by rw[this]⟩
  have e1:List.drop (Int.toNat 1) (List.take (List.length (95::r)) (95::r))=r:=by rw[List.take_of_length_le (Nat.le_refl _)];rfl
  simp only[e1]
  refine⟨by simp,Ze (⟨r⟩,()) rfl (by simp at hl ⊢;omega),Zg (⟨r⟩,()) rfl ⟨by show(NY (enc (YU ⟨r⟩).2)&&true)=true;rw[d5f];rfl,?_⟩⟩
  show if QG (enc (YU ⟨r⟩).2)=true then(if decide ((YU ⟨r⟩).1>0)=true then(if _ then _ else Zo (Yz ⟨95::r⟩) _)else Zo (Yz ⟨95::r⟩) _)else Zo (Yz ⟨95::r⟩) _
  rw[b3i]
  by_cases h9:r.length<=9
  ·rw[<- c0g r h9,decide_eq_true h9,Bool.and_true]
   refine VE (fun h1=>VE (fun h2=>Y7 (by simp;omega) ⟨Ze ((YU ⟨r⟩).1,()) rfl (by have:=Ep ⟨r⟩;simp;omega),Zg ((YU ⟨r⟩).1,()) rfl ⟨by simp,ZF ?_⟩⟩) fun h2=>ZF ?_) fun h1=>ZF ?_
   ·rw[h1,h2];simp only[Bool.true_and,Bool.and_true];rfl
   ·rw[h2];simp
   ·rw[h1];simp
  ·rw[decide_eq_false h9,Bool.and_false]
   refine VE (fun h1=>VE (fun h2=>XV (by simp;omega) (ZF rfl)) fun h2=>ZF rfl) fun h1=>ZF rfl
 ·have h:[95].isPrefixOf s=false:=h
  show At Xq 0 (Zb YP (Zo (Yz ⟨s⟩))) YR 0 67 _ _
  rw[a4u h]
  exact PZ s hl s.length 0 (by omega)
end Go.Pl
namespace Go.Pl
end Go.Pl
namespace Go.Pl.Cm
open Go.RowKit
open Enc (enc dec is)
open EncL (encL decL isL)
structure CmpOK {α:Type} (f:α->α->Int):Prop where
 anti : ∀ a b,f b a = - f a b
 zero : ∀ a b,f a b=0 ↔ a=b
 trans : ∀ a b c,f a b<=0->f b c<=0->f a c<=0
 rng : ∀ a b,-1<=f a b∧f a b<=1
theorem CmpOK.strict{α:Type}{f:α->α->Int}(h:CmpOK f){a b c:α}(h1:f a b<0)(h2:f b c<=0):f a c<0:=by
 have h3:=h.trans a b c (by omega) h2
 by_cases h0:f a c=0
 ·obtain rfl:=(h.zero a c).1 h0
  have:=h.anti a b
  omega
 ·omega
def XT{α:Type}(f:α->α->Int):List α->List α->Int
 | [],[]=>0
 | [],_::_=> -1
 | _::_,[]=>1
 | x::l,y::m=>if f x y≠0 then f x y else XT f l m
theorem Ta{α:Type}{f:α->α->Int}(h:CmpOK f): ∀ a b,XT f b a = - XT f a b
 | [],[]=>rfl
 | [],_::_=>rfl
 | _::_,[]=>rfl
 | x::l,y::m=>by
  have h1:=h.anti x y
  rw[XT,XT,h1,Ta h l m]
  by_cases h0:f x y=0
  ·rw[if_neg (by omega),if_neg (by omega)]
  ·rw[if_pos (by omega),if_pos (by omega)]
theorem SH{α:Type}{f:α->α->Int}(h:CmpOK f): ∀ a b,XT f a b=0 ↔ a=b
 | [],[]=>by simp[XT]
 | [],_::_=>by simp[XT]
 | _::_,[]=>by simp[XT]
 | x::l,y::m=>by
  rw[XT,List.cons.injEq,<- h.zero x y,<- SH h l m]
  by_cases h0:f x y=0
  ·rw[if_neg (by omega)];omega
  ·rw[if_pos (by omega)];omega
theorem Mw{α:Type}{f:α->α->Int}(h:CmpOK f): ∀ a b,-1<=XT f a b∧XT f a b<=1
 | [],[]=>by simp[XT]
 | [],_::_=>by simp[XT]
 | _::_,[]=>by simp[XT]
 | x::l,y::m=>by
  rw[XT]
  split
  ·exact h.rng x y
  ·exact Mw h l m
theorem Ac{α:Type}{f:α->α->Int}(h:CmpOK f): ∀ a b c,XT f a b<=0->XT f b c<=0->XT f a c<=0
 | [],_,[],_,_=>by simp[XT]
 | [],_,_::_,_,_=>by simp[XT]
 | _::_,[],_,h1,_=>by simp[XT]at h1
 | _::_,_::_,[],_,h2=>by simp[XT]at h2
 | x::l,y::m,z::n,h1,h2=>by
  rw[XT]at h1 h2 ⊢
  by_cases a:f x y=0
  ·obtain rfl:=(h.zero x y).1 a
   rw[if_neg (by omega)]at h1
   by_cases b:f x z=0
   ·rw[if_neg (by omega)]at h2 ⊢
    exact Ac h l m n h1 h2
   ·rw[if_pos b]at h2 ⊢
    exact h2
  ·rw[if_pos a]at h1
   by_cases b:f y z=0
   ·obtain rfl:=(h.zero y z).1 b
    rw[if_pos a]
    exact h1
   ·rw[if_pos b]at h2
    have:=h.strict (show f x y<0 by omega) h2
    rw[if_pos (by omega)]
    omega
theorem ER{α:Type}{f:α->α->Int}(h:CmpOK f):CmpOK (XT f):=⟨Ta h,SH h,Ac h,Mw h⟩
theorem a2c{α β γ:Type}{f:β->β->Int}{g:γ->γ->Int}(p:α->β)(q:α->γ)(hpq : ∀ a b,p a=p b->q a=q b->a=b)(hf:CmpOK f)(hg:CmpOK g):CmpOK fun a b:α=>if f (p a) (p b)≠0 then f (p a) (p b)else g (q a) (q b):=by
 refine⟨fun a b=> ?_,fun a b=> ?_,fun a b c h1 h2=> ?_,fun a b=> ?_⟩
 ·have h1:=hf.anti (p a) (p b)
  have h2:=hg.anti (q a) (q b)
  try simp only
  by_cases h0:f (p a) (p b)=0
  ·rw[if_neg (by omega),if_neg (by omega),h2]
  ·rw[if_pos (by omega),if_pos h0,h1]
 ·try simp only
  by_cases h0:f (p a) (p b)=0
  ·rw[if_neg (by omega),hg.zero]
   exact⟨fun h=>hpq a b ((hf.zero _ _).1 h0) h,fun h=>by rw[h]⟩
  ·rw[if_pos h0]
   exact⟨fun h=>absurd h h0,fun h=>absurd ((hf.zero _ _).2 (by rw[h])) h0⟩
 ·try simp only at h1 h2 ⊢
  by_cases x:f (p a) (p b)=0
  ·have e:=(hf.zero _ _).1 x
   rw[if_neg (by omega)]at h1
   rw[e]
   by_cases y:f (p b) (p c)=0
   ·rw[if_neg (by omega)]at h2 ⊢
    exact hg.trans _ _ _ h1 h2
   ·rw[if_pos y]at h2 ⊢
    exact h2
  ·rw[if_pos x]at h1
   by_cases y:f (p b) (p c)=0
   ·have e:=(hf.zero _ _).1 y
    rw[<- e,if_pos x]
    exact h1
   ·rw[if_pos y]at h2
    have:=hf.strict (show f (p a) (p b)<0 by omega) h2
    rw[if_pos (by omega)]
    omega
 ·try simp only
  split
  ·exact hf.rng _ _
  ·exact hg.rng _ _
theorem QR:CmpOK Jf:=by
 refine⟨fun a b=> ?_,fun a b=> ?_,fun a b c=> ?_,fun a b=> ?_⟩ <;> unfold Jf <;> (repeat' split) <;> omega
def a6l(a b:UInt8):Int:=if a<b then -1 else if b<a then 1 else 0
theorem Qj(a b:UInt8):a6l a b=Jf a.toNat b.toNat:=by
 unfold a6l Jf
 simp only[UInt8.lt_iff_toNat_lt]
 repeat' split
 all_goals omega
theorem c1d:CmpOK a6l:=by
 refine⟨fun a b=> ?_,fun a b=> ?_,fun a b c=> ?_,fun a b=> ?_⟩
 ·rw[Qj,Qj];exact QR.anti _ _
 ·rw[Qj,QR.zero]
  exact⟨fun h=>UInt8.toNat_inj.1 (by omega),fun h=>by rw[h]⟩
 ·rw[Qj,Qj,Qj];exact QR.trans _ _ _
 ·rw[Qj];exact QR.rng _ _
theorem PS: ∀ a b:List UInt8,Lib.compareBytes a b=XT a6l a b
 | [],[]=>rfl
 | [],_::_=>rfl
 | _::_,[]=>rfl
 | x::l,y::m=>by
  rw[Lib.compareBytes,XT,PS l m]
  unfold a6l
  by_cases h1:x<y
  ·simp[h1]
  ·by_cases h2:y<x
   ·simp[h1,h2]
   ·simp[h1,h2]
theorem b5k:CmpOK Lib.compareBytes:=by
 have:Lib.compareBytes=XT a6l:=by funext a b;exact PS a b
 rw[this]
 exact ER c1d
theorem b7n:CmpOK GK:=a2c (fun x:Coef=>x.v.s) (fun x:Coef=>x.c) (fun a b h1 h2=>by
 obtain⟨⟨s⟩,c⟩:=a
 obtain⟨⟨s'⟩,c'⟩:=b
 simp only at h1 h2
 rw[h1,h2]) b5k QR
theorem Nh: ∀ a b:List Coef,XK a b=XT GK a b
 | [],[]=>rfl
 | [],_::_=>rfl
 | _::_,[]=>rfl
 | x::l,y::m=>by rw[XK,XT,Nh l m]
theorem a8y:CmpOK XK:=by
 have:XK=XT GK:=by funext a b;exact Nh a b
 rw[this]
 exact ER b7n
theorem a5h:CmpOK VG:=a2c (fun x:Lin=>x.t) (fun x:Lin=>x.k) (fun a b h1 h2=>by
 obtain⟨k,t⟩:=a
 obtain⟨k',t'⟩:=b
 simp only at h1 h2
 rw[h1,h2]) a8y QR
theorem cmpLin_dec(a b:Lin):(VG a b==0)=decide (a=b):=by
 have:=a5h.zero a b
 by_cases h:a=b
 ·rw[this.2 h,decide_eq_true h];rfl
 ·rw[decide_eq_false h]
  exact beq_eq_false_iff_ne.2 fun e=>h (this.1 e)
end Go.Pl.Cm
namespace Go.Pl
open Go.RowKit
open Enc (enc dec is)
open EncL (encL decL isL)
set_option maxRecDepth 100000
noncomputable def Gz:IC:=Wn Proofs.Tryz.f61
def GR:List IRes:=[(.tmp 4)]
abbrev c6o:Nat:=26
noncomputable def SG:ZC:=YI []
theorem d2z{G:PV->Prop}(a b:List Int)(h:if ((↑(List.length (List.map enc a)):Int) != (↑(List.length (List.map enc b)):Int))=true then G ((.bool false))else(At SG 0 (Zb GR G) Gz 0 26 [(0,(.pv (.sl 1 false (List.map enc a)))),(1,(.pv (.sl 1 false (List.map enc b)))),(12,(.pv (.int .i64 (↑(List.length (List.map enc a)):Int)))),(13,(.pv (.int .i64 0)))] [])):Zd SG 0 (Zb GR G) Gz [] (Z9 26 [enc a,enc b]):=Zd.tp (dm [] 8 0x142) h
theorem b4w{G:PV->Prop}(a b:List Int)(i:Int)(h:if (decide (i<(↑(List.length (List.map enc a)):Int)))=true then(decide (0<=i)&&decide (Int.toNat i<List.length (List.map enc a))&&Enc.sz Int==1)=true∧(∃ y0:Int,AV.pv (PV.rptr (PV.cells (List.getD (List.map enc a) (Int.toNat i) default)))=AV.pv (PV.rptr (PV.cells ((enc) y0)))∧((decide (0<=i)&&decide (Int.toNat i<List.length (List.map enc b))&&Enc.sz Int==1)=true∧(∃ y1:Int,AV.pv (PV.rptr (PV.cells (List.getD (List.map enc b) (Int.toNat i) default)))=AV.pv (PV.rptr (PV.cells ((enc) y1)))∧(if (PV.asInt (List.getD (PV.cells (enc y0)) 0 default) != PV.asInt (List.getD (PV.cells (enc y1)) 0 default))=true then G ((.bool false))else(At SG 0 (Zb GR G) Gz 0 26 [(0,(.pv (.sl 1 false (List.map enc a)))),(1,(.pv (.sl 1 false (List.map enc b)))),(12,(.pv (.int .i64 (↑(List.length (List.map enc a)):Int)))),(13,(.pv (.int .i64 (IntKind.wrap IntKind.i64 (i+1)))))] [])))))else(G ((.bool true)))):At SG 0 (Zb GR G) Gz 0 26 [(13,.pv (.int .i64 i)),(12,.pv (.int .i64 (a.map (enc:Int->PV)).length)),(0,.pv (enc a)),(1,.pv (enc b))] []:=At.tp (dm [dr Int] 21 0x200014225125100e42) h
noncomputable def Gi:IC:=Wn Proofs.Tryz.f62
def Gw:List IRes:=[(.tmp 6)]
abbrev c7q:Nat:=32
noncomputable def TA:ZC:=YI [(63,.pure (preT (fun x:Lin×Lin×Unit=>Yd x.1&&Yd x.2.1)) (Zj (fun x:Lin×Lin×Unit=>decide (x.1=x.2.1))))]
theorem d2k{G:PV->Prop}(a b:List Lin)(h:if ((↑(List.length (List.map enc a)):Int) != (↑(List.length (List.map enc b)):Int))=true then G ((.bool false))else(At TA 0 (Zb Gw G) Gi 0 32 [(1,(.pv (.sl 2 false (List.map enc b)))),(2,(.pv (.fn 63))),(15,(.pv (.sl 2 false (List.map enc a)))),(16,(.pv (.int .i64 (↑(List.length (List.map enc a)):Int)))),(17,(.pv (.int .i64 0)))] [])):Zd TA 0 (Zb Gw G) Gi [] (Z9 32 [enc a,enc b,.fn 63]):=Zd.tp (dm [] 8 0x142) h
theorem b1m{G:PV->Prop}(a b:List Lin)(i:Int)(h:if (decide (i<(↑(List.length (List.map enc a)):Int)))=true then(decide (0<=i)&&decide (Int.toNat i<List.length (List.map enc a))&&Enc.sz Lin==2)=true∧(∃ y0:Lin,AV.pv (PV.rptr (PV.cells (List.getD (List.map enc a) (Int.toNat i) default)))=AV.pv (PV.rptr (PV.cells ((enc) y0)))∧((decide (0<=i)&&decide (Int.toNat i<List.length (List.map enc b))&&Enc.sz Lin==2)=true∧(∃ y1:Lin,AV.pv (PV.rptr (PV.cells (List.getD (List.map enc b) (Int.toNat i) default)))=AV.pv (PV.rptr (PV.cells ((enc) y1)))∧((Go.Pl.preT (fun(x:Lin×Lin×Unit)=>Yd x.1&&Yd x.2.1) [(.agg [(.int .i64 (PV.asInt (List.getD (PV.cells (enc y0)) 0 default))),(.sl 2 false (PV.asXs (List.getD (PV.cells (enc y0)) (0+1) default)))]),(.agg [(.int .i64 (PV.asInt (List.getD (PV.cells (enc y1)) 0 default))),(.sl 2 false (PV.asXs (List.getD (PV.cells (enc y1)) (0+1) default)))])])=true∧(∃ y2:Bool,AV.pv (Zj (fun(x:Lin×Lin×Unit)=>decide (x.1=x.2.1)) [(.agg [(.int .i64 (PV.asInt (List.getD (PV.cells (enc y0)) 0 default))),(.sl 2 false (PV.asXs (List.getD (PV.cells (enc y0)) (0+1) default)))]),(.agg [(.int .i64 (PV.asInt (List.getD (PV.cells (enc y1)) 0 default))),(.sl 2 false (PV.asXs (List.getD (PV.cells (enc y1)) (0+1) default)))])])=AV.pv (enc y2)∧(if (!y2)=true then G ((.bool false))else(At TA 0 (Zb Gw G) Gi 0 32 [(1,(.pv (.sl 2 false (List.map enc b)))),(2,(.pv (.fn 63))),(15,(.pv (.sl 2 false (List.map enc a)))),(16,(.pv (.int .i64 (↑(List.length (List.map enc a)):Int)))),(17,(.pv (.int .i64 (IntKind.wrap IntKind.i64 (i+1)))))] [])))))))else(G ((.bool true)))):At TA 0 (Zb Gw G) Gi 0 32 [(17,.pv (.int .i64 i)),(16,.pv (.int .i64 (a.map (enc:Lin->PV)).length)),(15,.pv (enc a)),(1,.pv (enc b)),(2,.pv (.fn 63))] []:=At.tp (dm [dr Lin,dv Bool] 22 0x2000146125125100f42) h
noncomputable def GJ:IC:=Wn Proofs.Tryz.f64
def Gd:List IRes:=[(.tmp 6)]
abbrev c9w:Nat:=32
noncomputable def Tg(N:Nat):ZC:=YI [(24,.pure (preT (fun x:Tm×Tm×Unit=>(tW x.1&&tW x.2.1)&&decide (ZQ x.1<N))) (Zj (fun x:Tm×Tm×Unit=>Jb x.1 x.2.1)))]
theorem d5k{G:PV->Prop}(N:Nat)(a b:List Tm)(h:if ((↑(List.length (List.map enc a)):Int) != (↑(List.length (List.map enc b)):Int))=true then G ((.bool false))else(At (Tg N) 0 (Zb Gd G) GJ 0 32 [(1,(.pv (.sl 10 false (List.map enc b)))),(2,(.pv (.fn 24))),(15,(.pv (.sl 10 false (List.map enc a)))),(16,(.pv (.int .i64 (↑(List.length (List.map enc a)):Int)))),(17,(.pv (.int .i64 0)))] [])):Zd (Tg N) 0 (Zb Gd G) GJ [] (Z9 32 [enc a,enc b,.fn 24]):=Zd.tp (dm [] 8 0x142) h
theorem b5m{G:PV->Prop}(N:Nat)(a b:List Tm)(i:Int)(h:if (decide (i<(↑(List.length (List.map enc a)):Int)))=true then(decide (0<=i)&&decide (Int.toNat i<List.length (List.map enc a))&&Enc.sz Tm==10)=true∧(∃ y0:Tm,AV.pv (PV.rptr (PV.cells (List.getD (List.map enc a) (Int.toNat i) default)))=AV.pv (PV.rptr (PV.cells ((enc) y0)))∧(Ff y0=true∧((decide (0<=i)&&decide (Int.toNat i<List.length (List.map enc b))&&Enc.sz Tm==10)=true∧(∃ y1:Tm,AV.pv (PV.rptr (PV.cells (List.getD (List.map enc b) (Int.toNat i) default)))=AV.pv (PV.rptr (PV.cells ((enc) y1)))∧(Ff y1=true∧((Go.Pl.preT (fun(x:Tm×Tm×Unit)=>tW x.1&&tW x.2.1&&decide (ZQ x.1<N)) [Ap y0,Ap y1])=true∧(∃ y2:Bool,AV.pv (Zj (fun(x:Tm×Tm×Unit)=>Jb x.1 x.2.1) [Ap y0,Ap y1])=AV.pv (enc y2)∧(if (!y2)=true then G ((.bool false))else(At (Tg N) 0 (Zb Gd G) GJ 0 32 [(1,(.pv (.sl 10 false (List.map enc b)))),(2,(.pv (.fn 24))),(15,(.pv (.sl 10 false (List.map enc a)))),(16,(.pv (.int .i64 (↑(List.length (List.map enc a)):Int)))),(17,(.pv (.int .i64 (IntKind.wrap IntKind.i64 (i+1)))))] [])))))))))else(G ((.bool true)))):At (Tg N) 0 (Zb Gd G) GJ 0 32 [(17,.pv (.int .i64 i)),(16,.pv (.int .i64 (a.map (enc:Tm->PV)).length)),(15,.pv (enc a)),(1,.pv (enc b)),(2,.pv (.fn 24))] []:=At.tp (dm [dr Tm,dv Bool] 22 0x2000146115115100f42) h
noncomputable def b2p:IC:=Wn Proofs.Tryz.f24
def b5x:List IRes:=[(.tmp 4)]
abbrev c8b:Nat:=72
noncomputable def c4t(N:Nat):ZC:=YI [(61,.pure (preT (fun x:List Int×List Int×Unit=>Ya x.1)) (Zj (fun x:List Int×List Int×Unit=>decide (x.1=x.2.1)))),(62,.pure (preT (fun x:List Lin×List Lin×FnV 63×Unit=>Ya x.1&&x.1.all Yd&&x.2.1.all Yd)) (Zj (fun x:List Lin×List Lin×FnV 63×Unit=>decide (x.1=x.2.1)))),(64,.pure (preT (fun x:List Tm×List Tm×FnV 24×Unit=>(tsW x.1&&tsW x.2.1)&&decide (ZZ x.1<N))) (Zj (fun x:List Tm×List Tm×FnV 24×Unit=>VU x.1 x.2.1)))]
theorem d2b{G:PV->Prop}(N:Nat)(n:Nd)(ks:List Tm)(m:Nd)(ls:List Tm)(h:if (Nd.kind n==Nd.kind m)=true then if (Str.s (Nd.name n)==Str.s (Nd.name m))=true then if (Nd.num n==Nd.num m)=true then if (Str.s (Nd.elem n)==Str.s (Nd.elem m))=true then(Go.Pl.preT (fun(x:List Int×List Int×Unit)=>Ya x.1) [(.sl 1 false (List.map enc (Nd.dims n))),(.sl 1 false (List.map enc (Nd.dims m)))])=true∧(∃ y0:Bool,AV.pv (Zj (fun(x:List Int×List Int×Unit)=>decide (x.1=x.2.1)) [(.sl 1 false (List.map enc (Nd.dims n))),(.sl 1 false (List.map enc (Nd.dims m)))])=AV.pv (enc y0)∧(if (y0)=true then(Go.Pl.preT (fun(x:List Int×List Int×Unit)=>Ya x.1) [(.sl 1 false (List.map enc (Nd.data n))),(.sl 1 false (List.map enc (Nd.data m)))])=true∧(∃ y1:Bool,AV.pv (Zj (fun(x:List Int×List Int×Unit)=>decide (x.1=x.2.1)) [(.sl 1 false (List.map enc (Nd.data n))),(.sl 1 false (List.map enc (Nd.data m)))])=AV.pv (enc y1)∧(if (y1)=true then(Go.Pl.preT (fun(x:List Lin×List Lin×FnV 63×Unit)=>Ya x.1&&List.all x.1 Yd&&List.all x.2.1 Yd) [(.sl 2 false (List.map enc (Nd.sizes n))),(.sl 2 false (List.map enc (Nd.sizes m))),(.fn 63)])=true∧(∃ y2:Bool,AV.pv (Zj (fun(x:List Lin×List Lin×FnV 63×Unit)=>decide (x.1=x.2.1)) [(.sl 2 false (List.map enc (Nd.sizes n))),(.sl 2 false (List.map enc (Nd.sizes m))),(.fn 63)])=AV.pv (enc y2)∧(if (y2)=true then(Go.Pl.preT (fun(x:List Int×List Int×Unit)=>Ya x.1) [(.sl 1 false (List.map enc (Nd.ranks n))),(.sl 1 false (List.map enc (Nd.ranks m)))])=true∧(∃ y3:Bool,AV.pv (Zj (fun(x:List Int×List Int×Unit)=>decide (x.1=x.2.1)) [(.sl 1 false (List.map enc (Nd.ranks n))),(.sl 1 false (List.map enc (Nd.ranks m)))])=AV.pv (enc y3)∧(if (y3)=true then(Go.Pl.preT (fun(x:List Tm×List Tm×FnV 24×Unit)=>tsW x.1&&tsW x.2.1&&decide (ZZ x.1<N)) [(.sl 10 false (List.map enc ks)),(.sl 10 false (List.map enc ls)),(.fn 24)])=true∧(∃ y4:Bool,AV.pv (Zj (fun(x:List Tm×List Tm×FnV 24×Unit)=>VU x.1 x.2.1) [(.sl 10 false (List.map enc ks)),(.sl 10 false (List.map enc ls)),(.fn 24)])=AV.pv (enc y4)∧(G ((.bool y4))))else(G ((.bool false)))))else(G ((.bool false)))))else(G ((.bool false)))))else(G ((.bool false)))))else(G ((.bool false)))else(G ((.bool false)))else(G ((.bool false)))else(G ((.bool false)))):Zd (c4t N) 0 (Zb b5x G) b2p [] (Z9 72 [.agg [enc n.kind,enc n.line,enc n.name,enc n.num,enc n.elem,enc n.dims,enc n.data,enc n.sizes,enc n.ranks,enc ks],.agg [enc m.kind,enc m.line,enc m.name,enc m.num,enc m.elem,enc m.dims,enc m.data,enc m.sizes,enc m.ranks,enc ls]]):=Zd.tp (dm [dv Bool] 334 0x22222222222222222222222222222222222222222222222222222022222222222222222222222222222222222222222222222022222222222222222222222222222222222222222022222222222222222222222222222222202222222222222222222222222022222222222222222022222222222022222025122220084251222201942512222030425122222204f42512222220764222222220a442222220d8422222211242) h
noncomputable def a7r:IC:=Wn Proofs.Tryz.f18
def a7w:List IRes:=[(.tmp 4)]
abbrev d1g:Nat:=10
noncomputable def c5h:ZC:=YI [(30,.pure (preT (fun x:Tm×Unit=>tW x.1)) (Zj (fun x:Tm×Unit=>Y4 x.1))),(24,.pure (preT (fun x:Tm×Tm×Unit=>tW x.1&&tW x.2.1)) (Zj (fun x:Tm×Tm×Unit=>Jb x.1 x.2.1)))]
theorem d5l{G:PV->Prop}(n:Nd)(ks:List Tm)(m:Nd)(ls:List Tm)(h:(Go.Pl.preT (fun(x:Tm×Unit)=>tW x.1) (MW n ks))=true∧(∃ y0:Tm,AV.pv (Zj (fun(x:Tm×Unit)=>Y4 x.1) (MW n ks))=AV.pv (enc y0)∧((Go.Pl.preT (fun(x:Tm×Unit)=>tW x.1) [(.agg [(.int .i64 (Nd.kind m)),(.int .i64 (Nd.line m)),(.str (Str.s (Nd.name m))),(.int .i64 (Nd.num m)),(.str (Str.s (Nd.elem m))),(.sl 1 false (List.map enc (Nd.dims m))),(.sl 1 false (List.map enc (Nd.data m))),(.sl 2 false (List.map enc (Nd.sizes m))),(.sl 1 false (List.map enc (Nd.ranks m))),(.sl 10 false (List.map enc ls))])])=true∧(∃ y1:Tm,AV.pv (Zj (fun(x:Tm×Unit)=>Y4 x.1) [(.agg [(.int .i64 (Nd.kind m)),(.int .i64 (Nd.line m)),(.str (Str.s (Nd.name m))),(.int .i64 (Nd.num m)),(.str (Str.s (Nd.elem m))),(.sl 1 false (List.map enc (Nd.dims m))),(.sl 1 false (List.map enc (Nd.data m))),(.sl 2 false (List.map enc (Nd.sizes m))),(.sl 1 false (List.map enc (Nd.ranks m))),(.sl 10 false (List.map enc ls))])])=AV.pv (enc y1)∧((Go.Pl.preT (fun(x:Tm×Tm×Unit)=>tW x.1&&tW x.2.1) [enc y0,enc y1])=true∧(∃ y2:Bool,AV.pv (Zj (fun(x:Tm×Tm×Unit)=>Jb x.1 x.2.1) [enc y0,enc y1])=AV.pv (enc y2)∧(G ((.bool y2))))))))):Zd c5h 0 (Zb a7w G) a7r [] (Z9 10 [.agg [enc n.kind,enc n.line,enc n.name,enc n.num,enc n.elem,enc n.dims,enc n.data,enc n.sizes,enc n.ranks,enc ks],.agg [enc m.kind,enc m.line,enc m.name,enc m.num,enc m.elem,enc m.dims,enc m.data,enc m.sizes,enc m.ranks,enc ls]]):=Zd.tp (dm [dv Tm,dv Bool] 8 0x615151) h
end Go.Pl
namespace Go.Pl
open Go.RowKit
open Enc (enc dec is)
open EncL (encL decL isL)
theorem a2g{α:Type}[BEq α][LawfulBEq α]{x y:α}{P Q:Prop}(h1:x=y->P)(h2:x≠y->Q):if (x==y)=true then P else Q:=by by_cases h:x=y;rw[if_pos (by simpa using h)];exact h1 h;rw[if_neg (by simpa using h)];exact h2 h
theorem a6o{l:Lin}(h:VC l=true):Yd l=true:=by unfold VC at h;rw[Bool.and_eq_true]at h;exact h.1
theorem F4{ks:List Tm}{k:Tm}(h:k∈ks):ZQ k<=ZZ ks:=by
 induction ks with
 | nil=>cases h
 | cons a l ih=>
  rw[ZZ]
  rcases List.mem_cons.1 h with rfl|h
  ·omega
  ·have:=ih h;omega
theorem a8q(a b:List Int)(ha:a.length<=9223372036854775807)(hab:a.length=b.length): ∀ (k i:Nat),k+i=a.length ->
  At SG 0 (Zb GR (Zo (decide (a.drop i=b.drop i)))) Gz 0 26 [(0,.pv (enc a)),(1,.pv (enc b)),(12,.pv (.int .i64 (a.map (enc:Int->PV)).length)),(13,.pv (.int .i64 i))] []:=by
 intro k
 induction k with
 | zero=>
  intro i hi
  rw[List.drop_of_length_le (by omega),List.drop_of_length_le (by omega)]
  exact b4w a b i (XV (Va (by omega)) (ZF rfl))
 | succ k ih=>
  intro i hi
  have hlt:i<a.length:=by omega
  have hlt2:i<b.length:=by omega
  have h:=ih (i+1) (by omega)
  refine b4w a b i (Y7 (WN hlt) ⟨ZJ hlt rfl,Z4 hlt ⟨ZJ hlt2 rfl,Z4 hlt2 ?_⟩⟩)
  show if (a[i] != b[i])=true then _ else _
  refine Em (fun e=>ZF ?_) fun e=> ?_
  ·rw[List.drop_eq_getElem_cons hlt,List.drop_eq_getElem_cons hlt2,CP e]
  ·rw[next (by omega),List.drop_eq_getElem_cons hlt,List.drop_eq_getElem_cons hlt2,BU e]
   exact h
theorem c1l: ∀ x:List Int×List Int×Unit,Ya x.1=true->Zd SG 0 (Zb GR (Zo (decide (x.1=x.2.1)))) Gz [] (Z9 c6o (encL x)):=by
 rintro⟨a,b,⟨⟩⟩ h
 have h:=of_decide_eq_true h
 refine d2z a b (Al (fun e=>ZF (a6w e).symm) fun e=> ?_)
 exact(a8q a b h e a.length 0 (by omega))
theorem b0x(a b:List Lin)(ha:a.length<=9223372036854775807)(wa:a.all Yd=true)(wb:b.all Yd=true)(hab:a.length=b.length): ∀ (k i:Nat),k+i=a.length ->
  At TA 0 (Zb Gw (Zo (decide (a.drop i=b.drop i)))) Gi 0 32 [(1,.pv (enc b)),(2,.pv (.fn 63)),(15,.pv (enc a)),(16,.pv (.int .i64 (a.map (enc:Lin->PV)).length)),(17,.pv (.int .i64 i))] []:=by
 intro k
 induction k with
 | zero=>
  intro i hi
  rw[List.drop_of_length_le (by omega),List.drop_of_length_le (by omega)]
  exact b1m a b i (XV (Va (by omega)) (ZF rfl))
 | succ k ih=>
  intro i hi
  have h1:i<a.length:=by omega
  have h2:i<b.length:=by omega
  have h:=ih (i+1) (by omega)
  have ga:Yd a[i]=true:=List.all_eq_true.1 wa _ (List.getElem_mem h1)
  have gb:Yd b[i]=true:=List.all_eq_true.1 wb _ (List.getElem_mem h2)
  refine b1m a b i (Y7 (WN h1) ⟨ZJ h1 rfl,Z4 h1 ⟨ZJ h2 rfl,Z4 h2 ⟨Ze (a[i],b[i],()) rfl (by show(Yd _&&Yd _)=true;rw[ga,gb];rfl),Zg (a[i],b[i],()) rfl (VT (fun e=>ZF ?_) fun e=> ?_)⟩⟩⟩)
  ·rw[List.drop_eq_getElem_cons h1,List.drop_eq_getElem_cons h2,CP (of_decide_eq_false e)]
  ·rw[next (by omega),List.drop_eq_getElem_cons h1,List.drop_eq_getElem_cons h2,BU (of_decide_eq_true e)]
   exact h
theorem c2c: ∀ x:List Lin×List Lin×FnV 63×Unit,(Ya x.1&&x.1.all Yd&&x.2.1.all Yd)=true->Zd TA 0 (Zb Gw (Zo (decide (x.1=x.2.1)))) Gi [] (Z9 c7q (encL x)):=by
 rintro⟨a,b,⟨⟩,⟨⟩⟩ h
 simp only[Bool.and_eq_true]at h
 obtain⟨⟨h,wa⟩,wb⟩:=h
 have h:=of_decide_eq_true h
 refine d2k a b (Al (fun e=>ZF (a6w e).symm) fun e=> ?_)
 exact(b0x a b h wa wb e a.length 0 (by omega))
theorem RD{ts:List Tm}(h:tsW ts=true):ts.length<=1048576∧ ∀ k∈ts,tW k=true:=by
 have h:Xi ts<=1048576:=of_decide_eq_true h
 exact⟨by have:=MO ts;omega,fun k hk=>decide_eq_true (Nat.le_trans (PL hk) h)⟩
theorem a9f(N:Nat)(a b:List Tm)(ha:a.length<=1048576)(wa : ∀ k∈a,tW k=true)(wb : ∀ k∈b,tW k=true)(hd:ZZ a<N)(hab:a.length=b.length): ∀ (k i:Nat),k+i=a.length ->
  At (Tg N) 0 (Zb Gd (Zo (VU (a.drop i) (b.drop i)))) GJ 0 32 [(1,.pv (enc b)),(2,.pv (.fn 24)),(15,.pv (enc a)),(16,.pv (.int .i64 (a.map (enc:Tm->PV)).length)),(17,.pv (.int .i64 i))] []:=by
 intro k
 induction k with
 | zero=>
  intro i hi
  rw[List.drop_of_length_le (by omega),List.drop_of_length_le (by omega)]
  exact b5m N a b i (XV (Va (by omega)) (ZF rfl))
 | succ k ih=>
  intro i hi
  have h1:i<a.length:=by omega
  have h2:i<b.length:=by omega
  have h:=ih (i+1) (by omega)
  have hk:=F4 (List.getElem_mem h1)
  refine b5m N a b i (Y7 (WN h1) ⟨ZJ h1 rfl,Z4 h1 ⟨Wm _,ZJ h2 rfl,Z4 h2 ⟨Wm _,Ze (a[i],b[i],()) (a3m _ _) (by
   show(tW _&&tW _&&decide _)=true
   rw[wa _ (List.getElem_mem h1),wb _ (List.getElem_mem h2),decide_eq_true (show ZQ a[i]<N by omega)];rfl),Zg (a[i],b[i],()) (a3m _ _) (VT (fun e=>ZF ?_) fun e=> ?_)⟩⟩⟩)
  ·have e:Jb a[i] b[i]=false:=e
   rw[List.drop_eq_getElem_cons h1,List.drop_eq_getElem_cons h2,VU,e];rfl
  ·have e:Jb a[i] b[i]=true:=e
   rw[next (by omega),List.drop_eq_getElem_cons h1,List.drop_eq_getElem_cons h2,VU,e,Bool.true_and]
   exact h
theorem b7w(N:Nat): ∀ x:List Tm×List Tm×FnV 24×Unit,((tsW x.1&&tsW x.2.1)&&decide (ZZ x.1<N))=true->Zd (Tg N) 0 (Zb Gd (Zo (VU x.1 x.2.1))) GJ [] (Z9 c9w (encL x)):=by
 rintro⟨a,b,⟨⟩,⟨⟩⟩ h
 simp only[Bool.and_eq_true,decide_eq_true_eq]at h
 obtain⟨⟨wa,wb⟩,hd⟩:=h
 refine d5k N a b (Al (fun e=>ZF (X4 fun h=>e (JD h))) fun e=> ?_)
 exact(a9f N a b (RD wa).1 (RD wa).2 (RD wb).2 hd e a.length 0 (by omega))
theorem a8o{n:Nd}{ks:List Tm}(h:tW (.mk n ks)=true):tsW ks=true:=by
 have h:Vj (.mk n ks)<=1048576:=of_decide_eq_true h
 rw[Vj]at h
 exact decide_eq_true (by omega)
theorem a2a{α:Type}{l:List α}(h:l.length<=1048576):Ya l=true:=decide_eq_true (by omega)
theorem a0o{n:Nd}{ks:List Tm}(h:tW (.mk n ks)=true):n.sizes.all Yd=true:=List.all_eq_true.2 fun l hl=>a6o (Me h l hl)
theorem c0x(N:Nat): ∀ x:Tm×Tm×Unit,((tW x.1&&tW x.2.1)&&decide (ZQ x.1<N+1))=true->Zd (c4t N) 0 (Zb b5x (Zo (Jb x.1 x.2.1))) b2p [] (Z9 c8b (encL x)):=by
 rintro⟨⟨n,ks⟩,⟨m,ls⟩,⟨⟩⟩ h
 simp only[Bool.and_eq_true,decide_eq_true_eq]at h
 obtain⟨⟨hw,hv⟩,hd⟩:=h
 have hd:ZQ (.mk n ks)<N+1:=hd
 rw[ZQ]at hd
 have hn:=Ol hw
 rw[<- a6b]
 refine d2b N n ks m ls (a2g (fun k1=> ?_) fun k=>ZF (X4 fun h=>k (Yl.1 h).1.1))
 refine a2g (fun k2=> ?_) fun k=>ZF (X4 fun h=>k (by rw[(Yl.1 h).1.2.1]))
 refine a2g (fun k3=> ?_) fun k=>ZF (X4 fun h=>k (Yl.1 h).1.2.2.1)
 refine a2g (fun k4=> ?_) fun k=>ZF (X4 fun h=>k (by rw[(Yl.1 h).1.2.2.2.1]))
 refine⟨Ze (n.dims,m.dims,()) rfl (a2a hn.dims),Zg (n.dims,m.dims,()) rfl (VE (fun k5=> ?_) fun k=>ZF (X4 fun h=>of_decide_eq_false k (Yl.1 h).1.2.2.2.2.1))⟩
 refine⟨Ze (n.data,m.data,()) rfl (a2a hn.data),Zg (n.data,m.data,()) rfl (VE (fun k6=> ?_) fun k=>ZF (X4 fun h=>of_decide_eq_false k (Yl.1 h).1.2.2.2.2.2.1))⟩
 have hs:(Ya n.sizes&&n.sizes.all Yd&&m.sizes.all Yd)=true:=by rw[a2a hn.sizes,a0o hw,a0o hv];rfl
 refine⟨Ze (α:=List Lin×List Lin×FnV 63×Unit) (n.sizes,m.sizes,⟨()⟩,()) rfl hs,Zg (α:=List Lin×List Lin×FnV 63×Unit) (n.sizes,m.sizes,⟨()⟩,()) rfl (VE (fun k7=> ?_) fun k=>ZF (X4 fun h=>of_decide_eq_false k (Yl.1 h).1.2.2.2.2.2.2.1))⟩
 refine⟨Ze (n.ranks,m.ranks,()) rfl (a2a hn.ranks),Zg (n.ranks,m.ranks,()) rfl (VE (fun k8=> ?_) fun k=>ZF (X4 fun h=>of_decide_eq_false k (Yl.1 h).1.2.2.2.2.2.2.2))⟩
 have hk:(tsW ks&&tsW ls&&decide (ZZ ks<N))=true:=by rw[a8o hw,a8o hv,decide_eq_true (show ZZ ks<N by omega)];rfl
 refine⟨Ze (α:=List Tm×List Tm×FnV 24×Unit) (ks,ls,⟨()⟩,()) rfl hk,Zg (α:=List Tm×List Tm×FnV 24×Unit) (ks,ls,⟨()⟩,()) rfl (ZF ?_)⟩
 show VU ks ls=Jb (.mk n ks) (.mk m ls)
 rw[Bool.eq_iff_iff,Yl]
 exact⟨fun h=>⟨⟨k1,stt k2,k3,stt k4,of_decide_eq_true k5,of_decide_eq_true k6,of_decide_eq_true k7,of_decide_eq_true k8⟩,h⟩,fun h=>h.2⟩
theorem c1t: ∀ x:Tm×Tm×Unit,(tW x.1&&tW x.2.1&&tW (Y4 x.1)&&tW (Y4 x.2.1))=true->Zd c5h 0 (Zb a7w (Zo (R9 x.1 x.2.1))) a7r [] (Z9 d1g (encL x)):=by
 rintro⟨⟨n,ks⟩,⟨m,ls⟩,⟨⟩⟩ h
 simp only[Bool.and_eq_true]at h
 obtain⟨⟨⟨h1,h2⟩,h3⟩,h4⟩:=h
 rw[<- a6b]
 have e1:([ndC n ks]:List PV)=encL ((Tm.mk n ks,()):Tm×Unit):=by rw[XC];rfl
 have e2:([ndC m ls]:List PV)=encL ((Tm.mk m ls,()):Tm×Unit):=by rw[XC];rfl
 refine d5l n ks m ls ⟨Ze (.mk n ks,()) e1 h1,Zg (.mk n ks,()) e1 ⟨Ze (.mk m ls,()) e2 h2,Zg (.mk m ls,()) e2 ⟨Ze (Y4 (.mk n ks),Y4 (.mk m ls),()) rfl ?_,Zg (Y4 (.mk n ks),Y4 (.mk m ls),()) rfl (ZF rfl)⟩⟩⟩
 show(tW _&&tW _)=true
 rw[h3,h4];rfl
end Go.Pl
namespace Go.Pl
open Go.RowKit
open Enc (enc dec is)
open EncL (encL decL isL)
set_option maxRecDepth 100000
noncomputable def b2b:IC:=Wn Proofs.Tryz.f50
def b3j:List IRes:=[(.cell true 10 2)]
abbrev d0e:Nat:=8
noncomputable def c5c:ZC:=YI [(51,.pure (preT (fun _:Str×Unit=>true)) (Zj (fun x:Str×Unit=>vT x.1)))]
theorem d5h{G:PV->Prop}(s:List UInt8)(h : ∃ y0:Tm,AV.pv (Zj (fun(x:Str×Unit)=>vT x.1) [(.str s)])=AV.pv (enc y0)∧(∃ y1:Tm,AV.pv (Zj (fun(x:Str×Unit)=>vT x.1) [(.str [(118:UInt8),(49:UInt8)])])=AV.pv (enc y1)∧((List.all [enc y0,enc y1] fun(x:PV)=>List.length (PV.cells x)==10&&PV.cellsOk x)=true∧(G ((.agg [(.int .i64 6),(.int .i64 0),(.str [(97:UInt8),(100:UInt8),(100:UInt8)]),(.int .i64 0),(.str []),(.sl 0 true []),(.sl 0 true []),(.sl 0 true []),(.sl 0 true []),(.sl 10 false [enc y0,enc y1])])))))):Zd c5c 0 (Zb b3j G) b2b [] (Z9 8 [.str s]):=Zd.tp (dm [dv Tm] 8 0x215252) h
noncomputable def b6m:IC:=Wn Proofs.Tryz.f12
def b2s:List IRes:=[(.tmp 0)]
abbrev d0f:Nat:=39
noncomputable def c4u:ZC:=YI [(51,.pure (preT (fun _:Str×Unit=>true)) (Zj (fun x:Str×Unit=>vT x.1))),(16,.pure (preT (fun _:Str×Tm×Tm×Unit=>true)) (Zj (fun x:Str×Tm×Tm×Unit=>VV (Fs x.1 x.2.1 x.2.2.1)))),(50,.pure (preT (fun _:Str×Unit=>true)) (Zj (fun x:Str×Unit=>VV (L6 x.1)))),(22,.pure (preT (fun x:Tm×Unit=>tW x.1)) (Zj (fun x:Tm×Unit=>VH x.1))),(25,.pure (preT (fun x:Tm×Tm×Unit=>tW x.1&&tW x.2.1)) (Zj (fun x:Tm×Tm×Unit=>Jb x.1 x.2.1))),(30,.pure (preT (fun x:Tm×Unit=>tW x.1)) (Zj (fun x:Tm×Unit=>Y4 x.1))),(21,.pure (preT (fun x:Tm×Unit=>tW x.1)) (Zj (fun x:Tm×Unit=>G6 x.1))),(18,.pure (preT (fun x:Tm×Tm×Unit=>tW x.1&&tW x.2.1&&tW (Y4 x.1)&&tW (Y4 x.2.1))) (Zj (fun x:Tm×Tm×Unit=>R9 x.1 x.2.1))),(32,.pure (preT (fun x:Tm×Unit=>tW x.1)) (Zj (fun x:Tm×Unit=>KV x.1)))]
theorem d4v{G:PV->Prop}(h : ∃ y0:TS,AV.pv (Zj (fun(x:Str×Unit)=>VV (L6 x.1)) [(.str [(98:UInt8)])])=AV.pv (enc y0)∧(∃ y1:Tm,AV.pv (Zj (fun(x:Str×Unit)=>vT x.1) [(.str [(120:UInt8)])])=AV.pv (enc y1)∧(∃ y2:Tm,AV.pv (Zj (fun(x:Str×Unit)=>vT x.1) [(.str [(97:UInt8)])])=AV.pv (enc y2)∧((Go.Pl.preT (fun(x:Str×Tm×Tm×Unit)=>true) [(.str [(98:UInt8)]),enc y2,(eS y0)])=true∧(∃ y3:TS,AV.pv (Zj (fun(x:Str×Tm×Tm×Unit)=>VV (Fs x.1 x.2.1 x.2.2.1)) [(.str [(98:UInt8)]),enc y2,(eS y0)])=AV.pv (enc y3)∧((Go.Pl.preT (fun(x:Str×Tm×Tm×Unit)=>true) [(.str [(97:UInt8)]),enc y1,(eS y3)])=true∧(∃ y4:TS,AV.pv (Zj (fun(x:Str×Tm×Tm×Unit)=>VV (Fs x.1 x.2.1 x.2.2.1)) [(.str [(97:UInt8)]),enc y1,(eS y3)])=AV.pv (enc y4)∧(∃ y5:Tm,AV.pv (Zj (fun(x:Str×Unit)=>vT x.1) [(.str [(120:UInt8)])])=AV.pv (enc y5)∧(∃ y6:Tm,AV.pv (Zj (fun(x:Str×Unit)=>vT x.1) [(.str [(118:UInt8),(50:UInt8)])])=AV.pv (enc y6)∧(∃ y7:TS,AV.pv (Zj (fun(x:Str×Unit)=>VV (L6 x.1)) [(.str [(118:UInt8),(51:UInt8)])])=AV.pv (enc y7)∧((Go.Pl.preT (fun(x:Str×Tm×Tm×Unit)=>true) [(.str [(118:UInt8),(51:UInt8)]),enc y6,(eS y7)])=true∧(∃ y8:TS,AV.pv (Zj (fun(x:Str×Tm×Tm×Unit)=>VV (Fs x.1 x.2.1 x.2.2.1)) [(.str [(118:UInt8),(51:UInt8)]),enc y6,(eS y7)])=AV.pv (enc y8)∧((Go.Pl.preT (fun(x:Str×Tm×Tm×Unit)=>true) [(.str [(118:UInt8),(50:UInt8)]),enc y5,(eS y8)])=true∧(∃ y9:TS,AV.pv (Zj (fun(x:Str×Tm×Tm×Unit)=>VV (Fs x.1 x.2.1 x.2.2.1)) [(.str [(118:UInt8),(50:UInt8)]),enc y5,(eS y8)])=AV.pv (enc y9)∧((Go.Pl.preT (fun(x:Tm×Unit)=>tW x.1) [(eS y4)])=true∧(∃ y10:Bool,AV.pv (Zj (fun(x:Tm×Unit)=>VH x.1) [(eS y4)])=AV.pv (enc y10)∧(if (y10)=true then(Go.Pl.preT (fun(x:Tm×Unit)=>tW x.1) [(eS y4)])=true∧(∃ y11:Tm,AV.pv (Zj (fun(x:Tm×Unit)=>Y4 x.1) [(eS y4)])=AV.pv (enc y11)∧((Go.Pl.preT (fun(x:Tm×Tm×Unit)=>tW x.1&&tW x.2.1) [enc y11,(eS y9)])=true∧(∃ y12:Bool,AV.pv (Zj (fun(x:Tm×Tm×Unit)=>Jb x.1 x.2.1) [enc y11,(eS y9)])=AV.pv (enc y12)∧(if (y12)=true then(Go.Pl.preT (fun(x:Tm×Unit)=>tW x.1) [(eS y4)])=true∧(∃ y13:Int,AV.pv (Zj (fun(x:Tm×Unit)=>G6 x.1) [(eS y4)])=AV.pv (enc y13)∧(if (y13==7)=true then(Go.Pl.preT (fun(x:Tm×Tm×Unit)=>tW x.1&&tW x.2.1&&tW (Y4 x.1)&&tW (Y4 x.2.1)) [(eS y4),(eS y9)])=true∧(∃ y14:Bool,AV.pv (Zj (fun(x:Tm×Tm×Unit)=>R9 x.1 x.2.1) [(eS y4),(eS y9)])=AV.pv (enc y14)∧(if (y14)=true then(Go.Pl.preT (fun(x:Tm×Unit)=>tW x.1) [(eS y4)])=true∧(∃ y15:List Str,AV.pv (Zj (fun(x:Tm×Unit)=>KV x.1) [(eS y4)])=AV.pv (enc y15)∧(G ((.bool ((↑(List.length (List.map enc y15)):Int)==1)))))else(G ((.bool false)))))else(G ((.bool false)))))else(G ((.bool false)))))))else(G ((.bool false)))))))))))))))))))):Zd c4u 0 (Zb b2s G) b6m [] (Z9 39 []):=Zd.tp (dm [dv TS,dv Tm,dv Bool,dv Int,dv (List Str)] 111 0x2222222222222222202222222222220222222220222202222912008427122016422281202942712261204247151515262625151626252) h
noncomputable def Oi:IC:=Wn Proofs.Tryz.f11
def Ee:List IRes:=[(.tmp 6)]
abbrev c9r:Nat:=108
noncomputable def b3p:ZC:=YI [(12,.pure (preT (fun _:Unit=>true)) (Zj (fun _:Unit=>true))),(13,.pure (preT (fun x:Tm×Int×Unit=>tW x.1)) (Zj (fun x:Tm×Int×Unit=>Kw x.1 x.2.1))),(35,.pure (preT (fun x:Tm×Int×Unit=>tW x.1)) (Zj (fun x:Tm×Int×Unit=>VP (WJ x.1 x.2.1)))),(47,.pure (preT (fun x:Tm×Int×Unit=>tW x.1)) (Zj (fun x:Tm×Int×Unit=>VP (WJ x.1 x.2.1)))),(38,.pure (preT (fun x:Tm×List Int×Unit=>tW x.1&&decide (x.2.1.length<=1048576))) (Zj (fun x:Tm×List Int×Unit=>VP (ZH x.1 x.2.1)))),(48,.pure (preT (fun x:Tm×List Int×Unit=>tW x.1&&decide (x.2.1.length<=1048576))) (Zj (fun x:Tm×List Int×Unit=>VP (ZH x.1 x.2.1)))),(39,.pure (preT (fun x:Tm×List Int×Tm×Unit=>(tW x.1&&decide (x.2.1.length<=1048576))&&tW x.2.2.1)) (Zj (fun x:Tm×List Int×Tm×Unit=>Uq x.1 x.2.1 x.2.2.1))),(49,.pure (preT (fun x:Tm×List Int×Tm×Unit=>(tW x.1&&decide (x.2.1.length<=1048576))&&tW x.2.2.1)) (Zj (fun x:Tm×List Int×Tm×Unit=>Uq x.1 x.2.1 x.2.2.1))),(31,.pure (preT (fun x:Tm×Tm×Unit=>tW x.1&&tW x.2.1)) (Zj (fun x:Tm×Tm×Unit=>Di x.1 x.2.1)))]
theorem d3w{G:PV->Prop}(n:Nd)(ks:List Tm)(m:Nd)(ls:List Tm)(p:List Int)(h : ∃ y0:Bool,AV.pv (Zj (fun(x:Unit)=>true) [])=AV.pv (enc y0)∧(if (!y0)=true then G ((.bool false))else((Go.Pl.preT (fun(x:Tm×Int×Unit)=>tW x.1) [(ndC n ks),(.int .i64 30)])=true∧(∃ y1:Bool,AV.pv (Zj (fun(x:Tm×Int×Unit)=>Kw x.1 x.2.1) [(ndC n ks),(.int .i64 30)])=AV.pv (enc y1)∧(if (!y1)=true then G ((.bool true))else((Go.Pl.preT (fun(x:Tm×Int×Unit)=>tW x.1) [(ndC m ls),(.int .i64 30)])=true∧(∃ y2:Bool,AV.pv (Zj (fun(x:Tm×Int×Unit)=>Kw x.1 x.2.1) [(ndC m ls),(.int .i64 30)])=AV.pv (enc y2)∧(if (!y2)=true then G ((.bool true))else(if (decide ((↑(List.length (List.map enc p)):Int)>12))=true then G ((.bool true))else(if (decide ((↑(List.length (List.map enc p)):Int)>0))=true then(decide (0<=0)&&decide (Int.toNat 0<List.length (List.map enc p))&&Enc.sz Int==1)=true∧(∃ y3:Int,AV.pv (PV.rptr (PV.cells (List.getD (List.map enc p) (Int.toNat 0) default)))=AV.pv (PV.rptr (PV.cells ((enc) y3)))∧((Go.Pl.preT (fun(x:Tm×Int×Unit)=>tW x.1) [(ndC n ks),(.int .i64 (PV.asInt (List.getD (PV.cells (enc y3)) 0 default)))])=true∧(∃ y4:TS×Bool,AV.pv (Zj (fun(x:Tm×Int×Unit)=>VP (WJ x.1 x.2.1)) [(ndC n ks),(.int .i64 (PV.asInt (List.getD (PV.cells (enc y3)) 0 default)))])=AV.pv (enc y4)∧((Go.Pl.preT (fun(x:Tm×Int×Unit)=>tW x.1) [(ndC n ks),(.int .i64 (PV.asInt (List.getD (PV.cells (enc y3)) 0 default)))])=true∧(∃ y5:TS×Bool,AV.pv (Zj (fun(x:Tm×Int×Unit)=>VP (WJ x.1 x.2.1)) [(ndC n ks),(.int .i64 (PV.asInt (List.getD (PV.cells (enc y3)) 0 default)))])=AV.pv (enc y5)∧((Go.Pl.preT (fun(x:Tm×List Int×Unit)=>tW x.1&&decide (List.length x.2.1<=1048576)) [(ndC n ks),(.sl 1 false (List.map enc p))])=true∧(∃ y6:TS×Bool,AV.pv (Zj (fun(x:Tm×List Int×Unit)=>VP (ZH x.1 x.2.1)) [(ndC n ks),(.sl 1 false (List.map enc p))])=AV.pv (enc y6)∧((Go.Pl.preT (fun(x:Tm×List Int×Unit)=>tW x.1&&decide (List.length x.2.1<=1048576)) [(ndC n ks),(.sl 1 false (List.map enc p))])=true∧(∃ y7:TS×Bool,AV.pv (Zj (fun(x:Tm×List Int×Unit)=>VP (ZH x.1 x.2.1)) [(ndC n ks),(.sl 1 false (List.map enc p))])=AV.pv (enc y7)∧((Go.Pl.preT (fun(x:Tm×List Int×Tm×Unit)=>tW x.1&&decide (List.length x.2.1<=1048576)&&tW x.2.2.1) [(ndC n ks),(.sl 1 false (List.map enc p)),(ndC m ls)])=true∧(∃ y8:TS×Int,AV.pv (Zj (fun(x:Tm×List Int×Tm×Unit)=>Uq x.1 x.2.1 x.2.2.1) [(ndC n ks),(.sl 1 false (List.map enc p)),(ndC m ls)])=AV.pv (enc y8)∧((Go.Pl.preT (fun(x:Tm×List Int×Tm×Unit)=>tW x.1&&decide (List.length x.2.1<=1048576)&&tW x.2.2.1) [(ndC n ks),(.sl 1 false (List.map enc p)),(ndC m ls)])=true∧(∃ y9:TS×Int,AV.pv (Zj (fun(x:Tm×List Int×Tm×Unit)=>Uq x.1 x.2.1 x.2.2.1) [(ndC n ks),(.sl 1 false (List.map enc p)),(ndC m ls)])=AV.pv (enc y9)∧((Go.Pl.preT (fun(x:Tm×Tm×Unit)=>tW x.1&&tW x.2.1) [(eS y4.1),(eS y5.1)])=true∧(∃ y10:Bool,AV.pv (Zj (fun(x:Tm×Tm×Unit)=>Di x.1 x.2.1) [(eS y4.1),(eS y5.1)])=AV.pv (enc y10)∧(if (y10)=true then if (y4.2==y5.2)=true then(Go.Pl.preT (fun(x:Tm×Tm×Unit)=>tW x.1&&tW x.2.1) [(eS y6.1),(eS y7.1)])=true∧(∃ y11:Bool,AV.pv (Zj (fun(x:Tm×Tm×Unit)=>Di x.1 x.2.1) [(eS y6.1),(eS y7.1)])=AV.pv (enc y11)∧(if (y11)=true then if (y6.2==y7.2)=true then(Go.Pl.preT (fun(x:Tm×Tm×Unit)=>tW x.1&&tW x.2.1) [(eS y8.1),(eS y9.1)])=true∧(∃ y12:Bool,AV.pv (Zj (fun(x:Tm×Tm×Unit)=>Di x.1 x.2.1) [(eS y8.1),(eS y9.1)])=AV.pv (enc y12)∧(if (y12)=true then G ((.bool (y8.2==y9.2)))else(G ((.bool false)))))else(G ((.bool false)))else(G ((.bool false)))))else(G ((.bool false)))else(G ((.bool false)))))))))))))))))))else((Go.Pl.preT (fun(x:Tm×Int×Unit)=>tW x.1) [(ndC n ks),(.int .i64 (↑(List.length (List.map enc p)):Int))])=true∧(∃ y13:TS×Bool,AV.pv (Zj (fun(x:Tm×Int×Unit)=>VP (WJ x.1 x.2.1)) [(ndC n ks),(.int .i64 (↑(List.length (List.map enc p)):Int))])=AV.pv (enc y13)∧((Go.Pl.preT (fun(x:Tm×Int×Unit)=>tW x.1) [(ndC n ks),(.int .i64 (↑(List.length (List.map enc p)):Int))])=true∧(∃ y14:TS×Bool,AV.pv (Zj (fun(x:Tm×Int×Unit)=>VP (WJ x.1 x.2.1)) [(ndC n ks),(.int .i64 (↑(List.length (List.map enc p)):Int))])=AV.pv (enc y14)∧((Go.Pl.preT (fun(x:Tm×List Int×Unit)=>tW x.1&&decide (List.length x.2.1<=1048576)) [(ndC n ks),(.sl 1 false (List.map enc p))])=true∧(∃ y15:TS×Bool,AV.pv (Zj (fun(x:Tm×List Int×Unit)=>VP (ZH x.1 x.2.1)) [(ndC n ks),(.sl 1 false (List.map enc p))])=AV.pv (enc y15)∧((Go.Pl.preT (fun(x:Tm×List Int×Unit)=>tW x.1&&decide (List.length x.2.1<=1048576)) [(ndC n ks),(.sl 1 false (List.map enc p))])=true∧(∃ y16:TS×Bool,AV.pv (Zj (fun(x:Tm×List Int×Unit)=>VP (ZH x.1 x.2.1)) [(ndC n ks),(.sl 1 false (List.map enc p))])=AV.pv (enc y16)∧((Go.Pl.preT (fun(x:Tm×List Int×Tm×Unit)=>tW x.1&&decide (List.length x.2.1<=1048576)&&tW x.2.2.1) [(ndC n ks),(.sl 1 false (List.map enc p)),(ndC m ls)])=true∧(∃ y17:TS×Int,AV.pv (Zj (fun(x:Tm×List Int×Tm×Unit)=>Uq x.1 x.2.1 x.2.2.1) [(ndC n ks),(.sl 1 false (List.map enc p)),(ndC m ls)])=AV.pv (enc y17)∧((Go.Pl.preT (fun(x:Tm×List Int×Tm×Unit)=>tW x.1&&decide (List.length x.2.1<=1048576)&&tW x.2.2.1) [(ndC n ks),(.sl 1 false (List.map enc p)),(ndC m ls)])=true∧(∃ y18:TS×Int,AV.pv (Zj (fun(x:Tm×List Int×Tm×Unit)=>Uq x.1 x.2.1 x.2.2.1) [(ndC n ks),(.sl 1 false (List.map enc p)),(ndC m ls)])=AV.pv (enc y18)∧((Go.Pl.preT (fun(x:Tm×Tm×Unit)=>tW x.1&&tW x.2.1) [(eS y13.1),(eS y14.1)])=true∧(∃ y19:Bool,AV.pv (Zj (fun(x:Tm×Tm×Unit)=>Di x.1 x.2.1) [(eS y13.1),(eS y14.1)])=AV.pv (enc y19)∧(if (y19)=true then if (y13.2==y14.2)=true then(Go.Pl.preT (fun(x:Tm×Tm×Unit)=>tW x.1&&tW x.2.1) [(eS y15.1),(eS y16.1)])=true∧(∃ y20:Bool,AV.pv (Zj (fun(x:Tm×Tm×Unit)=>Di x.1 x.2.1) [(eS y15.1),(eS y16.1)])=AV.pv (enc y20)∧(if (y20)=true then if (y15.2==y16.2)=true then(Go.Pl.preT (fun(x:Tm×Tm×Unit)=>tW x.1&&tW x.2.1) [(eS y17.1),(eS y18.1)])=true∧(∃ y21:Bool,AV.pv (Zj (fun(x:Tm×Tm×Unit)=>Di x.1 x.2.1) [(eS y17.1),(eS y18.1)])=AV.pv (enc y21)∧(if (y21)=true then G ((.bool (y17.2==y18.2)))else(G ((.bool false)))))else(G ((.bool false)))else(G ((.bool false)))))else(G ((.bool false)))else(G ((.bool false)))))))))))))))))))))))))))):Zd b3p 0 (Zb Ee G) Oi [] (Z9 108 [.agg [enc n.kind,enc n.line,enc n.name,enc n.num,enc n.elem,enc n.dims,enc n.data,enc n.sizes,enc n.ranks,enc ks],.agg [enc m.kind,enc m.line,enc m.name,enc m.num,enc m.elem,enc m.dims,enc m.data,enc m.sizes,enc m.ranks,enc ls],enc p]):=Zd.tp (dm [dv Bool,dr Int,dv (TS×Bool),dv (TS×Int)] 288 0x2222222222222222222022222222222222202222222222202222222022202222005425122012422220224251220374222204f45181817171717102222222222222222222022222222222222202222222222202222222022202222005425122012422220224251220374222204f45181817171717126107842000142222022220054225120222222220094510001452) h
end Go.Pl
namespace Go.Pl
open Go.RowKit
open Enc (enc dec is)
open EncL (encL decL isL)
theorem b8i: ∀ x:Str×Unit,true=true->Zd c5c 0 (Zb b3j (Zo (L6 x.1))) b2b [] (Z9 d0e (encL x)):=by
 rintro⟨s,⟨⟩⟩ _
 refine d5h s.s (Zg (s,()) rfl (Zg (⟨[118,49]⟩,()) rfl ⟨?_,?_⟩))
 ·simp only[List.all_cons,List.all_nil,vT,Zq]
  rfl
 ·have h:is (List Tm) (.sl 10 false [enc (vT s),enc (vT ⟨[118,49]⟩)])=true:=Enc.is_enc [vT s,vT ⟨[118,49]⟩]
  have h2:(dec (.sl 10 false [enc (vT s),enc (vT ⟨[118,49]⟩)]):List Tm)=[vT s,vT ⟨[118,49]⟩]:=Enc.dec_enc [vT s,vT ⟨[118,49]⟩]
  refine⟨?_,?_⟩
  ·simp[h]
  ·rw[b6e _ _ _ _ _ _ _ _ _ _ h,h2]
   simp[L6,nd0,d2q]
theorem b7p: ∀ x:Unit,true=true->Zd c4u 0 (Zb b2s (Zo true)) b6m [] (Z9 d0f (encL x)):=by
 rintro⟨⟩ _
 refine d4v (Zg (⟨[98]⟩,()) rfl (Zg (⟨[120]⟩,()) rfl (Zg (⟨[97]⟩,()) rfl ?_)))
 refine⟨Ze (⟨[98]⟩,vT ⟨[97]⟩,L6 ⟨[98]⟩,()) (LD _ _ _) rfl,Zg (⟨[98]⟩,vT ⟨[97]⟩,L6 ⟨[98]⟩,()) (LD _ _ _) ?_⟩
 refine⟨Ze (⟨[97]⟩,vT ⟨[120]⟩,Fs ⟨[98]⟩ (vT ⟨[97]⟩) (L6 ⟨[98]⟩),()) (LD _ _ _) rfl,Zg (⟨[97]⟩,vT ⟨[120]⟩,Fs ⟨[98]⟩ (vT ⟨[97]⟩) (L6 ⟨[98]⟩),()) (LD _ _ _) ?_⟩
 refine Zg (⟨[120]⟩,()) rfl (Zg (⟨[118,50]⟩,()) rfl (Zg (⟨[118,51]⟩,()) rfl ?_))
 refine⟨Ze (⟨[118,51]⟩,vT ⟨[118,50]⟩,L6 ⟨[118,51]⟩,()) (LD _ _ _) rfl,Zg (⟨[118,51]⟩,vT ⟨[118,50]⟩,L6 ⟨[118,51]⟩,()) (LD _ _ _) ?_⟩
 refine⟨Ze (⟨[118,50]⟩,vT ⟨[120]⟩,Fs ⟨[118,51]⟩ (vT ⟨[118,50]⟩) (L6 ⟨[118,51]⟩),()) (LD _ _ _) rfl,Zg (⟨[118,50]⟩,vT ⟨[120]⟩,Fs ⟨[118,51]⟩ (vT ⟨[118,50]⟩) (L6 ⟨[118,51]⟩),()) (LD _ _ _) ?_⟩
 refine⟨Ze (Kh,()) (a1S Kh) b3k,Zg (Kh,()) (a1S Kh) (Y7 b0c ?_)⟩
 refine⟨Ze (Kh,()) (a1S Kh) b3k,Zg (Kh,()) (a1S Kh) ?_⟩
 refine⟨Ze (Y4 Kh,R4,()) (d4s _ R4) (by show(tW (Y4 Kh)&&tW R4)=true;rw[Re,c5d];rfl),Zg (Y4 Kh,R4,()) (d4s _ R4) (Y7 (by show Jb (Y4 Kh) R4=true;rw[Re];exact c5x) ?_)⟩
 refine⟨Ze (Kh,()) (a1S Kh) b3k,Zg (Kh,()) (a1S Kh) (Y7 (by show(G6 Kh==7)=true;unfold G6;rw[c3q];rfl) ?_)⟩
 refine⟨Ze (Kh,R4,()) (b9e Kh R4) (by show(tW Kh&&tW R4&&tW (Y4 Kh)&&tW (Y4 R4))=true;rw[Re,ET,b3k,c5d];rfl),Zg (Kh,R4,()) (b9e Kh R4) (Y7 (by show Jb (Y4 Kh) (Y4 R4)=true;rw[Re,ET];exact c5x) ?_)⟩
 refine⟨Ze (Kh,()) (a1S Kh) b3k,Zg (Kh,()) (a1S Kh) (ZF ?_)⟩
 show(((List.map (enc:Str->PV) (KV Kh)).length:Int)==1)=true
 rw[List.length_map,a8m];rfl
theorem nd3(n m:Nd)(ks ls:List Tm){α:Type}[Enc α](x:α):([ndC n ks,enc x,ndC m ls]:List PV)=encL (Tm.mk n ks,x,Tm.mk m ls,()):=by rw[XC,XC];rfl
theorem b2x{G:PV->Prop}{n m:Nd}{ks ls:List Tm}{p:List Int}(hG:G (.bool true))(h:Vj (.mk n ks)+Vj (.mk m ls)<=1048576)(hp:p.length<=1048576)(i:Int):
  (Go.Pl.preT (fun(x:Tm×Int×Unit)=>tW (Prod.fst x)) [(ndC n ks),(.int .i64 i)])=true∧(∃ y4:TS×Bool,AV.pv (Zj (fun(x:Tm×Int×Unit)=>VP (WJ (Prod.fst x) (Prod.fst (Prod.snd x)))) [(ndC n ks),(.int .i64 i)])=AV.pv (enc y4)∧((Go.Pl.preT (fun(x:Tm×Int×Unit)=>tW (Prod.fst x)) [(ndC n ks),(.int .i64 i)])=true∧(∃ y5:TS×Bool,AV.pv (Zj (fun(x:Tm×Int×Unit)=>VP (WJ (Prod.fst x) (Prod.fst (Prod.snd x)))) [(ndC n ks),(.int .i64 i)])=AV.pv (enc y5)∧((Go.Pl.preT (fun(x:Tm×List Int×Unit)=>tW (Prod.fst x)&&decide (List.length (Prod.fst (Prod.snd x))<=1048576)) [(ndC n ks),(.sl 1 false (List.map enc p))])=true∧(∃ y6:TS×Bool,AV.pv (Zj (fun(x:Tm×List Int×Unit)=>VP (ZH (Prod.fst x) (Prod.fst (Prod.snd x)))) [(ndC n ks),(.sl 1 false (List.map enc p))])=AV.pv (enc y6)∧((Go.Pl.preT (fun(x:Tm×List Int×Unit)=>tW (Prod.fst x)&&decide (List.length (Prod.fst (Prod.snd x))<=1048576)) [(ndC n ks),(.sl 1 false (List.map enc p))])=true∧(∃ y7:TS×Bool,AV.pv (Zj (fun(x:Tm×List Int×Unit)=>VP (ZH (Prod.fst x) (Prod.fst (Prod.snd x)))) [(ndC n ks),(.sl 1 false (List.map enc p))])=AV.pv (enc y7)∧((Go.Pl.preT (fun(x:Tm×List Int×Tm×Unit)=>tW (Prod.fst x)&&decide (List.length (Prod.fst (Prod.snd x))<=1048576)&&tW (Prod.fst (Prod.snd (Prod.snd x)))) [(ndC n ks),(.sl 1 false (List.map enc p)),(ndC m ls)])=true∧(∃ y8:TS×Int,AV.pv (Zj (fun(x:Tm×List Int×Tm×Unit)=>Uq (Prod.fst x) (Prod.fst (Prod.snd x)) (Prod.fst (Prod.snd (Prod.snd x)))) [(ndC n ks),(.sl 1 false (List.map enc p)),(ndC m ls)])=AV.pv (enc y8)∧((Go.Pl.preT (fun(x:Tm×List Int×Tm×Unit)=>tW (Prod.fst x)&&decide (List.length (Prod.fst (Prod.snd x))<=1048576)&&tW (Prod.fst (Prod.snd (Prod.snd x)))) [(ndC n ks),(.sl 1 false (List.map enc p)),(ndC m ls)])=true∧(∃ y9:TS×Int,AV.pv (Zj (fun(x:Tm×List Int×Tm×Unit)=>Uq (Prod.fst x) (Prod.fst (Prod.snd x)) (Prod.fst (Prod.snd (Prod.snd x)))) [(ndC n ks),(.sl 1 false (List.map enc p)),(ndC m ls)])=AV.pv (enc y9)∧((Go.Pl.preT (fun(x:Tm×Tm×Unit)=>tW (Prod.fst x)&&tW (Prod.fst (Prod.snd x))) [(eS (Prod.fst y4)),(eS (Prod.fst y5))])=true∧(∃ y10:Bool,AV.pv (Zj (fun(x:Tm×Tm×Unit)=>Di (Prod.fst x) (Prod.fst (Prod.snd x))) [(eS (Prod.fst y4)),(eS (Prod.fst y5))])=AV.pv (enc y10)∧(if (y10)=true then if (Prod.snd y4==Prod.snd y5)=true then(Go.Pl.preT (fun(x:Tm×Tm×Unit)=>tW (Prod.fst x)&&tW (Prod.fst (Prod.snd x))) [(eS (Prod.fst y6)),(eS (Prod.fst y7))])=true∧(∃ y11:Bool,AV.pv (Zj (fun(x:Tm×Tm×Unit)=>Di (Prod.fst x) (Prod.fst (Prod.snd x))) [(eS (Prod.fst y6)),(eS (Prod.fst y7))])=AV.pv (enc y11)∧(if (y11)=true then if (Prod.snd y6==Prod.snd y7)=true then(Go.Pl.preT (fun(x:Tm×Tm×Unit)=>tW (Prod.fst x)&&tW (Prod.fst (Prod.snd x))) [(eS (Prod.fst y8)),(eS (Prod.fst y9))])=true∧(∃ y12:Bool,AV.pv (Zj (fun(x:Tm×Tm×Unit)=>Di (Prod.fst x) (Prod.fst (Prod.snd x))) [(eS (Prod.fst y8)),(eS (Prod.fst y9))])=AV.pv (enc y12)∧(if (y12)=true then G ((.bool (Prod.snd y8==Prod.snd y9)))else(G ((.bool false)))))else(G ((.bool false)))else(G ((.bool false)))))else(G ((.bool false)))else(G ((.bool false))))))))))))))))):=by
 have h1:tW (.mk n ks)=true:=decide_eq_true (by omega)
 have h2:tW (.mk m ls)=true:=decide_eq_true (by omega)
 have hat:(tW (Tm.mk n ks)&&decide (p.length<=1048576))=true:=by rw[h1,decide_eq_true hp];rfl
 have hrp:(tW (Tm.mk n ks)&&decide (p.length<=1048576)&&tW (Tm.mk m ls))=true:=by rw[hat,h2];rfl
 have exR : ∀ {t:Tm} {P:Bool->Prop},tW t=true->P true->(Go.Pl.preT (fun(x:Tm×Tm×Unit)=>tW (Prod.fst x)&&tW (Prod.fst (Prod.snd x))) [eS (VV t),eS (VV t)])=true∧(∃ y:Bool,AV.pv (Zj (fun(x:Tm×Tm×Unit)=>Di (Prod.fst x) (Prod.fst (Prod.snd x))) [eS (VV t),eS (VV t)])=AV.pv (enc y)∧P y):=fun {t P} ht hP=>⟨Ze (t,t,()) (b9e t t) (by show(tW t&&tW t)=true;rw[ht];rfl),Zg (t,t,()) (b9e t t) (by show P (Di t t);rw[MF];exact hP)⟩
 refine⟨Ze (Tm.mk n ks,i,()) (P6 n ks i).symm h1,Zg (Tm.mk n ks,i,()) (P6 n ks i).symm ⟨Ze (Tm.mk n ks,i,()) (P6 n ks i).symm h1,Zg (Tm.mk n ks,i,()) (P6 n ks i).symm ?_⟩⟩
 refine⟨Ze (Tm.mk n ks,p,()) (P6 n ks p).symm hat,Zg (Tm.mk n ks,p,()) (P6 n ks p).symm ⟨Ze (Tm.mk n ks,p,()) (P6 n ks p).symm hat,Zg (Tm.mk n ks,p,()) (P6 n ks p).symm ?_⟩⟩
 refine⟨Ze (Tm.mk n ks,p,Tm.mk m ls,()) (nd3 n m ks ls p) hrp,Zg (Tm.mk n ks,p,Tm.mk m ls,()) (nd3 n m ks ls p) ⟨Ze (Tm.mk n ks,p,Tm.mk m ls,()) (nd3 n m ks ls p) hrp,Zg (Tm.mk n ks,p,Tm.mk m ls,()) (nd3 n m ks ls p) ?_⟩⟩
 refine exR (c8x i h1) (Y7 rfl (Y7 (by simp) (exR (d0v p h1) (Y7 rfl (Y7 (by simp) (exR (c0v p h) (Y7 rfl ?_)))))))
 rw[beq_self_eq_true]
 exact hG
theorem c3i: ∀ x:Tm×Tm×List Int×Unit,(decide (Vj x.1+Vj x.2.1<=1048576)&&decide (x.2.2.1.length<=1048576))=true->Zd b3p 0 (Zb Ee (Zo true)) Oi [] (Z9 c9r (encL x)):=by
 rintro⟨⟨n,ks⟩,⟨m,ls⟩,p,⟨⟩⟩ hw
 simp only[Bool.and_eq_true,decide_eq_true_eq]at hw
 obtain⟨h,hp⟩:=hw
 have h1:tW (.mk n ks)=true:=decide_eq_true (by omega)
 have h2:tW (.mk m ls)=true:=decide_eq_true (by omega)
 have e:(encL ((Tm.mk n ks,Tm.mk m ls,p,()):Tm×Tm×List Int×Unit):List PV)=[ndC n ks,ndC m ls,enc p]:=by rw[XC,XC];rfl
 rw[e]
 refine d3w n ks m ls p (Zg () rfl (VT (fun h=>nomatch h) fun _=> ?_))
 refine⟨Ze (Tm.mk n ks,(30:Int),()) (P6 n ks (30:Int)).symm h1,Zg (Tm.mk n ks,(30:Int),()) (P6 n ks (30:Int)).symm (VT (fun _=>ZF rfl) fun _=> ?_)⟩
 refine⟨Ze (Tm.mk m ls,(30:Int),()) (P6 m ls (30:Int)).symm h2,Zg (Tm.mk m ls,(30:Int),()) (P6 m ls (30:Int)).symm (VT (fun _=>ZF rfl) fun _=> ?_)⟩
 refine Xf (fun _=>ZF rfl) fun _=>Xf (fun hpos=> ?_) fun _=>b2x (ZF rfl) h hp _
 rw[List.length_map]at hpos
 have hpos:0<p.length:=by
  have hpos:(p.length:Int)>0:=hpos
  omega
 exact⟨ZJ (i:=0) hpos rfl,Z4 (i:=0) hpos (b2x (ZF rfl) h hp _)⟩
end Go.Pl
namespace Go.Pl
open Go.RowKit
open Enc (enc dec is)
open EncL (encL decL isL)
set_option maxRecDepth 100000
end Go.Pl
namespace Go.Pl
open Go.RowKit
open Enc (enc dec is)
open EncL (encL decL isL)
end Go.Pl
namespace Go.Pl
open Go.RowKit
open Enc (enc dec is)
open EncL (encL decL isL)
set_option maxRecDepth 100000
def XN:IC:=(WK [Zz 1 (.box 10 (.t 0)) 0,Zz 2 (.alloc (.agg [(.int .i64 0),(.int .i64 0),(.str []),(.int .i64 0),(.str []),(.sl 0 true []),(.sl 0 true []),(.sl 0 true []),(.sl 0 true []),(.sl 0 true [])])) 1] (.seq (.reg [Zz 5 (.faddr 4 (.t 1)) 0,Zz 6 (.faddr 0 (.t 5)) 0,Zz 7 (.load false [.str] (.t 6)) 0,Zz 8 (.faddr 4 (.t 1)) 0,Zz 9 (.faddr 1 (.t 8)) 0,Zz 10 (DY [(.sl 1)] (.t 9)) 0,Zz 11 (c'' 93 [(.t 10)]) 0,Zz 12 (.faddr 4 (.t 1)) 2,Zz 13 (.faddr 2 (.t 12)) 2,Zz 14 (DY [(.sl 1)] (.t 13)) 2,Zz 15 (c'' 93 [(.t 14)]) 2,Zz 16 (.build [(.str []),(.sl 0 true []),(.sl 0 true [])] [(0,(1,(.t 7))),(1,(1,(.t 11))),(2,(1,(.t 15)))]) 4,Zz 17 (.faddr 4 (.t 1)) 4,Dv (.store 3 (.t 17) (.t 16)) 4] (some [[],[0],[1,0],[],[3],[4,3],[5,4,3],[],[7],[8,7],[9,6,8,7,5,4,3],[2,6,10,1,0,5,4,3,9,8,7],[0,1,2,3,4,5,6,7,8,9,10,11],[12,11,10,0,1,2,3,4,5,6,7,8,9]])) (WK [Zz 18 (.faddr 8 (.t 1)) 0,Zz 19 (DY [(.sl 1)] (.t 18)) 0,Zz 20 (c'' 93 [(.t 19)]) 0,Zz 21 (.faddr 8 (.t 1)) 2,Dv (.store 1 (.t 21) (.t 20)) 2] (WK [Zz 22 (.faddr 7 (.t 1)) 0,Zz 23 (DY [(.sl 2)] (.t 22)) 0,Zz 24 (c'' 94 [(.t 23)]) 0,Zz 25 (.faddr 7 (.t 1)) 2,Dv (.store 1 (.t 25) (.t 24)) 2] (.seq (WK [Zz 26 (.faddr 7 (.t 1)) 0,Zz 27 (DY [(.sl 2)] (.t 26)) 0,Zz 28 (.len 1 (.t 27)) 0,Zz 29 (.mv (Uu 0)) 0] (.block 0 (.loop [29,28,1,49,50,52,51,53,54,55,4,58,59,60,61,62,56,57,64,63,65,2,66] (WK [Zz 30 (Gm .lss (.t 29) (.t 28)) 0] (.seq (.cond (.t 30) .skip (.exit 0)) (.seq (.block 1 (WK [Zz 31 (X5 29) 0,Zz 3 (X5 31) 0] (.reg [Zz 32 (.faddr 7 (.t 1)) 0,Zz 33 (DY [(.sl 2)] (.t 32)) 0,Zz 34 (X5 3) 0,Zz 35 (.faddr 7 (.t 1)) 0,Zz 36 (DY [(.sl 2)] (.t 35)) 0,Zz 37 (X5 3) 0,Zz 38 (.iaddr 2 (.t 36) (.t 37)) 0,Zz 39 (.faddr 1 (.t 38)) 0,Zz 40 (DY [(.sl 2)] (.t 39)) 0,Zz 41 (c'' 95 [(.t 40)]) 0,Zz 42 (.iaddr 2 (.t 33) (.t 34)) 2,Zz 43 (.faddr 1 (.t 42)) 2,Dv (.store 1 (.t 43) (.t 41)) 2] (some [[],[0],[],[],[3],[],[4,5,3],[6,4,5,3],[7,6,4,5,3],[8,7,6,4,5,3],[1,2,0,3,4,5,6,7,8,9],[10,0,1,2,3,4,5,6,7,8,9],[11,9,0,1,2,3,4,5,6,7,8,10]])))) (.reg [Zz 44 (Gm .add (.t 29) (Uu 1)) 0,Zz 29 (X5 44) 0] none))))))) (WK [Zz 45 (.faddr 9 (.t 1)) 0,Zz 46 (DY [(.sl 10)] (.t 45)) 0,Zz 47 (c'' 96 [(.t 46)]) 0,Zz 48 (.faddr 9 (.t 1)) 2,Dv (.store 1 (.t 48) (.t 47)) 2] (.ext 0 [1,49,50,52,51,53,54,55,4,58,59,60,61,62,56,57,64,63,65,2,66])))))))
def Qk:ZC:=YI [(93,.pure (preT (fun x:List Int×Unit=>decide (x.1.length<=2000000))) (Zj (fun x:List Int×Unit=>x.1))),(94,.own (Yg 2) (Xl 62 2)),(95,.pure (preT (fun x:List Coef×Unit=>decide (x.1.length<=2000000))) (Zj (fun x:List Coef×Unit=>x.1))),(96,.own (Yg 10) (Xl 28 10))]
theorem d1k{G:Zm->Prop}(RR:Nat->St->Prop)(n:Nd)(ks:List Tm)(h:(Go.Pl.preT (fun(x:List Int×Unit)=>decide (List.length x.1<=2000000)) [(.sl 1 false (List.map enc (Nd.dims n)))])=true∧(∃ y0:List Int,AV.pv (Zj (fun(x:List Int×Unit)=>x.1) [(.sl 1 false (List.map enc (Nd.dims n)))])=AV.pv (enc y0)∧((Go.Pl.preT (fun(x:List Int×Unit)=>decide (List.length x.1<=2000000)) [(.sl 1 false (List.map enc (Nd.data n)))])=true∧(∃ y1:List Int,AV.pv (Zj (fun(x:List Int×Unit)=>x.1) [(.sl 1 false (List.map enc (Nd.data n)))])=AV.pv (enc y1)∧((Go.Pl.preT (fun(x:List Int×Unit)=>decide (List.length x.1<=2000000)) [(.sl 1 false (List.map enc (Nd.ranks n)))])=true∧(∃ y2:List Int,AV.pv (Zj (fun(x:List Int×Unit)=>x.1) [(.sl 1 false (List.map enc (Nd.ranks n)))])=AV.pv (enc y2)∧((Yg 2 [(.pv (.sl 2 false (List.map enc (Nd.sizes n))))] [])=true∧(AtM Qk (Wv RR) 0 (fun st=>G st.heap) XN 0 67 [(1,(.ptr 0 0)),(2,(.ptr 1 0)),(4,.undef),(28,(.pv (.int .i64 (↑(List.length (List.map enc (Nd.sizes n)) - 0):Int)))),(29,(.pv (.int .i64 0))),(49,.undef),(50,.undef),(51,.undef),(52,.undef),(53,.undef),(54,.undef),(55,.undef),(56,.undef),(57,.undef),(58,.undef),(59,.undef),(60,.undef),(61,.undef),(62,.undef),(63,.undef),(64,.undef),(65,.undef),(66,.undef)] [(.obj (.box [(.pv (.int .i64 (Nd.kind n))),(.pv (.int .i64 (Nd.line n))),(.pv (.str (Str.s (Nd.name n)))),(.pv (.int .i64 (Nd.num n))),(.pv (.str (Str.s (Nd.elem n)))),(.pv (.sl 1 false (List.map enc y0))),(.pv (.sl 1 false (List.map enc y1))),(.row 2 (List.length (List.map enc (Nd.sizes n))) 0 (List.length (List.map enc (Nd.sizes n)))),(.pv (.sl 1 false (List.map enc y2))),(.pv (.sl 10 false (List.map enc ks)))])),(.obj (.box [(.pv (.int .i64 0)),(.pv (.int .i64 0)),(.pv (.str [])),(.pv (.int .i64 0)),(.pv (.str [])),(.pv (.sl 0 true [])),(.pv (.sl 0 true [])),(.pv (.sl 0 true [])),(.pv (.sl 0 true [])),(.pv (.sl 0 true []))])),(.obj (.row false 62 2 (List.map enc (Nd.sizes n))))])))))))):Zx Qk (Wv RR) 0 (fun st=>G st.heap) (.inl XN) [] (XF 67 [.pv (.agg [enc n.kind,enc n.line,enc n.name,enc n.num,enc n.elem,enc n.dims,enc n.data,enc n.sizes,enc n.ranks,enc ks])] []):=Zx.mh (dm [dv (List Int)] 10 0x31515151) h
theorem EQ{G:Zm->Prop}(RR:Nat->St->Prop)(n:Nd)(ks:List Tm)(m:Nat)(L:List Lin)(i:Int)(h:if (decide (i<(↑m:Int)))=true then(decide (0<=i)&&decide (0+Int.toNat i<m)&&List.length (List.map enc L)==m)=true∧((List.length (List.map enc L)==m&&decide (0+Int.toNat i<List.length (List.map enc L)))=true∧((decide (0+1+List.length [Sh.sl 2]<=List.length (PV.cells (List.getD (List.map enc L) (0+Int.toNat i) default)))&&Yt (PV.cells (List.getD (List.map enc L) (0+Int.toNat i) default)) (0+1) [Sh.sl 2])=true∧((Go.Pl.preT (fun(x:List Coef×Unit)=>decide (List.length x.1<=2000000)) [(.sl 2 (PV.asT (List.getD (PV.cells (List.getD (List.map enc L) (0+Int.toNat i) default)) (0+1) default)) (PV.asXs (List.getD (PV.cells (List.getD (List.map enc L) (0+Int.toNat i) default)) (0+1) default)))])=true∧(∃ y0:List Coef,AV.pv (Zj (fun(x:List Coef×Unit)=>x.1) [(.sl 2 (PV.asT (List.getD (PV.cells (List.getD (List.map enc L) (0+Int.toNat i) default)) (0+1) default)) (PV.asXs (List.getD (PV.cells (List.getD (List.map enc L) (0+Int.toNat i) default)) (0+1) default)))])=AV.pv (enc y0)∧((decide (0<=i)&&decide (0+Int.toNat i<m)&&List.length (List.map enc L)==m)=true∧((List.length (List.map enc L)==m&&decide (0+Int.toNat i<List.length (List.map enc L))&&List.length (PV.cells (enc y0))==1&&decide (0+1+1<=List.length (PV.cells (List.getD (List.map enc L) (0+Int.toNat i) default)))&&PV.cellsOk (enc y0))=true∧(AtM Qk (Wv RR) 0 (fun st=>G st.heap) XN 0 67 [(1,(.ptr 0 0)),(2,(.ptr 1 0)),(4,.undef),(28,(.pv (.int .i64 (↑m:Int)))),(29,(.pv (.int .i64 (IntKind.wrap IntKind.i64 (i+1))))),(49,.undef),(50,.undef),(51,.undef),(52,.undef),(53,.undef),(54,.undef),(55,.undef),(56,.undef),(57,.undef),(58,.undef),(59,.undef),(60,.undef),(61,.undef),(62,.undef),(63,.undef),(64,.undef),(65,.undef),(66,.undef)] [(.obj (.box [(.pv (.int .i64 (Nd.kind n))),(.pv (.int .i64 (Nd.line n))),(.pv (.str (Str.s (Nd.name n)))),(.pv (.int .i64 (Nd.num n))),(.pv (.str (Str.s (Nd.elem n)))),(.pv (.sl 1 false (List.map enc (Nd.dims n)))),(.pv (.sl 1 false (List.map enc (Nd.data n)))),(.row 2 m 0 m),(.pv (.sl 1 false (List.map enc (Nd.ranks n)))),(.pv (.sl 10 false (List.map enc ks)))])),(.obj (.box [(.pv (.int .i64 0)),(.pv (.int .i64 0)),(.pv (.str [])),(.pv (.int .i64 0)),(.pv (.str [])),(.pv (.sl 0 true [])),(.pv (.sl 0 true [])),(.pv (.sl 0 true [])),(.pv (.sl 0 true [])),(.pv (.sl 0 true []))])),(.obj (.row false 62 2 (List.set (List.map enc L) (0+Int.toNat i) (PV.withCells (List.getD (List.map enc L) (0+Int.toNat i) default) (splice (PV.cells (List.getD (List.map enc L) (0+Int.toNat i) default)) (0+1) (PV.cells (enc y0)))))))])))))))else((Yg 10 [(.pv (.sl 10 false (List.map enc ks)))] [])=true∧((Wv RR) 0 ⟨ZL 67 0 [(1,(.ptr 0 0)),(2,(.ptr 1 0)),(4,.undef),(49,.undef),(50,.undef),(51,.undef),(52,.undef),(53,.undef),(54,.undef),(55,.undef),(56,.undef),(57,.undef),(58,.undef),(59,.undef),(60,.undef),(61,.undef),(62,.undef),(63,.undef),(64,.undef),(65,.undef),(66,.undef)],[(.obj (.box [(.pv (.int .i64 (Nd.kind n))),(.pv (.int .i64 (Nd.line n))),(.pv (.str (Str.s (Nd.name n)))),(.pv (.int .i64 (Nd.num n))),(.pv (.str (Str.s (Nd.elem n)))),(.pv (.sl 1 false (List.map enc (Nd.dims n)))),(.pv (.sl 1 false (List.map enc (Nd.data n)))),(.row 2 m 0 m),(.pv (.sl 1 false (List.map enc (Nd.ranks n)))),(.row 3 (List.length (List.map enc ks)) 0 (List.length (List.map enc ks)))])),(.obj (.box [(.pv (.int .i64 0)),(.pv (.int .i64 0)),(.pv (.str [])),(.pv (.int .i64 0)),(.pv (.str [])),(.pv (.sl 0 true [])),(.pv (.sl 0 true [])),(.pv (.sl 0 true [])),(.pv (.sl 0 true [])),(.pv (.sl 0 true []))])),(.obj (.row false 62 2 (List.map enc L))),(.obj (.row false 28 10 (List.map enc ks)))]⟩ (fun x S'=>Qs Qk (Wv RR) 0 (fun st=>G st.heap) XN 0 x S')))):AtM Qk (Wv RR) 0 (fun st=>G st.heap) XN 0 67 [(1,.ptr 0 0),(2,.ptr 1 0),(4,.undef),(28,.pv (.int .i64 m)),(29,.pv (.int .i64 i)),(49,.undef),(50,.undef),(51,.undef),(52,.undef),(53,.undef),(54,.undef),(55,.undef),(56,.undef),(57,.undef),(58,.undef),(59,.undef),(60,.undef),(61,.undef),(62,.undef),(63,.undef),(64,.undef),(65,.undef),(66,.undef)] [.obj (.box [.pv (enc n.kind),.pv (enc n.line),.pv (enc n.name),.pv (enc n.num),.pv (enc n.elem),.pv (enc n.dims),.pv (enc n.data),.row 2 m 0 m,.pv (enc n.ranks),.pv (enc ks)]),.obj (.box [.pv (.int .i64 0),.pv (.int .i64 0),.pv (.str []),.pv (.int .i64 0),.pv (.str []),.pv (.sl 0 true []),.pv (.sl 0 true []),.pv (.sl 0 true []),.pv (.sl 0 true []),.pv (.sl 0 true [])]),.obj (.row false 62 2 (L.map enc))]:=Zx.mh (dm [dv (List Coef)] 20 0x310213151113100b42) h
def Kj:IC:=XN
def GA:ZC:=YI [(93,.pure (preT (fun x:List Int×Unit=>decide (x.1.length<=2000000))) (Zj (fun x:List Int×Unit=>x.1))),(94,.pure (preT (fun x:List Lin×Unit=>x.1.isEmpty)) (Zj (fun x:List Lin×Unit=>x.1))),(95,.pure (preT (fun x:List Coef×Unit=>decide (x.1.length<=2000000))) (Zj (fun x:List Coef×Unit=>x.1))),(96,.own (Yg 10) (Xl 28 10))]
theorem c6n{G:Zm->Prop}(RR:Nat->St->Prop)(n:Nd)(ks:List Tm)(h:(Go.Pl.preT (fun(x:List Int×Unit)=>decide (List.length x.1<=2000000)) [(.sl 1 false (List.map enc (Nd.dims n)))])=true∧(∃ y0:List Int,AV.pv (Zj (fun(x:List Int×Unit)=>x.1) [(.sl 1 false (List.map enc (Nd.dims n)))])=AV.pv (enc y0)∧((Go.Pl.preT (fun(x:List Int×Unit)=>decide (List.length x.1<=2000000)) [(.sl 1 false (List.map enc (Nd.data n)))])=true∧(∃ y1:List Int,AV.pv (Zj (fun(x:List Int×Unit)=>x.1) [(.sl 1 false (List.map enc (Nd.data n)))])=AV.pv (enc y1)∧((Go.Pl.preT (fun(x:List Int×Unit)=>decide (List.length x.1<=2000000)) [(.sl 1 false (List.map enc (Nd.ranks n)))])=true∧(∃ y2:List Int,AV.pv (Zj (fun(x:List Int×Unit)=>x.1) [(.sl 1 false (List.map enc (Nd.ranks n)))])=AV.pv (enc y2)∧((Go.Pl.preT (fun(x:List Lin×Unit)=>List.isEmpty x.1) [(.sl 2 false (List.map enc (Nd.sizes n)))])=true∧(∃ y3:List Lin,AV.pv (Zj (fun(x:List Lin×Unit)=>x.1) [(.sl 2 false (List.map enc (Nd.sizes n)))])=AV.pv (enc y3)∧(AtM GA (Wv RR) 0 (fun st=>G st.heap) Kj 0 67 [(1,(.ptr 0 0)),(2,(.ptr 1 0)),(4,.undef),(28,(.pv (.int .i64 (↑(List.length (List.map enc y3)):Int)))),(29,(.pv (.int .i64 0))),(49,.undef),(50,.undef),(51,.undef),(52,.undef),(53,.undef),(54,.undef),(55,.undef),(56,.undef),(57,.undef),(58,.undef),(59,.undef),(60,.undef),(61,.undef),(62,.undef),(63,.undef),(64,.undef),(65,.undef),(66,.undef)] [(.obj (.box [(.pv (.int .i64 (Nd.kind n))),(.pv (.int .i64 (Nd.line n))),(.pv (.str (Str.s (Nd.name n)))),(.pv (.int .i64 (Nd.num n))),(.pv (.str (Str.s (Nd.elem n)))),(.pv (.sl 1 false (List.map enc y0))),(.pv (.sl 1 false (List.map enc y1))),(.pv (.sl 2 false (List.map enc y3))),(.pv (.sl 1 false (List.map enc y2))),(.pv (.sl 10 false (List.map enc ks)))])),(.obj (.box [(.pv (.int .i64 0)),(.pv (.int .i64 0)),(.pv (.str [])),(.pv (.int .i64 0)),(.pv (.str [])),(.pv (.sl 0 true [])),(.pv (.sl 0 true [])),(.pv (.sl 0 true [])),(.pv (.sl 0 true [])),(.pv (.sl 0 true []))]))]))))))))):Zx GA (Wv RR) 0 (fun st=>G st.heap) (.inl Kj) [] (XF 67 [.pv (.agg [enc n.kind,enc n.line,enc n.name,enc n.num,enc n.elem,enc n.dims,enc n.data,enc n.sizes,enc n.ranks,enc ks])] []):=Zx.mh (dm [dv (List Int),dv (List Lin)] 10 0x61515151) h
-- BAD 1 in a0c
theorem a0c{G:Zm->Prop}(RR:Nat->St->Prop)(n:Nd)(ks:List Tm)(m i:Int)(h:if (decide (i<m))=true then(decide (0<=i)&&decide (Int.toNat i<List.length (List.map enc (Nd.sizes n)))&&Enc.sz Lin==2)=true∧(∃ y0:Lin,AV.pv (PV.rptr (PV.cells (List.getD (List.map enc (Nd.sizes n)) (Int.toNat i) default)))=AV.pv (PV.rptr (PV.cells ((enc) y0)))∧((Go.Pl.preT (fun(x:List Coef×Unit)=>decide (List.length x.1<=2000000)) [(.sl 2 false (PV.asXs (List.getD (List.drop 1 (PV.cells (enc y0))) 0 default)))])=true∧(∃ y1:List Coef,AV.pv (Zj (fun(x:List Coef×Unit)=>x.1) [(.sl 2 false (PV.asXs (List.getD (List.drop 1 (PV.cells (enc y0))) 0 default)))])=AV.pv (enc y1)∧((decide (0<=i)&&decide (Int.toNat i<List.length (List.map enc (Nd.sizes n)))&&Enc.sz Lin==2)=true∧(∃ y2:Lin,AV.pv (PV.rptr (PV.cells (List.getD (List.map enc (Nd.sizes n)) (Int.toNat i) default)))=AV.pv (PV.rptr (PV.cells ((enc) y2)))∧(False))))))else((Yg 10 [(.pv (.sl 10 false (List.map enc ks)))] [])=true∧((Wv RR) 0 ⟨ZL 67 0 [(1,(.ptr 0 0)),(2,(.ptr 1 0)),(4,.undef),(49,.undef),(50,.undef),(51,.undef),(52,.undef),(53,.undef),(54,.undef),(55,.undef),(56,.undef),(57,.undef),(58,.undef),(59,.undef),(60,.undef),(61,.undef),(62,.undef),(63,.undef),(64,.undef),(65,.undef),(66,.undef)],[(.obj (.box [(.pv (.int .i64 (Nd.kind n))),(.pv (.int .i64 (Nd.line n))),(.pv (.str (Str.s (Nd.name n)))),(.pv (.int .i64 (Nd.num n))),(.pv (.str (Str.s (Nd.elem n)))),(.pv (.sl 1 false (List.map enc (Nd.dims n)))),(.pv (.sl 1 false (List.map enc (Nd.data n)))),(.pv (.sl 2 false (List.map enc (Nd.sizes n)))),(.pv (.sl 1 false (List.map enc (Nd.ranks n)))),(.row 2 (List.length (List.map enc ks)) 0 (List.length (List.map enc ks)))])),(.obj (.box [(.pv (.int .i64 0)),(.pv (.int .i64 0)),(.pv (.str [])),(.pv (.int .i64 0)),(.pv (.str [])),(.pv (.sl 0 true [])),(.pv (.sl 0 true [])),(.pv (.sl 0 true [])),(.pv (.sl 0 true [])),(.pv (.sl 0 true []))])),(.obj (.row false 28 10 (List.map enc ks)))]⟩ (fun x S'=>Qs GA (Wv RR) 0 (fun st=>G st.heap) Kj 0 x S')))):AtM GA (Wv RR) 0 (fun st=>G st.heap) Kj 0 67 [(1,.ptr 0 0),(2,.ptr 1 0),(4,.undef),(28,.pv (.int .i64 m)),(29,.pv (.int .i64 i)),(49,.undef),(50,.undef),(51,.undef),(52,.undef),(53,.undef),(54,.undef),(55,.undef),(56,.undef),(57,.undef),(58,.undef),(59,.undef),(60,.undef),(61,.undef),(62,.undef),(63,.undef),(64,.undef),(65,.undef),(66,.undef)] [.obj (.box [.pv (enc n.kind),.pv (enc n.line),.pv (enc n.name),.pv (enc n.num),.pv (enc n.elem),.pv (enc n.dims),.pv (enc n.data),.pv (enc n.sizes),.pv (enc n.ranks),.pv (enc ks)]),.obj (.box [.pv (.int .i64 0),.pv (.int .i64 0),.pv (.str []),.pv (.int .i64 0),.pv (.str []),.pv (.sl 0 true []),.pv (.sl 0 true []),.pv (.sl 0 true []),.pv (.sl 0 true []),.pv (.sl 0 true [])])]:=Zx.mh (dm [dr Lin,dv (List Coef)] 17 0x310516125100842) h
def Vh:IC:=XN
def U2:ZC:=YI [(93,.pure (preT (fun x:List Int×Unit=>decide (x.1.length<=2000000))) (Zj (fun x:List Int×Unit=>x.1))),(94,.own (Yg 2) (Xl 62 2)),(95,.pure (preT (fun x:List Coef×Unit=>decide (x.1.length<=2000000))) (Zj (fun x:List Coef×Unit=>x.1))),(96,.pure (preT (fun x:List Tm×Unit=>x.1.isEmpty)) (Zj (fun x:List Tm×Unit=>x.1)))]
theorem d1l{G:Zm->Prop}(RR:Nat->St->Prop)(n:Nd)(ks:List Tm)(h:(Go.Pl.preT (fun(x:List Int×Unit)=>decide (List.length x.1<=2000000)) [(.sl 1 false (List.map enc (Nd.dims n)))])=true∧(∃ y0:List Int,AV.pv (Zj (fun(x:List Int×Unit)=>x.1) [(.sl 1 false (List.map enc (Nd.dims n)))])=AV.pv (enc y0)∧((Go.Pl.preT (fun(x:List Int×Unit)=>decide (List.length x.1<=2000000)) [(.sl 1 false (List.map enc (Nd.data n)))])=true∧(∃ y1:List Int,AV.pv (Zj (fun(x:List Int×Unit)=>x.1) [(.sl 1 false (List.map enc (Nd.data n)))])=AV.pv (enc y1)∧((Go.Pl.preT (fun(x:List Int×Unit)=>decide (List.length x.1<=2000000)) [(.sl 1 false (List.map enc (Nd.ranks n)))])=true∧(∃ y2:List Int,AV.pv (Zj (fun(x:List Int×Unit)=>x.1) [(.sl 1 false (List.map enc (Nd.ranks n)))])=AV.pv (enc y2)∧((Yg 2 [(.pv (.sl 2 false (List.map enc (Nd.sizes n))))] [])=true∧(AtM U2 (Wv RR) 0 (fun st=>G st.heap) Vh 0 67 [(1,(.ptr 0 0)),(2,(.ptr 1 0)),(4,.undef),(28,(.pv (.int .i64 (↑(List.length (List.map enc (Nd.sizes n)) - 0):Int)))),(29,(.pv (.int .i64 0))),(49,.undef),(50,.undef),(51,.undef),(52,.undef),(53,.undef),(54,.undef),(55,.undef),(56,.undef),(57,.undef),(58,.undef),(59,.undef),(60,.undef),(61,.undef),(62,.undef),(63,.undef),(64,.undef),(65,.undef),(66,.undef)] [(.obj (.box [(.pv (.int .i64 (Nd.kind n))),(.pv (.int .i64 (Nd.line n))),(.pv (.str (Str.s (Nd.name n)))),(.pv (.int .i64 (Nd.num n))),(.pv (.str (Str.s (Nd.elem n)))),(.pv (.sl 1 false (List.map enc y0))),(.pv (.sl 1 false (List.map enc y1))),(.row 2 (List.length (List.map enc (Nd.sizes n))) 0 (List.length (List.map enc (Nd.sizes n)))),(.pv (.sl 1 false (List.map enc y2))),(.pv (.sl 10 false (List.map enc ks)))])),(.obj (.box [(.pv (.int .i64 0)),(.pv (.int .i64 0)),(.pv (.str [])),(.pv (.int .i64 0)),(.pv (.str [])),(.pv (.sl 0 true [])),(.pv (.sl 0 true [])),(.pv (.sl 0 true [])),(.pv (.sl 0 true [])),(.pv (.sl 0 true []))])),(.obj (.row false 62 2 (List.map enc (Nd.sizes n))))])))))))):Zx U2 (Wv RR) 0 (fun st=>G st.heap) (.inl Vh) [] (XF 67 [.pv (.agg [enc n.kind,enc n.line,enc n.name,enc n.num,enc n.elem,enc n.dims,enc n.data,enc n.sizes,enc n.ranks,enc ks])] []):=Zx.mh (dm [dv (List Int)] 10 0x31515151) h
theorem EH{G:Zm->Prop}(RR:Nat->St->Prop)(n:Nd)(ks:List Tm)(m:Nat)(L:List Lin)(i:Int)(h:if (decide (i<(↑m:Int)))=true then(decide (0<=i)&&decide (0+Int.toNat i<m)&&List.length (List.map enc L)==m)=true∧((List.length (List.map enc L)==m&&decide (0+Int.toNat i<List.length (List.map enc L)))=true∧((decide (0+1+List.length [Sh.sl 2]<=List.length (PV.cells (List.getD (List.map enc L) (0+Int.toNat i) default)))&&Yt (PV.cells (List.getD (List.map enc L) (0+Int.toNat i) default)) (0+1) [Sh.sl 2])=true∧((Go.Pl.preT (fun(x:List Coef×Unit)=>decide (List.length x.1<=2000000)) [(.sl 2 (PV.asT (List.getD (PV.cells (List.getD (List.map enc L) (0+Int.toNat i) default)) (0+1) default)) (PV.asXs (List.getD (PV.cells (List.getD (List.map enc L) (0+Int.toNat i) default)) (0+1) default)))])=true∧(∃ y0:List Coef,AV.pv (Zj (fun(x:List Coef×Unit)=>x.1) [(.sl 2 (PV.asT (List.getD (PV.cells (List.getD (List.map enc L) (0+Int.toNat i) default)) (0+1) default)) (PV.asXs (List.getD (PV.cells (List.getD (List.map enc L) (0+Int.toNat i) default)) (0+1) default)))])=AV.pv (enc y0)∧((decide (0<=i)&&decide (0+Int.toNat i<m)&&List.length (List.map enc L)==m)=true∧((List.length (List.map enc L)==m&&decide (0+Int.toNat i<List.length (List.map enc L))&&List.length (PV.cells (enc y0))==1&&decide (0+1+1<=List.length (PV.cells (List.getD (List.map enc L) (0+Int.toNat i) default)))&&PV.cellsOk (enc y0))=true∧(AtM U2 (Wv RR) 0 (fun st=>G st.heap) Vh 0 67 [(1,(.ptr 0 0)),(2,(.ptr 1 0)),(4,.undef),(28,(.pv (.int .i64 (↑m:Int)))),(29,(.pv (.int .i64 (IntKind.wrap IntKind.i64 (i+1))))),(49,.undef),(50,.undef),(51,.undef),(52,.undef),(53,.undef),(54,.undef),(55,.undef),(56,.undef),(57,.undef),(58,.undef),(59,.undef),(60,.undef),(61,.undef),(62,.undef),(63,.undef),(64,.undef),(65,.undef),(66,.undef)] [(.obj (.box [(.pv (.int .i64 (Nd.kind n))),(.pv (.int .i64 (Nd.line n))),(.pv (.str (Str.s (Nd.name n)))),(.pv (.int .i64 (Nd.num n))),(.pv (.str (Str.s (Nd.elem n)))),(.pv (.sl 1 false (List.map enc (Nd.dims n)))),(.pv (.sl 1 false (List.map enc (Nd.data n)))),(.row 2 m 0 m),(.pv (.sl 1 false (List.map enc (Nd.ranks n)))),(.pv (.sl 10 false (List.map enc ks)))])),(.obj (.box [(.pv (.int .i64 0)),(.pv (.int .i64 0)),(.pv (.str [])),(.pv (.int .i64 0)),(.pv (.str [])),(.pv (.sl 0 true [])),(.pv (.sl 0 true [])),(.pv (.sl 0 true [])),(.pv (.sl 0 true [])),(.pv (.sl 0 true []))])),(.obj (.row false 62 2 (List.set (List.map enc L) (0+Int.toNat i) (PV.withCells (List.getD (List.map enc L) (0+Int.toNat i) default) (splice (PV.cells (List.getD (List.map enc L) (0+Int.toNat i) default)) (0+1) (PV.cells (enc y0)))))))])))))))else((Go.Pl.preT (fun(x:List Tm×Unit)=>List.isEmpty x.1) [(.sl 10 false (List.map enc ks))])=true∧(∃ y1:List Tm,AV.pv (Zj (fun(x:List Tm×Unit)=>x.1) [(.sl 10 false (List.map enc ks))])=AV.pv (enc y1)∧((Wv RR) 0 ⟨ZL 67 0 [(1,(.ptr 0 0)),(2,(.ptr 1 0)),(4,.undef),(49,.undef),(50,.undef),(51,.undef),(52,.undef),(53,.undef),(54,.undef),(55,.undef),(56,.undef),(57,.undef),(58,.undef),(59,.undef),(60,.undef),(61,.undef),(62,.undef),(63,.undef),(64,.undef),(65,.undef),(66,.undef)],[(.obj (.box [(.pv (.int .i64 (Nd.kind n))),(.pv (.int .i64 (Nd.line n))),(.pv (.str (Str.s (Nd.name n)))),(.pv (.int .i64 (Nd.num n))),(.pv (.str (Str.s (Nd.elem n)))),(.pv (.sl 1 false (List.map enc (Nd.dims n)))),(.pv (.sl 1 false (List.map enc (Nd.data n)))),(.row 2 m 0 m),(.pv (.sl 1 false (List.map enc (Nd.ranks n)))),(.pv (.sl 10 false (List.map enc y1)))])),(.obj (.box [(.pv (.int .i64 0)),(.pv (.int .i64 0)),(.pv (.str [])),(.pv (.int .i64 0)),(.pv (.str [])),(.pv (.sl 0 true [])),(.pv (.sl 0 true [])),(.pv (.sl 0 true [])),(.pv (.sl 0 true [])),(.pv (.sl 0 true []))])),(.obj (.row false 62 2 (List.map enc L)))]⟩ (fun x S'=>Qs U2 (Wv RR) 0 (fun st=>G st.heap) Vh 0 x S'))))):AtM U2 (Wv RR) 0 (fun st=>G st.heap) Vh 0 67 [(1,.ptr 0 0),(2,.ptr 1 0),(4,.undef),(28,.pv (.int .i64 m)),(29,.pv (.int .i64 i)),(49,.undef),(50,.undef),(51,.undef),(52,.undef),(53,.undef),(54,.undef),(55,.undef),(56,.undef),(57,.undef),(58,.undef),(59,.undef),(60,.undef),(61,.undef),(62,.undef),(63,.undef),(64,.undef),(65,.undef),(66,.undef)] [.obj (.box [.pv (enc n.kind),.pv (enc n.line),.pv (enc n.name),.pv (enc n.num),.pv (enc n.elem),.pv (enc n.dims),.pv (enc n.data),.row 2 m 0 m,.pv (enc n.ranks),.pv (enc ks)]),.obj (.box [.pv (.int .i64 0),.pv (.int .i64 0),.pv (.str []),.pv (.int .i64 0),.pv (.str []),.pv (.sl 0 true []),.pv (.sl 0 true []),.pv (.sl 0 true []),.pv (.sl 0 true []),.pv (.sl 0 true [])]),.obj (.row false 62 2 (L.map enc))]:=Zx.mh (dm [dv (List Coef),dv (List Tm)] 20 0x610213151113100b42) h
def QU:IC:=XN
def Gb:ZC:=YI [(93,.pure (preT (fun x:List Int×Unit=>decide (x.1.length<=2000000))) (Zj (fun x:List Int×Unit=>x.1))),(94,.pure (preT (fun x:List Lin×Unit=>x.1.isEmpty)) (Zj (fun x:List Lin×Unit=>x.1))),(95,.pure (preT (fun x:List Coef×Unit=>decide (x.1.length<=2000000))) (Zj (fun x:List Coef×Unit=>x.1))),(96,.pure (preT (fun x:List Tm×Unit=>x.1.isEmpty)) (Zj (fun x:List Tm×Unit=>x.1)))]
theorem c8w{G:Zm->Prop}(RR:Nat->St->Prop)(n:Nd)(ks:List Tm)(h:(Go.Pl.preT (fun(x:List Int×Unit)=>decide (List.length x.1<=2000000)) [(.sl 1 false (List.map enc (Nd.dims n)))])=true∧(∃ y0:List Int,AV.pv (Zj (fun(x:List Int×Unit)=>x.1) [(.sl 1 false (List.map enc (Nd.dims n)))])=AV.pv (enc y0)∧((Go.Pl.preT (fun(x:List Int×Unit)=>decide (List.length x.1<=2000000)) [(.sl 1 false (List.map enc (Nd.data n)))])=true∧(∃ y1:List Int,AV.pv (Zj (fun(x:List Int×Unit)=>x.1) [(.sl 1 false (List.map enc (Nd.data n)))])=AV.pv (enc y1)∧((Go.Pl.preT (fun(x:List Int×Unit)=>decide (List.length x.1<=2000000)) [(.sl 1 false (List.map enc (Nd.ranks n)))])=true∧(∃ y2:List Int,AV.pv (Zj (fun(x:List Int×Unit)=>x.1) [(.sl 1 false (List.map enc (Nd.ranks n)))])=AV.pv (enc y2)∧((Go.Pl.preT (fun(x:List Lin×Unit)=>List.isEmpty x.1) [(.sl 2 false (List.map enc (Nd.sizes n)))])=true∧(∃ y3:List Lin,AV.pv (Zj (fun(x:List Lin×Unit)=>x.1) [(.sl 2 false (List.map enc (Nd.sizes n)))])=AV.pv (enc y3)∧(AtM Gb (Wv RR) 0 (fun st=>G st.heap) QU 0 67 [(1,(.ptr 0 0)),(2,(.ptr 1 0)),(4,.undef),(28,(.pv (.int .i64 (↑(List.length (List.map enc y3)):Int)))),(29,(.pv (.int .i64 0))),(49,.undef),(50,.undef),(51,.undef),(52,.undef),(53,.undef),(54,.undef),(55,.undef),(56,.undef),(57,.undef),(58,.undef),(59,.undef),(60,.undef),(61,.undef),(62,.undef),(63,.undef),(64,.undef),(65,.undef),(66,.undef)] [(.obj (.box [(.pv (.int .i64 (Nd.kind n))),(.pv (.int .i64 (Nd.line n))),(.pv (.str (Str.s (Nd.name n)))),(.pv (.int .i64 (Nd.num n))),(.pv (.str (Str.s (Nd.elem n)))),(.pv (.sl 1 false (List.map enc y0))),(.pv (.sl 1 false (List.map enc y1))),(.pv (.sl 2 false (List.map enc y3))),(.pv (.sl 1 false (List.map enc y2))),(.pv (.sl 10 false (List.map enc ks)))])),(.obj (.box [(.pv (.int .i64 0)),(.pv (.int .i64 0)),(.pv (.str [])),(.pv (.int .i64 0)),(.pv (.str [])),(.pv (.sl 0 true [])),(.pv (.sl 0 true [])),(.pv (.sl 0 true [])),(.pv (.sl 0 true [])),(.pv (.sl 0 true []))]))]))))))))):Zx Gb (Wv RR) 0 (fun st=>G st.heap) (.inl QU) [] (XF 67 [.pv (.agg [enc n.kind,enc n.line,enc n.name,enc n.num,enc n.elem,enc n.dims,enc n.data,enc n.sizes,enc n.ranks,enc ks])] []):=Zx.mh (dm [dv (List Int),dv (List Lin)] 10 0x61515151) h
-- BAD 1 in a0r
theorem a0r{G:Zm->Prop}(RR:Nat->St->Prop)(n:Nd)(ks:List Tm)(m i:Int)(h:if (decide (i<m))=true then(decide (0<=i)&&decide (Int.toNat i<List.length (List.map enc (Nd.sizes n)))&&Enc.sz Lin==2)=true∧(∃ y0:Lin,AV.pv (PV.rptr (PV.cells (List.getD (List.map enc (Nd.sizes n)) (Int.toNat i) default)))=AV.pv (PV.rptr (PV.cells ((enc) y0)))∧((Go.Pl.preT (fun(x:List Coef×Unit)=>decide (List.length x.1<=2000000)) [(.sl 2 false (PV.asXs (List.getD (List.drop 1 (PV.cells (enc y0))) 0 default)))])=true∧(∃ y1:List Coef,AV.pv (Zj (fun(x:List Coef×Unit)=>x.1) [(.sl 2 false (PV.asXs (List.getD (List.drop 1 (PV.cells (enc y0))) 0 default)))])=AV.pv (enc y1)∧((decide (0<=i)&&decide (Int.toNat i<List.length (List.map enc (Nd.sizes n)))&&Enc.sz Lin==2)=true∧(∃ y2:Lin,AV.pv (PV.rptr (PV.cells (List.getD (List.map enc (Nd.sizes n)) (Int.toNat i) default)))=AV.pv (PV.rptr (PV.cells ((enc) y2)))∧(False))))))else((Go.Pl.preT (fun(x:List Tm×Unit)=>List.isEmpty x.1) [(.sl 10 false (List.map enc ks))])=true∧(∃ y3:List Tm,AV.pv (Zj (fun(x:List Tm×Unit)=>x.1) [(.sl 10 false (List.map enc ks))])=AV.pv (enc y3)∧((Wv RR) 0 ⟨ZL 67 0 [(1,(.ptr 0 0)),(2,(.ptr 1 0)),(4,.undef),(49,.undef),(50,.undef),(51,.undef),(52,.undef),(53,.undef),(54,.undef),(55,.undef),(56,.undef),(57,.undef),(58,.undef),(59,.undef),(60,.undef),(61,.undef),(62,.undef),(63,.undef),(64,.undef),(65,.undef),(66,.undef)],[(.obj (.box [(.pv (.int .i64 (Nd.kind n))),(.pv (.int .i64 (Nd.line n))),(.pv (.str (Str.s (Nd.name n)))),(.pv (.int .i64 (Nd.num n))),(.pv (.str (Str.s (Nd.elem n)))),(.pv (.sl 1 false (List.map enc (Nd.dims n)))),(.pv (.sl 1 false (List.map enc (Nd.data n)))),(.pv (.sl 2 false (List.map enc (Nd.sizes n)))),(.pv (.sl 1 false (List.map enc (Nd.ranks n)))),(.pv (.sl 10 false (List.map enc y3)))])),(.obj (.box [(.pv (.int .i64 0)),(.pv (.int .i64 0)),(.pv (.str [])),(.pv (.int .i64 0)),(.pv (.str [])),(.pv (.sl 0 true [])),(.pv (.sl 0 true [])),(.pv (.sl 0 true [])),(.pv (.sl 0 true [])),(.pv (.sl 0 true []))]))]⟩ (fun x S'=>Qs Gb (Wv RR) 0 (fun st=>G st.heap) QU 0 x S'))))):AtM Gb (Wv RR) 0 (fun st=>G st.heap) QU 0 67 [(1,.ptr 0 0),(2,.ptr 1 0),(4,.undef),(28,.pv (.int .i64 m)),(29,.pv (.int .i64 i)),(49,.undef),(50,.undef),(51,.undef),(52,.undef),(53,.undef),(54,.undef),(55,.undef),(56,.undef),(57,.undef),(58,.undef),(59,.undef),(60,.undef),(61,.undef),(62,.undef),(63,.undef),(64,.undef),(65,.undef),(66,.undef)] [.obj (.box [.pv (enc n.kind),.pv (enc n.line),.pv (enc n.name),.pv (enc n.num),.pv (enc n.elem),.pv (enc n.dims),.pv (enc n.data),.pv (enc n.sizes),.pv (enc n.ranks),.pv (enc ks)]),.obj (.box [.pv (.int .i64 0),.pv (.int .i64 0),.pv (.str []),.pv (.int .i64 0),.pv (.str []),.pv (.sl 0 true []),.pv (.sl 0 true []),.pv (.sl 0 true []),.pv (.sl 0 true []),.pv (.sl 0 true [])])]:=Zx.mh (dm [dr Lin,dv (List Coef),dv (List Tm)] 17 0x710516125100842) h
end Go.Pl
namespace Go.Pl
open Go.RowKit
open Enc (enc dec is)
open EncL (encL decL isL)
def d2h:List (Nat×AV):=[(1,.ptr 0 0),(2,.ptr 1 0),(4,.undef),(49,.undef),(50,.undef),(51,.undef),(52,.undef),(53,.undef),(54,.undef),(55,.undef),(56,.undef),(57,.undef),(58,.undef),(59,.undef),(60,.undef),(61,.undef),(62,.undef),(63,.undef),(64,.undef),(65,.undef),(66,.undef)]
def cpZ:List AV:=[.pv (.int .i64 0),.pv (.int .i64 0),.pv (.str []),.pv (.int .i64 0),.pv (.str []),.pv (.sl 0 true []),.pv (.sl 0 true []),.pv (.sl 0 true []),.pv (.sl 0 true []),.pv (.sl 0 true [])]
def b4e(n:Nd)(SZ:AV):List AV:=[.pv (enc n.kind),.pv (enc n.line),.pv (enc n.name),.pv (enc n.num),.pv (enc n.elem),.pv (enc n.dims),.pv (enc n.data),SZ,.pv (enc n.ranks)]
def cpR(n:Nd)(ks:List Tm)(m:Nat)(S:St):Prop:=m=0∧S.env=ZL 67 0 d2h∧ ∃ (SZ KD:AV) (b:Bool) (rest:Zm),S.heap = .obj (.box (b4e n SZ++[KD])):: .obj (.box cpZ)::rest ∧
 ((b=false∧SZ = .pv (enc n.sizes))∨(b=true∧SZ = .row 2 n.sizes.length 0 n.sizes.length∧S.heap[2]? = some (.obj (.row false 62 2 (n.sizes.map enc))))) ∧
 ((ks=[]∧KD = .pv (enc ks))∨(ks≠[]∧KD = .row (if b=true then 3 else 2) ks.length 0 ks.length∧S.heap[if b=true then 3 else 2]? = some (.obj (.row false 28 10 (ks.map enc)))))
theorem RX{α:Type}[Enc α]{l:List α}{s:Nat}(h:l≠[])(hl:l.length<=2000000):Yg s [(.pv (.sl s false (List.map enc l)))] []=true:=by
 simp[Yg,h,hl]
theorem b0k{RR:Nat->St->Prop}{n:Nd}{ks:List Tm}(hne:ks≠[])(hk:ks.length<=2000000)(hl:n.sizes.length<=2000000)(ht : ∀ l∈n.sizes,l.t.length<=2000000){m:Nat}(hm:m=n.sizes.length)(hR : ∀ S,cpR n ks 0 S->RR 0 S): ∀ (d i:Nat),d+i=n.sizes.length ->
  AtM Qk (Wv RR) 0 (fun _=>False) XN 0 67 [(1,.ptr 0 0),(2,.ptr 1 0),(4,.undef),(28,.pv (.int .i64 m)),(29,.pv (.int .i64 i)),(49,.undef),(50,.undef),(51,.undef),(52,.undef),(53,.undef),(54,.undef),(55,.undef),(56,.undef),(57,.undef),(58,.undef),(59,.undef),(60,.undef),(61,.undef),(62,.undef),(63,.undef),(64,.undef),(65,.undef),(66,.undef)]
   [.obj (.box [.pv (enc n.kind),.pv (enc n.line),.pv (enc n.name),.pv (enc n.num),.pv (enc n.elem),.pv (enc n.dims),.pv (enc n.data),.row 2 m 0 m,.pv (enc n.ranks),.pv (enc ks)]),.obj (.box cpZ),.obj (.row false 62 2 (n.sizes.map enc))]:=by
 subst hm
 intro d
 induction d with
 | zero=>
  intro i hi
  refine EQ (G:=fun _=>False) RR n ks n.sizes.length n.sizes i (XV (Qe (by omega)) ⟨RX hne hk,hR _ ⟨rfl,rfl,_,_,true,_,rfl,.inr ⟨rfl,rfl,rfl⟩,.inr ⟨hne,by simp,rfl⟩⟩⟩)
 | succ d ih=>
  intro i hi
  have h1:i<n.sizes.length:=by omega
  refine EQ (G:=fun _=>False) RR n ks n.sizes.length n.sizes i (Y7 (Qz h1) ?_)
  have e:List.getD (List.map (enc:Lin->PV) n.sizes) (0+Int.toNat (i:Int)) default=enc n.sizes[i]:=by rw[Nat.zero_add];exact JM enc h1
  have e2:(enc n.sizes[i]:PV) = .agg [.int .i64 n.sizes[i].k,.sl 2 false (n.sizes[i].t.map enc)]:=rfl
  have e3:List.set (n.sizes.map (enc:Lin->PV)) (0+Int.toNat (i:Int)) (.agg [.int .i64 n.sizes[i].k,.sl 2 false (n.sizes[i].t.map enc)])=n.sizes.map enc:=by
   rw[Nat.zero_add,Int.toNat_natCast,<- e2]
   apply List.ext_getElem?
   intro j
   rw[List.getElem?_set]
   split
   ·rename_i h;subst h;rw[if_pos (by simpa using h1),List.getElem?_map,List.getElem?_eq_getElem h1];rfl
   ·rfl
  have hc:=ht _ (List.getElem_mem h1)
  simp only[e,e2]
  refine⟨by simp[h1],by simp[h1],by simp[PV.cells,Yt,Sh.fit],Ze (n.sizes[i].t,()) rfl (decide_eq_true hc),Zg (n.sizes[i].t,()) rfl ⟨by simp[h1],?_,?_⟩⟩
  ·simp[h1,PV.cells,PV.cellsOk,enc]
  ·show AtM Qk (Wv RR) 0 (fun _=>False) XN 0 67 _ [_,_,.obj (.row false 62 2 (List.set (n.sizes.map (enc:Lin->PV)) (0+Int.toNat (i:Int)) (.agg [.int .i64 n.sizes[i].k,.sl 2 false (n.sizes[i].t.map enc)])))]
   rw[e3,next (by omega)]
   exact ih (i+1) (by omega)
theorem b0t{RR:Nat->St->Prop}{n:Nd}(hl:n.sizes.length<=2000000)(ht : ∀ l∈n.sizes,l.t.length<=2000000){m:Nat}(hm:m=n.sizes.length)(hR : ∀ S,cpR n [] 0 S->RR 0 S): ∀ (d i:Nat),d+i=n.sizes.length ->
  AtM U2 (Wv RR) 0 (fun _=>False) Vh 0 67 [(1,.ptr 0 0),(2,.ptr 1 0),(4,.undef),(28,.pv (.int .i64 m)),(29,.pv (.int .i64 i)),(49,.undef),(50,.undef),(51,.undef),(52,.undef),(53,.undef),(54,.undef),(55,.undef),(56,.undef),(57,.undef),(58,.undef),(59,.undef),(60,.undef),(61,.undef),(62,.undef),(63,.undef),(64,.undef),(65,.undef),(66,.undef)]
   [.obj (.box [.pv (enc n.kind),.pv (enc n.line),.pv (enc n.name),.pv (enc n.num),.pv (enc n.elem),.pv (enc n.dims),.pv (enc n.data),.row 2 m 0 m,.pv (enc n.ranks),.pv (enc ([]:List Tm))]),.obj (.box cpZ),.obj (.row false 62 2 (n.sizes.map enc))]:=by
 subst hm
 intro d
 induction d with
 | zero=>
  intro i hi
  refine EH (G:=fun _=>False) RR n [] n.sizes.length n.sizes i (XV (Qe (by omega)) ⟨Ze (([]:List Tm),()) rfl rfl,Zg (([]:List Tm),()) rfl (hR _ ⟨rfl,rfl,_,_,true,_,rfl,.inr ⟨rfl,rfl,rfl⟩,.inl ⟨rfl,rfl⟩⟩)⟩)
 | succ d ih=>
  intro i hi
  have h1:i<n.sizes.length:=by omega
  refine EH (G:=fun _=>False) RR n [] n.sizes.length n.sizes i (Y7 (Qz h1) ?_)
  have e:List.getD (List.map (enc:Lin->PV) n.sizes) (0+Int.toNat (i:Int)) default=enc n.sizes[i]:=by rw[Nat.zero_add];exact JM enc h1
  have e2:(enc n.sizes[i]:PV) = .agg [.int .i64 n.sizes[i].k,.sl 2 false (n.sizes[i].t.map enc)]:=rfl
  have e3:List.set (n.sizes.map (enc:Lin->PV)) (0+Int.toNat (i:Int)) (.agg [.int .i64 n.sizes[i].k,.sl 2 false (n.sizes[i].t.map enc)])=n.sizes.map enc:=by
   rw[Nat.zero_add,Int.toNat_natCast,<- e2]
   apply List.ext_getElem?
   intro j
   rw[List.getElem?_set]
   split
   ·rename_i h;subst h;rw[if_pos (by simpa using h1),List.getElem?_map,List.getElem?_eq_getElem h1];rfl
   ·rfl
  have hc:=ht _ (List.getElem_mem h1)
  simp only[e,e2]
  refine⟨by simp[h1],by simp[h1],by simp[PV.cells,Yt,Sh.fit],Ze (n.sizes[i].t,()) rfl (decide_eq_true hc),Zg (n.sizes[i].t,()) rfl ⟨by simp[h1],?_,?_⟩⟩
  ·simp[h1,PV.cells,PV.cellsOk,enc]
  ·show AtM U2 (Wv RR) 0 (fun _=>False) Vh 0 67 _ [_,_,.obj (.row false 62 2 (List.set (n.sizes.map (enc:Lin->PV)) (0+Int.toNat (i:Int)) (.agg [.int .i64 n.sizes[i].k,.sl 2 false (n.sizes[i].t.map enc)])))]
   rw[e3,next (by omega)]
   exact ih (i+1) (by omega)
abbrev OG(n:Nd)(ks:List Tm):St:=XF 67 [.pv (.agg [enc n.kind,enc n.line,enc n.name,enc n.num,enc n.elem,enc n.dims,enc n.data,enc n.sizes,enc n.ranks,enc ks])] []
theorem d5y{RR:Nat->St->Prop}{n:Nd}{ks:List Tm}(hw:tW (.mk n ks)=true)(hs:n.sizes≠[])(hne:ks≠[])(hR : ∀ S,cpR n ks 0 S->RR 0 S):Zx Qk (Wv RR) 0 (fun _=>False) (.inl XN) [] (OG n ks):=by
 have hb:=Ol hw
 have hk:=(Yh hw).1
 have h1:=hb.dims;have h2:=hb.data;have h3:=hb.ranks;have hsz:=hb.sizes
 refine d1k (G:=fun _=>False) RR n ks ⟨Ze (n.dims,()) rfl (decide_eq_true (show n.dims.length<=2000000 by omega)),Zg (n.dims,()) rfl ⟨Ze (n.data,()) rfl (decide_eq_true (show n.data.length<=2000000 by omega)),Zg (n.data,()) rfl
  ⟨Ze (n.ranks,()) rfl (decide_eq_true (show n.ranks.length<=2000000 by omega)),Zg (n.ranks,()) rfl ⟨RX hs (by omega),b0k hne (by omega) (by omega) (fun l hl=>by have:=hb.lens l hl;omega) (List.length_map _) hR n.sizes.length 0 (by omega)⟩⟩⟩⟩
theorem d3c{RR:Nat->St->Prop}{n:Nd}{ks:List Tm}(hw:tW (.mk n ks)=true)(hs:n.sizes≠[])(hz:ks=[])(hR : ∀ S,cpR n ks 0 S->RR 0 S):Zx U2 (Wv RR) 0 (fun _=>False) (.inl Vh) [] (OG n ks):=by
 have hb:=Ol hw
 have hk:=(Yh hw).1
 have h1:=hb.dims;have h2:=hb.data;have h3:=hb.ranks;have hsz:=hb.sizes
 subst hz
 refine d1l (G:=fun _=>False) RR n [] ⟨Ze (n.dims,()) rfl (decide_eq_true (show n.dims.length<=2000000 by omega)),Zg (n.dims,()) rfl ⟨Ze (n.data,()) rfl (decide_eq_true (show n.data.length<=2000000 by omega)),Zg (n.data,()) rfl
  ⟨Ze (n.ranks,()) rfl (decide_eq_true (show n.ranks.length<=2000000 by omega)),Zg (n.ranks,()) rfl ⟨RX hs (by omega),b0t (by omega) (fun l hl=>by have:=hb.lens l hl;omega) (List.length_map _) hR n.sizes.length 0 (by omega)⟩⟩⟩⟩
theorem d4g{RR:Nat->St->Prop}{n:Nd}{ks:List Tm}(hw:tW (.mk n ks)=true)(hs:n.sizes=[])(hne:ks≠[])(hR : ∀ S,cpR n ks 0 S->RR 0 S):Zx GA (Wv RR) 0 (fun _=>False) (.inl Kj) [] (OG n ks):=by
 have hb:=Ol hw
 have hk:=(Yh hw).1
 have h1:=hb.dims;have h2:=hb.data;have h3:=hb.ranks;have hsz:=hb.sizes
 refine c6n (G:=fun _=>False) RR n ks ⟨Ze (n.dims,()) rfl (decide_eq_true (show n.dims.length<=2000000 by omega)),Zg (n.dims,()) rfl ⟨Ze (n.data,()) rfl (decide_eq_true (show n.data.length<=2000000 by omega)),Zg (n.data,()) rfl
  ⟨Ze (n.ranks,()) rfl (decide_eq_true (show n.ranks.length<=2000000 by omega)),Zg (n.ranks,()) rfl ⟨Ze (n.sizes,()) rfl (by rw[hs];rfl),Zg (n.sizes,()) rfl (a0c (G:=fun _=>False) RR n ks (List.length (List.map (enc:Lin->PV) n.sizes)) 0 (XV (by rw[hs];decide) ⟨RX hne (by omega),hR _ ⟨rfl,rfl,_,_,false,_,rfl,.inl ⟨rfl,rfl⟩,.inr ⟨hne,by simp,rfl⟩⟩⟩))⟩⟩⟩⟩
theorem d3o{RR:Nat->St->Prop}{n:Nd}{ks:List Tm}(hw:tW (.mk n ks)=true)(hs:n.sizes=[])(hz:ks=[])(hR : ∀ S,cpR n ks 0 S->RR 0 S):Zx Gb (Wv RR) 0 (fun _=>False) (.inl QU) [] (OG n ks):=by
 have hb:=Ol hw
 have hk:=(Yh hw).1
 have h1:=hb.dims;have h2:=hb.data;have h3:=hb.ranks;have hsz:=hb.sizes
 subst hz
 refine c8w (G:=fun _=>False) RR n [] ⟨Ze (n.dims,()) rfl (decide_eq_true (show n.dims.length<=2000000 by omega)),Zg (n.dims,()) rfl ⟨Ze (n.data,()) rfl (decide_eq_true (show n.data.length<=2000000 by omega)),Zg (n.data,()) rfl
  ⟨Ze (n.ranks,()) rfl (decide_eq_true (show n.ranks.length<=2000000 by omega)),Zg (n.ranks,()) rfl ⟨Ze (n.sizes,()) rfl (by rw[hs];rfl),Zg (n.sizes,()) rfl (a0r (G:=fun _=>False) RR n [] (List.length (List.map (enc:Lin->PV) n.sizes)) 0 (XV (by rw[hs];decide) ⟨Ze (([]:List Tm),()) rfl rfl,Zg (([]:List Tm),()) rfl (hR _ ⟨rfl,rfl,_,_,false,_,rfl,.inl ⟨rfl,rfl⟩,.inl ⟨rfl,rfl⟩⟩)⟩))⟩⟩⟩⟩
end Go.Pl
namespace Go.Pl
open Go.RowKit
open Enc (enc dec is)
open EncL (encL decL isL)
set_option maxRecDepth 100000
def Fw:IC:=(WK [Zz 1 (.box 10 (.t 0)) 0,Zz 2 (.alloc (.agg [(.int .i64 0),(.int .i64 0),(.str []),(.int .i64 0),(.str []),(.sl 0 true []),(.sl 0 true []),(.sl 0 true []),(.sl 0 true []),(.sl 0 true [])])) 1] (WK [Zz 6 (.load true [(.int .i64),(.int .i64),.str,(.int .i64),.str,(.sl 1),(.sl 1),(.sl 2),(.sl 1),(.sl 10)] (.t 1)) 0,Zz 7 (c'' 20 [(.t 6)]) 0,Zz 3 (.alloc (.sl 0 true [])) 2,Dv (.store 1 (.t 3) (.t 7)) 3] (WK [Zz 4 (.alloc (.int .i64 0)) 0,Dv (.store 1 (.t 4) (Uu 0)) 1] (WK [Zz 8 (.mkfn 67 [] [(.t 4),(.t 3)]) 0,Zz 5 (X5 8) 0] (.ext 0 [1,9,5,10,11,12,2,13])))))
def b5l:ZC:=YI [(20,.pure (preT (fun x:Tm×Unit=>tW x.1)) (Zj (fun x:Tm×Unit=>Wi x.1)))]
theorem d5t{G:Zm->Prop}(RR:Nat->St->Prop)(n:Nd)(ks:List Tm)(h:(Go.Pl.preT (fun(x:Tm×Unit)=>tW x.1) (MW n ks))=true∧(∃ y0:List Str,AV.pv (Zj (fun(x:Tm×Unit)=>Wi x.1) (MW n ks))=AV.pv (enc y0)∧((Wv RR) 0 ⟨ZL 14 0 [(1,(.ptr 0 0)),(2,(.ptr 1 0)),(5,(.fn 67 [] [(.ptr 2 0),(.ptr 3 0)])),(9,.undef),(10,.undef),(11,.undef),(12,.undef),(13,.undef)],[(.obj (.box (ZW n ks))),(.obj (.box [(.pv (.int .i64 0)),(.pv (.int .i64 0)),(.pv (.str [])),(.pv (.int .i64 0)),(.pv (.str [])),(.pv (.sl 0 true [])),(.pv (.sl 0 true [])),(.pv (.sl 0 true [])),(.pv (.sl 0 true [])),(.pv (.sl 0 true []))])),(.obj (.box [(.pv (.int .i64 0))])),(.obj (.box [(.pv (.sl 1 false (List.map enc y0)))]))]⟩ (fun x S'=>Qs b5l (Wv RR) 0 (fun st=>G st.heap) Fw 0 x S')))):Zx b5l (Wv RR) 0 (fun st=>G st.heap) (.inl Fw) [] (XF 14 [.pv (.agg [enc n.kind,enc n.line,enc n.name,enc n.num,enc n.elem,enc n.dims,enc n.data,enc n.sizes,enc n.ranks,enc ks])] []):=Zx.mh (.req (.abs (List Str) (fun YY=>AV.pv (enc YY)) (.nil))) h
end Go.Pl
namespace Go.Pl
open Go.RowKit
open Enc (enc dec is)
open EncL (encL decL isL)
set_option maxRecDepth 100000
noncomputable def GG:IC:=Wn Proofs.Tryz.f38
def GX:List IRes:=[(.cell true 10 4),(.tmp 5)]
abbrev d0o:Nat:=32
noncomputable def Sl:ZC:=YI [(71,.pure (preT (fun x:Tm×Unit=>tW x.1)) (Zj (fun x:Tm×Unit=>VV x.1)))]
theorem d4n{G:PV->Prop}(n:Nd)(ks:List Tm)(p:List Int)(h:At Sl 0 (Zb GX G) GG 0 32 [(2,(.ptr 0 0)),(4,(.ptr 1 0)),(8,(.pv (.sl 1 false (List.map enc p)))),(9,(.pv (.int .i64 (↑(List.length (List.map enc p)):Int)))),(10,(.pv (.int .i64 0)))] [(.obj (.box (ZW n ks))),(.obj (.box [(.pv (.int .i64 0)),(.pv (.int .i64 0)),(.pv (.str [])),(.pv (.int .i64 0)),(.pv (.str [])),(.pv (.sl 0 true [])),(.pv (.sl 0 true [])),(.pv (.sl 0 true [])),(.pv (.sl 0 true [])),(.pv (.sl 0 true []))]))]):Zd Sl 0 (Zb GX G) GG [] (Z9 32 [.agg [enc n.kind,enc n.line,enc n.name,enc n.num,enc n.elem,enc n.dims,enc n.data,enc n.sizes,enc n.ranks,enc ks],enc p]):=Zd.tp (.nil) h
theorem b1s{G:PV->Prop}(n:Nd)(ks:List Tm)(p:List Int)(i:Int)(h:if (decide (i<(↑(List.length (List.map enc p)):Int)))=true then(decide (0<=i)&&decide (Int.toNat i<List.length (List.map enc p))&&Enc.sz Int==1)=true∧(∃ y0:Int,AV.pv (PV.rptr (PV.cells (List.getD (List.map enc p) (Int.toNat i) default)))=AV.pv (PV.rptr (PV.cells ((enc) y0)))∧(if (decide (PV.asInt (List.getD (PV.cells (enc y0)) 0 default)<0))=true then G ((.tup [(.agg [(.int .i64 0),(.int .i64 0),(.str []),(.int .i64 0),(.str []),(.sl 0 true []),(.sl 0 true []),(.sl 0 true []),(.sl 0 true []),(.sl 0 true [])]),(.bool false)]))else(if (decide (PV.asInt (List.getD (PV.cells (enc y0)) 0 default) ≥ (↑(List.length (List.map enc ks)):Int)))=true then G ((.tup [(.agg [(.int .i64 0),(.int .i64 0),(.str []),(.int .i64 0),(.str []),(.sl 0 true []),(.sl 0 true []),(.sl 0 true []),(.sl 0 true []),(.sl 0 true [])]),(.bool false)]))else((decide (0<=PV.asInt (List.getD (PV.cells (enc y0)) 0 default))&&decide (Int.toNat (PV.asInt (List.getD (PV.cells (enc y0)) 0 default))<List.length (List.map enc ks))&&Enc.sz Tm==10)=true∧(∃ y1:Tm,AV.pv (PV.rptr (PV.cells (List.getD (List.map enc ks) (Int.toNat (PV.asInt (List.getD (PV.cells (enc y0)) 0 default))) default)))=AV.pv (PV.rptr (PV.cells ((enc) y1)))∧(Ff y1=true∧(At Sl 0 (Zb GX G) GG 0 32 [(2,(.ptr 0 0)),(4,(.ptr 1 0)),(8,(.pv (.sl 1 false (List.map enc p)))),(9,(.pv (.int .i64 (↑(List.length (List.map enc p)):Int)))),(10,(.pv (.int .i64 (IntKind.wrap IntKind.i64 (i+1)))))] [(.obj (.box (bxT y1))),(.obj (.box [(.pv (.int .i64 0)),(.pv (.int .i64 0)),(.pv (.str [])),(.pv (.int .i64 0)),(.pv (.str [])),(.pv (.sl 0 true [])),(.pv (.sl 0 true [])),(.pv (.sl 0 true [])),(.pv (.sl 0 true [])),(.pv (.sl 0 true []))]))])))))))else((Go.Pl.preT (fun(x:Tm×Unit)=>tW x.1) (MW n ks))=true∧(∃ y2:TS,AV.pv (Zj (fun(x:Tm×Unit)=>VV x.1) (MW n ks))=AV.pv (enc y2)∧(G ((.tup [(.agg [(.int .i64 (Nd.kind (TS.n y2))),(.int .i64 (Nd.line (TS.n y2))),(.str (Str.s (Nd.name (TS.n y2)))),(.int .i64 (Nd.num (TS.n y2))),(.str (Str.s (Nd.elem (TS.n y2)))),(.sl 1 false (List.map enc (Nd.dims (TS.n y2)))),(.sl 1 false (List.map enc (Nd.data (TS.n y2)))),(.sl 2 false (List.map enc (Nd.sizes (TS.n y2)))),(.sl 1 false (List.map enc (Nd.ranks (TS.n y2)))),(.sl 10 false (List.map enc (TS.k y2)))]),(.bool true)])))))):At Sl 0 (Zb GX G) GG 0 32 [(2,.ptr 0 0),(4,.ptr 1 0),(8,.pv (enc p)),(9,.pv (.int .i64 (p.map (enc:Int->PV)).length)),(10,.pv (.int .i64 i))] [.obj (.box [.pv (enc n.kind),.pv (enc n.line),.pv (enc n.name),.pv (enc n.num),.pv (enc n.elem),.pv (enc n.dims),.pv (enc n.data),.pv (enc n.sizes),.pv (enc n.ranks),.pv (enc ks)]),.obj (.box [.pv (.int .i64 0),.pv (.int .i64 0),.pv (.str []),.pv (.int .i64 0),.pv (.str []),.pv (.sl 0 true []),.pv (.sl 0 true []),.pv (.sl 0 true []),.pv (.sl 0 true []),.pv (.sl 0 true [])])]:=At.tp (dm [dr Int,dr Tm,dv TS] 40 0x71021610001422222202222220074225101f42) h
end Go.Pl
namespace Go.Pl
open Go.RowKit
open Enc (enc dec is)
open EncL (encL decL isL)
theorem b0y(p:List Int)(hp:p.length<=1048576)(R:Tm×Bool): ∀ (d i:Nat) (n:Nd) (ks:List Tm),d+i=p.length->tW (.mk n ks)=true->R=Xo (ZH (.mk n ks) (p.drop i)) ->
  At Sl 0 (Zb GX (Zo R)) GG 0 32 [(2,.ptr 0 0),(4,.ptr 1 0),(8,.pv (enc p)),(9,.pv (.int .i64 (p.map (enc:Int->PV)).length)),(10,.pv (.int .i64 i))] [.obj (.box (ZW n ks)),.obj (.box [.pv (.int .i64 0),.pv (.int .i64 0),.pv (.str []),.pv (.int .i64 0),.pv (.str []),.pv (.sl 0 true []),.pv (.sl 0 true []),.pv (.sl 0 true []),.pv (.sl 0 true []),.pv (.sl 0 true [])])]:=by
 intro d
 induction d with
 | zero=>
  intro i n ks hi hw hR
  rw[List.drop_eq_nil_of_le (by omega),ZH]at hR
  refine b1s n ks p i (XV (Va (by omega)) ⟨Ze (Tm.mk n ks,()) (Xm n ks) hw,Zg (Tm.mk n ks,()) (Xm n ks) ?_⟩)
  rw[hR]
  exact Ll (VV (.mk n ks))
 | succ d ih=>
  intro i n ks hi hw hR
  have h1:i<p.length:=by omega
  rw[List.drop_eq_getElem_cons h1,ZH]at hR
  refine b1s n ks p i (Y7 (WN h1) ⟨ZJ h1 rfl,Z4 h1 (Xf (fun k=> ?_) fun k=>Xf (fun k2=> ?_) fun k2=> ?_)⟩)
  ·have k:p[i]<0:=k
   rw[hR,if_neg (by omega)]
   exact Bg
  ·have k : ¬ p[i]<0:=k
   rw[List.length_map]at k2
   have k2:p[i] ≥ (ks.length:Int):=k2
   rw[hR,if_pos (by omega),Tm.ks,List.getElem?_eq_none (by omega)]
   exact Bg
  ·have k : ¬ p[i]<0:=k
   rw[List.length_map]at k2
   have k2 : ¬ p[i] ≥ (ks.length:Int):=k2
   obtain⟨j,hj⟩ : ∃ j:Nat,p[i]=j:=⟨p[i].toNat,by omega⟩
   have hjl:j<ks.length:=by omega
   rw[if_pos (by omega),Tm.ks,hj,Int.toNat_natCast,List.getElem?_eq_getElem hjl]at hR
   show(decide (0<=p[i])&&decide (Int.toNat p[i]<List.length (List.map (enc:Tm->PV) ks))&&Enc.sz Tm==10)=true∧_
   rw[show PV.asInt (List.getD (PV.cells (enc p[i])) 0 default)=(j:Int)from hj,hj]
   refine⟨ZJ hjl rfl,Z4 hjl ⟨Wm _,?_⟩⟩
   rw[next (by omega)]
   have hk:=(Yh hw).2 _ (List.getElem_mem hjl)
   cases he:ks[j]with
   | mk m ls=>
    rw[a9m]
    rw[he]at hR hk
    exact ih (i+1) m ls (by omega) hk hR
theorem c3e: ∀ x:Tm×List Int×Unit,(tW x.1&&decide (x.2.1.length<=1048576))=true->Zd Sl 0 (Zb GX (Zo (Xo (ZH x.1 x.2.1)))) GG [] (Z9 d0o (encL x)):=by
 rintro⟨⟨n,ks⟩,p,⟨⟩⟩ h
 simp only[Bool.and_eq_true,decide_eq_true_eq]at h
 rw[P6]
 exact d4n n ks p (b0y p h.2 _ p.length 0 n ks (by omega) h.1 rfl)
end Go.Pl
namespace Go.Pl
open Go.RowKit
open Enc (enc dec is)
open EncL (encL decL isL)
set_option maxRecDepth 100000
def Pf:IC:=(WK [Zz 3 (.box 10 (.t 0)) 0,Zz 5 (.box 10 (.t 2)) 1,Zz 6 (.alloc (.agg [(.int .i64 0),(.int .i64 0),(.str []),(.int .i64 0),(.str []),(.sl 0 true []),(.sl 0 true []),(.sl 0 true []),(.sl 0 true []),(.sl 0 true [])])) 2,Zz 7 (.mv (Uu 0)) 3] (.seq (WK [Zz 15 (.load true [(.int .i64),(.int .i64),.str,(.int .i64),.str,(.sl 1),(.sl 1),(.sl 2),(.sl 1),(.sl 10)] (.t 3)) 0,Zz 16 (X5 1) 0,Zz 17 (c'' 38 [(.t 15),(.t 16)]) 0,Zz 14 (X5 17) 2,Zz 18 (.extract (.t 14) 0) 2,Zz 19 (.extract (.t 14) 1) 2,Zz 8 (.alloc (.agg [(.int .i64 0),(.int .i64 0),(.str []),(.int .i64 0),(.str []),(.sl 0 true []),(.sl 0 true []),(.sl 0 true []),(.sl 0 true []),(.sl 0 true [])])) 2,Dv (.store 10 (.t 8) (.t 18)) 3,Zz 9 (X5 19) 3] (WK [Zz 20 (X5 9) 0,Zz 21 (.un .not (.t 20)) 0] (.cond (.t 21) (WK [Zz 22 (.build [(.int .i64 0),(.int .i64 0),(.str []),(.int .i64 0),(.str []),(.sl 0 true []),(.sl 0 true []),(.sl 0 true []),(.sl 0 true []),(.sl 0 true [])] []) 0,Dv (.store 10 (.t 6) (.t 22)) 0,Zz 7 (.mv (Uu 9)) 0] .ret) .skip))) (.ext 0 [3,23,10,24,1,25,27,26,28,29,30,11,31,32,33,13,34,35,36,37,5,39,38,41,40,6,42])))
def O7:List IRes:=[(.cell true 10 6),(.tmp 7)]
noncomputable def b5e:ZC:=YI [(38,.pure (preT (fun x:Tm×List Int×Unit=>tW x.1&&decide (x.2.1.length<=1048576))) (Zj (fun x:Tm×List Int×Unit=>(VV (Xo (ZH x.1 x.2.1)).1,(Xo (ZH x.1 x.2.1)).2))))]
theorem d3k{G:PV->Prop}(E:YT)(n:Nd)(ks:List Tm)(p:List Int)(m:Nd)(ls:List Tm)(h:(Go.Pl.preT (fun(x:Tm×List Int×Unit)=>tW x.1&&decide (List.length x.2.1<=1048576)) [(.agg [(.int .i64 (Nd.kind n)),(.int .i64 (Nd.line n)),(.str (Str.s (Nd.name n))),(.int .i64 (Nd.num n)),(.str (Str.s (Nd.elem n))),(.sl 1 false (List.map enc (Nd.dims n))),(.sl 1 false (List.map enc (Nd.data n))),(.sl 2 false (List.map enc (Nd.sizes n))),(.sl 1 false (List.map enc (Nd.ranks n))),(.sl 10 false (List.map enc ks))]),(.sl 1 false (List.map enc p))])=true∧(∃ y0:TS×Bool,AV.pv (Zj (fun(x:Tm×List Int×Unit)=>(VV (Prod.fst (Xo (ZH x.1 x.2.1))),Prod.snd (Xo (ZH x.1 x.2.1)))) [(.agg [(.int .i64 (Nd.kind n)),(.int .i64 (Nd.line n)),(.str (Str.s (Nd.name n))),(.int .i64 (Nd.num n)),(.str (Str.s (Nd.elem n))),(.sl 1 false (List.map enc (Nd.dims n))),(.sl 1 false (List.map enc (Nd.data n))),(.sl 2 false (List.map enc (Nd.sizes n))),(.sl 1 false (List.map enc (Nd.ranks n))),(.sl 10 false (List.map enc ks))]),(.sl 1 false (List.map enc p))])=AV.pv (enc y0)∧(if (!Prod.snd y0)=true then G ((.tup [(.agg [(.int .i64 0),(.int .i64 0),(.str []),(.int .i64 0),(.str []),(.sl 0 true []),(.sl 0 true []),(.sl 0 true []),(.sl 0 true []),(.sl 0 true [])]),(.int .i64 9)]))else(E 0 ⟨ZL 43 0 [(1,(.pv (.sl 1 false (List.map enc p)))),(3,(.ptr 0 0)),(5,(.ptr 1 0)),(6,(.ptr 2 0)),(10,.undef),(11,.undef),(13,.undef),(23,.undef),(24,.undef),(25,.undef),(26,.undef),(27,.undef),(28,.undef),(29,.undef),(30,.undef),(31,.undef),(32,.undef),(33,.undef),(34,.undef),(35,.undef),(36,.undef),(37,.undef),(38,.undef),(39,.undef),(40,.undef),(41,.undef),(42,.undef)],[(.obj (.box (ZW n ks))),(.obj (.box (ZW m ls))),(.obj (.box [(.pv (.int .i64 0)),(.pv (.int .i64 0)),(.pv (.str [])),(.pv (.int .i64 0)),(.pv (.str [])),(.pv (.sl 0 true [])),(.pv (.sl 0 true [])),(.pv (.sl 0 true [])),(.pv (.sl 0 true [])),(.pv (.sl 0 true []))]))]⟩ (fun x S'=>Qs b5e E 0 (Zb O7 G) Pf 0 x S'))))):Zx b5e E 0 (Zb O7 G) (.inl Pf) [] (Z9 43 [.agg [enc n.kind,enc n.line,enc n.name,enc n.num,enc n.elem,enc n.dims,enc n.data,enc n.sizes,enc n.ranks,enc ks],enc p,.agg [enc m.kind,enc m.line,enc m.name,enc m.num,enc m.elem,enc m.dims,enc m.data,enc m.sizes,enc m.ranks,enc ls]]):=Zx.mp (dm [dv (TS×Bool)] 9 0x1451) h
def Ou:IC:=Pf
noncomputable def a7s:ZC:=YI [(38,.pure (preT (fun x:Tm×List Int×Unit=>tW x.1&&decide (x.2.1.length<=1048576))) (Zj (fun x:Tm×List Int×Unit=>(VV (Xo (ZH x.1 x.2.1)).1,(Xo (ZH x.1 x.2.1)).2))))]
theorem d1s{G:Zm->Prop}(RR:Nat->St->Prop)(n:Nd)(ks:List Tm)(p:List Int)(m:Nd)(ls:List Tm)(h:(Go.Pl.preT (fun(x:Tm×List Int×Unit)=>tW x.1&&decide (List.length x.2.1<=1048576)) [(.agg [(.int .i64 (Nd.kind n)),(.int .i64 (Nd.line n)),(.str (Str.s (Nd.name n))),(.int .i64 (Nd.num n)),(.str (Str.s (Nd.elem n))),(.sl 1 false (List.map enc (Nd.dims n))),(.sl 1 false (List.map enc (Nd.data n))),(.sl 2 false (List.map enc (Nd.sizes n))),(.sl 1 false (List.map enc (Nd.ranks n))),(.sl 10 false (List.map enc ks))]),(.sl 1 false (List.map enc p))])=true∧(∃ y0:TS×Bool,AV.pv (Zj (fun(x:Tm×List Int×Unit)=>(VV (Prod.fst (Xo (ZH x.1 x.2.1))),Prod.snd (Xo (ZH x.1 x.2.1)))) [(.agg [(.int .i64 (Nd.kind n)),(.int .i64 (Nd.line n)),(.str (Str.s (Nd.name n))),(.int .i64 (Nd.num n)),(.str (Str.s (Nd.elem n))),(.sl 1 false (List.map enc (Nd.dims n))),(.sl 1 false (List.map enc (Nd.data n))),(.sl 2 false (List.map enc (Nd.sizes n))),(.sl 1 false (List.map enc (Nd.ranks n))),(.sl 10 false (List.map enc ks))]),(.sl 1 false (List.map enc p))])=AV.pv (enc y0)∧(if (!Prod.snd y0)=true then G ([(.obj (.box (ZW n ks))),(.obj (.box (ZW m ls))),(.obj (.box [(.pv (.int .i64 0)),(.pv (.int .i64 0)),(.pv (.str [])),(.pv (.int .i64 0)),(.pv (.str [])),(.pv (.sl 0 true [])),(.pv (.sl 0 true [])),(.pv (.sl 0 true [])),(.pv (.sl 0 true [])),(.pv (.sl 0 true []))])),.fresh,.fresh,(.obj (.box [(.pv (.int .i64 (Nd.kind (TS.n y0.1)))),(.pv (.int .i64 (Nd.line (TS.n y0.1)))),(.pv (.str (Str.s (Nd.name (TS.n y0.1))))),(.pv (.int .i64 (Nd.num (TS.n y0.1)))),(.pv (.str (Str.s (Nd.elem (TS.n y0.1))))),(.pv (.sl 1 false (List.map enc (Nd.dims (TS.n y0.1))))),(.pv (.sl 1 false (List.map enc (Nd.data (TS.n y0.1))))),(.pv (.sl 2 false (List.map enc (Nd.sizes (TS.n y0.1))))),(.pv (.sl 1 false (List.map enc (Nd.ranks (TS.n y0.1))))),(.pv (.sl 10 false (List.map enc (TS.k y0.1))))]))])else((Wv RR) 0 ⟨ZL 43 0 [(1,(.pv (.sl 1 false (List.map enc p)))),(3,(.ptr 0 0)),(5,(.ptr 1 0)),(6,(.ptr 2 0)),(10,.undef),(11,.undef),(13,.undef),(23,.undef),(24,.undef),(25,.undef),(26,.undef),(27,.undef),(28,.undef),(29,.undef),(30,.undef),(31,.undef),(32,.undef),(33,.undef),(34,.undef),(35,.undef),(36,.undef),(37,.undef),(38,.undef),(39,.undef),(40,.undef),(41,.undef),(42,.undef)],[(.obj (.box (ZW n ks))),(.obj (.box (ZW m ls))),(.obj (.box [(.pv (.int .i64 0)),(.pv (.int .i64 0)),(.pv (.str [])),(.pv (.int .i64 0)),(.pv (.str [])),(.pv (.sl 0 true [])),(.pv (.sl 0 true [])),(.pv (.sl 0 true [])),(.pv (.sl 0 true [])),(.pv (.sl 0 true []))]))]⟩ (fun x S'=>Qs a7s (Wv RR) 0 (fun st=>G st.heap) Ou 0 x S'))))):Zx a7s (Wv RR) 0 (fun st=>G st.heap) (.inl Ou) [] (XF 43 [.pv (.agg [enc n.kind,enc n.line,enc n.name,enc n.num,enc n.elem,enc n.dims,enc n.data,enc n.sizes,enc n.ranks,enc ks]),.pv (enc p),.pv (.agg [enc m.kind,enc m.line,enc m.name,enc m.num,enc m.elem,enc m.dims,enc m.data,enc m.sizes,enc m.ranks,enc ls])] []):=Zx.mh (dm [dv (TS×Bool)] 9 0x1451) h
end Go.Pl
namespace Go.Pl
open Go.RowKit
open Enc (enc dec is)
open EncL (encL decL isL)
set_option maxRecDepth 100000
noncomputable def Oj:IC:=Wn Proofs.Tryz.f49
def OW:List IRes:=[(.cell true 10 6),(.tmp 7)]
abbrev c8k:Nat:=53
noncomputable def b0g(N:Nat):ZC:=YI [(48,.pure (preT (fun x:Tm×List Int×Unit=>tW x.1&&decide (x.2.1.length<=1048576))) (Zj (fun x:Tm×List Int×Unit=>VP (ZH x.1 x.2.1)))),(49,.pure (preT (fun x:Tm×List Int×Tm×Unit=>((tW x.1&&decide (x.2.1.length<=1048576))&&tW x.2.2.1)&&decide (x.2.1.length<N))) (Zj (fun x:Tm×List Int×Tm×Unit=>Uq x.1 x.2.1 x.2.2.1)))]
theorem d5m{G:PV->Prop}(N:Nat)(n:Nd)(ks:List Tm)(p:List Int)(m:Nd)(ls:List Tm)(h:(Go.Pl.preT (fun(x:Tm×List Int×Unit)=>tW x.1&&decide (List.length x.2.1<=1048576)) [(ndC n ks),(.sl 1 false (List.map enc p))])=true∧(∃ y0:TS×Bool,AV.pv (Zj (fun(x:Tm×List Int×Unit)=>VP (ZH x.1 x.2.1)) [(ndC n ks),(.sl 1 false (List.map enc p))])=AV.pv (enc y0)∧(if (!Prod.snd y0)=true then G ((.tup [(.agg [(.int .i64 0),(.int .i64 0),(.str []),(.int .i64 0),(.str []),(.sl 0 true []),(.sl 0 true []),(.sl 0 true []),(.sl 0 true []),(.sl 0 true [])]),(.int .i64 9)]))else(if ((↑(List.length (List.map enc p)):Int)==0)=true then G ((.tup [(ndC m ls),(.int .i64 0)]))else((decide (0<=0)&&decide (Int.toNat 0<List.length (List.map enc p))&&Enc.sz Int==1)=true∧(∃ y1:Int,AV.pv (PV.rptr (PV.cells (List.getD (List.map enc p) (Int.toNat 0) default)))=AV.pv (PV.rptr (PV.cells ((enc) y1)))∧((decide (0<=PV.asInt (List.getD (PV.cells (enc y1)) 0 default))&&decide (Int.toNat (PV.asInt (List.getD (PV.cells (enc y1)) 0 default))<List.length (List.map enc ks))&&Enc.sz Tm==10)=true∧(∃ y2:Tm,AV.pv (PV.rptr (PV.cells (List.getD (List.map enc ks) (Int.toNat (PV.asInt (List.getD (PV.cells (enc y1)) 0 default))) default)))=AV.pv (PV.rptr (PV.cells ((enc) y2)))∧(Ff y2=true∧((decide (0<=1)&&true&&(List.isEmpty (List.map enc p)||Enc.sz Int==1)&&decide (Int.toNat 1<=List.length (List.map enc p))&&decide (List.length (List.map enc p)<=List.length (List.map enc p)))=true∧((Go.Pl.preT (fun(x:Tm×List Int×Tm×Unit)=>tW x.1&&decide (List.length x.2.1<=1048576)&&tW x.2.2.1&&decide (List.length x.2.1<N)) [Ap y2,(.sl 1 false (List.drop (Int.toNat 1) (List.take (List.length (List.map enc p)) (List.map enc p)))),(ndC m ls)])=true∧(∃ y3:TS×Int,AV.pv (Zj (fun(x:Tm×List Int×Tm×Unit)=>Uq x.1 x.2.1 x.2.2.1) [Ap y2,(.sl 1 false (List.drop (Int.toNat 1) (List.take (List.length (List.map enc p)) (List.map enc p)))),(ndC m ls)])=AV.pv (enc y3)∧((List.isEmpty (List.map enc ks)||Enc.sz Tm==10)=true∧((List.length ([]:List PV)==0&&0==0&&decide ((0+List.length (List.map enc ks))*176<=1099511627776)&&decide (0+List.length (List.map enc ks)<=1099511627776))=true∧((decide (0<=0)&&decide (Int.toNat 0<List.length (List.map enc p))&&Enc.sz Int==1)=true∧(∃ y4:Int,AV.pv (PV.rptr (PV.cells (List.getD (List.map enc p) (Int.toNat 0) default)))=AV.pv (PV.rptr (PV.cells ((enc) y4)))∧((decide (0<=PV.asInt (List.getD (PV.cells (enc y4)) 0 default))&&decide (0+Int.toNat (PV.asInt (List.getD (PV.cells (enc y4)) 0 default))<0+List.length (List.map enc ks))&&List.length (([]:List PV)++List.map enc ks)==0+List.length (List.map enc ks))=true∧((List.length (([]:List PV)++List.map enc ks)==0+List.length (List.map enc ks)&&decide (0+Int.toNat (PV.asInt (List.getD (PV.cells (enc y4)) 0 default))<List.length (([]:List PV)++List.map enc ks))&&List.length (PV.cells (eS y3.1))==10&&decide (0+10<=List.length (PV.cells (List.getD (([]:List PV)++List.map enc ks) (0+Int.toNat (PV.asInt (List.getD (PV.cells (enc y4)) 0 default))) default)))&&PV.cellsOk (eS y3.1))=true∧((List.length (List.set (([]:List PV)++List.map enc ks) (0+Int.toNat (PV.asInt (List.getD (PV.cells (enc y4)) 0 default))) (PV.withCells (List.getD (([]:List PV)++List.map enc ks) (0+Int.toNat (PV.asInt (List.getD (PV.cells (enc y4)) 0 default))) default) (splice (PV.cells (List.getD (([]:List PV)++List.map enc ks) (0+Int.toNat (PV.asInt (List.getD (PV.cells (enc y4)) 0 default))) default)) 0 (PV.cells (eS y3.1)))))==0+List.length (List.map enc ks))=true∧(G ((.tup [(.agg [(.int .i64 (Nd.kind n)),(.int .i64 (Nd.line n)),(.str (Str.s (Nd.name n))),(.int .i64 (Nd.num n)),(.str (Str.s (Nd.elem n))),(.sl 1 false (List.map enc (Nd.dims n))),(.sl 1 false (List.map enc (Nd.data n))),(.sl 2 false (List.map enc (Nd.sizes n))),(.sl 1 false (List.map enc (Nd.ranks n))),(.sl 10 false (List.drop 0 (List.take (0+List.length (List.map enc ks)) (List.set (([]:List PV)++List.map enc ks) (0+Int.toNat (PV.asInt (List.getD (PV.cells (enc y4)) 0 default))) (PV.withCells (List.getD (([]:List PV)++List.map enc ks) (0+Int.toNat (PV.asInt (List.getD (PV.cells (enc y4)) 0 default))) default) (splice (PV.cells (List.getD (([]:List PV)++List.map enc ks) (0+Int.toNat (PV.asInt (List.getD (PV.cells (enc y4)) 0 default))) default)) 0 (PV.cells (eS y3.1))))))))]),(.int .i64 0)])))))))))))))))))))))):Zd (b0g N) 0 (Zb OW G) Oj [] (Z9 53 [.agg [enc n.kind,enc n.line,enc n.name,enc n.num,enc n.elem,enc n.dims,enc n.data,enc n.sizes,enc n.ranks,enc ks],enc p,.agg [enc m.kind,enc m.line,enc m.name,enc m.num,enc m.elem,enc m.dims,enc m.data,enc m.sizes,enc m.ranks,enc ls]]):=Zd.tp (dm [dv (TS×Bool),dr Int,dr Tm,dv (TS×Int)] 34 0x11312611128111712610001420001451) h
end Go.Pl
namespace Go.Pl
open Go.RowKit
open Enc (enc dec is)
open EncL (encL decL isL)
theorem c4e{t:Tm}{k:Int}{p:List Int}(h:(ZH t (k::p)).isSome=true): ∃ (j:Nat) (x:Tm),k=(j:Int)∧t.ks[j]? = some x∧(ZH x p).isSome=true∧ ∀ b,X7 t (k::p) b = .mk t.nd (t.ks.set j (X7 x p b)):=by
 rw[ZH]at h
 split at h
 ·rename_i hk
  split at h
  ·rename_i x hx
   refine⟨k.toNat,x,by omega,hx,h,fun b=> ?_⟩
   rw[X7,hx]
  ·cases h
 ·cases h
theorem b2r(x q:Tm):PV.withCells (enc x) (splice (PV.cells (enc x)) 0 (PV.cells (enc q)))=enc q:=by
 obtain⟨n,ks⟩:=x
 obtain⟨m,ls⟩:=q
 rw[Zq,Zq]
 rfl
theorem c5t(q:Tm):(PV.cells (enc q)).length=10∧PV.cellsOk (enc q)=true:=by
 obtain⟨m,ls⟩:=q
 rw[Zq]
 exact⟨rfl,rfl⟩
theorem Sj{β:Type}[Enc β](t:Tm)(b:β):Zo (t,b) (.tup [enc t,enc b]):=Ua (β:=Tm×β) rfl
theorem c1y(N:Nat): ∀ x:Tm×List Int×Tm×Unit,(((tW x.1&&decide (x.2.1.length<=1048576))&&tW x.2.2.1)&&decide (x.2.1.length<N+1))=true->Zd (b0g N) 0 (Zb OW (Zo (UQ x.1 x.2.1 x.2.2.1))) Oj [] (Z9 c8k (encL x)):=by
 rintro⟨⟨n,ks⟩,p,⟨m,ls⟩,⟨⟩⟩ hw
 simp only[Bool.and_eq_true,decide_eq_true_eq]at hw
 obtain⟨⟨⟨h1,h2⟩,h3⟩,h4⟩:=hw
 have h4:p.length<N+1:=h4
 have h2:p.length<=1048576:=h2
 rw[<- nd3]
 have hat:(tW (Tm.mk n ks)&&decide (p.length<=1048576))=true:=by rw[h1,decide_eq_true h2];rfl
 refine d5m N n ks p m ls ⟨Ze (Tm.mk n ks,p,()) (P6 n ks p).symm hat,Zg (Tm.mk n ks,p,()) (P6 n ks p).symm ?_⟩
 show if (!(Xo (ZH (.mk n ks) p)).2)=true then Zo (UQ (.mk n ks) p (.mk m ls)) _ else _
 cases hq:ZH (.mk n ks) p with
 | none=>
  refine Y7 rfl ?_
  rw[show UQ (.mk n ks) p (.mk m ls)=(tm0,9)from if_neg (by rw[hq];simp)]
  exact⟨rfl,rfl⟩
 | some y=>
  have hr:UQ (.mk n ks) p (.mk m ls)=(X7 (.mk n ks) p (.mk m ls),0):=if_pos (by rw[hq];rfl)
  refine XV (by simp[Xo]) ?_
  rw[hr]
  cases p with
  | nil=>
   refine Y7 rfl ?_
   rw[X7,XC]
   exact Sj _ (0:Int)
  | cons k p=>
   refine XV (by simp;omega) ?_
   obtain⟨j,x,rfl,hx,hpx,hput⟩:=c4e (by rw[hq];rfl)
   have hx:ks[j]? = some x:=hx
   have hj:j<ks.length:=(List.getElem?_eq_some_iff.1 hx).1
   have hxe:ks[j]=x:=(List.getElem?_eq_some_iff.1 hx).2
   have hxw:tW x=true:=(Yh h1).2 x (List.mem_of_getElem? hx)
   have hkl:=(Yh h1).1
   have hp0:0<((j:Int)::p).length:=by simp
   rw[hput]
   refine⟨ZJ (i:=0) hp0 rfl,Z4 (i:=0) hp0 ⟨ZJ hj rfl,Z4 hj ⟨Wm _,by simp,?_⟩⟩⟩
   rw[hxe]
   have e:([Ap x,(.sl 1 false (List.drop (Int.toNat 1) (List.take (List.length (List.map enc ((j:Int)::p))) (List.map enc ((j:Int)::p))))),(ndC m ls)]:List PV)=encL (x,p,Tm.mk m ls,()):=by
    rw[Cq,List.take_length,XC]
    rfl
   have hpre:(tW x&&decide (p.length<=1048576)&&tW (.mk m ls)&&decide (p.length<N))=true:=by
    rw[List.length_cons]at h2 h4
    have h3:tW (.mk m ls)=true:=h3
    rw[hxw,h3,decide_eq_true (show p.length<=1048576 by omega),decide_eq_true (show p.length<N by omega)]
    rfl
   refine⟨Ze (x,p,Tm.mk m ls,()) e hpre,Zg (x,p,Tm.mk m ls,()) e ?_⟩
   have er:(Uq (x,p,Tm.mk m ls,()).1 (x,p,Tm.mk m ls,()).2.1 (x,p,Tm.mk m ls,()).2.2.1).1=VV (X7 x p (.mk m ls)):=by
    show VV (UQ x p (.mk m ls)).1=_
    rw[show UQ x p (.mk m ls)=(X7 x p (.mk m ls),0)from if_pos hpx]
   rw[er,TF]
   generalize X7 x p (.mk m ls)=q
   have hg:(([]:List PV)++List.map enc ks).getD (0+j) default=enc x:=by
    rw[List.nil_append,Nat.zero_add,List.getD_eq_getElem?_getD,List.getElem?_map,hx];rfl
   obtain⟨c1,c2⟩:=c5t q
   obtain⟨d1,_⟩:=c5t x
   refine⟨by simp;right;rfl,?_,ZJ (i:=0) hp0 rfl,Z4 (i:=0) hp0 ?_⟩
   ·simp
    omega
   show(decide (0<=(j:Int))&&decide (0+Int.toNat (j:Int)<0+List.length (List.map (enc:Tm->PV) ks))&&List.length (([]:List PV)++List.map enc ks)==0+List.length (List.map (enc:Tm->PV) ks))=true∧_
   refine⟨by simp;omega,?_⟩
   show(List.length (([]:List PV)++List.map enc ks)==0+List.length (List.map (enc:Tm->PV) ks)&&decide (0+Int.toNat (j:Int)<List.length (([]:List PV)++List.map enc ks))&&List.length (PV.cells (enc q))==10&&decide (0+10<=List.length (PV.cells (List.getD (([]:List PV)++List.map enc ks) (0+Int.toNat (j:Int)) default)))&&PV.cellsOk (enc q))=true∧(List.length (List.set (([]:List PV)++List.map enc ks) (0+Int.toNat (j:Int)) (PV.withCells (List.getD (([]:List PV)++List.map enc ks) (0+Int.toNat (j:Int)) default) (splice (PV.cells (List.getD (([]:List PV)++List.map enc ks) (0+Int.toNat (j:Int)) default)) 0 (PV.cells (enc q)))))==0+List.length (List.map (enc:Tm->PV) ks))=true∧Zo (Tm.mk n (ks.set j q),(0:Int)) (.tup [.agg [(.int .i64 (Nd.kind n)),(.int .i64 (Nd.line n)),(.str (Str.s (Nd.name n))),(.int .i64 (Nd.num n)),(.str (Str.s (Nd.elem n))),(.sl 1 false (List.map enc (Nd.dims n))),(.sl 1 false (List.map enc (Nd.data n))),(.sl 2 false (List.map enc (Nd.sizes n))),(.sl 1 false (List.map enc (Nd.ranks n))),(.sl 10 false (List.drop 0 (List.take (0+List.length (List.map (enc:Tm->PV) ks)) (List.set (([]:List PV)++List.map enc ks) (0+Int.toNat (j:Int)) (PV.withCells (List.getD (([]:List PV)++List.map enc ks) (0+Int.toNat (j:Int)) default) (splice (PV.cells (List.getD (([]:List PV)++List.map enc ks) (0+Int.toNat (j:Int)) default)) 0 (PV.cells (enc q))))))))],.int .i64 0])
   rw[Int.toNat_natCast,hg,b2r,c1,c2,d1]
   refine⟨by simp;omega,by simp,?_⟩
   have e2:List.drop 0 (List.take (0+List.length (List.map (enc:Tm->PV) ks)) (List.set (([]:List PV)++List.map enc ks) (0+j) (enc q)))=(ks.set j q).map enc:=by
    rw[List.drop_zero,List.nil_append,Nat.zero_add,Nat.zero_add,List.map_set,List.take_of_length_le (by simp)]
   rw[e2]
   have e3:(PV.agg [(.int .i64 (Nd.kind n)),(.int .i64 (Nd.line n)),(.str (Str.s (Nd.name n))),(.int .i64 (Nd.num n)),(.str (Str.s (Nd.elem n))),(.sl 1 false (List.map enc (Nd.dims n))),(.sl 1 false (List.map enc (Nd.data n))),(.sl 2 false (List.map enc (Nd.sizes n))),(.sl 1 false (List.map enc (Nd.ranks n))),(.sl 10 false ((ks.set j q).map enc))])=enc (Tm.mk n (ks.set j q)):=by rw[Zq];rfl
   rw[e3]
   exact Sj _ (0:Int)
end Go.Pl
