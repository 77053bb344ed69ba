/-
  Texts of mine that belong together (packed by pack.py), for every input: QUb, QUc, QUg, GUh, QUh, GUj, GTv, QTg, VwU, QTv, QUj, VwL, TyLi, GUs, QUs, GTd, QTd, GWy, QWy, GVa, QVa, QCo, GL7, QL7, GL9, QL9, TyRa, GRa, QGc, TyZ0, TyCm, GUk, QUk, GUn, QUn, GUo, QUo, GUd, QUd, GUi, GUl, QUl, GUm, QUu, VwI, VwJ, VwY, GUt, QUy.
-/
import Derived.Test.YtgdebdgkofkeeaaGreatDoorChecked
import Derived.Test.YtgdebdgkofkeeaaGreatDoorProg
import Derived.Test.YtgdebdgkofkeeaaGreatDoorKS2
import Derived.Test.YtgdebdgkofkeeaaGreatDoorKS3
import Derived.KernelRfl
import Derived.Lib.ItoaLen
import Derived.Lib.ItoaNum
set_option linter.unusedVariables false
set_option linter.unusedSimpArgs false
namespace Go.Pl
open Go.RowKit
open Enc (enc dec is)
open EncL (encL decL isL)
theorem Fq{α:Type}[BEq α][LawfulBEq α]{x y:α}{P Q:Prop}(h1:x≠y->P)(h2:x=y->Q):if (x != y)=true then P else Q:=by by_cases h:x=y;rw[if_neg (by simpa using h)];exact h2 h;rw[if_pos (by simpa using h)];exact h1 h
theorem c8b{α:Type}[BEq α][LawfulBEq α]{x y:α}{P Q:Prop}(h1:x≠y->P)(h2:x=y->Q):if (!x==y)=true then P else Q:=by by_cases h:x=y;rw[if_neg (by simpa using h)];exact h2 h;rw[if_pos (by simpa using h)];exact h1 h
theorem Jv{α β:Type}[Enc α][Enc β]{a:List α}{b:List β}{P Q:Prop}(h1:a.length≠b.length->P)(h2:a.length=b.length->Q):if ((↑(List.length (List.map (enc:α->PV) a)):Int) != (↑(List.length (List.map (enc:β->PV) b)):Int))=true then P else Q:=
 Fq (fun h=>h1 fun e=>h (by rw[List.length_map,List.length_map,e])) fun h=>h2 (by rw[List.length_map,List.length_map]at h;omega)
theorem K8{α:Type}[DecidableEq α]{x y:α}{a b:List α}(h:x≠y):decide (x::a=y::b)=false:=decide_eq_false fun e=>h (List.cons.inj e).1
theorem KO{α:Type}[DecidableEq α]{x y:α}{a b:List α}(h:x=y):decide (x::a=y::b)=decide (a=b):=decide_eq_decide.2 ⟨fun e=>(List.cons.inj e).2,fun e=>by rw[h,e]⟩
theorem ME{α:Type}[DecidableEq α]{a b:List α}(h:a.length≠b.length):decide (a=b)=false:=decide_eq_false fun e=>h (by rw[e])
theorem idf{x y:Int}(h:x≠y):x≠y:=h
theorem idt{x y:Int}(h:x=y):x=y:=h
theorem stf{x y:Str}(h:x.s≠y.s):x≠y:=fun e=>h (by rw[e])
theorem stt{x y:Str}(h:x.s=y.s):x=y:=by cases x;cases y;cases h;rfl
theorem a7g(a b:List Int)(hl:a.length<=1048576)(e:a.length=b.length)(R:Bool): ∀ (d i:Nat),d+i=a.length->R=decide (a.drop i=b.drop i) ->
  At TD 0 (Zb HY (Zr R)) Jm 0 26 [(0,.pv (enc a)),(1,.pv (enc b)),(5,.pv (.int .i64 i))] []:=by
 intro d
 induction d with
 | zero=>
  intro i hi hR
  refine b6x a b i (Wu (Vj (by omega)) (ZA ?_))
  rw[hR,List.drop_eq_nil_of_le (by omega),List.drop_eq_nil_of_le (by omega)];rfl
 | succ d ih=>
  intro i hi hR
  have h1:i<a.length:=by omega
  have h2:i<b.length:=by omega
  rw[List.drop_eq_getElem_cons h1,List.drop_eq_getElem_cons h2]at hR
  refine b6x a b i (Xj (WW h1) ⟨ZR h1 rfl,Yg h1 ⟨ZR h2 rfl,Yg h2 (Fq (fun h=>ZA ?_) fun h=> ?_)⟩⟩)
  ·rw[hR,K8 (show a[i]≠b[i]from idf h)]
  ·rw[next (by omega)]
   exact ih (i+1) (by omega) (by rw[hR,KO (show a[i]=b[i]from idt h)])
theorem b8b: ∀ x:List Int×List Int×Unit,decide (x.1.length<=1048576)=true->Zd TD 0 (Zb HY (Zr (decide (x.1=x.2.1)))) Jm [] (Z9 c9h (encL x)):=by
 rintro⟨a,b,⟨⟩⟩ h
 refine d6g a b (Jv (fun k=>ZA (ME k).symm) fun k=> ?_)
 exact a7g a b (of_decide_eq_true h) k _ a.length 0 (by omega) rfl
theorem a6j(a b:List Int)(hl:a.length<=1048576)(e:a.length=b.length)(R:Bool): ∀ (d i:Nat),d+i=a.length->R=decide (a.drop i=b.drop i) ->
  At Jf 0 (Zb Qb (Zr R)) U2 0 26 [(0,.pv (enc a)),(1,.pv (enc b)),(5,.pv (.int .i64 i))] []:=by
 intro d
 induction d with
 | zero=>
  intro i hi hR
  refine EB a b i (Wu (Vj (by omega)) (ZA ?_))
  rw[hR,List.drop_eq_nil_of_le (by omega),List.drop_eq_nil_of_le (by omega)];rfl
 | succ d ih=>
  intro i hi hR
  have h1:i<a.length:=by omega
  have h2:i<b.length:=by omega
  rw[List.drop_eq_getElem_cons h1,List.drop_eq_getElem_cons h2]at hR
  refine EB a b i (Xj (WW h1) ⟨ZR h1 rfl,Yg h1 ⟨ZR h2 rfl,Yg h2 (Fq (fun h=>ZA ?_) fun h=> ?_)⟩⟩)
  ·rw[hR,K8 (show a[i]≠b[i]from idf h)]
  ·rw[next (by omega)]
   exact ih (i+1) (by omega) (by rw[hR,KO (show a[i]=b[i]from idt h)])
theorem b3h: ∀ x:List Int×List Int×Unit,decide (x.1.length<=1048576)=true->Zd Jf 0 (Zb Qb (Zr (decide (x.1=x.2.1)))) U2 [] (Z9 c0k (encL x)):=by
 rintro⟨a,b,⟨⟩⟩ h
 refine c8h a b (Jv (fun k=>ZA (ME k).symm) fun k=> ?_)
 exact a6j a b (of_decide_eq_true h) k _ a.length 0 (by omega) rfl
theorem a5t(a b:List Str)(hl:a.length<=1048576)(e:a.length=b.length)(R:Bool): ∀ (d i:Nat),d+i=a.length->R=decide (a.drop i=b.drop i) ->
  At Jn 0 (Zb U1 (Zr R)) UZ 0 26 [(0,.pv (enc a)),(1,.pv (enc b)),(5,.pv (.int .i64 i))] []:=by
 intro d
 induction d with
 | zero=>
  intro i hi hR
  refine EJ a b i (Wu (Vj (by omega)) (ZA ?_))
  rw[hR,List.drop_eq_nil_of_le (by omega),List.drop_eq_nil_of_le (by omega)];rfl
 | succ d ih=>
  intro i hi hR
  have h1:i<a.length:=by omega
  have h2:i<b.length:=by omega
  rw[List.drop_eq_getElem_cons h1,List.drop_eq_getElem_cons h2]at hR
  refine EJ a b i (Xj (WW h1) ⟨ZR h1 rfl,Yg h1 ⟨ZR h2 rfl,Yg h2 (c8b (fun h=>ZA ?_) fun h=> ?_)⟩⟩)
  ·rw[hR,K8 (show a[i]≠b[i]from stf h)]
  ·rw[next (by omega)]
   exact ih (i+1) (by omega) (by rw[hR,KO (show a[i]=b[i]from stt h)])
theorem b0z: ∀ x:List Str×List Str×Unit,decide (x.1.length<=1048576)=true->Zd Jn 0 (Zb U1 (Zr (decide (x.1=x.2.1)))) UZ [] (Z9 c1s (encL x)):=by
 rintro⟨a,b,⟨⟩⟩ h
 refine c8o a b (Jv (fun k=>ZA (ME k).symm) fun k=> ?_)
 exact a5t a b (of_decide_eq_true h) k _ a.length 0 (by omega) rfl
theorem b7i(a b:Lin)(hl:a.t.length<=1048576)(e:a.t.length=b.t.length)(R:Bool): ∀ (d i:Nat),d+i=a.t.length->R=decide (a.t.drop i=b.t.drop i) ->
  At Tw 0 (Zb Gp (Zr R)) Gr 0 38 [(2,.ptr 0 0),(3,.ptr 1 0),(5,.pv (.int .i64 i))] [.obj (.box [.pv (enc a.k),.pv (enc a.t)]),.obj (.box [.pv (enc b.k),.pv (enc b.t)])]:=by
 intro d
 induction d with
 | zero=>
  intro i hi hR
  refine b5b a b i (Wu (Vj (by omega)) (ZA ?_))
  rw[hR,List.drop_eq_nil_of_le (by omega),List.drop_eq_nil_of_le (by omega)];rfl
 | succ d ih=>
  intro i hi hR
  have h1:i<a.t.length:=by omega
  have h2:i<b.t.length:=by omega
  rw[List.drop_eq_getElem_cons h1,List.drop_eq_getElem_cons h2]at hR
  have hc:(PV.asStr (List.getD (PV.cells (enc a.t[i])) 0 default)==PV.asStr (List.getD (PV.cells (enc b.t[i])) 0 default)&&(PV.asInt (List.getD (PV.cells (enc a.t[i])) (0+1) default)==PV.asInt (List.getD (PV.cells (enc b.t[i])) (0+1) default)&&true))=decide (a.t[i]=b.t[i]):=by
   rw[co1,co1,co2,co2,Bool.and_true]
   rcases a.t[i]with ⟨⟨v⟩,c⟩
   rcases b.t[i]with ⟨⟨w⟩,c'⟩
   rw[Bool.eq_iff_iff]
   simp
  refine b5b a b i (Xj (WW h1) ⟨ZR h1 rfl,Yg h1 ⟨ZR h2 rfl,Yg h2 ?_⟩⟩)
  rw[hc]
  refine Uq (fun h=>ZA ?_) fun h=> ?_
  ·rw[hR,K8 (of_decide_eq_false h)]
  ·rw[next (by omega)]
   exact ih (i+1) (by omega) (by rw[hR,KO (of_decide_eq_true h)])
theorem c2x: ∀ x:Lin×Lin×Unit,decide (x.1.t.length<=1048576)=true->Zd Tw 0 (Zb Gp (Zr (decide (x.1=x.2.1)))) Gr [] (Z9 c6w (encL x)):=by
 rintro⟨a,b,⟨⟩⟩ h
 refine d2v a b (Fq (fun k=>ZA (decide_eq_false fun e=>k (by rw[show a=b from e])).symm) fun k0=>Jv (fun k=>ZA (decide_eq_false fun e=>k (by rw[show a=b from e])).symm) fun k=> ?_)
 refine b7i a b (of_decide_eq_true h) k _ a.t.length 0 (by omega) (decide_eq_decide.2 ⟨fun e=>by rw[show a=b from e],fun e=> ?_⟩)
 cases a;cases b
 simp only[List.drop_zero]at e k0
 rw[k0,e]
theorem Yl{n m:Nd}{ks ls:List Tm}:QE (.mk n ks) (.mk m ls)=true ↔ (n.kind=m.kind∧n.name=m.name∧n.num=m.num∧n.elem=m.elem∧n.dims=m.dims∧n.data=m.data∧n.sizes=m.sizes∧n.ranks=m.ranks)∧Vu ks ls=true:=by
 rw[QE]
 unfold b3v
 simp only[Bool.and_eq_true,decide_eq_true_eq,and_assoc]
theorem Hd: ∀ {ks ls:List Tm},Vu ks ls=true->ks.length=ls.length
 | [],[],_=>rfl
 | [],_::_,h=>by simp[Vu]at h
 | _::_,[],h=>by simp[Vu]at h
 | k::ks,l::ls,h=>by
  rw[Vu,Bool.and_eq_true]at h
  rw[List.length_cons,List.length_cons,Hd h.2]
theorem X5{b:Bool}(h:b=true->False):false=b:=by cases b;rfl;exact(h rfl).elim
theorem a0q{n m:Nd}{ks ls:List Tm}:Fz (.mk n ks) (.mk m ls)=true ↔ n=m∧DL ks ls=true:=by
 rw[Fz,Bool.and_eq_true,decide_eq_true_eq]
mutual
theorem c6e: ∀ {a b:Tm},Fz a b=true->QE a b=true
 | .mk n ks,.mk m ls,h=>by
  obtain⟨e,h2⟩:=a0q.1 h
  subst e
  exact Yl.2 ⟨⟨rfl,rfl,rfl,rfl,rfl,rfl,rfl,rfl⟩,a7w h2⟩
theorem a7w: ∀ {ks ls:List Tm},DL ks ls=true->Vu ks ls=true
 | [],[],_=>by rw[Vu]
 | [],_::_,h=>by simp[DL]at h
 | _::_,[],h=>by simp[DL]at h
 | k::ks,l::ls,h=>by
  rw[DL,Bool.and_eq_true]at h
  rw[Vu,c6e h.1,a7w h.2];rfl
end
theorem b1j{a b:List Int}{P:Bool->Prop}(h:a.length<=1048576)(k:P (decide (a=b))):a0z [.sl 1 false (a.map enc),.sl 1 false (b.map enc)] P:=⟨Zc (a,b,()) rfl (decide_eq_true h),Zf (a,b,()) rfl k⟩
theorem Nt{N:Nat}{n:Nd}{ks:List Tm}(h:tW (.mk n ks)=true)(hd:ZW ks<N){k l:Tm}(hk:k∈ks)(hl:tW l=true):(fun x:Tm×Tm×Unit=>(tW x.1&&tW x.2.1)&&decide (ZI x.1<N)) (k,l,())=true:=by
 have h:=Ci h hd hk
 simp only[Bool.and_eq_true]at h ⊢
 exact⟨⟨h.1,hl⟩,h.2⟩
theorem a6t(a b:Tm):[PM a,PM b]=encL (a,b,()):=by rw[Ox,Ox];rfl
theorem a3i(n m:Nd)(ks ls:List Tm):[ndC n ks,ndC m ls]=encL (Tm.mk n ks,Tm.mk m ls,()):=by rw[Vd,Vd];rfl
theorem b2r(N:Nat)(n m:Nd)(ks ls:List Tm)(hw:tW (.mk n ks)=true)(hv:tW (.mk m ls)=true)(hd:ZW ks<N)(e:ks.length=ls.length)(R:Bool): ∀ (d i:Nat),d+i=ks.length->R=Vu (ks.drop i) (ls.drop i) ->
  At (KC N) 0 (Zb Uf (Zr R)) Ue 1 117 [(2,.ptr 0 0),(3,.ptr 1 0),(6,.pv (.int .i64 i))] [.obj (.box (Yk n ks)),.obj (.box (Yk m ls))]:=by
 intro d
 induction d with
 | zero=>
  intro i hi hR
  rw[List.drop_eq_nil_of_le (by omega),List.drop_eq_nil_of_le (by omega),Vu]at hR
  exact a7y N n ks m ls i (Wu (Vj (by omega)) (ZA hR.symm))
 | succ d ih=>
  intro i hi hR
  have h1:i<ks.length:=by omega
  have h2:i<ls.length:=by omega
  have hkl:=(YG hw).1
  rw[List.drop_eq_getElem_cons h1,List.drop_eq_getElem_cons h2,Vu]at hR
  refine a7y N n ks m ls i (Xj (WW h1) ⟨ZR h1 rfl,Yg h1 ⟨Uj _,ZR h2 rfl,Yg h2 ⟨Uj _,Zc (ks[i],ls[i],()) (a6t _ _) (Nt hw hd (List.getElem_mem h1) ((YG hv).2 _ (List.getElem_mem h2))),Zf (ks[i],ls[i],()) (a6t _ _) (Uq (fun h=>ZA ?_) fun h=> ?_)⟩⟩⟩)
  ·have h:QE ks[i] ls[i]=false:=h
   rw[hR,h];rfl
  ·have h:QE ks[i] ls[i]=true:=h
   rw[next (by omega)]
   exact ih (i+1) (by omega) (by rw[hR,h];rfl)
theorem a7c(N:Nat)(n m:Nd)(ks ls:List Tm)(hw:tW (.mk n ks)=true)(hv:tW (.mk m ls)=true)(hd:ZW ks<N)(e:ks.length=ls.length)(es:n.sizes.length=m.sizes.length)(R:Bool): ∀ (d i:Nat),d+i=n.sizes.length->R=(decide (n.sizes.drop i=m.sizes.drop i)&&Vu ks ls) ->
  At (KC N) 0 (Zb Uf (Zr R)) Ue 0 117 [(2,.ptr 0 0),(3,.ptr 1 0),(5,.pv (.int .i64 i))] [.obj (.box (Yk n ks)),.obj (.box (Yk m ls))]:=by
 intro d
 induction d with
 | zero=>
  intro i hi hR
  rw[List.drop_eq_nil_of_le (by omega),List.drop_eq_nil_of_le (by omega)]at hR
  exact b1k N n ks m ls i (Wu (Vj (by omega)) (b2r N n m ks ls hw hv hd e R ks.length 0 (by omega) (by rw[hR];rfl)))
 | succ d ih=>
  intro i hi hR
  have h1:i<n.sizes.length:=by omega
  have h2:i<m.sizes.length:=by omega
  have hn:=F6 hw
  have hb:=hn.sizes
  rw[List.drop_eq_getElem_cons h1,List.drop_eq_getElem_cons h2]at hR
  refine b1k N n ks m ls i (Xj (WW h1) ⟨ZR h1 rfl,Yg h1 ⟨ZR h2 rfl,Yg h2 ⟨Zc (n.sizes[i],m.sizes[i],()) rfl (decide_eq_true (hn.lens _ (List.getElem_mem h1))),Zf (n.sizes[i],m.sizes[i],()) rfl (Uq (fun h=>ZA ?_) fun h=> ?_)⟩⟩⟩)
  ·rw[hR,K8 (of_decide_eq_false h)];rfl
  ·rw[next (by omega)]
   exact ih (i+1) (by omega) (by rw[hR,KO (of_decide_eq_true h)])
theorem c1i(N:Nat): ∀ x:Tm×Tm×Unit,((tW x.1&&tW x.2.1)&&decide (ZI x.1<N+1))=true->Zd (KC N) 0 (Zb Uf (Zr (QE x.1 x.2.1))) Ue [] (Z9 c8v (encL x)):=by
 rintro⟨⟨n,ks⟩,⟨m,ls⟩,⟨⟩⟩ h
 simp only[Bool.and_eq_true,decide_eq_true_eq]at h
 obtain⟨⟨hw,hv⟩,hd⟩:=h
 have hd:ZI (.mk n ks)<N+1:=hd
 rw[ZI]at hd
 have hn:=F6 hw
 rw[<- a3i]
 refine d3g N n ks m ls ?_
 refine Fq (fun k=>ZA (X5 fun h=>k (Yl.1 h).1.1)) fun k1=> ?_
 refine c8b (fun k=>ZA (X5 fun h=>k (by rw[(Yl.1 h).1.2.1]))) fun k2=> ?_
 refine Fq (fun k=>ZA (X5 fun h=>k (Yl.1 h).1.2.2.1)) fun k3=> ?_
 refine Jv (fun k=>ZA (X5 fun h=>k (by rw[(Yl.1 h).1.2.2.2.2.2.2.1]))) fun k4=> ?_
 refine Jv (fun k=>ZA (X5 fun h=>k (Hd (Yl.1 h).2))) fun k5=> ?_
 refine c8b (fun k=>ZA (X5 fun h=>k (by rw[(Yl.1 h).1.2.2.2.1]))) fun k6=> ?_
 refine b1j hn.dims (Uq (fun k=>ZA (X5 fun h=>of_decide_eq_false k (Yl.1 h).1.2.2.2.2.1)) fun k7=> ?_)
 refine b1j hn.data (Uq (fun k=>ZA (X5 fun h=>of_decide_eq_false k (Yl.1 h).1.2.2.2.2.2.1)) fun k8=> ?_)
 refine b1j hn.ranks (Uq (fun k=>ZA (X5 fun h=>of_decide_eq_false k (Yl.1 h).1.2.2.2.2.2.2.2)) fun k9=> ?_)
 refine a7c N n m ks ls hw hv (by omega) k5 k4 _ n.sizes.length 0 (by omega) ?_
 rw[Bool.eq_iff_iff]
 show QE (.mk n ks) (.mk m ls)=true ↔ _
 rw[Yl,Bool.and_eq_true,decide_eq_true_eq]
 exact⟨fun h=>⟨h.1.2.2.2.2.2.2.1,h.2⟩,fun h=>⟨⟨k1,stt k2,k3,stt k6,of_decide_eq_true k7,of_decide_eq_true k8,h.1,of_decide_eq_true k9⟩,h.2⟩⟩
theorem b4k(N:Nat)(n m:Nd)(ks ls:List Tm)(hw:tW (.mk n ks)=true)(hv:tW (.mk m ls)=true)(hd:ZW ks<N)(e:ks.length=ls.length)(R:Bool): ∀ (d i:Nat),d+i=ks.length->R=DL (ks.drop i) (ls.drop i) ->
  At (SI N) 0 (Zb GN (Zr R)) HV 0 36 [(2,.ptr 0 0),(3,.ptr 1 0),(5,.pv (.int .i64 i))] [.obj (.box (Yk n ks)),.obj (.box (Yk m ls))]:=by
 intro d
 induction d with
 | zero=>
  intro i hi hR
  rw[List.drop_eq_nil_of_le (by omega),List.drop_eq_nil_of_le (by omega),DL]at hR
  exact a8d N n ks m ls i (Wu (Vj (by omega)) (ZA hR.symm))
 | succ d ih=>
  intro i hi hR
  have h1:i<ks.length:=by omega
  have h2:i<ls.length:=by omega
  have hkl:=(YG hw).1
  rw[List.drop_eq_getElem_cons h1,List.drop_eq_getElem_cons h2,DL]at hR
  refine a8d N n ks m ls i (Xj (WW h1) ⟨ZR h1 rfl,Yg h1 ⟨Uj _,ZR h2 rfl,Yg h2 ⟨Uj _,Zc (ks[i],ls[i],()) (a6t _ _) (Nt hw hd (List.getElem_mem h1) ((YG hv).2 _ (List.getElem_mem h2))),Zf (ks[i],ls[i],()) (a6t _ _) (Uq (fun h=>ZA ?_) fun h=> ?_)⟩⟩⟩)
  ·have h:Fz ks[i] ls[i]=false:=h
   rw[hR,h];rfl
  ·have h:Fz ks[i] ls[i]=true:=h
   rw[next (by omega)]
   exact ih (i+1) (by omega) (by rw[hR,h];rfl)
theorem c3s(N:Nat): ∀ x:Tm×Tm×Unit,((tW x.1&&tW x.2.1)&&decide (ZI x.1<N+1))=true->Zd (SI N) 0 (Zb GN (Zr (Fz x.1 x.2.1))) HV [] (Z9 d1t (encL x)):=by
 rintro⟨⟨n,ks⟩,⟨m,ls⟩,⟨⟩⟩ h
 have h0:=h
 simp only[Bool.and_eq_true,decide_eq_true_eq]at h
 obtain⟨⟨hw,hv⟩,hd⟩:=h
 have hd:ZI (.mk n ks)<N+1:=hd
 rw[ZI]at hd
 rw[<- a3i]
 refine d2x N n ks m ls (Fq (fun k=>ZA (X5 fun h=>k (by rw[(a0q.1 h).1]))) fun k1=> ?_)
 refine⟨Zc (Tm.mk n ks,Tm.mk m ls,()) (a3i ..) (by simp only[Bool.and_eq_true];exact⟨hw,hv⟩),Zf (Tm.mk n ks,Tm.mk m ls,()) (a3i ..) (Uq (fun k=>ZA (X5 fun h=> ?_)) fun k=> ?_)⟩
 ·have k:QE (.mk n ks) (.mk m ls)=false:=k
  rw[c6e h]at k;exact absurd k (by simp)
 ·have k:QE (.mk n ks) (.mk m ls)=true:=k
  obtain⟨⟨a1,a2,a3,a4,a5,a6,a7,a8⟩,ak⟩:=Yl.1 k
  have e:n=m:=by cases n;cases m;simp only at *;subst a1 a2 a3 a4 a5 a6 a7 a8 k1;rfl
  refine b4k N n m ks ls hw hv (by omega) (Hd ak) _ ks.length 0 (by omega) ?_
  show Fz (.mk n ks) (.mk m ls)=_
  rw[Fz,decide_eq_true e];rfl
theorem ndT(n:Nd)(ks:List Tm){α:Type}[Enc α](x:α):encL (Tm.mk n ks,x,())=[ndC n ks,enc x]:=by rw[Vd];rfl
theorem d0c: ∀ x:Str×Unit,true=true->Zd d5s 0 (Zb c4s (Zr (vT x.1))) c4z [] (Z9 d4g (encL x)):=by
 rintro⟨⟨s⟩,⟨⟩⟩ _
 exact d7c s ⟨by simp,by simp[vT,nd0]⟩
def d3m(s:Str)(a b:Tm):Tm:=.mk {nd0 with kind:=5,name:=s} [a,b]
theorem b5u: ∀ x:Str×Tm×Tm×Unit,true=true->Zd b5g 0 (Zb E5 (Zr (d3m x.1 x.2.1 x.2.2.1))) E9 [] (Z9 b9m (encL x)):=by
 rintro⟨⟨s⟩,⟨n,ks⟩,⟨m,ls⟩,⟨⟩⟩ _
 rw[show encL ((⟨s⟩:Str),Tm.mk n ks,Tm.mk m ls,())=[.str s,ndC n ks,ndC m ls]from by rw[Vd,Vd];rfl]
 refine d0w s n ks m ls ?_
 rw[Vd,Vd]
 have h:is (List Tm) (.sl 10 false ([Tm.mk n ks,Tm.mk m ls].map enc))=true:=Enc.is_enc [Tm.mk n ks,Tm.mk m ls]
 have h2:(dec (.sl 10 false ([Tm.mk n ks,Tm.mk m ls].map enc)):List Tm)=[Tm.mk n ks,Tm.mk m ls]:=Enc.dec_enc [Tm.mk n ks,Tm.mk m ls]
 refine⟨?_,?_⟩
 ·have:is (List Tm) (.sl 10 false [enc (Tm.mk n ks),enc (Tm.mk m ls)])=true:=h
  simp[this]
 ·have h:is (List Tm) (.sl 10 false [enc (Tm.mk n ks),enc (Tm.mk m ls)])=true:=h
  have h2:(dec (.sl 10 false [enc (Tm.mk n ks),enc (Tm.mk m ls)]):List Tm)=[Tm.mk n ks,Tm.mk m ls]:=h2
  rw[b3k _ _ _ _ _ _ _ _ _ _ h,h2]
  simp[d3m,nd0]
end Go.Pl
namespace Go.Pl
open Go.RowKit
open Enc (enc dec is)
open EncL (encL decL isL)
mutual
theorem LF: ∀ {a b:List Str} (h : ∀ x,x∈a ↔ x∈b) (t:Tm),Yt a t=Yt b t
 | a,b,h,.mk n ks=>by
  rw[Yt,Yt,Sn h]
  simp only[h]
theorem Sn: ∀ {a b:List Str} (h : ∀ x,x∈a ↔ x∈b) (l:Bool) (s:Str) (i:Nat) (ks:List Tm),Ym a l s i ks=Ym b l s i ks
 | a,b,h,l,s,i,[]=>by rw[Ym,Ym]
 | a,b,h,l,s,i,k::ks=>by
  rw[Ym,Ym,Sn h l s (i+1) ks,LF (a:=if (l&&decide (i=1))=true then s::a else a) (b:=if (l&&decide (i=1))=true then s::b else b) (fun x=>by split <;> simp[h]) k]
end
mutual
theorem QH: ∀ (b:List Str) (t:Tm),(Yt b t).length<=Zk t
 | b,.mk n ks=>by
  have h:=SB b (Yo n ks.length) n.name 0 ks
  rw[Yt,Zk,List.length_append]
  split
  ·simp only[List.length_singleton];omega
  ·simp only[List.length_nil];omega
theorem SB: ∀ (b:List Str) (l:Bool) (s:Str) (i:Nat) (ks:List Tm),(Ym b l s i ks).length<=Zm ks
 | b,l,s,i,[]=>by rw[Ym,Zm];simp
 | b,l,s,i,k::ks=>by
  have h1:=QH (if (l&&decide (i=1))=true then s::b else b) k
  have h2:=SB b l s (i+1) ks
  rw[Ym,Zm,List.length_append]
  omega
end
end Go.Pl
namespace Go.Pl
open Go.RowKit
open Enc (enc dec is)
open EncL (encL decL isL)
theorem Sq: ∀ (l o:List Str),(l.foldl Y2 o).length<=o.length+l.length
 | [],o=>by simp
 | a::l,o=>by have:=Sq l (Y2 o a);have:=Ho o a;rw[List.foldl_cons,List.length_cons];omega
theorem a8f{N:Nat}{t:Tm}{b g:List Str}(hw:tW t=true)(hd:ZI t<N)(h1:b.length+ZI t<=1048576)(h2:g.length+Zk t<=1048576):Wn N [(.pv (PM t)),(.map 0),(.map 1)] [(.map (Yb b)),(.map (Yb g))]=true:=by
 rw[Ox]
 simp only[Wn,Ua,Enc.dec_enc,hw,VA,decide_eq_true hd,decide_eq_true h1,decide_eq_true h2,Bool.true_and,Bool.and_true,Bool.and_eq_true]
 exact⟨@decide_eq_true _ (_) trivial,@decide_eq_true _ (_) trivial⟩
theorem b4i(N:Nat)(n:Nd)(ks:List Tm)(b:List Str)(hw:tW (.mk n ks)=true)(hd:ZW ks<N)(hb:b.length+ZW ks+1<=1048576)(R:List Str): ∀ (d i:Nat) (g:List Str),d+i=ks.length->g.length+Zm (ks.drop i)<=1048576->R=(Ym b (Yo n ks.length) n.name i (ks.drop i)).foldl Y2 g ->
  At (VF N) 2 (Z8 2 XY fun r=>r=(.tup [],[.map (Yb b),.map (Yb R)],[])) XW 0 54 [(1,.map 0),(2,.map 1),(3,.ptr 2 0),(23,.pv (enc ks)),(24,.pv (.int .i64 (ks.map (enc:Tm->PV)).length)),(25,.pv (.int .i64 i))] [.obj (.map (Yb b)),.obj (.map (Yb g)),.obj (.box (Yk n ks))]:=by
 intro d
 induction d with
 | zero=>
  intro i g hi hg hR
  rw[List.drop_eq_nil_of_le (by omega),Ym]at hR
  exact b2i N n ks b g i (Wu (Vj (by omega)) (by rw[hR];rfl))
 | succ d ih=>
  intro i g hi hg hR
  have h1:i<ks.length:=by omega
  have hkl:=(YG hw).1
  have hwk:=(YG hw).2 _ (List.getElem_mem h1)
  have hdk:=SL (List.getElem_mem h1)
  rw[List.drop_eq_getElem_cons h1,Zm]at hg
  rw[List.drop_eq_getElem_cons h1,Ym,List.foldl_append]at hR
  have go : ∀ bd:List Str,(Yt bd ks[i]=Yt (if (Yo n ks.length&&decide (i=1))=true then n.name::b else b) ks[i])->At (VF N) 2 (Z8 2 XY fun r=>r=(.tup [],[.map (Yb b),.map (Yb R)],[])) XW 0 54 [(1,.map 0),(2,.map 1),(3,.ptr 2 0),(23,.pv (enc ks)),(24,.pv (.int .i64 (ks.map (enc:Tm->PV)).length)),(25,.pv (.int .i64 (IntKind.i64.wrap ((i:Int)+1))))] [.obj (.map (Yb b)),.obj (.map (Yb ((Yt bd ks[i]).foldl Y2 g))),.obj (.box (Yk n ks))]:=fun bd e=>by
   rw[next (by omega),e]
   refine ih (i+1) _ (by omega) ?_ hR
   have l1:=Sq (Yt (if (Yo n ks.length&&decide (i=1))=true then n.name::b else b) ks[i]) g
   have l2:=QH (if (Yo n ks.length&&decide (i=1))=true then n.name::b else b) ks[i]
   omega
  have plain:(Yo n ks.length&&decide (i=1))=false->Wn N [(.pv (PM ks[i])),(.map 0),(.map 1)] [(.map (Yb b)),(.map (Yb g))]=true∧At (VF N) 2 (Z8 2 XY fun r=>r=(.tup [],[.map (Yb b),.map (Yb R)],[])) XW 0 54 [(1,.map 0),(2,.map 1),(3,.ptr 2 0),(23,.pv (enc ks)),(24,.pv (.int .i64 (ks.map (enc:Tm->PV)).length)),(25,.pv (.int .i64 (IntKind.i64.wrap ((i:Int)+1))))] [.obj (.map (Yb b)),.obj (.map (Yb (List.foldl Y2 (YT (Yb g)) (Yt (YT (Yb b)) (dec (agS ks[i])))))),.obj (.box (Yk n ks))]:=fun e=>
   ⟨a8f hwk (by omega) (by omega) (by omega),by rw[VA,VA,a8q,Enc.dec_enc];exact go b (by rw[e];rfl)⟩
  refine b2i N n ks b g i (Xj (WW h1) ⟨ZR h1 rfl,Yg h1 ⟨Uj _,Uk (fun k5=>Uk (fun k2=>Uk (fun k1=> ?_) fun k1=> ?_) fun k2=> ?_) fun k5=> ?_⟩⟩)
  ·have e2:ks.length=2:=by rw[List.length_map]at k2;omega
   have e1:i=1:=by omega
   have el:(Yo n ks.length&&decide (i=1))=true:=by unfold Yo;rw[decide_eq_true k5,decide_eq_true e2,decide_eq_true e1];rfl
   have hu:XI (enc n.name) (.bool true) (Yb b)=Yb (Y2 b n.name):=(Gj b n.name).2
   have:=Ho b n.name
   refine⟨(Gj b n.name).1,?_⟩
   rw[hu,VA,VA,a8q,Enc.dec_enc]
   exact⟨a8f hwk (by omega) (by omega) (by omega),go (Y2 b n.name) (LF (fun x=>by rw[el];simp[CK,or_comm]) _)⟩
  ·exact plain (by rw[decide_eq_false (show ¬ i=1 by omega),Bool.and_false])
  ·exact plain (by unfold Yo;rw[decide_eq_false (show ¬ ks.length=2 by rw[List.length_map]at k2;omega)];simp)
  ·exact plain (by unfold Yo;rw[decide_eq_false k5];simp)
theorem b9u(b:List Str)(s:Str):VT (enc s) (Yb b)=true∧YJ (enc s) (PV.bool false) (Yb b) = .bool (decide (s∈b)):=by
 have key:GL (enc s) (Yb b)=some (if s∈b then some (PV.bool true)else none):=by
  induction b with
  | nil=>rfl
  | cons a b ih=>
   show(match VV (enc s) (PV.str a.s)with|some true=>some (some (PV.bool true))|some false=>GL (enc s) (Yb b)|none=>none)=_
   have e:VV (enc s:PV) (PV.str a.s)=some (s.s==a.s):=rfl
   rw[e]
   by_cases h:s=a
   ·subst h;simp
   ·have:(s.s==a.s)=false:=by
     rw[beq_eq_false_iff_ne]
     intro e;apply h;cases a;cases s;simp at e;rw[e]
    rw[this]
    show GL (enc s) (Yb b)=_
    rw[ih]
    simp[h]
 unfold VT YJ
 rw[key]
 by_cases h:s∈b
 ·simp[h]
 ·simp[h]
theorem c1o(N:Nat): ∀ args os,Wn (N+1) args os=true->Zd (VF N) os.length (Z8 os.length XY fun r=>r=Hz args os) XW [] (XJ c9u args os):=by
 intro args os hp
 unfold Wn at hp
 split at hp
 ·rename_i p es fs
  simp only[Bool.and_eq_true,decide_eq_true_eq]at hp
  obtain⟨h1,hw,h3,h4,h5,h6,h7⟩:=hp
  obtain⟨⟨n,ks⟩,rfl⟩:=Pe h1
  rw[Enc.dec_enc]at hw h3 h6 h7
  generalize YT es=b at h4 h6
  generalize YT fs=g at h5 h7
  subst h4 h5
  rw[ZI]at h3 h6
  rw[Zk]at h7
  have key : ∀ g':List Str,g'.length+Zm ks<=1048576->(Yt b (.mk n ks)).foldl Y2 g=(Ym b (Yo n ks.length) n.name 0 ks).foldl Y2 g'->At (VF N) 2 (Z8 2 XY fun r=>r=(.tup [],[.map (Yb b),.map (Yb ((Yt b (.mk n ks)).foldl Y2 g))],[])) XW 0 54 [(1,.map 0),(2,.map 1),(3,.ptr 2 0),(23,.pv (enc ks)),(24,.pv (.int .i64 (ks.map (enc:Tm->PV)).length)),(25,.pv (.int .i64 0))] [.obj (.map (Yb b)),.obj (.map (Yb g')),.obj (.box (Yk n ks))]:=fun g' l e=>
   b4i N n ks b hw (by omega) (by omega) _ ks.length 0 g' (by omega) (by simpa using l) (by rw[e];rfl)
  have e:Hz [.pv (enc (Tm.mk n ks)),.map 0,.map 1] [.map (Yb b),.map (Yb g)]=(.tup [],[.map (Yb b),.map (Yb ((Yt b (.mk n ks)).foldl Y2 g))],[]):=by
   simp only[Hz,Enc.dec_enc,VA]
  rw[e,ZB]
  refine d3h N n ks b g (Uk (fun k=> ?_) fun k=>key g (by omega) (by rw[Yt,if_neg (fun h=>k h.1)];rfl))
  obtain⟨l1,l2⟩:=b9u b n.name
  rw[l1,l2]
  refine⟨rfl,Uq (fun k2=> ?_) fun k2=> ?_⟩
  ·have k2:n.name ∉ b:=of_decide_eq_false k2
   have hu:XI (enc n.name) (.bool true) (Yb g)=Yb (Y2 g n.name):=(Gj g n.name).2
   refine⟨(Gj g n.name).1,?_⟩
   rw[hu]
   refine key (Y2 g n.name) (by have:=Ho g n.name;omega) ?_
   rw[Yt,if_pos ⟨k,k2⟩];rfl
  ·have k2:n.name∈b:=of_decide_eq_true k2
   exact key g (by omega) (by rw[Yt,if_neg (fun h=>h.2 k2)];rfl)
 ·cases hp
noncomputable def Vl:List AV->List AObj->Bool
 | [.pv p,.map 0,.map 1],[.map es,.map fs]=>can Tm p&&(tW (dec p)&&(@decide (es=Yb (YT es)) (Classical.propDecidable _)&&(@decide (fs=Yb (YT fs)) (Classical.propDecidable _)&&(decide ((YT es).length+ZI (dec p:Tm)<=1048576)&&decide ((YT fs).length+Zk (dec p:Tm)<=1048576)))))
 | _,_=>false
def b6w:List AV->List AObj->Nat
 | [.pv p,_,_],_=>ZI (dec p:Tm)
 | _,_=>0
theorem d2p{N:Nat}{args:List AV}{os:List AObj}(h:(Vl args os&&decide (b6w args os<N))=true):Wn N args os=true:=by
 rw[Bool.and_eq_true]at h
 obtain⟨h1,h2⟩:=h
 unfold Vl at h1
 split at h1
 ·simp only[Bool.and_eq_true]at h1
  obtain⟨q1,q2,q3,q4,q5,q6⟩:=h1
  simp only[Wn,Bool.and_eq_true]
  exact⟨q1,q2,h2,q3,q4,q5,q6⟩
 ·cases h1
theorem d3q{N:Nat}{args:List AV}{os:List AObj}(h:Wn N args os=true):(Vl args os&&decide (b6w args os<N))=true:=by
 unfold Wn at h
 split at h
 ·simp only[Bool.and_eq_true]at h
  obtain⟨q1,q2,q3,q4,q5,q6,q7⟩:=h
  rw[Bool.and_eq_true]
  refine⟨?_,q3⟩
  simp only[Vl,Bool.and_eq_true]
  exact⟨q1,q2,q4,q5,q6,q7⟩
 ·cases h
theorem d0q{t:Tm}{b g:List Str}(hw:tW t=true)(h1:b.length+ZI t<=1048576)(h2:g.length+Zk t<=1048576):Vl [(.pv (enc t)),(.map 0),(.map 1)] [(.map (Yb b)),(.map (Yb g))]=true:=by
 simp only[Vl,Ua,Enc.dec_enc,hw,VA,decide_eq_true h1,decide_eq_true h2,Bool.true_and,Bool.and_true,Bool.and_eq_true]
 exact⟨@decide_eq_true _ (_) trivial,@decide_eq_true _ (_) trivial⟩
end Go.Pl
namespace Go.Pl
open Go.RowKit
open Enc (enc dec is)
open EncL (encL decL isL)
set_option maxRecDepth 100000
noncomputable def b2t:IC:=Wy Proofs.Tryz.f20
def b4y:List IRes:=[(.tmp 2)]
abbrev c8c:Nat:=12
noncomputable def c5g:ZC:=YM [(55,.own Vl Hz),(57,.own Xw (We 79)),(56,.own (WX 79) VY)]
theorem d2j{G:PV->Prop}(n:Nd)(ks:List Tm)(h:(Vl [(.pv (.agg [(.int .i64 (Nd.kind n)),(.int .i64 (Nd.line n)),(.str (Str.s (Nd.name n))),(.int .i64 (Nd.num n)),(.str (Str.s (Nd.elem n))),(.sl 1 false (List.map enc (Nd.dims n))),(.sl 1 false (List.map enc (Nd.data n))),(.sl 2 false (List.map enc (Nd.sizes n))),(.sl 1 false (List.map enc (Nd.ranks n))),(.sl 10 false (List.map enc ks))])),(.map 0),(.map 1)] [(.map []),(.map [])])=true∧((WX 79 [(.fn 79 [] [(.ptr 0 0)])] [(.box [(.map 1)]),(.map (Yb (List.foldl Y2 (YT []) (Yt (YT []) (dec (PV.agg [enc (Nd.kind n),enc (Nd.line n),enc (Nd.name n),enc (Nd.num n),enc (Nd.elem n),enc (Nd.dims n),enc (Nd.data n),enc (Nd.sizes n),enc (Nd.ranks n),enc ks]))))))])=true∧(G ((.sl 1 false (List.map PV.str (YP (List.map Vm (Yb (List.foldl Y2 (YT []) (Yt (YT []) (dec (PV.agg [enc (Nd.kind n),enc (Nd.line n),enc (Nd.name n),enc (Nd.num n),enc (Nd.elem n),enc (Nd.dims n),enc (Nd.data n),enc (Nd.sizes n),enc (Nd.ranks n),enc ks]))))))))))))):Zd c5g 0 (Zb b4y G) b2t [] (Z9 12 [.agg [enc n.kind,enc n.line,enc n.name,enc n.num,enc n.elem,enc n.dims,enc n.data,enc n.sizes,enc n.ranks,enc ks]]):=Zd.tp (dm [] 8 0x313231) h
end Go.Pl
namespace Go.Pl
open Go.RowKit
open Enc (enc dec is)
open EncL (encL decL isL)
mutual
theorem a8x: ∀ (b:List Str) (t:Tm) (s:Str),s∈Yt b t->s.s.length<=Qi t
 | b,.mk n ks,s,h=>by
  rw[Yt]at h
  rw[Qi]
  rcases List.mem_append.1 h with h|h
  ·split at h
   ·have:s=n.name:=by simpa using h
    subst this
    unfold PN;omega
   ·cases h
  ·have:=a1k b (Yo n ks.length) n.name 0 ks s h;omega
theorem a1k: ∀ (b:List Str) (l:Bool) (x:Str) (i:Nat) (ks:List Tm) (s:Str),s∈Ym b l x i ks->s.s.length<=XH ks
 | b,l,x,i,[],s,h=>by rw[Ym]at h;cases h
 | b,l,x,i,k::ks,s,h=>by
  rw[Ym]at h
  rw[XH]
  rcases List.mem_append.1 h with h|h
  ·have:=a8x _ k s h;omega
  ·have:=a1k b l x (i+1) ks s h;omega
end
theorem b7q{l:List Str}(h1 : ∀ s∈l,s.s.length<=1048576)(h2:l.length<=1048576):Kg (Yb (Wm l))=true:=by
 have h3:(Yb (Wm l)).all c4v=true:=by
  rw[List.all_eq_true]
  intro x hx
  obtain⟨s,hs,rfl⟩:=List.mem_map.1 hx
  rcases (SQ l [] s).1 hs with h|h
  ·cases h
  ·exact decide_eq_true (h1 s h)
 have h4:((Yb (Wm l)).map Vm).Nodup:=by
  have e:(Yb (Wm l)).map Vm=(Wm l).map (·.s):=by unfold Yb;rw[List.map_map];rfl
  rw[e]
  have:=QF l [] (by simp)
  refine List.Pairwise.map _ (fun a b hab=> ?_) this
  intro he;apply hab;cases a;cases b;simp at he;rw[he]
 have h5:(Yb (Wm l)).length<=1048576:=by
  have:=UJ l []
  unfold Yb
  rw[List.length_map]
  have e:Wm l=l.foldl Y2 []:=rfl
  rw[e]
  simp at this
  omega
 unfold Kg
 rw[h3,decide_eq_true h4,decide_eq_true h5];rfl
theorem MP(l:List Str):(PV.sl 1 false (List.map PV.str (YP (List.map Vm (Yb (Wm l))))))=enc (Vi l):=by
 have e:(Yb (Wm l)).map Vm=(Wm l).map (·.s):=by unfold Yb;rw[List.map_map];rfl
 rw[e]
 unfold Vi
 show _=PV.sl 1 false (List.map enc (List.map Str.mk _))
 rw[List.map_map]
 rfl
theorem b8c: ∀ x:Tm×Unit,tW x.1=true->Zd c5g 0 (Zb b4y (Zr (ZZ x.1))) b2t [] (Z9 c8c (encL x)):=by
 rintro⟨⟨n,ks⟩,⟨⟩⟩ hw
 rw[show encL ((Tm.mk n ks,()):Tm×Unit)=[PV.agg [enc n.kind,enc n.line,enc n.name,enc n.num,enc n.elem,enc n.dims,enc n.data,enc n.sizes,enc n.ranks,enc ks]]from by
  show [enc (Tm.mk n ks)]=_
  rw[ZB]]
 have hw:tW (.mk n ks)=true:=hw
 refine d2j n ks ?_
 have hs:=Ql hw
 have hW:=of_decide_eq_true hw
 have hd:ZI (.mk n ks)<=1048576:=Nat.le_trans (BU _) hs
 have e:(dec (PV.agg [enc (Nd.kind n),enc (Nd.line n),enc (Nd.name n),enc (Nd.num n),enc (Nd.elem n),enc (Nd.dims n),enc (Nd.data n),enc (Nd.sizes n),enc (Nd.ranks n),enc ks]):Tm) = .mk n ks:=by rw[<- ZB,Enc.dec_enc]
 rw[e]
 refine⟨?_,?_,?_⟩
 ·have:=d0q (t:=.mk n ks) (b:=[]) (g:=[]) hw (by simpa using hd) (by simpa using hs)
  rw[ZB]at this
  exact this
 ·show(79==79&&Kg (Yb (Wm (Yt [] (.mk n ks)))))=true
  rw[b7q (fun s h=>by have:=a8x _ _ s h;omega) (by have:=QH [] (.mk n ks);omega)]
  simp
 ·show Zr _ (PV.sl 1 false (List.map PV.str (YP (List.map Vm (Yb (Wm (Yt [] (.mk n ks))))))))
  rw[MP]
  exact J4 rfl
end Go.Pl
namespace Go.Pl
open Go.RowKit
open Enc (enc dec is)
open EncL (encL decL isL)
set_option maxRecDepth 100000
noncomputable def JA:IC:=icx Uu Proofs.Tryz.f21
def Kk:List IRes:=[(.tmp 2)]
abbrev b9f:Nat:=11
noncomputable def UY:ZC:=YM [(58,.own Yy (Xl 80))]
theorem d0m{G:PV->Prop}(E:Y9)(n:Nd)(ks:List Tm)(h:(Yy [(.pv (.agg [(.int .i64 (Nd.kind n)),(.int .i64 (Nd.line n)),(.str (Str.s (Nd.name n))),(.int .i64 (Nd.num n)),(.str (Str.s (Nd.elem n))),(.sl 1 false (List.map enc (Nd.dims n))),(.sl 1 false (List.map enc (Nd.data n))),(.sl 2 false (List.map enc (Nd.sizes n))),(.sl 1 false (List.map enc (Nd.ranks n))),(.sl 10 false (List.map enc ks))]))] [])=true∧(E 0 ⟨ZL 11 0 [(3,(.ptr 0 0)),(5,(.fn 80 [] [(.ptr 1 0)])),(8,.undef),(9,.undef)],[(.obj (.box [(.pv (.int .i64 0))])),(.obj (.box (Yk n ks)))]⟩ (fun x S'=>Kj UY E 0 (Zb Kk G) JA 0 x S'))):Zz UY E 0 (Zb Kk G) (.inl JA) [] (Z9 11 [.agg [enc n.kind,enc n.line,enc n.name,enc n.num,enc n.elem,enc n.dims,enc n.data,enc n.sizes,enc n.ranks,enc ks]]):=Zz.mp (.req (.keep (.nil))) h
theorem c2a{G:PV->Prop}(E:Y9)(n:Nd)(ks:List Tm)(c:Int)(h:G ((.int .i64 c))):Kj UY E 0 (Zb Kk G) JA 0 .normal ⟨ZL 11 0 [(3,.ptr 0 0)],[.obj (.box [.pv (.int .i64 c)])]⟩:=Zz.mp (.nil) h
def JC:IC:=.skip
noncomputable def b1w:ZC:=YM [(58,.own Yy (Xl 80))]
theorem c3a{G:Zn->Prop}(E:Y9)(n:Nd)(ks:List Tm)(c:Int)(v:Int)(h:E 99 ⟨ZL 11 0 [(3,(.ptr 0 0))],[(.obj (.box [(.pv (.int .i64 c))]))]⟩ (fun x S'=>Kj b1w E 1 (fun st=>G st.heap) JC 99 x S')):Zz b1w E 1 (fun st=>G st.heap) (.inl JC) [.seq (.ext 99 [3])] ⟨ZL 11 0 [(3,.ptr 0 0),(6,.pv (.agg [enc n.kind,enc n.line,enc n.name,enc n.num,enc n.elem,enc n.dims,enc n.data,enc n.sizes,enc n.ranks,enc ks])),(7,.pv (.int .i64 v))],[.obj (.box [.pv (.int .i64 c)])]⟩:=Zz.mh (.nil) h
def J5:IC:=(.block 1 (.reg [ZG 8 (Ap [(.int .i64)] (.t 3)) 0,ZG 9 (DW .add (.t 8) (Qp 1)) 0,TR (.store 1 (.t 3) (.t 9)) 0] none))
noncomputable def b6l:ZC:=YM [(58,.own Yy (Xl 80))]
theorem c0t{G:Zn->Prop}(E:Y9)(n:Nd)(ks:List Tm)(c:Int)(v:Int)(h:E 99 ⟨ZL 11 0 [],[(.obj (.box [(.pv (.int .i64 (IntKind.wrap IntKind.i64 (c+1))))]))]⟩ (fun x S'=>Kj b6l E 1 (fun st=>G st.heap) J5 99 x S')):Zz b6l E 1 (fun st=>G st.heap) (.inl J5) [.seq (.ext 99 [])] ⟨ZL 11 0 [(3,.ptr 0 0)],[.obj (.box [.pv (.int .i64 c)])]⟩:=Zz.mh (.lit (.nil)) h
noncomputable def Jp:IC:=icx Uu Proofs.Tryz.f32
def QX:List IRes:=[(.tmp 2)]
abbrev b9e:Nat:=29
noncomputable def Qg:ZC:=YM [(58,.own Yy (Xl 80)),(57,.own Xw (We 79)),(56,.own (WX 79) VY)]
theorem d1b{G:PV->Prop}(E:Y9)(n:Nd)(ks:List Tm)(h:(Yy [(.pv (.agg [(.int .i64 (Nd.kind n)),(.int .i64 (Nd.line n)),(.str (Str.s (Nd.name n))),(.int .i64 (Nd.num n)),(.str (Str.s (Nd.elem n))),(.sl 1 false (List.map enc (Nd.dims n))),(.sl 1 false (List.map enc (Nd.data n))),(.sl 2 false (List.map enc (Nd.sizes n))),(.sl 1 false (List.map enc (Nd.ranks n))),(.sl 10 false (List.map enc ks))]))] [])=true∧(E 0 ⟨ZL 29 0 [(3,(.ptr 0 0)),(4,.undef),(7,(.fn 80 [] [(.ptr 1 0)])),(8,.undef),(10,.undef),(11,.undef),(12,.undef),(13,.undef),(14,.undef),(15,.undef),(16,.undef),(17,.undef),(18,.undef),(19,.undef),(20,.undef),(21,.undef),(22,.undef),(23,.undef),(24,.undef),(25,.undef)],[(.obj (.box [(.map 2)])),(.obj (.box (Yk n ks))),(.obj (.map []))]⟩ (fun x S'=>Kj Qg E 0 (Zb QX G) Jp 0 x S'))):Zz Qg E 0 (Zb QX G) (.inl Jp) [] (Z9 29 [.agg [enc n.kind,enc n.line,enc n.name,enc n.num,enc n.elem,enc n.dims,enc n.data,enc n.sizes,enc n.ranks,enc ks]]):=Zz.mp (.req (.keep (.nil))) h
theorem b8x{G:PV->Prop}(E:Y9)(n:Nd)(ks:List Tm)(m:List Str)(h:(WX 79 [(.fn 79 [] [(.ptr 0 0)])] [(.box [(.map 1)]),(.map (Yb m))])=true∧(G ((.sl 1 false (List.map PV.str (YP (List.map Vm (Yb m)))))))):Kj Qg E 0 (Zb QX G) Jp 0 .normal ⟨ZL 29 0 [(3,.ptr 0 0)],[.obj (.box [.map 1]),.obj (.map (Yb m))]⟩:=Zz.mp (.lit (.keep (.req (.keep (.nil))))) h
def Km:IC:=(.reg [ZG 4 (.alloc (.agg [(.int .i64 0),(.int .i64 0),(.str []),(.int .i64 0),(.str []),(.sl 0 true []),(.sl 0 true []),(.sl 0 true []),(.sl 0 true []),(.sl 0 true [])])) 0,TR (.store 10 (.t 4) (.t 8)) 1] none)
noncomputable def b2b:ZC:=YM [(58,.own Yy (Xl 80)),(57,.own Xw (We 79)),(56,.own (WX 79) VY)]
theorem c0z{G:Zn->Prop}(E:Y9)(n:Nd)(ks:List Tm)(m:List Str)(v:Int)(h:E 99 ⟨ZL 29 0 [(3,(.ptr 0 0)),(4,(.ptr 2 0))],[(.obj (.box [(.map 1)])),(.obj (.map (Yb m))),(.obj (.box (Yk n ks)))]⟩ (fun x S'=>Kj b2b E 2 (fun st=>G st.heap) Km 99 x S')):Zz b2b E 2 (fun st=>G st.heap) (.inl Km) [.seq (.ext 99 [3,4])] ⟨ZL 29 0 [(3,.ptr 0 0),(8,.pv (.agg [enc n.kind,enc n.line,enc n.name,enc n.num,enc n.elem,enc n.dims,enc n.data,enc n.sizes,enc n.ranks,enc ks])),(9,.pv (.int .i64 v))],[.obj (.box [.map 1]),.obj (.map (Yb m))]⟩:=Zz.mh (.nil) h
def V6:IC:=(.block 1 (Vq [ZG 10 (.faddr 0 (.t 4)) 0,ZG 11 (Ap [(.int .i64)] (.t 10)) 0,ZG 12 (DW .eql (.t 11) (Qp 6)) 0,ZG 13 (WC 12) 0,r'' 14 (.faddr 0 (.t 4)) 0 13,r'' 15 (Ap [(.int .i64)] (.t 14)) 0 13,r'' 16 (DW .eql (.t 15) (Qp 8)) 0 13,ZG 17 (.pick (.t 13) (.c (.bool true)) (.t 16)) 0,ZG 18 (WC 17) 0,r'' 19 (.faddr 0 (.t 4)) 0 18,r'' 20 (Ap [(.int .i64)] (.t 19)) 0 18,r'' 21 (DW .eql (.t 20) (Qp 9)) 0 18,ZG 22 (.pick (.t 18) (.c (.bool true)) (.t 21)) 0] (.cond (.t 22) (.reg [ZG 23 (.load false [.any] (.t 3)) 0,ZG 24 (.faddr 2 (.t 4)) 0,ZG 25 (.load false [.str] (.t 24)) 0,TR (.mapupd true (.t 23) (.t 25) (.c (.bool true))) 0] none) .skip)))
noncomputable def BH:ZC:=YM [(58,.own Yy (Xl 80)),(57,.own Xw (We 79)),(56,.own (WX 79) VY)]
theorem c3v{G:Zn->Prop}(E:Y9)(n:Nd)(ks:List Tm)(m:List Str)(v:Int)(h:if (Nd.kind n==6)=true then(WQ (enc (Nd.name n)) (PV.bool true) (Yb m))=true∧(E 99 ⟨ZL 29 0 [],[(.obj (.box [(.map 1)])),(.obj (.map (XI (enc (Nd.name n)) (PV.bool true) (Yb m)))),(.obj (.box (Yk n ks)))]⟩ (fun x S'=>Kj BH E 3 (fun st=>G st.heap) V6 99 x S'))else(if (Nd.kind n==8)=true then(WQ (enc (Nd.name n)) (PV.bool true) (Yb m))=true∧(E 99 ⟨ZL 29 0 [],[(.obj (.box [(.map 1)])),(.obj (.map (XI (enc (Nd.name n)) (PV.bool true) (Yb m)))),(.obj (.box (Yk n ks)))]⟩ (fun x S'=>Kj BH E 3 (fun st=>G st.heap) V6 99 x S'))else(if (Nd.kind n==9)=true then(WQ (enc (Nd.name n)) (PV.bool true) (Yb m))=true∧(E 99 ⟨ZL 29 0 [],[(.obj (.box [(.map 1)])),(.obj (.map (XI (enc (Nd.name n)) (PV.bool true) (Yb m)))),(.obj (.box (Yk n ks)))]⟩ (fun x S'=>Kj BH E 3 (fun st=>G st.heap) V6 99 x S'))else(E 99 ⟨ZL 29 0 [],[(.obj (.box [(.map 1)])),(.obj (.map (Yb m))),(.obj (.box (Yk n ks)))]⟩ (fun x S'=>Kj BH E 3 (fun st=>G st.heap) V6 99 x S'))))):Zz BH E 3 (fun st=>G st.heap) (.inl V6) [.seq (.ext 99 [])] ⟨ZL 29 0 [(3,.ptr 0 0),(4,.ptr 2 0)],[.obj (.box [.map 1]),.obj (.map (Yb m)),.obj (.box [.pv (enc n.kind),.pv (enc n.line),.pv (enc n.name),.pv (enc n.num),.pv (enc n.elem),.pv (enc n.dims),.pv (enc n.data),.pv (enc n.sizes),.pv (enc n.ranks),.pv (enc ks)])]⟩:=Zz.mh (dm [] 41 0x10024222201222200642222012222222200a42) h
end Go.Pl
namespace Go.Pl
open Go.RowKit
open Enc (enc dec is)
open EncL (encL decL isL)
set_option maxRecDepth 100000
abbrev d3s(ps:List PV)(k:Bool->Prop):Prop:=Qv (fun(x:Tm×Unit)=>tW (Prod.fst x)) (fun(x:Tm×Unit)=>Qz (Prod.fst x)) ps k
noncomputable def Pj:IC:=Wy Proofs.Tryz.f58
def Rk:List IRes:=[(.tmp 2)]
abbrev c4b:Nat:=4
def Ex:ZC:=YM []
theorem c7r{G:AV×List AObj×List AObj->Prop}(n:Nd)(ks:List Tm)(h:G (((.fn 80 [] [(.ptr 0 0)]),([],[(.box [(.pv (.int .i64 (Nd.kind n))),(.pv (.int .i64 (Nd.line n))),(.pv (.str (Str.s (Nd.name n)))),(.pv (.int .i64 (Nd.num n))),(.pv (.str (Str.s (Nd.elem n)))),(.pv (.sl 1 false (List.map enc (Nd.dims n)))),(.pv (.sl 1 false (List.map enc (Nd.data n)))),(.pv (.sl 2 false (List.map enc (Nd.sizes n)))),(.pv (.sl 1 false (List.map enc (Nd.ranks n)))),(.pv (.sl 10 false (List.map enc ks)))])])))):Zd Ex 0 (Z8 0 Rk G) Pj [] (XJ 4 [.pv (.agg [enc n.kind,enc n.line,enc n.name,enc n.num,enc n.elem,enc n.dims,enc n.data,enc n.sizes,enc n.ranks,enc ks])] []):=Zd.to (.nil) h
noncomputable def Gw:IC:=icx Uu Proofs.Tryz.f22
def KN:List IRes:=[(.cell false 1 2)]
abbrev c7t:Nat:=23
noncomputable def Kw:ZC:=YM [(58,.own Yy (Xl 80)),(59,.pure (preT (fun x:Tm×Unit=>tW x.1)) (Zi (fun x:Tm×Unit=>Qz x.1)))]
theorem d3x{G:PV->Prop}(E:Y9)(n:Nd)(ks:List Tm)(h:(Yy [(.pv (.agg [(.int .i64 (Nd.kind n)),(.int .i64 (Nd.line n)),(.str (Str.s (Nd.name n))),(.int .i64 (Nd.num n)),(.str (Str.s (Nd.elem n))),(.sl 1 false (List.map enc (Nd.dims n))),(.sl 1 false (List.map enc (Nd.data n))),(.sl 2 false (List.map enc (Nd.sizes n))),(.sl 1 false (List.map enc (Nd.ranks n))),(.sl 10 false (List.map enc ks))]))] [])=true∧(E 0 ⟨ZL 23 0 [(2,(.ptr 0 0)),(3,(.ptr 1 0)),(4,.undef),(5,.undef),(7,(.fn 80 [] [(.ptr 2 0)])),(8,.undef),(9,.undef),(10,.undef),(11,.undef),(12,.undef),(13,.undef),(14,.undef),(15,.undef),(16,.undef),(17,.undef),(18,.undef),(19,.undef),(20,.undef),(21,.undef),(22,.undef)],[(.obj (.box [(.pv (.bool false))])),(.obj (.box [(.pv (.int .i64 0))])),(.obj (.box [(.pv (.int .i64 (Nd.kind n))),(.pv (.int .i64 (Nd.line n))),(.pv (.str (Str.s (Nd.name n)))),(.pv (.int .i64 (Nd.num n))),(.pv (.str (Str.s (Nd.elem n)))),(.pv (.sl 1 false (List.map enc (Nd.dims n)))),(.pv (.sl 1 false (List.map enc (Nd.data n)))),(.pv (.sl 2 false (List.map enc (Nd.sizes n)))),(.pv (.sl 1 false (List.map enc (Nd.ranks n)))),(.pv (.sl 10 false (List.map enc ks)))]))]⟩ (fun x S'=>Kj Kw E 0 (Zb KN G) Gw 0 x S'))):Zz Kw E 0 (Zb KN G) (.inl Gw) [] (Z9 23 [.agg [enc n.kind,enc n.line,enc n.name,enc n.num,enc n.elem,enc n.dims,enc n.data,enc n.sizes,enc n.ranks,enc ks]]):=Zz.mp (.req (.keep (.nil))) h
theorem d0l{G:PV->Prop}(E:Y9)(n:Nd)(ks:List Tm)(c:Int)(h:G ((.bool true))):Kj Kw E 0 (Zb KN G) Gw 0 .normal ⟨ZL 23 0 [(2,.ptr 0 0),(3,.ptr 1 0)],[.obj (.box [.pv (.bool false)]),.obj (.box [.pv (.int .i64 c)])]⟩:=Zz.mp (.nil) h
theorem c0g{G:PV->Prop}(E:Y9)(n:Nd)(ks:List Tm)(c:Int)(rest:List Slot)(h:G ((.bool false))):Kj Kw E 0 (Zb KN G) Gw 0 .ret ⟨ZL 23 0 [(2,.ptr 0 0),(3,.ptr 1 0)],(.obj (.box [.pv (.bool false)]):: .obj (.box [.pv (.int .i64 c)])::rest)⟩:=Zz.mp (.nil) h
def Cq:IC:=(Vq [ZG 4 (.alloc (.agg [(.int .i64 0),(.int .i64 0),(.str []),(.int .i64 0),(.str []),(.sl 0 true []),(.sl 0 true []),(.sl 0 true []),(.sl 0 true []),(.sl 0 true [])])) 0,TR (.store 10 (.t 4) (.t 8)) 1] (.reg [ZG 5 (WC 9) 0] none))
noncomputable def c5w:ZC:=YM [(58,.own Yy (Xl 80)),(59,.pure (preT (fun x:Tm×Unit=>tW x.1)) (Zi (fun x:Tm×Unit=>Qz x.1)))]
theorem d0n{G:Zn->Prop}(E:Y9)(n:Nd)(ks:List Tm)(c v:Int)(h:E 99 ⟨ZL 23 0 [(2,(.ptr 0 0)),(3,(.ptr 1 0)),(4,(.ptr 2 0)),(5,(.pv (.int .i64 v)))],[(.obj (.box [(.pv (.bool false))])),(.obj (.box [(.pv (.int .i64 c))])),(.obj (.box [(.pv (.int .i64 (Nd.kind n))),(.pv (.int .i64 (Nd.line n))),(.pv (.str (Str.s (Nd.name n)))),(.pv (.int .i64 (Nd.num n))),(.pv (.str (Str.s (Nd.elem n)))),(.pv (.sl 1 false (List.map enc (Nd.dims n)))),(.pv (.sl 1 false (List.map enc (Nd.data n)))),(.pv (.sl 2 false (List.map enc (Nd.sizes n)))),(.pv (.sl 1 false (List.map enc (Nd.ranks n)))),(.pv (.sl 10 false (List.map enc ks)))]))]⟩ (fun x S'=>Kj c5w E 2 (fun st=>G st.heap) Cq 99 x S')):Zz c5w E 2 (fun st=>G st.heap) (.inl Cq) [.seq (.ext 99 [2,3,4,5])] ⟨ZL 23 0 [(2,.ptr 0 0),(3,.ptr 1 0),(8,.pv (.agg [enc n.kind,enc n.line,enc n.name,enc n.num,enc n.elem,enc n.dims,enc n.data,enc n.sizes,enc n.ranks,enc ks])),(9,.pv (.int .i64 v))],[.obj (.box [.pv (.bool false)]),.obj (.box [.pv (.int .i64 c)])]⟩:=Zz.mh (.nil) h
def BA:IC:=(.block 1 (Vq [ZG 10 (Ap [(.int .i64)] (.t 3)) 0,ZG 11 (DW .add (.t 10) (Qp 1)) 0,TR (.store 1 (.t 3) (.t 11)) 0] (Vq [ZG 12 (Ap [(.int .i64)] (.t 3)) 0,ZG 13 (DW .gtr (.t 12) (Qp 400)) 0,ZG 14 (WC 13) 0,r'' 15 (WC 5) 0 14,r'' 16 (DW .gtr (.t 15) (Qp 40)) 0 14,ZG 17 (.pick (.t 14) (.c (.bool true)) (.t 16)) 0,ZG 18 (WC 17) 0,r'' 19 (.load true [(.int .i64),(.int .i64),.str,(.int .i64),.str,(.sl 1),(.sl 1),(.sl 2),(.sl 1),(.sl 10)] (.t 4)) 0 18,r'' 20 (c'' 59 [(.t 19)]) 0 18,r'' 21 (.un .not (.t 20)) 2 18,ZG 22 (.pick (.t 18) (.c (.bool true)) (.t 21)) 2] (.cond (.t 22) (Vq [TR (.store 1 (.t 2) (.c (.bool false))) 0] .ret) .skip))))
noncomputable def c5x:ZC:=YM [(58,.own Yy (Xl 80)),(59,.pure (preT (fun x:Tm×Unit=>tW x.1)) (Zi (fun x:Tm×Unit=>Qz x.1)))]
theorem c8j{G:Zn->Prop}(E:Y9)(n:Nd)(ks:List Tm)(c v:Int)(h:if (decide (IntKind.wrap IntKind.i64 (c+1)>400))=true then G ([(.obj (.box [(.pv (.bool false))])),(.obj (.box [(.pv (.int .i64 (IntKind.wrap IntKind.i64 (c+1))))])),(.obj (.box [(.pv (.int .i64 (Nd.kind n))),(.pv (.int .i64 (Nd.line n))),(.pv (.str (Str.s (Nd.name n)))),(.pv (.int .i64 (Nd.num n))),(.pv (.str (Str.s (Nd.elem n)))),(.pv (.sl 1 false (List.map enc (Nd.dims n)))),(.pv (.sl 1 false (List.map enc (Nd.data n)))),(.pv (.sl 2 false (List.map enc (Nd.sizes n)))),(.pv (.sl 1 false (List.map enc (Nd.ranks n)))),(.pv (.sl 10 false (List.map enc ks)))])),.fresh,.fresh])else(if (decide (v>40))=true then G ([(.obj (.box [(.pv (.bool false))])),(.obj (.box [(.pv (.int .i64 (IntKind.wrap IntKind.i64 (c+1))))])),(.obj (.box [(.pv (.int .i64 (Nd.kind n))),(.pv (.int .i64 (Nd.line n))),(.pv (.str (Str.s (Nd.name n)))),(.pv (.int .i64 (Nd.num n))),(.pv (.str (Str.s (Nd.elem n)))),(.pv (.sl 1 false (List.map enc (Nd.dims n)))),(.pv (.sl 1 false (List.map enc (Nd.data n)))),(.pv (.sl 2 false (List.map enc (Nd.sizes n)))),(.pv (.sl 1 false (List.map enc (Nd.ranks n)))),(.pv (.sl 10 false (List.map enc ks)))])),.fresh,.fresh])else((d3s [(.agg [(.int .i64 (Nd.kind n)),(.int .i64 (Nd.line n)),(.str (Str.s (Nd.name n))),(.int .i64 (Nd.num n)),(.str (Str.s (Nd.elem n))),(.sl 1 false (List.map enc (Nd.dims n))),(.sl 1 false (List.map enc (Nd.data n))),(.sl 2 false (List.map enc (Nd.sizes n))),(.sl 1 false (List.map enc (Nd.ranks n))),(.sl 10 false (List.map enc ks))])] fun y0=>(if (!y0)=true then G ([(.obj (.box [(.pv (.bool false))])),(.obj (.box [(.pv (.int .i64 (IntKind.wrap IntKind.i64 (c+1))))])),(.obj (.box [(.pv (.int .i64 (Nd.kind n))),(.pv (.int .i64 (Nd.line n))),(.pv (.str (Str.s (Nd.name n)))),(.pv (.int .i64 (Nd.num n))),(.pv (.str (Str.s (Nd.elem n)))),(.pv (.sl 1 false (List.map enc (Nd.dims n)))),(.pv (.sl 1 false (List.map enc (Nd.data n)))),(.pv (.sl 2 false (List.map enc (Nd.sizes n)))),(.pv (.sl 1 false (List.map enc (Nd.ranks n)))),(.pv (.sl 10 false (List.map enc ks)))])),.fresh,.fresh])else(E 99 ⟨ZL 23 0 [],[(.obj (.box [(.pv (.bool false))])),(.obj (.box [(.pv (.int .i64 (IntKind.wrap IntKind.i64 (c+1))))])),(.obj (.box [(.pv (.int .i64 (Nd.kind n))),(.pv (.int .i64 (Nd.line n))),(.pv (.str (Str.s (Nd.name n)))),(.pv (.int .i64 (Nd.num n))),(.pv (.str (Str.s (Nd.elem n)))),(.pv (.sl 1 false (List.map enc (Nd.dims n)))),(.pv (.sl 1 false (List.map enc (Nd.data n)))),(.pv (.sl 2 false (List.map enc (Nd.sizes n)))),(.pv (.sl 1 false (List.map enc (Nd.ranks n)))),(.pv (.sl 10 false (List.map enc ks)))]))]⟩ (fun x S'=>Kj c5x E 3 (fun st=>G st.heap) BA 99 x S'))))))):Zz c5x E 3 (fun st=>G st.heap) (.inl BA) [.seq (.ext 99 [])] ⟨ZL 23 0 [(2,.ptr 0 0),(3,.ptr 1 0),(4,.ptr 2 0),(5,.pv (.int .i64 v))],[.obj (.box [.pv (.bool false)]),.obj (.box [.pv (.int .i64 c)]),.obj (.box [.pv (enc n.kind),.pv (enc n.line),.pv (enc n.name),.pv (enc n.num),.pv (enc n.elem),.pv (enc n.dims),.pv (enc n.data),.pv (enc n.sizes),.pv (enc n.ranks),.pv (enc ks)])]⟩:=Zz.mh (dm [dv Bool] 38 0x142251202222005422202222222008422) h
end Go.Pl
namespace Go.Pl
open Go.RowKit
open Enc (enc dec is)
open EncL (encL decL isL)
theorem c4j{s:Str}:(s=⟨[]⟩) ↔ s.s=[]:=by cases s;simp
theorem c0i(n:Nd):YF n 0 0=Cz n:=by
 unfold YF Cz
 cases n.sizes <;> cases n.ranks <;> simp <;> omega
theorem b7s(k:Nat):((k:Int)=1) ↔ k=1:=by omega
theorem c3b(k:Nat):((k:Int)=2) ↔ k=2:=by omega
theorem b9a(k:Nat):((1:Int)<=(k:Int)) ↔ 1<=k:=by omega
theorem b4m(k:Nat):((k:Int)<=16) ↔ k<=16:=by omega
theorem b3x(n:Nd):YF n 1 0=(decide (n.sizes.length<=1)&&n.sizes.all ZJ&&n.ranks.isEmpty):=by
 unfold YF
 rw[show decide ((n.sizes.length:Int)<=1)=decide (n.sizes.length<=1)from decide_eq_decide.2 (by omega),show decide ((n.ranks.length:Int)<=0)=n.ranks.isEmpty by cases n.ranks <;> simp <;> omega,Bool.and_assoc,Bool.and_assoc,Bool.and_comm n.ranks.isEmpty]
set_option maxHeartbeats 2000000 in
theorem a7b: ∀ x:Tm×Unit,tW x.1=true->Zd Ps 0 (Zb CG (Zr (Qz x.1))) Ml [] (Z9 b3o (encL x)):=by
 rintro⟨⟨n,ks⟩,⟨⟩⟩ ht
 rw[<- X7]
 show Zd Ps 0 (Zb CG (Zr (XB n ks.length))) _ _ _
 have hnm:decide (n.name.s.length<=1048576)=true:=decide_eq_true (F6 ht).name
 have har:a5b (R5 n)=true:=d0y ht
 have leaf : ∀ b:Bool,XB n ks.length=b->Zr (XB n ks.length) (.bool b):=fun b h=>ZA h.symm
 refine c1w n ks ?_
 refine Wi (fun h1=>leaf _ ?_) fun h1=>Wi (fun h2=>leaf _ ?_) fun h2=> ?_
 ·unfold XB;rw[decide_eq_false (by omega)];rfl
 ·unfold XB;rw[decide_eq_false (show ¬ n.line<=10000 by omega)];simp
 have hk:XB n ks.length=BB n ks.length:=by
  unfold XB;rw[decide_eq_true (by omega),decide_eq_true (show n.line<=10000 by omega)];simp
 rw[hk]at leaf ⊢
 repeat' (first
  | refine Uk (fun h=> ?_) (fun h=> ?_)
  | refine Wi (fun h=> ?_) (fun h=> ?_)
  | refine VN (fun h=> ?_) (fun h=> ?_)
  | refine⟨Zc (n.name,()) rfl hnm,Zf (n.name,()) rfl ?_⟩
  | refine⟨Zc (.mk n ks,0,0,()) (VK n ks 0 0) ht,Zf (.mk n ks,0,0,()) (VK n ks 0 0) ?_⟩
  | refine⟨Zc (.mk n ks,1,0,()) (VK n ks 1 0) ht,Zf (.mk n ks,1,0,()) (VK n ks 1 0) ?_⟩
  | refine⟨Zc (.mk n ks,()) (X7 n ks) ht,Zf (.mk n ks,()) (X7 n ks) ?_⟩
  | refine⟨Zc (R5 n,()) rfl har,Zf (R5 n,()) rfl ?_⟩
  | refine leaf _ ?_)
 all_goals clear ht hnm har leaf hk
 all_goals (unfold BB Ad;simp_all[c4j,Tm.nd,Tm.ks,c0i,R5,b7s,c3b,b9a,b4m,b3x])
 intro hk
 omega
end Go.Pl
namespace Go.Proofs.YtgdebdgkofkeeaaGreatDoor
open Go.RowKit Go.Pl
open Enc (enc dec is)
open EncL (encL decL isL)
set_option maxRecDepth 100000
def ndC(n:Nd)(ks:List Tm):List PV:=[enc n.kind,enc n.line,enc n.name,enc n.num,enc n.elem,enc n.dims,enc n.data,enc n.sizes,enc n.ranks,enc ks]
abbrev EC:ZC:=YM []
def eW(L:List (Nat×AV)):List AV:=ZL 28 0 L
def wk0(n:Nd)(ks:List Tm)(lev:Int)(l:Nat):List (Nat×AV):=[(0,.pv (.agg (ndC n ks))),(1,.pv (.int .i64 lev)),(2,.yld l)]
def wk1(n:Nd)(ks:List Tm)(lev:Int)(l:Nat):List (Nat×AV):=wk0 n ks lev l++[(3,.ptr 0 0),(6,.pv (.bool false))]
def wk2(n:Nd)(ks:List Tm)(lev:Int)(l:Nat):List (Nat×AV):=wk1 n ks lev l++[(9,.yld l),(10,.pv (.agg (ndC n ks))),(11,.pv (.int .i64 lev))]
def wk3(n:Nd)(ks:List Tm)(lev:Int)(l:Nat)(b:Bool):List (Nat×AV):=wk2 n ks lev l++[(12,.pv (.bool b))]
def wk4(n:Nd)(ks:List Tm)(lev:Int)(l:Nat)(b:Bool):List (Nat×AV):=wk3 n ks lev l b++[(13,.pv (.bool (!b)))]
def wk5(n:Nd)(ks:List Tm)(lev:Int)(l:Nat):List (Nat×AV):=wk4 n ks lev l true++[(14,.ptr 0 9),(15,.pv (enc ks)),(16,.pv (.int .i64 (ks.map enc).length)),(17,.pv (.int .i64 0))]
def wl0(ks:List Tm)(lev:Int)(l:Nat)(i:Int):List (Nat×AV):=[(17,.pv (.int .i64 i)),(16,.pv (.int .i64 (ks.map enc).length)),(15,.pv (enc ks)),(1,.pv (.int .i64 lev)),(2,.yld l)]
def wl1(ks:List Tm)(lev:Int)(l:Nat)(i:Int):List (Nat×AV):=wl0 ks lev l i++[(18,.pv (.bool (decide (i<((ks.map enc).length:Int)))))]
def wl5(ks:List Tm)(lev:Int)(l:Nat)(i:Int)(n:Nd)(kk:List Tm):List (Nat×AV):=wl1 ks lev l i++[(19,.pv (.rptr (ndC n kk))),(20,.pv (.agg (ndC n kk))),(8,.ptr 0 0)]
def wl6(ks:List Tm)(lev:Int)(l:Nat)(i:Int)(n:Nd)(kk:List Tm):List (Nat×AV):=wl5 ks lev l i n kk++[(21,.pv (.agg (ndC n kk))),(22,.pv (.int .i64 lev)),(23,.pv (.int .i64 (IntKind.i64.wrap (lev+1)))),(24,.yld l)]
def wl7(ks:List Tm)(lev:Int)(l:Nat)(i:Int)(b:Bool):List (Nat×AV):=wl0 ks lev l i++[(25,.pv (.bool b))]
def wl8(ks:List Tm)(lev:Int)(l:Nat)(i:Int)(b:Bool):List (Nat×AV):=wl7 ks lev l i b++[(26,.pv (.bool (!b)))]
def wl9(ks:List Tm)(lev:Int)(l:Nat)(i:Int):List (Nat×AV):=[(27,.pv (.int .i64 (IntKind.i64.wrap (i+1)))),(17,.pv (.int .i64 (IntKind.i64.wrap (i+1)))),(16,.pv (.int .i64 (ks.map enc).length)),(15,.pv (enc ks)),(1,.pv (.int .i64 lev)),(2,.yld l)]
def bx(n:Nd)(ks:List Tm):Zn:=[.obj (.box ((ndC n ks).map .pv))]
theorem OJ{T:ZC}{base d L sz:Nat}{env:List AV}{σ:Zn}{x i:IOp}{t:Bool}{xs:List PV}{n:Nat}{k:IntKind}{p:PV}{ps:List PI}(hx:ev env x = .pv (.sl sz t xs))(hi:ev env i = .pv (.int k (n:Int)))(hp:xs[n]? = some p):
  Uy T base (⟨some d,.iaddr sz x i,L,none⟩::ps) ⟨env,σ⟩=Uy T base ps ⟨env.set d (.pv (.rptr p.cells)),σ⟩:=by
 have hlt:n<xs.length:=(List.getElem?_eq_some_iff.1 hp).1
 have hg:xs[n]=p:=(List.getElem?_eq_some_iff.1 hp).2
 have h:(YX T (base+L) env (.iaddr sz x i)).run σ=some (.pv (.rptr p.cells),σ):=by
  simp only[YX,YB,hx,hi]
  simp[HM.run,hlt,hg]
 show(JZ T base ⟨some d,.iaddr sz x i,L,none⟩ ⟨env,σ⟩).bind (Uy T base ps)=_
 simp only[JZ,YK,h,Option.map_some,Option.bind_some,Z6]
set_option maxHeartbeats 1000000 in
theorem c6u: ∃ (o0 o1 o2 o3 o4 o5 o6 o7 o8 o9:Array Oper) (a1 b1 a6 b6:List Oper) (y c:Oper) (t1 t2:Array TypeId),
  Tryz.f81.body=some ((Code.region 0 o0 false).seq (((Code.region 1 o1 false).seq (Code.cond (.tmp 13) ((Code.region 2 o2 false).seq .ret) .skip)).seq (((Code.region 3 o3 false).seq (Code.block 0
   (Code.loop ((Code.region 4 o4 false).seq ((Code.cond (.tmp 18) .skip (.exit 0)).seq ((Code.block 1 ((Code.region 5 o5 false).seq ((Code.region 6 o6 false).seq (Code.cond (.tmp 26) ((Code.region 7 o7 false).seq .ret) .skip)))).seq (Code.region 8 o8 false))))))).seq ((Code.region 9 o9 false).seq .ret)))) ∧
  o1.toList=a1++y::b1∧y.op = .call {callee:=.value (.tmp 9),args:=#[.tmp 10,.tmp 11],argTypes:=t1}∧y.guard=none∧y.dst=some 12 ∧
  o6.toList=a6++c::b6∧c.op = .call {callee:=.value (.func 81),args:=#[.tmp 21,.tmp 23,.tmp 24],argTypes:=t2}∧c.guard=none∧c.dst=some 25 ∧
  (∀ n ks lev l,U0 Tryz.prog EC o0 o0.toList ⟨eW (wk0 n ks lev l),[]⟩=some ⟨eW (wk1 n ks lev l),bx n ks⟩) ∧
  (∀ n ks lev l,U0 Tryz.prog EC o1 a1 ⟨eW (wk1 n ks lev l),bx n ks⟩=some ⟨eW (wk2 n ks lev l),bx n ks⟩) ∧
  (∀ n ks lev l b,U0 Tryz.prog EC o1 b1 ⟨eW (wk3 n ks lev l b),bx n ks⟩=some ⟨eW (wk4 n ks lev l b),bx n ks⟩) ∧
  (∀ L,U0 Tryz.prog EC o2 o2.toList ⟨eW L,[]⟩=some ⟨(eW L).set 6 (.pv (.bool false)),[]⟩) ∧
  (∀ n ks lev l,U0 Tryz.prog EC o3 o3.toList ⟨eW (wk4 n ks lev l true),bx n ks⟩=some ⟨eW (wk5 n ks lev l),bx n ks⟩) ∧
  (∀ ks lev l i,U0 Tryz.prog EC o4 o4.toList ⟨eW (wl0 ks lev l i),[]⟩=some ⟨eW (wl1 ks lev l i),[]⟩) ∧
  (∀ ks lev l (i:Nat) n kk,ks[i]? = some (.mk n kk)->U0 Tryz.prog EC o5 o5.toList ⟨eW (wl1 ks lev l i),[]⟩=some ⟨eW (wl5 ks lev l i n kk),bx n kk⟩) ∧
  (∀ ks lev l i n kk,U0 Tryz.prog EC o6 a6 ⟨eW (wl5 ks lev l i n kk),bx n kk⟩=some ⟨eW (wl6 ks lev l i n kk),bx n kk⟩) ∧
  (∀ ks lev l i b,U0 Tryz.prog EC o6 b6 ⟨eW (wl7 ks lev l i b),[]⟩=some ⟨eW (wl8 ks lev l i b),[]⟩) ∧
  (∀ L,U0 Tryz.prog EC o7 o7.toList ⟨eW L,[]⟩=some ⟨(eW L).set 6 (.pv (.bool false)),[]⟩) ∧
  (∀ ks lev l i,U0 Tryz.prog EC o8 o8.toList ⟨eW (wl0 ks lev l i),[]⟩=some ⟨eW (wl9 ks lev l i),[]⟩) ∧
  (∀ L,U0 Tryz.prog EC o9 o9.toList ⟨eW L,[]⟩=some ⟨(eW L).set 6 (.pv (.bool true)),[]⟩):=by
 refine⟨_,_,_,_,_,_,_,_,_,_,[_,_,_],[_],[_,_,_,_],[_],_,_,_,_,rfl,rfl,rfl,rfl,rfl,rfl,rfl,rfl,rfl,?_,?_,?_,?_,?_,?_,?_,?_,?_,?_,?_,?_⟩
 ·intro n ks lev l;kernel_rfl
 ·intro n ks lev l;kernel_rfl
 ·intro n ks lev l b;kernel_rfl
 ·intro L;kernel_rfl
 ·intro n ks lev l;kernel_rfl
 ·intro ks lev l i;kernel_rfl
 ·intro ks lev l i n kk h
  unfold U0
  refine(Option.bind_eq_some_iff).2 ⟨_,(show Yz _ _ _ _=some [⟨some 19,.iaddr 10 (.t 15) (.t 17),0,none⟩,⟨some 20,.load true [.int .i64,.int .i64,.str,.int .i64,.str,.sl 1,.sl 1,.sl 2,.sl 1,.sl 10] (.t 19),0,none⟩,⟨some 8,.alloc (.agg [.int .i64 0,.int .i64 0,.str [],.int .i64 0,.str [],.sl 0 true [],.sl 0 true [],.sl 0 true [],.sl 0 true [],.sl 0 true []]),0,none⟩,⟨none,.store 10 (.t 8) (.t 20),1,none⟩] by kernel_rfl),?_⟩
  have hk:(ks.map (enc:Tm->PV))[i]? = some (.agg (ndC n kk)):=by
   rw[List.getElem?_map,h,Option.map_some,ZB];rfl
  refine(OJ (t:=false) (xs:=ks.map enc) (k:=.i64) (n:=i) rfl rfl hk).trans ?_
  kernel_rfl
 ·intro ks lev l i n kk;kernel_rfl
 ·intro ks lev l i b;kernel_rfl
 ·intro L;kernel_rfl
 ·intro ks lev l i;kernel_rfl
 ·intro L;kernel_rfl
def encNd(x:Tm×Int):List PV:=[enc x.1,.int .i64 x.2]
def Eh(J:Nat->Zo->(Nat->Prop)->World->Prop)(Jx:Zo->(Nat->Prop)->World->Prop)(k:Nat)(Φ:Zo)(X:Nat->Prop)(W:World)(e:Ending)(W':World):Prop:=
 ∃ Φ',Φ.le Φ'∧(∀ b,X b->W'.heap[b]? = W.heap[b]?)∧((e = .returned (.bool true)∧J k Φ' X W')∨(e = .returned (.bool false)∧Jx Φ' X W'))
theorem U5(a b:List Tm):Zm (a++b)=Zm a+Zm b:=by rw[Jo,Jo,Jo,List.map_append,List.sum_append]
theorem Lm(l:Nat)(a b:List Tm):ZF l (a++b)=ZF l a++ZF l b:=by rw[U9,U9,U9,List.flatMap_append]
theorem O7{ks:List Tm}{k:Tm}(h:k∈ks):Zk k<=Zm ks:=by
 induction ks with
 | nil=>cases h
 | cons a ks ih=>
  rw[Zm]
  rcases List.mem_cons.1 h with rfl|h
  ·omega
  ·have:=ih h;omega
theorem a3f(t:Tm):1<=Zk t:=by cases t;rw[Zk];omega
theorem Oc(ks:List Tm):ks.length<=Zm ks:=by
 induction ks with
 | nil=>simp
 | cons a ks ih=>have:=a3f a;rw[Zm,List.length_cons];omega
theorem JF(n:Nd)(ks:List Tm):Om (bx n ks):=by
 intro l o h ty sz xs e
 subst e
 match l,h with
 | 0,h=>cases h
 | l+1,h=>simp[bx]at h
theorem Ux:Om []:=by
 intro l o h
 simp at h
theorem Qn{Φ:Zo}{W:World}{a:Act}{env:List AV}(hg:GlobOK Φ)(hp:Yc Φ W)(he:YC (fun _ _=>none) Φ a.tmps env)(hd:a.defers=[]):Xv (entry (fun _ _=>none) Φ [] W) ⟨env,[]⟩ a W:=⟨_,Φ,WL hg hp,he,hd⟩
theorem WJ{μ':Mu}{Φ Φ':Zo}{σ':Zn}{W W':World}{X:Nat->Prop}(j1:Go.Pl.Good (entry (fun _ _=>none) Φ [] W) μ' Φ' σ' W')(hs:Om σ')(hx : ∀ b,X b->b<W.heap.size∧Φ b=none):
  Go.Pl.Steps X X Φ Φ' W W'∧(∀ b,X b->W'.heap[b]? = W.heap[b]?):=by
 obtain⟨h1,h2,h3⟩:=SA j1 hs hx
 exact⟨h1.drop fun b h=>.inl h,h2⟩
theorem U3{μ:Mu}{Φ:Zo}{a:Act}{env:List AV}{x:Operand}{y:IOp}{b:Bool}(h:YC μ Φ a.tmps env)(hx:ZU x=some y)(he:ev env y = .pv (.bool b)):a.eval x = .bool b:=by
 have:=ZE h hx
 rw[he]at this
 generalize a.eval x=v at this ⊢
 cases ZT this
 rfl
theorem c7b{μ:Mu}{Φ:Zo}{a:Act}{env:List AV}{x:Operand}{y:IOp}{k:IntKind}{n:Int}(h:YC μ Φ a.tmps env)(hx:ZU x=some y)(he:ev env y = .pv (.int k n)):a.eval x = .int k n:=by
 have:=ZE h hx
 rw[he]at this
 generalize a.eval x=v at this ⊢
 cases ZT this
 rfl
theorem O5{μ:Mu}{Φ:Zo}{a:Act}{env:List AV}{x:Operand}{y:IOp}{l:Nat}(h:YC μ Φ a.tmps env)(hx:ZU x=some y)(he:ev env y = .yld l):a.eval x = .func (.yield l) #[] #[]:=by
 have:=ZE h hx
 rw[he]at this
 generalize a.eval x=v at this ⊢
 cases this
 rfl
theorem a1d{μ:Mu}{Φ:Zo}{a:Act}{env:List AV}{x:Operand}{y:IOp}{p:PV}(h:YC μ Φ a.tmps env)(hx:ZU x=some y)(he:ev env y = .pv p):RP Φ (a.eval x) p:=by
 have:=ZE h hx
 rw[he]at this
 exact ZT this
theorem d1v{id:Nat}{ops:Array Oper}{b:Bool}{Q:Yw}{a:Act}{w:World}{Φ:Zo}{X:Nat->Prop}{J:Zo->(Nat->Prop)->World->Prop}(hJ:JOK J)(hj:J Φ X w)(hd:a.defers=[])(hsz:a.tmps.size=28)
  (h : ∀ L,U0 Tryz.prog EC ops ops.toList ⟨eW L,[]⟩=some ⟨(eW L).set 6 (.pv (.bool b)),[]⟩)
  (hQ : ∀ (a':Act) w' Φ',a'.defers=[]->a'.tmps.getD 6 undef = .bool b->Φ.le Φ'->(∀ b,X b->w'.heap[b]? = w.heap[b]?)->J Φ' X w'->Q .ret a' w'):((Code.region id ops false).seq .ret).wpIn (Yp none) 4 Tryz.prog Q a w:=by
 refine wpIn_seq (Gi Zh (h []) (Qn (hJ.glob hj) (hJ.phi hj) (RG (L:=[]) (n:=28) hsz (fun p hp=>by cases hp)) hd) ?_)
 rintro a' w' ⟨μ',Φ',hg,he,hd'⟩
 refine wpIn_ret ?_
 obtain⟨s1,s2⟩:=WJ hg Ux (fun b hb=>hJ.out hj hb)
 exact hQ a' w' Φ' hd' (U3 (x:=.tmp 6) (y:=.t 6) he rfl (by cases b <;> kernel_rfl)) hg.Φle s2 (hJ.step hj s1)
theorem d4s{Φ:Zo}{v:Value}{n:Nd}{ks:List Tm}{lev:Nat}{l:Nat}(hv:RP Φ v (.agg (ndC n ks))):YC (fun _ _=>none) Φ (#[v,.int .i64 lev,.func (.yield l) #[] #[]]++Array.replicate 25 undef) (eW (wk0 n ks lev l)):=by
 refine RG (by simp) ?_
 intro q hq u hu
 simp only[wk0,List.mem_cons,List.not_mem_nil,or_false]at hq
 rcases hq with rfl|rfl|rfl
 ·simp[Array.getElem?_append]at hu
  subst hu
  exact .pv _ _ hv
 ·simp[Array.getElem?_append]at hu
  subst hu
  exact .pv _ _ (.int _ _)
 ·simp[Array.getElem?_append]at hu
  subst hu
  exact .yld l
theorem O0{μ:Mu}{Φ:Zo}{t:Array Value}{L:List (Nat×AV)}(h:YC μ Φ t (eW L)):t.size=28:=(Ao (n:=28) h).1
set_option maxHeartbeats 4000000 in
theorem c2e{l:Nat}{J:Nat->Zo->(Nat->Prop)->World->Prop}{Jx:Zo->(Nat->Prop)->World->Prop}{xs:List (Tm×Int)}(hJok : ∀ k,JOK (J k))(hJxok:JOK Jx)(hY:a3a Tryz.prog l encNd xs J Jx):
  ∀ (m:Nat) (t:Tm),SizeOf.sizeOf t<m-> ∀ (lev k:Nat) (Φ:Zo) (X:Nat->Prop) (W:World) (v:Value),J k Φ X W->RP Φ v (enc t)->(∀ i x,(Zp lev t)[i]? = some x->xs[k+i]? = some x)->lev+Zk t<=4611686018427387904 ->
   Calls Tryz.prog 81 #[v,.int .i64 lev,.func (.yield l) #[] #[]] W (Eh J Jx (k+Zk t) Φ X W):=by
 intro m
 induction m with
 | zero=>intro t h;omega
 | succ m ih=>
  intro t ht lev k Φ X W v hj hv hx hlev
  obtain⟨n,ks⟩:=t
  obtain⟨o0,o1,o2,o3,o4,o5,o6,o7,o8,o9,a1,b1,a6,b6,y,c,t1,t2,hbody,e1,y1,y2,y3,e6,c1,c2,c3,h0,h1,h1b,h2,h3,h4,h5,h6,h6b,h7,h8,h9⟩:=c6u
  rw[ZB]at hv
  refine callsIn_wide.1 (callsIn_of_wp (F:=Fence.wide) (n:=4) Tryz.func81 hbody trivial ?_ rfl)
  have hE0:YC (fun _ _=>none) Φ (#[v,.int .i64 lev,.func (.yield l) #[] #[]]++Array.replicate 25 undef) (eW (wk0 n ks lev l)):=d4s hv
  have hX0 : ∀ b,X b->b<W.heap.size∧Φ b=none:=fun b hb=>(hJok k).out hj hb
  refine wpIn_seq (Gi (nn:=4) Zh (h0 n ks lev l) (Qn ((hJok k).glob hj) ((hJok k).phi hj) hE0 rfl) ?_)
  intro a w hr
  refine wpIn_seq (wpIn_seq (wpIn_region_list ?_))
  rw[e1]
  refine KR Zh (fun o ho=>by rw[e1];simp[ho]) (h1 n ks lev l) hr ?_
  rintro a2 w2 ⟨μ2,Φ2,hg2,he2,hd2⟩
  obtain⟨s2,k2,n2⟩:=SA hg2 (JF n ks) hX0
  have hj2:=(hJok k).step hj s2
  have hx0:xs[k]? = some (.mk n ks,(lev:Int)):=hx 0 _ (by rw[Zp];rfl)
  have r10:RP Φ2 (a2.eval (.tmp 10)) (enc (Tm.mk n ks)):=by
   rw[ZB]
   exact a1d he2 (y:=.t 10) rfl (by kernel_rfl)
  have r11:RP Φ2 (a2.eval (.tmp 11)) (.int .i64 lev):=a1d he2 (y:=.t 11) rfl (by kernel_rfl)
  have hvs:Xk Φ2 (#[a2.eval (.tmp 10),a2.eval (.tmp 11)]:Array Value).toList (encNd (.mk n ks,(lev:Int))):=c8i r10 (c8i r11 a2p)
  refine a7z y1 y2 y3 (O5 he2 (y:=.t 9) rfl (by kernel_rfl)) (vs:=#[a2.eval (.tmp 10),a2.eval (.tmp 11)]) (by simp) (hY 3 k _ Φ2 _ w2 _ hx0 hj2 hvs) ?_
  rintro e w3 ⟨Φ3,hle3,hkeep3,hres⟩
  -- both answers
  have both : ∀ (b:Bool) (JJ:Zo->(Nat->Prop)->World->Prop),JOK JJ->JJ Φ3 (fun b=>X b∨HZ μ2 (bx n ks) b) w3-> 
    Xv (entry μ2 Φ3 (bx n ks) w3) ⟨eW (wk3 n ks lev l b),bx n ks⟩ (a2.put (some 12) (.bool b)) w3:=by
   intro b JJ hJJ hjj
   refine⟨μ2,Φ3,hg2.moved (hJJ.glob hjj) hle3 (hJJ.phi hjj) (fun q hq=>hkeep3 q (.inr hq)) (fun q hq=>(hJJ.out hjj (.inr hq)).2) (JF n ks),?_,by rw[Xt];exact hd2⟩
   have:=Qe (d:=some 12) (he2.mono (.refl _) hle3) (.pv _ _ (.bool b))
   exact this
  have fin : ∀ (b:Bool) (a':Act) (w':World) (Φ':Zo),a'.defers=[]->a'.tmps.getD 6 undef = .bool b->(Eh J Jx (k+Zk (.mk n ks)) Φ X W (.returned (.bool b)) w')->bodyPost Tryz.prog Tryz.f81 (Eh J Jx (k+Zk (.mk n ks)) Φ X W) .ret a' w':=by
   intro b a' w' Φ' hd h6 hp
   refine bodyPost_ret (results_tmp rfl _ _ _) hd ?_
   rw[h6]
   exact hp
  rcases hres with ⟨rfl,hj3⟩|⟨rfl,hj3⟩
  ·refine⟨_,rfl,?_⟩
   rw[<- List.append_nil b1]
   refine KR Zh (fun o ho=>by rw[e1];simp[ho]) (h1b n ks lev l true) (both true _ (hJok _) hj3) ?_
   intro a4 w4 hr4
   have he4:=hr4
   obtain⟨μ4,Φ4,hg4,he4,hd4⟩:=he4
   refine wpIn_cond (t:=false) (U3 (x:=.tmp 13) (y:=.t 13) he4 rfl (by kernel_rfl)) (wpIn_skip ?_)
   refine wpIn_seq (wpIn_seq (Gi (nn:=4) Zh (h3 n ks lev l) hr4 ?_))
   rintro a5 w5 ⟨μ5,Φ5,hg5,he5,hd5⟩
   have hX3 : ∀ b,X b->b<w3.heap.size∧Φ3 b=none:=fun b hb=>(hJok _).out hj3 (.inl hb)
   obtain⟨s5,k5⟩:=GQ hg5 (JF n ks) hX3 n2
   have hj5:=(hJok _).step hj3 (s5.drop (Y:=X) fun b h=>.inl h)
   have hk5 : ∀ b,X b->w5.heap[b]? = W.heap[b]? :=fun b hb=>(k5 b hb).trans ((hkeep3 b (.inl hb)).trans (k2 b hb))
   have hle5:Φ.le Φ5:=hg2.Φle.trans (hle3.trans hg5.Φle)
   have he5':YC (fun _ _=>none) Φ5 a5.tmps (eW (wl0 ks lev l 0)):=b7x (n:=28) he5 (.refl _) (by
    intro p hp
    simp only[wl0,List.mem_cons,List.not_mem_nil,or_false]at hp
    rcases hp with rfl|rfl|rfl|rfl|rfl <;> exact⟨by simp,rfl,rfl⟩)
   clear both hr4 hg4 he4 hd4 hE0 hr hg2 he2 hd2 r10 r11 hvs
   refine wpIn_block (wpIn_loop_ghost (fun(z:Nat) (a:Act) (w:World)=> ∃ (i:Nat) (Φ':Zo),z=ks.length - i∧i<=ks.length∧Φ.le Φ'∧(∀ b,X b->w.heap[b]? = W.heap[b]?)∧J (k+1+Zm (ks.take i)) Φ' X w∧YC (fun _ _=>none) Φ' a.tmps (eW (wl0 ks lev l i))∧a.defers=[]) _
    ⟨0,Φ5,rfl,Nat.zero_le _,hle5,hk5,hj5,he5',hd5⟩ ?_)
   clear hj5 hk5 hle5 he5' hd5 s5 k5 hg5 he5
   rintro z a w ⟨i,Φi,rfl,hi,hle,hk,hj,he,hd⟩
   have hXi : ∀ b,X b->b<w.heap.size∧Φi b=none:=fun b hb=>(hJok _).out hj hb
   refine wpIn_seq (Gi (nn:=4) Zh (h4 ks lev l i) (Qn ((hJok _).glob hj) ((hJok _).phi hj) he hd) ?_)
   intro a7 w7 hr7
   have hr7':=hr7
   obtain⟨μ7,Φ7,hg7,he7,hd7⟩:=hr7'
   by_cases hlt:i<ks.length
   ·have hb:decide ((i:Int)<((ks.map (enc:Tm->PV)).length:Int))=true:=by simpa using hlt
    refine wpIn_seq (wpIn_cond (t:=true) (U3 (x:=.tmp 18) (y:=.t 18) he7 rfl (by rw[<- hb];kernel_rfl)) (wpIn_skip ?_))
    obtain⟨kn,kk,hkk⟩ : ∃ kn kk,ks[i]? = some (.mk kn kk):=by
     cases hki:ks[i]with
     | mk kn kk=>exact⟨kn,kk,by rw[List.getElem?_eq_getElem hlt,hki]⟩
    refine wpIn_seq (wpIn_block (wpIn_seq (Gi (nn:=4) Zh (h5 ks lev l i kn kk hkk) hr7 ?_)))
    intro a8 w8 hr8
    refine wpIn_seq (wpIn_region_list ?_)
    rw[e6]
    refine KR Zh (fun o ho=>by rw[e6];simp[ho]) (h6 ks lev l i kn kk) hr8 ?_
    rintro a9 w9 ⟨μ9,Φ9,hg9,he9,hd9⟩
    obtain⟨s9,k9⟩:=WJ hg9 (JF kn kk) hXi
    have hj9:=(hJok _).step hj s9
    have hmem:Tm.mk kn kk∈ks:=List.mem_of_getElem? hkk
    have hsz:=F7 (n:=n) hmem
    have hdm:=O7 hmem
    have hdp:Zk (.mk n ks)=Zm ks+1:=by rw[Zk]
    have hkl:=Oc ks
    have hcut:ks=ks.take i++(.mk kn kk)::ks.drop (i+1):=by
     have h:=List.getElem?_eq_some_iff.1 hkk
     obtain⟨h1,h2⟩:=h
     rw[<- h2,List.getElem_cons_drop,List.take_append_drop]
    have r21:RP Φ9 (a9.eval (.tmp 21)) (enc (Tm.mk kn kk)):=by
     rw[ZB]
     exact a1d he9 (y:=.t 21) rfl (by kernel_rfl)
    have e23:a9.eval (.tmp 23) = .int .i64 ((lev+1:Nat):Int):=by
     have:=c7b (x:=.tmp 23) (y:=.t 23) he9 rfl (by kernel_rfl:_=AV.pv (.int .i64 (IntKind.i64.wrap ((lev:Int)+1))))
     rw[this,next (by omega)]
    have e24:a9.eval (.tmp 24) = .func (.yield l) #[] #[]:=O5 he9 (y:=.t 24) rfl (by kernel_rfl)
    have hxk : ∀ j x,(Zp (lev+1) (.mk kn kk))[j]? = some x->xs[k+1+Zm (ks.take i)+j]? = some x:=by
     intro j x hjx
     have:(Zp lev (.mk n ks))[1+Zm (ks.take i)+j]? = some x:=by
      rw[Zp,show 1+Zm (ks.take i)+j=(Zm (ks.take i)+j)+1 by omega,List.getElem?_cons_succ,hcut,Lm,ZF,<- hcut,<- KQ (lev+1) (ks.take i),
       List.getElem?_append_right (by omega),Nat.add_sub_cancel_left,List.getElem?_append_left (List.getElem?_eq_some_iff.1 hjx).1,hjx]
     have:=hx _ _ this
     rw[<- this]
     congr 1
     omega
    have hcall:=ih (.mk kn kk) (by omega) (lev+1) (k+1+Zm (ks.take i)) Φ9 X w9 _ hj9 r21 hxk (by omega)
    refine Na c1 c2 c3 Tryz.func81 rfl (by kernel_rfl) (vs:=#[a9.eval (.tmp 21),.int .i64 ((lev+1:Nat):Int),.func (.yield l) #[] #[]]) (by simp only[List.map_toArray,List.map_cons,List.map_nil,e23,e24]) hcall ?_
    rintro e w10 ⟨Φ10,hle10,hkeep10,hres⟩
    have hks : ∀ b,X b->w10.heap[b]? = W.heap[b]? :=fun b hb=>(hkeep10 b hb).trans ((k9 b hb).trans (hk b hb))
    have he10 : ∀ b,YC (fun _ _=>none) Φ10 (a9.put (some 25) (.bool b)).tmps (eW (wl7 ks lev l i b)):=by
     intro b
     have h:=Qe (d:=some 25) (he9.mono (.refl _) hle10) (.pv _ _ (.bool b))
     refine b7x (n:=28) (L:=wl6 ks lev l i kn kk++[(25,.pv (.bool b))]) h (.refl _) ?_
     intro p hp
     simp only[wl7,wl0,List.mem_cons,List.mem_append,List.not_mem_nil,or_false]at hp
     rcases hp with (rfl|rfl|rfl|rfl|rfl)|rfl <;> exact⟨by simp,rfl,rfl⟩
    have hsz10:ks.take (i+1)=ks.take i++[.mk kn kk]:=by rw[List.take_add_one,hkk];rfl
    rcases hres with ⟨rfl,hj10⟩|⟨rfl,hj10⟩
    ·refine⟨_,rfl,?_⟩
     rw[<- List.append_nil b6]
     refine KR Zh (fun o ho=>by rw[e6];simp[ho]) (h6b ks lev l i true) (Qn ((hJok _).glob hj10) ((hJok _).phi hj10) (he10 true) (by rw[Xt];exact hd9)) ?_
     intro a11 w11 hr11
     obtain⟨μ11,Φ11,hg11,he11,hd11⟩:=hr11
     obtain⟨s11,k11⟩:=WJ hg11 Ux (fun b hb=>(hJok _).out hj10 hb)
     have hj11:=(hJok _).step hj10 s11
     refine wpIn_cond (t:=false) (U3 (x:=.tmp 26) (y:=.t 26) he11 rfl (by kernel_rfl)) (wpIn_skip ?_)
     have he11':YC (fun _ _=>none) Φ11 a11.tmps (eW (wl0 ks lev l i)):=b7x (n:=28) he11 (.refl _) (by
      intro p hp
      simp only[wl0,List.mem_cons,List.not_mem_nil,or_false]at hp
      rcases hp with rfl|rfl|rfl|rfl|rfl <;> exact⟨by simp,rfl,rfl⟩)
     refine Gi (nn:=4) Zh (h8 ks lev l i) (Qn ((hJok _).glob hj11) ((hJok _).phi hj11) he11' hd11) ?_
     rintro a12 w12 ⟨μ12,Φ12,hg12,he12,hd12⟩
     obtain⟨s12,k12⟩:=WJ hg12 Ux (fun b hb=>(hJok _).out hj11 hb)
     have hj12:=(hJok _).step hj11 s12
     refine⟨ks.length - (i+1),by omega,i+1,Φ12,rfl,hlt,hle.trans (hg9.Φle.trans (hle10.trans (hg11.Φle.trans hg12.Φle))),fun b hb=>(k12 b hb).trans ((k11 b hb).trans (hks b hb)),?_,?_,hd12⟩
     ·rw[hsz10,U5,Zm,Zm,Nat.add_zero,<- Nat.add_assoc]
      exact hj12
     ·refine b7x (n:=28) he12 (.refl _) ?_
      intro p hp
      simp only[wl0,List.mem_cons,List.not_mem_nil,or_false]at hp
      rcases hp with rfl|rfl|rfl|rfl|rfl
      ·exact⟨by simp,by rw[<- next (show i<9223372036854775807 by omega)];rfl,rfl⟩
      all_goals exact⟨by simp,rfl,rfl⟩
    ·refine⟨_,rfl,?_⟩
     rw[<- List.append_nil b6]
     refine KR Zh (fun o ho=>by rw[e6];simp[ho]) (h6b ks lev l i false) (Qn (hJxok.glob hj10) (hJxok.phi hj10) (he10 false) (by rw[Xt];exact hd9)) ?_
     rintro a11 w11 ⟨μ11,Φ11,hg11,he11,hd11⟩
     obtain⟨s11,k11⟩:=WJ hg11 Ux (fun b hb=>hJxok.out hj10 hb)
     have hj11:=hJxok.step hj10 s11
     refine wpIn_cond (t:=true) (U3 (x:=.tmp 26) (y:=.t 26) he11 rfl (by kernel_rfl)) ?_
     refine d1v hJxok hj11 hd11 (O0 he11) h7 ?_
     intro a' w' Φ' hd' h6' hle' hk' hj'
     refine fin false a' w' Φ' hd' h6' ⟨Φ',?_,fun b hb=>(hk' b hb).trans ((k11 b hb).trans (hks b hb)),.inr ⟨rfl,hj'⟩⟩
     exact hle.trans (hg9.Φle.trans (hle10.trans (hg11.Φle.trans hle')))
   ·have hb:decide ((i:Int)<((ks.map (enc:Tm->PV)).length:Int))=false:=by simpa using hlt
    refine wpIn_seq (wpIn_cond (t:=false) (U3 (x:=.tmp 18) (y:=.t 18) he7 rfl (by rw[<- hb];kernel_rfl)) (wpIn_exit ?_))
    obtain⟨s7,k7⟩:=WJ hg7 Ux hXi
    have hj7:=(hJok _).step hj s7
    have hii:i=ks.length:=by omega
    subst hii
    rw[List.take_length]at hj7
    show((Code.region 9 o9 false).seq .ret).wpIn _ _ _ _ _ _
    refine d1v (hJok _) hj7 hd7 (O0 he7) h9 ?_
    intro a' w' Φ' hd' h6' hle' hk' hj'
    refine fin true a' w' Φ' hd' h6' ⟨Φ',hle.trans (hg7.Φle.trans hle'),fun b hb=>(hk' b hb).trans ((k7 b hb).trans (hk b hb)),.inl ⟨rfl,?_⟩⟩
    rw[Zk,show k+(Zm ks+1)=k+1+Zm ks by omega]
    exact hj'
  ·refine⟨_,rfl,?_⟩
   rw[<- List.append_nil b1]
   refine KR Zh (fun o ho=>by rw[e1];simp[ho]) (h1b n ks lev l false) (both false _ hJxok hj3) ?_
   rintro a4 w4 ⟨μ4,Φ4,hg4,he4,hd4⟩
   refine wpIn_cond (t:=true) (U3 (x:=.tmp 13) (y:=.t 13) he4 rfl (by kernel_rfl)) ?_
   obtain⟨s4,k4⟩:=GQ hg4 (JF n ks) (fun b hb=>hJxok.out hj3 (.inl hb)) n2
   have hj4:=hJxok.step hj3 (s4.drop (Y:=X) fun b h=>.inl h)
   refine d1v hJxok hj4 hd4 (O0 he4) h2 ?_
   intro a' w' Φ' hd' h6' hle' hk' hj'
   exact fin false a' w' Φ' hd' h6' ⟨Φ',hg2.Φle.trans (hle3.trans (hg4.Φle.trans hle')),fun b hb=>(hk' b hb).trans ((k4 b hb).trans ((hkeep3 b (.inl hb)).trans (k2 b hb))),.inr ⟨rfl,hj'⟩⟩
def d3o(pss:List (List PV)):Tm:=match pss with
 | [ps]=>dec (.agg ps)
 | _=>.mk nd0 []
noncomputable def pre_ndI(pss:List (List PV)):Bool:=match pss with
 | [ps]=>can Tm (.agg ps)&&decide (Zk (dec (.agg ps))<=1048576)
 | _=>false
def F_ndI(pss:List (List PV)):List (Tm×Int):=Zp 1 (d3o pss)
theorem tmOf_nd(n:Nd)(ks:List Tm):d3o [ndC n ks] = .mk n ks:=by
 show dec (PV.agg (ndC n ks))=_
 rw[show(PV.agg (ndC n ks))=enc (Tm.mk n ks)from(ZB n ks).symm,Enc.dec_enc]
theorem pre_nd{n:Nd}{ks:List Tm}(h:Zk (.mk n ks)<=1048576):pre_ndI [ndC n ks]=true:=by
 show(can Tm (.agg (ndC n ks))&&decide (Zk (dec (PV.agg (ndC n ks)))<=1048576))=true
 rw[show(PV.agg (ndC n ks))=enc (Tm.mk n ks)from(ZB n ks).symm,Enc.dec_enc,Ua,Bool.true_and]
 exact decide_eq_true h
theorem c7x: ∃ (o:Array Oper) (a:List Oper) (c:Oper) (t:Array TypeId),Tryz.f80.body=some (.region 0 o false)∧o.toList=a++[c] ∧
  c.op = .call {callee:=.value (.func 81),args:=#[.tmp 3,.const (.int .i64 1),.tmp 4],argTypes:=t}∧c.guard=none∧c.dst=some 5 ∧
  ∀ n ks l,U0 Tryz.prog EC o a ⟨ZL 6 0 [(0,.yld l),(1,.pv (.rptr (ndC n ks)))],[]⟩=some ⟨ZL 6 0 [(0,.yld l),(1,.pv (.rptr (ndC n ks))),(3,.pv (.agg (ndC n ks))),(4,.yld l)],[]⟩:=by
 refine⟨_,[_,_],_,_,rfl,rfl,rfl,rfl,rfl,?_⟩
 intro n ks l
 kernel_rfl
set_option maxHeartbeats 1000000 in
theorem Jq:a9b Tryz.prog 80 encNd pre_ndI F_ndI:=by
 refine⟨⟨_,Tryz.func80,rfl,rfl⟩,?_⟩
 intro pss hpre Φ0 lb l J Jx W hcaps hJok hJxok hY h0
 unfold pre_ndI at hpre
 split at hpre
 ·rename_i ps
  simp only[Bool.and_eq_true,decide_eq_true_eq]at hpre
  obtain⟨hc,hsz⟩:=hpre
  obtain⟨t,ht⟩:=Pe hc
  obtain⟨n,ks⟩:=t
  rw[ht,Enc.dec_enc]at hsz
  rw[ZB]at ht
  obtain rfl:ps=ndC n ks:=by injection ht
  have hF:F_ndI [ndC n ks]=Zp 1 (.mk n ks):=by unfold F_ndI;rw[tmOf_nd]
  rw[hF]at hY ⊢
  obtain⟨lb⟩:=lb
  match lb,hcaps.1 with
  | [p1],_=>
   obtain⟨B1,c1,rfl,g1,r1,o1⟩:=hcaps.2 0 p1 _ rfl rfl
   have k1:=a6e g1 r1 o1
   obtain⟨o,a,c,t,hbody,e1,c1,c2,c3,hgo⟩:=c7x
   refine callsIn_wide.1 (callsIn_of_wp (F:=Fence.wide) (n:=4) Tryz.func80 hbody trivial ?_ rfl)
   have hE:YC (fun _ _=>none) Φ0 ((#[Value.func (.yield l) #[] #[]]++ #[Value.pointer (some ⟨B1,0,none⟩)])++Array.replicate 4 undef) (ZL 6 0 [(0,.yld l),(1,.pv (.rptr (ndC n ks)))]):=by
    refine RG (by simp) ?_
    intro q hq u hu
    simp only[List.mem_cons,List.not_mem_nil,or_false]at hq
    rcases hq with rfl|rfl
    ·simp[Array.getElem?_append]at hu
     subst hu
     exact .yld l
    ·simp[Array.getElem?_append]at hu
     subst hu
     exact .pv _ _ k1
   refine wpIn_region_list ?_
   rw[e1]
   refine KR (nn:=4) Zh (fun x hx=>by rw[e1];simp[hx]) (hgo n ks l) (Qn ((hJok 0).glob h0) ((hJok 0).phi h0) hE rfl) ?_
   rintro a2 w2 ⟨μ2,Φ2,hg2,he2,hd2⟩
   obtain⟨s2,k2⟩:=WJ (X:=fun _=>False) hg2 Ux (fun b hb=>hb.elim)
   have hj2:=(hJok _).step h0 s2
   have r3:RP Φ2 (a2.eval (.tmp 3)) (enc (Tm.mk n ks)):=by
    rw[ZB]
    exact a1d he2 (y:=.t 3) rfl (by kernel_rfl)
   have e4:a2.eval (.tmp 4) = .func (.yield l) #[] #[]:=O5 he2 (y:=.t 4) rfl (by kernel_rfl)
   have hcall:=c2e hJok hJxok hY (SizeOf.sizeOf (Tm.mk n ks)+1) (.mk n ks) (Nat.lt_succ_self _) 1 0 Φ2 _ w2 _ hj2 r3 (fun i x h=>by rw[Nat.zero_add];exact h) (by omega)
   refine Na c1 c2 c3 Tryz.func81 rfl (by kernel_rfl) (vs:=#[a2.eval (.tmp 3),.int .i64 ((1:Nat):Int),.func (.yield l) #[] #[]]) (by simp only[List.map_toArray,List.map_cons,List.map_nil,e4];rfl) hcall ?_
   rintro e w3 ⟨Φ3,hle3,hkeep3,hres⟩
   have fin : ∀ v,(∃ Φ' X',J (Zp 1 (.mk n ks)).length Φ' X' w3∨Jx Φ' X' w3)->wpListIn (Yp none) 4 Tryz.prog o (bodyPost Tryz.prog Tryz.f80 fun e W'=>(∃ v,e = .returned v)∧ ∃ Φ' X',(J (Zp 1 (.mk n ks)).length Φ' X' W'∨Jx Φ' X' W')) [] (a2.put (some 5) v) w3:=by
    intro v hv
    exact⟨by rw[Xt];exact hd2,_,results_none rfl _ _ _,⟨_,rfl⟩,hv⟩
   rcases hres with ⟨rfl,hj3⟩|⟨rfl,hj3⟩
   ·refine⟨_,rfl,fin _ ⟨Φ3,fun _=>False,.inl ?_⟩⟩
    rw[X6,<- Nat.zero_add (Zk _)]
    exact hj3
   ·exact⟨_,rfl,fin _ ⟨Φ3,_,.inr hj3⟩⟩
 ·cases hpre
end Go.Proofs.YtgdebdgkofkeeaaGreatDoor
namespace Go.Pl
open Go.RowKit
open Enc (enc dec is)
open EncL (encL decL isL)
open Go.Proofs.YtgdebdgkofkeeaaGreatDoor (encNd pre_ndI F_ndI tmOf_nd pre_nd)
theorem b6n: ∀ args os,Yy args os=true->Zd Ex os.length (Z8 os.length Rk fun r=>r=Xl 80 args os) Pj [] (XJ c4b args os):=by
 intro args os h
 unfold Yy at h
 split at h
 ·obtain⟨⟨n,ks⟩,rfl⟩:=Pe h
  rw[ZB]
  exact c7r n ks rfl
 ·cases h
def tvI(t:Tm)(k:Nat)(σ:Zn):Prop:=(∀ j p,j<k->(Zp 1 t)[j]? = some p->ET j p=true)∧k<=400∧σ=[.obj (.box [.pv (.bool false)]),.obj (.box [.pv (.int .i64 k)])]
def tvX(t:Tm)(σ:Zn):Prop:=Xr t=false∧ ∃ (c:Int) (r:List Slot),σ = .obj (.box [.pv (.bool false)]):: .obj (.box [.pv (.int .i64 c)])::r
def tvE:Y9:=fun n st q=>n=0∧Cx Kw 0 (.t 7) 80 [8,9] Cq BA encNd pre_ndI F_ndI st q
def tvM(t:Tm)(k:Nat)(x:Tm×Int)(st:St):Prop:=(∀ j p,j<k->(Zp 1 t)[j]? = some p->ET j p=true)∧k<=400 ∧
 st=⟨ZL 23 0 [(2,.ptr 0 0),(3,.ptr 1 0),(4,.ptr 2 0),(5,.pv (.int .i64 x.2))],[.obj (.box [.pv (.bool false)]),.obj (.box [.pv (.int .i64 k)]),.obj (.box ((Go.Proofs.YtgdebdgkofkeeaaGreatDoor.ndC x.1.nd x.1.ks).map .pv))]⟩
theorem b8a: ∀ x:Tm×Unit,tW x.1=true->V4 Kw tvE 0 (Zb KN (Zr (Xr x.1))) Gw [] (Z9 c7t (encL x)):=by
 rintro⟨t,⟨⟩⟩ ht
 have ht:tW t=true:=ht
 obtain⟨n,ks⟩:=t
 rw[<- X7]
 show V4 Kw tvE 0 (Zb KN (Zr (Xr (.mk n ks)))) _ _ _
 have hsz:Zk (.mk n ks)<=1048576:=Nat.le_trans (UL _) (of_decide_eq_true ht)
 have hF:F_ndI [Go.Proofs.YtgdebdgkofkeeaaGreatDoor.ndC n ks]=Zp 1 (.mk n ks):=by unfold F_ndI;rw[tmOf_nd]
 refine d3x tvE n ks ⟨?_,rfl,[2],[Go.Proofs.YtgdebdgkofkeeaaGreatDoor.ndC n ks],[2,3],[2,3,4,5],[],⟨ZL 23 0 [(2,.ptr 0 0),(3,.ptr 1 0)],[.obj (.box [.pv (.bool false)]),.obj (.box [.pv (.int .i64 0)])]⟩,tvI (.mk n ks),tvX (.mk n ks),tvM (.mk n ks),
  rfl,by simp,rfl,?_,by kernel_rfl,pre_nd hsz,⟨fun j p hj=>by omega,by omega,rfl⟩,?_,?_,?_,?_⟩
 ·show can Tm (PV.agg (Go.Proofs.YtgdebdgkofkeeaaGreatDoor.ndC n ks))=true
  rw[show(PV.agg (Go.Proofs.YtgdebdgkofkeeaaGreatDoor.ndC n ks))=enc (Tm.mk n ks)from(ZB n ks).symm,Ua]
 ·intro j l ps hl hps
  match j with
  | 0=>cases hl;cases hps;rfl
  | j+1=>simp at hl
 ·rintro k ⟨⟨xn,xk⟩,v⟩ σ hx ⟨hall,hk,rfl⟩
  have e:KJ [8,9] ((encNd (.mk xn xk,v)).map .pv) (ZL 23 0 [(2,.ptr 0 0),(3,.ptr 1 0)])=ZL 23 0 [(2,.ptr 0 0),(3,.ptr 1 0),(8,.pv (.agg (Go.Proofs.YtgdebdgkofkeeaaGreatDoor.ndC xn xk))),(9,.pv (.int .i64 v))]:=by
   show KJ [8,9] (([enc (Tm.mk xn xk),.int .i64 v]).map .pv) _=_
   rw[ZB]
   kernel_rfl
  rw[e]
  exact d0n (G:=fun _=>False) _ xn xk k v ⟨rfl,hall,hk,rfl⟩
 ·rintro k ⟨⟨xn,xk⟩,v⟩ st hx ⟨hall,hk,rfl⟩
  rw[hF]at hx
  have hno:=fun h=>b6m (.mk n ks) hx h
  have hw:IntKind.i64.wrap ((k:Int)+1)=((k+1:Nat):Int):=next (by omega)
  refine c8j (G:=tvX (.mk n ks)) _ xn xk k v ?_
  rw[hw]
  have bad:ET k (.mk xn xk,v)=false-> ∀ r,tvX (.mk n ks) (.obj (.box [.pv (.bool false)]):: .obj (.box [.pv (.int .i64 ((k+1:Nat):Int))])::r):=fun h r=>⟨hno h,_,r,rfl⟩
  refine Wi (fun h1=>bad ?_ _) fun h1=>Wi (fun h2=>bad ?_ _) fun h2=>⟨Zc (.mk xn xk,()) (X7 xn xk) (Ab ht (List.mem_of_getElem? hx)),Zf (.mk xn xk,()) (X7 xn xk) (Uq (fun h3=>bad ?_ _) fun h3=>⟨rfl,⟨ZL 23 0 [(2,.ptr 0 0),(3,.ptr 1 0)],[.obj (.box [.pv (.bool false)]),.obj (.box [.pv (.int .i64 ((k+1:Nat):Int))])]⟩,by kernel_rfl,rfl,?_,?_,rfl⟩)⟩
  ·unfold ET;rw[decide_eq_false (show ¬ k<400 by omega)];rfl
  ·unfold ET;rw[decide_eq_false (show ¬ v<=40 by omega),Bool.and_false];rfl
  ·have h3:Qz (.mk xn xk)=false:=h3
   unfold ET;rw[h3,Bool.and_false]
  ·have h3:Qz (.mk xn xk)=true:=h3
   intro j p hj hp
   rw[Nat.lt_succ_iff_lt_or_eq]at hj
   rcases hj with hj|rfl
   ·exact hall j p hj hp
   ·rw[hx]at hp
    cases hp
    unfold ET
    rw[h3,decide_eq_true (show j<400 by omega),decide_eq_true (show v<=40 by omega)];rfl
  ·omega
 ·rintro σ ⟨hall,hk,rfl⟩
  refine d0l tvE n ks _ (ZA (a4x _ fun j p hp=>hall j p ?_ hp).symm)
  rw[hF]
  exact(List.getElem?_eq_some_iff.1 hp).1
 ·rintro σ ⟨hv,c,r,rfl⟩
  exact c0g tvE n ks c r (ZA hv.symm)
end Go.Pl
namespace Go.Pl
open Go.RowKit
open Enc (enc dec is)
open EncL (encL decL isL)
open Go.Proofs.YtgdebdgkofkeeaaGreatDoor (encNd pre_ndI F_ndI tmOf_nd pre_nd)
abbrev AL(n:Nd)(ks:List Tm):List PV:=Go.Proofs.YtgdebdgkofkeeaaGreatDoor.ndC n ks
def Dp(t:Tm):Int:=Zk t
def c2b(t:Tm)(k:Nat)(σ:Zn):Prop:=σ=[.obj (.box [.pv (.int .i64 (((Zp 1 t).take k).length:Int))])]
def d4a(t:Tm)(k:Nat)(x:Tm×Int)(st:St):Prop:=st=⟨ZL 11 0 [(3,.ptr 0 0)],[.obj (.box [.pv (.int .i64 (((Zp 1 t).take k).length:Int))])]⟩
def a5m:Y9:=fun n st q=>n=0∧Cx UY 0 (.t 5) 80 [6,7] JC J5 encNd pre_ndI F_ndI st q
theorem c2m: ∀ x:Tm×Unit,tW x.1=true->V4 UY a5m 0 (Zb Kk (Zr (Dp x.1))) JA [] (Z9 b9f (encL x)):=by
 rintro⟨t,⟨⟩⟩ ht
 have ht:tW t=true:=ht
 obtain⟨n,ks⟩:=t
 rw[<- X7]
 show V4 UY a5m 0 (Zb Kk (Zr (Dp (.mk n ks)))) _ _ _
 have hsz:Zk (.mk n ks)<=1048576:=Nat.le_trans (UL _) (of_decide_eq_true ht)
 have hlen:(Zp 1 (.mk n ks)).length=Zk (.mk n ks):=X6 _ _
 have hF:F_ndI [AL n ks]=Zp 1 (.mk n ks):=by unfold F_ndI;rw[tmOf_nd]
 refine d0m a5m n ks ⟨?_,rfl,[1],[AL n ks],[3],[3],[],⟨ZL 11 0 [(3,.ptr 0 0)],[.obj (.box [.pv (.int .i64 0)])]⟩,c2b (.mk n ks),fun _=>False,d4a (.mk n ks),rfl,by simp,rfl,?_,by kernel_rfl,pre_nd hsz,rfl,?_,?_,?_,?_⟩
 ·show can Tm (PV.agg (AL n ks))=true
  rw[show(PV.agg (AL n ks))=enc (Tm.mk n ks)from(ZB n ks).symm,Ua]
 ·intro j l ps hl hps
  match j with
  | 0=>cases hl;cases hps;rfl
  | j+1=>simp at hl
 ·rintro k ⟨⟨xn,xk⟩,v⟩ σ hx hi
  unfold c2b at hi
  subst hi
  have e:KJ [6,7] ((encNd (.mk xn xk,v)).map .pv) (ZL 11 0 [(3,.ptr 0 0)])=ZL 11 0 [(3,.ptr 0 0),(6,.pv (.agg (AL xn xk))),(7,.pv (.int .i64 v))]:=by
   show KJ [6,7] (([enc (Tm.mk xn xk),.int .i64 v]).map .pv) _=_
   rw[ZB]
   kernel_rfl
  rw[e]
  exact c3a (G:=fun _=>False) _ xn xk _ v ⟨rfl,rfl⟩
 ·rintro k ⟨⟨xn,xk⟩,v⟩ st hx hst
  unfold d4a at hst
  subst hst
  rw[hF]at hx
  have hk:k<Zk (.mk n ks):=by rw[<- hlen];exact(List.getElem?_eq_some_iff.1 hx).1
  have ek:(Zp 1 (.mk n ks)).take (k+1)=(Zp 1 (.mk n ks)).take k++[(.mk xn xk,v)]:=by rw[List.take_add_one,hx];rfl
  refine c0t (G:=fun _=>False) _ xn xk _ v ⟨rfl,_,rfl,rfl,?_⟩
  unfold c2b
  rw[ek,List.length_append,next (by rw[List.length_take];omega)]
  rfl
 ·rintro σ hi
  unfold c2b at hi
  subst hi
  rw[hF,List.take_length]
  exact c2a a5m n ks _ (Uz (by unfold Dp;rw[hlen]))
 ·exact fun σ h=>h.elim
def mxF(c v:Int):Int:=if v>c then v else c
mutual
theorem b6s: ∀ (t:Tm) (l:Nat) (c:Int),((Zp l t).map (·.2)).foldl mxF c=max c ((l:Int)+ZI t - 1)
 | .mk n ks,l,c=>by
  rw[Zp,List.map_cons,List.foldl_cons,Sc ks (l+1) (mxF c l) (by unfold mxF;split <;> omega),ZI]
  unfold mxF
  split <;> omega
theorem Sc: ∀ (ks:List Tm) (l:Nat) (c:Int),(l:Int) - 1<=c->((ZF l ks).map (·.2)).foldl mxF c=max c ((l:Int)+ZW ks - 1)
 | [],l,c,h=>by rw[ZF,ZW];simp;omega
 | k::ks,l,c,h=>by
  rw[ZF,List.map_append,List.foldl_append,b6s k l c,Sc ks l _ (by omega),ZW]
  omega
end
theorem c3f{t:Tm}(h:tW t=true): ∀ s∈(Ye t).flatMap XN,s.s.length<=1048576:=by
 intro s hs
 obtain⟨p,hp,hs⟩:=List.mem_flatMap.1 hs
 unfold Ye at hp
 obtain⟨q,hq,rfl⟩:=List.mem_map.1 hp
 have hw:=Ab h hq
 unfold XN at hs
 split at hs
 ·have:s=q.1.nd.name:=by simpa using hs
  subst this
  obtain⟨⟨n,ks⟩,l⟩:=q
  exact(F6 hw).name
 ·cases hs
theorem Mr{α β:Type}(f:α->List β)(hf : ∀ x,(f x).length<=1): ∀ l:List α,(l.flatMap f).length<=l.length
 | []=>by simp
 | a::l=>by have:=hf a;have:=Mr f hf l;rw[List.flatMap_cons,List.length_append,List.length_cons];omega
theorem Ti(t:Tm):((Ye t).flatMap XN).length<=Zk t:=by
 have:=Mr XN (fun x=>by unfold XN;split <;> simp) (Ye t)
 rw[UQ]at this
 exact this
def Ov(t:Tm)(k:Nat)(σ:Zn):Prop:=σ=[.obj (.box [.map 1]),.obj (.map (Yb (Wm ((((Zp 1 t).take k).map (·.1)).flatMap XN))))]
def d3d(t:Tm)(k:Nat)(x:Tm×Int)(st:St):Prop:=st=⟨ZL 29 0 [(3,.ptr 0 0),(4,.ptr 2 0)],[.obj (.box [.map 1]),.obj (.map (Yb (Wm ((((Zp 1 t).take k).map (·.1)).flatMap XN)))),.obj (.box (Yk x.1.nd x.1.ks))]⟩
def a4k:Y9:=fun n st q=>n=0∧Cx Qg 0 (.t 7) 80 [8,9] Km V6 encNd pre_ndI F_ndI st q
theorem b8n: ∀ x:Tm×Unit,tW x.1=true->V4 Qg a4k 0 (Zb QX (Zr (Y6 x.1))) Jp [] (Z9 b9e (encL x)):=by
 rintro⟨t,⟨⟩⟩ ht
 have ht:tW t=true:=ht
 obtain⟨n,ks⟩:=t
 rw[<- X7]
 show V4 Qg a4k 0 (Zb QX (Zr (Y6 (.mk n ks)))) _ _ _
 have hsz:Zk (.mk n ks)<=1048576:=Nat.le_trans (UL _) (of_decide_eq_true ht)
 have hlen:(Zp 1 (.mk n ks)).length=Zk (.mk n ks):=X6 _ _
 have hF:F_ndI [AL n ks]=Zp 1 (.mk n ks):=by unfold F_ndI;rw[tmOf_nd]
 refine d1b a4k n ks ⟨?_,rfl,[1],[AL n ks],[3],[3,4],[],⟨ZL 29 0 [(3,.ptr 0 0)],[.obj (.box [.map 1]),.obj (.map (Yb []))]⟩,Ov (.mk n ks),fun _=>False,d3d (.mk n ks),rfl,by simp,rfl,?_,by kernel_rfl,pre_nd hsz,rfl,?_,?_,?_,?_⟩
 ·show can Tm (PV.agg (AL n ks))=true
  rw[show(PV.agg (AL n ks))=enc (Tm.mk n ks)from(ZB n ks).symm,Ua]
 ·intro j l ps hl hps
  match j with
  | 0=>cases hl;cases hps;rfl
  | j+1=>simp at hl
 ·rintro k ⟨⟨xn,xk⟩,v⟩ σ hx hi
  unfold Ov at hi
  subst hi
  have e:KJ [8,9] ((encNd (.mk xn xk,v)).map .pv) (ZL 29 0 [(3,.ptr 0 0)])=ZL 29 0 [(3,.ptr 0 0),(8,.pv (.agg (AL xn xk))),(9,.pv (.int .i64 v))]:=by
   show KJ [8,9] (([enc (Tm.mk xn xk),.int .i64 v]).map .pv) _=_
   rw[ZB]
   kernel_rfl
  rw[e]
  exact c0z (G:=fun _=>False) _ xn xk _ v ⟨rfl,rfl⟩
 ·rintro k ⟨⟨xn,xk⟩,v⟩ st hx hst
  unfold d3d at hst
  subst hst
  rw[hF]at hx
  have hk:k<Zk (.mk n ks):=by rw[<- hlen];exact(List.getElem?_eq_some_iff.1 hx).1
  have ek:(Zp 1 (.mk n ks)).take (k+1)=(Zp 1 (.mk n ks)).take k++[(.mk xn xk,v)]:=by rw[List.take_add_one,hx];rfl
  have yes:(xn.kind=6∨xn.kind=8∨xn.kind=9)->WQ (enc xn.name) (PV.bool true) (Yb (Wm (((Zp 1 (.mk n ks)).take k).map (·.1) |>.flatMap XN)))=true∧Ov (.mk n ks) (k+1) [.obj (.box [.map 1]),.obj (.map (XI (enc xn.name) (PV.bool true) (Yb (Wm (((Zp 1 (.mk n ks)).take k).map (·.1) |>.flatMap XN)))))]:=fun h=>by
   refine⟨(Gj _ xn.name).1,?_⟩
   unfold Ov
   rw[show XI (enc xn.name) (PV.bool true) (Yb (Wm (((Zp 1 (.mk n ks)).take k).map (·.1) |>.flatMap XN)))=_ from(Gj _ xn.name).2,ek,List.map_append,List.flatMap_append]
   unfold Wm
   rw[List.foldl_append,List.map_cons,List.map_nil,List.flatMap_cons,List.flatMap_nil]
   rw[show XN (.mk xn xk)=[xn.name]from if_pos h]
   rfl
  have no : ¬ (xn.kind=6∨xn.kind=8∨xn.kind=9)->Ov (.mk n ks) (k+1) [.obj (.box [.map 1]),.obj (.map (Yb (Wm (((Zp 1 (.mk n ks)).take k).map (·.1) |>.flatMap XN))))]:=fun h=>by
   unfold Ov
   rw[ek,List.map_append,List.flatMap_append,List.map_cons,List.map_nil,List.flatMap_cons,List.flatMap_nil,show XN (.mk xn xk)=[]from if_neg h]
   simp
  refine c3v (G:=fun _=>False) _ xn xk _ v (Uk (fun h1=>⟨(yes (.inl h1)).1,rfl,_,rfl,rfl,(yes (.inl h1)).2⟩) fun h1=>Uk (fun h2=>⟨(yes (.inr (.inl h2))).1,rfl,_,rfl,rfl,(yes (.inr (.inl h2))).2⟩) fun h2=>Uk (fun h3=>⟨(yes (.inr (.inr h3))).1,rfl,_,rfl,rfl,(yes (.inr (.inr h3))).2⟩) fun h3=>⟨rfl,_,rfl,rfl,no (by rintro(h|h|h);exact h1 h;exact h2 h;exact h3 h)⟩)
 ·rintro σ hi
  unfold Ov at hi
  subst hi
  rw[hF,List.take_length]
  refine b8x a4k n ks _ ⟨?_,?_⟩
  ·show(79==79&&Kg (Yb (Wm ((Ye (.mk n ks)).flatMap XN))))=true
   rw[b7q (c3f ht) (by have:=Ti (.mk n ks);omega)]
   simp
  ·show Zr _ (PV.sl 1 false (List.map PV.str (YP (List.map Vm (Yb (Wm ((Ye (.mk n ks)).flatMap XN)))))))
   rw[MP]
   exact J4 rfl
 ·exact fun σ h=>h.elim
end Go.Pl
namespace Go.Pl
open Go.RowKit
mutual
theorem Rz: ∀ (t:Tm) (bd:List Str) (x:Str),x∈Yt bd t ↔ x ∉ bd∧x∈Yt [] t
 | .mk n ks,bd,x=>by
  rw[Yt,Yt,List.mem_append,List.mem_append,Nq ks bd]
  have h:(x∈(if n.kind=1∧n.name ∉ bd then [n.name]else []) ↔ x ∉ bd∧x∈(if n.kind=1∧n.name ∉ ([]:List Str)then [n.name]else [])):=by
   by_cases h1:n.kind=1
   ·by_cases h2:n.name∈bd
    ·rw[if_neg (fun h=>h.2 h2),if_pos ⟨h1,by simp⟩]
     simp only[List.not_mem_nil,List.mem_singleton,false_iff]
     rintro⟨h3,rfl⟩
     exact h3 h2
    ·rw[if_pos ⟨h1,h2⟩,if_pos ⟨h1,by simp⟩]
     simp only[List.mem_singleton]
     exact⟨fun e=>⟨e▸h2,e⟩,fun e=>e.2⟩
   ·rw[if_neg (fun h=>h1 h.1),if_neg (fun h=>h1 h.1)];simp
  rw[h]
  exact⟨fun h=>h.elim (fun h=>⟨h.1,.inl h.2⟩) fun h=>⟨h.1,.inr h.2⟩,fun h=>h.2.elim (fun k=>.inl ⟨h.1,k⟩) fun k=>.inr ⟨h.1,k⟩⟩
theorem Nq: ∀ (ks:List Tm) (bd:List Str) {l:Bool} {s:Str} {i:Nat} {x:Str},x∈Ym bd l s i ks ↔ x ∉ bd∧x∈Ym [] l s i ks
 | [],bd,l,s,i,x=>by simp[Ym]
 | k::ks,bd,l,s,i,x=>by
  rw[Ym,Ym,List.mem_append,List.mem_append,Nq ks bd]
  have h:(x∈Yt (if l&&decide (i=1)then s::bd else bd) k ↔ x ∉ bd∧x∈Yt (if l&&decide (i=1)then [s]else []) k):=by
   by_cases c:(l&&decide (i=1))=true
   ·rw[if_pos c,if_pos c,Rz k (s::bd),Rz k [s]]
    simp only[List.mem_cons,List.not_mem_nil,or_false,not_or]
    exact⟨fun h=>⟨h.1.2,h.1.1,h.2⟩,fun h=>⟨⟨h.2.1,h.1⟩,h.2.2⟩⟩
   ·rw[if_neg c,if_neg c,Rz k bd]
  rw[h]
  exact⟨fun h=>h.elim (fun h=>⟨h.1,.inl h.2⟩) fun h=>⟨h.1,.inr h.2⟩,fun h=>h.2.elim (fun k=>.inl ⟨h.1,k⟩) fun k=>.inr ⟨h.1,k⟩⟩
end
theorem Ty(l:List Str):(Vi l).length<=l.length:=by
 unfold Vi YP
 rw[List.length_map,List.length_mergeSort,List.length_map]
 have:=UJ l []
 have e:Wm l=l.foldl Y2 []:=rfl
 rw[e]
 simpa using this
theorem b1r(t:Tm):(ZZ t).length<=Zk t:=Nat.le_trans (Ty _) (QH [] t)
theorem Ez(t:Tm):(Y6 t).length<=Zk t:=Nat.le_trans (Ty _) (Ti t)
end Go.Pl
namespace Go.Pl
open Go.RowKit
open Enc (enc dec is)
def Dk(m:List Int):List (PV×PV):=m.map fun z=>(PV.int .i64 z,PV.bool true)
def Je(m:List Int)(z:Int):List Int:=if z∈m then m else m++[z]
def GD(l:List Int):List Int:=l.foldl Je []
def a8t(l:List Int):List Int:=Ws (GD l)
def O4(t:Tm):List Int:=(Ye t).map fun x=>x.nd.line
def Xn(t:Tm):List Int:=a8t (O4 t)
theorem c2v(m:List Int)(z:Int):WQ (.int .i64 z) (.bool true) (Dk m)=true∧XI (.int .i64 z) (.bool true) (Dk m)=Dk (Je m z):=by
 have key:upd (.int .i64 z) (.bool true) (Dk m)=some (Dk (Je m z)):=by
  induction m with
  | nil=>rfl
  | cons a m ih=>
   show(match VV (.int .i64 z) (.int .i64 a)with|some true=>some ((PV.int .i64 z,PV.bool true)::Dk m)|some false=>(upd (.int .i64 z) (.bool true) (Dk m)).map ((PV.int .i64 a,PV.bool true):: ·)|none=>none)=_
   by_cases h:z=a
   ·subst h
    have:VV (.int .i64 z) (.int .i64 z)=some true:=by simp[VV]
    rw[this]
    unfold Je
    rw[if_pos (by simp)]
    rfl
   ·have:VV (.int .i64 z) (.int .i64 a)=some false:=by simp[VV,h]
    rw[this,ih]
    unfold Je
    by_cases hm:z∈m
    ·rw[if_pos hm,if_pos (by simp[hm])];rfl
    ·rw[if_neg hm,if_neg (by simp[hm,h])];rfl
 exact⟨by unfold WQ;rw[key];rfl,by unfold XI;rw[key];rfl⟩
theorem Ea{m:List Int}(h:m.Nodup)(s:Int):(Je m s).Nodup:=by
 unfold Je
 split
 ·exact h
 ·rename_i hs
  exact List.nodup_append.2 ⟨h,by simp,fun a ha b hb=>by simp at hb;subst hb;exact fun e=>hs (e▸ha)⟩
theorem Du: ∀ (l m:List Int),m.Nodup->(l.foldl Je m).Nodup
 | [],m,h=>h
 | a::l,m,h=>Du l _ (Ea h a)
theorem b4j{m:List Int}{s x:Int}:x∈Je m s ↔ x∈m∨x=s:=by
 unfold Je
 split
 ·rename_i h
  exact⟨.inl,fun k=>k.elim id fun e=>e▸h⟩
 ·simp
theorem SF: ∀ (l m:List Int) (x:Int),x∈l.foldl Je m ↔ x∈m∨x∈l
 | [],m,x=>by simp
 | a::l,m,x=>by rw[List.foldl_cons,SF l _ x,b4j];simp[or_assoc]
theorem b6g(m:List Int)(s:Int):(Je m s).length<=m.length+1:=by unfold Je;split <;> simp
theorem H8: ∀ (l m:List Int),(l.foldl Je m).length<=m.length+l.length
 | [],m=>by simp
 | a::l,m=>by
  rw[List.foldl_cons]
  have h1:=H8 l (Je m a)
  have h2:=b6g m a
  rw[List.length_cons];omega
end Go.Pl
namespace Go.Pl
open Go.RowKit
open Enc (enc dec is)
open EncL (encL decL isL)
set_option maxRecDepth 100000
noncomputable def JE:IC:=icx Uu Proofs.Tryz.f34
def Q3:List IRes:=[(.tmp 2)]
abbrev c3c:Nat:=16
noncomputable def U4:ZC:=YM [(58,.own Yy (Xl 80)),(73,.own Xw (We 99)),(72,.own (WN 99) VH)]
theorem c9m{G:PV->Prop}(E:Y9)(n:Nd)(ks:List Tm)(h:(Yy [(.pv (.agg [(.int .i64 (Nd.kind n)),(.int .i64 (Nd.line n)),(.str (Str.s (Nd.name n))),(.int .i64 (Nd.num n)),(.str (Str.s (Nd.elem n))),(.sl 1 false (List.map enc (Nd.dims n))),(.sl 1 false (List.map enc (Nd.data n))),(.sl 2 false (List.map enc (Nd.sizes n))),(.sl 1 false (List.map enc (Nd.ranks n))),(.sl 10 false (List.map enc ks))]))] [])=true∧(E 0 ⟨ZL 16 0 [(3,(.ptr 0 0)),(4,.undef),(7,(.fn 80 [] [(.ptr 1 0)])),(8,.undef),(10,.undef),(11,.undef),(12,.undef)],[(.obj (.box [(.map 2)])),(.obj (.box (Yk n ks))),(.obj (.map []))]⟩ (fun x S'=>Kj U4 E 0 (Zb Q3 G) JE 0 x S'))):Zz U4 E 0 (Zb Q3 G) (.inl JE) [] (Z9 16 [.agg [enc n.kind,enc n.line,enc n.name,enc n.num,enc n.elem,enc n.dims,enc n.data,enc n.sizes,enc n.ranks,enc ks]]):=Zz.mp (.req (.keep (.nil))) h
theorem c3i{G:PV->Prop}(E:Y9)(n:Nd)(ks:List Tm)(m:List Int)(h:(WN 99 [(.fn 99 [] [(.ptr 0 0)])] [(.box [(.map 1)]),(.map (Dk m))])=true∧(G ((.sl 1 false (List.map (PV.int .i64) (Ws (List.map Uh (Dk m)))))))):Kj U4 E 0 (Zb Q3 G) JE 0 .normal ⟨ZL 16 0 [(3,.ptr 0 0)],[.obj (.box [.map 1]),.obj (.map (Dk m))]⟩:=Zz.mp (.lit (.keep (.req (.keep (.nil))))) h
def J9:IC:=Km
noncomputable def a9s:ZC:=YM [(58,.own Yy (Xl 80)),(73,.own Xw (We 99)),(72,.own (WN 99) VH)]
theorem b9j{G:Zn->Prop}(E:Y9)(n:Nd)(ks:List Tm)(m:List Int)(v:Int)(h:E 99 ⟨ZL 16 0 [(3,(.ptr 0 0)),(4,(.ptr 2 0))],[(.obj (.box [(.map 1)])),(.obj (.map (Dk m))),(.obj (.box (Yk n ks)))]⟩ (fun x S'=>Kj a9s E 2 (fun st=>G st.heap) J9 99 x S')):Zz a9s E 2 (fun st=>G st.heap) (.inl J9) [.seq (.ext 99 [3,4])] ⟨ZL 16 0 [(3,.ptr 0 0),(8,.pv (.agg [enc n.kind,enc n.line,enc n.name,enc n.num,enc n.elem,enc n.dims,enc n.data,enc n.sizes,enc n.ranks,enc ks])),(9,.pv (.int .i64 v))],[.obj (.box [.map 1]),.obj (.map (Dk m))]⟩:=Zz.mh (.nil) h
def JX:IC:=(.block 1 (.reg [ZG 10 (.load false [.any] (.t 3)) 0,ZG 11 (.faddr 1 (.t 4)) 0,ZG 12 (Ap [(.int .i64)] (.t 11)) 0,TR (.mapupd false (.t 10) (.t 12) (.c (.bool true))) 0] none))
noncomputable def a7j:ZC:=YM [(58,.own Yy (Xl 80)),(73,.own Xw (We 99)),(72,.own (WN 99) VH)]
theorem c3y{G:Zn->Prop}(E:Y9)(n:Nd)(ks:List Tm)(m:List Int)(v:Int)(h:(WQ (enc (Nd.line n)) (PV.bool true) (Dk m))=true∧(E 99 ⟨ZL 16 0 [],[(.obj (.box [(.map 1)])),(.obj (.map (XI (enc (Nd.line n)) (PV.bool true) (Dk m)))),(.obj (.box (Yk n ks)))]⟩ (fun x S'=>Kj a7j E 3 (fun st=>G st.heap) JX 99 x S'))):Zz a7j E 3 (fun st=>G st.heap) (.inl JX) [.seq (.ext 99 [])] ⟨ZL 16 0 [(3,.ptr 0 0),(4,.ptr 2 0)],[.obj (.box [.map 1]),.obj (.map (Dk m)),.obj (.box [.pv (enc n.kind),.pv (enc n.line),.pv (enc n.name),.pv (enc n.num),.pv (enc n.elem),.pv (enc n.dims),.pv (enc n.data),.pv (enc n.sizes),.pv (enc n.ranks),.pv (enc ks)])]⟩:=Zz.mh (.req (.nil)) h
noncomputable def RH:IC:=Wy Proofs.Tryz.f73
def Pk:List IRes:=[(.tmp 2)]
abbrev c1n:Nat:=4
noncomputable def O6:ZC:=YM []
theorem c7d{G:AV×List AObj×List AObj->Prop}(es:List (PV×PV))(h:G (((.fn 99 [] [(.ptr 1 0)]),([(.map es)],[(.box [(.map 0)])])))):Zd O6 1 (Z8 1 Pk G) RH [] (XJ 4 [.map 0] [.map es]):=Zd.to (.nil) h
end Go.Pl
namespace Go.Pl
open Go.RowKit
open Enc (enc dec is)
open EncL (encL decL isL)
open Go.Proofs.YtgdebdgkofkeeaaGreatDoor (encNd pre_ndI F_ndI tmOf_nd pre_nd)
def lnB(x:Tm):Bool:=decide (-9223372036854775808<=x.nd.line)&&decide (x.nd.line<=9223372036854775807)
def Ug(t:Tm):Bool:=(Ye t).all lnB
theorem a2m(m:List Int):List.map Uh (Dk m)=m:=by
 induction m with
 | nil=>rfl
 | cons a m ih=>
  show Uh (.int .i64 a,.bool true)::List.map Uh (Dk m)=_
  rw[ih];rfl
theorem c9a{l:List Int}(h1 : ∀ z∈l,-9223372036854775808<=z∧z<=9223372036854775807)(h2:l.length<=1048576):JD (Dk (GD l))=true:=by
 have hm : ∀ z∈GD l,z∈l:=fun z hz=>by
  have:=(SF l [] z).1 hz
  simpa using this
 have hl:(GD l).length<=1048576:=by
  have:=H8 l []
  unfold GD
  simp at this
  omega
 unfold JD
 rw[a2m]
 simp only[Bool.and_eq_true,decide_eq_true_eq]
 refine⟨⟨List.all_eq_true.2 fun p hp=> ?_,Du l [] List.nodup_nil⟩,by unfold Dk;rw[List.length_map];exact hl⟩
 unfold Dk at hp
 obtain⟨z,hz,rfl⟩:=List.mem_map.1 hp
 obtain⟨a,b⟩:=h1 z (hm z hz)
 show(decide _&&decide _)=true
 rw[decide_eq_true a,decide_eq_true b];rfl
abbrev LQ(n:Nd)(ks:List Tm):List PV:=Go.Proofs.YtgdebdgkofkeeaaGreatDoor.ndC n ks
def c3p(t:Tm)(k:Nat)(σ:Zn):Prop:=σ=[.obj (.box [.map 1]),.obj (.map (Dk (GD ((((Zp 1 t).take k).map (·.1)).map fun x=>x.nd.line))))]
def d5a(t:Tm)(k:Nat)(x:Tm×Int)(st:St):Prop:=st=⟨ZL 16 0 [(3,.ptr 0 0),(4,.ptr 2 0)],[.obj (.box [.map 1]),.obj (.map (Dk (GD ((((Zp 1 t).take k).map (·.1)).map fun x=>x.nd.line)))),.obj (.box (Yk x.1.nd x.1.ks))]⟩
def a6q:Y9:=fun n st q=>n=0∧Cx U4 0 (.t 7) 80 [8,9] J9 JX encNd pre_ndI F_ndI st q
theorem c4m: ∀ x:Tm×Unit,(tW x.1&&Ug x.1)=true->V4 U4 a6q 0 (Zb Q3 (Zr (Xn x.1))) JE [] (Z9 c3c (encL x)):=by
 rintro⟨t,⟨⟩⟩ ht
 have hln:Ug t=true:=(Bool.and_eq_true _ _▸ht).2
 have ht:tW t=true:=(Bool.and_eq_true _ _▸ht).1
 obtain⟨n,ks⟩:=t
 rw[<- X7]
 show V4 U4 a6q 0 (Zb Q3 (Zr (Xn (.mk n ks)))) _ _ _
 have hsz:Zk (.mk n ks)<=1048576:=Nat.le_trans (UL _) (of_decide_eq_true ht)
 have hlen:(Zp 1 (.mk n ks)).length=Zk (.mk n ks):=X6 _ _
 have hF:F_ndI [LQ n ks]=Zp 1 (.mk n ks):=by unfold F_ndI;rw[tmOf_nd]
 refine c9m a6q n ks ⟨?_,rfl,[1],[LQ n ks],[3],[3,4],[],⟨ZL 16 0 [(3,.ptr 0 0)],[.obj (.box [.map 1]),.obj (.map (Dk []))]⟩,c3p (.mk n ks),fun _=>False,d5a (.mk n ks),rfl,by simp,rfl,?_,by kernel_rfl,pre_nd hsz,rfl,?_,?_,?_,?_⟩
 ·show can Tm (PV.agg (LQ n ks))=true
  rw[show(PV.agg (LQ n ks))=enc (Tm.mk n ks)from(ZB n ks).symm,Ua]
 ·intro j l ps hl hps
  match j with
  | 0=>cases hl;cases hps;rfl
  | j+1=>simp at hl
 ·rintro k ⟨⟨xn,xk⟩,v⟩ σ hx hi
  unfold c3p at hi
  subst hi
  have e:KJ [8,9] ((encNd (.mk xn xk,v)).map .pv) (ZL 16 0 [(3,.ptr 0 0)])=ZL 16 0 [(3,.ptr 0 0),(8,.pv (.agg (LQ xn xk))),(9,.pv (.int .i64 v))]:=by
   show KJ [8,9] (([enc (Tm.mk xn xk),.int .i64 v]).map .pv) _=_
   rw[ZB]
   kernel_rfl
  rw[e]
  exact b9j (G:=fun _=>False) _ xn xk _ v ⟨rfl,rfl⟩
 ·rintro k ⟨⟨xn,xk⟩,v⟩ st hx hst
  unfold d5a at hst
  subst hst
  rw[hF]at hx
  have hk:k<Zk (.mk n ks):=by rw[<- hlen];exact(List.getElem?_eq_some_iff.1 hx).1
  have ek:(Zp 1 (.mk n ks)).take (k+1)=(Zp 1 (.mk n ks)).take k++[(.mk xn xk,v)]:=by rw[List.take_add_one,hx];rfl
  have e:=c2v (GD ((((Zp 1 (.mk n ks)).take k).map (·.1)).map fun x=>x.nd.line)) xn.line
  refine c3y (G:=fun _=>False) _ xn xk _ v ⟨e.1,rfl,_,rfl,rfl,?_⟩
  unfold c3p
  rw[show XI (enc xn.line) (PV.bool true) (Dk (GD ((((Zp 1 (.mk n ks)).take k).map (·.1)).map fun x=>x.nd.line)))=_ from e.2,ek,List.map_append,List.map_append]
  unfold GD
  rw[List.foldl_append]
  rfl
 ·rintro σ hi
  unfold c3p at hi
  subst hi
  rw[hF,List.take_length]
  refine c3i a6q n ks _ ⟨?_,?_⟩
  ·show(99==99&&JD (Dk (GD ((Ye (.mk n ks)).map fun x=>x.nd.line))))=true
   rw[c9a (fun z hz=> ?_) (by rw[List.length_map,UQ];exact hsz)]
   ·simp
   obtain⟨x,hx,rfl⟩:=List.mem_map.1 hz
   have:=List.all_eq_true.1 hln x hx
   simpa [lnB]using this
  ·show Zr _ (PV.sl 1 false (List.map (PV.int .i64) (Ws (List.map Uh (Dk (GD ((Ye (.mk n ks)).map fun x=>x.nd.line)))))))
   rw[a2m]
   exact J4 (β:=List Int) (y:=Xn (.mk n ks)) rfl
 ·exact fun σ h=>h.elim
theorem b1f: ∀ args os,Xw args os=true->Zd O6 os.length (Z8 os.length Pk fun r=>r=We 99 args os) RH [] (XJ c1n args os):=by
 intro args os h
 unfold Xw at h
 split at h
 ·exact c7d _ rfl
 ·cases h
end Go.Pl
namespace Go.Pl
open Go.RowKit
open Enc (enc dec is)
open EncL (encL decL isL)
set_option maxRecDepth 100000
noncomputable def OU:IC:=Wy Proofs.Tryz.f57
def FO:List IRes:=[(.tmp 2)]
abbrev c9t:Nat:=4
def a9g:ZC:=YM []
theorem d2k{G:AV×List AObj×List AObj->Prop}(es:List (PV×PV))(h:G (((.fn 79 [] [(.ptr 1 0)]),([(.map es)],[(.box [(.map 0)])])))):Zd a9g 1 (Z8 1 FO G) OU [] (XJ 4 [.map 0] [.map es]):=Zd.to (.nil) h
end Go.Pl
namespace Go.Pl
open Go.RowKit
open Enc (enc dec is)
open EncL (encL decL isL)
open Go.Proofs.YtgdebdgkofkeeaaGreatDoor (encNd pre_ndI F_ndI tmOf_nd pre_nd)
theorem b9b: ∀ args os,Xw args os=true->Zd a9g os.length (Z8 os.length FO fun r=>r=We 79 args os) OU [] (XJ c9t args os):=by
 intro args os h
 unfold Xw at h
 split at h
 ·exact d2k _ rfl
 ·cases h
end Go.Pl
namespace Go.Pl
open Go.RowKit
open Enc (enc dec is)
open EncL (encL decL isL)
set_option maxRecDepth 100000
abbrev d5y(ps:List PV)(k:Arr×Int->Prop):Prop:=Qv (fun(x:Str×List Int×List Int×Unit)=>decide (List.length (Prod.fst (Prod.snd x))<=2000000)&&decide (List.length (Prod.fst (Prod.snd (Prod.snd x)))<=2000000)) (fun(x:Str×List Int×List Int×Unit)=>FW (Prod.fst x) (Prod.fst (Prod.snd x)) (Prod.fst (Prod.snd (Prod.snd x)))) ps k
noncomputable def b2o:IC:=Wy Proofs.Tryz.f173
def a8z:List IRes:=[(.tmp 4)]
abbrev c8u:Nat:=22
def c6i:ZC:=YM []
theorem d4q{G:PV->Prop}(e:List UInt8)(n:Int)(h:if (e==[(105:UInt8),(110:UInt8),(116:UInt8)])=true then if (decide (n ≥ (-2147483648:Int)))=true then G ((.bool (decide (n<=2147483647))))else(G ((.bool false)))else(if (e==[(98:UInt8),(111:UInt8),(111:UInt8),(108:UInt8)])=true then if (n==0)=true then G ((.bool true))else(G ((.bool (n==1))))else(G ((.bool false))))):Zd c6i 0 (Zb a8z G) b2o [] (Z9 22 [.str e,.int .i64 n]):=Zd.tp (dm [] 36 0x2220220034200c4202202220044200c42) h
noncomputable def Ey:IC:=Wy Proofs.Tryz.f172
def OI:List IRes:=[(.tmp 3)]
abbrev c7a:Nat:=8
def b6i:ZC:=YM [(173,.pure (preT (fun _:Str×Int×Unit=>true)) (Zi (fun x:Str×Int×Unit=>Wo x.1 x.2.1)))]
theorem d5g{G:AV×List AObj×List AObj->Prop}(e:List UInt8)(n:Int)(h : ∃ y0:Bool,AV.pv (Zi (fun(x:Str×Int×Unit)=>Wo x.1 x.2.1) [(.str e),(.int .i64 n)])=AV.pv (enc y0)∧(G (((.pv (.bool !y0)),([(.box [(.pv (.str e))])],[]))))):Zd b6i 1 (Z8 1 OI G) Ey [] (XJ 8 [.pv (.int .i64 n),.ptr 0 0] [.box [.pv (.str e)]]):=Zd.to (.lit (.abs (Bool) (fun YY=>AV.pv (enc YY)) (.nil))) h
noncomputable def K7:IC:=KT
def K4:List IRes:=[(.tmp 4)]
abbrev a7r:Nat:=19
def Cv:ZC:=YM [(172,.own Ce Rv)]
theorem d3l{G:AV×List AObj×List AObj->Prop}(e:List UInt8)(l:List Int)(t:Bool)(h:At Cv 1 (Z8 1 K4 G) K7 0 19 [(0,(.pv (.sl 1 t (List.map enc l)))),(1,(.fn 172 [] [(.ptr 0 0)])),(7,(.pv (.int .i64 (↑(List.length (List.map enc l)):Int)))),(8,(.pv (.int .i64 0)))] [(.obj (.box [(.pv (.str e))]))]):Zd Cv 1 (Z8 1 K4 G) K7 [] (XJ 19 [.pv (.sl 1 t (l.map enc)),.fn 172 [] [.ptr 0 0]] [.box [.pv (.str e)]]):=Zd.to (.nil) h
theorem b0y{G:AV×List AObj×List AObj->Prop}(e:List UInt8)(l:List Int)(t:Bool)(i:Int)(h:if (decide (i<(↑(List.length l):Int)))=true then(decide (0<=i)&&decide (Int.toNat i<List.length (List.map enc l))&&1==1)=true∧(∃ y0:Int,AV.pv (PV.rptr (PV.cells (List.getD (List.map enc l) (Int.toNat i) default)))=AV.pv (PV.rptr (PV.cells ((enc) y0)))∧(if (!Wo (Str.mk e) (PV.asInt (List.getD (PV.cells (enc y0)) 0 default)))=true then G (((.pv (.int .i64 i)),([(.box [(.pv (.str e))])],[])))else(At Cv 1 (Z8 1 K4 G) K7 0 19 [(0,(.pv (.sl 1 t (List.map enc l)))),(1,(.fn 172 [] [(.ptr 0 0)])),(7,(.pv (.int .i64 (↑(List.length l):Int)))),(8,(.pv (.int .i64 (IntKind.wrap IntKind.i64 (i+1)))))] [(.obj (.box [(.pv (.str e))]))])))else(G (((.pv (.int .i64 (-1))),([(.box [(.pv (.str e))])],[]))))):At Cv 1 (Z8 1 K4 G) K7 0 19 [(0,.pv (.sl 1 t (l.map enc))),(1,.fn 172 [] [.ptr 0 0]),(7,.pv (.int .i64 l.length)),(8,.pv (.int .i64 i))] [.obj (.box [.pv (.str e)])]:=At.to (dm [dr Int] 19 0x2000143225100c42) h
noncomputable def Oo:IC:=OB
def Oy:List IRes:=[(.tmp 4)]
abbrev d0o:Nat:=9
def b3q:ZC:=YM [(144,.own Wl D7)]
theorem d6a{G:AV×List AObj×List AObj->Prop}(e:List UInt8)(l:List Int)(t:Bool)(h:(Wl [(.pv (.sl 1 t (List.map enc l))),(.fn 172 [] [(.ptr 0 0)])] [(.box [(.pv (.str e))])])=true∧(G (((.pv (.bool (decide (Ul (Str.mk e) (List.map dec (List.map enc l)) 0 ≥ 0)))),([(.box [(.pv (.str e))])],[]))))):Zd b3q 1 (Z8 1 Oy G) Oo [] (XJ 9 [.pv (.sl 1 t (l.map enc)),.fn 172 [] [.ptr 0 0]] [.box [.pv (.str e)]]):=Zd.to (.req (.keep (.lit (.nil)))) h
noncomputable def Dl:IC:=Wy Proofs.Tryz.f143
def Di:List IRes:=[(.tmp 4)]
abbrev NC:Nat:=9
def Bg:ZC:=YM [(113,.own Wl Rl)]
theorem Oj{G:PV->Prop}(e:List UInt8)(l:List Int)(h:(Wl [(.pv (.sl 1 false (List.map enc l))),(.fn 172 [] [(.ptr 0 0)])] [(.box [(.pv (.str e))])])=true∧(G ((.bool (!decide (0<=Ul (Str.mk e) (List.map dec (List.map enc l)) 0)))))):Zd Bg 0 (Zb Di G) Dl [] (Z9 9 [.str e,enc l]):=Zd.tp (.req (.keep (.nil))) h
noncomputable def a2q:IC:=Wy Proofs.Tryz.f112
def a2o:List IRes:=[(.cell true 3 6),(.tmp 7)]
abbrev b9l:Nat:=45
def a8r:ZC:=YM [(142,.pure (preT (fun _:List Int×Unit=>true)) (Zi (fun x:List Int×Unit=>Wz x.1))),(143,.pure (preT (fun x:Str×List Int×Unit=>decide (x.2.1.length<=2000000))) (Zi (fun x:Str×List Int×Unit=>x.2.1.all (Wo x.1)))),(93,.pure (preT (fun x:List Int×Unit=>decide (x.1.length<=2000000))) (Zi (fun x:List Int×Unit=>x.1)))]
theorem d0d{G:PV->Prop}(e:List UInt8)(d x:List Int)(h:if (!e==[(105:UInt8),(110:UInt8),(116:UInt8)])=true then if (!e==[(98:UInt8),(111:UInt8),(111:UInt8),(108:UInt8)])=true then G ((.tup [(.agg [(.str []),(.sl 0 true []),(.sl 0 true [])]),(.int .i64 12)]))else((Go.Pl.preT (fun(x:List Int×Unit)=>true) [(.sl 1 false (List.map enc d))])=true∧(∃ y0:Int×Int,AV.pv (Zi (fun(x:List Int×Unit)=>Wz x.1) [(.sl 1 false (List.map enc d))])=AV.pv (enc y0)∧(if (y0.2 != 0)=true then G ((.tup [(.agg [(.str []),(.sl 0 true []),(.sl 0 true [])]),(.int .i64 y0.2)]))else(if ((↑(List.length (List.map enc x)):Int) != y0.1)=true then G ((.tup [(.agg [(.str []),(.sl 0 true []),(.sl 0 true [])]),(.int .i64 1)]))else((Go.Pl.preT (fun(x:Str×List Int×Unit)=>decide (List.length x.2.1<=2000000)) [(.str e),(.sl 1 false (List.map enc x))])=true∧(∃ y1:Bool,AV.pv (Zi (fun(x:Str×List Int×Unit)=>List.all x.2.1 (Wo x.1)) [(.str e),(.sl 1 false (List.map enc x))])=AV.pv (enc y1)∧(if (!y1)=true then G ((.tup [(.agg [(.str []),(.sl 0 true []),(.sl 0 true [])]),(.int .i64 2)]))else((Go.Pl.preT (fun(x:List Int×Unit)=>decide (List.length x.1<=2000000)) [(.sl 1 false (List.map enc d))])=true∧(∃ y2:List Int,AV.pv (Zi (fun(x:List Int×Unit)=>x.1) [(.sl 1 false (List.map enc d))])=AV.pv (enc y2)∧((Go.Pl.preT (fun(x:List Int×Unit)=>decide (List.length x.1<=2000000)) [(.sl 1 false (List.map enc x))])=true∧(∃ y3:List Int,AV.pv (Zi (fun(x:List Int×Unit)=>x.1) [(.sl 1 false (List.map enc x))])=AV.pv (enc y3)∧(G ((.tup [(.agg [(.str e),(.sl 1 false (List.map enc y2)),(.sl 1 false (List.map enc y3))]),(.int .i64 0)]))))))))))))))else((Go.Pl.preT (fun(x:List Int×Unit)=>true) [(.sl 1 false (List.map enc d))])=true∧(∃ y4:Int×Int,AV.pv (Zi (fun(x:List Int×Unit)=>Wz x.1) [(.sl 1 false (List.map enc d))])=AV.pv (enc y4)∧(if (y4.2 != 0)=true then G ((.tup [(.agg [(.str []),(.sl 0 true []),(.sl 0 true [])]),(.int .i64 y4.2)]))else(if ((↑(List.length (List.map enc x)):Int) != y4.1)=true then G ((.tup [(.agg [(.str []),(.sl 0 true []),(.sl 0 true [])]),(.int .i64 1)]))else((Go.Pl.preT (fun(x:Str×List Int×Unit)=>decide (List.length x.2.1<=2000000)) [(.str e),(.sl 1 false (List.map enc x))])=true∧(∃ y5:Bool,AV.pv (Zi (fun(x:Str×List Int×Unit)=>List.all x.2.1 (Wo x.1)) [(.str e),(.sl 1 false (List.map enc x))])=AV.pv (enc y5)∧(if (!y5)=true then G ((.tup [(.agg [(.str []),(.sl 0 true []),(.sl 0 true [])]),(.int .i64 2)]))else((Go.Pl.preT (fun(x:List Int×Unit)=>decide (List.length x.1<=2000000)) [(.sl 1 false (List.map enc d))])=true∧(∃ y6:List Int,AV.pv (Zi (fun(x:List Int×Unit)=>x.1) [(.sl 1 false (List.map enc d))])=AV.pv (enc y6)∧((Go.Pl.preT (fun(x:List Int×Unit)=>decide (List.length x.1<=2000000)) [(.sl 1 false (List.map enc x))])=true∧(∃ y7:List Int,AV.pv (Zi (fun(x:List Int×Unit)=>x.1) [(.sl 1 false (List.map enc x))])=AV.pv (enc y7)∧(G ((.tup [(.agg [(.str e),(.sl 1 false (List.map enc y6)),(.sl 1 false (List.map enc y7))]),(.int .i64 0)]))))))))))))))):Zd a8r 0 (Zb a2o G) a2q [] (Z9 45 [.str e,enc d,enc x]):=Zd.tp (dm [dv (Int×Int),dv Bool,dv (List Int)] 69 0x7171000146100014200014251222071710001461000142000142510001422202242) h
noncomputable def b1m:IC:=Wy Proofs.Tryz.f85
def b5z:List IRes:=[(.tmp 2)]
abbrev d1j:Nat:=17
def c6j:ZC:=YM [(112,.pure (preT (fun x:Str×List Int×List Int×Unit=>decide (x.2.1.length<=2000000)&&decide (x.2.2.1.length<=2000000))) (Zi (fun x:Str×List Int×List Int×Unit=>FW x.1 x.2.1 x.2.2.1)))]
theorem d4v{G:PV->Prop}(a:Arr)(h:(d5y [(.str (Str.s (Arr.e a))),(.sl 1 false (List.map enc (Arr.d a))),(.sl 1 false (List.map enc (Arr.x a)))] fun y0=>(G ((.bool (y0.2==0)))))):Zd c6j 0 (Zb b5z G) b1m [] (Z9 17 [enc a]):=Zd.tp (.req (.abs (Arr×Int) (fun YY=>AV.pv (enc YY)) (.lit (.nil)))) h
end Go.Pl
namespace Go.Pl
open Go.RowKit
open Enc (enc dec is)
open EncL (encL decL isL)
theorem b9g: ∀ a:Str×Int×Unit,true=true->Zd c6i 0 (Zb a8z (Zr (Wo a.1 a.2.1))) b2o [] (Z9 c8u (encL a)):=by
 rintro⟨⟨e⟩,n,⟨⟩⟩ _
 refine d4q e n ?_
 simp only[beq_iff_eq,decide_eq_true_eq,Zr,c3l,a7v,true_and,Wo,AJ,Qy,ge_iff_le]
 split
 ·split <;> simp[*]
 ·split
  ·split <;> simp[*]
  ·simp[*]
theorem c2r: ∀ args os,Ce args os=true->Zd b6i os.length (Z8 os.length OI fun r=>r=Rv args os) Ey [] (XJ c7a args os):=by
 intro args os hp
 unfold Ce at hp
 split at hp
 ·rename_i n e
  refine d5g e n ?_
  exact Zf (⟨e⟩,n,()) rfl rfl
 ·cases hp
theorem Ak(e:Str): ∀ (l:List Int) (k:Nat),decide (0<=Ul e l k) = !l.all (Wo e)
 | [],k=>by simp[Ul]
 | n::l,k=>by
  simp only[Ul,List.all_cons]
  by_cases h:Wo e n=true
  ·simp only[h,if_true,Bool.true_and];exact Ak e l (k+1)
  ·simp only[Bool.not_eq_true]at h;simp[h]
theorem b2f(e:List UInt8)(l:List Int)(t:Bool)(hl:l.length<=2000000)(r:AV×List AObj×List AObj): ∀ (m k:Nat),m+k=l.length->r=(.pv (.int .i64 (Ul ⟨e⟩ (l.drop k) k)),[.box [.pv (.str e)]],[]) ->
  At Cv 1 (Z8 1 K4 fun x=>x=r) K7 0 a7r [(0,.pv (.sl 1 t (l.map enc))),(1,.fn 172 [] [.ptr 0 0]),(7,.pv (.int .i64 l.length)),(8,.pv (.int .i64 k))] [.obj (.box [.pv (.str e)])]:=by
 intro m
 induction m with
 | zero=>
  intro k hk hr
  refine b0y e l t k ?_
  rw[if_neg (by simp;omega),hr,List.drop_of_length_le (by omega)]
  rfl
 | succ m ih=>
  intro k hk hr
  have hlt:k<l.length:=by omega
  refine b0y e l t k ?_
  rw[if_pos (by simp;omega)]
  refine⟨by simp;omega,l[k],by rw[Js _ hlt],?_⟩
  rw[List.drop_eq_getElem_cons hlt,Ul]at hr
  show if (!Wo ⟨e⟩ l[k])=true then _ else _
  cases h:Wo ⟨e⟩ l[k]with
  | true=>
   rw[if_neg (by simp),next (by omega)]
   rw[h,if_pos rfl]at hr
   exact ih (k+1) (by omega) hr
  | false=>
   rw[if_pos (by decide)]
   rw[h,if_neg (by simp)]at hr
   exact hr.symm
theorem c3w: ∀ args os,Wl args os=true->Zd Cv os.length (Z8 os.length K4 fun r=>r=D7 args os) K7 [] (XJ a7r args os):=by
 intro args os hp
 unfold Wl at hp
 split at hp
 ·rename_i t xs e
  simp only[Bool.and_eq_true,decide_eq_true_eq]at hp
  rw[a1h hp.1]
  have hl:(xs.map (dec:PV->Int)).length<=2000000:=by simpa using hp.2
  generalize xs.map (dec:PV->Int)=l at hl ⊢
  refine d3l e l t ?_
  rw[List.length_map]
  refine b2f e l t hl _ l.length 0 (by omega) ?_
  simp[D7]
 ·cases hp
theorem c4n: ∀ args os,Wl args os=true->Zd b3q os.length (Z8 os.length Oy fun r=>r=Rl args os) Oo [] (XJ d0o args os):=by
 intro args os hp
 have hp':=hp
 unfold Wl at hp
 split at hp
 ·rename_i t xs e
  simp only[Bool.and_eq_true,decide_eq_true_eq]at hp
  rw[a1h hp.1]at hp' ⊢
  exact d6a e _ t ⟨hp',rfl⟩
 ·cases hp
theorem Pi: ∀ a:Str×List Int×Unit,decide (a.2.1.length<=2000000)=true->Zd Bg 0 (Zb Di (Zr (a.2.1.all (Wo a.1)))) Dl [] (Z9 NC (encL a)):=by
 rintro⟨⟨e⟩,l,⟨⟩⟩ hp
 refine Oj e l ⟨?_,rfl,?_⟩
 ·simpa [Wl]using hp
 ·simp[Ak]
theorem b4x: ∀ a:Str×List Int×List Int×Unit,(decide (a.2.1.length<=2000000)&&decide (a.2.2.1.length<=2000000))=true->Zd a8r 0 (Zb a2o (Zr (FW a.1 a.2.1 a.2.2.1))) a2q [] (Z9 b9l (encL a)):=by
 rintro⟨⟨e⟩,d,x,⟨⟩⟩ hp
 simp only[Bool.and_eq_true,decide_eq_true_eq]at hp
 refine d0d e d x ?_
 have hp1:=hp.1
 have hp2:=hp.2
 simp only[preT,Zi,b0a,b7y,a5f,a9t,d1z,FV,c7e,c2o,c7n,LV,List.isEmpty_iff,Bool.and_true,beq_self_eq_true,Bool.or_true,Bool.true_and,decide_eq_true_eq,AV.pv.injEq,d0k,exists_eq_left',hp1,hp2,true_and,Enc.sz,List.length_map,Zr,c9o,c9p,c9e,c0v,c0d,b9r,List.all_nil,List.isEmpty_nil,Bool.true_or,List.map_nil,Bool.not_eq_true',beq_eq_false_iff_ne,bne_iff_ne,FW,AJ,Qy]
 by_cases h1:e=[105,110,116]
 ·simp only[h1,ne_eq,not_true,if_false,false_and]
  split
  ·rfl
  ·split
   ·rfl
   ·split
    ·simp_all
    ·simp_all
 ·simp only[h1,ne_eq,not_false_eq_true,if_true,true_and]
  split
  ·rfl
  ·split
   ·rfl
   ·split
    ·rfl
    ·split
     ·simp_all
     ·simp_all
theorem b8e: ∀ a:Arr×Unit,a5b a.1=true->Zd c6j 0 (Zb b5z (Zr (Pf a.1))) b1m [] (Z9 d1j (encL a)):=by
 rintro⟨a,⟨⟩⟩ hp
 refine d4v a ⟨Zc (a.e,a.d,a.x,()) rfl hp,Zf (a.e,a.d,a.x,()) rfl ?_⟩
 exact⟨rfl,rfl⟩
end Go.Pl
namespace Go.Pl
open Go.RowKit
set_option maxRecDepth 100000
def Wx:IC:=(Vq [ZG 4 (.mv (Qp 0)) 0] (.seq (Vq [ZG 6 (WC 0) 0,ZG 7 (.len 1 (.t 6)) 0,ZG 8 (.mv (Qp 0)) 0] (.block 0 (.loop [8,7,1,0] (Vq [ZG 9 (DW .lss (.t 8) (.t 7)) 0] (.seq (.cond (.t 9) .skip (.exit 0)) (.seq (.block 1 (Vq [ZG 10 (WC 8) 0,ZG 5 (WC 10) 0] (Vq [ZG 11 (WC 1) 0,ZG 12 (WC 0) 0,ZG 13 (WC 5) 0,ZG 14 (.iaddr 1 (.t 12) (.t 13)) 0,ZG 15 (Ap [(.int .i64)] (.t 14)) 0,ZG 16 (DW .eql (.t 11) (.t 15)) 0] (.cond (.t 16) (Vq [ZG 17 (WC 5) 0,ZG 4 (WC 17) 0] .ret) .skip)))) (.reg [ZG 18 (DW .add (.t 8) (Qp 1)) 0,ZG 8 (WC 18) 0] none))))))) (Vq [ZG 4 (.mv (.c (.int .i64 (-1)))) 0] .ret)))
def Wv:List IRes:=[(.tmp 4)]
def Vk:ZC:=YM []
theorem a5c{r:PV}(ns:List Int)(t:Bool)(v:Int)(hn:At Vk 0 (fun st=>fin st Wv=some r) Wx 0 19 [(0,(.pv (.sl 1 t (Zt ns)))),(1,(.pv (.int .i64 v))),(7,(.pv (.int .i64 (↑(Zt ns).length:Int)))),(8,(.pv (.int .i64 0)))] []):Zd Vk 0 (fun st=>fin st Wv=some r) Wx [] (Z9 19 [.sl 1 t (Zt ns),.int .i64 v]):=Zd.w (.nil) hn (by kernel_rfl)
theorem Oi{r:PV}(ns:List Int)(t:Bool)(v:Int)(i:Int)(h0:(decide (i<(↑(Zt ns).length:Int)))=true)(h1:(decide (0<=i)&&decide (i.toNat<(Zt ns).length)&&1==1)=true)(h2:(decide (0+[Sh.int .i64].length<=((Zt ns).getD i.toNat default).cells.length)&&Yv ((Zt ns).getD i.toNat default).cells 0 [Sh.int .i64])=true)(h3:(v==(((Zt ns).getD i.toNat default).cells.getD 0 default).asInt)=true)(hr:(.int .i64 i)=r):At Vk 0 (fun st=>fin st Wv=some r) Wx 0 19 [(0,.pv (.sl 1 t (Zt ns))),(1,.pv (.int .i64 v)),(7,.pv (.int .i64 (Zt ns).length)),(8,.pv (.int .i64 i))] []:=At.w (.lit (.ans true (.req (.req (.lit (.ans true (.nil))))))) (And.intro h0 (And.intro h1 (And.intro h2 (And.intro h3 hr)))) (by kernel_rfl)
theorem Ei{r:PV}(ns:List Int)(t:Bool)(v:Int)(i:Int)(h0:(decide (i<(↑(Zt ns).length:Int)))=true)(h1:(decide (0<=i)&&decide (i.toNat<(Zt ns).length)&&1==1)=true)(h2:(decide (0+[Sh.int .i64].length<=((Zt ns).getD i.toNat default).cells.length)&&Yv ((Zt ns).getD i.toNat default).cells 0 [Sh.int .i64])=true)(h3:(v==(((Zt ns).getD i.toNat default).cells.getD 0 default).asInt)=false)(hn:At Vk 0 (fun st=>fin st Wv=some r) Wx 0 19 [(0,(.pv (.sl 1 t (Zt ns)))),(1,(.pv (.int .i64 v))),(7,(.pv (.int .i64 (↑(Zt ns).length:Int)))),(8,(.pv (.int .i64 (IntKind.i64.wrap (i+1)))))] []):At Vk 0 (fun st=>fin st Wv=some r) Wx 0 19 [(0,.pv (.sl 1 t (Zt ns))),(1,.pv (.int .i64 v)),(7,.pv (.int .i64 (Zt ns).length)),(8,.pv (.int .i64 i))] []:=At.w (.lit (.ans true (.req (.req (.lit (.ans false (.lit (.nil)))))))) (And.intro h0 (And.intro h1 (And.intro h2 (And.intro h3 hn)))) (by kernel_rfl)
theorem OY{r:PV}(ns:List Int)(t:Bool)(v:Int)(i:Int)(h0:(decide (i<(↑(Zt ns).length:Int)))=false)(hr:(.int .i64 (-1))=r):At Vk 0 (fun st=>fin st Wv=some r) Wx 0 19 [(0,.pv (.sl 1 t (Zt ns))),(1,.pv (.int .i64 v)),(7,.pv (.int .i64 (Zt ns).length)),(8,.pv (.int .i64 i))] []:=At.w (.lit (.ans false (.nil))) (And.intro h0 hr) (by kernel_rfl)
end Go.Pl
namespace Go.Pl
open Go.RowKit
def Ej(v:Int):List Int->Nat->Int
 | [],_=> -1
 | n::r,i=>bif v==n then i else Ej v r (i+1)
theorem b5v{v:Int}: ∀ {l:List Int} {i:Nat},decide (0<=Ej v l i)=l.any (· == v):=by
 intro l
 induction l with
 | nil=>intro i;rfl
 | cons n r ih=>
  intro i
  simp only[Ej,List.any_cons]
  by_cases h:v=n
  ·subst h;simp
  ·have h1:(v==n)=false:=by simpa using h
   have h2:(n==v)=false:=by simp;omega
   simp only[h1,h2,cond_false,Bool.false_or]
   exact ih
def QT:List PV->PV
 | [.sl _ _ xs,.int _ v]=>.int .i64 (Ej v (xs.map PV.asInt) 0)
 | _=>.nilp
theorem OH(ns:List Int)(t:Bool)(v:Int)(hl:ns.length<=1099511627776){r:PV}: ∀ (m k:Nat),m+k=ns.length->r = .int .i64 (Ej v (ns.drop k) k) ->
  At Vk 0 (fun st=>fin st Wv=some r) Wx 0 19 [(0,.pv (.sl 1 t (Zt ns))),(1,.pv (.int .i64 v)),(7,.pv (.int .i64 (Zt ns).length)),(8,.pv (.int .i64 k))] []:=by
 intro m
 induction m with
 | zero=>
  intro k hk hr
  rw[List.drop_of_length_le (by omega)]at hr
  exact OY ns t v k (by simp;omega) hr.symm
 | succ m ih=>
  intro k hk hr
  have hlt:k<ns.length:=by omega
  have e:=Bq hlt
  rw[List.drop_eq_getElem_cons hlt,Ej]at hr
  cases hb:v==ns[k]with
  | true=>
   rw[hb,cond_true]at hr
   exact Oi ns t v k (by simp;omega) (by simp;omega) (by rw[e];rfl) (by rw[e];exact hb) hr.symm
  | false=>
   rw[hb,cond_false]at hr
   refine Ei ns t v k (by simp;omega) (by simp;omega) (by rw[e];rfl) (by rw[e];exact hb) ?_
   rw[next (by omega)]
   exact ih (k+1) (by omega) hr
theorem a5q: ∀ ps,Z4 ps=true->Zd Vk 0 (fun st=>fin st Wv=some (QT ps)) Wx [] (Z9 19 ps):=by
 intro ps hp
 unfold Z4 at hp
 split at hp
 ·rename_i t xs v
  simp only[Bool.and_eq_true,decide_eq_true_eq]at hp
  obtain⟨ns,rfl⟩:=R7 hp.1
  refine a5c ns t v ?_
  exact OH ns t v (by have:=hp.2;rwa [Dq]at this) ns.length 0 (by omega) (by simp[QT])
 ·cases hp
def PV.ns(p:PV):List Int:=p.asXs.map PV.asInt
def QC:IC:=(Vq [ZG 4 (f'' false) 0] (Vq [ZG 5 (WC 0) 0,ZG 6 (WC 1) 0,ZG 7 (c'' 193 [(.t 5),(.t 6)]) 0,ZG 8 (DW .geq (.t 7) (Qp 0)) 2,ZG 4 (WC 8) 2] .ret))
def QN:List IRes:=[(.tmp 4)]
abbrev Fv:Nat:=9
def KL:ZC:=YM [(193,.pure Z4 QT)]
theorem Rm{r:PV}(ns:List Int)(t:Bool)(v:Int)(h0:(Z4 [(.sl 1 t (Zt ns)),(.int .i64 v)])=true)(hr:(.bool (decide (Ej v (List.map PV.asInt (Zt ns)) 0 ≥ 0)))=r):Zd KL 0 (fun st=>fin st QN=some r) QC [] (Z9 9 [.sl 1 t (Zt ns),.int .i64 v]):=Zd.w (.req (.lit (.nil))) (And.intro h0 hr) (by kernel_rfl)
theorem Pb: ∀ ps,Z4 ps=true->Zd KL 0 (fun st=>fin st QN=some (Vo ps)) QC [] (Z9 Fv ps):=by
 intro ps hp
 have hp':=hp
 unfold Z4 at hp
 split at hp
 ·rename_i t xs v
  simp only[Bool.and_eq_true,decide_eq_true_eq]at hp
  obtain⟨ns,rfl⟩:=R7 hp.1
  refine Rm ns t v hp' ?_
  have:=b5v (v:=v) (l:=ns) (i:=0)
  simp only[WK,Vo,CW,ge_iff_le]
  rw[<- this]
 ·cases hp
end Go.Pl
namespace Go.Pl
open Go.RowKit
open Enc (enc dec is)
open EncL (encL decL isL)
set_option maxRecDepth 100000
end Go.Pl
namespace Go.Pl
open Go.RowKit
open Enc (enc dec is)
open EncL (encL decL isL)
theorem b6c{s:List UInt8}{i:Nat}(h:i<s.length):List.getD (Zw s) (Int.toNat (i:Int)) default = .int .u8 (s[i].toNat:Int):=by
 simp[Zw,List.getD,h]
theorem GJ(s:List UInt8):(Zw s).length=s.length:=by simp[Zw]
def MW(c:UInt8):Bool:=lowB c||digB c
theorem a1j{c:UInt8}:lowB c=true ↔ 97<=c.toNat∧c.toNat<=122:=by
 simp only[lowB,Bool.and_eq_true,decide_eq_true_eq,UInt8.le_iff_toNat_le]
 have e1:(97:UInt8).toNat=97:=rfl
 have e2:(122:UInt8).toNat=122:=rfl
 rw[e1,e2]
theorem Sj{c:UInt8}(h : ¬ (97<=c.toNat∧c.toNat<=122)):lowB c=false:=by
 cases e:lowB c
 ·rfl
 ·exact absurd (a1j.1 e) h
theorem Tq{c:UInt8}(h : ¬ (48<=c.toNat∧c.toNat<=57)):digB c=false:=by
 cases e:digB c
 ·rfl
 ·exact absurd (Wq.1 e) h
def WA(s:List UInt8)(i:Nat):Bool:=(match i with|0=>(match s with|[]=>true|c::r=>lowB c&&r.all MW)|i+1=>(s.drop (i+1)).all MW)&&(!(s==[]))&&decide (s.length<=30)
theorem a3p{s:List UInt8}{i:Nat}(h:i<s.length)(hb:lowB s[i]=true∨(i≠0∧digB s[i]=true)):WA s i=WA s (i+1):=by
 cases i with
 | zero=>
  cases s with
  | nil=>simp at h
  | cons c r=>
   rcases hb with hb|hb
   ·have hb:lowB c=true:=hb
    simp[WA,hb]
   ·exact absurd rfl hb.1
 | succ i=>
  unfold WA
  simp only
  rw[List.drop_eq_getElem_cons h,List.all_cons]
  have:MW s[i+1]=true:=by
   rcases hb with hb|hb
   ·simp[MW,hb]
   ·simp[MW,hb.2]
  rw[this,Bool.true_and]
theorem a4c{s:List UInt8}{i:Nat}(h:i<s.length)(hb:lowB s[i]=false∧(i=0∨digB s[i]=false)):WA s i=false:=by
 cases i with
 | zero=>
  cases s with
  | nil=>simp at h
  | cons c r=>
   have hb:lowB c=false:=hb.1
   simp[WA,hb]
 | succ i=>
  unfold WA
  simp only
  rw[List.drop_eq_getElem_cons h,List.all_cons]
  have:MW s[i+1]=false:=by
   rcases hb.2 with h0|h0
   ·cases h0
   ·simp[MW,hb.1,h0]
  rw[this];simp
theorem a5o{s:List UInt8}(h:[95].isPrefixOf s=false):YA ⟨s⟩=WA s 0:=by
 cases s with
 | nil=>rfl
 | cons c r=>
  have hc : ¬ c=95:=by intro e;subst e;simp at h
  have e:decide ((c::r).length<=30)=decide (r.length<=29):=decide_eq_decide.2 (by simp)
  unfold WA
  rw[e]
  simp only[YA,if_neg hc]
  show _=(lowB c&&r.all MW&& !((c::r)==[])&&_)
  have e2:((c::r)==[])=false:=rfl
  rw[e2]
  simp only[Bool.not_false,Bool.and_true]
  rfl
theorem OO(s:Str): -9223372036854775808<=(YW s).1∧((YW s).1<=9223372036854775807):=by
 unfold YW
 split
 ·rename_i v hv;exact Lib.atoiAll_bounds hv
 ·have:=Lib.atoiSat_bounds s.s
  exact⟨by show _<=Lib.atoiSat s.s;omega,by show Lib.atoiSat s.s<=_;omega⟩
 ·exact⟨by show(-9223372036854775808:Int)<=0;omega,by show(0:Int)<=_;omega⟩
end Go.Pl
namespace Go.Pl
open Go.RowKit
open Enc (enc dec is)
open EncL (encL decL isL)
set_option maxRecDepth 100000
abbrev c6a(ps:List PV)(k:Int->Prop):Prop:=ceP (fun(x:Int×Int×Unit)=>KP (Prod.fst x) (Prod.fst (Prod.snd x))) ps k
abbrev d5x(ps:List PV)(k:Int->Prop):Prop:=ceP (fun(x:Coef×Coef×Unit)=>Hy (Prod.fst x) (Prod.fst (Prod.snd x))) ps k
abbrev d4r(ps:List PV)(k:Int->Prop):Prop:=Qv (fun(x:List Coef×List Coef×FnV 121×Unit)=>decide (List.length (Prod.fst x)<=9223372036854775807)&&decide (List.length (Prod.fst (Prod.snd x))<=9223372036854775807)) (fun(x:List Coef×List Coef×FnV 121×Unit)=>XM (Prod.fst x) (Prod.fst (Prod.snd x))) ps k
abbrev d3r(ps:List PV)(k:Int->Prop):Prop:=Qv (fun(x:Lin×Lin×Unit)=>Ya (Prod.fst x)&&Ya (Prod.fst (Prod.snd x))) (fun(x:Lin×Lin×Unit)=>VJ (Prod.fst x) (Prod.fst (Prod.snd x))) ps k
noncomputable def Sl:IC:=Wy Proofs.Tryz.f123
def G5:List IRes:=[(.tmp 4)]
abbrev a3y:Nat:=13
def BF:ZC:=YM []
theorem b6j{G:PV->Prop}(a b:Int)(h:if (decide (a<b))=true then G ((.int .i64 (-1)))else(if (decide (a>b))=true then G ((.int .i64 1))else(G ((.int .i64 0))))):Zd BF 0 (Zb G5 G) Sl [] (Z9 13 [enc a,enc b]):=Zd.tp (dm [] 14 0x142000142) h
noncomputable def N7:IC:=Wy Proofs.Tryz.f121
def Bo:List IRes:=[(.tmp 4)]
abbrev a9v:Nat:=19
def Pz:ZC:=YM [(122,.pure (preT (fun _:Str×Str×Unit=>true)) (Zi (fun x:Str×Str×Unit=>Lib.compareBytes x.1.s x.2.1.s))),(123,.pure (preT (fun _:Int×Int×Unit=>true)) (Zi (fun x:Int×Int×Unit=>KP x.1 x.2.1)))]
theorem c2f{G:PV->Prop}(x y:Coef)(h : ∃ y0:Int,AV.pv (Zi (fun(x:Str×Str×Unit)=>Lib.compareBytes (Str.s x.1) (Str.s x.2.1)) [(.str (Str.s x.v)),(.str (Str.s y.v))])=AV.pv (enc y0)∧(if (y0 != 0)=true then G ((.int .i64 y0))else(c6a [(.int .i64 x.c),(.int .i64 y.c)] fun y1=>(G ((.int .i64 y1)))))):Zd Pz 0 (Zb Bo G) N7 [] (Z9 19 [enc x,enc y]):=Zd.tp (dm [dv Int] 12 0x5200014252) h
noncomputable def UO:IC:=Wy Proofs.Tryz.f120
def UB:List IRes:=[(.tmp 6)]
abbrev a8e:Nat:=39
def Q9:ZC:=YM [(121,.pure (preT (fun _:Coef×Coef×Unit=>true)) (Zi (fun x:Coef×Coef×Unit=>Hy x.1 x.2.1)))]
theorem c3h{G:PV->Prop}(a b:List Coef)(h:At Q9 0 (Zb UB G) UO 0 39 [(0,(.pv (.sl 2 false (List.map enc a)))),(1,(.pv (.sl 2 false (List.map enc b)))),(2,(.pv (.fn 121))),(11,(.pv (.sl 2 false (List.map enc a)))),(12,(.pv (.int .i64 (↑(List.length (List.map enc a)):Int)))),(13,(.pv (.int .i64 0)))] []):Zd Q9 0 (Zb UB G) UO [] (Z9 39 [enc a,enc b,.fn 121]):=Zd.tp (.nil) h
theorem NL{G:PV->Prop}(a b:List Coef)(i:Int)(h:if (decide (i<(↑(List.length a):Int)))=true then(Hl a i 2 fun y0=>(if (decide (i ≥ (↑(List.length (List.map enc b)):Int)))=true then G ((.int .i64 1))else((Hl b i 2 fun y1=>(d5x [(.agg [(.str (PV.asStr (List.getD (PV.cells (enc y0)) 0 default))),(.int .i64 (PV.asInt (List.getD (PV.cells (enc y0)) (0+1) default)))]),(.agg [(.str (PV.asStr (List.getD (PV.cells (enc y1)) 0 default))),(.int .i64 (PV.asInt (List.getD (PV.cells (enc y1)) (0+1) default)))])] fun y2=>(if (y2 != 0)=true then G ((.int .i64 y2))else(At Q9 0 (Zb UB G) UO 0 39 [(0,(.pv (.sl 2 false (List.map enc a)))),(1,(.pv (.sl 2 false (List.map enc b)))),(2,(.pv (.fn 121))),(11,(.pv (.sl 2 false (List.map enc a)))),(12,(.pv (.int .i64 (↑(List.length a):Int)))),(13,(.pv (.int .i64 (IntKind.wrap IntKind.i64 (i+1)))))] [])))))))else(if (decide ((↑(List.length (List.map enc a)):Int)<(↑(List.length (List.map enc b)):Int)))=true then G ((.int .i64 (-1)))else(G ((.int .i64 0))))):At Q9 0 (Zb UB G) UO 0 39 [(0,.pv (enc a)),(1,.pv (enc b)),(2,.pv (.fn 121)),(11,.pv (enc a)),(12,.pv (.int .i64 a.length)),(13,.pv (.int .i64 i))] []:=At.tp (dm [dr Coef,dv Int] 35 0x142020001426225100014225101642) h
noncomputable def a0k:IC:=Wy Proofs.Tryz.f89
def Re:List IRes:=[(.tmp 4)]
abbrev b7z:Nat:=19
def OM:ZC:=YM [(120,.pure (preT (fun x:List Coef×List Coef×FnV 121×Unit=>decide (x.1.length<=9223372036854775807)&&decide (x.2.1.length<=9223372036854775807))) (Zi (fun x:List Coef×List Coef×FnV 121×Unit=>XM x.1 x.2.1))),(123,.pure (preT (fun _:Int×Int×Unit=>true)) (Zi (fun x:Int×Int×Unit=>KP x.1 x.2.1)))]
theorem c7j{G:PV->Prop}(a b:Lin)(h:(d4r [(.sl 2 false (List.map enc a.t)),(.sl 2 false (List.map enc b.t)),(.fn 121)] fun y0=>(if (y0 != 0)=true then G ((.int .i64 y0))else(c6a [(.int .i64 a.k),(.int .i64 b.k)] fun y1=>(G ((.int .i64 y1))))))):Zd OM 0 (Zb Re G) a0k [] (Z9 19 [enc a,enc b]):=Zd.tp (dm [dv Int] 12 0x5200014251) h
noncomputable def b2v:IC:=Wy Proofs.Tryz.f63
def a9q:List IRes:=[(.tmp 4)]
abbrev c9k:Nat:=9
def c5e:ZC:=YM [(89,.pure (preT (fun x:Lin×Lin×Unit=>Ya x.1&&Ya x.2.1)) (Zi (fun x:Lin×Lin×Unit=>VJ x.1 x.2.1)))]
theorem d4k{G:PV->Prop}(a b:Lin)(h:(d3r [(.agg [(.int .i64 a.k),(.sl 2 false (List.map enc a.t))]),(.agg [(.int .i64 b.k),(.sl 2 false (List.map enc b.t))])] fun y0=>(G ((.bool (y0==0)))))):Zd c5e 0 (Zb a9q G) b2v [] (Z9 9 [enc a,enc b]):=Zd.tp (.req (.abs (Int) (fun YY=>AV.pv (enc YY)) (.lit (.nil)))) h
end Go.Pl
namespace Go.Pl
open Go.RowKit
open Enc (enc dec is)
open EncL (encL decL isL)
theorem Eu: ∀ a:Int×Int×Unit,true=true->Zd BF 0 (Zb G5 (Zr (KP a.1 a.2.1))) Sl [] (Z9 a3y (encL a)):=by
 rintro⟨a,b,⟨⟩⟩ -
 show Zd BF 0 (Zb G5 (Zr (KP a b))) _ _ _
 refine b6j a b (Wi (fun h=> ?_) fun h=>Wi (fun k=> ?_) fun k=> ?_)
 ·exact Uz (by simp[KP,h])
 ·exact Uz (by simp[KP,h,k])
 ·exact Uz (by simp[KP,h,k])
theorem a6m: ∀ a:Coef×Coef×Unit,true=true->Zd Pz 0 (Zb Bo (Zr (Hy a.1 a.2.1))) N7 [] (Z9 a9v (encL a)):=by
 rintro⟨x,y,⟨⟩⟩ -
 show Zd Pz 0 (Zb Bo (Zr (Hy x y))) _ _ _
 unfold Hy
 refine c2f x y (Zf (x.v,y.v,()) rfl (PE (fun h=> ?_) fun h=>Zf (x.c,y.c,()) rfl ?_))
 ·have h:Lib.compareBytes x.v.s y.v.s≠0:=by simpa using h
  rw[if_pos h]
  exact Uz rfl
 ·have h : ¬ Lib.compareBytes x.v.s y.v.s≠0:=by simpa using h
  rw[if_neg h]
  exact Uz rfl
theorem Lb(t:Coef):(PV.agg [.str (PV.asStr (List.getD (PV.cells (enc t)) 0 default)),.int .i64 (PV.asInt (List.getD (PV.cells (enc t)) (0+1) default))])=enc t:=rfl
theorem Oe(a b:List Coef)(ha:a.length<=9223372036854775807): ∀ (m i:Nat),m+i=a.length->i<=b.length ->
  At Q9 0 (Zb UB (Zr (XM (a.drop i) (b.drop i)))) UO 0 39 [(0,.pv (enc a)),(1,.pv (enc b)),(2,.pv (.fn 121)),(11,.pv (enc a)),(12,.pv (.int .i64 a.length)),(13,.pv (.int .i64 i))] []:=by
 intro m
 induction m with
 | zero=>
  intro i hi hb
  have ea:a.drop i=[]:=List.drop_of_length_le (by omega)
  rw[ea]
  refine NL a b i (Wu (Qc (by omega)) (Wi (fun h=> ?_) fun h=> ?_))
  ·have h:a.length<b.length:=by simpa using h
   have:b.drop i=b[i]::b.drop (i+1):=List.drop_eq_getElem_cons (by omega)
   rw[this]
   exact Uz (by rw[XM])
  ·have h : ¬ a.length<b.length:=by simpa using h
   have:b.drop i=[]:=List.drop_of_length_le (by omega)
   rw[this]
   exact Uz (by rw[XM])
 | succ m ih=>
  intro i hi hb
  have hlt:i<a.length:=by omega
  have ea:a.drop i=a[i]::a.drop (i+1):=List.drop_eq_getElem_cons hlt
  rw[ea]
  refine NL a b i (Xj (QO hlt) ⟨ZR hlt rfl,Yg hlt (Wi (fun h=> ?_) fun h=> ?_)⟩)
  ·have h:b.length<=i:=by
    have:(i:Int) ≥ ((List.map (enc:Coef->PV) b).length:Int):=h
    rw[List.length_map]at this
    omega
   have:b.drop i=[]:=List.drop_of_length_le h
   rw[this]
   exact Uz (by rw[XM])
  ·have h:i<b.length:=by
    have : ¬ (i:Int) ≥ ((List.map (enc:Coef->PV) b).length:Int):=h
    rw[List.length_map]at this
    omega
   have eb:b.drop i=b[i]::b.drop (i+1):=List.drop_eq_getElem_cons h
   rw[eb]
   refine⟨ZR h rfl,Yg h ?_⟩
   rw[Lb,Lb]
   refine Zf (a[i],b[i],()) rfl (PE (fun hc=> ?_) fun hc=> ?_)
   ·have hc:Hy a[i] b[i]≠0:=by simpa using hc
    exact Uz (by rw[XM,if_pos hc])
   ·have hc : ¬ Hy a[i] b[i]≠0:=by simpa using hc
    have e:XM (a[i]::a.drop (i+1)) (b[i]::b.drop (i+1))=XM (a.drop (i+1)) (b.drop (i+1)):=by rw[XM,if_neg hc]
    rw[e,next (by omega)]
    exact ih (i+1) (by omega) (by omega)
theorem a6r: ∀ a:List Coef×List Coef×FnV 121×Unit,(decide (a.1.length<=9223372036854775807)&&decide (a.2.1.length<=9223372036854775807))=true->Zd Q9 0 (Zb UB (Zr (XM a.1 a.2.1))) UO [] (Z9 a8e (encL a)):=by
 rintro⟨a,b,g,⟨⟩⟩ h
 simp only[Bool.and_eq_true,decide_eq_true_eq]at h
 refine c3h a b ?_
 rw[List.length_map]
 exact Oe a b h.1 a.length 0 (by omega) (by omega)
theorem b3d: ∀ a:Lin×Lin×Unit,(Ya a.1&&Ya a.2.1)=true->Zd OM 0 (Zb Re (Zr (VJ a.1 a.2.1))) a0k [] (Z9 b7z (encL a)):=by
 rintro⟨a,b,⟨⟩⟩ h
 show Zd OM 0 (Zb Re (Zr (VJ a b))) _ _ _
 unfold VJ
 refine c7j a b ⟨Zc (a.t,b.t,({}:FnV 121),()) rfl h,Zf (a.t,b.t,({}:FnV 121),()) rfl (PE (fun hc=> ?_) fun hc=>Zf (a.k,b.k,()) rfl ?_)⟩
 ·have hc:XM a.t b.t≠0:=by simpa using hc
  rw[if_pos hc]
  exact Uz rfl
 ·have hc : ¬ XM a.t b.t≠0:=by simpa using hc
  rw[if_neg hc]
  exact Uz rfl
theorem c1y: ∀ a:Lin×Lin×Unit,(Ya a.1&&Ya a.2.1)=true->Zd c5e 0 (Zb a9q (Zr (VJ a.1 a.2.1==0))) b2v [] (Z9 c9k (encL a)):=by
 rintro⟨a,b,⟨⟩⟩ h
 exact d4k a b ⟨Zc (a,b,()) rfl h,Zf (a,b,()) rfl (ZA rfl)⟩
structure BoxT where
 v:List Str
 m:Int
 deriving DecidableEq
instance:Enc BoxT where
 sz:=2
 enc x:=.agg [enc x.v,enc x.m]
 dec | .agg [a,b]=>⟨dec a,dec b⟩|_=>⟨[],0⟩
 is | .agg [a,b]=>is (List Str) a&&is Int b|_=>false
 is_enc v:=by simp
 dec_enc v:=by simp
 sub p h:=by
  cases p with
  | agg xs=>
   match xs,h with
   | [a,b],h=>
    simp only[Bool.and_eq_true]at h
    exact .agg (.cons (Enc.sub a h.1).2 (.cons (Enc.sub b h.2).2 .nil))
  | _=>cases h
@[simp] theorem d6r (a b : PV) : is BoxT (.agg [a, b]) = (is (List Str) a && is Int b) := rfl
@[simp] theorem d6b (a b : PV) : (dec (.agg [a, b]) : BoxT) = ⟨dec a, dec b⟩ := rfl
structure Mono where
 c:Int
 v:List Str
 deriving DecidableEq
instance:Enc Mono where
 sz:=2
 enc x:=.agg [enc x.c,enc x.v]
 dec | .agg [a,b]=>⟨dec a,dec b⟩|_=>⟨0,[]⟩
 is | .agg [a,b]=>is Int a&&is (List Str) b|_=>false
 is_enc v:=by simp
 dec_enc v:=by simp
 sub p h:=by
  cases p with
  | agg xs=>
   match xs,h with
   | [a,b],h=>
    simp only[Bool.and_eq_true]at h
    exact .agg (.cons (Enc.sub a h.1).2 (.cons (Enc.sub b h.2).2 .nil))
  | _=>cases h
@[simp] theorem d6m (a b : PV) : is Mono (.agg [a, b]) = (is Int a && is (List Str) b) := rfl
@[simp] theorem d5w (a b : PV) : (dec (.agg [a, b]) : Mono) = ⟨dec a, dec b⟩ := rfl
structure NilS where
 deriving DecidableEq
instance:Enc NilS where
 sz:=1
 enc _:=.sl 0 true []
 dec _:=⟨⟩
 is | .sl 0 true []=>true|_=>false
 is_enc _:=rfl
 dec_enc _:=rfl
 sub p h:=by
  cases p with
  | sl s t xs=>
   cases xs with
   | nil=>cases s with
    | zero=>cases t with
     | true=>exact .refl _
     | false=>cases h
    | succ s=>cases h
   | cons x xs=>cases s <;> cases t <;> cases h
  | _=>cases h
end Go.Pl
namespace Go.Pl
open Go.RowKit
open Enc (enc dec is)
open EncL (encL decL isL)
set_option maxRecDepth 100000
abbrev d5h(ps:List PV)(k:Int×Er->Prop):Prop:=Qv (fun(x:Str×Unit)=>decide (List.length (Str.s (Prod.fst x))<=281474976710656)) (fun(x:Str×Unit)=>YW (Prod.fst x)) ps k
abbrev d2t(ps:List PV)(k:Str->Prop):Prop:=Qv (fun(x:Int×Unit)=>decide ((-9223372036854775808:Int)<=Prod.fst x)&&decide (Prod.fst x<=9223372036854775807)) (fun(x:Int×Unit)=>VC (Prod.fst x)) ps k
-- IMPOSSIBLE
noncomputable def YZ:IC:=Wy Proofs.Tryz.f140
def Y0:List IRes:=[(.tmp 2)]
abbrev a5i:Nat:=67
def Xm:ZC:=YM [(169,.pure (preT (fun _:Str×Str×Unit=>true)) (Zi (fun x:Str×Str×Unit=>x.2.1.s.isPrefixOf x.1.s))),(170,.pure (preT (fun x:Str×Unit=>decide (x.1.s.length<=281474976710656))) (Zi (fun x:Str×Unit=>YW x.1))),(68,.pure (preT (fun x:Int×Unit=>decide (-9223372036854775808<=x.1)&&decide (x.1<=9223372036854775807))) (Zi (fun x:Int×Unit=>VC x.1)))]
theorem b1s{G:PV->Prop}(s:List UInt8)(h : ∃ y0:Bool,AV.pv (Zi (fun(x:Str×Str×Unit)=>List.isPrefixOf (Str.s x.2.1) (Str.s x.1)) [(.str s),(.str [(95:UInt8)])])=AV.pv (enc y0)∧(if (y0)=true then(decide (0<=1)&&true&&decide (Int.toNat 1<=List.length s)&&decide (List.length s<=List.length s))=true∧((d5h [(.str (List.drop (Int.toNat 1) (List.take (List.length s) s)))] fun y1=>((Lv (enc y1.2)&&Prod.fst (true,PV.bool (QQ (enc y1.2))))=true∧(if (QQ (enc y1.2))=true then if (decide (y1.1>0))=true then if (decide ((↑(List.length s):Int)<=10))=true then(d2t [(.int .i64 y1.1)] fun y2=>((decide (0<=1)&&true&&decide (Int.toNat 1<=List.length s)&&decide (List.length s<=List.length s))=true∧(G ((.bool (Str.s y2==List.drop (Int.toNat 1) (List.take (List.length s) s)))))))else(G ((.bool false)))else(G ((.bool false)))else(G ((.bool false)))))))else(At Xm 0 (Zb Y0 G) YZ 0 67 [(0,(.pv (.str s))),(34,(.pv (.sl 1 false (Zw s)))),(35,(.pv (.int .i64 (↑(List.length (Zw s)):Int)))),(36,(.pv (.int .i64 0)))] []))):Zd Xm 0 (Zb Y0 G) YZ [] (Z9 67 [.str s]):=Zd.tp (dm [dv Bool,dv (Int×Er),dv Str] 70 0x2222222222220222222222022222022212271200a4222201842220294161103e452) h
theorem SY{G:PV->Prop}(s:List UInt8)(i:Int)(h:if (decide (i<(↑(List.length (Zw s)):Int)))=true then(decide (0<=i)&&decide (Int.toNat i<List.length (Zw s))&&1==1)=true∧((decide (0+List.length [Sh.int IntKind.u8]<=List.length (PV.cells (List.getD (Zw s) (Int.toNat i) default)))&&Yv (PV.cells (List.getD (Zw s) (Int.toNat i) default)) 0 [Sh.int IntKind.u8])=true∧(if (decide (PV.asInt (List.getD (PV.cells (List.getD (Zw s) (Int.toNat i) default)) 0 default)<97))=true then if (i==0)=true then G ((.bool false))else(if (decide (PV.asInt (List.getD (PV.cells (List.getD (Zw s) (Int.toNat i) default)) 0 default)<48))=true then G ((.bool false))else(if (decide (PV.asInt (List.getD (PV.cells (List.getD (Zw s) (Int.toNat i) default)) 0 default)>57))=true then G ((.bool false))else(At Xm 0 (Zb Y0 G) YZ 0 67 [(0,(.pv (.str s))),(34,(.pv (.sl 1 false (Zw s)))),(35,(.pv (.int .i64 (↑(List.length (Zw s)):Int)))),(36,(.pv (.int .i64 (IntKind.wrap IntKind.i64 (i+1)))))] [])))else(if (decide (PV.asInt (List.getD (PV.cells (List.getD (Zw s) (Int.toNat i) default)) 0 default)>122))=true then if (i==0)=true then G ((.bool false))else(if (decide (PV.asInt (List.getD (PV.cells (List.getD (Zw s) (Int.toNat i) default)) 0 default)<48))=true then G ((.bool false))else(if (decide (PV.asInt (List.getD (PV.cells (List.getD (Zw s) (Int.toNat i) default)) 0 default)>57))=true then G ((.bool false))else(At Xm 0 (Zb Y0 G) YZ 0 67 [(0,(.pv (.str s))),(34,(.pv (.sl 1 false (Zw s)))),(35,(.pv (.int .i64 (↑(List.length (Zw s)):Int)))),(36,(.pv (.int .i64 (IntKind.wrap IntKind.i64 (i+1)))))] [])))else(At Xm 0 (Zb Y0 G) YZ 0 67 [(0,(.pv (.str s))),(34,(.pv (.sl 1 false (Zw s)))),(35,(.pv (.int .i64 (↑(List.length (Zw s)):Int)))),(36,(.pv (.int .i64 (IntKind.wrap IntKind.i64 (i+1)))))] []))))else(if (!s==[])=true then G ((.bool (decide ((↑(List.length s):Int)<=30))))else(G ((.bool false))))):At Xm 0 (Zb Y0 G) YZ 0 67 [(0,.pv (.str s)),(34,.pv (.sl 1 false (Zw s))),(35,.pv (.int .i64 (Zw s).length)),(36,.pv (.int .i64 i))] []:=At.tp (dm [] 137 0x22202222005420222222220200014222220222220064222220222222222200b422202d42220200014222220222220064222220222222222200b42222220304213107542) h
end Go.Pl
namespace Go.Pl
open Go.RowKit
open Enc (enc dec is)
open EncL (encL decL isL)
theorem PR(s:List UInt8)(hs:s.length<=281474976710656): ∀ (m i:Nat),m+i=s.length->At Xm 0 (Zb Y0 (Zr (WA s i))) YZ 0 67 [(0,.pv (.str s)),(34,.pv (.sl 1 false (Zw s))),(35,.pv (.int .i64 (Zw s).length)),(36,.pv (.int .i64 i))] []:=by
 intro m
 induction m with
 | zero=>
  intro i hi
  have e:WA s i=(!(s==[])&&decide (s.length<=30)):=by
   unfold WA
   cases i with
   | zero=>cases s with
    | nil=>rfl
    | cons c r=>simp at hi
   | succ i=>simp only;rw[List.drop_of_length_le (show s.length<=i+1 by omega)];simp
  rw[e]
  refine SY s i (Wu (Qc (by rw[GJ];omega)) (VN (fun h=>ZA ?_) fun h=>ZA ?_))
  ·rw[h,Bool.true_and];exact decide_eq_decide.2 (by omega)
  ·rw[h,Bool.false_and]
 | succ m ih=>
  intro i hi
  have hlt:i<s.length:=by omega
  have h:=ih (i+1) (by omega)
  refine SY s i ?_
  rw[b6c hlt,next (by omega)]
  have stop:(lowB s[i]=false∧(i=0∨digB s[i]=false))->Zr (WA s i) (.bool false):=fun hb=>ZA (a4c hlt hb).symm
  have go:(lowB s[i]=true∨(i≠0∧digB s[i]=true))->At Xm 0 (Zb Y0 (Zr (WA s i))) YZ 0 67 [(0,.pv (.str s)),(34,.pv (.sl 1 false (Zw s))),(35,.pv (.int .i64 (Zw s).length)),(36,.pv (.int .i64 ((i+1:Nat):Int)))] []:=fun hb=>by rw[a3p hlt hb];exact h
  have rest:lowB s[i]=false->(if ((i:Int)==0)=true then Zr (WA s i) (.bool false)else if decide ((s[i].toNat:Int)<48)=true then Zr (WA s i) (.bool false)else if decide ((s[i].toNat:Int)>57)=true then Zr (WA s i) (.bool false)else At Xm 0 (Zb Y0 (Zr (WA s i))) YZ 0 67 [(0,.pv (.str s)),(34,.pv (.sl 1 false (Zw s))),(35,.pv (.int .i64 (Zw s).length)),(36,.pv (.int .i64 ((i+1:Nat):Int)))] []):=by
   intro hl
   refine Uk (fun h0=>stop ⟨hl,.inl (by omega)⟩) fun h0=>Wi (fun h1=>stop ⟨hl,.inr (Tq (by omega))⟩) fun h1=>Wi (fun h2=>stop ⟨hl,.inr (Tq (by omega))⟩) fun h2=>go (.inr ⟨by omega,Wq.2 (by omega)⟩)
  refine Xj (QO (by rw[GJ];exact hlt)) ⟨by rw[GJ];simp[hlt],by rfl,?_⟩
  refine Wi (fun h1=>rest (Sj ?_)) fun h1=>Wi (fun h2=>rest (Sj ?_)) fun h2=>go (.inl (a1j.2 ?_))
  ·have h1:(s[i].toNat:Int)<97:=h1
   omega
  ·have h2:(s[i].toNat:Int)>122:=h2
   omega
  ·have h1 : ¬ (s[i].toNat:Int)<97:=h1
   have h2 : ¬ (s[i].toNat:Int)>122:=h2
   omega
theorem OC: ∀ a:Str×Unit,decide (a.1.s.length<=281474976710656)=true->Zd Xm 0 (Zb Y0 (Zr (YA a.1))) YZ [] (Z9 a5i (encL a)):=by
 rintro⟨⟨s⟩,⟨⟩⟩ hl
 have hl:s.length<=281474976710656:=by simpa using hl
 refine b1s s (Zf (⟨s⟩,⟨[95]⟩,()) rfl (VN (fun h=> ?_) fun h=> ?_))
 ·have h:[95].isPrefixOf s=true:=h
  obtain⟨r,rfl⟩ : ∃ r,s=95::r:=by
   cases s with
   | nil=>simp at h
   | cons c r=>
    have:95=c:=by simpa using h
    exact⟨r,by rw[this]⟩
  have e1:List.drop (Int.toNat 1) (List.take (List.length (95::r)) (95::r))=r:=by rw[List.take_of_length_le (Nat.le_refl _)];rfl
  simp only[e1]
  refine⟨by simp,Zc (⟨r⟩,()) rfl (by simp at hl ⊢;omega),Zf (⟨r⟩,()) rfl ⟨by show(Lv (enc (YW ⟨r⟩).2)&&true)=true;rw[d5f];rfl,?_⟩⟩
  show if QQ (enc (YW ⟨r⟩).2)=true then(if decide ((YW ⟨r⟩).1>0)=true then(if _ then _ else Zr (YA ⟨95::r⟩) _)else Zr (YA ⟨95::r⟩) _)else Zr (YA ⟨95::r⟩) _
  rw[a7x]
  by_cases h9:r.length<=9
  ·rw[<- c0j r h9,decide_eq_true h9,Bool.and_true]
   refine VN (fun h1=>VN (fun h2=>Xj (by simp;omega) ⟨Zc ((YW ⟨r⟩).1,()) rfl (by have:=OO ⟨r⟩;simp;omega),Zf ((YW ⟨r⟩).1,()) rfl ⟨by simp,ZA ?_⟩⟩) fun h2=>ZA ?_) fun h1=>ZA ?_
   ·rw[h1,h2];simp only[Bool.true_and,Bool.and_true];rfl
   ·rw[h2];simp
   ·rw[h1];simp
  ·rw[decide_eq_false h9,Bool.and_false]
   refine VN (fun h1=>VN (fun h2=>Wu (by simp;omega) (ZA rfl)) fun h2=>ZA rfl) fun h1=>ZA rfl
 ·have h:[95].isPrefixOf s=false:=h
  show At Xm 0 (Zb Y0 (Zr (YA ⟨s⟩))) YZ 0 67 _ _
  rw[a5o h]
  exact PR s hl s.length 0 (by omega)
end Go.Pl
namespace Go.Pl
end Go.Pl
namespace Go.Pl.Cm
open Go.RowKit
open Enc (enc dec is)
open EncL (encL decL isL)
structure CmpOK {α:Type} (f:α->α->Int):Prop where
 anti : ∀ a b,f b a = - f a b
 zero : ∀ a b,f a b=0 ↔ a=b
 trans : ∀ a b c,f a b<=0->f b c<=0->f a c<=0
 rng : ∀ a b,-1<=f a b∧f a b<=1
theorem CmpOK.strict{α:Type}{f:α->α->Int}(h:CmpOK f){a b c:α}(h1:f a b<0)(h2:f b c<=0):f a c<0:=by
 have h3:=h.trans a b c (by omega) h2
 by_cases h0:f a c=0
 ·obtain rfl:=(h.zero a c).1 h0
  have:=h.anti a b
  omega
 ·omega
def XX{α:Type}(f:α->α->Int):List α->List α->Int
 | [],[]=>0
 | [],_::_=> -1
 | _::_,[]=>1
 | x::l,y::m=>if f x y≠0 then f x y else XX f l m
theorem Td{α:Type}{f:α->α->Int}(h:CmpOK f): ∀ a b,XX f b a = - XX f a b
 | [],[]=>rfl
 | [],_::_=>rfl
 | _::_,[]=>rfl
 | x::l,y::m=>by
  have h1:=h.anti x y
  rw[XX,XX,h1,Td h l m]
  by_cases h0:f x y=0
  ·rw[if_neg (by omega),if_neg (by omega)]
  ·rw[if_pos (by omega),if_pos (by omega)]
theorem Si{α:Type}{f:α->α->Int}(h:CmpOK f): ∀ a b,XX f a b=0 ↔ a=b
 | [],[]=>by simp[XX]
 | [],_::_=>by simp[XX]
 | _::_,[]=>by simp[XX]
 | x::l,y::m=>by
  rw[XX,List.cons.injEq,<- h.zero x y,<- Si h l m]
  by_cases h0:f x y=0
  ·rw[if_neg (by omega)];omega
  ·rw[if_pos (by omega)];omega
theorem PY{α:Type}{f:α->α->Int}(h:CmpOK f): ∀ a b,-1<=XX f a b∧XX f a b<=1
 | [],[]=>by simp[XX]
 | [],_::_=>by simp[XX]
 | _::_,[]=>by simp[XX]
 | x::l,y::m=>by
  rw[XX]
  split
  ·exact h.rng x y
  ·exact PY h l m
theorem BZ{α:Type}{f:α->α->Int}(h:CmpOK f): ∀ a b c,XX f a b<=0->XX f b c<=0->XX f a c<=0
 | [],_,[],_,_=>by simp[XX]
 | [],_,_::_,_,_=>by simp[XX]
 | _::_,[],_,h1,_=>by simp[XX]at h1
 | _::_,_::_,[],_,h2=>by simp[XX]at h2
 | x::l,y::m,z::n,h1,h2=>by
  rw[XX]at h1 h2 ⊢
  by_cases a:f x y=0
  ·obtain rfl:=(h.zero x y).1 a
   rw[if_neg (by omega)]at h1
   by_cases b:f x z=0
   ·rw[if_neg (by omega)]at h2 ⊢
    exact BZ h l m n h1 h2
   ·rw[if_pos b]at h2 ⊢
    exact h2
  ·rw[if_pos a]at h1
   by_cases b:f y z=0
   ·obtain rfl:=(h.zero y z).1 b
    rw[if_pos a]
    exact h1
   ·rw[if_pos b]at h2
    have:=h.strict (show f x y<0 by omega) h2
    rw[if_pos (by omega)]
    omega
theorem a2n{α:Type}{f:α->α->Int}(h:CmpOK f):CmpOK (XX f):=⟨Td h,Si h,BZ h,PY h⟩
theorem a0m{α β γ:Type}{f:β->β->Int}{g:γ->γ->Int}(p:α->β)(q:α->γ)(hpq : ∀ a b,p a=p b->q a=q b->a=b)(hf:CmpOK f)(hg:CmpOK g):CmpOK fun a b:α=>if f (p a) (p b)≠0 then f (p a) (p b)else g (q a) (q b):=by
 refine⟨fun a b=> ?_,fun a b=> ?_,fun a b c h1 h2=> ?_,fun a b=> ?_⟩
 ·have h1:=hf.anti (p a) (p b)
  have h2:=hg.anti (q a) (q b)
  try simp only
  by_cases h0:f (p a) (p b)=0
  ·rw[if_neg (by omega),if_neg (by omega),h2]
  ·rw[if_pos (by omega),if_pos h0,h1]
 ·try simp only
  by_cases h0:f (p a) (p b)=0
  ·rw[if_neg (by omega),hg.zero]
   exact⟨fun h=>hpq a b ((hf.zero _ _).1 h0) h,fun h=>by rw[h]⟩
  ·rw[if_pos h0]
   exact⟨fun h=>absurd h h0,fun h=>absurd ((hf.zero _ _).2 (by rw[h])) h0⟩
 ·try simp only at h1 h2 ⊢
  by_cases x:f (p a) (p b)=0
  ·have e:=(hf.zero _ _).1 x
   rw[if_neg (by omega)]at h1
   rw[e]
   by_cases y:f (p b) (p c)=0
   ·rw[if_neg (by omega)]at h2 ⊢
    exact hg.trans _ _ _ h1 h2
   ·rw[if_pos y]at h2 ⊢
    exact h2
  ·rw[if_pos x]at h1
   by_cases y:f (p b) (p c)=0
   ·have e:=(hf.zero _ _).1 y
    rw[<- e,if_pos x]
    exact h1
   ·rw[if_pos y]at h2
    have:=hf.strict (show f (p a) (p b)<0 by omega) h2
    rw[if_pos (by omega)]
    omega
 ·try simp only
  split
  ·exact hf.rng _ _
  ·exact hg.rng _ _
theorem Kn:CmpOK KP:=by
 refine⟨fun a b=> ?_,fun a b=> ?_,fun a b c=> ?_,fun a b=> ?_⟩ <;> unfold KP <;> (repeat' split) <;> omega
def a6k(a b:UInt8):Int:=if a<b then -1 else if b<a then 1 else 0
theorem Qk(a b:UInt8):a6k a b=KP a.toNat b.toNat:=by
 unfold a6k KP
 simp only[UInt8.lt_iff_toNat_lt]
 repeat' split
 all_goals omega
theorem c1b:CmpOK a6k:=by
 refine⟨fun a b=> ?_,fun a b=> ?_,fun a b c=> ?_,fun a b=> ?_⟩
 ·rw[Qk,Qk];exact Kn.anti _ _
 ·rw[Qk,Kn.zero]
  exact⟨fun h=>UInt8.toNat_inj.1 (by omega),fun h=>by rw[h]⟩
 ·rw[Qk,Qk,Qk];exact Kn.trans _ _ _
 ·rw[Qk];exact Kn.rng _ _
theorem PU: ∀ a b:List UInt8,Lib.compareBytes a b=XX a6k a b
 | [],[]=>rfl
 | [],_::_=>rfl
 | _::_,[]=>rfl
 | x::l,y::m=>by
  rw[Lib.compareBytes,XX,PU l m]
  unfold a6k
  by_cases h1:x<y
  ·simp[h1]
  ·by_cases h2:y<x
   ·simp[h1,h2]
   ·simp[h1,h2]
theorem b0f:CmpOK Lib.compareBytes:=by
 have:Lib.compareBytes=XX a6k:=by funext a b;exact PU a b
 rw[this]
 exact a2n c1b
theorem c0u:CmpOK Hy:=a0m (fun x:Coef=>x.v.s) (fun x:Coef=>x.c) (fun a b h1 h2=>by
 obtain⟨⟨s⟩,c⟩:=a
 obtain⟨⟨s'⟩,c'⟩:=b
 simp only at h1 h2
 rw[h1,h2]) b0f Kn
theorem Le: ∀ a b:List Coef,XM a b=XX Hy a b
 | [],[]=>rfl
 | [],_::_=>rfl
 | _::_,[]=>rfl
 | x::l,y::m=>by rw[XM,XX,Le l m]
theorem b6h:CmpOK XM:=by
 have:XM=XX Hy:=by funext a b;exact Le a b
 rw[this]
 exact a2n c0u
theorem a4o:CmpOK VJ:=a0m (fun x:Lin=>x.t) (fun x:Lin=>x.k) (fun a b h1 h2=>by
 obtain⟨k,t⟩:=a
 obtain⟨k',t'⟩:=b
 simp only at h1 h2
 rw[h1,h2]) b6h Kn
theorem cmpLin_dec(a b:Lin):(VJ a b==0)=decide (a=b):=by
 have:=a4o.zero a b
 by_cases h:a=b
 ·rw[this.2 h,decide_eq_true h];rfl
 ·rw[decide_eq_false h]
  exact beq_eq_false_iff_ne.2 fun e=>h (this.1 e)
end Go.Pl.Cm
namespace Go.Pl
open Go.RowKit
open Enc (enc dec is)
open EncL (encL decL isL)
set_option maxRecDepth 100000
noncomputable def Gq:IC:=Wy Proofs.Tryz.f61
def Gh:List IRes:=[(.tmp 4)]
abbrev c8l:Nat:=26
noncomputable def TI:ZC:=YM []
theorem d2i{G:PV->Prop}(a b:List Int)(h:if ((↑(List.length (List.map enc a)):Int) != (↑(List.length (List.map enc b)):Int))=true then G ((.bool false))else(At TI 0 (Zb Gh G) Gq 0 26 [(0,(.pv (.sl 1 false (List.map enc a)))),(1,(.pv (.sl 1 false (List.map enc b)))),(12,(.pv (.int .i64 (↑(List.length (List.map enc a)):Int)))),(13,(.pv (.int .i64 0)))] [])):Zd TI 0 (Zb Gh G) Gq [] (Z9 26 [enc a,enc b]):=Zd.tp (dm [] 8 0x142) h
theorem a9y{G:PV->Prop}(a b:List Int)(i:Int)(h:if (decide (i<(↑(List.length (List.map enc a)):Int)))=true then(decide (0<=i)&&decide (Int.toNat i<List.length (List.map enc a))&&Enc.sz Int==1)=true∧(∃ y0:Int,AV.pv (PV.rptr (PV.cells (List.getD (List.map enc a) (Int.toNat i) default)))=AV.pv (PV.rptr (PV.cells ((enc) y0)))∧((decide (0<=i)&&decide (Int.toNat i<List.length (List.map enc b))&&Enc.sz Int==1)=true∧(∃ y1:Int,AV.pv (PV.rptr (PV.cells (List.getD (List.map enc b) (Int.toNat i) default)))=AV.pv (PV.rptr (PV.cells ((enc) y1)))∧(if (PV.asInt (List.getD (PV.cells (enc y0)) 0 default) != PV.asInt (List.getD (PV.cells (enc y1)) 0 default))=true then G ((.bool false))else(At TI 0 (Zb Gh G) Gq 0 26 [(0,(.pv (.sl 1 false (List.map enc a)))),(1,(.pv (.sl 1 false (List.map enc b)))),(12,(.pv (.int .i64 (↑(List.length (List.map enc a)):Int)))),(13,(.pv (.int .i64 (IntKind.wrap IntKind.i64 (i+1)))))] [])))))else(G ((.bool true)))):At TI 0 (Zb Gh G) Gq 0 26 [(13,.pv (.int .i64 i)),(12,.pv (.int .i64 (a.map (enc:Int->PV)).length)),(0,.pv (enc a)),(1,.pv (enc b))] []:=At.tp (dm [dr Int] 21 0x200014225125100e42) h
noncomputable def Gg:IC:=Wy Proofs.Tryz.f62
def H5:List IRes:=[(.tmp 6)]
abbrev d1p:Nat:=32
noncomputable def TN:ZC:=YM [(63,.pure (preT (fun x:Lin×Lin×Unit=>Ya x.1&&Ya x.2.1)) (Zi (fun x:Lin×Lin×Unit=>decide (x.1=x.2.1))))]
theorem d5q{G:PV->Prop}(a b:List Lin)(h:if ((↑(List.length (List.map enc a)):Int) != (↑(List.length (List.map enc b)):Int))=true then G ((.bool false))else(At TN 0 (Zb H5 G) Gg 0 32 [(1,(.pv (.sl 2 false (List.map enc b)))),(2,(.pv (.fn 63))),(15,(.pv (.sl 2 false (List.map enc a)))),(16,(.pv (.int .i64 (↑(List.length (List.map enc a)):Int)))),(17,(.pv (.int .i64 0)))] [])):Zd TN 0 (Zb H5 G) Gg [] (Z9 32 [enc a,enc b,.fn 63]):=Zd.tp (dm [] 8 0x142) h
theorem b1d{G:PV->Prop}(a b:List Lin)(i:Int)(h:if (decide (i<(↑(List.length (List.map enc a)):Int)))=true then(decide (0<=i)&&decide (Int.toNat i<List.length (List.map enc a))&&Enc.sz Lin==2)=true∧(∃ y0:Lin,AV.pv (PV.rptr (PV.cells (List.getD (List.map enc a) (Int.toNat i) default)))=AV.pv (PV.rptr (PV.cells ((enc) y0)))∧((decide (0<=i)&&decide (Int.toNat i<List.length (List.map enc b))&&Enc.sz Lin==2)=true∧(∃ y1:Lin,AV.pv (PV.rptr (PV.cells (List.getD (List.map enc b) (Int.toNat i) default)))=AV.pv (PV.rptr (PV.cells ((enc) y1)))∧((Go.Pl.preT (fun(x:Lin×Lin×Unit)=>Ya x.1&&Ya x.2.1) [(.agg [(.int .i64 (PV.asInt (List.getD (PV.cells (enc y0)) 0 default))),(.sl 2 false (PV.asXs (List.getD (PV.cells (enc y0)) (0+1) default)))]),(.agg [(.int .i64 (PV.asInt (List.getD (PV.cells (enc y1)) 0 default))),(.sl 2 false (PV.asXs (List.getD (PV.cells (enc y1)) (0+1) default)))])])=true∧(∃ y2:Bool,AV.pv (Zi (fun(x:Lin×Lin×Unit)=>decide (x.1=x.2.1)) [(.agg [(.int .i64 (PV.asInt (List.getD (PV.cells (enc y0)) 0 default))),(.sl 2 false (PV.asXs (List.getD (PV.cells (enc y0)) (0+1) default)))]),(.agg [(.int .i64 (PV.asInt (List.getD (PV.cells (enc y1)) 0 default))),(.sl 2 false (PV.asXs (List.getD (PV.cells (enc y1)) (0+1) default)))])])=AV.pv (enc y2)∧(if (!y2)=true then G ((.bool false))else(At TN 0 (Zb H5 G) Gg 0 32 [(1,(.pv (.sl 2 false (List.map enc b)))),(2,(.pv (.fn 63))),(15,(.pv (.sl 2 false (List.map enc a)))),(16,(.pv (.int .i64 (↑(List.length (List.map enc a)):Int)))),(17,(.pv (.int .i64 (IntKind.wrap IntKind.i64 (i+1)))))] [])))))))else(G ((.bool true)))):At TN 0 (Zb H5 G) Gg 0 32 [(17,.pv (.int .i64 i)),(16,.pv (.int .i64 (a.map (enc:Lin->PV)).length)),(15,.pv (enc a)),(1,.pv (enc b)),(2,.pv (.fn 63))] []:=At.tp (dm [dr Lin,dv Bool] 22 0x2000146125125100f42) h
noncomputable def Gs:IC:=Wy Proofs.Tryz.f64
def GK:List IRes:=[(.tmp 6)]
abbrev c9n:Nat:=32
noncomputable def TH(N:Nat):ZC:=YM [(24,.pure (preT (fun x:Tm×Tm×Unit=>(tW x.1&&tW x.2.1)&&decide (ZI x.1<N))) (Zi (fun x:Tm×Tm×Unit=>QE x.1 x.2.1)))]
theorem d3b{G:PV->Prop}(N:Nat)(a b:List Tm)(h:if ((↑(List.length (List.map enc a)):Int) != (↑(List.length (List.map enc b)):Int))=true then G ((.bool false))else(At (TH N) 0 (Zb GK G) Gs 0 32 [(1,(.pv (.sl 10 false (List.map enc b)))),(2,(.pv (.fn 24))),(15,(.pv (.sl 10 false (List.map enc a)))),(16,(.pv (.int .i64 (↑(List.length (List.map enc a)):Int)))),(17,(.pv (.int .i64 0)))] [])):Zd (TH N) 0 (Zb GK G) Gs [] (Z9 32 [enc a,enc b,.fn 24]):=Zd.tp (dm [] 8 0x142) h
theorem b6e{G:PV->Prop}(N:Nat)(a b:List Tm)(i:Int)(h:if (decide (i<(↑(List.length (List.map enc a)):Int)))=true then(decide (0<=i)&&decide (Int.toNat i<List.length (List.map enc a))&&Enc.sz Tm==10)=true∧(∃ y0:Tm,AV.pv (PV.rptr (PV.cells (List.getD (List.map enc a) (Int.toNat i) default)))=AV.pv (PV.rptr (PV.cells ((enc) y0)))∧(shT y0=true∧((decide (0<=i)&&decide (Int.toNat i<List.length (List.map enc b))&&Enc.sz Tm==10)=true∧(∃ y1:Tm,AV.pv (PV.rptr (PV.cells (List.getD (List.map enc b) (Int.toNat i) default)))=AV.pv (PV.rptr (PV.cells ((enc) y1)))∧(shT y1=true∧((Go.Pl.preT (fun(x:Tm×Tm×Unit)=>tW x.1&&tW x.2.1&&decide (ZI x.1<N)) [PM y0,PM y1])=true∧(∃ y2:Bool,AV.pv (Zi (fun(x:Tm×Tm×Unit)=>QE x.1 x.2.1) [PM y0,PM y1])=AV.pv (enc y2)∧(if (!y2)=true then G ((.bool false))else(At (TH N) 0 (Zb GK G) Gs 0 32 [(1,(.pv (.sl 10 false (List.map enc b)))),(2,(.pv (.fn 24))),(15,(.pv (.sl 10 false (List.map enc a)))),(16,(.pv (.int .i64 (↑(List.length (List.map enc a)):Int)))),(17,(.pv (.int .i64 (IntKind.wrap IntKind.i64 (i+1)))))] [])))))))))else(G ((.bool true)))):At (TH N) 0 (Zb GK G) Gs 0 32 [(17,.pv (.int .i64 i)),(16,.pv (.int .i64 (a.map (enc:Tm->PV)).length)),(15,.pv (enc a)),(1,.pv (enc b)),(2,.pv (.fn 24))] []:=At.tp (dm [dr Tm,dv Bool] 22 0x2000146115115100f42) h
noncomputable def b0o:IC:=Wy Proofs.Tryz.f24
def b0g:List IRes:=[(.tmp 4)]
abbrev c7g:Nat:=72
noncomputable def c4w(N:Nat):ZC:=YM [(61,.pure (preT (fun x:List Int×List Int×Unit=>Z7 x.1)) (Zi (fun x:List Int×List Int×Unit=>decide (x.1=x.2.1)))),(62,.pure (preT (fun x:List Lin×List Lin×FnV 63×Unit=>Z7 x.1&&x.1.all Ya&&x.2.1.all Ya)) (Zi (fun x:List Lin×List Lin×FnV 63×Unit=>decide (x.1=x.2.1)))),(64,.pure (preT (fun x:List Tm×List Tm×FnV 24×Unit=>(tsW x.1&&tsW x.2.1)&&decide (ZW x.1<N))) (Zi (fun x:List Tm×List Tm×FnV 24×Unit=>Vu x.1 x.2.1)))]
theorem d4m{G:PV->Prop}(N:Nat)(n:Nd)(ks:List Tm)(m:Nd)(ls:List Tm)(h:if (Nd.kind n==Nd.kind m)=true then if (Str.s (Nd.name n)==Str.s (Nd.name m))=true then if (Nd.num n==Nd.num m)=true then if (Str.s (Nd.elem n)==Str.s (Nd.elem m))=true then(Go.Pl.preT (fun(x:List Int×List Int×Unit)=>Z7 x.1) [(.sl 1 false (List.map enc (Nd.dims n))),(.sl 1 false (List.map enc (Nd.dims m)))])=true∧(∃ y0:Bool,AV.pv (Zi (fun(x:List Int×List Int×Unit)=>decide (x.1=x.2.1)) [(.sl 1 false (List.map enc (Nd.dims n))),(.sl 1 false (List.map enc (Nd.dims m)))])=AV.pv (enc y0)∧(if (y0)=true then(Go.Pl.preT (fun(x:List Int×List Int×Unit)=>Z7 x.1) [(.sl 1 false (List.map enc (Nd.data n))),(.sl 1 false (List.map enc (Nd.data m)))])=true∧(∃ y1:Bool,AV.pv (Zi (fun(x:List Int×List Int×Unit)=>decide (x.1=x.2.1)) [(.sl 1 false (List.map enc (Nd.data n))),(.sl 1 false (List.map enc (Nd.data m)))])=AV.pv (enc y1)∧(if (y1)=true then(Go.Pl.preT (fun(x:List Lin×List Lin×FnV 63×Unit)=>Z7 x.1&&List.all x.1 Ya&&List.all x.2.1 Ya) [(.sl 2 false (List.map enc (Nd.sizes n))),(.sl 2 false (List.map enc (Nd.sizes m))),(.fn 63)])=true∧(∃ y2:Bool,AV.pv (Zi (fun(x:List Lin×List Lin×FnV 63×Unit)=>decide (x.1=x.2.1)) [(.sl 2 false (List.map enc (Nd.sizes n))),(.sl 2 false (List.map enc (Nd.sizes m))),(.fn 63)])=AV.pv (enc y2)∧(if (y2)=true then(Go.Pl.preT (fun(x:List Int×List Int×Unit)=>Z7 x.1) [(.sl 1 false (List.map enc (Nd.ranks n))),(.sl 1 false (List.map enc (Nd.ranks m)))])=true∧(∃ y3:Bool,AV.pv (Zi (fun(x:List Int×List Int×Unit)=>decide (x.1=x.2.1)) [(.sl 1 false (List.map enc (Nd.ranks n))),(.sl 1 false (List.map enc (Nd.ranks m)))])=AV.pv (enc y3)∧(if (y3)=true then(Go.Pl.preT (fun(x:List Tm×List Tm×FnV 24×Unit)=>tsW x.1&&tsW x.2.1&&decide (ZW x.1<N)) [(.sl 10 false (List.map enc ks)),(.sl 10 false (List.map enc ls)),(.fn 24)])=true∧(∃ y4:Bool,AV.pv (Zi (fun(x:List Tm×List Tm×FnV 24×Unit)=>Vu x.1 x.2.1) [(.sl 10 false (List.map enc ks)),(.sl 10 false (List.map enc ls)),(.fn 24)])=AV.pv (enc y4)∧(G ((.bool y4))))else(G ((.bool false)))))else(G ((.bool false)))))else(G ((.bool false)))))else(G ((.bool false)))))else(G ((.bool false)))else(G ((.bool false)))else(G ((.bool false)))else(G ((.bool false)))):Zd (c4w N) 0 (Zb b0g G) b0o [] (Z9 72 [.agg [enc n.kind,enc n.line,enc n.name,enc n.num,enc n.elem,enc n.dims,enc n.data,enc n.sizes,enc n.ranks,enc ks],.agg [enc m.kind,enc m.line,enc m.name,enc m.num,enc m.elem,enc m.dims,enc m.data,enc m.sizes,enc m.ranks,enc ls]]):=Zd.tp (dm [dv Bool] 334 0x22222222222222222222222222222222222222222222222222222022222222222222222222222222222222222222222222222022222222222222222222222222222222222222222022222222222222222222222222222222202222222222222222222222222022222222222222222022222222222022222025122220084251222201942512222030425122222204f42512222220764222222220a442222220d8422222211242) h
noncomputable def b5i:IC:=Wy Proofs.Tryz.f18
def b4w:List IRes:=[(.tmp 4)]
abbrev c9z:Nat:=10
noncomputable def c5y:ZC:=YM [(30,.pure (preT (fun x:Tm×Unit=>tW x.1)) (Zi (fun x:Tm×Unit=>ZX x.1))),(24,.pure (preT (fun x:Tm×Tm×Unit=>tW x.1&&tW x.2.1)) (Zi (fun x:Tm×Tm×Unit=>QE x.1 x.2.1)))]
theorem d3y{G:PV->Prop}(n:Nd)(ks:List Tm)(m:Nd)(ls:List Tm)(h:(Go.Pl.preT (fun(x:Tm×Unit)=>tW x.1) (Au n ks))=true∧(∃ y0:Tm,AV.pv (Zi (fun(x:Tm×Unit)=>ZX x.1) (Au n ks))=AV.pv (enc y0)∧((Go.Pl.preT (fun(x:Tm×Unit)=>tW x.1) [(.agg [(.int .i64 (Nd.kind m)),(.int .i64 (Nd.line m)),(.str (Str.s (Nd.name m))),(.int .i64 (Nd.num m)),(.str (Str.s (Nd.elem m))),(.sl 1 false (List.map enc (Nd.dims m))),(.sl 1 false (List.map enc (Nd.data m))),(.sl 2 false (List.map enc (Nd.sizes m))),(.sl 1 false (List.map enc (Nd.ranks m))),(.sl 10 false (List.map enc ls))])])=true∧(∃ y1:Tm,AV.pv (Zi (fun(x:Tm×Unit)=>ZX x.1) [(.agg [(.int .i64 (Nd.kind m)),(.int .i64 (Nd.line m)),(.str (Str.s (Nd.name m))),(.int .i64 (Nd.num m)),(.str (Str.s (Nd.elem m))),(.sl 1 false (List.map enc (Nd.dims m))),(.sl 1 false (List.map enc (Nd.data m))),(.sl 2 false (List.map enc (Nd.sizes m))),(.sl 1 false (List.map enc (Nd.ranks m))),(.sl 10 false (List.map enc ls))])])=AV.pv (enc y1)∧((Go.Pl.preT (fun(x:Tm×Tm×Unit)=>tW x.1&&tW x.2.1) [enc y0,enc y1])=true∧(∃ y2:Bool,AV.pv (Zi (fun(x:Tm×Tm×Unit)=>QE x.1 x.2.1) [enc y0,enc y1])=AV.pv (enc y2)∧(G ((.bool y2))))))))):Zd c5y 0 (Zb b4w G) b5i [] (Z9 10 [.agg [enc n.kind,enc n.line,enc n.name,enc n.num,enc n.elem,enc n.dims,enc n.data,enc n.sizes,enc n.ranks,enc ks],.agg [enc m.kind,enc m.line,enc m.name,enc m.num,enc m.elem,enc m.dims,enc m.data,enc m.sizes,enc m.ranks,enc ls]]):=Zd.tp (dm [dv Tm,dv Bool] 8 0x615151) h
end Go.Pl
namespace Go.Pl
open Go.RowKit
open Enc (enc dec is)
open EncL (encL decL isL)
theorem EW{α:Type}[BEq α][LawfulBEq α]{x y:α}{P Q:Prop}(h1:x=y->P)(h2:x≠y->Q):if (x==y)=true then P else Q:=by by_cases h:x=y;rw[if_pos (by simpa using h)];exact h1 h;rw[if_neg (by simpa using h)];exact h2 h
theorem a8w{l:Lin}(h:VB l=true):Ya l=true:=by unfold VB at h;rw[Bool.and_eq_true]at h;exact h.1
theorem Ep{ks:List Tm}{k:Tm}(h:k∈ks):ZI k<=ZW ks:=by
 induction ks with
 | nil=>cases h
 | cons a l ih=>
  rw[ZW]
  rcases List.mem_cons.1 h with rfl|h
  ·omega
  ·have:=ih h;omega
theorem b5d(a b:List Int)(ha:a.length<=9223372036854775807)(hab:a.length=b.length): ∀ (k i:Nat),k+i=a.length ->
  At TI 0 (Zb Gh (Zr (decide (a.drop i=b.drop i)))) Gq 0 26 [(0,.pv (enc a)),(1,.pv (enc b)),(12,.pv (.int .i64 (a.map (enc:Int->PV)).length)),(13,.pv (.int .i64 i))] []:=by
 intro k
 induction k with
 | zero=>
  intro i hi
  rw[List.drop_of_length_le (by omega),List.drop_of_length_le (by omega)]
  exact a9y a b i (Wu (Vj (by omega)) (ZA rfl))
 | succ k ih=>
  intro i hi
  have hlt:i<a.length:=by omega
  have hlt2:i<b.length:=by omega
  have h:=ih (i+1) (by omega)
  refine a9y a b i (Xj (WW hlt) ⟨ZR hlt rfl,Yg hlt ⟨ZR hlt2 rfl,Yg hlt2 ?_⟩⟩)
  show if (a[i] != b[i])=true then _ else _
  refine Fq (fun e=>ZA ?_) fun e=> ?_
  ·rw[List.drop_eq_getElem_cons hlt,List.drop_eq_getElem_cons hlt2,K8 e]
  ·rw[next (by omega),List.drop_eq_getElem_cons hlt,List.drop_eq_getElem_cons hlt2,KO e]
   exact h
theorem b8h: ∀ x:List Int×List Int×Unit,Z7 x.1=true->Zd TI 0 (Zb Gh (Zr (decide (x.1=x.2.1)))) Gq [] (Z9 c8l (encL x)):=by
 rintro⟨a,b,⟨⟩⟩ h
 have h:=of_decide_eq_true h
 refine d2i a b (Jv (fun e=>ZA (ME e).symm) fun e=> ?_)
 exact(b5d a b h e a.length 0 (by omega))
theorem b3p(a b:List Lin)(ha:a.length<=9223372036854775807)(wa:a.all Ya=true)(wb:b.all Ya=true)(hab:a.length=b.length): ∀ (k i:Nat),k+i=a.length ->
  At TN 0 (Zb H5 (Zr (decide (a.drop i=b.drop i)))) Gg 0 32 [(1,.pv (enc b)),(2,.pv (.fn 63)),(15,.pv (enc a)),(16,.pv (.int .i64 (a.map (enc:Lin->PV)).length)),(17,.pv (.int .i64 i))] []:=by
 intro k
 induction k with
 | zero=>
  intro i hi
  rw[List.drop_of_length_le (by omega),List.drop_of_length_le (by omega)]
  exact b1d a b i (Wu (Vj (by omega)) (ZA rfl))
 | succ k ih=>
  intro i hi
  have h1:i<a.length:=by omega
  have h2:i<b.length:=by omega
  have h:=ih (i+1) (by omega)
  have ga:Ya a[i]=true:=List.all_eq_true.1 wa _ (List.getElem_mem h1)
  have gb:Ya b[i]=true:=List.all_eq_true.1 wb _ (List.getElem_mem h2)
  refine b1d a b i (Xj (WW h1) ⟨ZR h1 rfl,Yg h1 ⟨ZR h2 rfl,Yg h2 ⟨Zc (a[i],b[i],()) rfl (by show(Ya _&&Ya _)=true;rw[ga,gb];rfl),Zf (a[i],b[i],()) rfl (Uq (fun e=>ZA ?_) fun e=> ?_)⟩⟩⟩)
  ·rw[List.drop_eq_getElem_cons h1,List.drop_eq_getElem_cons h2,K8 (of_decide_eq_false e)]
  ·rw[next (by omega),List.drop_eq_getElem_cons h1,List.drop_eq_getElem_cons h2,KO (of_decide_eq_true e)]
   exact h
theorem c0m: ∀ x:List Lin×List Lin×FnV 63×Unit,(Z7 x.1&&x.1.all Ya&&x.2.1.all Ya)=true->Zd TN 0 (Zb H5 (Zr (decide (x.1=x.2.1)))) Gg [] (Z9 d1p (encL x)):=by
 rintro⟨a,b,⟨⟩,⟨⟩⟩ h
 simp only[Bool.and_eq_true]at h
 obtain⟨⟨h,wa⟩,wb⟩:=h
 have h:=of_decide_eq_true h
 refine d5q a b (Jv (fun e=>ZA (ME e).symm) fun e=> ?_)
 exact(b3p a b h wa wb e a.length 0 (by omega))
theorem RQ{ts:List Tm}(h:tsW ts=true):ts.length<=1048576∧ ∀ k∈ts,tW k=true:=by
 have h:XH ts<=1048576:=of_decide_eq_true h
 exact⟨by have:=L9 ts;omega,fun k hk=>decide_eq_true (Nat.le_trans (Nc hk) h)⟩
theorem a8k(N:Nat)(a b:List Tm)(ha:a.length<=1048576)(wa : ∀ k∈a,tW k=true)(wb : ∀ k∈b,tW k=true)(hd:ZW a<N)(hab:a.length=b.length): ∀ (k i:Nat),k+i=a.length ->
  At (TH N) 0 (Zb GK (Zr (Vu (a.drop i) (b.drop i)))) Gs 0 32 [(1,.pv (enc b)),(2,.pv (.fn 24)),(15,.pv (enc a)),(16,.pv (.int .i64 (a.map (enc:Tm->PV)).length)),(17,.pv (.int .i64 i))] []:=by
 intro k
 induction k with
 | zero=>
  intro i hi
  rw[List.drop_of_length_le (by omega),List.drop_of_length_le (by omega)]
  exact b6e N a b i (Wu (Vj (by omega)) (ZA rfl))
 | succ k ih=>
  intro i hi
  have h1:i<a.length:=by omega
  have h2:i<b.length:=by omega
  have h:=ih (i+1) (by omega)
  have hk:=Ep (List.getElem_mem h1)
  refine b6e N a b i (Xj (WW h1) ⟨ZR h1 rfl,Yg h1 ⟨Uj _,ZR h2 rfl,Yg h2 ⟨Uj _,Zc (a[i],b[i],()) (a6t _ _) (by
   show(tW _&&tW _&&decide _)=true
   rw[wa _ (List.getElem_mem h1),wb _ (List.getElem_mem h2),decide_eq_true (show ZI a[i]<N by omega)];rfl),Zf (a[i],b[i],()) (a6t _ _) (Uq (fun e=>ZA ?_) fun e=> ?_)⟩⟩⟩)
  ·have e:QE a[i] b[i]=false:=e
   rw[List.drop_eq_getElem_cons h1,List.drop_eq_getElem_cons h2,Vu,e];rfl
  ·have e:QE a[i] b[i]=true:=e
   rw[next (by omega),List.drop_eq_getElem_cons h1,List.drop_eq_getElem_cons h2,Vu,e,Bool.true_and]
   exact h
theorem b8t(N:Nat): ∀ x:List Tm×List Tm×FnV 24×Unit,((tsW x.1&&tsW x.2.1)&&decide (ZW x.1<N))=true->Zd (TH N) 0 (Zb GK (Zr (Vu x.1 x.2.1))) Gs [] (Z9 c9n (encL x)):=by
 rintro⟨a,b,⟨⟩,⟨⟩⟩ h
 simp only[Bool.and_eq_true,decide_eq_true_eq]at h
 obtain⟨⟨wa,wb⟩,hd⟩:=h
 refine d3b N a b (Jv (fun e=>ZA (X5 fun h=>e (Hd h))) fun e=> ?_)
 exact(a8k N a b (RQ wa).1 (RQ wa).2 (RQ wb).2 hd e a.length 0 (by omega))
theorem b0x{n:Nd}{ks:List Tm}(h:tW (.mk n ks)=true):tsW ks=true:=by
 have h:Qi (.mk n ks)<=1048576:=of_decide_eq_true h
 rw[Qi]at h
 exact decide_eq_true (by omega)
theorem a0l{α:Type}{l:List α}(h:l.length<=1048576):Z7 l=true:=decide_eq_true (by omega)
theorem a2h{n:Nd}{ks:List Tm}(h:tW (.mk n ks)=true):n.sizes.all Ya=true:=List.all_eq_true.2 fun l hl=>a8w (Mw h l hl)
theorem b8p(N:Nat): ∀ x:Tm×Tm×Unit,((tW x.1&&tW x.2.1)&&decide (ZI x.1<N+1))=true->Zd (c4w N) 0 (Zb b0g (Zr (QE x.1 x.2.1))) b0o [] (Z9 c7g (encL x)):=by
 rintro⟨⟨n,ks⟩,⟨m,ls⟩,⟨⟩⟩ h
 simp only[Bool.and_eq_true,decide_eq_true_eq]at h
 obtain⟨⟨hw,hv⟩,hd⟩:=h
 have hd:ZI (.mk n ks)<N+1:=hd
 rw[ZI]at hd
 have hn:=F6 hw
 rw[<- a3i]
 refine d4m N n ks m ls (EW (fun k1=> ?_) fun k=>ZA (X5 fun h=>k (Yl.1 h).1.1))
 refine EW (fun k2=> ?_) fun k=>ZA (X5 fun h=>k (by rw[(Yl.1 h).1.2.1]))
 refine EW (fun k3=> ?_) fun k=>ZA (X5 fun h=>k (Yl.1 h).1.2.2.1)
 refine EW (fun k4=> ?_) fun k=>ZA (X5 fun h=>k (by rw[(Yl.1 h).1.2.2.2.1]))
 refine⟨Zc (n.dims,m.dims,()) rfl (a0l hn.dims),Zf (n.dims,m.dims,()) rfl (VN (fun k5=> ?_) fun k=>ZA (X5 fun h=>of_decide_eq_false k (Yl.1 h).1.2.2.2.2.1))⟩
 refine⟨Zc (n.data,m.data,()) rfl (a0l hn.data),Zf (n.data,m.data,()) rfl (VN (fun k6=> ?_) fun k=>ZA (X5 fun h=>of_decide_eq_false k (Yl.1 h).1.2.2.2.2.2.1))⟩
 have hs:(Z7 n.sizes&&n.sizes.all Ya&&m.sizes.all Ya)=true:=by rw[a0l hn.sizes,a2h hw,a2h hv];rfl
 refine⟨Zc (α:=List Lin×List Lin×FnV 63×Unit) (n.sizes,m.sizes,⟨()⟩,()) rfl hs,Zf (α:=List Lin×List Lin×FnV 63×Unit) (n.sizes,m.sizes,⟨()⟩,()) rfl (VN (fun k7=> ?_) fun k=>ZA (X5 fun h=>of_decide_eq_false k (Yl.1 h).1.2.2.2.2.2.2.1))⟩
 refine⟨Zc (n.ranks,m.ranks,()) rfl (a0l hn.ranks),Zf (n.ranks,m.ranks,()) rfl (VN (fun k8=> ?_) fun k=>ZA (X5 fun h=>of_decide_eq_false k (Yl.1 h).1.2.2.2.2.2.2.2))⟩
 have hk:(tsW ks&&tsW ls&&decide (ZW ks<N))=true:=by rw[b0x hw,b0x hv,decide_eq_true (show ZW ks<N by omega)];rfl
 refine⟨Zc (α:=List Tm×List Tm×FnV 24×Unit) (ks,ls,⟨()⟩,()) rfl hk,Zf (α:=List Tm×List Tm×FnV 24×Unit) (ks,ls,⟨()⟩,()) rfl (ZA ?_)⟩
 show Vu ks ls=QE (.mk n ks) (.mk m ls)
 rw[Bool.eq_iff_iff,Yl]
 exact⟨fun h=>⟨⟨k1,stt k2,k3,stt k4,of_decide_eq_true k5,of_decide_eq_true k6,of_decide_eq_true k7,of_decide_eq_true k8⟩,h⟩,fun h=>h.2⟩
theorem b8o: ∀ x:Tm×Tm×Unit,(tW x.1&&tW x.2.1&&tW (ZX x.1)&&tW (ZX x.2.1))=true->Zd c5y 0 (Zb b4w (Zr (KZ x.1 x.2.1))) b5i [] (Z9 c9z (encL x)):=by
 rintro⟨⟨n,ks⟩,⟨m,ls⟩,⟨⟩⟩ h
 simp only[Bool.and_eq_true]at h
 obtain⟨⟨⟨h1,h2⟩,h3⟩,h4⟩:=h
 rw[<- a3i]
 have e1:([ndC n ks]:List PV)=encL ((Tm.mk n ks,()):Tm×Unit):=by rw[Vd];rfl
 have e2:([ndC m ls]:List PV)=encL ((Tm.mk m ls,()):Tm×Unit):=by rw[Vd];rfl
 refine d3y n ks m ls ⟨Zc (.mk n ks,()) e1 h1,Zf (.mk n ks,()) e1 ⟨Zc (.mk m ls,()) e2 h2,Zf (.mk m ls,()) e2 ⟨Zc (ZX (.mk n ks),ZX (.mk m ls),()) rfl ?_,Zf (ZX (.mk n ks),ZX (.mk m ls),()) rfl (ZA rfl)⟩⟩⟩
 show(tW _&&tW _)=true
 rw[h3,h4];rfl
end Go.Pl
namespace Go.Pl
open Go.RowKit
open Enc (enc dec is)
open EncL (encL decL isL)
set_option maxRecDepth 100000
noncomputable def b4l:IC:=Wy Proofs.Tryz.f50
def a9d:List IRes:=[(.cell true 10 2)]
abbrev c8q:Nat:=8
noncomputable def c5n:ZC:=YM [(51,.pure (preT (fun _:Str×Unit=>true)) (Zi (fun x:Str×Unit=>vT x.1)))]
theorem d2l{G:PV->Prop}(s:List UInt8)(h : ∃ y0:Tm,AV.pv (Zi (fun(x:Str×Unit)=>vT x.1) [(.str s)])=AV.pv (enc y0)∧(∃ y1:Tm,AV.pv (Zi (fun(x:Str×Unit)=>vT x.1) [(.str [(118:UInt8),(49:UInt8)])])=AV.pv (enc y1)∧((List.all [enc y0,enc y1] fun(x:PV)=>List.length (PV.cells x)==10&&PV.cellsOk x)=true∧(G ((.agg [(.int .i64 6),(.int .i64 0),(.str [(97:UInt8),(100:UInt8),(100:UInt8)]),(.int .i64 0),(.str []),(.sl 0 true []),(.sl 0 true []),(.sl 0 true []),(.sl 0 true []),(.sl 10 false [enc y0,enc y1])])))))):Zd c5n 0 (Zb a9d G) b4l [] (Z9 8 [.str s]):=Zd.tp (dm [dv Tm] 8 0x215252) h
noncomputable def b1p:IC:=Wy Proofs.Tryz.f12
def b4o:List IRes:=[(.tmp 0)]
abbrev d0i:Nat:=39
noncomputable def c6h:ZC:=YM [(51,.pure (preT (fun _:Str×Unit=>true)) (Zi (fun x:Str×Unit=>vT x.1))),(16,.pure (preT (fun _:Str×Tm×Tm×Unit=>true)) (Zi (fun x:Str×Tm×Tm×Unit=>D9 (FK x.1 x.2.1 x.2.2.1)))),(50,.pure (preT (fun _:Str×Unit=>true)) (Zi (fun x:Str×Unit=>D9 (MR x.1)))),(22,.pure (preT (fun x:Tm×Unit=>tW x.1)) (Zi (fun x:Tm×Unit=>Xr x.1))),(25,.pure (preT (fun x:Tm×Tm×Unit=>tW x.1&&tW x.2.1)) (Zi (fun x:Tm×Tm×Unit=>QE x.1 x.2.1))),(30,.pure (preT (fun x:Tm×Unit=>tW x.1)) (Zi (fun x:Tm×Unit=>ZX x.1))),(21,.pure (preT (fun x:Tm×Unit=>tW x.1)) (Zi (fun x:Tm×Unit=>Dp x.1))),(18,.pure (preT (fun x:Tm×Tm×Unit=>tW x.1&&tW x.2.1&&tW (ZX x.1)&&tW (ZX x.2.1))) (Zi (fun x:Tm×Tm×Unit=>KZ x.1 x.2.1))),(32,.pure (preT (fun x:Tm×Unit=>tW x.1)) (Zi (fun x:Tm×Unit=>Y6 x.1)))]
theorem d4p{G:PV->Prop}(h : ∃ y0:TS,AV.pv (Zi (fun(x:Str×Unit)=>D9 (MR x.1)) [(.str [(98:UInt8)])])=AV.pv (enc y0)∧(∃ y1:Tm,AV.pv (Zi (fun(x:Str×Unit)=>vT x.1) [(.str [(120:UInt8)])])=AV.pv (enc y1)∧(∃ y2:Tm,AV.pv (Zi (fun(x:Str×Unit)=>vT x.1) [(.str [(97:UInt8)])])=AV.pv (enc y2)∧((Go.Pl.preT (fun(x:Str×Tm×Tm×Unit)=>true) [(.str [(98:UInt8)]),enc y2,(eS y0)])=true∧(∃ y3:TS,AV.pv (Zi (fun(x:Str×Tm×Tm×Unit)=>D9 (FK x.1 x.2.1 x.2.2.1)) [(.str [(98:UInt8)]),enc y2,(eS y0)])=AV.pv (enc y3)∧((Go.Pl.preT (fun(x:Str×Tm×Tm×Unit)=>true) [(.str [(97:UInt8)]),enc y1,(eS y3)])=true∧(∃ y4:TS,AV.pv (Zi (fun(x:Str×Tm×Tm×Unit)=>D9 (FK x.1 x.2.1 x.2.2.1)) [(.str [(97:UInt8)]),enc y1,(eS y3)])=AV.pv (enc y4)∧(∃ y5:Tm,AV.pv (Zi (fun(x:Str×Unit)=>vT x.1) [(.str [(120:UInt8)])])=AV.pv (enc y5)∧(∃ y6:Tm,AV.pv (Zi (fun(x:Str×Unit)=>vT x.1) [(.str [(118:UInt8),(50:UInt8)])])=AV.pv (enc y6)∧(∃ y7:TS,AV.pv (Zi (fun(x:Str×Unit)=>D9 (MR x.1)) [(.str [(118:UInt8),(51:UInt8)])])=AV.pv (enc y7)∧((Go.Pl.preT (fun(x:Str×Tm×Tm×Unit)=>true) [(.str [(118:UInt8),(51:UInt8)]),enc y6,(eS y7)])=true∧(∃ y8:TS,AV.pv (Zi (fun(x:Str×Tm×Tm×Unit)=>D9 (FK x.1 x.2.1 x.2.2.1)) [(.str [(118:UInt8),(51:UInt8)]),enc y6,(eS y7)])=AV.pv (enc y8)∧((Go.Pl.preT (fun(x:Str×Tm×Tm×Unit)=>true) [(.str [(118:UInt8),(50:UInt8)]),enc y5,(eS y8)])=true∧(∃ y9:TS,AV.pv (Zi (fun(x:Str×Tm×Tm×Unit)=>D9 (FK x.1 x.2.1 x.2.2.1)) [(.str [(118:UInt8),(50:UInt8)]),enc y5,(eS y8)])=AV.pv (enc y9)∧((Go.Pl.preT (fun(x:Tm×Unit)=>tW x.1) [(eS y4)])=true∧(∃ y10:Bool,AV.pv (Zi (fun(x:Tm×Unit)=>Xr x.1) [(eS y4)])=AV.pv (enc y10)∧(if (y10)=true then(Go.Pl.preT (fun(x:Tm×Unit)=>tW x.1) [(eS y4)])=true∧(∃ y11:Tm,AV.pv (Zi (fun(x:Tm×Unit)=>ZX x.1) [(eS y4)])=AV.pv (enc y11)∧((Go.Pl.preT (fun(x:Tm×Tm×Unit)=>tW x.1&&tW x.2.1) [enc y11,(eS y9)])=true∧(∃ y12:Bool,AV.pv (Zi (fun(x:Tm×Tm×Unit)=>QE x.1 x.2.1) [enc y11,(eS y9)])=AV.pv (enc y12)∧(if (y12)=true then(Go.Pl.preT (fun(x:Tm×Unit)=>tW x.1) [(eS y4)])=true∧(∃ y13:Int,AV.pv (Zi (fun(x:Tm×Unit)=>Dp x.1) [(eS y4)])=AV.pv (enc y13)∧(if (y13==7)=true then(Go.Pl.preT (fun(x:Tm×Tm×Unit)=>tW x.1&&tW x.2.1&&tW (ZX x.1)&&tW (ZX x.2.1)) [(eS y4),(eS y9)])=true∧(∃ y14:Bool,AV.pv (Zi (fun(x:Tm×Tm×Unit)=>KZ x.1 x.2.1) [(eS y4),(eS y9)])=AV.pv (enc y14)∧(if (y14)=true then(Go.Pl.preT (fun(x:Tm×Unit)=>tW x.1) [(eS y4)])=true∧(∃ y15:List Str,AV.pv (Zi (fun(x:Tm×Unit)=>Y6 x.1) [(eS y4)])=AV.pv (enc y15)∧(G ((.bool ((↑(List.length (List.map enc y15)):Int)==1)))))else(G ((.bool false)))))else(G ((.bool false)))))else(G ((.bool false)))))))else(G ((.bool false)))))))))))))))))))):Zd c6h 0 (Zb b4o G) b1p [] (Z9 39 []):=Zd.tp (dm [dv TS,dv Tm,dv Bool,dv Int,dv (List Str)] 111 0x2222222222222222202222222222220222222220222202222912008427122016422281202942712261204247151515262625151626252) h
end Go.Pl
namespace Go.Pl
open Go.RowKit
open Enc (enc dec is)
open EncL (encL decL isL)
theorem b9y: ∀ x:Str×Unit,true=true->Zd c5n 0 (Zb a9d (Zr (MR x.1))) b4l [] (Z9 c8q (encL x)):=by
 rintro⟨s,⟨⟩⟩ _
 refine d2l s.s (Zf (s,()) rfl (Zf (⟨[118,49]⟩,()) rfl ⟨?_,?_⟩))
 ·simp only[List.all_cons,List.all_nil,vT,ZB]
  rfl
 ·have h:is (List Tm) (.sl 10 false [enc (vT s),enc (vT ⟨[118,49]⟩)])=true:=Enc.is_enc [vT s,vT ⟨[118,49]⟩]
  have h2:(dec (.sl 10 false [enc (vT s),enc (vT ⟨[118,49]⟩)]):List Tm)=[vT s,vT ⟨[118,49]⟩]:=Enc.dec_enc [vT s,vT ⟨[118,49]⟩]
  refine⟨?_,?_⟩
  ·simp[h]
  ·rw[b3k _ _ _ _ _ _ _ _ _ _ h,h2]
   simp[MR,nd0,d2m]
theorem c3m: ∀ x:Unit,true=true->Zd c6h 0 (Zb b4o (Zr true)) b1p [] (Z9 d0i (encL x)):=by
 rintro⟨⟩ _
 refine d4p (Zf (⟨[98]⟩,()) rfl (Zf (⟨[120]⟩,()) rfl (Zf (⟨[97]⟩,()) rfl ?_)))
 refine⟨Zc (⟨[98]⟩,vT ⟨[97]⟩,MR ⟨[98]⟩,()) (Nw _ _ _) rfl,Zf (⟨[98]⟩,vT ⟨[97]⟩,MR ⟨[98]⟩,()) (Nw _ _ _) ?_⟩
 refine⟨Zc (⟨[97]⟩,vT ⟨[120]⟩,FK ⟨[98]⟩ (vT ⟨[97]⟩) (MR ⟨[98]⟩),()) (Nw _ _ _) rfl,Zf (⟨[97]⟩,vT ⟨[120]⟩,FK ⟨[98]⟩ (vT ⟨[97]⟩) (MR ⟨[98]⟩),()) (Nw _ _ _) ?_⟩
 refine Zf (⟨[120]⟩,()) rfl (Zf (⟨[118,50]⟩,()) rfl (Zf (⟨[118,51]⟩,()) rfl ?_))
 refine⟨Zc (⟨[118,51]⟩,vT ⟨[118,50]⟩,MR ⟨[118,51]⟩,()) (Nw _ _ _) rfl,Zf (⟨[118,51]⟩,vT ⟨[118,50]⟩,MR ⟨[118,51]⟩,()) (Nw _ _ _) ?_⟩
 refine⟨Zc (⟨[118,50]⟩,vT ⟨[120]⟩,FK ⟨[118,51]⟩ (vT ⟨[118,50]⟩) (MR ⟨[118,51]⟩),()) (Nw _ _ _) rfl,Zf (⟨[118,50]⟩,vT ⟨[120]⟩,FK ⟨[118,51]⟩ (vT ⟨[118,50]⟩) (MR ⟨[118,51]⟩),()) (Nw _ _ _) ?_⟩
 refine⟨Zc (Kr,()) (PO Kr) a8s,Zf (Kr,()) (PO Kr) (Xj a9e ?_)⟩
 refine⟨Zc (Kr,()) (PO Kr) a8s,Zf (Kr,()) (PO Kr) ?_⟩
 refine⟨Zc (ZX Kr,Pg,()) (d2y _ Pg) (by show(tW (ZX Kr)&&tW Pg)=true;rw[TY,c5l];rfl),Zf (ZX Kr,Pg,()) (d2y _ Pg) (Xj (by show QE (ZX Kr) Pg=true;rw[TY];exact c5u) ?_)⟩
 refine⟨Zc (Kr,()) (PO Kr) a8s,Zf (Kr,()) (PO Kr) (Xj (by show(Dp Kr==7)=true;unfold Dp;rw[c1q];rfl) ?_)⟩
 refine⟨Zc (Kr,Pg,()) (c1e Kr Pg) (by show(tW Kr&&tW Pg&&tW (ZX Kr)&&tW (ZX Pg))=true;rw[TY,a2e,a8s,c5l];rfl),Zf (Kr,Pg,()) (c1e Kr Pg) (Xj (by show QE (ZX Kr) (ZX Pg)=true;rw[TY,a2e];exact c5u) ?_)⟩
 refine⟨Zc (Kr,()) (PO Kr) a8s,Zf (Kr,()) (PO Kr) (ZA ?_)⟩
 show(((List.map (enc:Str->PV) (Y6 Kr)).length:Int)==1)=true
 rw[List.length_map,b4e];rfl
theorem nd1(n:Nd)(ks:List Tm):([ndC n ks]:List PV)=encL (Tm.mk n ks,()):=by rw[Vd];rfl
end Go.Pl
namespace Go.Pl
open Go.RowKit
open Enc (enc dec is)
open EncL (encL decL isL)
set_option maxRecDepth 100000
end Go.Pl
namespace Go.Pl
open Go.RowKit
open Enc (enc dec is)
open EncL (encL decL isL)
theorem d2z(s:Tm)(n:Nd)(ks:List Tm):([eS (D9 s),ndC n ks]:List PV)=encL (s,Tm.mk n ks,()):=by rw[CZ,Vd];rfl
end Go.Pl
namespace Go.Pl
open Go.RowKit
open Enc (enc dec is)
open EncL (encL decL isL)
set_option maxRecDepth 100000
def XP:IC:=(Vq [ZG 1 (.box 10 (.t 0)) 0,ZG 2 (.alloc (.agg [(.int .i64 0),(.int .i64 0),(.str []),(.int .i64 0),(.str []),(.sl 0 true []),(.sl 0 true []),(.sl 0 true []),(.sl 0 true []),(.sl 0 true [])])) 1] (.seq (.reg [ZG 5 (.faddr 4 (.t 1)) 0,ZG 6 (.faddr 0 (.t 5)) 0,ZG 7 (.load false [.str] (.t 6)) 0,ZG 8 (.faddr 4 (.t 1)) 0,ZG 9 (.faddr 1 (.t 8)) 0,ZG 10 (Ap [(.sl 1)] (.t 9)) 0,ZG 11 (c'' 93 [(.t 10)]) 0,ZG 12 (.faddr 4 (.t 1)) 2,ZG 13 (.faddr 2 (.t 12)) 2,ZG 14 (Ap [(.sl 1)] (.t 13)) 2,ZG 15 (c'' 93 [(.t 14)]) 2,ZG 16 (.build [(.str []),(.sl 0 true []),(.sl 0 true [])] [(0,(1,(.t 7))),(1,(1,(.t 11))),(2,(1,(.t 15)))]) 4,ZG 17 (.faddr 4 (.t 1)) 4,TR (.store 3 (.t 17) (.t 16)) 4] (some [[],[0],[1,0],[],[3],[4,3],[5,4,3],[],[7],[8,7],[9,6,8,7,5,4,3],[2,6,10,1,0,5,4,3,9,8,7],[0,1,2,3,4,5,6,7,8,9,10,11],[12,11,10,0,1,2,3,4,5,6,7,8,9]])) (Vq [ZG 18 (.faddr 8 (.t 1)) 0,ZG 19 (Ap [(.sl 1)] (.t 18)) 0,ZG 20 (c'' 93 [(.t 19)]) 0,ZG 21 (.faddr 8 (.t 1)) 2,TR (.store 1 (.t 21) (.t 20)) 2] (Vq [ZG 22 (.faddr 7 (.t 1)) 0,ZG 23 (Ap [(.sl 2)] (.t 22)) 0,ZG 24 (c'' 94 [(.t 23)]) 0,ZG 25 (.faddr 7 (.t 1)) 2,TR (.store 1 (.t 25) (.t 24)) 2] (.seq (Vq [ZG 26 (.faddr 7 (.t 1)) 0,ZG 27 (Ap [(.sl 2)] (.t 26)) 0,ZG 28 (.len 1 (.t 27)) 0,ZG 29 (.mv (Qp 0)) 0] (.block 0 (.loop [29,28,1,49,50,52,51,53,54,55,4,58,59,60,61,62,56,57,64,63,65,2,66] (Vq [ZG 30 (DW .lss (.t 29) (.t 28)) 0] (.seq (.cond (.t 30) .skip (.exit 0)) (.seq (.block 1 (Vq [ZG 31 (WC 29) 0,ZG 3 (WC 31) 0] (.reg [ZG 32 (.faddr 7 (.t 1)) 0,ZG 33 (Ap [(.sl 2)] (.t 32)) 0,ZG 34 (WC 3) 0,ZG 35 (.faddr 7 (.t 1)) 0,ZG 36 (Ap [(.sl 2)] (.t 35)) 0,ZG 37 (WC 3) 0,ZG 38 (.iaddr 2 (.t 36) (.t 37)) 0,ZG 39 (.faddr 1 (.t 38)) 0,ZG 40 (Ap [(.sl 2)] (.t 39)) 0,ZG 41 (c'' 95 [(.t 40)]) 0,ZG 42 (.iaddr 2 (.t 33) (.t 34)) 2,ZG 43 (.faddr 1 (.t 42)) 2,TR (.store 1 (.t 43) (.t 41)) 2] (some [[],[0],[],[],[3],[],[4,5,3],[6,4,5,3],[7,6,4,5,3],[8,7,6,4,5,3],[1,2,0,3,4,5,6,7,8,9],[10,0,1,2,3,4,5,6,7,8,9],[11,9,0,1,2,3,4,5,6,7,8,10]])))) (.reg [ZG 44 (DW .add (.t 29) (Qp 1)) 0,ZG 29 (WC 44) 0] none))))))) (Vq [ZG 45 (.faddr 9 (.t 1)) 0,ZG 46 (Ap [(.sl 10)] (.t 45)) 0,ZG 47 (c'' 96 [(.t 46)]) 0,ZG 48 (.faddr 9 (.t 1)) 2,TR (.store 1 (.t 48) (.t 47)) 2] (.ext 0 [1,49,50,52,51,53,54,55,4,58,59,60,61,62,56,57,64,63,65,2,66])))))))
def UX:ZC:=YM [(93,.pure (preT (fun x:List Int×Unit=>decide (x.1.length<=2000000))) (Zi (fun x:List Int×Unit=>x.1))),(94,.own (Yf 2) (Xu 62 2)),(95,.pure (preT (fun x:List Coef×Unit=>decide (x.1.length<=2000000))) (Zi (fun x:List Coef×Unit=>x.1))),(96,.own (Yf 10) (Xu 28 10))]
theorem c6z{G:Zn->Prop}(RR:Nat->St->Prop)(n:Nd)(ks:List Tm)(h:(Go.Pl.preT (fun(x:List Int×Unit)=>decide (List.length x.1<=2000000)) [(.sl 1 false (List.map enc (Nd.dims n)))])=true∧(∃ y0:List Int,AV.pv (Zi (fun(x:List Int×Unit)=>x.1) [(.sl 1 false (List.map enc (Nd.dims n)))])=AV.pv (enc y0)∧((Go.Pl.preT (fun(x:List Int×Unit)=>decide (List.length x.1<=2000000)) [(.sl 1 false (List.map enc (Nd.data n)))])=true∧(∃ y1:List Int,AV.pv (Zi (fun(x:List Int×Unit)=>x.1) [(.sl 1 false (List.map enc (Nd.data n)))])=AV.pv (enc y1)∧((Go.Pl.preT (fun(x:List Int×Unit)=>decide (List.length x.1<=2000000)) [(.sl 1 false (List.map enc (Nd.ranks n)))])=true∧(∃ y2:List Int,AV.pv (Zi (fun(x:List Int×Unit)=>x.1) [(.sl 1 false (List.map enc (Nd.ranks n)))])=AV.pv (enc y2)∧((Yf 2 [(.pv (.sl 2 false (List.map enc (Nd.sizes n))))] [])=true∧(AtM UX (WO RR) 0 (fun st=>G st.heap) XP 0 67 [(1,(.ptr 0 0)),(2,(.ptr 1 0)),(4,.undef),(28,(.pv (.int .i64 (↑(List.length (List.map enc (Nd.sizes n)) - 0):Int)))),(29,(.pv (.int .i64 0))),(49,.undef),(50,.undef),(51,.undef),(52,.undef),(53,.undef),(54,.undef),(55,.undef),(56,.undef),(57,.undef),(58,.undef),(59,.undef),(60,.undef),(61,.undef),(62,.undef),(63,.undef),(64,.undef),(65,.undef),(66,.undef)] [(.obj (.box [(.pv (.int .i64 (Nd.kind n))),(.pv (.int .i64 (Nd.line n))),(.pv (.str (Str.s (Nd.name n)))),(.pv (.int .i64 (Nd.num n))),(.pv (.str (Str.s (Nd.elem n)))),(.pv (.sl 1 false (List.map enc y0))),(.pv (.sl 1 false (List.map enc y1))),(.row 2 (List.length (List.map enc (Nd.sizes n))) 0 (List.length (List.map enc (Nd.sizes n)))),(.pv (.sl 1 false (List.map enc y2))),(.pv (.sl 10 false (List.map enc ks)))])),(.obj (.box [(.pv (.int .i64 0)),(.pv (.int .i64 0)),(.pv (.str [])),(.pv (.int .i64 0)),(.pv (.str [])),(.pv (.sl 0 true [])),(.pv (.sl 0 true [])),(.pv (.sl 0 true [])),(.pv (.sl 0 true [])),(.pv (.sl 0 true []))])),(.obj (.row false 62 2 (List.map enc (Nd.sizes n))))])))))))):Zz UX (WO RR) 0 (fun st=>G st.heap) (.inl XP) [] (XJ 67 [.pv (.agg [enc n.kind,enc n.line,enc n.name,enc n.num,enc n.elem,enc n.dims,enc n.data,enc n.sizes,enc n.ranks,enc ks])] []):=Zz.mh (dm [dv (List Int)] 10 0x31515151) h
theorem a1b{G:Zn->Prop}(RR:Nat->St->Prop)(n:Nd)(ks:List Tm)(m:Nat)(L:List Lin)(i:Int)(h:if (decide (i<(↑m:Int)))=true then(decide (0<=i)&&decide (0+Int.toNat i<m)&&List.length (List.map enc L)==m)=true∧((List.length (List.map enc L)==m&&decide (0+Int.toNat i<List.length (List.map enc L)))=true∧((decide (0+1+List.length [Sh.sl 2]<=List.length (PV.cells (List.getD (List.map enc L) (0+Int.toNat i) default)))&&Yv (PV.cells (List.getD (List.map enc L) (0+Int.toNat i) default)) (0+1) [Sh.sl 2])=true∧((Go.Pl.preT (fun(x:List Coef×Unit)=>decide (List.length x.1<=2000000)) [(.sl 2 (PV.asT (List.getD (PV.cells (List.getD (List.map enc L) (0+Int.toNat i) default)) (0+1) default)) (PV.asXs (List.getD (PV.cells (List.getD (List.map enc L) (0+Int.toNat i) default)) (0+1) default)))])=true∧(∃ y0:List Coef,AV.pv (Zi (fun(x:List Coef×Unit)=>x.1) [(.sl 2 (PV.asT (List.getD (PV.cells (List.getD (List.map enc L) (0+Int.toNat i) default)) (0+1) default)) (PV.asXs (List.getD (PV.cells (List.getD (List.map enc L) (0+Int.toNat i) default)) (0+1) default)))])=AV.pv (enc y0)∧((decide (0<=i)&&decide (0+Int.toNat i<m)&&List.length (List.map enc L)==m)=true∧((List.length (List.map enc L)==m&&decide (0+Int.toNat i<List.length (List.map enc L))&&List.length (PV.cells (enc y0))==1&&decide (0+1+1<=List.length (PV.cells (List.getD (List.map enc L) (0+Int.toNat i) default)))&&PV.cellsOk (enc y0))=true∧(AtM UX (WO RR) 0 (fun st=>G st.heap) XP 0 67 [(1,(.ptr 0 0)),(2,(.ptr 1 0)),(4,.undef),(28,(.pv (.int .i64 (↑m:Int)))),(29,(.pv (.int .i64 (IntKind.wrap IntKind.i64 (i+1))))),(49,.undef),(50,.undef),(51,.undef),(52,.undef),(53,.undef),(54,.undef),(55,.undef),(56,.undef),(57,.undef),(58,.undef),(59,.undef),(60,.undef),(61,.undef),(62,.undef),(63,.undef),(64,.undef),(65,.undef),(66,.undef)] [(.obj (.box [(.pv (.int .i64 (Nd.kind n))),(.pv (.int .i64 (Nd.line n))),(.pv (.str (Str.s (Nd.name n)))),(.pv (.int .i64 (Nd.num n))),(.pv (.str (Str.s (Nd.elem n)))),(.pv (.sl 1 false (List.map enc (Nd.dims n)))),(.pv (.sl 1 false (List.map enc (Nd.data n)))),(.row 2 m 0 m),(.pv (.sl 1 false (List.map enc (Nd.ranks n)))),(.pv (.sl 10 false (List.map enc ks)))])),(.obj (.box [(.pv (.int .i64 0)),(.pv (.int .i64 0)),(.pv (.str [])),(.pv (.int .i64 0)),(.pv (.str [])),(.pv (.sl 0 true [])),(.pv (.sl 0 true [])),(.pv (.sl 0 true [])),(.pv (.sl 0 true [])),(.pv (.sl 0 true []))])),(.obj (.row false 62 2 (List.set (List.map enc L) (0+Int.toNat i) (PV.withCells (List.getD (List.map enc L) (0+Int.toNat i) default) (splice (PV.cells (List.getD (List.map enc L) (0+Int.toNat i) default)) (0+1) (PV.cells (enc y0)))))))])))))))else((Yf 10 [(.pv (.sl 10 false (List.map enc ks)))] [])=true∧((WO RR) 0 ⟨ZL 67 0 [(1,(.ptr 0 0)),(2,(.ptr 1 0)),(4,.undef),(49,.undef),(50,.undef),(51,.undef),(52,.undef),(53,.undef),(54,.undef),(55,.undef),(56,.undef),(57,.undef),(58,.undef),(59,.undef),(60,.undef),(61,.undef),(62,.undef),(63,.undef),(64,.undef),(65,.undef),(66,.undef)],[(.obj (.box [(.pv (.int .i64 (Nd.kind n))),(.pv (.int .i64 (Nd.line n))),(.pv (.str (Str.s (Nd.name n)))),(.pv (.int .i64 (Nd.num n))),(.pv (.str (Str.s (Nd.elem n)))),(.pv (.sl 1 false (List.map enc (Nd.dims n)))),(.pv (.sl 1 false (List.map enc (Nd.data n)))),(.row 2 m 0 m),(.pv (.sl 1 false (List.map enc (Nd.ranks n)))),(.row 3 (List.length (List.map enc ks)) 0 (List.length (List.map enc ks)))])),(.obj (.box [(.pv (.int .i64 0)),(.pv (.int .i64 0)),(.pv (.str [])),(.pv (.int .i64 0)),(.pv (.str [])),(.pv (.sl 0 true [])),(.pv (.sl 0 true [])),(.pv (.sl 0 true [])),(.pv (.sl 0 true [])),(.pv (.sl 0 true []))])),(.obj (.row false 62 2 (List.map enc L))),(.obj (.row false 28 10 (List.map enc ks)))]⟩ (fun x S'=>Kj UX (WO RR) 0 (fun st=>G st.heap) XP 0 x S')))):AtM UX (WO RR) 0 (fun st=>G st.heap) XP 0 67 [(1,.ptr 0 0),(2,.ptr 1 0),(4,.undef),(28,.pv (.int .i64 m)),(29,.pv (.int .i64 i)),(49,.undef),(50,.undef),(51,.undef),(52,.undef),(53,.undef),(54,.undef),(55,.undef),(56,.undef),(57,.undef),(58,.undef),(59,.undef),(60,.undef),(61,.undef),(62,.undef),(63,.undef),(64,.undef),(65,.undef),(66,.undef)] [.obj (.box [.pv (enc n.kind),.pv (enc n.line),.pv (enc n.name),.pv (enc n.num),.pv (enc n.elem),.pv (enc n.dims),.pv (enc n.data),.row 2 m 0 m,.pv (enc n.ranks),.pv (enc ks)]),.obj (.box [.pv (.int .i64 0),.pv (.int .i64 0),.pv (.str []),.pv (.int .i64 0),.pv (.str []),.pv (.sl 0 true []),.pv (.sl 0 true []),.pv (.sl 0 true []),.pv (.sl 0 true []),.pv (.sl 0 true [])]),.obj (.row false 62 2 (L.map enc))]:=Zz.mh (dm [dv (List Coef)] 20 0x310213151113100b42) h
def Q6:IC:=XP
def Gl:ZC:=YM [(93,.pure (preT (fun x:List Int×Unit=>decide (x.1.length<=2000000))) (Zi (fun x:List Int×Unit=>x.1))),(94,.pure (preT (fun x:List Lin×Unit=>x.1.isEmpty)) (Zi (fun x:List Lin×Unit=>x.1))),(95,.pure (preT (fun x:List Coef×Unit=>decide (x.1.length<=2000000))) (Zi (fun x:List Coef×Unit=>x.1))),(96,.own (Yf 10) (Xu 28 10))]
theorem d1i{G:Zn->Prop}(RR:Nat->St->Prop)(n:Nd)(ks:List Tm)(h:(Go.Pl.preT (fun(x:List Int×Unit)=>decide (List.length x.1<=2000000)) [(.sl 1 false (List.map enc (Nd.dims n)))])=true∧(∃ y0:List Int,AV.pv (Zi (fun(x:List Int×Unit)=>x.1) [(.sl 1 false (List.map enc (Nd.dims n)))])=AV.pv (enc y0)∧((Go.Pl.preT (fun(x:List Int×Unit)=>decide (List.length x.1<=2000000)) [(.sl 1 false (List.map enc (Nd.data n)))])=true∧(∃ y1:List Int,AV.pv (Zi (fun(x:List Int×Unit)=>x.1) [(.sl 1 false (List.map enc (Nd.data n)))])=AV.pv (enc y1)∧((Go.Pl.preT (fun(x:List Int×Unit)=>decide (List.length x.1<=2000000)) [(.sl 1 false (List.map enc (Nd.ranks n)))])=true∧(∃ y2:List Int,AV.pv (Zi (fun(x:List Int×Unit)=>x.1) [(.sl 1 false (List.map enc (Nd.ranks n)))])=AV.pv (enc y2)∧((Go.Pl.preT (fun(x:List Lin×Unit)=>List.isEmpty x.1) [(.sl 2 false (List.map enc (Nd.sizes n)))])=true∧(∃ y3:List Lin,AV.pv (Zi (fun(x:List Lin×Unit)=>x.1) [(.sl 2 false (List.map enc (Nd.sizes n)))])=AV.pv (enc y3)∧(AtM Gl (WO RR) 0 (fun st=>G st.heap) Q6 0 67 [(1,(.ptr 0 0)),(2,(.ptr 1 0)),(4,.undef),(28,(.pv (.int .i64 (↑(List.length (List.map enc y3)):Int)))),(29,(.pv (.int .i64 0))),(49,.undef),(50,.undef),(51,.undef),(52,.undef),(53,.undef),(54,.undef),(55,.undef),(56,.undef),(57,.undef),(58,.undef),(59,.undef),(60,.undef),(61,.undef),(62,.undef),(63,.undef),(64,.undef),(65,.undef),(66,.undef)] [(.obj (.box [(.pv (.int .i64 (Nd.kind n))),(.pv (.int .i64 (Nd.line n))),(.pv (.str (Str.s (Nd.name n)))),(.pv (.int .i64 (Nd.num n))),(.pv (.str (Str.s (Nd.elem n)))),(.pv (.sl 1 false (List.map enc y0))),(.pv (.sl 1 false (List.map enc y1))),(.pv (.sl 2 false (List.map enc y3))),(.pv (.sl 1 false (List.map enc y2))),(.pv (.sl 10 false (List.map enc ks)))])),(.obj (.box [(.pv (.int .i64 0)),(.pv (.int .i64 0)),(.pv (.str [])),(.pv (.int .i64 0)),(.pv (.str [])),(.pv (.sl 0 true [])),(.pv (.sl 0 true [])),(.pv (.sl 0 true [])),(.pv (.sl 0 true [])),(.pv (.sl 0 true []))]))]))))))))):Zz Gl (WO RR) 0 (fun st=>G st.heap) (.inl Q6) [] (XJ 67 [.pv (.agg [enc n.kind,enc n.line,enc n.name,enc n.num,enc n.elem,enc n.dims,enc n.data,enc n.sizes,enc n.ranks,enc ks])] []):=Zz.mh (dm [dv (List Int),dv (List Lin)] 10 0x61515151) h
-- BAD 1 in a2s
theorem a2s{G:Zn->Prop}(RR:Nat->St->Prop)(n:Nd)(ks:List Tm)(m i:Int)(h:if (decide (i<m))=true then(decide (0<=i)&&decide (Int.toNat i<List.length (List.map enc (Nd.sizes n)))&&Enc.sz Lin==2)=true∧(∃ y0:Lin,AV.pv (PV.rptr (PV.cells (List.getD (List.map enc (Nd.sizes n)) (Int.toNat i) default)))=AV.pv (PV.rptr (PV.cells ((enc) y0)))∧((Go.Pl.preT (fun(x:List Coef×Unit)=>decide (List.length x.1<=2000000)) [(.sl 2 false (PV.asXs (List.getD (List.drop 1 (PV.cells (enc y0))) 0 default)))])=true∧(∃ y1:List Coef,AV.pv (Zi (fun(x:List Coef×Unit)=>x.1) [(.sl 2 false (PV.asXs (List.getD (List.drop 1 (PV.cells (enc y0))) 0 default)))])=AV.pv (enc y1)∧((decide (0<=i)&&decide (Int.toNat i<List.length (List.map enc (Nd.sizes n)))&&Enc.sz Lin==2)=true∧(∃ y2:Lin,AV.pv (PV.rptr (PV.cells (List.getD (List.map enc (Nd.sizes n)) (Int.toNat i) default)))=AV.pv (PV.rptr (PV.cells ((enc) y2)))∧(False))))))else((Yf 10 [(.pv (.sl 10 false (List.map enc ks)))] [])=true∧((WO RR) 0 ⟨ZL 67 0 [(1,(.ptr 0 0)),(2,(.ptr 1 0)),(4,.undef),(49,.undef),(50,.undef),(51,.undef),(52,.undef),(53,.undef),(54,.undef),(55,.undef),(56,.undef),(57,.undef),(58,.undef),(59,.undef),(60,.undef),(61,.undef),(62,.undef),(63,.undef),(64,.undef),(65,.undef),(66,.undef)],[(.obj (.box [(.pv (.int .i64 (Nd.kind n))),(.pv (.int .i64 (Nd.line n))),(.pv (.str (Str.s (Nd.name n)))),(.pv (.int .i64 (Nd.num n))),(.pv (.str (Str.s (Nd.elem n)))),(.pv (.sl 1 false (List.map enc (Nd.dims n)))),(.pv (.sl 1 false (List.map enc (Nd.data n)))),(.pv (.sl 2 false (List.map enc (Nd.sizes n)))),(.pv (.sl 1 false (List.map enc (Nd.ranks n)))),(.row 2 (List.length (List.map enc ks)) 0 (List.length (List.map enc ks)))])),(.obj (.box [(.pv (.int .i64 0)),(.pv (.int .i64 0)),(.pv (.str [])),(.pv (.int .i64 0)),(.pv (.str [])),(.pv (.sl 0 true [])),(.pv (.sl 0 true [])),(.pv (.sl 0 true [])),(.pv (.sl 0 true [])),(.pv (.sl 0 true []))])),(.obj (.row false 28 10 (List.map enc ks)))]⟩ (fun x S'=>Kj Gl (WO RR) 0 (fun st=>G st.heap) Q6 0 x S')))):AtM Gl (WO RR) 0 (fun st=>G st.heap) Q6 0 67 [(1,.ptr 0 0),(2,.ptr 1 0),(4,.undef),(28,.pv (.int .i64 m)),(29,.pv (.int .i64 i)),(49,.undef),(50,.undef),(51,.undef),(52,.undef),(53,.undef),(54,.undef),(55,.undef),(56,.undef),(57,.undef),(58,.undef),(59,.undef),(60,.undef),(61,.undef),(62,.undef),(63,.undef),(64,.undef),(65,.undef),(66,.undef)] [.obj (.box [.pv (enc n.kind),.pv (enc n.line),.pv (enc n.name),.pv (enc n.num),.pv (enc n.elem),.pv (enc n.dims),.pv (enc n.data),.pv (enc n.sizes),.pv (enc n.ranks),.pv (enc ks)]),.obj (.box [.pv (.int .i64 0),.pv (.int .i64 0),.pv (.str []),.pv (.int .i64 0),.pv (.str []),.pv (.sl 0 true []),.pv (.sl 0 true []),.pv (.sl 0 true []),.pv (.sl 0 true []),.pv (.sl 0 true [])])]:=Zz.mh (dm [dr Lin,dv (List Coef)] 17 0x310516125100842) h
def Vn:IC:=XP
def U7:ZC:=YM [(93,.pure (preT (fun x:List Int×Unit=>decide (x.1.length<=2000000))) (Zi (fun x:List Int×Unit=>x.1))),(94,.own (Yf 2) (Xu 62 2)),(95,.pure (preT (fun x:List Coef×Unit=>decide (x.1.length<=2000000))) (Zi (fun x:List Coef×Unit=>x.1))),(96,.pure (preT (fun x:List Tm×Unit=>x.1.isEmpty)) (Zi (fun x:List Tm×Unit=>x.1)))]
theorem d0f{G:Zn->Prop}(RR:Nat->St->Prop)(n:Nd)(ks:List Tm)(h:(Go.Pl.preT (fun(x:List Int×Unit)=>decide (List.length x.1<=2000000)) [(.sl 1 false (List.map enc (Nd.dims n)))])=true∧(∃ y0:List Int,AV.pv (Zi (fun(x:List Int×Unit)=>x.1) [(.sl 1 false (List.map enc (Nd.dims n)))])=AV.pv (enc y0)∧((Go.Pl.preT (fun(x:List Int×Unit)=>decide (List.length x.1<=2000000)) [(.sl 1 false (List.map enc (Nd.data n)))])=true∧(∃ y1:List Int,AV.pv (Zi (fun(x:List Int×Unit)=>x.1) [(.sl 1 false (List.map enc (Nd.data n)))])=AV.pv (enc y1)∧((Go.Pl.preT (fun(x:List Int×Unit)=>decide (List.length x.1<=2000000)) [(.sl 1 false (List.map enc (Nd.ranks n)))])=true∧(∃ y2:List Int,AV.pv (Zi (fun(x:List Int×Unit)=>x.1) [(.sl 1 false (List.map enc (Nd.ranks n)))])=AV.pv (enc y2)∧((Yf 2 [(.pv (.sl 2 false (List.map enc (Nd.sizes n))))] [])=true∧(AtM U7 (WO RR) 0 (fun st=>G st.heap) Vn 0 67 [(1,(.ptr 0 0)),(2,(.ptr 1 0)),(4,.undef),(28,(.pv (.int .i64 (↑(List.length (List.map enc (Nd.sizes n)) - 0):Int)))),(29,(.pv (.int .i64 0))),(49,.undef),(50,.undef),(51,.undef),(52,.undef),(53,.undef),(54,.undef),(55,.undef),(56,.undef),(57,.undef),(58,.undef),(59,.undef),(60,.undef),(61,.undef),(62,.undef),(63,.undef),(64,.undef),(65,.undef),(66,.undef)] [(.obj (.box [(.pv (.int .i64 (Nd.kind n))),(.pv (.int .i64 (Nd.line n))),(.pv (.str (Str.s (Nd.name n)))),(.pv (.int .i64 (Nd.num n))),(.pv (.str (Str.s (Nd.elem n)))),(.pv (.sl 1 false (List.map enc y0))),(.pv (.sl 1 false (List.map enc y1))),(.row 2 (List.length (List.map enc (Nd.sizes n))) 0 (List.length (List.map enc (Nd.sizes n)))),(.pv (.sl 1 false (List.map enc y2))),(.pv (.sl 10 false (List.map enc ks)))])),(.obj (.box [(.pv (.int .i64 0)),(.pv (.int .i64 0)),(.pv (.str [])),(.pv (.int .i64 0)),(.pv (.str [])),(.pv (.sl 0 true [])),(.pv (.sl 0 true [])),(.pv (.sl 0 true [])),(.pv (.sl 0 true [])),(.pv (.sl 0 true []))])),(.obj (.row false 62 2 (List.map enc (Nd.sizes n))))])))))))):Zz U7 (WO RR) 0 (fun st=>G st.heap) (.inl Vn) [] (XJ 67 [.pv (.agg [enc n.kind,enc n.line,enc n.name,enc n.num,enc n.elem,enc n.dims,enc n.data,enc n.sizes,enc n.ranks,enc ks])] []):=Zz.mh (dm [dv (List Int)] 10 0x31515151) h
theorem a0b{G:Zn->Prop}(RR:Nat->St->Prop)(n:Nd)(ks:List Tm)(m:Nat)(L:List Lin)(i:Int)(h:if (decide (i<(↑m:Int)))=true then(decide (0<=i)&&decide (0+Int.toNat i<m)&&List.length (List.map enc L)==m)=true∧((List.length (List.map enc L)==m&&decide (0+Int.toNat i<List.length (List.map enc L)))=true∧((decide (0+1+List.length [Sh.sl 2]<=List.length (PV.cells (List.getD (List.map enc L) (0+Int.toNat i) default)))&&Yv (PV.cells (List.getD (List.map enc L) (0+Int.toNat i) default)) (0+1) [Sh.sl 2])=true∧((Go.Pl.preT (fun(x:List Coef×Unit)=>decide (List.length x.1<=2000000)) [(.sl 2 (PV.asT (List.getD (PV.cells (List.getD (List.map enc L) (0+Int.toNat i) default)) (0+1) default)) (PV.asXs (List.getD (PV.cells (List.getD (List.map enc L) (0+Int.toNat i) default)) (0+1) default)))])=true∧(∃ y0:List Coef,AV.pv (Zi (fun(x:List Coef×Unit)=>x.1) [(.sl 2 (PV.asT (List.getD (PV.cells (List.getD (List.map enc L) (0+Int.toNat i) default)) (0+1) default)) (PV.asXs (List.getD (PV.cells (List.getD (List.map enc L) (0+Int.toNat i) default)) (0+1) default)))])=AV.pv (enc y0)∧((decide (0<=i)&&decide (0+Int.toNat i<m)&&List.length (List.map enc L)==m)=true∧((List.length (List.map enc L)==m&&decide (0+Int.toNat i<List.length (List.map enc L))&&List.length (PV.cells (enc y0))==1&&decide (0+1+1<=List.length (PV.cells (List.getD (List.map enc L) (0+Int.toNat i) default)))&&PV.cellsOk (enc y0))=true∧(AtM U7 (WO RR) 0 (fun st=>G st.heap) Vn 0 67 [(1,(.ptr 0 0)),(2,(.ptr 1 0)),(4,.undef),(28,(.pv (.int .i64 (↑m:Int)))),(29,(.pv (.int .i64 (IntKind.wrap IntKind.i64 (i+1))))),(49,.undef),(50,.undef),(51,.undef),(52,.undef),(53,.undef),(54,.undef),(55,.undef),(56,.undef),(57,.undef),(58,.undef),(59,.undef),(60,.undef),(61,.undef),(62,.undef),(63,.undef),(64,.undef),(65,.undef),(66,.undef)] [(.obj (.box [(.pv (.int .i64 (Nd.kind n))),(.pv (.int .i64 (Nd.line n))),(.pv (.str (Str.s (Nd.name n)))),(.pv (.int .i64 (Nd.num n))),(.pv (.str (Str.s (Nd.elem n)))),(.pv (.sl 1 false (List.map enc (Nd.dims n)))),(.pv (.sl 1 false (List.map enc (Nd.data n)))),(.row 2 m 0 m),(.pv (.sl 1 false (List.map enc (Nd.ranks n)))),(.pv (.sl 10 false (List.map enc ks)))])),(.obj (.box [(.pv (.int .i64 0)),(.pv (.int .i64 0)),(.pv (.str [])),(.pv (.int .i64 0)),(.pv (.str [])),(.pv (.sl 0 true [])),(.pv (.sl 0 true [])),(.pv (.sl 0 true [])),(.pv (.sl 0 true [])),(.pv (.sl 0 true []))])),(.obj (.row false 62 2 (List.set (List.map enc L) (0+Int.toNat i) (PV.withCells (List.getD (List.map enc L) (0+Int.toNat i) default) (splice (PV.cells (List.getD (List.map enc L) (0+Int.toNat i) default)) (0+1) (PV.cells (enc y0)))))))])))))))else((Go.Pl.preT (fun(x:List Tm×Unit)=>List.isEmpty x.1) [(.sl 10 false (List.map enc ks))])=true∧(∃ y1:List Tm,AV.pv (Zi (fun(x:List Tm×Unit)=>x.1) [(.sl 10 false (List.map enc ks))])=AV.pv (enc y1)∧((WO RR) 0 ⟨ZL 67 0 [(1,(.ptr 0 0)),(2,(.ptr 1 0)),(4,.undef),(49,.undef),(50,.undef),(51,.undef),(52,.undef),(53,.undef),(54,.undef),(55,.undef),(56,.undef),(57,.undef),(58,.undef),(59,.undef),(60,.undef),(61,.undef),(62,.undef),(63,.undef),(64,.undef),(65,.undef),(66,.undef)],[(.obj (.box [(.pv (.int .i64 (Nd.kind n))),(.pv (.int .i64 (Nd.line n))),(.pv (.str (Str.s (Nd.name n)))),(.pv (.int .i64 (Nd.num n))),(.pv (.str (Str.s (Nd.elem n)))),(.pv (.sl 1 false (List.map enc (Nd.dims n)))),(.pv (.sl 1 false (List.map enc (Nd.data n)))),(.row 2 m 0 m),(.pv (.sl 1 false (List.map enc (Nd.ranks n)))),(.pv (.sl 10 false (List.map enc y1)))])),(.obj (.box [(.pv (.int .i64 0)),(.pv (.int .i64 0)),(.pv (.str [])),(.pv (.int .i64 0)),(.pv (.str [])),(.pv (.sl 0 true [])),(.pv (.sl 0 true [])),(.pv (.sl 0 true [])),(.pv (.sl 0 true [])),(.pv (.sl 0 true []))])),(.obj (.row false 62 2 (List.map enc L)))]⟩ (fun x S'=>Kj U7 (WO RR) 0 (fun st=>G st.heap) Vn 0 x S'))))):AtM U7 (WO RR) 0 (fun st=>G st.heap) Vn 0 67 [(1,.ptr 0 0),(2,.ptr 1 0),(4,.undef),(28,.pv (.int .i64 m)),(29,.pv (.int .i64 i)),(49,.undef),(50,.undef),(51,.undef),(52,.undef),(53,.undef),(54,.undef),(55,.undef),(56,.undef),(57,.undef),(58,.undef),(59,.undef),(60,.undef),(61,.undef),(62,.undef),(63,.undef),(64,.undef),(65,.undef),(66,.undef)] [.obj (.box [.pv (enc n.kind),.pv (enc n.line),.pv (enc n.name),.pv (enc n.num),.pv (enc n.elem),.pv (enc n.dims),.pv (enc n.data),.row 2 m 0 m,.pv (enc n.ranks),.pv (enc ks)]),.obj (.box [.pv (.int .i64 0),.pv (.int .i64 0),.pv (.str []),.pv (.int .i64 0),.pv (.str []),.pv (.sl 0 true []),.pv (.sl 0 true []),.pv (.sl 0 true []),.pv (.sl 0 true []),.pv (.sl 0 true [])]),.obj (.row false 62 2 (L.map enc))]:=Zz.mh (dm [dv (List Coef),dv (List Tm)] 20 0x610213151113100b42) h
def Kt:IC:=XP
def GH:ZC:=YM [(93,.pure (preT (fun x:List Int×Unit=>decide (x.1.length<=2000000))) (Zi (fun x:List Int×Unit=>x.1))),(94,.pure (preT (fun x:List Lin×Unit=>x.1.isEmpty)) (Zi (fun x:List Lin×Unit=>x.1))),(95,.pure (preT (fun x:List Coef×Unit=>decide (x.1.length<=2000000))) (Zi (fun x:List Coef×Unit=>x.1))),(96,.pure (preT (fun x:List Tm×Unit=>x.1.isEmpty)) (Zi (fun x:List Tm×Unit=>x.1)))]
theorem d0p{G:Zn->Prop}(RR:Nat->St->Prop)(n:Nd)(ks:List Tm)(h:(Go.Pl.preT (fun(x:List Int×Unit)=>decide (List.length x.1<=2000000)) [(.sl 1 false (List.map enc (Nd.dims n)))])=true∧(∃ y0:List Int,AV.pv (Zi (fun(x:List Int×Unit)=>x.1) [(.sl 1 false (List.map enc (Nd.dims n)))])=AV.pv (enc y0)∧((Go.Pl.preT (fun(x:List Int×Unit)=>decide (List.length x.1<=2000000)) [(.sl 1 false (List.map enc (Nd.data n)))])=true∧(∃ y1:List Int,AV.pv (Zi (fun(x:List Int×Unit)=>x.1) [(.sl 1 false (List.map enc (Nd.data n)))])=AV.pv (enc y1)∧((Go.Pl.preT (fun(x:List Int×Unit)=>decide (List.length x.1<=2000000)) [(.sl 1 false (List.map enc (Nd.ranks n)))])=true∧(∃ y2:List Int,AV.pv (Zi (fun(x:List Int×Unit)=>x.1) [(.sl 1 false (List.map enc (Nd.ranks n)))])=AV.pv (enc y2)∧((Go.Pl.preT (fun(x:List Lin×Unit)=>List.isEmpty x.1) [(.sl 2 false (List.map enc (Nd.sizes n)))])=true∧(∃ y3:List Lin,AV.pv (Zi (fun(x:List Lin×Unit)=>x.1) [(.sl 2 false (List.map enc (Nd.sizes n)))])=AV.pv (enc y3)∧(AtM GH (WO RR) 0 (fun st=>G st.heap) Kt 0 67 [(1,(.ptr 0 0)),(2,(.ptr 1 0)),(4,.undef),(28,(.pv (.int .i64 (↑(List.length (List.map enc y3)):Int)))),(29,(.pv (.int .i64 0))),(49,.undef),(50,.undef),(51,.undef),(52,.undef),(53,.undef),(54,.undef),(55,.undef),(56,.undef),(57,.undef),(58,.undef),(59,.undef),(60,.undef),(61,.undef),(62,.undef),(63,.undef),(64,.undef),(65,.undef),(66,.undef)] [(.obj (.box [(.pv (.int .i64 (Nd.kind n))),(.pv (.int .i64 (Nd.line n))),(.pv (.str (Str.s (Nd.name n)))),(.pv (.int .i64 (Nd.num n))),(.pv (.str (Str.s (Nd.elem n)))),(.pv (.sl 1 false (List.map enc y0))),(.pv (.sl 1 false (List.map enc y1))),(.pv (.sl 2 false (List.map enc y3))),(.pv (.sl 1 false (List.map enc y2))),(.pv (.sl 10 false (List.map enc ks)))])),(.obj (.box [(.pv (.int .i64 0)),(.pv (.int .i64 0)),(.pv (.str [])),(.pv (.int .i64 0)),(.pv (.str [])),(.pv (.sl 0 true [])),(.pv (.sl 0 true [])),(.pv (.sl 0 true [])),(.pv (.sl 0 true [])),(.pv (.sl 0 true []))]))]))))))))):Zz GH (WO RR) 0 (fun st=>G st.heap) (.inl Kt) [] (XJ 67 [.pv (.agg [enc n.kind,enc n.line,enc n.name,enc n.num,enc n.elem,enc n.dims,enc n.data,enc n.sizes,enc n.ranks,enc ks])] []):=Zz.mh (dm [dv (List Int),dv (List Lin)] 10 0x61515151) h
-- BAD 1 in a0d
theorem a0d{G:Zn->Prop}(RR:Nat->St->Prop)(n:Nd)(ks:List Tm)(m i:Int)(h:if (decide (i<m))=true then(decide (0<=i)&&decide (Int.toNat i<List.length (List.map enc (Nd.sizes n)))&&Enc.sz Lin==2)=true∧(∃ y0:Lin,AV.pv (PV.rptr (PV.cells (List.getD (List.map enc (Nd.sizes n)) (Int.toNat i) default)))=AV.pv (PV.rptr (PV.cells ((enc) y0)))∧((Go.Pl.preT (fun(x:List Coef×Unit)=>decide (List.length x.1<=2000000)) [(.sl 2 false (PV.asXs (List.getD (List.drop 1 (PV.cells (enc y0))) 0 default)))])=true∧(∃ y1:List Coef,AV.pv (Zi (fun(x:List Coef×Unit)=>x.1) [(.sl 2 false (PV.asXs (List.getD (List.drop 1 (PV.cells (enc y0))) 0 default)))])=AV.pv (enc y1)∧((decide (0<=i)&&decide (Int.toNat i<List.length (List.map enc (Nd.sizes n)))&&Enc.sz Lin==2)=true∧(∃ y2:Lin,AV.pv (PV.rptr (PV.cells (List.getD (List.map enc (Nd.sizes n)) (Int.toNat i) default)))=AV.pv (PV.rptr (PV.cells ((enc) y2)))∧(False))))))else((Go.Pl.preT (fun(x:List Tm×Unit)=>List.isEmpty x.1) [(.sl 10 false (List.map enc ks))])=true∧(∃ y3:List Tm,AV.pv (Zi (fun(x:List Tm×Unit)=>x.1) [(.sl 10 false (List.map enc ks))])=AV.pv (enc y3)∧((WO RR) 0 ⟨ZL 67 0 [(1,(.ptr 0 0)),(2,(.ptr 1 0)),(4,.undef),(49,.undef),(50,.undef),(51,.undef),(52,.undef),(53,.undef),(54,.undef),(55,.undef),(56,.undef),(57,.undef),(58,.undef),(59,.undef),(60,.undef),(61,.undef),(62,.undef),(63,.undef),(64,.undef),(65,.undef),(66,.undef)],[(.obj (.box [(.pv (.int .i64 (Nd.kind n))),(.pv (.int .i64 (Nd.line n))),(.pv (.str (Str.s (Nd.name n)))),(.pv (.int .i64 (Nd.num n))),(.pv (.str (Str.s (Nd.elem n)))),(.pv (.sl 1 false (List.map enc (Nd.dims n)))),(.pv (.sl 1 false (List.map enc (Nd.data n)))),(.pv (.sl 2 false (List.map enc (Nd.sizes n)))),(.pv (.sl 1 false (List.map enc (Nd.ranks n)))),(.pv (.sl 10 false (List.map enc y3)))])),(.obj (.box [(.pv (.int .i64 0)),(.pv (.int .i64 0)),(.pv (.str [])),(.pv (.int .i64 0)),(.pv (.str [])),(.pv (.sl 0 true [])),(.pv (.sl 0 true [])),(.pv (.sl 0 true [])),(.pv (.sl 0 true [])),(.pv (.sl 0 true []))]))]⟩ (fun x S'=>Kj GH (WO RR) 0 (fun st=>G st.heap) Kt 0 x S'))))):AtM GH (WO RR) 0 (fun st=>G st.heap) Kt 0 67 [(1,.ptr 0 0),(2,.ptr 1 0),(4,.undef),(28,.pv (.int .i64 m)),(29,.pv (.int .i64 i)),(49,.undef),(50,.undef),(51,.undef),(52,.undef),(53,.undef),(54,.undef),(55,.undef),(56,.undef),(57,.undef),(58,.undef),(59,.undef),(60,.undef),(61,.undef),(62,.undef),(63,.undef),(64,.undef),(65,.undef),(66,.undef)] [.obj (.box [.pv (enc n.kind),.pv (enc n.line),.pv (enc n.name),.pv (enc n.num),.pv (enc n.elem),.pv (enc n.dims),.pv (enc n.data),.pv (enc n.sizes),.pv (enc n.ranks),.pv (enc ks)]),.obj (.box [.pv (.int .i64 0),.pv (.int .i64 0),.pv (.str []),.pv (.int .i64 0),.pv (.str []),.pv (.sl 0 true []),.pv (.sl 0 true []),.pv (.sl 0 true []),.pv (.sl 0 true []),.pv (.sl 0 true [])])]:=Zz.mh (dm [dr Lin,dv (List Coef),dv (List Tm)] 17 0x710516125100842) h
end Go.Pl
namespace Go.Pl
open Go.RowKit
open Enc (enc dec is)
open EncL (encL decL isL)
def d2b:List (Nat×AV):=[(1,.ptr 0 0),(2,.ptr 1 0),(4,.undef),(49,.undef),(50,.undef),(51,.undef),(52,.undef),(53,.undef),(54,.undef),(55,.undef),(56,.undef),(57,.undef),(58,.undef),(59,.undef),(60,.undef),(61,.undef),(62,.undef),(63,.undef),(64,.undef),(65,.undef),(66,.undef)]
def cpZ:List AV:=[.pv (.int .i64 0),.pv (.int .i64 0),.pv (.str []),.pv (.int .i64 0),.pv (.str []),.pv (.sl 0 true []),.pv (.sl 0 true []),.pv (.sl 0 true []),.pv (.sl 0 true []),.pv (.sl 0 true [])]
def b3r(n:Nd)(SZ:AV):List AV:=[.pv (enc n.kind),.pv (enc n.line),.pv (enc n.name),.pv (enc n.num),.pv (enc n.elem),.pv (enc n.dims),.pv (enc n.data),SZ,.pv (enc n.ranks)]
def cpR(n:Nd)(ks:List Tm)(m:Nat)(S:St):Prop:=m=0∧S.env=ZL 67 0 d2b∧ ∃ (SZ KD:AV) (b:Bool) (rest:Zn),S.heap = .obj (.box (b3r n SZ++[KD])):: .obj (.box cpZ)::rest ∧
 ((b=false∧SZ = .pv (enc n.sizes))∨(b=true∧SZ = .row 2 n.sizes.length 0 n.sizes.length∧S.heap[2]? = some (.obj (.row false 62 2 (n.sizes.map enc))))) ∧
 ((ks=[]∧KD = .pv (enc ks))∨(ks≠[]∧KD = .row (if b=true then 3 else 2) ks.length 0 ks.length∧S.heap[if b=true then 3 else 2]? = some (.obj (.row false 28 10 (ks.map enc)))))
theorem RI{α:Type}[Enc α]{l:List α}{s:Nat}(h:l≠[])(hl:l.length<=2000000):Yf s [(.pv (.sl s false (List.map enc l)))] []=true:=by
 simp[Yf,h,hl]
theorem a8c{RR:Nat->St->Prop}{n:Nd}{ks:List Tm}(hne:ks≠[])(hk:ks.length<=2000000)(hl:n.sizes.length<=2000000)(ht : ∀ l∈n.sizes,l.t.length<=2000000){m:Nat}(hm:m=n.sizes.length)(hR : ∀ S,cpR n ks 0 S->RR 0 S): ∀ (d i:Nat),d+i=n.sizes.length ->
  AtM UX (WO RR) 0 (fun _=>False) XP 0 67 [(1,.ptr 0 0),(2,.ptr 1 0),(4,.undef),(28,.pv (.int .i64 m)),(29,.pv (.int .i64 i)),(49,.undef),(50,.undef),(51,.undef),(52,.undef),(53,.undef),(54,.undef),(55,.undef),(56,.undef),(57,.undef),(58,.undef),(59,.undef),(60,.undef),(61,.undef),(62,.undef),(63,.undef),(64,.undef),(65,.undef),(66,.undef)]
   [.obj (.box [.pv (enc n.kind),.pv (enc n.line),.pv (enc n.name),.pv (enc n.num),.pv (enc n.elem),.pv (enc n.dims),.pv (enc n.data),.row 2 m 0 m,.pv (enc n.ranks),.pv (enc ks)]),.obj (.box cpZ),.obj (.row false 62 2 (n.sizes.map enc))]:=by
 subst hm
 intro d
 induction d with
 | zero=>
  intro i hi
  refine a1b (G:=fun _=>False) RR n ks n.sizes.length n.sizes i (Wu (Qc (by omega)) ⟨RI hne hk,hR _ ⟨rfl,rfl,_,_,true,_,rfl,.inr ⟨rfl,rfl,rfl⟩,.inr ⟨hne,by simp,rfl⟩⟩⟩)
 | succ d ih=>
  intro i hi
  have h1:i<n.sizes.length:=by omega
  refine a1b (G:=fun _=>False) RR n ks n.sizes.length n.sizes i (Xj (QO h1) ?_)
  have e:List.getD (List.map (enc:Lin->PV) n.sizes) (0+Int.toNat (i:Int)) default=enc n.sizes[i]:=by rw[Nat.zero_add];exact Js enc h1
  have e2:(enc n.sizes[i]:PV) = .agg [.int .i64 n.sizes[i].k,.sl 2 false (n.sizes[i].t.map enc)]:=rfl
  have e3:List.set (n.sizes.map (enc:Lin->PV)) (0+Int.toNat (i:Int)) (.agg [.int .i64 n.sizes[i].k,.sl 2 false (n.sizes[i].t.map enc)])=n.sizes.map enc:=by
   rw[Nat.zero_add,Int.toNat_natCast,<- e2]
   apply List.ext_getElem?
   intro j
   rw[List.getElem?_set]
   split
   ·rename_i h;subst h;rw[if_pos (by simpa using h1),List.getElem?_map,List.getElem?_eq_getElem h1];rfl
   ·rfl
  have hc:=ht _ (List.getElem_mem h1)
  simp only[e,e2]
  refine⟨by simp[h1],by simp[h1],by simp[PV.cells,Yv,Sh.fit],Zc (n.sizes[i].t,()) rfl (decide_eq_true hc),Zf (n.sizes[i].t,()) rfl ⟨by simp[h1],?_,?_⟩⟩
  ·simp[h1,PV.cells,PV.cellsOk,enc]
  ·show AtM UX (WO RR) 0 (fun _=>False) XP 0 67 _ [_,_,.obj (.row false 62 2 (List.set (n.sizes.map (enc:Lin->PV)) (0+Int.toNat (i:Int)) (.agg [.int .i64 n.sizes[i].k,.sl 2 false (n.sizes[i].t.map enc)])))]
   rw[e3,next (by omega)]
   exact ih (i+1) (by omega)
theorem a9h{RR:Nat->St->Prop}{n:Nd}(hl:n.sizes.length<=2000000)(ht : ∀ l∈n.sizes,l.t.length<=2000000){m:Nat}(hm:m=n.sizes.length)(hR : ∀ S,cpR n [] 0 S->RR 0 S): ∀ (d i:Nat),d+i=n.sizes.length ->
  AtM U7 (WO RR) 0 (fun _=>False) Vn 0 67 [(1,.ptr 0 0),(2,.ptr 1 0),(4,.undef),(28,.pv (.int .i64 m)),(29,.pv (.int .i64 i)),(49,.undef),(50,.undef),(51,.undef),(52,.undef),(53,.undef),(54,.undef),(55,.undef),(56,.undef),(57,.undef),(58,.undef),(59,.undef),(60,.undef),(61,.undef),(62,.undef),(63,.undef),(64,.undef),(65,.undef),(66,.undef)]
   [.obj (.box [.pv (enc n.kind),.pv (enc n.line),.pv (enc n.name),.pv (enc n.num),.pv (enc n.elem),.pv (enc n.dims),.pv (enc n.data),.row 2 m 0 m,.pv (enc n.ranks),.pv (enc ([]:List Tm))]),.obj (.box cpZ),.obj (.row false 62 2 (n.sizes.map enc))]:=by
 subst hm
 intro d
 induction d with
 | zero=>
  intro i hi
  refine a0b (G:=fun _=>False) RR n [] n.sizes.length n.sizes i (Wu (Qc (by omega)) ⟨Zc (([]:List Tm),()) rfl rfl,Zf (([]:List Tm),()) rfl (hR _ ⟨rfl,rfl,_,_,true,_,rfl,.inr ⟨rfl,rfl,rfl⟩,.inl ⟨rfl,rfl⟩⟩)⟩)
 | succ d ih=>
  intro i hi
  have h1:i<n.sizes.length:=by omega
  refine a0b (G:=fun _=>False) RR n [] n.sizes.length n.sizes i (Xj (QO h1) ?_)
  have e:List.getD (List.map (enc:Lin->PV) n.sizes) (0+Int.toNat (i:Int)) default=enc n.sizes[i]:=by rw[Nat.zero_add];exact Js enc h1
  have e2:(enc n.sizes[i]:PV) = .agg [.int .i64 n.sizes[i].k,.sl 2 false (n.sizes[i].t.map enc)]:=rfl
  have e3:List.set (n.sizes.map (enc:Lin->PV)) (0+Int.toNat (i:Int)) (.agg [.int .i64 n.sizes[i].k,.sl 2 false (n.sizes[i].t.map enc)])=n.sizes.map enc:=by
   rw[Nat.zero_add,Int.toNat_natCast,<- e2]
   apply List.ext_getElem?
   intro j
   rw[List.getElem?_set]
   split
   ·rename_i h;subst h;rw[if_pos (by simpa using h1),List.getElem?_map,List.getElem?_eq_getElem h1];rfl
   ·rfl
  have hc:=ht _ (List.getElem_mem h1)
  simp only[e,e2]
  refine⟨by simp[h1],by simp[h1],by simp[PV.cells,Yv,Sh.fit],Zc (n.sizes[i].t,()) rfl (decide_eq_true hc),Zf (n.sizes[i].t,()) rfl ⟨by simp[h1],?_,?_⟩⟩
  ·simp[h1,PV.cells,PV.cellsOk,enc]
  ·show AtM U7 (WO RR) 0 (fun _=>False) Vn 0 67 _ [_,_,.obj (.row false 62 2 (List.set (n.sizes.map (enc:Lin->PV)) (0+Int.toNat (i:Int)) (.agg [.int .i64 n.sizes[i].k,.sl 2 false (n.sizes[i].t.map enc)])))]
   rw[e3,next (by omega)]
   exact ih (i+1) (by omega)
abbrev OZ(n:Nd)(ks:List Tm):St:=XJ 67 [.pv (.agg [enc n.kind,enc n.line,enc n.name,enc n.num,enc n.elem,enc n.dims,enc n.data,enc n.sizes,enc n.ranks,enc ks])] []
theorem d4u{RR:Nat->St->Prop}{n:Nd}{ks:List Tm}(hw:tW (.mk n ks)=true)(hs:n.sizes≠[])(hne:ks≠[])(hR : ∀ S,cpR n ks 0 S->RR 0 S):Zz UX (WO RR) 0 (fun _=>False) (.inl XP) [] (OZ n ks):=by
 have hb:=F6 hw
 have hk:=(YG hw).1
 have h1:=hb.dims;have h2:=hb.data;have h3:=hb.ranks;have hsz:=hb.sizes
 refine c6z (G:=fun _=>False) RR n ks ⟨Zc (n.dims,()) rfl (decide_eq_true (show n.dims.length<=2000000 by omega)),Zf (n.dims,()) rfl ⟨Zc (n.data,()) rfl (decide_eq_true (show n.data.length<=2000000 by omega)),Zf (n.data,()) rfl
  ⟨Zc (n.ranks,()) rfl (decide_eq_true (show n.ranks.length<=2000000 by omega)),Zf (n.ranks,()) rfl ⟨RI hs (by omega),a8c hne (by omega) (by omega) (fun l hl=>by have:=hb.lens l hl;omega) (List.length_map _) hR n.sizes.length 0 (by omega)⟩⟩⟩⟩
theorem d5v{RR:Nat->St->Prop}{n:Nd}{ks:List Tm}(hw:tW (.mk n ks)=true)(hs:n.sizes≠[])(hz:ks=[])(hR : ∀ S,cpR n ks 0 S->RR 0 S):Zz U7 (WO RR) 0 (fun _=>False) (.inl Vn) [] (OZ n ks):=by
 have hb:=F6 hw
 have hk:=(YG hw).1
 have h1:=hb.dims;have h2:=hb.data;have h3:=hb.ranks;have hsz:=hb.sizes
 subst hz
 refine d0f (G:=fun _=>False) RR n [] ⟨Zc (n.dims,()) rfl (decide_eq_true (show n.dims.length<=2000000 by omega)),Zf (n.dims,()) rfl ⟨Zc (n.data,()) rfl (decide_eq_true (show n.data.length<=2000000 by omega)),Zf (n.data,()) rfl
  ⟨Zc (n.ranks,()) rfl (decide_eq_true (show n.ranks.length<=2000000 by omega)),Zf (n.ranks,()) rfl ⟨RI hs (by omega),a9h (by omega) (fun l hl=>by have:=hb.lens l hl;omega) (List.length_map _) hR n.sizes.length 0 (by omega)⟩⟩⟩⟩
theorem d2c{RR:Nat->St->Prop}{n:Nd}{ks:List Tm}(hw:tW (.mk n ks)=true)(hs:n.sizes=[])(hne:ks≠[])(hR : ∀ S,cpR n ks 0 S->RR 0 S):Zz Gl (WO RR) 0 (fun _=>False) (.inl Q6) [] (OZ n ks):=by
 have hb:=F6 hw
 have hk:=(YG hw).1
 have h1:=hb.dims;have h2:=hb.data;have h3:=hb.ranks;have hsz:=hb.sizes
 refine d1i (G:=fun _=>False) RR n ks ⟨Zc (n.dims,()) rfl (decide_eq_true (show n.dims.length<=2000000 by omega)),Zf (n.dims,()) rfl ⟨Zc (n.data,()) rfl (decide_eq_true (show n.data.length<=2000000 by omega)),Zf (n.data,()) rfl
  ⟨Zc (n.ranks,()) rfl (decide_eq_true (show n.ranks.length<=2000000 by omega)),Zf (n.ranks,()) rfl ⟨Zc (n.sizes,()) rfl (by rw[hs];rfl),Zf (n.sizes,()) rfl (a2s (G:=fun _=>False) RR n ks (List.length (List.map (enc:Lin->PV) n.sizes)) 0 (Wu (by rw[hs];decide) ⟨RI hne (by omega),hR _ ⟨rfl,rfl,_,_,false,_,rfl,.inl ⟨rfl,rfl⟩,.inr ⟨hne,by simp,rfl⟩⟩⟩))⟩⟩⟩⟩
theorem d3t{RR:Nat->St->Prop}{n:Nd}{ks:List Tm}(hw:tW (.mk n ks)=true)(hs:n.sizes=[])(hz:ks=[])(hR : ∀ S,cpR n ks 0 S->RR 0 S):Zz GH (WO RR) 0 (fun _=>False) (.inl Kt) [] (OZ n ks):=by
 have hb:=F6 hw
 have hk:=(YG hw).1
 have h1:=hb.dims;have h2:=hb.data;have h3:=hb.ranks;have hsz:=hb.sizes
 subst hz
 refine d0p (G:=fun _=>False) RR n [] ⟨Zc (n.dims,()) rfl (decide_eq_true (show n.dims.length<=2000000 by omega)),Zf (n.dims,()) rfl ⟨Zc (n.data,()) rfl (decide_eq_true (show n.data.length<=2000000 by omega)),Zf (n.data,()) rfl
  ⟨Zc (n.ranks,()) rfl (decide_eq_true (show n.ranks.length<=2000000 by omega)),Zf (n.ranks,()) rfl ⟨Zc (n.sizes,()) rfl (by rw[hs];rfl),Zf (n.sizes,()) rfl (a0d (G:=fun _=>False) RR n [] (List.length (List.map (enc:Lin->PV) n.sizes)) 0 (Wu (by rw[hs];decide) ⟨Zc (([]:List Tm),()) rfl rfl,Zf (([]:List Tm),()) rfl (hR _ ⟨rfl,rfl,_,_,false,_,rfl,.inl ⟨rfl,rfl⟩,.inl ⟨rfl,rfl⟩⟩)⟩))⟩⟩⟩⟩
end Go.Pl
namespace Go.Pl
open Go.RowKit
open Enc (enc dec is)
open EncL (encL decL isL)
set_option maxRecDepth 100000
def OE:IC:=(Vq [ZG 1 (.box 10 (.t 0)) 0,ZG 2 (.alloc (.agg [(.int .i64 0),(.int .i64 0),(.str []),(.int .i64 0),(.str []),(.sl 0 true []),(.sl 0 true []),(.sl 0 true []),(.sl 0 true []),(.sl 0 true [])])) 1] (Vq [ZG 6 (.load true [(.int .i64),(.int .i64),.str,(.int .i64),.str,(.sl 1),(.sl 1),(.sl 2),(.sl 1),(.sl 10)] (.t 1)) 0,ZG 7 (c'' 20 [(.t 6)]) 0,ZG 3 (.alloc (.sl 0 true [])) 2,TR (.store 1 (.t 3) (.t 7)) 3] (Vq [ZG 4 (.alloc (.int .i64 0)) 0,TR (.store 1 (.t 4) (Qp 0)) 1] (Vq [ZG 8 (.mkfn 67 [] [(.t 4),(.t 3)]) 0,ZG 5 (WC 8) 0] (.ext 0 [1,9,5,10,11,12,2,13])))))
def a7e:ZC:=YM [(20,.pure (preT (fun x:Tm×Unit=>tW x.1)) (Zi (fun x:Tm×Unit=>ZZ x.1)))]
theorem d4h{G:Zn->Prop}(RR:Nat->St->Prop)(n:Nd)(ks:List Tm)(h:(Go.Pl.preT (fun(x:Tm×Unit)=>tW x.1) (Au n ks))=true∧(∃ y0:List Str,AV.pv (Zi (fun(x:Tm×Unit)=>ZZ x.1) (Au n ks))=AV.pv (enc y0)∧((WO RR) 0 ⟨ZL 14 0 [(1,(.ptr 0 0)),(2,(.ptr 1 0)),(5,(.fn 67 [] [(.ptr 2 0),(.ptr 3 0)])),(9,.undef),(10,.undef),(11,.undef),(12,.undef),(13,.undef)],[(.obj (.box (Yk n ks))),(.obj (.box [(.pv (.int .i64 0)),(.pv (.int .i64 0)),(.pv (.str [])),(.pv (.int .i64 0)),(.pv (.str [])),(.pv (.sl 0 true [])),(.pv (.sl 0 true [])),(.pv (.sl 0 true [])),(.pv (.sl 0 true [])),(.pv (.sl 0 true []))])),(.obj (.box [(.pv (.int .i64 0))])),(.obj (.box [(.pv (.sl 1 false (List.map enc y0)))]))]⟩ (fun x S'=>Kj a7e (WO RR) 0 (fun st=>G st.heap) OE 0 x S')))):Zz a7e (WO RR) 0 (fun st=>G st.heap) (.inl OE) [] (XJ 14 [.pv (.agg [enc n.kind,enc n.line,enc n.name,enc n.num,enc n.elem,enc n.dims,enc n.data,enc n.sizes,enc n.ranks,enc ks])] []):=Zz.mh (.req (.abs (List Str) (fun YY=>AV.pv (enc YY)) (.nil))) h
end Go.Pl
namespace Go.Pl
open Go.RowKit
open Enc (enc dec is)
open EncL (encL decL isL)
set_option maxRecDepth 100000
end Go.Pl
namespace Go.Pl
open Go.RowKit
open Enc (enc dec is)
open EncL (encL decL isL)
end Go.Pl
namespace Go.Pl
open Go.RowKit
open Enc (enc dec is)
open EncL (encL decL isL)
set_option maxRecDepth 100000
end Go.Pl
namespace Go.Pl
open Go.RowKit
open Enc (enc dec is)
open EncL (encL decL isL)
theorem EY(o l:List Str):([.sl 1 false (List.map enc o),.sl 1 false (List.map enc l)]:List PV)=encL (o,l,()):=rfl
section
variable (n m:Nd) (ks ls:List Tm) (s:List UInt8)
end
end Go.Pl
namespace Go.Pl
open Go.RowKit
open Enc (enc dec is)
theorem b3b(n:Nd)(s:Str):PN (Qw n s)+n.name.s.length=PN n+s.s.length:=by
 unfold PN Qw
 dsimp only
 omega
theorem a3q{K:Nat}{σ:List (Str×Str)}(h : ∀ p∈σ,p.2.s.length<=K)(s:Str):(YE σ s).s.length<=s.s.length+K:=by
 unfold YE
 split
 ·rename_i p hp
  have:=h p (List.mem_of_find?_eq_some hp)
  omega
 ·omega
mutual
theorem c6m(tk:List Str)(K M:Nat)(hK : ∀ m,m<=M->(vN m).s.length<=K): ∀ (t:Tm) (σ:List (Str×Str)) (c:Nat),(∀ p∈σ,p.2.s.length<=K)->c+Zk t*(tk.length+1)<=M->Qi (YR tk σ c t).1<=Qi t+K*Zk t
 | .mk n ks,σ,c,hσ,hc=>by
  rw[Zk]at hc
  have hmul:(Zm ks+1)*(tk.length+1)=Zm ks*(tk.length+1)+(tk.length+1):=by rw[Nat.add_mul,Nat.one_mul]
  rw[hmul]at hc
  rw[YR]
  split
  ·have hn:=VQ tk c
   have hv:(vN (Zu tk c)).s.length<=K:=hK _ (by omega)
   have h1:=O3 tk K M hK ks σ ((n.name,vN (Zu tk c))::σ) 0 (Zu tk c) hσ (fun p hp=>by
    rcases List.mem_cons.1 hp with rfl|hp
    ·exact hv
    ·exact hσ p hp) (by omega)
   have h2:=b3b n (vN (Zu tk c))
   rw[Qi,Qi,Zk,Nat.mul_add,Nat.mul_one]
   omega
  ·have h1:=O3 tk K M hK ks σ σ 0 c hσ hσ (by omega)
   rw[Qi,Qi,Zk,Nat.mul_add,Nat.mul_one]
   have h2:PN (if n.kind=1 then Qw n (YE σ n.name)else n)<=PN n+K:=by
    split
    ·have:=b3b n (YE σ n.name)
     have:=a3q hσ n.name
     omega
    ·omega
   omega
theorem O3(tk:List Str)(K M:Nat)(hK : ∀ m,m<=M->(vN m).s.length<=K): ∀ (ks:List Tm) (σ τ:List (Str×Str)) (i c:Nat),(∀ p∈σ,p.2.s.length<=K)->(∀ p∈τ,p.2.s.length<=K)->c+Zm ks*(tk.length+1)<=M->XH (ZO tk σ τ i c ks).1<=XH ks+K*Zm ks
 | [],σ,τ,i,c,_,_,_=>by rw[ZO];simp[XH]
 | k::ks,σ,τ,i,c,hσ,hτ,hc=>by
  rw[Zm,Nat.add_mul]at hc
  rw[ZO]
  have h0:=PD tk (if i=0 then σ else τ) c k
  have h1:=c6m tk K M hK k (if i=0 then σ else τ) c (by split <;> assumption) (by omega)
  have h2:=O3 tk K M hK ks σ τ (i+1) (YR tk (if i=0 then σ else τ) c k).2 hσ hτ (by omega)
  rw[XH,XH,Zm,Nat.mul_add]
  omega
end
mutual
theorem LY: ∀ (t:Tm) (b:List Str),(Yt b t).length<=Zk t
 | .mk n ks,b=>by
  have:=A9 ks b (Yo n ks.length) n.name 0
  rw[Yt,List.length_append,Zk]
  split <;> simp <;> omega
theorem A9: ∀ (ks:List Tm) (b:List Str) (l:Bool) (s:Str) (i:Nat),(Ym b l s i ks).length<=Zm ks
 | [],b,l,s,i=>by rw[Ym];simp
 | k::ks,b,l,s,i=>by
  have h1:=LY k (if l&&decide (i=1)then s::b else b)
  have h2:=A9 ks b l s (i+1)
  rw[Ym,List.length_append,Zm]
  omega
end
theorem Co(l:List Str):(Vi l).length<=l.length:=by
 unfold Vi YP
 rw[List.length_map,List.length_mergeSort,List.length_map]
 have:=UJ l []
 have e:Wm l=l.foldl Y2 []:=rfl
 rw[e]
 simpa using this
theorem c5v{m:Nat}(h:m<1000):Lib.nDigits m<=3:=by
 rw[Lib.nDigits]
 split
 ·omega
 ·rw[Lib.nDigits]
  split
  ·omega
  ·rw[Lib.nDigits_small (show m / 10 / 10<10 by omega)];omega
theorem c9q{m:Nat}(h:m<=999):(vN m).s.length<=4:=by
 show(118::Lib.itoa (m:Int)).length<=4
 unfold Lib.itoa
 rw[if_neg (by omega),List.length_cons,Int.toNat_natCast,Lib.decDigits_length]
 have:=c5v (show m<1000 by omega)
 omega
theorem a2j(b:List Str)(t:Tm):(Yt b t).length<=Zk t:=LY t b
theorem d0x{t:Tm}(h:Zk t<=31):Qi (ZX t)<=Qi t+4*Zk t:=by
 have hf:(ZZ t).length<=Zk t:=by
  unfold ZZ
  exact Nat.le_trans (Co _) (a2j [] t)
 refine c6m (ZZ t) 4 999 (fun m hm=>c9q hm) t [] 0 (fun p hp=>by cases hp) ?_
 have:=Nat.mul_le_mul h (show(ZZ t).length+1<=32 by omega)
 omega
theorem b9t{t:Tm}(h:Zk t<=31)(hw:Qi t+4*Zk t<=1048576):tW (ZX t)=true:=decide_eq_true (Nat.le_trans (d0x h) hw)
end Go.Pl
namespace Go.Pl
open Go.RowKit
theorem Fy{σ:List (Str×Str)}(h : ∀ p∈σ,p.1=p.2)(s:Str):YE σ s=s:=by
 unfold YE
 split
 ·rename_i p hp
  rw[<- h p (List.mem_of_find?_eq_some hp)]
  have:=List.find?_some hp
  simpa using this
 ·rfl
theorem Nu(n:Nd)(s:Str)(k:Nat):Yo (Qw n s) k=Yo n k:=rfl
mutual
theorem NT(tk:List Str): ∀ (t:Tm) (σ ρ:List (Str×Str)) (c:Nat),(∀ p∈ρ,p.1=p.2)->YR tk ρ c (YR tk σ c t).1=YR tk σ c t
 | .mk n ks,σ,ρ,c,hρ=>by
  rw[YR]
  by_cases hl:Yo n ks.length=true
  ·rw[if_pos hl]
   have h:=Gb tk ks σ ((n.name,vN (Zu tk c))::σ) ρ ((vN (Zu tk c),vN (Zu tk c))::ρ) 0 (Zu tk c) hρ (fun p hp=>by
    rcases List.mem_cons.1 hp with rfl|hp
    ·rfl
    ·exact hρ p hp)
   have hlen:=Wp tk σ ((n.name,vN (Zu tk c))::σ) ks 0 (Zu tk c)
   dsimp only
   rw[YR,hlen,Nu,if_pos hl]
   dsimp only
   show(Tm.mk (Qw (Qw n (vN (Zu tk c))) (vN (Zu tk c))) (ZO tk ρ ((vN (Zu tk c),vN (Zu tk c))::ρ) 0 (Zu tk c) (ZO tk σ ((n.name,vN (Zu tk c))::σ) 0 (Zu tk c) ks).1).1,(ZO tk ρ ((vN (Zu tk c),vN (Zu tk c))::ρ) 0 (Zu tk c) (ZO tk σ ((n.name,vN (Zu tk c))::σ) 0 (Zu tk c) ks).1).2)=_
   rw[h]
   rfl
  ·rw[if_neg hl]
   have h:=Gb tk ks σ σ ρ ρ 0 c hρ hρ
   have hlen:=Wp tk σ σ ks 0 c
   dsimp only
   have hl2:Yo (if n.kind=1 then Qw n (YE σ n.name)else n) ks.length=Yo n ks.length:=by split <;> rfl
   rw[YR,hlen,hl2,if_neg hl]
   dsimp only
   rw[h]
   congr 2
   by_cases hk:n.kind=1
   ·rw[if_pos hk]
    show(if n.kind=1 then Qw (Qw n (YE σ n.name)) (YE ρ (YE σ n.name))else _)=_
    rw[if_pos hk,Fy hρ]
    rfl
   ·rw[if_neg hk,if_neg hk]
theorem Gb(tk:List Str): ∀ (ks:List Tm) (σ τ ρ π:List (Str×Str)) (i c:Nat),(∀ p∈ρ,p.1=p.2)->(∀ p∈π,p.1=p.2)->ZO tk ρ π i c (ZO tk σ τ i c ks).1=ZO tk σ τ i c ks
 | [],σ,τ,ρ,π,i,c,_,_=>by rw[ZO,ZO]
 | k::ks,σ,τ,ρ,π,i,c,hρ,hπ=>by
  rw[ZO]
  have h1:=NT tk k (if i=0 then σ else τ) (if i=0 then ρ else π) c (by split <;> assumption)
  have h2:=Gb tk ks σ τ ρ π (i+1) (YR tk (if i=0 then σ else τ) c k).2 hρ hπ
  dsimp only
  rw[ZO,h1,h2]
end
mutual
theorem a2d(tk:List Str): ∀ (t:Tm) (σ:List (Str×Str)) (c:Nat) (bd bd':List Str),(∀ s,s∈bd ↔ ∃ p∈σ,p.1=s)->(∀ p∈σ,p.2∈bd')->(∀ s∈bd',s ∉ tk)->(∀ s∈Yt bd t,s∈tk)->Yt bd' (YR tk σ c t).1=Yt bd t
 | .mk n ks,σ,c,bd,bd',h1,h2,h3,h4=>by
  rw[YR]
  by_cases hl:Yo n ks.length=true
  ·rw[if_pos hl]
   have hk5:n.kind=5:=by
    unfold Yo at hl
    simp only[Bool.and_eq_true,decide_eq_true_eq]at hl
    exact hl.1
   have hk2:ks.length=2:=by
    unfold Yo at hl
    simp only[Bool.and_eq_true,decide_eq_true_eq]at hl
    exact hl.2
   have hlen:=Wp tk σ ((n.name,vN (Zu tk c))::σ) ks 0 (Zu tk c)
   dsimp only
   rw[Yt,Yt,hlen,Nu,hl]
   rw[Yt,hl]at h4
   have h:=BS tk ks σ ((n.name,vN (Zu tk c))::σ) (Zu tk c) true n.name (vN (Zu tk c)) 0 bd bd' h1 h2 h3 (fun _=>rfl) (fun _=>QY tk c) (fun s hs=>h4 s (List.mem_append_right _ hs)) (fun h=>by cases h) (fun _=>by rw[hk2];omega)
   show(if (Qw n (vN (Zu tk c))).kind=1∧_ then _ else _)++Ym bd' true (vN (Zu tk c)) 0 _=_
   rw[h,if_neg (fun h=>by have:n.kind=1:=h.1;omega),if_neg (fun h=>by omega)]
  ·rw[if_neg hl]
   have hlen:=Wp tk σ σ ks 0 c
   have hl2:Yo (if n.kind=1 then Qw n (YE σ n.name)else n) ks.length=false:=by
    have:Yo n ks.length=false:=by simpa using hl
    rw[<- this]
    split <;> rfl
   have hl1:Yo n ks.length=false:=by simpa using hl
   dsimp only
   rw[Yt,Yt,hlen,hl2,hl1]
   rw[Yt,hl1]at h4
   have h:=BS tk ks σ σ c false n.name (if n.kind=1 then Qw n (YE σ n.name)else n).name 0 bd bd' h1 h2 h3 (fun h=>by cases h) (fun h=>by cases h) (fun s hs=>h4 s (List.mem_append_right _ hs)) (fun _=>rfl) (fun h=>by cases h)
   rw[h]
   congr 1
   by_cases hk:n.kind=1
   ·rw[if_pos hk]
    show(if n.kind=1∧YE σ n.name ∉ bd' then [YE σ n.name]else [])=(if n.kind=1∧n.name ∉ bd then [n.name]else [])
    by_cases hb:n.name∈bd
    ·obtain⟨p,hp,hps⟩:=(h1 n.name).1 hb
     have this:YE σ n.name∈bd':=by
      unfold YE
      split
      ·rename_i q hq
       exact h2 q (List.mem_of_find?_eq_some hq)
      ·rename_i hq
       rw[List.find?_eq_none]at hq
       exact absurd (by simpa using hps) (hq p hp)
     rw[if_neg (fun h=>h.2 this),if_neg (fun h=>h.2 hb)]
    ·have hs:YE σ n.name=n.name:=by
      unfold YE
      split
      ·rename_i q hq
       have:=List.find?_some hq
       exact absurd ((h1 n.name).2 ⟨q,List.mem_of_find?_eq_some hq,by simpa using this⟩) hb
      ·rfl
     rw[if_pos ⟨hk,hb⟩]at h4
     have hn:n.name ∉ bd':=fun hx=>h3 _ hx (h4 n.name (by simp))
     rw[hs,if_pos ⟨hk,hn⟩,if_pos ⟨hk,hb⟩]
   ·rw[if_neg hk,if_neg (fun h=>hk h.1),if_neg (fun h=>hk h.1)]
theorem BS(tk:List Str): ∀ (ks:List Tm) (σ τ:List (Str×Str)) (c:Nat) (l:Bool) (s v:Str) (i:Nat) (bd bd':List Str),(∀ s,s∈bd ↔ ∃ p∈σ,p.1=s)->(∀ p∈σ,p.2∈bd')->(∀ s∈bd',s ∉ tk)->(l=true->τ=(s,v)::σ)->(l=true->v ∉ tk) ->
  (∀ x∈Ym bd l s i ks,x∈tk)->(l=false->τ=σ)->(l=true->i+ks.length<=2)->Ym bd' l v i (ZO tk σ τ i c ks).1=Ym bd l s i ks
 | [],σ,τ,c,l,s,v,i,bd,bd',_,_,_,_,_,_,_,_=>by rw[ZO,Ym,Ym]
 | k::ks,σ,τ,c,l,s,v,i,bd,bd',h1,h2,h3,h5,h6,h4,h7,h8=>by
  rw[ZO,Ym,Ym]
  rw[Ym]at h4
  have hk:=a2d tk k (if i=0 then σ else τ) c (if l&&decide (i=1)then s::bd else bd) (if l&&decide (i=1)then v::bd' else bd') ?_ ?_ ?_ (fun x hx=>h4 x (List.mem_append_left _ hx))
  ·have hr:=BS tk ks σ τ (YR tk (if i=0 then σ else τ) c k).2 l s v (i+1) bd bd' h1 h2 h3 h5 h6 (fun x hx=>h4 x (List.mem_append_right _ hx)) h7 (fun h=>by have:=h8 h;rw[List.length_cons]at this;omega)
   rw[hk,hr]
  ·intro x
   cases l with
   | false=>
    rw[h7 rfl]
    simp only[Bool.false_and,if_neg Bool.false_ne_true,ite_self]
    exact h1 x
   | true=>
    have hi:=h8 rfl
    rw[List.length_cons]at hi
    by_cases h0:i=0
    ·subst h0
     simpa using h1 x
    ·obtain rfl:i=1:=by omega
     rw[h5 rfl]
     simp only[Bool.true_and,decide_true,if_true,if_neg (show ¬ (1:Nat)=0 by decide),List.mem_cons]
     rw[h1 x]
     constructor
     ·rintro(rfl|⟨p,hp,e⟩)
      ·exact⟨_,.inl rfl,rfl⟩
      ·exact⟨p,.inr hp,e⟩
     ·rintro⟨p,rfl|hp,e⟩
      ·exact .inl e.symm
      ·exact .inr ⟨p,hp,e⟩
  ·intro p hp
   cases l with
   | false=>
    rw[h7 rfl,ite_self]at hp
    simpa using h2 p hp
   | true=>
    have hi:=h8 rfl
    rw[List.length_cons]at hi
    by_cases h0:i=0
    ·subst h0
     simpa using h2 p (by simpa using hp)
    ·obtain rfl:i=1:=by omega
     rw[h5 rfl,if_neg (show ¬ (1:Nat)=0 by decide)]at hp
     simp only[Bool.true_and,decide_true,if_true,List.mem_cons]
     rcases List.mem_cons.1 hp with rfl|hp
     ·exact .inl rfl
     ·exact .inr (h2 p hp)
  ·intro x hx
   split at hx
   ·rename_i hc
    have hl:l=true:=by
     cases l with
     | true=>rfl
     | false=>simp at hc
    rcases List.mem_cons.1 hx with rfl|hx
    ·exact h6 hl
    ·exact h3 x hx
   ·exact h3 x hx
end
theorem a5s(t:Tm):Yt [] (ZX t)=Yt [] t:=a2d (ZZ t) t [] 0 [] [] (fun s=>by simp) (fun p hp=>by cases hp) (fun s hs=>by cases hs) fun s hs=>by
 unfold ZZ
 exact Sw.2 hs
theorem M8(t:Tm):ZZ (ZX t)=ZZ t:=by unfold ZZ;rw[a5s]
theorem c2t(t:Tm):ZX (ZX t)=ZX t:=by
 have h:=NT (ZZ t) t [] [] 0 (fun p hp=>by cases hp)
 show(YR (ZZ (ZX t)) [] 0 (ZX t)).1=ZX t
 rw[M8]
 exact congrArg Prod.fst h
def Ar(t:Tm):Nd:=if t.nd.kind=1∨t.nd.kind=5 then Qw t.nd ⟨[]⟩else t.nd
mutual
theorem Cf(tk:List Str){α:Type}(g:Tm->α)(hg : ∀ (n m:Nd) (ks ls:List Tm),Ar (.mk n ks)=Ar (.mk m ls)->ks.length=ls.length->g (.mk n ks)=g (.mk m ls)): ∀ (t:Tm) (σ:List (Str×Str)) (c:Nat),(Ye (YR tk σ c t).1).map g=(Ye t).map g
 | .mk n ks,σ,c=>by
  rw[YR]
  by_cases hl:Yo n ks.length=true
  ·rw[if_pos hl]
   have hk5:n.kind=5:=by
    unfold Yo at hl
    simp only[Bool.and_eq_true,decide_eq_true_eq]at hl
    exact hl.1
   have hlen:=Wp tk σ ((n.name,vN (Zu tk c))::σ) ks 0 (Zu tk c)
   dsimp only
   rw[XT,XT,List.map_cons,List.map_cons,CO tk g hg ks]
   congr 1
   refine hg _ _ _ _ ?_ hlen
   unfold Ar
   show(if n.kind=1∨n.kind=5 then Qw (Qw n _) ⟨[]⟩else _)=(if n.kind=1∨n.kind=5 then Qw n ⟨[]⟩else _)
   rw[if_pos (.inr hk5),if_pos (.inr hk5)]
   rfl
  ·rw[if_neg hl]
   have hlen:=Wp tk σ σ ks 0 c
   dsimp only
   rw[XT,XT,List.map_cons,List.map_cons,CO tk g hg ks]
   congr 1
   refine hg _ _ _ _ ?_ hlen
   by_cases hk:n.kind=1
   ·rw[if_pos hk]
    unfold Ar
    show(if n.kind=1∨n.kind=5 then Qw (Qw n _) ⟨[]⟩else _)=(if n.kind=1∨n.kind=5 then Qw n ⟨[]⟩else _)
    rw[if_pos (.inl hk),if_pos (.inl hk)]
    rfl
   ·rw[if_neg hk]
    rfl
theorem CO(tk:List Str){α:Type}(g:Tm->α)(hg : ∀ (n m:Nd) (ks ls:List Tm),Ar (.mk n ks)=Ar (.mk m ls)->ks.length=ls.length->g (.mk n ks)=g (.mk m ls)): ∀ (ks:List Tm) (σ τ:List (Str×Str)) (i c:Nat),((ZO tk σ τ i c ks).1.flatMap Ye).map g=(ks.flatMap Ye).map g
 | [],σ,τ,i,c=>by rw[ZO]
 | k::ks,σ,τ,i,c=>by
  rw[ZO]
  dsimp only
  rw[List.flatMap_cons,List.flatMap_cons,List.map_append,List.map_append,Cf tk g hg k,CO tk g hg ks]
end
theorem a3g(t:Tm):Xn (ZX t)=Xn t:=by
 have h:=Cf (ZZ t) (fun x=>x.nd.line) (fun n m ks ls e _=>by
  have e1:(Ar (.mk n ks)).line=n.line:=by unfold Ar;split <;> rfl
  have e2:(Ar (.mk m ls)).line=m.line:=by unfold Ar;split <;> rfl
  show n.line=m.line
  rw[<- e1,<- e2,e]) t [] 0
 unfold Xn O4
 show a8t ((Ye (YR (ZZ t) [] 0 t).1).map fun x=>x.nd.line)=_
 rw[h]
theorem a5p(t:Tm):Y6 (ZX t)=Y6 t:=by
 have h:=Cf (ZZ t) XN (fun n m ks ls e _=>by
  have e1:(Ar (.mk n ks)).kind=n.kind:=by unfold Ar;split <;> rfl
  have e2:(Ar (.mk m ls)).kind=m.kind:=by unfold Ar;split <;> rfl
  have ek:n.kind=m.kind:=by rw[<- e1,<- e2,e]
  unfold XN
  show(if n.kind=6∨n.kind=8∨n.kind=9 then [n.name]else [])=(if m.kind=6∨m.kind=8∨m.kind=9 then [m.name]else [])
  rw[<- ek]
  split
  ·rename_i hk
   have e3:Ar (.mk n ks)=n:=by unfold Ar;exact if_neg (by show ¬ (n.kind=1∨n.kind=5);omega)
   have e4:Ar (.mk m ls)=m:=by unfold Ar;exact if_neg (by show ¬ (m.kind=1∨m.kind=5);omega)
   rw[e3,e4]at e
   rw[e]
  ·rfl) t [] 0
 unfold Y6
 have e : ∀ l:List Tm,l.flatMap XN=(l.map XN).flatten:=fun l=>by rw[List.flatMap_def]
 rw[e,e]
 show Vi ((Ye (YR (ZZ t) [] 0 t).1).map XN).flatten=_
 rw[h]
mutual
theorem CP(tk:List Str): ∀ (t:Tm) (σ:List (Str×Str)) (c:Nat),Zk (YR tk σ c t).1=Zk t∧ZI (YR tk σ c t).1=ZI t
 | .mk n ks,σ,c=>by
  rw[YR]
  split
  ·dsimp only
   obtain⟨h1,h2⟩:=GA tk ks σ ((n.name,vN (Zu tk c))::σ) 0 (Zu tk c)
   rw[Zk,Zk,ZI,ZI,h1,h2]
   exact⟨rfl,rfl⟩
  ·dsimp only
   obtain⟨h1,h2⟩:=GA tk ks σ σ 0 c
   rw[Zk,Zk,ZI,ZI,h1,h2]
   exact⟨rfl,rfl⟩
theorem GA(tk:List Str): ∀ (ks:List Tm) (σ τ:List (Str×Str)) (i c:Nat),Zm (ZO tk σ τ i c ks).1=Zm ks∧ZW (ZO tk σ τ i c ks).1=ZW ks
 | [],σ,τ,i,c=>by rw[ZO];exact⟨rfl,rfl⟩
 | k::ks,σ,τ,i,c=>by
  rw[ZO]
  dsimp only
  obtain⟨h1,h2⟩:=CP tk k (if i=0 then σ else τ) c
  obtain⟨h3,h4⟩:=GA tk ks σ τ (i+1) (YR tk (if i=0 then σ else τ) c k).2
  rw[Zm,Zm,ZW,ZW,h1,h2,h3,h4]
  exact⟨rfl,rfl⟩
end
theorem LM(t:Tm):Zk (ZX t)=Zk t:=(CP _ t [] 0).1
theorem c1k(t:Tm):ZI (ZX t)=ZI t:=(CP _ t [] 0).2
end Go.Pl
namespace Go.Pl
open Go.RowKit
theorem c2z: ∀ (m:Nat),m<1000->((Lib.decDigits m).all ldI&&decide ((Lib.decDigits m).length<=29))=true:=by
 intro m hm
 have hl:=c5v hm
 rw[<- Lib.decDigits_length]at hl
 rw[Bool.and_eq_true]
 refine⟨?_,decide_eq_true (by omega)⟩
 by_cases h0:1<=m
 ·refine List.all_eq_true.2 fun c hc=> ?_
  have:=List.all_eq_true.1 (Jl m h0).1 c hc
  unfold ldI
  rw[this];rfl
 ·obtain rfl:m=0:=by omega
  rw[Lib.decDigits,dif_pos (by omega)]
  decide
theorem d4y(r:List UInt8):K3.contains (118::r)=false:=by
 have h:K3.all (fun w=>decide (w.head? ≠ some 118))=true:=by decide
 rw[<- Bool.not_eq_true]
 intro hc
 have hm:(118::r)∈K3:=by simpa using hc
 have:=List.all_eq_true.1 h _ hm
 simp at this
theorem a7h{m:Nat}(h:m<=999):Yu (vN m).s=true:=by
 show Yu (118::Lib.itoa (m:Int))=true
 have e:Lib.itoa (m:Int)=Lib.decDigits m:=by unfold Lib.itoa;rw[if_neg (by omega),Int.toNat_natCast]
 have hd:=c2z m (by omega)
 rw[Bool.and_eq_true]at hd
 rw[e,Yu,hd.1,hd.2,d4y]
 rfl
theorem Nh{n:Nd}{k:Nat}{s:Str}(h:XB n k=true)(hk:n.kind=1∨n.kind=5)(hs:Yu s.s=true):XB (Qw n s) k=true:=by
 unfold XB at h ⊢
 rw[Bool.and_eq_true]at h ⊢
 refine⟨h.1,?_⟩
 have h2:=h.2
 unfold BB at h2 ⊢
 show(if n.kind=1 then Ad n&&Yu s.s&&decide (n.num=0)&&decide (k=0)&&Cz n else if n.kind=2 then _ else if n.kind=3 then _ else if n.kind=4 then _ else if n.kind=5 then Ad n&&Yu s.s&&decide (n.num=0)&&decide (k=2)&&Cz n else _)=true
 rcases hk with hk|hk
 ·rw[if_pos hk]at h2 ⊢
  simp only[Bool.and_eq_true]at h2 ⊢
  exact⟨⟨⟨⟨h2.1.1.1.1,hs⟩,h2.1.1.2⟩,h2.1.2⟩,h2.2⟩
 ·rw[if_neg (by omega),if_neg (by omega),if_neg (by omega),if_neg (by omega),if_pos hk]at h2 ⊢
  simp only[Bool.and_eq_true]at h2 ⊢
  exact⟨⟨⟨⟨h2.1.1.1.1,hs⟩,h2.1.1.2⟩,h2.1.2⟩,h2.2⟩
theorem Es{n:Nd}{k:Nat}(h:XB n k=true)(hk:n.kind=1):Yu n.name.s=true:=by
 unfold XB BB at h
 rw[if_pos hk]at h
 simp only[Bool.and_eq_true]at h
 exact h.2.1.1.1.2
mutual
theorem b1i(tk:List Str)(M:Nat)(hM : ∀ m,m<=M->Yu (vN m).s=true): ∀ (t:Tm) (σ:List (Str×Str)) (c:Nat),(∀ p∈σ,Yu p.2.s=true)->c+Zk t*(tk.length+1)<=M->(Ye t).all Qz=true->(Ye (YR tk σ c t).1).all Qz=true
 | .mk n ks,σ,c,hσ,hc,h=>by
  rw[XT,List.all_cons,Bool.and_eq_true]at h
  obtain⟨h1,h2⟩:=h
  have h1:XB n ks.length=true:=h1
  rw[Zk,Nat.add_mul,Nat.one_mul]at hc
  rw[YR]
  by_cases hl:Yo n ks.length=true
  ·rw[if_pos hl]
   have hk5:n.kind=5:=by
    unfold Yo at hl
    simp only[Bool.and_eq_true,decide_eq_true_eq]at hl
    exact hl.1
   have hn:=VQ tk c
   have hv:=hM (Zu tk c) (by omega)
   have hlen:=Wp tk σ ((n.name,vN (Zu tk c))::σ) ks 0 (Zu tk c)
   dsimp only
   rw[XT,List.all_cons,Bool.and_eq_true]
   refine⟨?_,PL tk M hM ks σ _ 0 _ hσ (fun p hp=>by
    rcases List.mem_cons.1 hp with rfl|hp
    ·exact hv
    ·exact hσ p hp) (by omega) h2⟩
   show XB (Qw n _) (ZO tk σ ((n.name,vN (Zu tk c))::σ) 0 (Zu tk c) ks).1.length=true
   rw[hlen]
   exact Nh h1 (.inr hk5) hv
  ·rw[if_neg hl]
   have hlen:=Wp tk σ σ ks 0 c
   dsimp only
   rw[XT,List.all_cons,Bool.and_eq_true]
   refine⟨?_,PL tk M hM ks σ σ 0 c hσ hσ (by omega) h2⟩
   show XB (if n.kind=1 then Qw n (YE σ n.name)else n) (ZO tk σ σ 0 c ks).1.length=true
   rw[hlen]
   split
   ·rename_i hk
    refine Nh h1 (.inl hk) ?_
    unfold YE
    split
    ·rename_i p hp
     exact hσ p (List.mem_of_find?_eq_some hp)
    ·exact Es h1 hk
   ·exact h1
theorem PL(tk:List Str)(M:Nat)(hM : ∀ m,m<=M->Yu (vN m).s=true): ∀ (ks:List Tm) (σ τ:List (Str×Str)) (i c:Nat),(∀ p∈σ,Yu p.2.s=true)->(∀ p∈τ,Yu p.2.s=true)->c+Zm ks*(tk.length+1)<=M->(ks.flatMap Ye).all Qz=true->((ZO tk σ τ i c ks).1.flatMap Ye).all Qz=true
 | [],σ,τ,i,c,_,_,_,_=>by rw[ZO];rfl
 | k::ks,σ,τ,i,c,hσ,hτ,hc,h=>by
  rw[List.flatMap_cons,List.all_append,Bool.and_eq_true]at h
  rw[Zm,Nat.add_mul]at hc
  rw[ZO]
  have h0:=PD tk (if i=0 then σ else τ) c k
  dsimp only
  rw[List.flatMap_cons,List.all_append,Bool.and_eq_true]
  exact⟨b1i tk M hM k _ c (by split <;> assumption) (by omega) h.1,PL tk M hM ks σ τ (i+1) _ hσ hτ (by omega) h.2⟩
end
theorem a5z{t:Tm}(hs:Zk t<=31)(h:Xr t=true):Xr (ZX t)=true:=by
 unfold Xr at h ⊢
 simp only[Bool.and_eq_true]at h ⊢
 rw[LM,c1k]
 refine⟨h.1,?_⟩
 have hf:(ZZ t).length<=Zk t:=by
  unfold ZZ
  exact Nat.le_trans (Co _) (a2j [] t)
 refine b1i (ZZ t) 999 (fun m hm=>a7h hm) t [] 0 (fun p hp=>by cases hp) ?_ h.2
 have:=Nat.mul_le_mul hs (show(ZZ t).length+1<=32 by omega)
 omega
end Go.Pl
namespace Go.Pl
open Go.RowKit
open Enc (enc dec is)
open EncL (encL decL isL)
set_option maxRecDepth 100000
noncomputable def En:IC:=Wy Proofs.Tryz.f6
def FQ:List IRes:=[(.tmp 2)]
abbrev d0s:Nat:=55
noncomputable def a9o:ZC:=YM [(12,.pure (preT (fun _:Unit=>true)) (Zi (fun _:Unit=>true))),(13,.pure (preT (fun x:Tm×Int×Unit=>tW x.1)) (Zi (fun x:Tm×Int×Unit=>QJ x.1 x.2.1))),(30,.pure (preT (fun x:Tm×Unit=>tW x.1)) (Zi (fun x:Tm×Unit=>D9 (ZX x.1)))),(31,.pure (preT (fun x:Tm×Tm×Unit=>tW x.1&&tW x.2.1)) (Zi (fun x:Tm×Tm×Unit=>Fz x.1 x.2.1))),(20,.pure (preT (fun x:Tm×Unit=>tW x.1)) (Zi (fun x:Tm×Unit=>ZZ x.1))),(32,.pure (preT (fun x:Tm×Unit=>tW x.1)) (Zi (fun x:Tm×Unit=>Y6 x.1))),(34,.pure (preT (fun x:Tm×Unit=>tW x.1&&Ug x.1)) (Zi (fun x:Tm×Unit=>Xn x.1))),(19,.pure (preT (fun x:List Str×List Str×Unit=>decide (x.1.length<=1048576))) (Zi (fun x:List Str×List Str×Unit=>decide (x.1=x.2.1)))),(33,.pure (preT (fun x:List Int×List Int×Unit=>decide (x.1.length<=1048576))) (Zi (fun x:List Int×List Int×Unit=>decide (x.1=x.2.1)))),(18,.pure (preT (fun x:Tm×Tm×Unit=>tW x.1&&tW x.2.1&&tW (ZX x.1)&&tW (ZX x.2.1))) (Zi (fun x:Tm×Tm×Unit=>KZ x.1 x.2.1))),(22,.pure (preT (fun x:Tm×Unit=>tW x.1)) (Zi (fun x:Tm×Unit=>Xr x.1)))]
theorem d3u{G:PV->Prop}(n:Nd)(ks:List Tm)(h : ∃ y0:Bool,AV.pv (Zi (fun(x:Unit)=>true) [])=AV.pv (enc y0)∧(if (!y0)=true then G ((.bool false))else((Go.Pl.preT (fun(x:Tm×Int×Unit)=>tW x.1) [(ndC n ks),(.int .i64 30)])=true∧(∃ y1:Bool,AV.pv (Zi (fun(x:Tm×Int×Unit)=>QJ x.1 x.2.1) [(ndC n ks),(.int .i64 30)])=AV.pv (enc y1)∧(if (!y1)=true then G ((.bool true))else((Go.Pl.preT (fun(x:Tm×Unit)=>tW x.1) (Au n ks))=true∧(∃ y2:TS,AV.pv (Zi (fun(x:Tm×Unit)=>D9 (ZX x.1)) (Au n ks))=AV.pv (enc y2)∧((Go.Pl.preT (fun(x:Tm×Unit)=>tW x.1) [(eS y2)])=true∧(∃ y3:TS,AV.pv (Zi (fun(x:Tm×Unit)=>D9 (ZX x.1)) [(eS y2)])=AV.pv (enc y3)∧((Go.Pl.preT (fun(x:Tm×Tm×Unit)=>tW x.1&&tW x.2.1) [(eS y3),(eS y2)])=true∧(∃ y4:Bool,AV.pv (Zi (fun(x:Tm×Tm×Unit)=>Fz x.1 x.2.1) [(eS y3),(eS y2)])=AV.pv (enc y4)∧(if (y4)=true then(Go.Pl.preT (fun(x:Tm×Unit)=>tW x.1) [(eS y2)])=true∧(∃ y5:List Str,AV.pv (Zi (fun(x:Tm×Unit)=>ZZ x.1) [(eS y2)])=AV.pv (enc y5)∧((Go.Pl.preT (fun(x:Tm×Unit)=>tW x.1) (Au n ks))=true∧(∃ y6:List Str,AV.pv (Zi (fun(x:Tm×Unit)=>ZZ x.1) (Au n ks))=AV.pv (enc y6)∧((Go.Pl.preT (fun(x:List Str×List Str×Unit)=>decide (List.length x.1<=1048576)) [(.sl 1 false (List.map enc y5)),(.sl 1 false (List.map enc y6))])=true∧(∃ y7:Bool,AV.pv (Zi (fun(x:List Str×List Str×Unit)=>decide (x.1=x.2.1)) [(.sl 1 false (List.map enc y5)),(.sl 1 false (List.map enc y6))])=AV.pv (enc y7)∧(if (y7)=true then(Go.Pl.preT (fun(x:Tm×Unit)=>tW x.1) [(eS y2)])=true∧(∃ y8:List Str,AV.pv (Zi (fun(x:Tm×Unit)=>Y6 x.1) [(eS y2)])=AV.pv (enc y8)∧((Go.Pl.preT (fun(x:Tm×Unit)=>tW x.1) (Au n ks))=true∧(∃ y9:List Str,AV.pv (Zi (fun(x:Tm×Unit)=>Y6 x.1) (Au n ks))=AV.pv (enc y9)∧((Go.Pl.preT (fun(x:List Str×List Str×Unit)=>decide (List.length x.1<=1048576)) [(.sl 1 false (List.map enc y8)),(.sl 1 false (List.map enc y9))])=true∧(∃ y10:Bool,AV.pv (Zi (fun(x:List Str×List Str×Unit)=>decide (x.1=x.2.1)) [(.sl 1 false (List.map enc y8)),(.sl 1 false (List.map enc y9))])=AV.pv (enc y10)∧(if (y10)=true then(Go.Pl.preT (fun(x:Tm×Unit)=>tW x.1&&Ug x.1) [(eS y2)])=true∧(∃ y11:List Int,AV.pv (Zi (fun(x:Tm×Unit)=>Xn x.1) [(eS y2)])=AV.pv (enc y11)∧((Go.Pl.preT (fun(x:Tm×Unit)=>tW x.1&&Ug x.1) (Au n ks))=true∧(∃ y12:List Int,AV.pv (Zi (fun(x:Tm×Unit)=>Xn x.1) (Au n ks))=AV.pv (enc y12)∧((Go.Pl.preT (fun(x:List Int×List Int×Unit)=>decide (List.length x.1<=1048576)) [(.sl 1 false (List.map enc y11)),(.sl 1 false (List.map enc y12))])=true∧(∃ y13:Bool,AV.pv (Zi (fun(x:List Int×List Int×Unit)=>decide (x.1=x.2.1)) [(.sl 1 false (List.map enc y11)),(.sl 1 false (List.map enc y12))])=AV.pv (enc y13)∧(if (y13)=true then(Go.Pl.preT (fun(x:Tm×Tm×Unit)=>tW x.1&&tW x.2.1&&tW (ZX x.1)&&tW (ZX x.2.1)) [(eS y2),(ndC n ks)])=true∧(∃ y14:Bool,AV.pv (Zi (fun(x:Tm×Tm×Unit)=>KZ x.1 x.2.1) [(eS y2),(ndC n ks)])=AV.pv (enc y14)∧(if (y14)=true then(Go.Pl.preT (fun(x:Tm×Tm×Unit)=>tW x.1&&tW x.2.1&&tW (ZX x.1)&&tW (ZX x.2.1)) [(ndC n ks),(eS y2)])=true∧(∃ y15:Bool,AV.pv (Zi (fun(x:Tm×Tm×Unit)=>KZ x.1 x.2.1) [(ndC n ks),(eS y2)])=AV.pv (enc y15)∧(if (y15)=true then(Go.Pl.preT (fun(x:Tm×Unit)=>tW x.1) (Au n ks))=true∧(∃ y16:Bool,AV.pv (Zi (fun(x:Tm×Unit)=>Xr x.1) (Au n ks))=AV.pv (enc y16)∧(if (!y16)=true then G ((.bool true))else((Go.Pl.preT (fun(x:Tm×Unit)=>tW x.1) [(eS y2)])=true∧(∃ y17:Bool,AV.pv (Zi (fun(x:Tm×Unit)=>Xr x.1) [(eS y2)])=AV.pv (enc y17)∧(G ((.bool y17)))))))else(G ((.bool false)))))else(G ((.bool false)))))else(G ((.bool false)))))))))else(G ((.bool false)))))))))else(G ((.bool false)))))))))else(G ((.bool false))))))))))))))):Zd a9o 0 (Zb FQ G) En [] (Z9 55 [.agg [enc n.kind,enc n.line,enc n.name,enc n.num,enc n.elem,enc n.dims,enc n.data,enc n.sizes,enc n.ranks,enc ks]]):=Zd.tp (dm [dv Bool,dv TS,dv (List Str),dv (List Int)] 217 0x222222222222222222222222222222202222222222222222222222222022222222222222222220222222222222202222222220222220222512022220054225120154251220244251220374251281228120544251271227120774251271227120a0451616100014510001452) h
end Go.Pl
namespace Go.Pl
open Go.RowKit
open Enc (enc dec is)
open EncL (encL decL isL)
theorem b6u{t:Tm}{k:Int}(h:QJ t k=true):(Zk t:Int)<=k:=by
 unfold QJ at h
 simp only[Bool.and_eq_true,decide_eq_true_eq]at h
 exact h.1.2
theorem b6f{t:Tm}(h:Ug t=true):Ug (ZX t)=true:=by
 have e:=Cf (ZZ t) (fun x=>x.nd.line) (fun n m ks ls e _=>by
  have e1:(Ar (.mk n ks)).line=n.line:=by unfold Ar;split <;> rfl
  have e2:(Ar (.mk m ls)).line=m.line:=by unfold Ar;split <;> rfl
  show n.line=m.line
  rw[<- e1,<- e2,e]) t [] 0
 unfold Ug at h ⊢
 refine List.all_eq_true.2 fun x hx=> ?_
 have hm:x.nd.line∈(Ye t).map fun x=>x.nd.line:=by
  rw[<- e]
  exact List.mem_map.2 ⟨x,hx,rfl⟩
 obtain⟨y,hy,hl⟩:=List.mem_map.1 hm
 have:=List.all_eq_true.1 h y hy
 unfold lnB at this ⊢
 rw[<- hl]
 exact this
mutual
theorem Ai: ∀ t:Tm,QE t t=true
 | .mk n ks=>by
  rw[QE,SC ks]
  simp[b3v]
theorem SC: ∀ ts:List Tm,Vu ts ts=true
 | []=>rfl
 | k::ks=>by rw[Vu,Ai k,SC ks];rfl
end
theorem a3t(t:Tm):(Xn t).length<=Zk t:=by
 unfold Xn a8t Ws O4
 rw[List.length_mergeSort]
 have:=H8 ((Ye t).map fun x=>x.nd.line) []
 unfold GD
 rw[List.length_map,UQ]at this
 simpa using this
theorem c5m(o l:List Int):([.sl 1 false (List.map enc o),.sl 1 false (List.map enc l)]:List PV)=encL (o,l,()):=rfl
theorem d2h(s:Tm)(n:Nd)(ks:List Tm):([ndC n ks,eS (D9 s)]:List PV)=encL (Tm.mk n ks,s,()):=by rw[CZ,Vd];rfl
theorem c4g: ∀ x:Tm×Unit,(decide (Qi x.1+9*Zk x.1<=1048576)&&Ug x.1)=true->Zd a9o 0 (Zb FQ (Zr true)) En [] (Z9 d0s (encL x)):=by
 rintro⟨⟨n,ks⟩,⟨⟩⟩ hw
 simp only[Bool.and_eq_true,decide_eq_true_eq]at hw
 obtain⟨hw,hl⟩:=hw
 have h1:tW (.mk n ks)=true:=decide_eq_true (by omega)
 have hsz:=Ql h1
 rw[<- nd1]
 refine d3u n ks (Zf () rfl (Uq (fun h=>nomatch h) fun _=> ?_))
 refine⟨Zc (Tm.mk n ks,(30:Int),()) (ndT n ks (30:Int)).symm h1,Zf (Tm.mk n ks,(30:Int),()) (ndT n ks (30:Int)).symm (Uq (fun _=>ZA rfl) fun hf=> ?_)⟩
 have hs:Zk (.mk n ks)<=31:=by have:=b6u (t:=.mk n ks) (k:=30) hf;omega
 have hsw:tW (ZX (.mk n ks))=true:=b9t hs (by omega)
 have hss:=c2t (.mk n ks)
 have hfr:=M8 (.mk n ks)
 have hca:=a5p (.mk n ks)
 have hli:=a3g (.mk n ks)
 have hsl:=b6f hl
 have hva:=fun h=>a5z (t:=.mk n ks) hs h
 have hss2:=LM (.mk n ks)
 refine⟨Zc (Tm.mk n ks,()) (YQ n ks) h1,Zf (Tm.mk n ks,()) (YQ n ks) ?_⟩
 show(Go.Pl.preT (fun(x:Tm×Unit)=>tW (Prod.fst x)) [eS (D9 (ZX (.mk n ks)))])=true∧_
 have e0:(Tm.mk n ks,()).1=Tm.mk n ks:=rfl
 simp only[e0]
 generalize hg:ZX (.mk n ks)=s at *
 have hfl:=b1r s
 have hcl:=Ez s
 have hll:=a3t s
 refine⟨Zc (s,()) (PO s) hsw,Zf (s,()) (PO s) ?_⟩
 have e1:ZX (s,()).1=s:=hss
 simp only[e1]
 refine⟨Zc (s,s,()) (c1e s s) (by show(tW s&&tW s)=true;rw[hsw];rfl),Zf (s,s,()) (c1e s s) (Xj (Ff s) ?_)⟩
 refine⟨Zc (s,()) (PO s) hsw,Zf (s,()) (PO s) ⟨Zc (Tm.mk n ks,()) (YQ n ks) h1,Zf (Tm.mk n ks,()) (YQ n ks) ⟨Zc (ZZ s,ZZ (.mk n ks),()) (EY _ _) (decide_eq_true (by show(ZZ s).length<=_;omega)),Zf (ZZ s,ZZ (.mk n ks),()) (EY _ _) (Xj (decide_eq_true hfr) ?_)⟩⟩⟩
 refine⟨Zc (s,()) (PO s) hsw,Zf (s,()) (PO s) ⟨Zc (Tm.mk n ks,()) (YQ n ks) h1,Zf (Tm.mk n ks,()) (YQ n ks) ⟨Zc (Y6 s,Y6 (.mk n ks),()) (EY _ _) (decide_eq_true (by show(Y6 s).length<=_;omega)),Zf (Y6 s,Y6 (.mk n ks),()) (EY _ _) (Xj (decide_eq_true hca) ?_)⟩⟩⟩
 refine⟨Zc (s,()) (PO s) (by show(tW s&&Ug s)=true;rw[hsw,hsl];rfl),Zf (s,()) (PO s) ⟨Zc (Tm.mk n ks,()) (YQ n ks) (by show(tW (.mk n ks)&&Ug (.mk n ks))=true;rw[h1,hl];rfl),Zf (Tm.mk n ks,()) (YQ n ks) ⟨Zc (Xn s,Xn (.mk n ks),()) (c5m _ _) (decide_eq_true (by show(Xn s).length<=_;omega)),Zf (Xn s,Xn (.mk n ks),()) (c5m _ _) (Xj (decide_eq_true hli) ?_)⟩⟩⟩
 refine⟨Zc (s,Tm.mk n ks,()) (d2z s n ks) (by show(tW s&&tW (.mk n ks)&&tW (ZX s)&&tW (ZX (.mk n ks)))=true;rw[hss,hg,hsw,h1];rfl),Zf (s,Tm.mk n ks,()) (d2z s n ks) (Xj (by show QE (ZX s) (ZX (.mk n ks))=true;rw[hss,hg];exact Ai s) ?_)⟩
 refine⟨Zc (Tm.mk n ks,s,()) (d2h s n ks) (by show(tW (.mk n ks)&&tW s&&tW (ZX (.mk n ks))&&tW (ZX s))=true;rw[hss,hg,hsw,h1];rfl),Zf (Tm.mk n ks,s,()) (d2h s n ks) (Xj (by show QE (ZX (.mk n ks)) (ZX s)=true;rw[hss,hg];exact Ai s) ?_)⟩
 refine⟨Zc (Tm.mk n ks,()) (YQ n ks) h1,Zf (Tm.mk n ks,()) (YQ n ks) (Uq (fun _=>ZA rfl) fun hv=> ?_)⟩
 exact⟨Zc (s,()) (PO s) hsw,Zf (s,()) (PO s) (ZA (hva hv))⟩
end Go.Pl
