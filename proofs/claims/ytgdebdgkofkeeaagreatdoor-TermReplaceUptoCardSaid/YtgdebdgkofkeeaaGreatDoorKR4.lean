/-
  Texts of mine that belong together (packed by pack.py), for every input: QUb, QUc, QUg, GUh, QUh, GUj, GTv, QTg, VwU, QTv, QUj, VwL, GTd, QTd, GWy, QWy, GVa, QVa, QCo, GL7, QL7, GL9, QL9, TyRa, GRa, QGc, TyZ0, TyCm, GUk, QUk, GUn, QUn, GUo, QUo, GUd, QUd, GUi, GUl, QUl, GUm, GUq, GUp, QUp, QUv.
-/
import Derived.Test.YtgdebdgkofkeeaaGreatDoorChecked
import Derived.Test.YtgdebdgkofkeeaaGreatDoorProg
import Derived.Test.YtgdebdgkofkeeaaGreatDoorKR2
import Derived.Test.YtgdebdgkofkeeaaGreatDoorKR3
import Derived.KernelRfl
import Derived.Lib.ItoaLen
set_option linter.unusedVariables false
set_option linter.unusedSimpArgs false
namespace Go.Pl
open Go.RowKit
open Enc (enc dec is)
open EncL (encL decL isL)
theorem Mr{α:Type}[BEq α][LawfulBEq α]{x y:α}{P Q:Prop}(h1:x≠y->P)(h2:x=y->Q):if (x != y)=true then P else Q:=by by_cases h:x=y;rw[if_neg (by simpa using h)];exact h2 h;rw[if_pos (by simpa using h)];exact h1 h
theorem d2p{α:Type}[BEq α][LawfulBEq α]{x y:α}{P Q:Prop}(h1:x≠y->P)(h2:x=y->Q):if (!x==y)=true then P else Q:=by by_cases h:x=y;rw[if_neg (by simpa using h)];exact h2 h;rw[if_pos (by simpa using h)];exact h1 h
theorem CO{α β:Type}[Enc α][Enc β]{a:List α}{b:List β}{P Q:Prop}(h1:a.length≠b.length->P)(h2:a.length=b.length->Q):if ((↑(List.length (List.map (enc:α->PV) a)):Int) != (↑(List.length (List.map (enc:β->PV) b)):Int))=true then P else Q:=
 Mr (fun h=>h1 fun e=>h (by rw[List.length_map,List.length_map,e])) fun h=>h2 (by rw[List.length_map,List.length_map]at h;omega)
theorem BJ{α:Type}[DecidableEq α]{x y:α}{a b:List α}(h:x≠y):decide (x::a=y::b)=false:=decide_eq_false fun e=>h (List.cons.inj e).1
theorem BV{α:Type}[DecidableEq α]{x y:α}{a b:List α}(h:x=y):decide (x::a=y::b)=decide (a=b):=decide_eq_decide.2 ⟨fun e=>(List.cons.inj e).2,fun e=>by rw[h,e]⟩
theorem b1n{α:Type}[DecidableEq α]{a b:List α}(h:a.length≠b.length):decide (a=b)=false:=decide_eq_false fun e=>h (by rw[e])
theorem idf{x y:Int}(h:x≠y):x≠y:=h
theorem idt{x y:Int}(h:x=y):x=y:=h
theorem stt{x y:Str}(h:x.s=y.s):x=y:=by cases x;cases y;cases h;rfl
theorem b4b(a b:List Int)(hl:a.length<=1048576)(e:a.length=b.length)(R:Bool): ∀ (d i:Nat),d+i=a.length->R=decide (a.drop i=b.drop i) ->
  At Sy 0 (Zb He (Zq R)) HV 0 26 [(0,.pv (enc a)),(1,.pv (enc b)),(5,.pv (.int .i64 i))] []:=by
 intro d
 induction d with
 | zero=>
  intro i hi hR
  refine b2j a b i (Xu (WO (by omega)) (ZA ?_))
  rw[hR,List.drop_eq_nil_of_le (by omega),List.drop_eq_nil_of_le (by omega)];rfl
 | succ d ih=>
  intro i hi hR
  have h1:i<a.length:=by omega
  have h2:i<b.length:=by omega
  rw[List.drop_eq_getElem_cons h1,List.drop_eq_getElem_cons h2]at hR
  refine b2j a b i (Xt (Wt h1) ⟨ZP h1 rfl,Yg h1 ⟨ZP h2 rfl,Yg h2 (Mr (fun h=>ZA ?_) fun h=> ?_)⟩⟩)
  ·rw[hR,BJ (show a[i]≠b[i]from idf h)]
  ·rw[next (by omega)]
   exact ih (i+1) (by omega) (by rw[hR,BV (show a[i]=b[i]from idt h)])
theorem c1p: ∀ x:List Int×List Int×Unit,decide (x.1.length<=1048576)=true->Ze Sy 0 (Zb He (Zq (decide (x.1=x.2.1)))) HV [] (Yc c5r (encL x)):=by
 rintro⟨a,b,⟨⟩⟩ h
 refine d1b a b (CO (fun k=>ZA (b1n k).symm) fun k=> ?_)
 exact b4b a b (of_decide_eq_true h) k _ a.length 0 (by omega) rfl
theorem a6q(a b:Lin)(hl:a.t.length<=1048576)(e:a.t.length=b.t.length)(R:Bool): ∀ (d i:Nat),d+i=a.t.length->R=decide (a.t.drop i=b.t.drop i) ->
  At SV 0 (Zb Gq (Zq R)) J8 0 38 [(2,.ptr 0 0),(3,.ptr 1 0),(5,.pv (.int .i64 i))] [.obj (.box [.pv (enc a.k),.pv (enc a.t)]),.obj (.box [.pv (enc b.k),.pv (enc b.t)])]:=by
 intro d
 induction d with
 | zero=>
  intro i hi hR
  refine b0v a b i (Xu (WO (by omega)) (ZA ?_))
  rw[hR,List.drop_eq_nil_of_le (by omega),List.drop_eq_nil_of_le (by omega)];rfl
 | succ d ih=>
  intro i hi hR
  have h1:i<a.t.length:=by omega
  have h2:i<b.t.length:=by omega
  rw[List.drop_eq_getElem_cons h1,List.drop_eq_getElem_cons h2]at hR
  have hc:(PV.asStr (List.getD (PV.cells (enc a.t[i])) 0 default)==PV.asStr (List.getD (PV.cells (enc b.t[i])) 0 default)&&(PV.asInt (List.getD (PV.cells (enc a.t[i])) (0+1) default)==PV.asInt (List.getD (PV.cells (enc b.t[i])) (0+1) default)&&true))=decide (a.t[i]=b.t[i]):=by
   rw[co1,co1,co2,co2,Bool.and_true]
   rcases a.t[i]with ⟨⟨v⟩,c⟩
   rcases b.t[i]with ⟨⟨w⟩,c'⟩
   rw[Bool.eq_iff_iff]
   simp
  refine b0v a b i (Xt (Wt h1) ⟨ZP h1 rfl,Yg h1 ⟨ZP h2 rfl,Yg h2 ?_⟩⟩)
  rw[hc]
  refine Ve (fun h=>ZA ?_) fun h=> ?_
  ·rw[hR,BJ (of_decide_eq_false h)]
  ·rw[next (by omega)]
   exact ih (i+1) (by omega) (by rw[hR,BV (of_decide_eq_true h)])
theorem c0u: ∀ x:Lin×Lin×Unit,decide (x.1.t.length<=1048576)=true->Ze SV 0 (Zb Gq (Zq (decide (x.1=x.2.1)))) J8 [] (Yc c7q (encL x)):=by
 rintro⟨a,b,⟨⟩⟩ h
 refine d0x a b (Mr (fun k=>ZA (decide_eq_false fun e=>k (by rw[show a=b from e])).symm) fun k0=>CO (fun k=>ZA (decide_eq_false fun e=>k (by rw[show a=b from e])).symm) fun k=> ?_)
 refine a6q a b (of_decide_eq_true h) k _ a.t.length 0 (by omega) (decide_eq_decide.2 ⟨fun e=>by rw[show a=b from e],fun e=> ?_⟩)
 cases a;cases b
 simp only[List.drop_zero]at e k0
 rw[k0,e]
theorem Yj{n m:Nd}{ks ls:List Tm}:K5 (.mk n ks) (.mk m ls)=true ↔ (n.kind=m.kind∧n.name=m.name∧n.num=m.num∧n.elem=m.elem∧n.dims=m.dims∧n.data=m.data∧n.sizes=m.sizes∧n.ranks=m.ranks)∧VO ks ls=true:=by
 rw[K5]
 unfold c3n
 simp only[Bool.and_eq_true,decide_eq_true_eq,and_assoc]
theorem Jb: ∀ {ks ls:List Tm},VO ks ls=true->ks.length=ls.length
 | [],[],_=>rfl
 | [],_::_,h=>by simp[VO]at h
 | _::_,[],h=>by simp[VO]at h
 | k::ks,l::ls,h=>by
  rw[VO,Bool.and_eq_true]at h
  rw[List.length_cons,List.length_cons,Jb h.2]
theorem XU{b:Bool}(h:b=true->False):false=b:=by cases b;rfl;exact(h rfl).elim
theorem a0t{n m:Nd}{ks ls:List Tm}:Sa (.mk n ks) (.mk m ls)=true ↔ n=m∧Dh ks ls=true:=by
 rw[Sa,Bool.and_eq_true,decide_eq_true_eq]
mutual
theorem c3x: ∀ {a b:Tm},Sa a b=true->K5 a b=true
 | .mk n ks,.mk m ls,h=>by
  obtain⟨e,h2⟩:=a0t.1 h
  subst e
  exact Yj.2 ⟨⟨rfl,rfl,rfl,rfl,rfl,rfl,rfl,rfl⟩,a5u h2⟩
theorem a5u: ∀ {ks ls:List Tm},Dh ks ls=true->VO ks ls=true
 | [],[],_=>by rw[VO]
 | [],_::_,h=>by simp[Dh]at h
 | _::_,[],h=>by simp[Dh]at h
 | k::ks,l::ls,h=>by
  rw[Dh,Bool.and_eq_true]at h
  rw[VO,c3x h.1,a5u h.2];rfl
end
theorem a7w{a b:List Int}{P:Bool->Prop}(h:a.length<=1048576)(k:P (decide (a=b))):ET [.sl 1 false (a.map enc),.sl 1 false (b.map enc)] P:=⟨Zd (a,b,()) rfl (decide_eq_true h),Zh (a,b,()) rfl k⟩
theorem Na{N:Nat}{n:Nd}{ks:List Tm}(h:tW (.mk n ks)=true)(hd:ZY ks<N){k l:Tm}(hk:k∈ks)(hl:tW l=true):(fun x:Tm×Tm×Unit=>(tW x.1&&tW x.2.1)&&decide (ZO x.1<N)) (k,l,())=true:=by
 have h:=DV h hd hk
 simp only[Bool.and_eq_true]at h ⊢
 exact⟨⟨h.1,hl⟩,h.2⟩
theorem a3k(a b:Tm):[Pn a,Pn b]=encL (a,b,()):=by rw[OA,OA];rfl
theorem a4b(n m:Nd)(ks ls:List Tm):[ndC n ks,ndC m ls]=encL (Tm.mk n ks,Tm.mk m ls,()):=by rw[Wh,Wh];rfl
theorem b3v(N:Nat)(n m:Nd)(ks ls:List Tm)(hw:tW (.mk n ks)=true)(hv:tW (.mk m ls)=true)(hd:ZY ks<N)(e:ks.length=ls.length)(R:Bool): ∀ (d i:Nat),d+i=ks.length->R=VO (ks.drop i) (ls.drop i) ->
  At (Km N) 0 (Zb Ue (Zq R)) V9 1 117 [(2,.ptr 0 0),(3,.ptr 1 0),(6,.pv (.int .i64 i))] [.obj (.box (Z5 n ks)),.obj (.box (Z5 m ls))]:=by
 intro d
 induction d with
 | zero=>
  intro i hi hR
  rw[List.drop_eq_nil_of_le (by omega),List.drop_eq_nil_of_le (by omega),VO]at hR
  exact b1h N n ks m ls i (Xu (WO (by omega)) (ZA hR.symm))
 | succ d ih=>
  intro i hi hR
  have h1:i<ks.length:=by omega
  have h2:i<ls.length:=by omega
  have hkl:=(Ym hw).1
  rw[List.drop_eq_getElem_cons h1,List.drop_eq_getElem_cons h2,VO]at hR
  refine b1h N n ks m ls i (Xt (Wt h1) ⟨ZP h1 rfl,Yg h1 ⟨Vy _,ZP h2 rfl,Yg h2 ⟨Vy _,Zd (ks[i],ls[i],()) (a3k _ _) (Na hw hd (List.getElem_mem h1) ((Ym hv).2 _ (List.getElem_mem h2))),Zh (ks[i],ls[i],()) (a3k _ _) (Ve (fun h=>ZA ?_) fun h=> ?_)⟩⟩⟩)
  ·have h:K5 ks[i] ls[i]=false:=h
   rw[hR,h];rfl
  ·have h:K5 ks[i] ls[i]=true:=h
   rw[next (by omega)]
   exact ih (i+1) (by omega) (by rw[hR,h];rfl)
theorem a2n(N:Nat)(n m:Nd)(ks ls:List Tm)(hw:tW (.mk n ks)=true)(hv:tW (.mk m ls)=true)(hd:ZY ks<N)(e:ks.length=ls.length)(es:n.sizes.length=m.sizes.length)(R:Bool): ∀ (d i:Nat),d+i=n.sizes.length->R=(decide (n.sizes.drop i=m.sizes.drop i)&&VO ks ls) ->
  At (Km N) 0 (Zb Ue (Zq R)) V9 0 117 [(2,.ptr 0 0),(3,.ptr 1 0),(5,.pv (.int .i64 i))] [.obj (.box (Z5 n ks)),.obj (.box (Z5 m ls))]:=by
 intro d
 induction d with
 | zero=>
  intro i hi hR
  rw[List.drop_eq_nil_of_le (by omega),List.drop_eq_nil_of_le (by omega)]at hR
  exact a7p N n ks m ls i (Xu (WO (by omega)) (b3v N n m ks ls hw hv hd e R ks.length 0 (by omega) (by rw[hR];rfl)))
 | succ d ih=>
  intro i hi hR
  have h1:i<n.sizes.length:=by omega
  have h2:i<m.sizes.length:=by omega
  have hn:=Fs hw
  have hb:=hn.sizes
  rw[List.drop_eq_getElem_cons h1,List.drop_eq_getElem_cons h2]at hR
  refine a7p N n ks m ls i (Xt (Wt h1) ⟨ZP h1 rfl,Yg h1 ⟨ZP h2 rfl,Yg h2 ⟨Zd (n.sizes[i],m.sizes[i],()) rfl (decide_eq_true (hn.lens _ (List.getElem_mem h1))),Zh (n.sizes[i],m.sizes[i],()) rfl (Ve (fun h=>ZA ?_) fun h=> ?_)⟩⟩⟩)
  ·rw[hR,BJ (of_decide_eq_false h)];rfl
  ·rw[next (by omega)]
   exact ih (i+1) (by omega) (by rw[hR,BV (of_decide_eq_true h)])
theorem b7h(N:Nat): ∀ x:Tm×Tm×Unit,((tW x.1&&tW x.2.1)&&decide (ZO x.1<N+1))=true->Ze (Km N) 0 (Zb Ue (Zq (K5 x.1 x.2.1))) V9 [] (Yc c6k (encL x)):=by
 rintro⟨⟨n,ks⟩,⟨m,ls⟩,⟨⟩⟩ h
 simp only[Bool.and_eq_true,decide_eq_true_eq]at h
 obtain⟨⟨hw,hv⟩,hd⟩:=h
 have hd:ZO (.mk n ks)<N+1:=hd
 rw[ZO]at hd
 have hn:=Fs hw
 rw[<- a4b]
 refine d2y N n ks m ls ?_
 refine Mr (fun k=>ZA (XU fun h=>k (Yj.1 h).1.1)) fun k1=> ?_
 refine d2p (fun k=>ZA (XU fun h=>k (by rw[(Yj.1 h).1.2.1]))) fun k2=> ?_
 refine Mr (fun k=>ZA (XU fun h=>k (Yj.1 h).1.2.2.1)) fun k3=> ?_
 refine CO (fun k=>ZA (XU fun h=>k (by rw[(Yj.1 h).1.2.2.2.2.2.2.1]))) fun k4=> ?_
 refine CO (fun k=>ZA (XU fun h=>k (Jb (Yj.1 h).2))) fun k5=> ?_
 refine d2p (fun k=>ZA (XU fun h=>k (by rw[(Yj.1 h).1.2.2.2.1]))) fun k6=> ?_
 refine a7w hn.dims (Ve (fun k=>ZA (XU fun h=>of_decide_eq_false k (Yj.1 h).1.2.2.2.2.1)) fun k7=> ?_)
 refine a7w hn.data (Ve (fun k=>ZA (XU fun h=>of_decide_eq_false k (Yj.1 h).1.2.2.2.2.2.1)) fun k8=> ?_)
 refine a7w hn.ranks (Ve (fun k=>ZA (XU fun h=>of_decide_eq_false k (Yj.1 h).1.2.2.2.2.2.2.2)) fun k9=> ?_)
 refine a2n N n m ks ls hw hv (by omega) k5 k4 _ n.sizes.length 0 (by omega) ?_
 rw[Bool.eq_iff_iff]
 show K5 (.mk n ks) (.mk m ls)=true ↔ _
 rw[Yj,Bool.and_eq_true,decide_eq_true_eq]
 exact⟨fun h=>⟨h.1.2.2.2.2.2.2.1,h.2⟩,fun h=>⟨⟨k1,stt k2,k3,stt k6,of_decide_eq_true k7,of_decide_eq_true k8,h.1,of_decide_eq_true k9⟩,h.2⟩⟩
theorem b2z(N:Nat)(n m:Nd)(ks ls:List Tm)(hw:tW (.mk n ks)=true)(hv:tW (.mk m ls)=true)(hd:ZY ks<N)(e:ks.length=ls.length)(R:Bool): ∀ (d i:Nat),d+i=ks.length->R=Dh (ks.drop i) (ls.drop i) ->
  At (Tj N) 0 (Zb J5 (Zq R)) Hd 0 36 [(2,.ptr 0 0),(3,.ptr 1 0),(5,.pv (.int .i64 i))] [.obj (.box (Z5 n ks)),.obj (.box (Z5 m ls))]:=by
 intro d
 induction d with
 | zero=>
  intro i hi hR
  rw[List.drop_eq_nil_of_le (by omega),List.drop_eq_nil_of_le (by omega),Dh]at hR
  exact a6z N n ks m ls i (Xu (WO (by omega)) (ZA hR.symm))
 | succ d ih=>
  intro i hi hR
  have h1:i<ks.length:=by omega
  have h2:i<ls.length:=by omega
  have hkl:=(Ym hw).1
  rw[List.drop_eq_getElem_cons h1,List.drop_eq_getElem_cons h2,Dh]at hR
  refine a6z N n ks m ls i (Xt (Wt h1) ⟨ZP h1 rfl,Yg h1 ⟨Vy _,ZP h2 rfl,Yg h2 ⟨Vy _,Zd (ks[i],ls[i],()) (a3k _ _) (Na hw hd (List.getElem_mem h1) ((Ym hv).2 _ (List.getElem_mem h2))),Zh (ks[i],ls[i],()) (a3k _ _) (Ve (fun h=>ZA ?_) fun h=> ?_)⟩⟩⟩)
  ·have h:Sa ks[i] ls[i]=false:=h
   rw[hR,h];rfl
  ·have h:Sa ks[i] ls[i]=true:=h
   rw[next (by omega)]
   exact ih (i+1) (by omega) (by rw[hR,h];rfl)
theorem b9u(N:Nat): ∀ x:Tm×Tm×Unit,((tW x.1&&tW x.2.1)&&decide (ZO x.1<N+1))=true->Ze (Tj N) 0 (Zb J5 (Zq (Sa x.1 x.2.1))) Hd [] (Yc c7x (encL x)):=by
 rintro⟨⟨n,ks⟩,⟨m,ls⟩,⟨⟩⟩ h
 have h0:=h
 simp only[Bool.and_eq_true,decide_eq_true_eq]at h
 obtain⟨⟨hw,hv⟩,hd⟩:=h
 have hd:ZO (.mk n ks)<N+1:=hd
 rw[ZO]at hd
 rw[<- a4b]
 refine d3b N n ks m ls (Mr (fun k=>ZA (XU fun h=>k (by rw[(a0t.1 h).1]))) fun k1=> ?_)
 refine⟨Zd (Tm.mk n ks,Tm.mk m ls,()) (a4b ..) (by simp only[Bool.and_eq_true];exact⟨hw,hv⟩),Zh (Tm.mk n ks,Tm.mk m ls,()) (a4b ..) (Ve (fun k=>ZA (XU fun h=> ?_)) fun k=> ?_)⟩
 ·have k:K5 (.mk n ks) (.mk m ls)=false:=k
  rw[c3x h]at k;exact absurd k (by simp)
 ·have k:K5 (.mk n ks) (.mk m ls)=true:=k
  obtain⟨⟨a1,a2,a3,a4,a5,a6,a7,a8⟩,ak⟩:=Yj.1 k
  have e:n=m:=by cases n;cases m;simp only at *;subst a1 a2 a3 a4 a5 a6 a7 a8 k1;rfl
  refine b2z N n m ks ls hw hv (by omega) (Jb ak) _ ks.length 0 (by omega) ?_
  show Sa (.mk n ks) (.mk m ls)=_
  rw[Sa,decide_eq_true e];rfl
theorem ndT(n:Nd)(ks:List Tm){α:Type}[Enc α](x:α):encL (Tm.mk n ks,x,())=[ndC n ks,enc x]:=by rw[Wh];rfl
theorem c7c: ∀ x:Str×Unit,true=true->Ze d2v 0 (Zb c3k (Zq (vT x.1))) c4t [] (Yc d3x (encL x)):=by
 rintro⟨⟨s⟩,⟨⟩⟩ _
 exact d4o s ⟨by simp,by simp[vT,nd0]⟩
def d3r(s:Str)(a b:Tm):Tm:=.mk {nd0 with kind:=5,name:=s} [a,b]
theorem b3n: ∀ x:Str×Tm×Tm×Unit,true=true->Ze b1b 0 (Zb EP (Zq (d3r x.1 x.2.1 x.2.2.1))) Eo [] (Yc c0o (encL x)):=by
 rintro⟨⟨s⟩,⟨n,ks⟩,⟨m,ls⟩,⟨⟩⟩ _
 rw[show encL ((⟨s⟩:Str),Tm.mk n ks,Tm.mk m ls,())=[.str s,ndC n ks,ndC m ls]from by rw[Wh,Wh];rfl]
 refine c9o s n ks m ls ?_
 rw[Wh,Wh]
 have h:is (List Tm) (.sl 10 false ([Tm.mk n ks,Tm.mk m ls].map enc))=true:=Enc.is_enc [Tm.mk n ks,Tm.mk m ls]
 have h2:(dec (.sl 10 false ([Tm.mk n ks,Tm.mk m ls].map enc)):List Tm)=[Tm.mk n ks,Tm.mk m ls]:=Enc.dec_enc [Tm.mk n ks,Tm.mk m ls]
 refine⟨?_,?_⟩
 ·have:is (List Tm) (.sl 10 false [enc (Tm.mk n ks),enc (Tm.mk m ls)])=true:=h
  simp[this]
 ·have h:is (List Tm) (.sl 10 false [enc (Tm.mk n ks),enc (Tm.mk m ls)])=true:=h
  have h2:(dec (.sl 10 false [enc (Tm.mk n ks),enc (Tm.mk m ls)]):List Tm)=[Tm.mk n ks,Tm.mk m ls]:=h2
  rw[a9a _ _ _ _ _ _ _ _ _ _ h,h2]
  simp[d3r,nd0]
end Go.Pl
namespace Go.Pl
open Go.RowKit
open Enc (enc dec is)
open EncL (encL decL isL)
mutual
theorem M0: ∀ {a b:List Str} (h : ∀ x,x∈a ↔ x∈b) (t:Tm),Xc a t=Xc b t
 | a,b,h,.mk n ks=>by
  rw[Xc,Xc,Sj h]
  simp only[h]
theorem Sj: ∀ {a b:List Str} (h : ∀ x,x∈a ↔ x∈b) (l:Bool) (s:Str) (i:Nat) (ks:List Tm),Xl a l s i ks=Xl b l s i ks
 | a,b,h,l,s,i,[]=>by rw[Xl,Xl]
 | a,b,h,l,s,i,k::ks=>by
  rw[Xl,Xl,Sj h l s (i+1) ks,M0 (a:=if (l&&decide (i=1))=true then s::a else a) (b:=if (l&&decide (i=1))=true then s::b else b) (fun x=>by split <;> simp[h]) k]
end
mutual
theorem JA: ∀ (b:List Str) (t:Tm),(Xc b t).length<=Zy t
 | b,.mk n ks=>by
  have h:=A9 b (Wq n ks.length) n.name 0 ks
  rw[Xc,Zy,List.length_append]
  split
  ·simp only[List.length_singleton];omega
  ·simp only[List.length_nil];omega
theorem A9: ∀ (b:List Str) (l:Bool) (s:Str) (i:Nat) (ks:List Tm),(Xl b l s i ks).length<=Zo ks
 | b,l,s,i,[]=>by rw[Xl,Zo];simp
 | b,l,s,i,k::ks=>by
  have h1:=JA (if (l&&decide (i=1))=true then s::b else b) k
  have h2:=A9 b l s (i+1) ks
  rw[Xl,Zo,List.length_append]
  omega
end
end Go.Pl
namespace Go.Pl
open Go.RowKit
open Enc (enc dec is)
open EncL (encL decL isL)
theorem S9: ∀ (l o:List Str),(l.foldl Y6 o).length<=o.length+l.length
 | [],o=>by simp
 | a::l,o=>by have:=S9 l (Y6 o a);have:=Jp o a;rw[List.foldl_cons,List.length_cons];omega
theorem b0s{N:Nat}{t:Tm}{b g:List Str}(hw:tW t=true)(hd:ZO t<N)(h1:b.length+ZO t<=1048576)(h2:g.length+Zy t<=1048576):Wl N [(.pv (Pn t)),(.map 0),(.map 1)] [(.map (Yb b)),(.map (Yb g))]=true:=by
 rw[OA]
 simp only[Wl,U0,Enc.dec_enc,hw,Vz,decide_eq_true hd,decide_eq_true h1,decide_eq_true h2,Bool.true_and,Bool.and_true,Bool.and_eq_true]
 exact⟨@decide_eq_true _ (_) trivial,@decide_eq_true _ (_) trivial⟩
theorem b1t(N:Nat)(n:Nd)(ks:List Tm)(b:List Str)(hw:tW (.mk n ks)=true)(hd:ZY ks<N)(hb:b.length+ZY ks+1<=1048576)(R:List Str): ∀ (d i:Nat) (g:List Str),d+i=ks.length->g.length+Zo (ks.drop i)<=1048576->R=(Xl b (Wq n ks.length) n.name i (ks.drop i)).foldl Y6 g ->
  At (Vv N) 2 (Ye 2 XT fun r=>r=(.tup [],[.map (Yb b),.map (Yb R)],[])) XP 0 54 [(1,.map 0),(2,.map 1),(3,.ptr 2 0),(23,.pv (enc ks)),(24,.pv (.int .i64 (ks.map (enc:Tm->PV)).length)),(25,.pv (.int .i64 i))] [.obj (.map (Yb b)),.obj (.map (Yb g)),.obj (.box (Z5 n ks))]:=by
 intro d
 induction d with
 | zero=>
  intro i g hi hg hR
  rw[List.drop_eq_nil_of_le (by omega),Xl]at hR
  exact a9i N n ks b g i (Xu (WO (by omega)) (by rw[hR];rfl))
 | succ d ih=>
  intro i g hi hg hR
  have h1:i<ks.length:=by omega
  have hkl:=(Ym hw).1
  have hwk:=(Ym hw).2 _ (List.getElem_mem h1)
  have hdk:=AO (List.getElem_mem h1)
  rw[List.drop_eq_getElem_cons h1,Zo]at hg
  rw[List.drop_eq_getElem_cons h1,Xl,List.foldl_append]at hR
  have go : ∀ bd:List Str,(Xc bd ks[i]=Xc (if (Wq n ks.length&&decide (i=1))=true then n.name::b else b) ks[i])->At (Vv N) 2 (Ye 2 XT fun r=>r=(.tup [],[.map (Yb b),.map (Yb R)],[])) XP 0 54 [(1,.map 0),(2,.map 1),(3,.ptr 2 0),(23,.pv (enc ks)),(24,.pv (.int .i64 (ks.map (enc:Tm->PV)).length)),(25,.pv (.int .i64 (IntKind.i64.wrap ((i:Int)+1))))] [.obj (.map (Yb b)),.obj (.map (Yb ((Xc bd ks[i]).foldl Y6 g))),.obj (.box (Z5 n ks))]:=fun bd e=>by
   rw[next (by omega),e]
   refine ih (i+1) _ (by omega) ?_ hR
   have l1:=S9 (Xc (if (Wq n ks.length&&decide (i=1))=true then n.name::b else b) ks[i]) g
   have l2:=JA (if (Wq n ks.length&&decide (i=1))=true then n.name::b else b) ks[i]
   omega
  have plain:(Wq n ks.length&&decide (i=1))=false->Wl N [(.pv (Pn ks[i])),(.map 0),(.map 1)] [(.map (Yb b)),(.map (Yb g))]=true∧At (Vv N) 2 (Ye 2 XT fun r=>r=(.tup [],[.map (Yb b),.map (Yb R)],[])) XP 0 54 [(1,.map 0),(2,.map 1),(3,.ptr 2 0),(23,.pv (enc ks)),(24,.pv (.int .i64 (ks.map (enc:Tm->PV)).length)),(25,.pv (.int .i64 (IntKind.i64.wrap ((i:Int)+1))))] [.obj (.map (Yb b)),.obj (.map (Yb (List.foldl Y6 (YN (Yb g)) (Xc (YN (Yb b)) (dec (agS ks[i])))))),.obj (.box (Z5 n ks))]:=fun e=>
   ⟨b0s hwk (by omega) (by omega) (by omega),by rw[Vz,Vz,a8a,Enc.dec_enc];exact go b (by rw[e];rfl)⟩
  refine a9i N n ks b g i (Xt (Wt h1) ⟨ZP h1 rfl,Yg h1 ⟨Vy _,Ub (fun k5=>Ub (fun k2=>Ub (fun k1=> ?_) fun k1=> ?_) fun k2=> ?_) fun k5=> ?_⟩⟩)
  ·have e2:ks.length=2:=by rw[List.length_map]at k2;omega
   have e1:i=1:=by omega
   have el:(Wq n ks.length&&decide (i=1))=true:=by unfold Wq;rw[decide_eq_true k5,decide_eq_true e2,decide_eq_true e1];rfl
   have hu:Wd (enc n.name) (.bool true) (Yb b)=Yb (Y6 b n.name):=(J9 b n.name).2
   have:=Jp b n.name
   refine⟨(J9 b n.name).1,?_⟩
   rw[hu,Vz,Vz,a8a,Enc.dec_enc]
   exact⟨b0s hwk (by omega) (by omega) (by omega),go (Y6 b n.name) (M0 (fun x=>by rw[el];simp[CZ,or_comm]) _)⟩
  ·exact plain (by rw[decide_eq_false (show ¬ i=1 by omega),Bool.and_false])
  ·exact plain (by unfold Wq;rw[decide_eq_false (show ¬ ks.length=2 by rw[List.length_map]at k2;omega)];simp)
  ·exact plain (by unfold Wq;rw[decide_eq_false k5];simp)
theorem b8i(b:List Str)(s:Str):VB (enc s) (Yb b)=true∧YE (enc s) (PV.bool false) (Yb b) = .bool (decide (s∈b)):=by
 have key:Gi (enc s) (Yb b)=some (if s∈b then some (PV.bool true)else none):=by
  induction b with
  | nil=>rfl
  | cons a b ih=>
   show(match Qi (enc s) (PV.str a.s)with|some true=>some (some (PV.bool true))|some false=>Gi (enc s) (Yb b)|none=>none)=_
   have e:Qi (enc s:PV) (PV.str a.s)=some (s.s==a.s):=rfl
   rw[e]
   by_cases h:s=a
   ·subst h;simp
   ·have:(s.s==a.s)=false:=by
     rw[beq_eq_false_iff_ne]
     intro e;apply h;cases a;cases s;simp at e;rw[e]
    rw[this]
    show Gi (enc s) (Yb b)=_
    rw[ih]
    simp[h]
 unfold VB YE
 rw[key]
 by_cases h:s∈b
 ·simp[h]
 ·simp[h]
theorem b8v(N:Nat): ∀ args os,Wl (N+1) args os=true->Ze (Vv N) os.length (Ye os.length XT fun r=>r=H8 args os) XP [] (XB c7p args os):=by
 intro args os hp
 unfold Wl at hp
 split at hp
 ·rename_i p es fs
  simp only[Bool.and_eq_true,decide_eq_true_eq]at hp
  obtain⟨h1,hw,h3,h4,h5,h6,h7⟩:=hp
  obtain⟨⟨n,ks⟩,rfl⟩:=TY h1
  rw[Enc.dec_enc]at hw h3 h6 h7
  generalize YN es=b at h4 h6
  generalize YN fs=g at h5 h7
  subst h4 h5
  rw[ZO]at h3 h6
  rw[Zy]at h7
  have key : ∀ g':List Str,g'.length+Zo ks<=1048576->(Xc b (.mk n ks)).foldl Y6 g=(Xl b (Wq n ks.length) n.name 0 ks).foldl Y6 g'->At (Vv N) 2 (Ye 2 XT fun r=>r=(.tup [],[.map (Yb b),.map (Yb ((Xc b (.mk n ks)).foldl Y6 g))],[])) XP 0 54 [(1,.map 0),(2,.map 1),(3,.ptr 2 0),(23,.pv (enc ks)),(24,.pv (.int .i64 (ks.map (enc:Tm->PV)).length)),(25,.pv (.int .i64 0))] [.obj (.map (Yb b)),.obj (.map (Yb g')),.obj (.box (Z5 n ks))]:=fun g' l e=>
   b1t N n ks b hw (by omega) (by omega) _ ks.length 0 g' (by omega) (by simpa using l) (by rw[e];rfl)
  have e:H8 [.pv (enc (Tm.mk n ks)),.map 0,.map 1] [.map (Yb b),.map (Yb g)]=(.tup [],[.map (Yb b),.map (Yb ((Xc b (.mk n ks)).foldl Y6 g))],[]):=by
   simp only[H8,Enc.dec_enc,Vz]
  rw[e,Zw]
  refine d0q N n ks b g (Ub (fun k=> ?_) fun k=>key g (by omega) (by rw[Xc,if_neg (fun h=>k h.1)];rfl))
  obtain⟨l1,l2⟩:=b8i b n.name
  rw[l1,l2]
  refine⟨rfl,Ve (fun k2=> ?_) fun k2=> ?_⟩
  ·have k2:n.name ∉ b:=of_decide_eq_false k2
   have hu:Wd (enc n.name) (.bool true) (Yb g)=Yb (Y6 g n.name):=(J9 g n.name).2
   refine⟨(J9 g n.name).1,?_⟩
   rw[hu]
   refine key (Y6 g n.name) (by have:=Jp g n.name;omega) ?_
   rw[Xc,if_pos ⟨k,k2⟩];rfl
  ·have k2:n.name∈b:=of_decide_eq_true k2
   exact key g (by omega) (by rw[Xc,if_neg (fun h=>h.2 k2)];rfl)
 ·cases hp
noncomputable def Vk:List AV->List AObj->Bool
 | [.pv p,.map 0,.map 1],[.map es,.map fs]=>can Tm p&&(tW (dec p)&&(@decide (es=Yb (YN es)) (Classical.propDecidable _)&&(@decide (fs=Yb (YN fs)) (Classical.propDecidable _)&&(decide ((YN es).length+ZO (dec p:Tm)<=1048576)&&decide ((YN fs).length+Zy (dec p:Tm)<=1048576)))))
 | _,_=>false
def b3o:List AV->List AObj->Nat
 | [.pv p,_,_],_=>ZO (dec p:Tm)
 | _,_=>0
theorem d3e{N:Nat}{args:List AV}{os:List AObj}(h:(Vk args os&&decide (b3o args os<N))=true):Wl N args os=true:=by
 rw[Bool.and_eq_true]at h
 obtain⟨h1,h2⟩:=h
 unfold Vk at h1
 split at h1
 ·simp only[Bool.and_eq_true]at h1
  obtain⟨q1,q2,q3,q4,q5,q6⟩:=h1
  simp only[Wl,Bool.and_eq_true]
  exact⟨q1,q2,h2,q3,q4,q5,q6⟩
 ·cases h1
theorem d2f{N:Nat}{args:List AV}{os:List AObj}(h:Wl N args os=true):(Vk args os&&decide (b3o args os<N))=true:=by
 unfold Wl at h
 split at h
 ·simp only[Bool.and_eq_true]at h
  obtain⟨q1,q2,q3,q4,q5,q6,q7⟩:=h
  rw[Bool.and_eq_true]
  refine⟨?_,q3⟩
  simp only[Vk,Bool.and_eq_true]
  exact⟨q1,q2,q4,q5,q6,q7⟩
 ·cases h
theorem c6c{t:Tm}{b g:List Str}(hw:tW t=true)(h1:b.length+ZO t<=1048576)(h2:g.length+Zy t<=1048576):Vk [(.pv (enc t)),(.map 0),(.map 1)] [(.map (Yb b)),(.map (Yb g))]=true:=by
 simp only[Vk,U0,Enc.dec_enc,hw,Vz,decide_eq_true h1,decide_eq_true h2,Bool.true_and,Bool.and_true,Bool.and_eq_true]
 exact⟨@decide_eq_true _ (_) trivial,@decide_eq_true _ (_) trivial⟩
end Go.Pl
namespace Go.Pl
open Go.RowKit
open Enc (enc dec is)
open EncL (encL decL isL)
set_option maxRecDepth 100000
noncomputable def b2p:IC:=Wo Proofs.Tryz.f20
def b5u:List IRes:=[(.tmp 2)]
abbrev c6w:Nat:=12
noncomputable def c3s:ZC:=YM [(55,.own Vk H8),(57,.own U7 (QY 79)),(56,.own (WV 79) V5)]
theorem d1d{G:PV->Prop}(n:Nd)(ks:List Tm)(h:(Vk [(.pv (.agg [(.int .i64 (Nd.kind n)),(.int .i64 (Nd.line n)),(.str (Str.s (Nd.name n))),(.int .i64 (Nd.num n)),(.str (Str.s (Nd.elem n))),(.sl 1 false (List.map enc (Nd.dims n))),(.sl 1 false (List.map enc (Nd.data n))),(.sl 2 false (List.map enc (Nd.sizes n))),(.sl 1 false (List.map enc (Nd.ranks n))),(.sl 10 false (List.map enc ks))])),(.map 0),(.map 1)] [(.map []),(.map [])])=true∧((WV 79 [(.fn 79 [] [(.ptr 0 0)])] [(.box [(.map 1)]),(.map (Yb (List.foldl Y6 (YN []) (Xc (YN []) (dec (PV.agg [enc (Nd.kind n),enc (Nd.line n),enc (Nd.name n),enc (Nd.num n),enc (Nd.elem n),enc (Nd.dims n),enc (Nd.data n),enc (Nd.sizes n),enc (Nd.ranks n),enc ks]))))))])=true∧(G ((.sl 1 false (List.map PV.str (Y3 (List.map Vj (Yb (List.foldl Y6 (YN []) (Xc (YN []) (dec (PV.agg [enc (Nd.kind n),enc (Nd.line n),enc (Nd.name n),enc (Nd.num n),enc (Nd.elem n),enc (Nd.dims n),enc (Nd.data n),enc (Nd.sizes n),enc (Nd.ranks n),enc ks]))))))))))))):Ze c3s 0 (Zb b5u G) b2p [] (Yc 12 [.agg [enc n.kind,enc n.line,enc n.name,enc n.num,enc n.elem,enc n.dims,enc n.data,enc n.sizes,enc n.ranks,enc ks]]):=Ze.tp (dm [] 8 0x313231) h
end Go.Pl
namespace Go.Pl
open Go.RowKit
open Enc (enc dec is)
open EncL (encL decL isL)
mutual
theorem b4f: ∀ (b:List Str) (t:Tm) (s:Str),s∈Xc b t->s.s.length<=VN t
 | b,.mk n ks,s,h=>by
  rw[Xc]at h
  rw[VN]
  rcases List.mem_append.1 h with h|h
  ·split at h
   ·have:s=n.name:=by simpa using h
    subst this
    unfold wNd;omega
   ·cases h
  ·have:=a0v b (Wq n ks.length) n.name 0 ks s h;omega
theorem a0v: ∀ (b:List Str) (l:Bool) (x:Str) (i:Nat) (ks:List Tm) (s:Str),s∈Xl b l x i ks->s.s.length<=Xg ks
 | b,l,x,i,[],s,h=>by rw[Xl]at h;cases h
 | b,l,x,i,k::ks,s,h=>by
  rw[Xl]at h
  rw[Xg]
  rcases List.mem_append.1 h with h|h
  ·have:=b4f _ k s h;omega
  ·have:=a0v b l x (i+1) ks s h;omega
end
theorem a6e{l:List Str}(h1 : ∀ s∈l,s.s.length<=1048576)(h2:l.length<=1048576):QK (Yb (Ww l))=true:=by
 have h3:(Yb (Ww l)).all c4q=true:=by
  rw[List.all_eq_true]
  intro x hx
  obtain⟨s,hs,rfl⟩:=List.mem_map.1 hx
  rcases (Sr l [] s).1 hs with h|h
  ·cases h
  ·exact decide_eq_true (h1 s h)
 have h4:((Yb (Ww l)).map Vj).Nodup:=by
  have e:(Yb (Ww l)).map Vj=(Ww l).map (·.s):=by unfold Yb;rw[List.map_map];rfl
  rw[e]
  have:=Qz l [] (by simp)
  refine List.Pairwise.map _ (fun a b hab=> ?_) this
  intro he;apply hab;cases a;cases b;simp at he;rw[he]
 have h5:(Yb (Ww l)).length<=1048576:=by
  have:=Gy l []
  unfold Yb
  rw[List.length_map]
  have e:Ww l=l.foldl Y6 []:=rfl
  rw[e]
  simp at this
  omega
 unfold QK
 rw[h3,decide_eq_true h4,decide_eq_true h5];rfl
theorem NS(l:List Str):(PV.sl 1 false (List.map PV.str (Y3 (List.map Vj (Yb (Ww l))))))=enc (Qw l):=by
 have e:(Yb (Ww l)).map Vj=(Ww l).map (·.s):=by unfold Yb;rw[List.map_map];rfl
 rw[e]
 unfold Qw
 show _=PV.sl 1 false (List.map enc (List.map Str.mk _))
 rw[List.map_map]
 rfl
theorem c2g: ∀ x:Tm×Unit,tW x.1=true->Ze c3s 0 (Zb b5u (Zq (X5 x.1))) b2p [] (Yc c6w (encL x)):=by
 rintro⟨⟨n,ks⟩,⟨⟩⟩ hw
 rw[show encL ((Tm.mk n ks,()):Tm×Unit)=[PV.agg [enc n.kind,enc n.line,enc n.name,enc n.num,enc n.elem,enc n.dims,enc n.data,enc n.sizes,enc n.ranks,enc ks]]from by
  show [enc (Tm.mk n ks)]=_
  rw[Zw]]
 have hw:tW (.mk n ks)=true:=hw
 refine d1d n ks ?_
 have hs:=QO hw
 have hW:=of_decide_eq_true hw
 have hd:ZO (.mk n ks)<=1048576:=Nat.le_trans (DY _) hs
 have e:(dec (PV.agg [enc (Nd.kind n),enc (Nd.line n),enc (Nd.name n),enc (Nd.num n),enc (Nd.elem n),enc (Nd.dims n),enc (Nd.data n),enc (Nd.sizes n),enc (Nd.ranks n),enc ks]):Tm) = .mk n ks:=by rw[<- Zw,Enc.dec_enc]
 rw[e]
 refine⟨?_,?_,?_⟩
 ·have:=c6c (t:=.mk n ks) (b:=[]) (g:=[]) hw (by simpa using hd) (by simpa using hs)
  rw[Zw]at this
  exact this
 ·show(79==79&&QK (Yb (Ww (Xc [] (.mk n ks)))))=true
  rw[a6e (fun s h=>by have:=b4f _ _ s h;omega) (by have:=JA [] (.mk n ks);omega)]
  simp
 ·show Zq _ (PV.sl 1 false (List.map PV.str (Y3 (List.map Vj (Yb (Ww (Xc [] (.mk n ks))))))))
  rw[NS]
  exact JP rfl
end Go.Pl
namespace Go.Pl
open Go.RowKit
open Enc (enc dec is)
open EncL (encL decL isL)
set_option maxRecDepth 100000
noncomputable def Jj:IC:=icx KM Proofs.Tryz.f21
def QG:List IRes:=[(.tmp 2)]
abbrev b9n:Nat:=11
noncomputable def UZ:ZC:=YM [(58,.own YX (XY 80))]
theorem c9e{G:PV->Prop}(E:Xn)(n:Nd)(ks:List Tm)(h:(YX [(.pv (.agg [(.int .i64 (Nd.kind n)),(.int .i64 (Nd.line n)),(.str (Str.s (Nd.name n))),(.int .i64 (Nd.num n)),(.str (Str.s (Nd.elem n))),(.sl 1 false (List.map enc (Nd.dims n))),(.sl 1 false (List.map enc (Nd.data n))),(.sl 2 false (List.map enc (Nd.sizes n))),(.sl 1 false (List.map enc (Nd.ranks n))),(.sl 10 false (List.map enc ks))]))] [])=true∧(E 0 ⟨ZU 11 0 [(3,(.ptr 0 0)),(5,(.fn 80 [] [(.ptr 1 0)])),(8,.undef),(9,.undef)],[(.obj (.box [(.pv (.int .i64 0))])),(.obj (.box (Z5 n ks)))]⟩ (fun x S'=>Kj UZ E 0 (Zb QG G) Jj 0 x S'))):ZE UZ E 0 (Zb QG G) (.inl Jj) [] (Yc 11 [.agg [enc n.kind,enc n.line,enc n.name,enc n.num,enc n.elem,enc n.dims,enc n.data,enc n.sizes,enc n.ranks,enc ks]]):=ZE.mp (.req (.keep (.nil))) h
theorem b8b{G:PV->Prop}(E:Xn)(n:Nd)(ks:List Tm)(c:Int)(h:G ((.int .i64 c))):Kj UZ E 0 (Zb QG G) Jj 0 .normal ⟨ZU 11 0 [(3,.ptr 0 0)],[.obj (.box [.pv (.int .i64 c)])]⟩:=ZE.mp (.nil) h
def Js:IC:=.skip
noncomputable def b5z:ZC:=YM [(58,.own YX (XY 80))]
theorem c1c{G:Zm->Prop}(E:Xn)(n:Nd)(ks:List Tm)(c:Int)(v:Int)(h:E 99 ⟨ZU 11 0 [(3,(.ptr 0 0))],[(.obj (.box [(.pv (.int .i64 c))]))]⟩ (fun x S'=>Kj b5z E 1 (fun st=>G st.heap) Js 99 x S')):ZE b5z E 1 (fun st=>G st.heap) (.inl Js) [.seq (.ext 99 [3])] ⟨ZU 11 0 [(3,.ptr 0 0),(6,.pv (.agg [enc n.kind,enc n.line,enc n.name,enc n.num,enc n.elem,enc n.dims,enc n.data,enc n.sizes,enc n.ranks,enc ks])),(7,.pv (.int .i64 v))],[.obj (.box [.pv (.int .i64 c)])]⟩:=ZE.mh (.nil) h
def Jl:IC:=(.block 1 (.reg [ZB 8 (Am [(.int .i64)] (.t 3)) 0,ZB 9 (Dk .add (.t 8) (UH 1)) 0,Al (.store 1 (.t 3) (.t 9)) 0] none))
noncomputable def a9q:ZC:=YM [(58,.own YX (XY 80))]
theorem b6n{G:Zm->Prop}(E:Xn)(n:Nd)(ks:List Tm)(c:Int)(v:Int)(h:E 99 ⟨ZU 11 0 [],[(.obj (.box [(.pv (.int .i64 (IntKind.wrap IntKind.i64 (c+1))))]))]⟩ (fun x S'=>Kj a9q E 1 (fun st=>G st.heap) Jl 99 x S')):ZE a9q E 1 (fun st=>G st.heap) (.inl Jl) [.seq (.ext 99 [])] ⟨ZU 11 0 [(3,.ptr 0 0)],[.obj (.box [.pv (.int .i64 c)])]⟩:=ZE.mh (.lit (.nil)) h
noncomputable def JE:IC:=icx KM Proofs.Tryz.f32
def QT:List IRes:=[(.tmp 2)]
abbrev b7f:Nat:=29
noncomputable def U1:ZC:=YM [(58,.own YX (XY 80)),(57,.own U7 (QY 79)),(56,.own (WV 79) V5)]
theorem c6f{G:PV->Prop}(E:Xn)(n:Nd)(ks:List Tm)(h:(YX [(.pv (.agg [(.int .i64 (Nd.kind n)),(.int .i64 (Nd.line n)),(.str (Str.s (Nd.name n))),(.int .i64 (Nd.num n)),(.str (Str.s (Nd.elem n))),(.sl 1 false (List.map enc (Nd.dims n))),(.sl 1 false (List.map enc (Nd.data n))),(.sl 2 false (List.map enc (Nd.sizes n))),(.sl 1 false (List.map enc (Nd.ranks n))),(.sl 10 false (List.map enc ks))]))] [])=true∧(E 0 ⟨ZU 29 0 [(3,(.ptr 0 0)),(4,.undef),(7,(.fn 80 [] [(.ptr 1 0)])),(8,.undef),(10,.undef),(11,.undef),(12,.undef),(13,.undef),(14,.undef),(15,.undef),(16,.undef),(17,.undef),(18,.undef),(19,.undef),(20,.undef),(21,.undef),(22,.undef),(23,.undef),(24,.undef),(25,.undef)],[(.obj (.box [(.map 2)])),(.obj (.box (Z5 n ks))),(.obj (.map []))]⟩ (fun x S'=>Kj U1 E 0 (Zb QT G) JE 0 x S'))):ZE U1 E 0 (Zb QT G) (.inl JE) [] (Yc 29 [.agg [enc n.kind,enc n.line,enc n.name,enc n.num,enc n.elem,enc n.dims,enc n.data,enc n.sizes,enc n.ranks,enc ks]]):=ZE.mp (.req (.keep (.nil))) h
theorem c2m{G:PV->Prop}(E:Xn)(n:Nd)(ks:List Tm)(m:List Str)(h:(WV 79 [(.fn 79 [] [(.ptr 0 0)])] [(.box [(.map 1)]),(.map (Yb m))])=true∧(G ((.sl 1 false (List.map PV.str (Y3 (List.map Vj (Yb m)))))))):Kj U1 E 0 (Zb QT G) JE 0 .normal ⟨ZU 29 0 [(3,.ptr 0 0)],[.obj (.box [.map 1]),.obj (.map (Yb m))]⟩:=ZE.mp (.lit (.keep (.req (.keep (.nil))))) h
def JF:IC:=(.reg [ZB 4 (.alloc (.agg [(.int .i64 0),(.int .i64 0),(.str []),(.int .i64 0),(.str []),(.sl 0 true []),(.sl 0 true []),(.sl 0 true []),(.sl 0 true []),(.sl 0 true [])])) 0,Al (.store 10 (.t 4) (.t 8)) 1] none)
noncomputable def b5w:ZC:=YM [(58,.own YX (XY 80)),(57,.own U7 (QY 79)),(56,.own (WV 79) V5)]
theorem c0j{G:Zm->Prop}(E:Xn)(n:Nd)(ks:List Tm)(m:List Str)(v:Int)(h:E 99 ⟨ZU 29 0 [(3,(.ptr 0 0)),(4,(.ptr 2 0))],[(.obj (.box [(.map 1)])),(.obj (.map (Yb m))),(.obj (.box (Z5 n ks)))]⟩ (fun x S'=>Kj b5w E 2 (fun st=>G st.heap) JF 99 x S')):ZE b5w E 2 (fun st=>G st.heap) (.inl JF) [.seq (.ext 99 [3,4])] ⟨ZU 29 0 [(3,.ptr 0 0),(8,.pv (.agg [enc n.kind,enc n.line,enc n.name,enc n.num,enc n.elem,enc n.dims,enc n.data,enc n.sizes,enc n.ranks,enc ks])),(9,.pv (.int .i64 v))],[.obj (.box [.map 1]),.obj (.map (Yb m))]⟩:=ZE.mh (.nil) h
def VQ:IC:=(.block 1 (WP [ZB 10 (.faddr 0 (.t 4)) 0,ZB 11 (Am [(.int .i64)] (.t 10)) 0,ZB 12 (Dk .eql (.t 11) (UH 6)) 0,ZB 13 (XX 12) 0,r'' 14 (.faddr 0 (.t 4)) 0 13,r'' 15 (Am [(.int .i64)] (.t 14)) 0 13,r'' 16 (Dk .eql (.t 15) (UH 8)) 0 13,ZB 17 (.pick (.t 13) (.c (.bool true)) (.t 16)) 0,ZB 18 (XX 17) 0,r'' 19 (.faddr 0 (.t 4)) 0 18,r'' 20 (Am [(.int .i64)] (.t 19)) 0 18,r'' 21 (Dk .eql (.t 20) (UH 9)) 0 18,ZB 22 (.pick (.t 18) (.c (.bool true)) (.t 21)) 0] (.cond (.t 22) (.reg [ZB 23 (.load false [.any] (.t 3)) 0,ZB 24 (.faddr 2 (.t 4)) 0,ZB 25 (.load false [.str] (.t 24)) 0,Al (.mapupd true (.t 23) (.t 25) (.c (.bool true))) 0] none) .skip)))
noncomputable def CV:ZC:=YM [(58,.own YX (XY 80)),(57,.own U7 (QY 79)),(56,.own (WV 79) V5)]
theorem b6z{G:Zm->Prop}(E:Xn)(n:Nd)(ks:List Tm)(m:List Str)(v:Int)(h:if (Nd.kind n==6)=true then(VY (enc (Nd.name n)) (PV.bool true) (Yb m))=true∧(E 99 ⟨ZU 29 0 [],[(.obj (.box [(.map 1)])),(.obj (.map (Wd (enc (Nd.name n)) (PV.bool true) (Yb m)))),(.obj (.box (Z5 n ks)))]⟩ (fun x S'=>Kj CV E 3 (fun st=>G st.heap) VQ 99 x S'))else(if (Nd.kind n==8)=true then(VY (enc (Nd.name n)) (PV.bool true) (Yb m))=true∧(E 99 ⟨ZU 29 0 [],[(.obj (.box [(.map 1)])),(.obj (.map (Wd (enc (Nd.name n)) (PV.bool true) (Yb m)))),(.obj (.box (Z5 n ks)))]⟩ (fun x S'=>Kj CV E 3 (fun st=>G st.heap) VQ 99 x S'))else(if (Nd.kind n==9)=true then(VY (enc (Nd.name n)) (PV.bool true) (Yb m))=true∧(E 99 ⟨ZU 29 0 [],[(.obj (.box [(.map 1)])),(.obj (.map (Wd (enc (Nd.name n)) (PV.bool true) (Yb m)))),(.obj (.box (Z5 n ks)))]⟩ (fun x S'=>Kj CV E 3 (fun st=>G st.heap) VQ 99 x S'))else(E 99 ⟨ZU 29 0 [],[(.obj (.box [(.map 1)])),(.obj (.map (Yb m))),(.obj (.box (Z5 n ks)))]⟩ (fun x S'=>Kj CV E 3 (fun st=>G st.heap) VQ 99 x S'))))):ZE CV E 3 (fun st=>G st.heap) (.inl VQ) [.seq (.ext 99 [])] ⟨ZU 29 0 [(3,.ptr 0 0),(4,.ptr 2 0)],[.obj (.box [.map 1]),.obj (.map (Yb m)),.obj (.box [.pv (enc n.kind),.pv (enc n.line),.pv (enc n.name),.pv (enc n.num),.pv (enc n.elem),.pv (enc n.dims),.pv (enc n.data),.pv (enc n.sizes),.pv (enc n.ranks),.pv (enc ks)])]⟩:=ZE.mh (dm [] 41 0x10024222201222200642222012222222200a42) h
end Go.Pl
namespace Go.Pl
open Go.RowKit
open Enc (enc dec is)
open EncL (encL decL isL)
set_option maxRecDepth 100000
abbrev d2n(ps:List PV)(k:Bool->Prop):Prop:=QC (fun(x:Tm×Unit)=>tW (Prod.fst x)) (fun(x:Tm×Unit)=>Gp (Prod.fst x)) ps k
noncomputable def R9:IC:=Wo Proofs.Tryz.f58
def T9:List IRes:=[(.tmp 2)]
abbrev b7z:Nat:=4
def FI:ZC:=YM []
theorem c5j{G:AV×List AObj×List AObj->Prop}(n:Nd)(ks:List Tm)(h:G (((.fn 80 [] [(.ptr 0 0)]),([],[(.box [(.pv (.int .i64 (Nd.kind n))),(.pv (.int .i64 (Nd.line n))),(.pv (.str (Str.s (Nd.name n)))),(.pv (.int .i64 (Nd.num n))),(.pv (.str (Str.s (Nd.elem n)))),(.pv (.sl 1 false (List.map enc (Nd.dims n)))),(.pv (.sl 1 false (List.map enc (Nd.data n)))),(.pv (.sl 2 false (List.map enc (Nd.sizes n)))),(.pv (.sl 1 false (List.map enc (Nd.ranks n)))),(.pv (.sl 10 false (List.map enc ks)))])])))):Ze FI 0 (Ye 0 T9 G) R9 [] (XB 4 [.pv (.agg [enc n.kind,enc n.line,enc n.name,enc n.num,enc n.elem,enc n.dims,enc n.data,enc n.sizes,enc n.ranks,enc ks])] []):=Ze.to (.nil) h
noncomputable def J7:IC:=icx KM Proofs.Tryz.f22
def Kv:List IRes:=[(.cell false 1 2)]
abbrev c5z:Nat:=23
noncomputable def Kq:ZC:=YM [(58,.own YX (XY 80)),(59,.pure (preT (fun x:Tm×Unit=>tW x.1)) (Zj (fun x:Tm×Unit=>Gp x.1)))]
theorem d1w{G:PV->Prop}(E:Xn)(n:Nd)(ks:List Tm)(h:(YX [(.pv (.agg [(.int .i64 (Nd.kind n)),(.int .i64 (Nd.line n)),(.str (Str.s (Nd.name n))),(.int .i64 (Nd.num n)),(.str (Str.s (Nd.elem n))),(.sl 1 false (List.map enc (Nd.dims n))),(.sl 1 false (List.map enc (Nd.data n))),(.sl 2 false (List.map enc (Nd.sizes n))),(.sl 1 false (List.map enc (Nd.ranks n))),(.sl 10 false (List.map enc ks))]))] [])=true∧(E 0 ⟨ZU 23 0 [(2,(.ptr 0 0)),(3,(.ptr 1 0)),(4,.undef),(5,.undef),(7,(.fn 80 [] [(.ptr 2 0)])),(8,.undef),(9,.undef),(10,.undef),(11,.undef),(12,.undef),(13,.undef),(14,.undef),(15,.undef),(16,.undef),(17,.undef),(18,.undef),(19,.undef),(20,.undef),(21,.undef),(22,.undef)],[(.obj (.box [(.pv (.bool false))])),(.obj (.box [(.pv (.int .i64 0))])),(.obj (.box [(.pv (.int .i64 (Nd.kind n))),(.pv (.int .i64 (Nd.line n))),(.pv (.str (Str.s (Nd.name n)))),(.pv (.int .i64 (Nd.num n))),(.pv (.str (Str.s (Nd.elem n)))),(.pv (.sl 1 false (List.map enc (Nd.dims n)))),(.pv (.sl 1 false (List.map enc (Nd.data n)))),(.pv (.sl 2 false (List.map enc (Nd.sizes n)))),(.pv (.sl 1 false (List.map enc (Nd.ranks n)))),(.pv (.sl 10 false (List.map enc ks)))]))]⟩ (fun x S'=>Kj Kq E 0 (Zb Kv G) J7 0 x S'))):ZE Kq E 0 (Zb Kv G) (.inl J7) [] (Yc 23 [.agg [enc n.kind,enc n.line,enc n.name,enc n.num,enc n.elem,enc n.dims,enc n.data,enc n.sizes,enc n.ranks,enc ks]]):=ZE.mp (.req (.keep (.nil))) h
theorem c5k{G:PV->Prop}(E:Xn)(n:Nd)(ks:List Tm)(c:Int)(h:G ((.bool true))):Kj Kq E 0 (Zb Kv G) J7 0 .normal ⟨ZU 23 0 [(2,.ptr 0 0),(3,.ptr 1 0)],[.obj (.box [.pv (.bool false)]),.obj (.box [.pv (.int .i64 c)])]⟩:=ZE.mp (.nil) h
theorem c1l{G:PV->Prop}(E:Xn)(n:Nd)(ks:List Tm)(c:Int)(rest:List Slot)(h:G ((.bool false))):Kj Kq E 0 (Zb Kv G) J7 0 .ret ⟨ZU 23 0 [(2,.ptr 0 0),(3,.ptr 1 0)],(.obj (.box [.pv (.bool false)]):: .obj (.box [.pv (.int .i64 c)])::rest)⟩:=ZE.mp (.nil) h
def BL:IC:=(WP [ZB 4 (.alloc (.agg [(.int .i64 0),(.int .i64 0),(.str []),(.int .i64 0),(.str []),(.sl 0 true []),(.sl 0 true []),(.sl 0 true []),(.sl 0 true []),(.sl 0 true [])])) 0,Al (.store 10 (.t 4) (.t 8)) 1] (.reg [ZB 5 (XX 9) 0] none))
noncomputable def c4l:ZC:=YM [(58,.own YX (XY 80)),(59,.pure (preT (fun x:Tm×Unit=>tW x.1)) (Zj (fun x:Tm×Unit=>Gp x.1)))]
theorem c5v{G:Zm->Prop}(E:Xn)(n:Nd)(ks:List Tm)(c v:Int)(h:E 99 ⟨ZU 23 0 [(2,(.ptr 0 0)),(3,(.ptr 1 0)),(4,(.ptr 2 0)),(5,(.pv (.int .i64 v)))],[(.obj (.box [(.pv (.bool false))])),(.obj (.box [(.pv (.int .i64 c))])),(.obj (.box [(.pv (.int .i64 (Nd.kind n))),(.pv (.int .i64 (Nd.line n))),(.pv (.str (Str.s (Nd.name n)))),(.pv (.int .i64 (Nd.num n))),(.pv (.str (Str.s (Nd.elem n)))),(.pv (.sl 1 false (List.map enc (Nd.dims n)))),(.pv (.sl 1 false (List.map enc (Nd.data n)))),(.pv (.sl 2 false (List.map enc (Nd.sizes n)))),(.pv (.sl 1 false (List.map enc (Nd.ranks n)))),(.pv (.sl 10 false (List.map enc ks)))]))]⟩ (fun x S'=>Kj c4l E 2 (fun st=>G st.heap) BL 99 x S')):ZE c4l E 2 (fun st=>G st.heap) (.inl BL) [.seq (.ext 99 [2,3,4,5])] ⟨ZU 23 0 [(2,.ptr 0 0),(3,.ptr 1 0),(8,.pv (.agg [enc n.kind,enc n.line,enc n.name,enc n.num,enc n.elem,enc n.dims,enc n.data,enc n.sizes,enc n.ranks,enc ks])),(9,.pv (.int .i64 v))],[.obj (.box [.pv (.bool false)]),.obj (.box [.pv (.int .i64 c)])]⟩:=ZE.mh (.nil) h
def Bo:IC:=(.block 1 (WP [ZB 10 (Am [(.int .i64)] (.t 3)) 0,ZB 11 (Dk .add (.t 10) (UH 1)) 0,Al (.store 1 (.t 3) (.t 11)) 0] (WP [ZB 12 (Am [(.int .i64)] (.t 3)) 0,ZB 13 (Dk .gtr (.t 12) (UH 400)) 0,ZB 14 (XX 13) 0,r'' 15 (XX 5) 0 14,r'' 16 (Dk .gtr (.t 15) (UH 40)) 0 14,ZB 17 (.pick (.t 14) (.c (.bool true)) (.t 16)) 0,ZB 18 (XX 17) 0,r'' 19 (.load true [(.int .i64),(.int .i64),.str,(.int .i64),.str,(.sl 1),(.sl 1),(.sl 2),(.sl 1),(.sl 10)] (.t 4)) 0 18,r'' 20 (c'' 59 [(.t 19)]) 0 18,r'' 21 (.un .not (.t 20)) 2 18,ZB 22 (.pick (.t 18) (.c (.bool true)) (.t 21)) 2] (.cond (.t 22) (WP [Al (.store 1 (.t 2) (.c (.bool false))) 0] .ret) .skip))))
noncomputable def c3m:ZC:=YM [(58,.own YX (XY 80)),(59,.pure (preT (fun x:Tm×Unit=>tW x.1)) (Zj (fun x:Tm×Unit=>Gp x.1)))]
theorem c7e{G:Zm->Prop}(E:Xn)(n:Nd)(ks:List Tm)(c v:Int)(h:if (decide (IntKind.wrap IntKind.i64 (c+1)>400))=true then G ([(.obj (.box [(.pv (.bool false))])),(.obj (.box [(.pv (.int .i64 (IntKind.wrap IntKind.i64 (c+1))))])),(.obj (.box [(.pv (.int .i64 (Nd.kind n))),(.pv (.int .i64 (Nd.line n))),(.pv (.str (Str.s (Nd.name n)))),(.pv (.int .i64 (Nd.num n))),(.pv (.str (Str.s (Nd.elem n)))),(.pv (.sl 1 false (List.map enc (Nd.dims n)))),(.pv (.sl 1 false (List.map enc (Nd.data n)))),(.pv (.sl 2 false (List.map enc (Nd.sizes n)))),(.pv (.sl 1 false (List.map enc (Nd.ranks n)))),(.pv (.sl 10 false (List.map enc ks)))])),.fresh,.fresh])else(if (decide (v>40))=true then G ([(.obj (.box [(.pv (.bool false))])),(.obj (.box [(.pv (.int .i64 (IntKind.wrap IntKind.i64 (c+1))))])),(.obj (.box [(.pv (.int .i64 (Nd.kind n))),(.pv (.int .i64 (Nd.line n))),(.pv (.str (Str.s (Nd.name n)))),(.pv (.int .i64 (Nd.num n))),(.pv (.str (Str.s (Nd.elem n)))),(.pv (.sl 1 false (List.map enc (Nd.dims n)))),(.pv (.sl 1 false (List.map enc (Nd.data n)))),(.pv (.sl 2 false (List.map enc (Nd.sizes n)))),(.pv (.sl 1 false (List.map enc (Nd.ranks n)))),(.pv (.sl 10 false (List.map enc ks)))])),.fresh,.fresh])else((d2n [(.agg [(.int .i64 (Nd.kind n)),(.int .i64 (Nd.line n)),(.str (Str.s (Nd.name n))),(.int .i64 (Nd.num n)),(.str (Str.s (Nd.elem n))),(.sl 1 false (List.map enc (Nd.dims n))),(.sl 1 false (List.map enc (Nd.data n))),(.sl 2 false (List.map enc (Nd.sizes n))),(.sl 1 false (List.map enc (Nd.ranks n))),(.sl 10 false (List.map enc ks))])] fun y0=>(if (!y0)=true then G ([(.obj (.box [(.pv (.bool false))])),(.obj (.box [(.pv (.int .i64 (IntKind.wrap IntKind.i64 (c+1))))])),(.obj (.box [(.pv (.int .i64 (Nd.kind n))),(.pv (.int .i64 (Nd.line n))),(.pv (.str (Str.s (Nd.name n)))),(.pv (.int .i64 (Nd.num n))),(.pv (.str (Str.s (Nd.elem n)))),(.pv (.sl 1 false (List.map enc (Nd.dims n)))),(.pv (.sl 1 false (List.map enc (Nd.data n)))),(.pv (.sl 2 false (List.map enc (Nd.sizes n)))),(.pv (.sl 1 false (List.map enc (Nd.ranks n)))),(.pv (.sl 10 false (List.map enc ks)))])),.fresh,.fresh])else(E 99 ⟨ZU 23 0 [],[(.obj (.box [(.pv (.bool false))])),(.obj (.box [(.pv (.int .i64 (IntKind.wrap IntKind.i64 (c+1))))])),(.obj (.box [(.pv (.int .i64 (Nd.kind n))),(.pv (.int .i64 (Nd.line n))),(.pv (.str (Str.s (Nd.name n)))),(.pv (.int .i64 (Nd.num n))),(.pv (.str (Str.s (Nd.elem n)))),(.pv (.sl 1 false (List.map enc (Nd.dims n)))),(.pv (.sl 1 false (List.map enc (Nd.data n)))),(.pv (.sl 2 false (List.map enc (Nd.sizes n)))),(.pv (.sl 1 false (List.map enc (Nd.ranks n)))),(.pv (.sl 10 false (List.map enc ks)))]))]⟩ (fun x S'=>Kj c3m E 3 (fun st=>G st.heap) Bo 99 x S'))))))):ZE c3m E 3 (fun st=>G st.heap) (.inl Bo) [.seq (.ext 99 [])] ⟨ZU 23 0 [(2,.ptr 0 0),(3,.ptr 1 0),(4,.ptr 2 0),(5,.pv (.int .i64 v))],[.obj (.box [.pv (.bool false)]),.obj (.box [.pv (.int .i64 c)]),.obj (.box [.pv (enc n.kind),.pv (enc n.line),.pv (enc n.name),.pv (enc n.num),.pv (enc n.elem),.pv (enc n.dims),.pv (enc n.data),.pv (enc n.sizes),.pv (enc n.ranks),.pv (enc ks)])]⟩:=ZE.mh (dm [dv Bool] 38 0x142251202222005422202222222008422) h
end Go.Pl
namespace Go.Pl
open Go.RowKit
open Enc (enc dec is)
open EncL (encL decL isL)
theorem b9q{s:Str}:(s=⟨[]⟩) ↔ s.s=[]:=by cases s;simp
theorem c0k(n:Nd):Yz n 0 0=Pe n:=by
 unfold Yz Pe
 cases n.sizes <;> cases n.ranks <;> simp <;> omega
theorem c0m(k:Nat):((k:Int)=1) ↔ k=1:=by omega
theorem c1r(k:Nat):((k:Int)=2) ↔ k=2:=by omega
theorem b8u(k:Nat):((1:Int)<=(k:Int)) ↔ 1<=k:=by omega
theorem b0o(k:Nat):((k:Int)<=16) ↔ k<=16:=by omega
theorem a7v(n:Nd):Yz n 1 0=(decide (n.sizes.length<=1)&&n.sizes.all ZJ&&n.ranks.isEmpty):=by
 unfold Yz
 rw[show decide ((n.sizes.length:Int)<=1)=decide (n.sizes.length<=1)from decide_eq_decide.2 (by omega),show decide ((n.ranks.length:Int)<=0)=n.ranks.isEmpty by cases n.ranks <;> simp <;> omega,Bool.and_assoc,Bool.and_assoc,Bool.and_comm n.ranks.isEmpty]
set_option maxHeartbeats 2000000 in
theorem a3c: ∀ x:Tm×Unit,tW x.1=true->Ze RY 0 (Zb Cg (Zq (Gp x.1))) P6 [] (Yc b1e (encL x)):=by
 rintro⟨⟨n,ks⟩,⟨⟩⟩ ht
 rw[<- WG]
 show Ze RY 0 (Zb Cg (Zq (V4 n ks.length))) _ _ _
 have hnm:decide (n.name.s.length<=1048576)=true:=decide_eq_true (Fs ht).name
 have har:a3z (Tz n)=true:=c6n ht
 have leaf : ∀ b:Bool,V4 n ks.length=b->Zq (V4 n ks.length) (.bool b):=fun b h=>ZA h.symm
 refine b9h n ks ?_
 refine XA (fun h1=>leaf _ ?_) fun h1=>XA (fun h2=>leaf _ ?_) fun h2=> ?_
 ·unfold V4;rw[decide_eq_false (by omega)];rfl
 ·unfold V4;rw[decide_eq_false (show ¬ n.line<=10000 by omega)];simp
 have hk:V4 n ks.length=MJ n ks.length:=by
  unfold V4;rw[decide_eq_true (by omega),decide_eq_true (show n.line<=10000 by omega)];simp
 rw[hk]at leaf ⊢
 repeat' (first
  | refine Ub (fun h=> ?_) (fun h=> ?_)
  | refine XA (fun h=> ?_) (fun h=> ?_)
  | refine Vt (fun h=> ?_) (fun h=> ?_)
  | refine⟨Zd (n.name,()) rfl hnm,Zh (n.name,()) rfl ?_⟩
  | refine⟨Zd (.mk n ks,0,0,()) (VD n ks 0 0) ht,Zh (.mk n ks,0,0,()) (VD n ks 0 0) ?_⟩
  | refine⟨Zd (.mk n ks,1,0,()) (VD n ks 1 0) ht,Zh (.mk n ks,1,0,()) (VD n ks 1 0) ?_⟩
  | refine⟨Zd (.mk n ks,()) (WG n ks) ht,Zh (.mk n ks,()) (WG n ks) ?_⟩
  | refine⟨Zd (Tz n,()) rfl har,Zh (Tz n,()) rfl ?_⟩
  | refine leaf _ ?_)
 all_goals clear ht hnm har leaf hk
 all_goals (unfold MJ RF;simp_all[b9q,Tm.nd,Tm.ks,c0k,Tz,c0m,c1r,b8u,b0o,a7v])
 intro hk
 omega
end Go.Pl
namespace Go.Proofs.YtgdebdgkofkeeaaGreatDoor
open Go.RowKit Go.Pl
open Enc (enc dec is)
open EncL (encL decL isL)
set_option maxRecDepth 100000
def ndC(n:Nd)(ks:List Tm):List PV:=[enc n.kind,enc n.line,enc n.name,enc n.num,enc n.elem,enc n.dims,enc n.data,enc n.sizes,enc n.ranks,enc ks]
abbrev wkT:ZC:=YM []
def eW(L:List (Nat×AV)):List AV:=ZU 28 0 L
def wk0(n:Nd)(ks:List Tm)(lev:Int)(l:Nat):List (Nat×AV):=[(0,.pv (.agg (ndC n ks))),(1,.pv (.int .i64 lev)),(2,.yld l)]
def wk1(n:Nd)(ks:List Tm)(lev:Int)(l:Nat):List (Nat×AV):=wk0 n ks lev l++[(3,.ptr 0 0),(6,.pv (.bool false))]
def wk2(n:Nd)(ks:List Tm)(lev:Int)(l:Nat):List (Nat×AV):=wk1 n ks lev l++[(9,.yld l),(10,.pv (.agg (ndC n ks))),(11,.pv (.int .i64 lev))]
def wk3(n:Nd)(ks:List Tm)(lev:Int)(l:Nat)(b:Bool):List (Nat×AV):=wk2 n ks lev l++[(12,.pv (.bool b))]
def wk4(n:Nd)(ks:List Tm)(lev:Int)(l:Nat)(b:Bool):List (Nat×AV):=wk3 n ks lev l b++[(13,.pv (.bool (!b)))]
def wk5(n:Nd)(ks:List Tm)(lev:Int)(l:Nat):List (Nat×AV):=wk4 n ks lev l true++[(14,.ptr 0 9),(15,.pv (enc ks)),(16,.pv (.int .i64 (ks.map enc).length)),(17,.pv (.int .i64 0))]
def wl0(ks:List Tm)(lev:Int)(l:Nat)(i:Int):List (Nat×AV):=[(17,.pv (.int .i64 i)),(16,.pv (.int .i64 (ks.map enc).length)),(15,.pv (enc ks)),(1,.pv (.int .i64 lev)),(2,.yld l)]
def wl1(ks:List Tm)(lev:Int)(l:Nat)(i:Int):List (Nat×AV):=wl0 ks lev l i++[(18,.pv (.bool (decide (i<((ks.map enc).length:Int)))))]
def wl5(ks:List Tm)(lev:Int)(l:Nat)(i:Int)(n:Nd)(kk:List Tm):List (Nat×AV):=wl1 ks lev l i++[(19,.pv (.rptr (ndC n kk))),(20,.pv (.agg (ndC n kk))),(8,.ptr 0 0)]
def wl6(ks:List Tm)(lev:Int)(l:Nat)(i:Int)(n:Nd)(kk:List Tm):List (Nat×AV):=wl5 ks lev l i n kk++[(21,.pv (.agg (ndC n kk))),(22,.pv (.int .i64 lev)),(23,.pv (.int .i64 (IntKind.i64.wrap (lev+1)))),(24,.yld l)]
def wl7(ks:List Tm)(lev:Int)(l:Nat)(i:Int)(b:Bool):List (Nat×AV):=wl0 ks lev l i++[(25,.pv (.bool b))]
def wl8(ks:List Tm)(lev:Int)(l:Nat)(i:Int)(b:Bool):List (Nat×AV):=wl7 ks lev l i b++[(26,.pv (.bool (!b)))]
def wl9(ks:List Tm)(lev:Int)(l:Nat)(i:Int):List (Nat×AV):=[(27,.pv (.int .i64 (IntKind.i64.wrap (i+1)))),(17,.pv (.int .i64 (IntKind.i64.wrap (i+1)))),(16,.pv (.int .i64 (ks.map enc).length)),(15,.pv (enc ks)),(1,.pv (.int .i64 lev)),(2,.yld l)]
def bx(n:Nd)(ks:List Tm):Zm:=[.obj (.box ((ndC n ks).map .pv))]
theorem OQ{T:ZC}{base d L sz:Nat}{env:List AV}{σ:Zm}{x i:IOp}{t:Bool}{xs:List PV}{n:Nat}{k:IntKind}{p:PV}{ps:List PI}(hx:ev env x = .pv (.sl sz t xs))(hi:ev env i = .pv (.int k (n:Int)))(hp:xs[n]? = some p):
  Uh T base (⟨some d,.iaddr sz x i,L,none⟩::ps) ⟨env,σ⟩=Uh T base ps ⟨env.set d (.pv (.rptr p.cells)),σ⟩:=by
 have hlt:n<xs.length:=(List.getElem?_eq_some_iff.1 hp).1
 have hg:xs[n]=p:=(List.getElem?_eq_some_iff.1 hp).2
 have h:(YP T (base+L) env (.iaddr sz x i)).run σ=some (.pv (.rptr p.cells),σ):=by
  simp only[YP,Yy,hx,hi]
  simp[HM.run,hlt,hg]
 show(JY T base ⟨some d,.iaddr sz x i,L,none⟩ ⟨env,σ⟩).bind (Uh T base ps)=_
 simp only[JY,YF,h,Option.map_some,Option.bind_some,Z7]
set_option maxHeartbeats 1000000 in
theorem c8y: ∃ (o0 o1 o2 o3 o4 o5 o6 o7 o8 o9:Array Oper) (a1 b1 a6 b6:List Oper) (y c:Oper) (t1 t2:Array TypeId),
  Tryz.f81.body=some ((Code.region 0 o0 false).seq (((Code.region 1 o1 false).seq (Code.cond (.tmp 13) ((Code.region 2 o2 false).seq .ret) .skip)).seq (((Code.region 3 o3 false).seq (Code.block 0
   (Code.loop ((Code.region 4 o4 false).seq ((Code.cond (.tmp 18) .skip (.exit 0)).seq ((Code.block 1 ((Code.region 5 o5 false).seq ((Code.region 6 o6 false).seq (Code.cond (.tmp 26) ((Code.region 7 o7 false).seq .ret) .skip)))).seq (Code.region 8 o8 false))))))).seq ((Code.region 9 o9 false).seq .ret)))) ∧
  o1.toList=a1++y::b1∧y.op = .call {callee:=.value (.tmp 9),args:=#[.tmp 10,.tmp 11],argTypes:=t1}∧y.guard=none∧y.dst=some 12 ∧
  o6.toList=a6++c::b6∧c.op = .call {callee:=.value (.func 81),args:=#[.tmp 21,.tmp 23,.tmp 24],argTypes:=t2}∧c.guard=none∧c.dst=some 25 ∧
  (∀ n ks lev l,U2 Tryz.prog wkT o0 o0.toList ⟨eW (wk0 n ks lev l),[]⟩=some ⟨eW (wk1 n ks lev l),bx n ks⟩) ∧
  (∀ n ks lev l,U2 Tryz.prog wkT o1 a1 ⟨eW (wk1 n ks lev l),bx n ks⟩=some ⟨eW (wk2 n ks lev l),bx n ks⟩) ∧
  (∀ n ks lev l b,U2 Tryz.prog wkT o1 b1 ⟨eW (wk3 n ks lev l b),bx n ks⟩=some ⟨eW (wk4 n ks lev l b),bx n ks⟩) ∧
  (∀ L,U2 Tryz.prog wkT o2 o2.toList ⟨eW L,[]⟩=some ⟨(eW L).set 6 (.pv (.bool false)),[]⟩) ∧
  (∀ n ks lev l,U2 Tryz.prog wkT o3 o3.toList ⟨eW (wk4 n ks lev l true),bx n ks⟩=some ⟨eW (wk5 n ks lev l),bx n ks⟩) ∧
  (∀ ks lev l i,U2 Tryz.prog wkT o4 o4.toList ⟨eW (wl0 ks lev l i),[]⟩=some ⟨eW (wl1 ks lev l i),[]⟩) ∧
  (∀ ks lev l (i:Nat) n kk,ks[i]? = some (.mk n kk)->U2 Tryz.prog wkT o5 o5.toList ⟨eW (wl1 ks lev l i),[]⟩=some ⟨eW (wl5 ks lev l i n kk),bx n kk⟩) ∧
  (∀ ks lev l i n kk,U2 Tryz.prog wkT o6 a6 ⟨eW (wl5 ks lev l i n kk),bx n kk⟩=some ⟨eW (wl6 ks lev l i n kk),bx n kk⟩) ∧
  (∀ ks lev l i b,U2 Tryz.prog wkT o6 b6 ⟨eW (wl7 ks lev l i b),[]⟩=some ⟨eW (wl8 ks lev l i b),[]⟩) ∧
  (∀ L,U2 Tryz.prog wkT o7 o7.toList ⟨eW L,[]⟩=some ⟨(eW L).set 6 (.pv (.bool false)),[]⟩) ∧
  (∀ ks lev l i,U2 Tryz.prog wkT o8 o8.toList ⟨eW (wl0 ks lev l i),[]⟩=some ⟨eW (wl9 ks lev l i),[]⟩) ∧
  (∀ L,U2 Tryz.prog wkT o9 o9.toList ⟨eW L,[]⟩=some ⟨(eW L).set 6 (.pv (.bool true)),[]⟩):=by
 refine⟨_,_,_,_,_,_,_,_,_,_,[_,_,_],[_],[_,_,_,_],[_],_,_,_,_,rfl,rfl,rfl,rfl,rfl,rfl,rfl,rfl,rfl,?_,?_,?_,?_,?_,?_,?_,?_,?_,?_,?_,?_⟩
 ·intro n ks lev l;kernel_rfl
 ·intro n ks lev l;kernel_rfl
 ·intro n ks lev l b;kernel_rfl
 ·intro L;kernel_rfl
 ·intro n ks lev l;kernel_rfl
 ·intro ks lev l i;kernel_rfl
 ·intro ks lev l i n kk h
  unfold U2
  refine(Option.bind_eq_some_iff).2 ⟨_,(show Yv _ _ _ _=some [⟨some 19,.iaddr 10 (.t 15) (.t 17),0,none⟩,⟨some 20,.load true [.int .i64,.int .i64,.str,.int .i64,.str,.sl 1,.sl 1,.sl 2,.sl 1,.sl 10] (.t 19),0,none⟩,⟨some 8,.alloc (.agg [.int .i64 0,.int .i64 0,.str [],.int .i64 0,.str [],.sl 0 true [],.sl 0 true [],.sl 0 true [],.sl 0 true [],.sl 0 true []]),0,none⟩,⟨none,.store 10 (.t 8) (.t 20),1,none⟩] by kernel_rfl),?_⟩
  have hk:(ks.map (enc:Tm->PV))[i]? = some (.agg (ndC n kk)):=by
   rw[List.getElem?_map,h,Option.map_some,Zw];rfl
  refine(OQ (t:=false) (xs:=ks.map enc) (k:=.i64) (n:=i) rfl rfl hk).trans ?_
  kernel_rfl
 ·intro ks lev l i n kk;kernel_rfl
 ·intro ks lev l i b;kernel_rfl
 ·intro L;kernel_rfl
 ·intro ks lev l i;kernel_rfl
 ·intro L;kernel_rfl
def encNd(x:Tm×Int):List PV:=[enc x.1,.int .i64 x.2]
def FQ(J:Nat->Zl->(Nat->Prop)->World->Prop)(Jx:Zl->(Nat->Prop)->World->Prop)(k:Nat)(Φ:Zl)(X:Nat->Prop)(W:World)(e:Ending)(W':World):Prop:=
 ∃ Φ',Φ.le Φ'∧(∀ b,X b->W'.heap[b]? = W.heap[b]?)∧((e = .returned (.bool true)∧J k Φ' X W')∨(e = .returned (.bool false)∧Jx Φ' X W'))
theorem UQ(a b:List Tm):Zo (a++b)=Zo a+Zo b:=by rw[Ku,Ku,Ku,List.map_append,List.sum_append]
theorem Lf(l:Nat)(a b:List Tm):ZG l (a++b)=ZG l a++ZG l b:=by rw[UU,UU,UU,List.flatMap_append]
theorem F4{ks:List Tm}{k:Tm}(h:k∈ks):Zy k<=Zo ks:=by
 induction ks with
 | nil=>cases h
 | cons a ks ih=>
  rw[Zo]
  rcases List.mem_cons.1 h with rfl|h
  ·omega
  ·have:=ih h;omega
theorem a4d(t:Tm):1<=Zy t:=by cases t;rw[Zy];omega
theorem OL(ks:List Tm):ks.length<=Zo ks:=by
 induction ks with
 | nil=>simp
 | cons a ks ih=>have:=a4d a;rw[Zo,List.length_cons];omega
theorem Jy(n:Nd)(ks:List Tm):L9 (bx n ks):=by
 intro l o h ty sz xs e
 subst e
 match l,h with
 | 0,h=>cases h
 | l+1,h=>simp[bx]at h
theorem Ux:L9 []:=by
 intro l o h
 simp at h
theorem UV{Φ:Zl}{W:World}{a:Act}{env:List AV}(hg:GlobOK Φ)(hp:Z6 Φ W)(he:Yu (fun _ _=>none) Φ a.tmps env)(hd:a.defers=[]):Xh (entry (fun _ _=>none) Φ [] W) ⟨env,[]⟩ a W:=⟨_,Φ,Xi hg hp,he,hd⟩
theorem Wy{μ':Mu}{Φ Φ':Zl}{σ':Zm}{W W':World}{X:Nat->Prop}(j1:Go.Pl.Good (entry (fun _ _=>none) Φ [] W) μ' Φ' σ' W')(hs:L9 σ')(hx : ∀ b,X b->b<W.heap.size∧Φ b=none):
  Go.Pl.Steps X X Φ Φ' W W'∧(∀ b,X b->W'.heap[b]? = W.heap[b]?):=by
 obtain⟨h1,h2,h3⟩:=Tp j1 hs hx
 exact⟨h1.drop fun b h=>.inl h,h2⟩
theorem UM{μ:Mu}{Φ:Zl}{a:Act}{env:List AV}{x:Operand}{y:IOp}{b:Bool}(h:Yu μ Φ a.tmps env)(hx:ZR x=some y)(he:ev env y = .pv (.bool b)):a.eval x = .bool b:=by
 have:=ZF h hx
 rw[he]at this
 generalize a.eval x=v at this ⊢
 cases ZN this
 rfl
theorem c5u{μ:Mu}{Φ:Zl}{a:Act}{env:List AV}{x:Operand}{y:IOp}{k:IntKind}{n:Int}(h:Yu μ Φ a.tmps env)(hx:ZR x=some y)(he:ev env y = .pv (.int k n)):a.eval x = .int k n:=by
 have:=ZF h hx
 rw[he]at this
 generalize a.eval x=v at this ⊢
 cases ZN this
 rfl
theorem F6{μ:Mu}{Φ:Zl}{a:Act}{env:List AV}{x:Operand}{y:IOp}{l:Nat}(h:Yu μ Φ a.tmps env)(hx:ZR x=some y)(he:ev env y = .yld l):a.eval x = .func (.yield l) #[] #[]:=by
 have:=ZF h hx
 rw[he]at this
 generalize a.eval x=v at this ⊢
 cases this
 rfl
theorem a0x{μ:Mu}{Φ:Zl}{a:Act}{env:List AV}{x:Operand}{y:IOp}{p:PV}(h:Yu μ Φ a.tmps env)(hx:ZR x=some y)(he:ev env y = .pv p):RP Φ (a.eval x) p:=by
 have:=ZF h hx
 rw[he]at this
 exact ZN this
theorem c5g{id:Nat}{ops:Array Oper}{b:Bool}{Q:Yp}{a:Act}{w:World}{Φ:Zl}{X:Nat->Prop}{J:Zl->(Nat->Prop)->World->Prop}(hJ:JOK J)(hj:J Φ X w)(hd:a.defers=[])(hsz:a.tmps.size=28)
  (h : ∀ L,U2 Tryz.prog wkT ops ops.toList ⟨eW L,[]⟩=some ⟨(eW L).set 6 (.pv (.bool b)),[]⟩)
  (hQ : ∀ (a':Act) w' Φ',a'.defers=[]->a'.tmps.getD 6 undef = .bool b->Φ.le Φ'->(∀ b,X b->w'.heap[b]? = w.heap[b]?)->J Φ' X w'->Q .ret a' w'):((Code.region id ops false).seq .ret).wpIn (Yl none) 4 Tryz.prog Q a w:=by
 refine wpIn_seq (J4 Zi (h []) (UV (hJ.glob hj) (hJ.phi hj) (RG (L:=[]) (n:=28) hsz (fun p hp=>by cases hp)) hd) ?_)
 rintro a' w' ⟨μ',Φ',hg,he,hd'⟩
 refine wpIn_ret ?_
 obtain⟨s1,s2⟩:=Wy hg Ux (fun b hb=>hJ.out hj hb)
 exact hQ a' w' Φ' hd' (UM (x:=.tmp 6) (y:=.t 6) he rfl (by cases b <;> kernel_rfl)) hg.Φle s2 (hJ.step hj s1)
theorem d1n{Φ:Zl}{v:Value}{n:Nd}{ks:List Tm}{lev:Nat}{l:Nat}(hv:RP Φ v (.agg (ndC n ks))):Yu (fun _ _=>none) Φ (#[v,.int .i64 lev,.func (.yield l) #[] #[]]++Array.replicate 25 undef) (eW (wk0 n ks lev l)):=by
 refine RG (by simp) ?_
 intro q hq u hu
 simp only[wk0,List.mem_cons,List.not_mem_nil,or_false]at hq
 rcases hq with rfl|rfl|rfl
 ·simp[Array.getElem?_append]at hu
  subst hu
  exact .pv _ _ hv
 ·simp[Array.getElem?_append]at hu
  subst hu
  exact .pv _ _ (.int _ _)
 ·simp[Array.getElem?_append]at hu
  subst hu
  exact .yld l
theorem FU{μ:Mu}{Φ:Zl}{t:Array Value}{L:List (Nat×AV)}(h:Yu μ Φ t (eW L)):t.size=28:=(Gl (n:=28) h).1
set_option maxHeartbeats 4000000 in
theorem c0g{l:Nat}{J:Nat->Zl->(Nat->Prop)->World->Prop}{Jx:Zl->(Nat->Prop)->World->Prop}{xs:List (Tm×Int)}(hJok : ∀ k,JOK (J k))(hJxok:JOK Jx)(hY:Ez Tryz.prog l encNd xs J Jx):
  ∀ (m:Nat) (t:Tm),SizeOf.sizeOf t<m-> ∀ (lev k:Nat) (Φ:Zl) (X:Nat->Prop) (W:World) (v:Value),J k Φ X W->RP Φ v (enc t)->(∀ i x,(Zv lev t)[i]? = some x->xs[k+i]? = some x)->lev+Zy t<=4611686018427387904 ->
   Calls Tryz.prog 81 #[v,.int .i64 lev,.func (.yield l) #[] #[]] W (FQ J Jx (k+Zy t) Φ X W):=by
 intro m
 induction m with
 | zero=>intro t h;omega
 | succ m ih=>
  intro t ht lev k Φ X W v hj hv hx hlev
  obtain⟨n,ks⟩:=t
  obtain⟨o0,o1,o2,o3,o4,o5,o6,o7,o8,o9,a1,b1,a6,b6,y,c,t1,t2,hbody,e1,y1,y2,y3,e6,c1,c2,c3,h0,h1,h1b,h2,h3,h4,h5,h6,h6b,h7,h8,h9⟩:=c8y
  rw[Zw]at hv
  refine callsIn_wide.1 (callsIn_of_wp (F:=Fence.wide) (n:=4) Tryz.func81 hbody trivial ?_ rfl)
  have hE0:Yu (fun _ _=>none) Φ (#[v,.int .i64 lev,.func (.yield l) #[] #[]]++Array.replicate 25 undef) (eW (wk0 n ks lev l)):=d1n hv
  have hX0 : ∀ b,X b->b<W.heap.size∧Φ b=none:=fun b hb=>(hJok k).out hj hb
  refine wpIn_seq (J4 (nn:=4) Zi (h0 n ks lev l) (UV ((hJok k).glob hj) ((hJok k).phi hj) hE0 rfl) ?_)
  intro a w hr
  refine wpIn_seq (wpIn_seq (wpIn_region_list ?_))
  rw[e1]
  refine KP Zi (fun o ho=>by rw[e1];simp[ho]) (h1 n ks lev l) hr ?_
  rintro a2 w2 ⟨μ2,Φ2,hg2,he2,hd2⟩
  obtain⟨s2,k2,n2⟩:=Tp hg2 (Jy n ks) hX0
  have hj2:=(hJok k).step hj s2
  have hx0:xs[k]? = some (.mk n ks,(lev:Int)):=hx 0 _ (by rw[Zv];rfl)
  have r10:RP Φ2 (a2.eval (.tmp 10)) (enc (Tm.mk n ks)):=by
   rw[Zw]
   exact a0x he2 (y:=.t 10) rfl (by kernel_rfl)
  have r11:RP Φ2 (a2.eval (.tmp 11)) (.int .i64 lev):=a0x he2 (y:=.t 11) rfl (by kernel_rfl)
  have hvs:Y9 Φ2 (#[a2.eval (.tmp 10),a2.eval (.tmp 11)]:Array Value).toList (encNd (.mk n ks,(lev:Int))):=a8j r10 (a8j r11 a0j)
  refine b5f y1 y2 y3 (F6 he2 (y:=.t 9) rfl (by kernel_rfl)) (vs:=#[a2.eval (.tmp 10),a2.eval (.tmp 11)]) (by simp) (hY 3 k _ Φ2 _ w2 _ hx0 hj2 hvs) ?_
  rintro e w3 ⟨Φ3,hle3,hkeep3,hres⟩
  -- both answers
  have both : ∀ (b:Bool) (JJ:Zl->(Nat->Prop)->World->Prop),JOK JJ->JJ Φ3 (fun b=>X b∨Gw μ2 (bx n ks) b) w3-> 
    Xh (entry μ2 Φ3 (bx n ks) w3) ⟨eW (wk3 n ks lev l b),bx n ks⟩ (a2.put (some 12) (.bool b)) w3:=by
   intro b JJ hJJ hjj
   refine⟨μ2,Φ3,hg2.moved (hJJ.glob hjj) hle3 (hJJ.phi hjj) (fun q hq=>hkeep3 q (.inr hq)) (fun q hq=>(hJJ.out hjj (.inr hq)).2) (Jy n ks),?_,by rw[Xo];exact hd2⟩
   have:=UK (d:=some 12) (he2.mono (.refl _) hle3) (.pv _ _ (.bool b))
   exact this
  have fin : ∀ (b:Bool) (a':Act) (w':World) (Φ':Zl),a'.defers=[]->a'.tmps.getD 6 undef = .bool b->(FQ J Jx (k+Zy (.mk n ks)) Φ X W (.returned (.bool b)) w')->bodyPost Tryz.prog Tryz.f81 (FQ J Jx (k+Zy (.mk n ks)) Φ X W) .ret a' w':=by
   intro b a' w' Φ' hd h6 hp
   refine bodyPost_ret (results_tmp rfl _ _ _) hd ?_
   rw[h6]
   exact hp
  rcases hres with ⟨rfl,hj3⟩|⟨rfl,hj3⟩
  ·refine⟨_,rfl,?_⟩
   rw[<- List.append_nil b1]
   refine KP Zi (fun o ho=>by rw[e1];simp[ho]) (h1b n ks lev l true) (both true _ (hJok _) hj3) ?_
   intro a4 w4 hr4
   have he4:=hr4
   obtain⟨μ4,Φ4,hg4,he4,hd4⟩:=he4
   refine wpIn_cond (t:=false) (UM (x:=.tmp 13) (y:=.t 13) he4 rfl (by kernel_rfl)) (wpIn_skip ?_)
   refine wpIn_seq (wpIn_seq (J4 (nn:=4) Zi (h3 n ks lev l) hr4 ?_))
   rintro a5 w5 ⟨μ5,Φ5,hg5,he5,hd5⟩
   have hX3 : ∀ b,X b->b<w3.heap.size∧Φ3 b=none:=fun b hb=>(hJok _).out hj3 (.inl hb)
   obtain⟨s5,k5⟩:=Hz hg5 (Jy n ks) hX3 n2
   have hj5:=(hJok _).step hj3 (s5.drop (Y:=X) fun b h=>.inl h)
   have hk5 : ∀ b,X b->w5.heap[b]? = W.heap[b]? :=fun b hb=>(k5 b hb).trans ((hkeep3 b (.inl hb)).trans (k2 b hb))
   have hle5:Φ.le Φ5:=hg2.Φle.trans (hle3.trans hg5.Φle)
   have he5':Yu (fun _ _=>none) Φ5 a5.tmps (eW (wl0 ks lev l 0)):=b7s (n:=28) he5 (.refl _) (by
    intro p hp
    simp only[wl0,List.mem_cons,List.not_mem_nil,or_false]at hp
    rcases hp with rfl|rfl|rfl|rfl|rfl <;> exact⟨by simp,rfl,rfl⟩)
   clear both hr4 hg4 he4 hd4 hE0 hr hg2 he2 hd2 r10 r11 hvs
   refine wpIn_block (wpIn_loop_ghost (fun(z:Nat) (a:Act) (w:World)=> ∃ (i:Nat) (Φ':Zl),z=ks.length - i∧i<=ks.length∧Φ.le Φ'∧(∀ b,X b->w.heap[b]? = W.heap[b]?)∧J (k+1+Zo (ks.take i)) Φ' X w∧Yu (fun _ _=>none) Φ' a.tmps (eW (wl0 ks lev l i))∧a.defers=[]) _
    ⟨0,Φ5,rfl,Nat.zero_le _,hle5,hk5,hj5,he5',hd5⟩ ?_)
   clear hj5 hk5 hle5 he5' hd5 s5 k5 hg5 he5
   rintro z a w ⟨i,Φi,rfl,hi,hle,hk,hj,he,hd⟩
   have hXi : ∀ b,X b->b<w.heap.size∧Φi b=none:=fun b hb=>(hJok _).out hj hb
   refine wpIn_seq (J4 (nn:=4) Zi (h4 ks lev l i) (UV ((hJok _).glob hj) ((hJok _).phi hj) he hd) ?_)
   intro a7 w7 hr7
   have hr7':=hr7
   obtain⟨μ7,Φ7,hg7,he7,hd7⟩:=hr7'
   by_cases hlt:i<ks.length
   ·have hb:decide ((i:Int)<((ks.map (enc:Tm->PV)).length:Int))=true:=by simpa using hlt
    refine wpIn_seq (wpIn_cond (t:=true) (UM (x:=.tmp 18) (y:=.t 18) he7 rfl (by rw[<- hb];kernel_rfl)) (wpIn_skip ?_))
    obtain⟨kn,kk,hkk⟩ : ∃ kn kk,ks[i]? = some (.mk kn kk):=by
     cases hki:ks[i]with
     | mk kn kk=>exact⟨kn,kk,by rw[List.getElem?_eq_getElem hlt,hki]⟩
    refine wpIn_seq (wpIn_block (wpIn_seq (J4 (nn:=4) Zi (h5 ks lev l i kn kk hkk) hr7 ?_)))
    intro a8 w8 hr8
    refine wpIn_seq (wpIn_region_list ?_)
    rw[e6]
    refine KP Zi (fun o ho=>by rw[e6];simp[ho]) (h6 ks lev l i kn kk) hr8 ?_
    rintro a9 w9 ⟨μ9,Φ9,hg9,he9,hd9⟩
    obtain⟨s9,k9⟩:=Wy hg9 (Jy kn kk) hXi
    have hj9:=(hJok _).step hj s9
    have hmem:Tm.mk kn kk∈ks:=List.mem_of_getElem? hkk
    have hsz:=Oe (n:=n) hmem
    have hdm:=F4 hmem
    have hdp:Zy (.mk n ks)=Zo ks+1:=by rw[Zy]
    have hkl:=OL ks
    have hcut:ks=ks.take i++(.mk kn kk)::ks.drop (i+1):=by
     have h:=List.getElem?_eq_some_iff.1 hkk
     obtain⟨h1,h2⟩:=h
     rw[<- h2,List.getElem_cons_drop,List.take_append_drop]
    have r21:RP Φ9 (a9.eval (.tmp 21)) (enc (Tm.mk kn kk)):=by
     rw[Zw]
     exact a0x he9 (y:=.t 21) rfl (by kernel_rfl)
    have e23:a9.eval (.tmp 23) = .int .i64 ((lev+1:Nat):Int):=by
     have:=c5u (x:=.tmp 23) (y:=.t 23) he9 rfl (by kernel_rfl:_=AV.pv (.int .i64 (IntKind.i64.wrap ((lev:Int)+1))))
     rw[this,next (by omega)]
    have e24:a9.eval (.tmp 24) = .func (.yield l) #[] #[]:=F6 he9 (y:=.t 24) rfl (by kernel_rfl)
    have hxk : ∀ j x,(Zv (lev+1) (.mk kn kk))[j]? = some x->xs[k+1+Zo (ks.take i)+j]? = some x:=by
     intro j x hjx
     have:(Zv lev (.mk n ks))[1+Zo (ks.take i)+j]? = some x:=by
      rw[Zv,show 1+Zo (ks.take i)+j=(Zo (ks.take i)+j)+1 by omega,List.getElem?_cons_succ,hcut,Lf,ZG,<- hcut,<- KV (lev+1) (ks.take i),
       List.getElem?_append_right (by omega),Nat.add_sub_cancel_left,List.getElem?_append_left (List.getElem?_eq_some_iff.1 hjx).1,hjx]
     have:=hx _ _ this
     rw[<- this]
     congr 1
     omega
    have hcall:=ih (.mk kn kk) (by omega) (lev+1) (k+1+Zo (ks.take i)) Φ9 X w9 _ hj9 r21 hxk (by omega)
    refine Li c1 c2 c3 Tryz.func81 rfl (by kernel_rfl) (vs:=#[a9.eval (.tmp 21),.int .i64 ((lev+1:Nat):Int),.func (.yield l) #[] #[]]) (by simp only[List.map_toArray,List.map_cons,List.map_nil,e23,e24]) hcall ?_
    rintro e w10 ⟨Φ10,hle10,hkeep10,hres⟩
    have hks : ∀ b,X b->w10.heap[b]? = W.heap[b]? :=fun b hb=>(hkeep10 b hb).trans ((k9 b hb).trans (hk b hb))
    have he10 : ∀ b,Yu (fun _ _=>none) Φ10 (a9.put (some 25) (.bool b)).tmps (eW (wl7 ks lev l i b)):=by
     intro b
     have h:=UK (d:=some 25) (he9.mono (.refl _) hle10) (.pv _ _ (.bool b))
     refine b7s (n:=28) (L:=wl6 ks lev l i kn kk++[(25,.pv (.bool b))]) h (.refl _) ?_
     intro p hp
     simp only[wl7,wl0,List.mem_cons,List.mem_append,List.not_mem_nil,or_false]at hp
     rcases hp with (rfl|rfl|rfl|rfl|rfl)|rfl <;> exact⟨by simp,rfl,rfl⟩
    have hsz10:ks.take (i+1)=ks.take i++[.mk kn kk]:=by rw[List.take_add_one,hkk];rfl
    rcases hres with ⟨rfl,hj10⟩|⟨rfl,hj10⟩
    ·refine⟨_,rfl,?_⟩
     rw[<- List.append_nil b6]
     refine KP Zi (fun o ho=>by rw[e6];simp[ho]) (h6b ks lev l i true) (UV ((hJok _).glob hj10) ((hJok _).phi hj10) (he10 true) (by rw[Xo];exact hd9)) ?_
     intro a11 w11 hr11
     obtain⟨μ11,Φ11,hg11,he11,hd11⟩:=hr11
     obtain⟨s11,k11⟩:=Wy hg11 Ux (fun b hb=>(hJok _).out hj10 hb)
     have hj11:=(hJok _).step hj10 s11
     refine wpIn_cond (t:=false) (UM (x:=.tmp 26) (y:=.t 26) he11 rfl (by kernel_rfl)) (wpIn_skip ?_)
     have he11':Yu (fun _ _=>none) Φ11 a11.tmps (eW (wl0 ks lev l i)):=b7s (n:=28) he11 (.refl _) (by
      intro p hp
      simp only[wl0,List.mem_cons,List.not_mem_nil,or_false]at hp
      rcases hp with rfl|rfl|rfl|rfl|rfl <;> exact⟨by simp,rfl,rfl⟩)
     refine J4 (nn:=4) Zi (h8 ks lev l i) (UV ((hJok _).glob hj11) ((hJok _).phi hj11) he11' hd11) ?_
     rintro a12 w12 ⟨μ12,Φ12,hg12,he12,hd12⟩
     obtain⟨s12,k12⟩:=Wy hg12 Ux (fun b hb=>(hJok _).out hj11 hb)
     have hj12:=(hJok _).step hj11 s12
     refine⟨ks.length - (i+1),by omega,i+1,Φ12,rfl,hlt,hle.trans (hg9.Φle.trans (hle10.trans (hg11.Φle.trans hg12.Φle))),fun b hb=>(k12 b hb).trans ((k11 b hb).trans (hks b hb)),?_,?_,hd12⟩
     ·rw[hsz10,UQ,Zo,Zo,Nat.add_zero,<- Nat.add_assoc]
      exact hj12
     ·refine b7s (n:=28) he12 (.refl _) ?_
      intro p hp
      simp only[wl0,List.mem_cons,List.not_mem_nil,or_false]at hp
      rcases hp with rfl|rfl|rfl|rfl|rfl
      ·exact⟨by simp,by rw[<- next (show i<9223372036854775807 by omega)];rfl,rfl⟩
      all_goals exact⟨by simp,rfl,rfl⟩
    ·refine⟨_,rfl,?_⟩
     rw[<- List.append_nil b6]
     refine KP Zi (fun o ho=>by rw[e6];simp[ho]) (h6b ks lev l i false) (UV (hJxok.glob hj10) (hJxok.phi hj10) (he10 false) (by rw[Xo];exact hd9)) ?_
     rintro a11 w11 ⟨μ11,Φ11,hg11,he11,hd11⟩
     obtain⟨s11,k11⟩:=Wy hg11 Ux (fun b hb=>hJxok.out hj10 hb)
     have hj11:=hJxok.step hj10 s11
     refine wpIn_cond (t:=true) (UM (x:=.tmp 26) (y:=.t 26) he11 rfl (by kernel_rfl)) ?_
     refine c5g hJxok hj11 hd11 (FU he11) h7 ?_
     intro a' w' Φ' hd' h6' hle' hk' hj'
     refine fin false a' w' Φ' hd' h6' ⟨Φ',?_,fun b hb=>(hk' b hb).trans ((k11 b hb).trans (hks b hb)),.inr ⟨rfl,hj'⟩⟩
     exact hle.trans (hg9.Φle.trans (hle10.trans (hg11.Φle.trans hle')))
   ·have hb:decide ((i:Int)<((ks.map (enc:Tm->PV)).length:Int))=false:=by simpa using hlt
    refine wpIn_seq (wpIn_cond (t:=false) (UM (x:=.tmp 18) (y:=.t 18) he7 rfl (by rw[<- hb];kernel_rfl)) (wpIn_exit ?_))
    obtain⟨s7,k7⟩:=Wy hg7 Ux hXi
    have hj7:=(hJok _).step hj s7
    have hii:i=ks.length:=by omega
    subst hii
    rw[List.take_length]at hj7
    show((Code.region 9 o9 false).seq .ret).wpIn _ _ _ _ _ _
    refine c5g (hJok _) hj7 hd7 (FU he7) h9 ?_
    intro a' w' Φ' hd' h6' hle' hk' hj'
    refine fin true a' w' Φ' hd' h6' ⟨Φ',hle.trans (hg7.Φle.trans hle'),fun b hb=>(hk' b hb).trans ((k7 b hb).trans (hk b hb)),.inl ⟨rfl,?_⟩⟩
    rw[Zy,show k+(Zo ks+1)=k+1+Zo ks by omega]
    exact hj'
  ·refine⟨_,rfl,?_⟩
   rw[<- List.append_nil b1]
   refine KP Zi (fun o ho=>by rw[e1];simp[ho]) (h1b n ks lev l false) (both false _ hJxok hj3) ?_
   rintro a4 w4 ⟨μ4,Φ4,hg4,he4,hd4⟩
   refine wpIn_cond (t:=true) (UM (x:=.tmp 13) (y:=.t 13) he4 rfl (by kernel_rfl)) ?_
   obtain⟨s4,k4⟩:=Hz hg4 (Jy n ks) (fun b hb=>hJxok.out hj3 (.inl hb)) n2
   have hj4:=hJxok.step hj3 (s4.drop (Y:=X) fun b h=>.inl h)
   refine c5g hJxok hj4 hd4 (FU he4) h2 ?_
   intro a' w' Φ' hd' h6' hle' hk' hj'
   exact fin false a' w' Φ' hd' h6' ⟨Φ',hg2.Φle.trans (hle3.trans (hg4.Φle.trans hle')),fun b hb=>(hk' b hb).trans ((k4 b hb).trans ((hkeep3 b (.inl hb)).trans (k2 b hb))),.inr ⟨rfl,hj'⟩⟩
def c9y(pss:List (List PV)):Tm:=match pss with
 | [ps]=>dec (.agg ps)
 | _=>.mk nd0 []
noncomputable def pre_ndI(pss:List (List PV)):Bool:=match pss with
 | [ps]=>can Tm (.agg ps)&&decide (Zy (dec (.agg ps))<=1048576)
 | _=>false
def F_ndI(pss:List (List PV)):List (Tm×Int):=Zv 1 (c9y pss)
theorem tmOf_nd(n:Nd)(ks:List Tm):c9y [ndC n ks] = .mk n ks:=by
 show dec (PV.agg (ndC n ks))=_
 rw[show(PV.agg (ndC n ks))=enc (Tm.mk n ks)from(Zw n ks).symm,Enc.dec_enc]
theorem pre_nd{n:Nd}{ks:List Tm}(h:Zy (.mk n ks)<=1048576):pre_ndI [ndC n ks]=true:=by
 show(can Tm (.agg (ndC n ks))&&decide (Zy (dec (PV.agg (ndC n ks)))<=1048576))=true
 rw[show(PV.agg (ndC n ks))=enc (Tm.mk n ks)from(Zw n ks).symm,Enc.dec_enc,U0,Bool.true_and]
 exact decide_eq_true h
theorem c5x: ∃ (o:Array Oper) (a:List Oper) (c:Oper) (t:Array TypeId),Tryz.f80.body=some (.region 0 o false)∧o.toList=a++[c] ∧
  c.op = .call {callee:=.value (.func 81),args:=#[.tmp 3,.const (.int .i64 1),.tmp 4],argTypes:=t}∧c.guard=none∧c.dst=some 5 ∧
  ∀ n ks l,U2 Tryz.prog wkT o a ⟨ZU 6 0 [(0,.yld l),(1,.pv (.rptr (ndC n ks)))],[]⟩=some ⟨ZU 6 0 [(0,.yld l),(1,.pv (.rptr (ndC n ks))),(3,.pv (.agg (ndC n ks))),(4,.yld l)],[]⟩:=by
 refine⟨_,[_,_],_,_,rfl,rfl,rfl,rfl,rfl,?_⟩
 intro n ks l
 kernel_rfl
set_option maxHeartbeats 1000000 in
theorem BN:b2g Tryz.prog 80 encNd pre_ndI F_ndI:=by
 refine⟨⟨_,Tryz.func80,rfl,rfl⟩,?_⟩
 intro pss hpre Φ0 lb l J Jx W hcaps hJok hJxok hY h0
 unfold pre_ndI at hpre
 split at hpre
 ·rename_i ps
  simp only[Bool.and_eq_true,decide_eq_true_eq]at hpre
  obtain⟨hc,hsz⟩:=hpre
  obtain⟨t,ht⟩:=TY hc
  obtain⟨n,ks⟩:=t
  rw[ht,Enc.dec_enc]at hsz
  rw[Zw]at ht
  obtain rfl:ps=ndC n ks:=by injection ht
  have hF:F_ndI [ndC n ks]=Zv 1 (.mk n ks):=by unfold F_ndI;rw[tmOf_nd]
  rw[hF]at hY ⊢
  obtain⟨lb⟩:=lb
  match lb,hcaps.1 with
  | [p1],_=>
   obtain⟨B1,c1,rfl,g1,r1,o1⟩:=hcaps.2 0 p1 _ rfl rfl
   have k1:=a5o g1 r1 o1
   obtain⟨o,a,c,t,hbody,e1,c1,c2,c3,hgo⟩:=c5x
   refine callsIn_wide.1 (callsIn_of_wp (F:=Fence.wide) (n:=4) Tryz.func80 hbody trivial ?_ rfl)
   have hE:Yu (fun _ _=>none) Φ0 ((#[Value.func (.yield l) #[] #[]]++ #[Value.pointer (some ⟨B1,0,none⟩)])++Array.replicate 4 undef) (ZU 6 0 [(0,.yld l),(1,.pv (.rptr (ndC n ks)))]):=by
    refine RG (by simp) ?_
    intro q hq u hu
    simp only[List.mem_cons,List.not_mem_nil,or_false]at hq
    rcases hq with rfl|rfl
    ·simp[Array.getElem?_append]at hu
     subst hu
     exact .yld l
    ·simp[Array.getElem?_append]at hu
     subst hu
     exact .pv _ _ k1
   refine wpIn_region_list ?_
   rw[e1]
   refine KP (nn:=4) Zi (fun x hx=>by rw[e1];simp[hx]) (hgo n ks l) (UV ((hJok 0).glob h0) ((hJok 0).phi h0) hE rfl) ?_
   rintro a2 w2 ⟨μ2,Φ2,hg2,he2,hd2⟩
   obtain⟨s2,k2⟩:=Wy (X:=fun _=>False) hg2 Ux (fun b hb=>hb.elim)
   have hj2:=(hJok _).step h0 s2
   have r3:RP Φ2 (a2.eval (.tmp 3)) (enc (Tm.mk n ks)):=by
    rw[Zw]
    exact a0x he2 (y:=.t 3) rfl (by kernel_rfl)
   have e4:a2.eval (.tmp 4) = .func (.yield l) #[] #[]:=F6 he2 (y:=.t 4) rfl (by kernel_rfl)
   have hcall:=c0g hJok hJxok hY (SizeOf.sizeOf (Tm.mk n ks)+1) (.mk n ks) (Nat.lt_succ_self _) 1 0 Φ2 _ w2 _ hj2 r3 (fun i x h=>by rw[Nat.zero_add];exact h) (by omega)
   refine Li c1 c2 c3 Tryz.func81 rfl (by kernel_rfl) (vs:=#[a2.eval (.tmp 3),.int .i64 ((1:Nat):Int),.func (.yield l) #[] #[]]) (by simp only[List.map_toArray,List.map_cons,List.map_nil,e4];rfl) hcall ?_
   rintro e w3 ⟨Φ3,hle3,hkeep3,hres⟩
   have fin : ∀ v,(∃ Φ' X',J (Zv 1 (.mk n ks)).length Φ' X' w3∨Jx Φ' X' w3)->wpListIn (Yl none) 4 Tryz.prog o (bodyPost Tryz.prog Tryz.f80 fun e W'=>(∃ v,e = .returned v)∧ ∃ Φ' X',(J (Zv 1 (.mk n ks)).length Φ' X' W'∨Jx Φ' X' W')) [] (a2.put (some 5) v) w3:=by
    intro v hv
    exact⟨by rw[Xo];exact hd2,_,results_none rfl _ _ _,⟨_,rfl⟩,hv⟩
   rcases hres with ⟨rfl,hj3⟩|⟨rfl,hj3⟩
   ·refine⟨_,rfl,fin _ ⟨Φ3,fun _=>False,.inl ?_⟩⟩
    rw[WF,<- Nat.zero_add (Zy _)]
    exact hj3
   ·exact⟨_,rfl,fin _ ⟨Φ3,_,.inr hj3⟩⟩
 ·cases hpre
end Go.Proofs.YtgdebdgkofkeeaaGreatDoor
namespace Go.Pl
open Go.RowKit
open Enc (enc dec is)
open EncL (encL decL isL)
open Go.Proofs.YtgdebdgkofkeeaaGreatDoor (encNd pre_ndI F_ndI tmOf_nd pre_nd)
theorem b2f: ∀ args os,YX args os=true->Ze FI os.length (Ye os.length T9 fun r=>r=XY 80 args os) R9 [] (XB b7z args os):=by
 intro args os h
 unfold YX at h
 split at h
 ·obtain⟨⟨n,ks⟩,rfl⟩:=TY h
  rw[Zw]
  exact c5j n ks rfl
 ·cases h
def tvI(t:Tm)(k:Nat)(σ:Zm):Prop:=(∀ j p,j<k->(Zv 1 t)[j]? = some p->okN j p=true)∧k<=400∧σ=[.obj (.box [.pv (.bool false)]),.obj (.box [.pv (.int .i64 k)])]
def tvX(t:Tm)(σ:Zm):Prop:=Vw t=false∧ ∃ (c:Int) (r:List Slot),σ = .obj (.box [.pv (.bool false)]):: .obj (.box [.pv (.int .i64 c)])::r
def tvE:Xn:=fun n st q=>n=0∧Pb Kq 0 (.t 7) 80 [8,9] BL Bo encNd pre_ndI F_ndI st q
def tvM(t:Tm)(k:Nat)(x:Tm×Int)(st:St):Prop:=(∀ j p,j<k->(Zv 1 t)[j]? = some p->okN j p=true)∧k<=400 ∧
 st=⟨ZU 23 0 [(2,.ptr 0 0),(3,.ptr 1 0),(4,.ptr 2 0),(5,.pv (.int .i64 x.2))],[.obj (.box [.pv (.bool false)]),.obj (.box [.pv (.int .i64 k)]),.obj (.box ((Go.Proofs.YtgdebdgkofkeeaaGreatDoor.ndC x.1.nd x.1.ks).map .pv))]⟩
theorem c1x: ∀ x:Tm×Unit,tW x.1=true->UC Kq tvE 0 (Zb Kv (Zq (Vw x.1))) J7 [] (Yc c5z (encL x)):=by
 rintro⟨t,⟨⟩⟩ ht
 have ht:tW t=true:=ht
 obtain⟨n,ks⟩:=t
 rw[<- WG]
 show UC Kq tvE 0 (Zb Kv (Zq (Vw (.mk n ks)))) _ _ _
 have hsz:Zy (.mk n ks)<=1048576:=Nat.le_trans (Qk _) (of_decide_eq_true ht)
 have hF:F_ndI [Go.Proofs.YtgdebdgkofkeeaaGreatDoor.ndC n ks]=Zv 1 (.mk n ks):=by unfold F_ndI;rw[tmOf_nd]
 refine d1w tvE n ks ⟨?_,rfl,[2],[Go.Proofs.YtgdebdgkofkeeaaGreatDoor.ndC n ks],[2,3],[2,3,4,5],[],⟨ZU 23 0 [(2,.ptr 0 0),(3,.ptr 1 0)],[.obj (.box [.pv (.bool false)]),.obj (.box [.pv (.int .i64 0)])]⟩,tvI (.mk n ks),tvX (.mk n ks),tvM (.mk n ks),
  rfl,by simp,rfl,?_,by kernel_rfl,pre_nd hsz,⟨fun j p hj=>by omega,by omega,rfl⟩,?_,?_,?_,?_⟩
 ·show can Tm (PV.agg (Go.Proofs.YtgdebdgkofkeeaaGreatDoor.ndC n ks))=true
  rw[show(PV.agg (Go.Proofs.YtgdebdgkofkeeaaGreatDoor.ndC n ks))=enc (Tm.mk n ks)from(Zw n ks).symm,U0]
 ·intro j l ps hl hps
  match j with
  | 0=>cases hl;cases hps;rfl
  | j+1=>simp at hl
 ·rintro k ⟨⟨xn,xk⟩,v⟩ σ hx ⟨hall,hk,rfl⟩
  have e:H6 [8,9] ((encNd (.mk xn xk,v)).map .pv) (ZU 23 0 [(2,.ptr 0 0),(3,.ptr 1 0)])=ZU 23 0 [(2,.ptr 0 0),(3,.ptr 1 0),(8,.pv (.agg (Go.Proofs.YtgdebdgkofkeeaaGreatDoor.ndC xn xk))),(9,.pv (.int .i64 v))]:=by
   show H6 [8,9] (([enc (Tm.mk xn xk),.int .i64 v]).map .pv) _=_
   rw[Zw]
   kernel_rfl
  rw[e]
  exact c5v (G:=fun _=>False) _ xn xk k v ⟨rfl,hall,hk,rfl⟩
 ·rintro k ⟨⟨xn,xk⟩,v⟩ st hx ⟨hall,hk,rfl⟩
  rw[hF]at hx
  have hno:=fun h=>b0g (.mk n ks) hx h
  have hw:IntKind.i64.wrap ((k:Int)+1)=((k+1:Nat):Int):=next (by omega)
  refine c7e (G:=tvX (.mk n ks)) _ xn xk k v ?_
  rw[hw]
  have bad:okN k (.mk xn xk,v)=false-> ∀ r,tvX (.mk n ks) (.obj (.box [.pv (.bool false)]):: .obj (.box [.pv (.int .i64 ((k+1:Nat):Int))])::r):=fun h r=>⟨hno h,_,r,rfl⟩
  refine XA (fun h1=>bad ?_ _) fun h1=>XA (fun h2=>bad ?_ _) fun h2=>⟨Zd (.mk xn xk,()) (WG xn xk) (Bu ht (List.mem_of_getElem? hx)),Zh (.mk xn xk,()) (WG xn xk) (Ve (fun h3=>bad ?_ _) fun h3=>⟨rfl,⟨ZU 23 0 [(2,.ptr 0 0),(3,.ptr 1 0)],[.obj (.box [.pv (.bool false)]),.obj (.box [.pv (.int .i64 ((k+1:Nat):Int))])]⟩,by kernel_rfl,rfl,?_,?_,rfl⟩)⟩
  ·unfold okN;rw[decide_eq_false (show ¬ k<400 by omega)];rfl
  ·unfold okN;rw[decide_eq_false (show ¬ v<=40 by omega),Bool.and_false];rfl
  ·have h3:Gp (.mk xn xk)=false:=h3
   unfold okN;rw[h3,Bool.and_false]
  ·have h3:Gp (.mk xn xk)=true:=h3
   intro j p hj hp
   rw[Nat.lt_succ_iff_lt_or_eq]at hj
   rcases hj with hj|rfl
   ·exact hall j p hj hp
   ·rw[hx]at hp
    cases hp
    unfold okN
    rw[h3,decide_eq_true (show j<400 by omega),decide_eq_true (show v<=40 by omega)];rfl
  ·omega
 ·rintro σ ⟨hall,hk,rfl⟩
  refine c5k tvE n ks _ (ZA (a5f _ fun j p hp=>hall j p ?_ hp).symm)
  rw[hF]
  exact(List.getElem?_eq_some_iff.1 hp).1
 ·rintro σ ⟨hv,c,r,rfl⟩
  exact c1l tvE n ks c r (ZA hv.symm)
end Go.Pl
namespace Go.Pl
open Go.RowKit
open Enc (enc dec is)
open EncL (encL decL isL)
open Go.Proofs.YtgdebdgkofkeeaaGreatDoor (encNd pre_ndI F_ndI tmOf_nd pre_nd)
abbrev Ak(n:Nd)(ks:List Tm):List PV:=Go.Proofs.YtgdebdgkofkeeaaGreatDoor.ndC n ks
def G9(t:Tm):Int:=Zy t
def c0r(t:Tm)(k:Nat)(σ:Zm):Prop:=σ=[.obj (.box [.pv (.int .i64 (((Zv 1 t).take k).length:Int))])]
def d1e(t:Tm)(k:Nat)(x:Tm×Int)(st:St):Prop:=st=⟨ZU 11 0 [(3,.ptr 0 0)],[.obj (.box [.pv (.int .i64 (((Zv 1 t).take k).length:Int))])]⟩
def a5j:Xn:=fun n st q=>n=0∧Pb UZ 0 (.t 5) 80 [6,7] Js Jl encNd pre_ndI F_ndI st q
theorem b8m: ∀ x:Tm×Unit,tW x.1=true->UC UZ a5j 0 (Zb QG (Zq (G9 x.1))) Jj [] (Yc b9n (encL x)):=by
 rintro⟨t,⟨⟩⟩ ht
 have ht:tW t=true:=ht
 obtain⟨n,ks⟩:=t
 rw[<- WG]
 show UC UZ a5j 0 (Zb QG (Zq (G9 (.mk n ks)))) _ _ _
 have hsz:Zy (.mk n ks)<=1048576:=Nat.le_trans (Qk _) (of_decide_eq_true ht)
 have hlen:(Zv 1 (.mk n ks)).length=Zy (.mk n ks):=WF _ _
 have hF:F_ndI [Ak n ks]=Zv 1 (.mk n ks):=by unfold F_ndI;rw[tmOf_nd]
 refine c9e a5j n ks ⟨?_,rfl,[1],[Ak n ks],[3],[3],[],⟨ZU 11 0 [(3,.ptr 0 0)],[.obj (.box [.pv (.int .i64 0)])]⟩,c0r (.mk n ks),fun _=>False,d1e (.mk n ks),rfl,by simp,rfl,?_,by kernel_rfl,pre_nd hsz,rfl,?_,?_,?_,?_⟩
 ·show can Tm (PV.agg (Ak n ks))=true
  rw[show(PV.agg (Ak n ks))=enc (Tm.mk n ks)from(Zw n ks).symm,U0]
 ·intro j l ps hl hps
  match j with
  | 0=>cases hl;cases hps;rfl
  | j+1=>simp at hl
 ·rintro k ⟨⟨xn,xk⟩,v⟩ σ hx hi
  unfold c0r at hi
  subst hi
  have e:H6 [6,7] ((encNd (.mk xn xk,v)).map .pv) (ZU 11 0 [(3,.ptr 0 0)])=ZU 11 0 [(3,.ptr 0 0),(6,.pv (.agg (Ak xn xk))),(7,.pv (.int .i64 v))]:=by
   show H6 [6,7] (([enc (Tm.mk xn xk),.int .i64 v]).map .pv) _=_
   rw[Zw]
   kernel_rfl
  rw[e]
  exact c1c (G:=fun _=>False) _ xn xk _ v ⟨rfl,rfl⟩
 ·rintro k ⟨⟨xn,xk⟩,v⟩ st hx hst
  unfold d1e at hst
  subst hst
  rw[hF]at hx
  have hk:k<Zy (.mk n ks):=by rw[<- hlen];exact(List.getElem?_eq_some_iff.1 hx).1
  have ek:(Zv 1 (.mk n ks)).take (k+1)=(Zv 1 (.mk n ks)).take k++[(.mk xn xk,v)]:=by rw[List.take_add_one,hx];rfl
  refine b6n (G:=fun _=>False) _ xn xk _ v ⟨rfl,_,rfl,rfl,?_⟩
  unfold c0r
  rw[ek,List.length_append,next (by rw[List.length_take];omega)]
  rfl
 ·rintro σ hi
  unfold c0r at hi
  subst hi
  rw[hF,List.take_length]
  exact b8b a5j n ks _ (Ur (by unfold G9;rw[hlen]))
 ·exact fun σ h=>h.elim
def mxF(c v:Int):Int:=if v>c then v else c
mutual
theorem a8s: ∀ (t:Tm) (l:Nat) (c:Int),((Zv l t).map (·.2)).foldl mxF c=max c ((l:Int)+ZO t - 1)
 | .mk n ks,l,c=>by
  rw[Zv,List.map_cons,List.foldl_cons,AA ks (l+1) (mxF c l) (by unfold mxF;split <;> omega),ZO]
  unfold mxF
  split <;> omega
theorem AA: ∀ (ks:List Tm) (l:Nat) (c:Int),(l:Int) - 1<=c->((ZG l ks).map (·.2)).foldl mxF c=max c ((l:Int)+ZY ks - 1)
 | [],l,c,h=>by rw[ZG,ZY];simp;omega
 | k::ks,l,c,h=>by
  rw[ZG,List.map_append,List.foldl_append,a8s k l c,AA ks l _ (by omega),ZY]
  omega
end
theorem b8a{t:Tm}(h:tW t=true): ∀ s∈(YG t).flatMap WZ,s.s.length<=1048576:=by
 intro s hs
 obtain⟨p,hp,hs⟩:=List.mem_flatMap.1 hs
 unfold YG at hp
 obtain⟨q,hq,rfl⟩:=List.mem_map.1 hp
 have hw:=Bu h hq
 unfold WZ at hs
 split at hs
 ·have:s=q.1.nd.name:=by simpa using hs
  subst this
  obtain⟨⟨n,ks⟩,l⟩:=q
  exact(Fs hw).name
 ·cases hs
theorem M6{α β:Type}(f:α->List β)(hf : ∀ x,(f x).length<=1): ∀ l:List α,(l.flatMap f).length<=l.length
 | []=>by simp
 | a::l=>by have:=hf a;have:=M6 f hf l;rw[List.flatMap_cons,List.length_append,List.length_cons];omega
theorem a5c(t:Tm):((YG t).flatMap WZ).length<=Zy t:=by
 have:=M6 WZ (fun x=>by unfold WZ;split <;> simp) (YG t)
 rw[Jw]at this
 exact this
def F9(t:Tm)(k:Nat)(σ:Zm):Prop:=σ=[.obj (.box [.map 1]),.obj (.map (Yb (Ww ((((Zv 1 t).take k).map (·.1)).flatMap WZ))))]
def d0i(t:Tm)(k:Nat)(x:Tm×Int)(st:St):Prop:=st=⟨ZU 29 0 [(3,.ptr 0 0),(4,.ptr 2 0)],[.obj (.box [.map 1]),.obj (.map (Yb (Ww ((((Zv 1 t).take k).map (·.1)).flatMap WZ)))),.obj (.box (Z5 x.1.nd x.1.ks))]⟩
def a4r:Xn:=fun n st q=>n=0∧Pb U1 0 (.t 7) 80 [8,9] JF VQ encNd pre_ndI F_ndI st q
theorem c1t: ∀ x:Tm×Unit,tW x.1=true->UC U1 a4r 0 (Zb QT (Zq (KO x.1))) JE [] (Yc b7f (encL x)):=by
 rintro⟨t,⟨⟩⟩ ht
 have ht:tW t=true:=ht
 obtain⟨n,ks⟩:=t
 rw[<- WG]
 show UC U1 a4r 0 (Zb QT (Zq (KO (.mk n ks)))) _ _ _
 have hsz:Zy (.mk n ks)<=1048576:=Nat.le_trans (Qk _) (of_decide_eq_true ht)
 have hlen:(Zv 1 (.mk n ks)).length=Zy (.mk n ks):=WF _ _
 have hF:F_ndI [Ak n ks]=Zv 1 (.mk n ks):=by unfold F_ndI;rw[tmOf_nd]
 refine c6f a4r n ks ⟨?_,rfl,[1],[Ak n ks],[3],[3,4],[],⟨ZU 29 0 [(3,.ptr 0 0)],[.obj (.box [.map 1]),.obj (.map (Yb []))]⟩,F9 (.mk n ks),fun _=>False,d0i (.mk n ks),rfl,by simp,rfl,?_,by kernel_rfl,pre_nd hsz,rfl,?_,?_,?_,?_⟩
 ·show can Tm (PV.agg (Ak n ks))=true
  rw[show(PV.agg (Ak n ks))=enc (Tm.mk n ks)from(Zw n ks).symm,U0]
 ·intro j l ps hl hps
  match j with
  | 0=>cases hl;cases hps;rfl
  | j+1=>simp at hl
 ·rintro k ⟨⟨xn,xk⟩,v⟩ σ hx hi
  unfold F9 at hi
  subst hi
  have e:H6 [8,9] ((encNd (.mk xn xk,v)).map .pv) (ZU 29 0 [(3,.ptr 0 0)])=ZU 29 0 [(3,.ptr 0 0),(8,.pv (.agg (Ak xn xk))),(9,.pv (.int .i64 v))]:=by
   show H6 [8,9] (([enc (Tm.mk xn xk),.int .i64 v]).map .pv) _=_
   rw[Zw]
   kernel_rfl
  rw[e]
  exact c0j (G:=fun _=>False) _ xn xk _ v ⟨rfl,rfl⟩
 ·rintro k ⟨⟨xn,xk⟩,v⟩ st hx hst
  unfold d0i at hst
  subst hst
  rw[hF]at hx
  have hk:k<Zy (.mk n ks):=by rw[<- hlen];exact(List.getElem?_eq_some_iff.1 hx).1
  have ek:(Zv 1 (.mk n ks)).take (k+1)=(Zv 1 (.mk n ks)).take k++[(.mk xn xk,v)]:=by rw[List.take_add_one,hx];rfl
  have yes:(xn.kind=6∨xn.kind=8∨xn.kind=9)->VY (enc xn.name) (PV.bool true) (Yb (Ww (((Zv 1 (.mk n ks)).take k).map (·.1) |>.flatMap WZ)))=true∧F9 (.mk n ks) (k+1) [.obj (.box [.map 1]),.obj (.map (Wd (enc xn.name) (PV.bool true) (Yb (Ww (((Zv 1 (.mk n ks)).take k).map (·.1) |>.flatMap WZ)))))]:=fun h=>by
   refine⟨(J9 _ xn.name).1,?_⟩
   unfold F9
   rw[show Wd (enc xn.name) (PV.bool true) (Yb (Ww (((Zv 1 (.mk n ks)).take k).map (·.1) |>.flatMap WZ)))=_ from(J9 _ xn.name).2,ek,List.map_append,List.flatMap_append]
   unfold Ww
   rw[List.foldl_append,List.map_cons,List.map_nil,List.flatMap_cons,List.flatMap_nil]
   rw[show WZ (.mk xn xk)=[xn.name]from if_pos h]
   rfl
  have no : ¬ (xn.kind=6∨xn.kind=8∨xn.kind=9)->F9 (.mk n ks) (k+1) [.obj (.box [.map 1]),.obj (.map (Yb (Ww (((Zv 1 (.mk n ks)).take k).map (·.1) |>.flatMap WZ))))]:=fun h=>by
   unfold F9
   rw[ek,List.map_append,List.flatMap_append,List.map_cons,List.map_nil,List.flatMap_cons,List.flatMap_nil,show WZ (.mk xn xk)=[]from if_neg h]
   simp
  refine b6z (G:=fun _=>False) _ xn xk _ v (Ub (fun h1=>⟨(yes (.inl h1)).1,rfl,_,rfl,rfl,(yes (.inl h1)).2⟩) fun h1=>Ub (fun h2=>⟨(yes (.inr (.inl h2))).1,rfl,_,rfl,rfl,(yes (.inr (.inl h2))).2⟩) fun h2=>Ub (fun h3=>⟨(yes (.inr (.inr h3))).1,rfl,_,rfl,rfl,(yes (.inr (.inr h3))).2⟩) fun h3=>⟨rfl,_,rfl,rfl,no (by rintro(h|h|h);exact h1 h;exact h2 h;exact h3 h)⟩)
 ·rintro σ hi
  unfold F9 at hi
  subst hi
  rw[hF,List.take_length]
  refine c2m a4r n ks _ ⟨?_,?_⟩
  ·show(79==79&&QK (Yb (Ww ((YG (.mk n ks)).flatMap WZ))))=true
   rw[a6e (b8a ht) (by have:=a5c (.mk n ks);omega)]
   simp
  ·show Zq _ (PV.sl 1 false (List.map PV.str (Y3 (List.map Vj (Yb (Ww ((YG (.mk n ks)).flatMap WZ)))))))
   rw[NS]
   exact JP rfl
 ·exact fun σ h=>h.elim
theorem b1u(y:TS):Zq (y.t,true) (.tup [(.agg [(.int .i64 (Nd.kind (TS.n y))),(.int .i64 (Nd.line (TS.n y))),(.str (Str.s (Nd.name (TS.n y)))),(.int .i64 (Nd.num (TS.n y))),(.str (Str.s (Nd.elem (TS.n y)))),(.sl 1 false (List.map enc (Nd.dims (TS.n y)))),(.sl 1 false (List.map enc (Nd.data (TS.n y)))),(.sl 2 false (List.map enc (Nd.sizes (TS.n y)))),(.sl 1 false (List.map enc (Nd.ranks (TS.n y)))),(.sl 10 false (List.map enc (TS.k y)))]),(.bool true)]):=by
 show Zq (y.t,true) (PV.tup [enc y,.bool true])
 rw[show(enc y:PV)=enc y.t from GH y.t]
 exact JP (β:=Tm×Bool) rfl
theorem MF:Zq (tm0,false) (.tup [(.agg [(.int .i64 0),(.int .i64 0),(.str []),(.int .i64 0),(.str []),(.sl 0 true []),(.sl 0 true []),(.sl 0 true []),(.sl 0 true []),(.sl 0 true [])]),(.bool false)]):=⟨rfl,rfl⟩
end Go.Pl
namespace Go.Pl
open Go.RowKit
mutual
theorem Rx: ∀ (t:Tm) (bd:List Str) (x:Str),x∈Xc bd t ↔ x ∉ bd∧x∈Xc [] t
 | .mk n ks,bd,x=>by
  rw[Xc,Xc,List.mem_append,List.mem_append,Mm ks bd]
  have h:(x∈(if n.kind=1∧n.name ∉ bd then [n.name]else []) ↔ x ∉ bd∧x∈(if n.kind=1∧n.name ∉ ([]:List Str)then [n.name]else [])):=by
   by_cases h1:n.kind=1
   ·by_cases h2:n.name∈bd
    ·rw[if_neg (fun h=>h.2 h2),if_pos ⟨h1,by simp⟩]
     simp only[List.not_mem_nil,List.mem_singleton,false_iff]
     rintro⟨h3,rfl⟩
     exact h3 h2
    ·rw[if_pos ⟨h1,h2⟩,if_pos ⟨h1,by simp⟩]
     simp only[List.mem_singleton]
     exact⟨fun e=>⟨e▸h2,e⟩,fun e=>e.2⟩
   ·rw[if_neg (fun h=>h1 h.1),if_neg (fun h=>h1 h.1)];simp
  rw[h]
  exact⟨fun h=>h.elim (fun h=>⟨h.1,.inl h.2⟩) fun h=>⟨h.1,.inr h.2⟩,fun h=>h.2.elim (fun k=>.inl ⟨h.1,k⟩) fun k=>.inr ⟨h.1,k⟩⟩
theorem Mm: ∀ (ks:List Tm) (bd:List Str) {l:Bool} {s:Str} {i:Nat} {x:Str},x∈Xl bd l s i ks ↔ x ∉ bd∧x∈Xl [] l s i ks
 | [],bd,l,s,i,x=>by simp[Xl]
 | k::ks,bd,l,s,i,x=>by
  rw[Xl,Xl,List.mem_append,List.mem_append,Mm ks bd]
  have h:(x∈Xc (if l&&decide (i=1)then s::bd else bd) k ↔ x ∉ bd∧x∈Xc (if l&&decide (i=1)then [s]else []) k):=by
   by_cases c:(l&&decide (i=1))=true
   ·rw[if_pos c,if_pos c,Rx k (s::bd),Rx k [s]]
    simp only[List.mem_cons,List.not_mem_nil,or_false,not_or]
    exact⟨fun h=>⟨h.1.2,h.1.1,h.2⟩,fun h=>⟨⟨h.2.1,h.1⟩,h.2.2⟩⟩
   ·rw[if_neg c,if_neg c,Rx k bd]
  rw[h]
  exact⟨fun h=>h.elim (fun h=>⟨h.1,.inl h.2⟩) fun h=>⟨h.1,.inr h.2⟩,fun h=>h.2.elim (fun k=>.inl ⟨h.1,k⟩) fun k=>.inr ⟨h.1,k⟩⟩
end
end Go.Pl
namespace Go.Pl
open Go.RowKit
open Enc (enc dec is)
open EncL (encL decL isL)
set_option maxRecDepth 100000
noncomputable def O5:IC:=Wo Proofs.Tryz.f57
def Fu:List IRes:=[(.tmp 2)]
abbrev c5f:Nat:=4
def b1w:ZC:=YM []
theorem d0j{G:AV×List AObj×List AObj->Prop}(es:List (PV×PV))(h:G (((.fn 79 [] [(.ptr 1 0)]),([(.map es)],[(.box [(.map 0)])])))):Ze b1w 1 (Ye 1 Fu G) O5 [] (XB 4 [.map 0] [.map es]):=Ze.to (.nil) h
end Go.Pl
namespace Go.Pl
open Go.RowKit
open Enc (enc dec is)
open EncL (encL decL isL)
open Go.Proofs.YtgdebdgkofkeeaaGreatDoor (encNd pre_ndI F_ndI tmOf_nd pre_nd)
theorem c2s: ∀ args os,U7 args os=true->Ze b1w os.length (Ye os.length Fu fun r=>r=QY 79 args os) O5 [] (XB c5f args os):=by
 intro args os h
 unfold U7 at h
 split at h
 ·exact d0j _ rfl
 ·cases h
end Go.Pl
namespace Go.Pl
open Go.RowKit
open Enc (enc dec is)
open EncL (encL decL isL)
set_option maxRecDepth 100000
abbrev d3g(ps:List PV)(k:Arr×Int->Prop):Prop:=QC (fun(x:Str×List Int×List Int×Unit)=>decide (List.length (Prod.fst (Prod.snd x))<=2000000)&&decide (List.length (Prod.fst (Prod.snd (Prod.snd x)))<=2000000)) (fun(x:Str×List Int×List Int×Unit)=>LY (Prod.fst x) (Prod.fst (Prod.snd x)) (Prod.fst (Prod.snd (Prod.snd x)))) ps k
noncomputable def b4l:IC:=Wo Proofs.Tryz.f173
def a8g:List IRes:=[(.tmp 4)]
abbrev c7j:Nat:=22
def c3l:ZC:=YM []
theorem d2w{G:PV->Prop}(e:List UInt8)(n:Int)(h:if (e==[(105:UInt8),(110:UInt8),(116:UInt8)])=true then if (decide (n ≥ (-2147483648:Int)))=true then G ((.bool (decide (n<=2147483647))))else(G ((.bool false)))else(if (e==[(98:UInt8),(111:UInt8),(111:UInt8),(108:UInt8)])=true then if (n==0)=true then G ((.bool true))else(G ((.bool (n==1))))else(G ((.bool false))))):Ze c3l 0 (Zb a8g G) b4l [] (Yc 22 [.str e,.int .i64 n]):=Ze.tp (dm [] 36 0x2220220034200c4202202220044200c42) h
noncomputable def Ou:IC:=Wo Proofs.Tryz.f172
def O0:List IRes:=[(.tmp 3)]
abbrev c6i:Nat:=8
def a8l:ZC:=YM [(173,.pure (preT (fun _:Str×Int×Unit=>true)) (Zj (fun x:Str×Int×Unit=>Wj x.1 x.2.1)))]
theorem d1f{G:AV×List AObj×List AObj->Prop}(e:List UInt8)(n:Int)(h : ∃ y0:Bool,AV.pv (Zj (fun(x:Str×Int×Unit)=>Wj x.1 x.2.1) [(.str e),(.int .i64 n)])=AV.pv (enc y0)∧(G (((.pv (.bool !y0)),([(.box [(.pv (.str e))])],[]))))):Ze a8l 1 (Ye 1 O0 G) Ou [] (XB 8 [.pv (.int .i64 n),.ptr 0 0] [.box [.pv (.str e)]]):=Ze.to (.lit (.abs (Bool) (fun YY=>AV.pv (enc YY)) (.nil))) h
noncomputable def KQ:IC:=KY
def Kz:List IRes:=[(.tmp 4)]
abbrev b1v:Nat:=19
def Cc:ZC:=YM [(172,.own DF TF)]
theorem d2d{G:AV×List AObj×List AObj->Prop}(e:List UInt8)(l:List Int)(t:Bool)(h:At Cc 1 (Ye 1 Kz G) KQ 0 19 [(0,(.pv (.sl 1 t (List.map enc l)))),(1,(.fn 172 [] [(.ptr 0 0)])),(7,(.pv (.int .i64 (↑(List.length (List.map enc l)):Int)))),(8,(.pv (.int .i64 0)))] [(.obj (.box [(.pv (.str e))]))]):Ze Cc 1 (Ye 1 Kz G) KQ [] (XB 19 [.pv (.sl 1 t (l.map enc)),.fn 172 [] [.ptr 0 0]] [.box [.pv (.str e)]]):=Ze.to (.nil) h
theorem a9l{G:AV×List AObj×List AObj->Prop}(e:List UInt8)(l:List Int)(t:Bool)(i:Int)(h:if (decide (i<(↑(List.length l):Int)))=true then(decide (0<=i)&&decide (Int.toNat i<List.length (List.map enc l))&&1==1)=true∧(∃ y0:Int,AV.pv (PV.rptr (PV.cells (List.getD (List.map enc l) (Int.toNat i) default)))=AV.pv (PV.rptr (PV.cells ((enc) y0)))∧(if (!Wj (Str.mk e) (PV.asInt (List.getD (PV.cells (enc y0)) 0 default)))=true then G (((.pv (.int .i64 i)),([(.box [(.pv (.str e))])],[])))else(At Cc 1 (Ye 1 Kz G) KQ 0 19 [(0,(.pv (.sl 1 t (List.map enc l)))),(1,(.fn 172 [] [(.ptr 0 0)])),(7,(.pv (.int .i64 (↑(List.length l):Int)))),(8,(.pv (.int .i64 (IntKind.wrap IntKind.i64 (i+1)))))] [(.obj (.box [(.pv (.str e))]))])))else(G (((.pv (.int .i64 (-1))),([(.box [(.pv (.str e))])],[]))))):At Cc 1 (Ye 1 Kz G) KQ 0 19 [(0,.pv (.sl 1 t (l.map enc))),(1,.fn 172 [] [.ptr 0 0]),(7,.pv (.int .i64 l.length)),(8,.pv (.int .i64 i))] [.obj (.box [.pv (.str e)])]:=At.to (dm [dr Int] 19 0x2000143225100c42) h
noncomputable def LV:IC:=Fe
def Fz:List IRes:=[(.tmp 4)]
abbrev c5p:Nat:=9
def b6e:ZC:=YM [(144,.own X4 DD)]
theorem d1m{G:AV×List AObj×List AObj->Prop}(e:List UInt8)(l:List Int)(t:Bool)(h:(X4 [(.pv (.sl 1 t (List.map enc l))),(.fn 172 [] [(.ptr 0 0)])] [(.box [(.pv (.str e))])])=true∧(G (((.pv (.bool (decide (V8 (Str.mk e) (List.map dec (List.map enc l)) 0 ≥ 0)))),([(.box [(.pv (.str e))])],[]))))):Ze b6e 1 (Ye 1 Fz G) LV [] (XB 9 [.pv (.sl 1 t (l.map enc)),.fn 172 [] [.ptr 0 0]] [.box [.pv (.str e)]]):=Ze.to (.req (.keep (.lit (.nil)))) h
noncomputable def Da:IC:=Wo Proofs.Tryz.f143
def G7:List IRes:=[(.tmp 4)]
abbrev PR:Nat:=9
def CU:ZC:=YM [(113,.own X4 Rb)]
theorem Fq{G:PV->Prop}(e:List UInt8)(l:List Int)(h:(X4 [(.pv (.sl 1 false (List.map enc l))),(.fn 172 [] [(.ptr 0 0)])] [(.box [(.pv (.str e))])])=true∧(G ((.bool (!decide (0<=V8 (Str.mk e) (List.map dec (List.map enc l)) 0)))))):Ze CU 0 (Zb G7 G) Da [] (Yc 9 [.str e,enc l]):=Ze.tp (.req (.keep (.nil))) h
noncomputable def a2a:IC:=Wo Proofs.Tryz.f112
def EO:List IRes:=[(.cell true 3 6),(.tmp 7)]
abbrev c1n:Nat:=45
def a8n:ZC:=YM [(142,.pure (preT (fun _:List Int×Unit=>true)) (Zj (fun x:List Int×Unit=>Ws x.1))),(143,.pure (preT (fun x:Str×List Int×Unit=>decide (x.2.1.length<=2000000))) (Zj (fun x:Str×List Int×Unit=>x.2.1.all (Wj x.1)))),(93,.pure (preT (fun x:List Int×Unit=>decide (x.1.length<=2000000))) (Zj (fun x:List Int×Unit=>x.1)))]
theorem c8i{G:PV->Prop}(e:List UInt8)(d x:List Int)(h:if (!e==[(105:UInt8),(110:UInt8),(116:UInt8)])=true then if (!e==[(98:UInt8),(111:UInt8),(111:UInt8),(108:UInt8)])=true then G ((.tup [(.agg [(.str []),(.sl 0 true []),(.sl 0 true [])]),(.int .i64 12)]))else((Go.Pl.preT (fun(x:List Int×Unit)=>true) [(.sl 1 false (List.map enc d))])=true∧(∃ y0:Int×Int,AV.pv (Zj (fun(x:List Int×Unit)=>Ws x.1) [(.sl 1 false (List.map enc d))])=AV.pv (enc y0)∧(if (y0.2 != 0)=true then G ((.tup [(.agg [(.str []),(.sl 0 true []),(.sl 0 true [])]),(.int .i64 y0.2)]))else(if ((↑(List.length (List.map enc x)):Int) != y0.1)=true then G ((.tup [(.agg [(.str []),(.sl 0 true []),(.sl 0 true [])]),(.int .i64 1)]))else((Go.Pl.preT (fun(x:Str×List Int×Unit)=>decide (List.length x.2.1<=2000000)) [(.str e),(.sl 1 false (List.map enc x))])=true∧(∃ y1:Bool,AV.pv (Zj (fun(x:Str×List Int×Unit)=>List.all x.2.1 (Wj x.1)) [(.str e),(.sl 1 false (List.map enc x))])=AV.pv (enc y1)∧(if (!y1)=true then G ((.tup [(.agg [(.str []),(.sl 0 true []),(.sl 0 true [])]),(.int .i64 2)]))else((Go.Pl.preT (fun(x:List Int×Unit)=>decide (List.length x.1<=2000000)) [(.sl 1 false (List.map enc d))])=true∧(∃ y2:List Int,AV.pv (Zj (fun(x:List Int×Unit)=>x.1) [(.sl 1 false (List.map enc d))])=AV.pv (enc y2)∧((Go.Pl.preT (fun(x:List Int×Unit)=>decide (List.length x.1<=2000000)) [(.sl 1 false (List.map enc x))])=true∧(∃ y3:List Int,AV.pv (Zj (fun(x:List Int×Unit)=>x.1) [(.sl 1 false (List.map enc x))])=AV.pv (enc y3)∧(G ((.tup [(.agg [(.str e),(.sl 1 false (List.map enc y2)),(.sl 1 false (List.map enc y3))]),(.int .i64 0)]))))))))))))))else((Go.Pl.preT (fun(x:List Int×Unit)=>true) [(.sl 1 false (List.map enc d))])=true∧(∃ y4:Int×Int,AV.pv (Zj (fun(x:List Int×Unit)=>Ws x.1) [(.sl 1 false (List.map enc d))])=AV.pv (enc y4)∧(if (y4.2 != 0)=true then G ((.tup [(.agg [(.str []),(.sl 0 true []),(.sl 0 true [])]),(.int .i64 y4.2)]))else(if ((↑(List.length (List.map enc x)):Int) != y4.1)=true then G ((.tup [(.agg [(.str []),(.sl 0 true []),(.sl 0 true [])]),(.int .i64 1)]))else((Go.Pl.preT (fun(x:Str×List Int×Unit)=>decide (List.length x.2.1<=2000000)) [(.str e),(.sl 1 false (List.map enc x))])=true∧(∃ y5:Bool,AV.pv (Zj (fun(x:Str×List Int×Unit)=>List.all x.2.1 (Wj x.1)) [(.str e),(.sl 1 false (List.map enc x))])=AV.pv (enc y5)∧(if (!y5)=true then G ((.tup [(.agg [(.str []),(.sl 0 true []),(.sl 0 true [])]),(.int .i64 2)]))else((Go.Pl.preT (fun(x:List Int×Unit)=>decide (List.length x.1<=2000000)) [(.sl 1 false (List.map enc d))])=true∧(∃ y6:List Int,AV.pv (Zj (fun(x:List Int×Unit)=>x.1) [(.sl 1 false (List.map enc d))])=AV.pv (enc y6)∧((Go.Pl.preT (fun(x:List Int×Unit)=>decide (List.length x.1<=2000000)) [(.sl 1 false (List.map enc x))])=true∧(∃ y7:List Int,AV.pv (Zj (fun(x:List Int×Unit)=>x.1) [(.sl 1 false (List.map enc x))])=AV.pv (enc y7)∧(G ((.tup [(.agg [(.str e),(.sl 1 false (List.map enc y6)),(.sl 1 false (List.map enc y7))]),(.int .i64 0)]))))))))))))))):Ze a8n 0 (Zb EO G) a2a [] (Yc 45 [.str e,enc d,enc x]):=Ze.tp (dm [dv (Int×Int),dv Bool,dv (List Int)] 69 0x7171000146100014200014251222071710001461000142000142510001422202242) h
noncomputable def b5k:IC:=Wo Proofs.Tryz.f85
def a8u:List IRes:=[(.tmp 2)]
abbrev c8d:Nat:=17
def c3h:ZC:=YM [(112,.pure (preT (fun x:Str×List Int×List Int×Unit=>decide (x.2.1.length<=2000000)&&decide (x.2.2.1.length<=2000000))) (Zj (fun x:Str×List Int×List Int×Unit=>LY x.1 x.2.1 x.2.2.1)))]
theorem d1z{G:PV->Prop}(a:Arr)(h:(d3g [(.str (Str.s (Arr.e a))),(.sl 1 false (List.map enc (Arr.d a))),(.sl 1 false (List.map enc (Arr.x a)))] fun y0=>(G ((.bool (y0.2==0)))))):Ze c3h 0 (Zb a8u G) b5k [] (Yc 17 [enc a]):=Ze.tp (.req (.abs (Arr×Int) (fun YY=>AV.pv (enc YY)) (.lit (.nil)))) h
end Go.Pl
namespace Go.Pl
open Go.RowKit
open Enc (enc dec is)
open EncL (encL decL isL)
theorem c1j: ∀ a:Str×Int×Unit,true=true->Ze c3l 0 (Zb a8g (Zq (Wj a.1 a.2.1))) b4l [] (Yc c7j (encL a)):=by
 rintro⟨⟨e⟩,n,⟨⟩⟩ _
 refine d2w e n ?_
 simp only[beq_iff_eq,decide_eq_true_eq,Zq,b9s,b1p,true_and,Wj,Ai,Qv,ge_iff_le]
 split
 ·split <;> simp[*]
 ·split
  ·split <;> simp[*]
  ·simp[*]
theorem b9w: ∀ args os,DF args os=true->Ze a8l os.length (Ye os.length O0 fun r=>r=TF args os) Ou [] (XB c6i args os):=by
 intro args os hp
 unfold DF at hp
 split at hp
 ·rename_i n e
  refine d1f e n ?_
  exact Zh (⟨e⟩,n,()) rfl rfl
 ·cases hp
theorem CY(e:Str): ∀ (l:List Int) (k:Nat),decide (0<=V8 e l k) = !l.all (Wj e)
 | [],k=>by simp[V8]
 | n::l,k=>by
  simp only[V8,List.all_cons]
  by_cases h:Wj e n=true
  ·simp only[h,if_true,Bool.true_and];exact CY e l (k+1)
  ·simp only[Bool.not_eq_true]at h;simp[h]
theorem b5j(e:List UInt8)(l:List Int)(t:Bool)(hl:l.length<=2000000)(r:AV×List AObj×List AObj): ∀ (m k:Nat),m+k=l.length->r=(.pv (.int .i64 (V8 ⟨e⟩ (l.drop k) k)),[.box [.pv (.str e)]],[]) ->
  At Cc 1 (Ye 1 Kz fun x=>x=r) KQ 0 b1v [(0,.pv (.sl 1 t (l.map enc))),(1,.fn 172 [] [.ptr 0 0]),(7,.pv (.int .i64 l.length)),(8,.pv (.int .i64 k))] [.obj (.box [.pv (.str e)])]:=by
 intro m
 induction m with
 | zero=>
  intro k hk hr
  refine a9l e l t k ?_
  rw[if_neg (by simp;omega),hr,List.drop_of_length_le (by omega)]
  rfl
 | succ m ih=>
  intro k hk hr
  have hlt:k<l.length:=by omega
  refine a9l e l t k ?_
  rw[if_pos (by simp;omega)]
  refine⟨by simp;omega,l[k],by rw[JR _ hlt],?_⟩
  rw[List.drop_eq_getElem_cons hlt,V8]at hr
  show if (!Wj ⟨e⟩ l[k])=true then _ else _
  cases h:Wj ⟨e⟩ l[k]with
  | true=>
   rw[if_neg (by simp),next (by omega)]
   rw[h,if_pos rfl]at hr
   exact ih (k+1) (by omega) hr
  | false=>
   rw[if_pos (by decide)]
   rw[h,if_neg (by simp)]at hr
   exact hr.symm
theorem c1b: ∀ args os,X4 args os=true->Ze Cc os.length (Ye os.length Kz fun r=>r=DD args os) KQ [] (XB b1v args os):=by
 intro args os hp
 unfold X4 at hp
 split at hp
 ·rename_i t xs e
  simp only[Bool.and_eq_true,decide_eq_true_eq]at hp
  rw[O9 hp.1]
  have hl:(xs.map (dec:PV->Int)).length<=2000000:=by simpa using hp.2
  generalize xs.map (dec:PV->Int)=l at hl ⊢
  refine d2d e l t ?_
  rw[List.length_map]
  refine b5j e l t hl _ l.length 0 (by omega) ?_
  simp[DD]
 ·cases hp
theorem c2r: ∀ args os,X4 args os=true->Ze b6e os.length (Ye os.length Fz fun r=>r=Rb args os) LV [] (XB c5p args os):=by
 intro args os hp
 have hp':=hp
 unfold X4 at hp
 split at hp
 ·rename_i t xs e
  simp only[Bool.and_eq_true,decide_eq_true_eq]at hp
  rw[O9 hp.1]at hp' ⊢
  exact d1m e _ t ⟨hp',rfl⟩
 ·cases hp
theorem Rw: ∀ a:Str×List Int×Unit,decide (a.2.1.length<=2000000)=true->Ze CU 0 (Zb G7 (Zq (a.2.1.all (Wj a.1)))) Da [] (Yc PR (encL a)):=by
 rintro⟨⟨e⟩,l,⟨⟩⟩ hp
 refine Fq e l ⟨?_,rfl,?_⟩
 ·simpa [X4]using hp
 ·simp[CY]
theorem b0j: ∀ a:Str×List Int×List Int×Unit,(decide (a.2.1.length<=2000000)&&decide (a.2.2.1.length<=2000000))=true->Ze a8n 0 (Zb EO (Zq (LY a.1 a.2.1 a.2.2.1))) a2a [] (Yc c1n (encL a)):=by
 rintro⟨⟨e⟩,d,x,⟨⟩⟩ hp
 simp only[Bool.and_eq_true,decide_eq_true_eq]at hp
 refine c8i e d x ?_
 have hp1:=hp.1
 have hp2:=hp.2
 simp only[preT,Zj,b4p,b9m,a4h,a8r,d0l,Fa,c9t,b7l,c5b,Le,List.isEmpty_iff,Bool.and_true,beq_self_eq_true,Bool.or_true,Bool.true_and,decide_eq_true_eq,AV.pv.injEq,c9n,exists_eq_left',hp1,hp2,true_and,Enc.sz,List.length_map,Zq,c6h,c6b,c8a,b8e,b7t,b9v,List.all_nil,List.isEmpty_nil,Bool.true_or,List.map_nil,Bool.not_eq_true',beq_eq_false_iff_ne,bne_iff_ne,LY,Ai,Qv]
 by_cases h1:e=[105,110,116]
 ·simp only[h1,ne_eq,not_true,if_false,false_and]
  split
  ·rfl
  ·split
   ·rfl
   ·split
    ·simp_all
    ·simp_all
 ·simp only[h1,ne_eq,not_false_eq_true,if_true,true_and]
  split
  ·rfl
  ·split
   ·rfl
   ·split
    ·rfl
    ·split
     ·simp_all
     ·simp_all
theorem c1s: ∀ a:Arr×Unit,a3z a.1=true->Ze c3h 0 (Zb a8u (Zq (RU a.1))) b5k [] (Yc c8d (encL a)):=by
 rintro⟨a,⟨⟩⟩ hp
 refine d1z a ⟨Zd (a.e,a.d,a.x,()) rfl hp,Zh (a.e,a.d,a.x,()) rfl ?_⟩
 exact⟨rfl,rfl⟩
end Go.Pl
namespace Go.Pl
open Go.RowKit
set_option maxRecDepth 100000
def X6:IC:=(WP [ZB 4 (.mv (UH 0)) 0] (.seq (WP [ZB 6 (XX 0) 0,ZB 7 (.len 1 (.t 6)) 0,ZB 8 (.mv (UH 0)) 0] (.block 0 (.loop [8,7,1,0] (WP [ZB 9 (Dk .lss (.t 8) (.t 7)) 0] (.seq (.cond (.t 9) .skip (.exit 0)) (.seq (.block 1 (WP [ZB 10 (XX 8) 0,ZB 5 (XX 10) 0] (WP [ZB 11 (XX 1) 0,ZB 12 (XX 0) 0,ZB 13 (XX 5) 0,ZB 14 (.iaddr 1 (.t 12) (.t 13)) 0,ZB 15 (Am [(.int .i64)] (.t 14)) 0,ZB 16 (Dk .eql (.t 11) (.t 15)) 0] (.cond (.t 16) (WP [ZB 17 (XX 5) 0,ZB 4 (XX 17) 0] .ret) .skip)))) (.reg [ZB 18 (Dk .add (.t 8) (UH 1)) 0,ZB 8 (XX 18) 0] none))))))) (WP [ZB 4 (.mv (.c (.int .i64 (-1)))) 0] .ret)))
def Wi:List IRes:=[(.tmp 4)]
def Vh:ZC:=YM []
theorem a4g{r:PV}(ns:List Int)(t:Bool)(v:Int)(hn:At Vh 0 (fun st=>fin st Wi=some r) X6 0 19 [(0,(.pv (.sl 1 t (Zp ns)))),(1,(.pv (.int .i64 v))),(7,(.pv (.int .i64 (↑(Zp ns).length:Int)))),(8,(.pv (.int .i64 0)))] []):Ze Vh 0 (fun st=>fin st Wi=some r) X6 [] (Yc 19 [.sl 1 t (Zp ns),.int .i64 v]):=Ze.w (.nil) hn (by kernel_rfl)
theorem O8{r:PV}(ns:List Int)(t:Bool)(v:Int)(i:Int)(h0:(decide (i<(↑(Zp ns).length:Int)))=true)(h1:(decide (0<=i)&&decide (i.toNat<(Zp ns).length)&&1==1)=true)(h2:(decide (0+[Sh.int .i64].length<=((Zp ns).getD i.toNat default).cells.length)&&Yr ((Zp ns).getD i.toNat default).cells 0 [Sh.int .i64])=true)(h3:(v==(((Zp ns).getD i.toNat default).cells.getD 0 default).asInt)=true)(hr:(.int .i64 i)=r):At Vh 0 (fun st=>fin st Wi=some r) X6 0 19 [(0,.pv (.sl 1 t (Zp ns))),(1,.pv (.int .i64 v)),(7,.pv (.int .i64 (Zp ns).length)),(8,.pv (.int .i64 i))] []:=At.w (.lit (.ans true (.req (.req (.lit (.ans true (.nil))))))) (And.intro h0 (And.intro h1 (And.intro h2 (And.intro h3 hr)))) (by kernel_rfl)
theorem Od{r:PV}(ns:List Int)(t:Bool)(v:Int)(i:Int)(h0:(decide (i<(↑(Zp ns).length:Int)))=true)(h1:(decide (0<=i)&&decide (i.toNat<(Zp ns).length)&&1==1)=true)(h2:(decide (0+[Sh.int .i64].length<=((Zp ns).getD i.toNat default).cells.length)&&Yr ((Zp ns).getD i.toNat default).cells 0 [Sh.int .i64])=true)(h3:(v==(((Zp ns).getD i.toNat default).cells.getD 0 default).asInt)=false)(hn:At Vh 0 (fun st=>fin st Wi=some r) X6 0 19 [(0,(.pv (.sl 1 t (Zp ns)))),(1,(.pv (.int .i64 v))),(7,(.pv (.int .i64 (↑(Zp ns).length:Int)))),(8,(.pv (.int .i64 (IntKind.i64.wrap (i+1)))))] []):At Vh 0 (fun st=>fin st Wi=some r) X6 0 19 [(0,.pv (.sl 1 t (Zp ns))),(1,.pv (.int .i64 v)),(7,.pv (.int .i64 (Zp ns).length)),(8,.pv (.int .i64 i))] []:=At.w (.lit (.ans true (.req (.req (.lit (.ans false (.lit (.nil)))))))) (And.intro h0 (And.intro h1 (And.intro h2 (And.intro h3 hn)))) (by kernel_rfl)
theorem FC{r:PV}(ns:List Int)(t:Bool)(v:Int)(i:Int)(h0:(decide (i<(↑(Zp ns).length:Int)))=false)(hr:(.int .i64 (-1))=r):At Vh 0 (fun st=>fin st Wi=some r) X6 0 19 [(0,.pv (.sl 1 t (Zp ns))),(1,.pv (.int .i64 v)),(7,.pv (.int .i64 (Zp ns).length)),(8,.pv (.int .i64 i))] []:=At.w (.lit (.ans false (.nil))) (And.intro h0 hr) (by kernel_rfl)
end Go.Pl
namespace Go.Pl
open Go.RowKit
def FN(v:Int):List Int->Nat->Int
 | [],_=> -1
 | n::r,i=>bif v==n then i else FN v r (i+1)
theorem b0c{v:Int}: ∀ {l:List Int} {i:Nat},decide (0<=FN v l i)=l.any (· == v):=by
 intro l
 induction l with
 | nil=>intro i;rfl
 | cons n r ih=>
  intro i
  simp only[FN,List.any_cons]
  by_cases h:v=n
  ·subst h;simp
  ·have h1:(v==n)=false:=by simpa using h
   have h2:(n==v)=false:=by simp;omega
   simp only[h1,h2,cond_false,Bool.false_or]
   exact ih
def Q8:List PV->PV
 | [.sl _ _ xs,.int _ v]=>.int .i64 (FN v (xs.map PV.asInt) 0)
 | _=>.nilp
theorem O4(ns:List Int)(t:Bool)(v:Int)(hl:ns.length<=1099511627776){r:PV}: ∀ (m k:Nat),m+k=ns.length->r = .int .i64 (FN v (ns.drop k) k) ->
  At Vh 0 (fun st=>fin st Wi=some r) X6 0 19 [(0,.pv (.sl 1 t (Zp ns))),(1,.pv (.int .i64 v)),(7,.pv (.int .i64 (Zp ns).length)),(8,.pv (.int .i64 k))] []:=by
 intro m
 induction m with
 | zero=>
  intro k hk hr
  rw[List.drop_of_length_le (by omega)]at hr
  exact FC ns t v k (by simp;omega) hr.symm
 | succ m ih=>
  intro k hk hr
  have hlt:k<ns.length:=by omega
  have e:=Bg hlt
  rw[List.drop_eq_getElem_cons hlt,FN]at hr
  cases hb:v==ns[k]with
  | true=>
   rw[hb,cond_true]at hr
   exact O8 ns t v k (by simp;omega) (by simp;omega) (by rw[e];rfl) (by rw[e];exact hb) hr.symm
  | false=>
   rw[hb,cond_false]at hr
   refine Od ns t v k (by simp;omega) (by simp;omega) (by rw[e];rfl) (by rw[e];exact hb) ?_
   rw[next (by omega)]
   exact ih (k+1) (by omega) hr
theorem a3d: ∀ ps,Z4 ps=true->Ze Vh 0 (fun st=>fin st Wi=some (Q8 ps)) X6 [] (Yc 19 ps):=by
 intro ps hp
 unfold Z4 at hp
 split at hp
 ·rename_i t xs v
  simp only[Bool.and_eq_true,decide_eq_true_eq]at hp
  obtain⟨ns,rfl⟩:=RS hp.1
  refine a4g ns t v ?_
  exact O4 ns t v (by have:=hp.2;rwa [GL]at this) ns.length 0 (by omega) (by simp[Q8])
 ·cases hp
def PV.ns(p:PV):List Int:=p.asXs.map PV.asInt
def Ql:IC:=(WP [ZB 4 (f'' false) 0] (WP [ZB 5 (XX 0) 0,ZB 6 (XX 1) 0,ZB 7 (c'' 193 [(.t 5),(.t 6)]) 0,ZB 8 (Dk .geq (.t 7) (UH 0)) 2,ZB 4 (XX 8) 2] .ret))
def Qs:List IRes:=[(.tmp 4)]
abbrev MW:Nat:=9
def KF:ZC:=YM [(193,.pure Z4 Q8)]
theorem RB{r:PV}(ns:List Int)(t:Bool)(v:Int)(h0:(Z4 [(.sl 1 t (Zp ns)),(.int .i64 v)])=true)(hr:(.bool (decide (FN v (List.map PV.asInt (Zp ns)) 0 ≥ 0)))=r):Ze KF 0 (fun st=>fin st Qs=some r) Ql [] (Yc 9 [.sl 1 t (Zp ns),.int .i64 v]):=Ze.w (.req (.lit (.nil))) (And.intro h0 hr) (by kernel_rfl)
theorem TI: ∀ ps,Z4 ps=true->Ze KF 0 (fun st=>fin st Qs=some (Vg ps)) Ql [] (Yc MW ps):=by
 intro ps hp
 have hp':=hp
 unfold Z4 at hp
 split at hp
 ·rename_i t xs v
  simp only[Bool.and_eq_true,decide_eq_true_eq]at hp
  obtain⟨ns,rfl⟩:=RS hp.1
  refine RB ns t v hp' ?_
  have:=b0c (v:=v) (l:=ns) (i:=0)
  simp only[Wx,Vg,Ck,ge_iff_le]
  rw[<- this]
 ·cases hp
end Go.Pl
namespace Go.Pl
open Go.RowKit
open Enc (enc dec is)
open EncL (encL decL isL)
set_option maxRecDepth 100000
end Go.Pl
namespace Go.Pl
open Go.RowKit
open Enc (enc dec is)
open EncL (encL decL isL)
theorem b6d{s:List UInt8}{i:Nat}(h:i<s.length):List.getD (Zu s) (Int.toNat (i:Int)) default = .int .u8 (s[i].toNat:Int):=by
 simp[Zu,List.getD,h]
theorem Hr(s:List UInt8):(Zu s).length=s.length:=by simp[Zu]
def PY(c:UInt8):Bool:=lowB c||digB c
theorem a0g{c:UInt8}:lowB c=true ↔ 97<=c.toNat∧c.toNat<=122:=by
 simp only[lowB,Bool.and_eq_true,decide_eq_true_eq,UInt8.le_iff_toNat_le]
 have e1:(97:UInt8).toNat=97:=rfl
 have e2:(122:UInt8).toNat=122:=rfl
 rw[e1,e2]
theorem Tu{c:UInt8}(h : ¬ (97<=c.toNat∧c.toNat<=122)):lowB c=false:=by
 cases e:lowB c
 ·rfl
 ·exact absurd (a0g.1 e) h
theorem Sm{c:UInt8}(h : ¬ (48<=c.toNat∧c.toNat<=57)):digB c=false:=by
 cases e:digB c
 ·rfl
 ·exact absurd (X9.1 e) h
def Wp(s:List UInt8)(i:Nat):Bool:=(match i with|0=>(match s with|[]=>true|c::r=>lowB c&&r.all PY)|i+1=>(s.drop (i+1)).all PY)&&(!(s==[]))&&decide (s.length<=30)
theorem a4k{s:List UInt8}{i:Nat}(h:i<s.length)(hb:lowB s[i]=true∨(i≠0∧digB s[i]=true)):Wp s i=Wp s (i+1):=by
 cases i with
 | zero=>
  cases s with
  | nil=>simp at h
  | cons c r=>
   rcases hb with hb|hb
   ·have hb:lowB c=true:=hb
    simp[Wp,hb]
   ·exact absurd rfl hb.1
 | succ i=>
  unfold Wp
  simp only
  rw[List.drop_eq_getElem_cons h,List.all_cons]
  have:PY s[i+1]=true:=by
   rcases hb with hb|hb
   ·simp[PY,hb]
   ·simp[PY,hb.2]
  rw[this,Bool.true_and]
theorem a3y{s:List UInt8}{i:Nat}(h:i<s.length)(hb:lowB s[i]=false∧(i=0∨digB s[i]=false)):Wp s i=false:=by
 cases i with
 | zero=>
  cases s with
  | nil=>simp at h
  | cons c r=>
   have hb:lowB c=false:=hb.1
   simp[Wp,hb]
 | succ i=>
  unfold Wp
  simp only
  rw[List.drop_eq_getElem_cons h,List.all_cons]
  have:PY s[i+1]=false:=by
   rcases hb.2 with h0|h0
   ·cases h0
   ·simp[PY,hb.1,h0]
  rw[this];simp
theorem a3o{s:List UInt8}(h:[95].isPrefixOf s=false):Yx ⟨s⟩=Wp s 0:=by
 cases s with
 | nil=>rfl
 | cons c r=>
  have hc : ¬ c=95:=by intro e;subst e;simp at h
  have e:decide ((c::r).length<=30)=decide (r.length<=29):=decide_eq_decide.2 (by simp)
  unfold Wp
  rw[e]
  simp only[Yx,if_neg hc]
  show _=(lowB c&&r.all PY&& !((c::r)==[])&&_)
  have e2:((c::r)==[])=false:=rfl
  rw[e2]
  simp only[Bool.not_false,Bool.and_true]
  rfl
theorem LX(s:Str): -9223372036854775808<=(YT s).1∧((YT s).1<=9223372036854775807):=by
 unfold YT
 split
 ·rename_i v hv;exact Lib.atoiAll_bounds hv
 ·have:=Lib.atoiSat_bounds s.s
  exact⟨by show _<=Lib.atoiSat s.s;omega,by show Lib.atoiSat s.s<=_;omega⟩
 ·exact⟨by show(-9223372036854775808:Int)<=0;omega,by show(0:Int)<=_;omega⟩
end Go.Pl
namespace Go.Pl
open Go.RowKit
open Enc (enc dec is)
open EncL (encL decL isL)
set_option maxRecDepth 100000
abbrev c3j(ps:List PV)(k:Int->Prop):Prop:=ceP (fun(x:Int×Int×Unit)=>KS (Prod.fst x) (Prod.fst (Prod.snd x))) ps k
abbrev d3q(ps:List PV)(k:Int->Prop):Prop:=ceP (fun(x:Coef×Coef×Unit)=>Gn (Prod.fst x) (Prod.fst (Prod.snd x))) ps k
abbrev d3n(ps:List PV)(k:Int->Prop):Prop:=QC (fun(x:List Coef×List Coef×FnV 121×Unit)=>decide (List.length (Prod.fst x)<=9223372036854775807)&&decide (List.length (Prod.fst (Prod.snd x))<=9223372036854775807)) (fun(x:List Coef×List Coef×FnV 121×Unit)=>XH (Prod.fst x) (Prod.fst (Prod.snd x))) ps k
abbrev d2r(ps:List PV)(k:Int->Prop):Prop:=QC (fun(x:Lin×Lin×Unit)=>Z9 (Prod.fst x)&&Z9 (Prod.fst (Prod.snd x))) (fun(x:Lin×Lin×Unit)=>Vx (Prod.fst x) (Prod.fst (Prod.snd x))) ps k
noncomputable def Sk:IC:=Wo Proofs.Tryz.f123
def GD:List IRes:=[(.tmp 4)]
abbrev a3r:Nat:=13
def BZ:ZC:=YM []
theorem b0a{G:PV->Prop}(a b:Int)(h:if (decide (a<b))=true then G ((.int .i64 (-1)))else(if (decide (a>b))=true then G ((.int .i64 1))else(G ((.int .i64 0))))):Ze BZ 0 (Zb GD G) Sk [] (Yc 13 [enc a,enc b]):=Ze.tp (dm [] 14 0x142000142) h
noncomputable def NV:IC:=Wo Proofs.Tryz.f121
def D9:List IRes:=[(.tmp 4)]
abbrev a6k:Nat:=19
def RJ:ZC:=YM [(122,.pure (preT (fun _:Str×Str×Unit=>true)) (Zj (fun x:Str×Str×Unit=>Lib.compareBytes x.1.s x.2.1.s))),(123,.pure (preT (fun _:Int×Int×Unit=>true)) (Zj (fun x:Int×Int×Unit=>KS x.1 x.2.1)))]
theorem b7m{G:PV->Prop}(x y:Coef)(h : ∃ y0:Int,AV.pv (Zj (fun(x:Str×Str×Unit)=>Lib.compareBytes (Str.s x.1) (Str.s x.2.1)) [(.str (Str.s x.v)),(.str (Str.s y.v))])=AV.pv (enc y0)∧(if (y0 != 0)=true then G ((.int .i64 y0))else(c3j [(.int .i64 x.c),(.int .i64 y.c)] fun y1=>(G ((.int .i64 y1)))))):Ze RJ 0 (Zb D9 G) NV [] (Yc 19 [enc x,enc y]):=Ze.tp (dm [dv Int] 12 0x5200014252) h
noncomputable def UE:IC:=Wo Proofs.Tryz.f120
def UB:List IRes:=[(.tmp 6)]
abbrev b0p:Nat:=39
def Q9:ZC:=YM [(121,.pure (preT (fun _:Coef×Coef×Unit=>true)) (Zj (fun x:Coef×Coef×Unit=>Gn x.1 x.2.1)))]
theorem b9i{G:PV->Prop}(a b:List Coef)(h:At Q9 0 (Zb UB G) UE 0 39 [(0,(.pv (.sl 2 false (List.map enc a)))),(1,(.pv (.sl 2 false (List.map enc b)))),(2,(.pv (.fn 121))),(11,(.pv (.sl 2 false (List.map enc a)))),(12,(.pv (.int .i64 (↑(List.length (List.map enc a)):Int)))),(13,(.pv (.int .i64 0)))] []):Ze Q9 0 (Zb UB G) UE [] (Yc 39 [enc a,enc b,.fn 121]):=Ze.tp (.nil) h
theorem MP{G:PV->Prop}(a b:List Coef)(i:Int)(h:if (decide (i<(↑(List.length a):Int)))=true then(Dv a i 2 fun y0=>(if (decide (i ≥ (↑(List.length (List.map enc b)):Int)))=true then G ((.int .i64 1))else((Dv b i 2 fun y1=>(d3q [(.agg [(.str (PV.asStr (List.getD (PV.cells (enc y0)) 0 default))),(.int .i64 (PV.asInt (List.getD (PV.cells (enc y0)) (0+1) default)))]),(.agg [(.str (PV.asStr (List.getD (PV.cells (enc y1)) 0 default))),(.int .i64 (PV.asInt (List.getD (PV.cells (enc y1)) (0+1) default)))])] fun y2=>(if (y2 != 0)=true then G ((.int .i64 y2))else(At Q9 0 (Zb UB G) UE 0 39 [(0,(.pv (.sl 2 false (List.map enc a)))),(1,(.pv (.sl 2 false (List.map enc b)))),(2,(.pv (.fn 121))),(11,(.pv (.sl 2 false (List.map enc a)))),(12,(.pv (.int .i64 (↑(List.length a):Int)))),(13,(.pv (.int .i64 (IntKind.wrap IntKind.i64 (i+1)))))] [])))))))else(if (decide ((↑(List.length (List.map enc a)):Int)<(↑(List.length (List.map enc b)):Int)))=true then G ((.int .i64 (-1)))else(G ((.int .i64 0))))):At Q9 0 (Zb UB G) UE 0 39 [(0,.pv (enc a)),(1,.pv (enc b)),(2,.pv (.fn 121)),(11,.pv (enc a)),(12,.pv (.int .i64 a.length)),(13,.pv (.int .i64 i))] []:=At.tp (dm [dr Coef,dv Int] 35 0x142020001426225100014225101642) h
noncomputable def a1k:IC:=Wo Proofs.Tryz.f89
def Ra:List IRes:=[(.tmp 4)]
abbrev c2b:Nat:=19
def Oi:ZC:=YM [(120,.pure (preT (fun x:List Coef×List Coef×FnV 121×Unit=>decide (x.1.length<=9223372036854775807)&&decide (x.2.1.length<=9223372036854775807))) (Zj (fun x:List Coef×List Coef×FnV 121×Unit=>XH x.1 x.2.1))),(123,.pure (preT (fun _:Int×Int×Unit=>true)) (Zj (fun x:Int×Int×Unit=>KS x.1 x.2.1)))]
theorem c5w{G:PV->Prop}(a b:Lin)(h:(d3n [(.sl 2 false (List.map enc a.t)),(.sl 2 false (List.map enc b.t)),(.fn 121)] fun y0=>(if (y0 != 0)=true then G ((.int .i64 y0))else(c3j [(.int .i64 a.k),(.int .i64 b.k)] fun y1=>(G ((.int .i64 y1))))))):Ze Oi 0 (Zb Ra G) a1k [] (Yc 19 [enc a,enc b]):=Ze.tp (dm [dv Int] 12 0x5200014251) h
noncomputable def a7j:IC:=Wo Proofs.Tryz.f63
def b4v:List IRes:=[(.tmp 4)]
abbrev c8c:Nat:=9
def c3q:ZC:=YM [(89,.pure (preT (fun x:Lin×Lin×Unit=>Z9 x.1&&Z9 x.2.1)) (Zj (fun x:Lin×Lin×Unit=>Vx x.1 x.2.1)))]
theorem d0h{G:PV->Prop}(a b:Lin)(h:(d2r [(.agg [(.int .i64 a.k),(.sl 2 false (List.map enc a.t))]),(.agg [(.int .i64 b.k),(.sl 2 false (List.map enc b.t))])] fun y0=>(G ((.bool (y0==0)))))):Ze c3q 0 (Zb b4v G) a7j [] (Yc 9 [enc a,enc b]):=Ze.tp (.req (.abs (Int) (fun YY=>AV.pv (enc YY)) (.lit (.nil)))) h
end Go.Pl
namespace Go.Pl
open Go.RowKit
open Enc (enc dec is)
open EncL (encL decL isL)
theorem Fv: ∀ a:Int×Int×Unit,true=true->Ze BZ 0 (Zb GD (Zq (KS a.1 a.2.1))) Sk [] (Yc a3r (encL a)):=by
 rintro⟨a,b,⟨⟩⟩ -
 show Ze BZ 0 (Zb GD (Zq (KS a b))) _ _ _
 refine b0a a b (XA (fun h=> ?_) fun h=>XA (fun k=> ?_) fun k=> ?_)
 ·exact Ur (by simp[KS,h])
 ·exact Ur (by simp[KS,h,k])
 ·exact Ur (by simp[KS,h,k])
theorem a4w: ∀ a:Coef×Coef×Unit,true=true->Ze RJ 0 (Zb D9 (Zq (Gn a.1 a.2.1))) NV [] (Yc a6k (encL a)):=by
 rintro⟨x,y,⟨⟩⟩ -
 show Ze RJ 0 (Zb D9 (Zq (Gn x y))) _ _ _
 unfold Gn
 refine b7m x y (Zh (x.v,y.v,()) rfl (TQ (fun h=> ?_) fun h=>Zh (x.c,y.c,()) rfl ?_))
 ·have h:Lib.compareBytes x.v.s y.v.s≠0:=by simpa using h
  rw[if_pos h]
  exact Ur rfl
 ·have h : ¬ Lib.compareBytes x.v.s y.v.s≠0:=by simpa using h
  rw[if_neg h]
  exact Ur rfl
theorem NB(t:Coef):(PV.agg [.str (PV.asStr (List.getD (PV.cells (enc t)) 0 default)),.int .i64 (PV.asInt (List.getD (PV.cells (enc t)) (0+1) default))])=enc t:=rfl
theorem OP(a b:List Coef)(ha:a.length<=9223372036854775807): ∀ (m i:Nat),m+i=a.length->i<=b.length ->
  At Q9 0 (Zb UB (Zq (XH (a.drop i) (b.drop i)))) UE 0 39 [(0,.pv (enc a)),(1,.pv (enc b)),(2,.pv (.fn 121)),(11,.pv (enc a)),(12,.pv (.int .i64 a.length)),(13,.pv (.int .i64 i))] []:=by
 intro m
 induction m with
 | zero=>
  intro i hi hb
  have ea:a.drop i=[]:=List.drop_of_length_le (by omega)
  rw[ea]
  refine MP a b i (Xu (UI (by omega)) (XA (fun h=> ?_) fun h=> ?_))
  ·have h:a.length<b.length:=by simpa using h
   have:b.drop i=b[i]::b.drop (i+1):=List.drop_eq_getElem_cons (by omega)
   rw[this]
   exact Ur (by rw[XH])
  ·have h : ¬ a.length<b.length:=by simpa using h
   have:b.drop i=[]:=List.drop_of_length_le (by omega)
   rw[this]
   exact Ur (by rw[XH])
 | succ m ih=>
  intro i hi hb
  have hlt:i<a.length:=by omega
  have ea:a.drop i=a[i]::a.drop (i+1):=List.drop_eq_getElem_cons hlt
  rw[ea]
  refine MP a b i (Xt (Qq hlt) ⟨ZP hlt rfl,Yg hlt (XA (fun h=> ?_) fun h=> ?_)⟩)
  ·have h:b.length<=i:=by
    have:(i:Int) ≥ ((List.map (enc:Coef->PV) b).length:Int):=h
    rw[List.length_map]at this
    omega
   have:b.drop i=[]:=List.drop_of_length_le h
   rw[this]
   exact Ur (by rw[XH])
  ·have h:i<b.length:=by
    have : ¬ (i:Int) ≥ ((List.map (enc:Coef->PV) b).length:Int):=h
    rw[List.length_map]at this
    omega
   have eb:b.drop i=b[i]::b.drop (i+1):=List.drop_eq_getElem_cons h
   rw[eb]
   refine⟨ZP h rfl,Yg h ?_⟩
   rw[NB,NB]
   refine Zh (a[i],b[i],()) rfl (TQ (fun hc=> ?_) fun hc=> ?_)
   ·have hc:Gn a[i] b[i]≠0:=by simpa using hc
    exact Ur (by rw[XH,if_pos hc])
   ·have hc : ¬ Gn a[i] b[i]≠0:=by simpa using hc
    have e:XH (a[i]::a.drop (i+1)) (b[i]::b.drop (i+1))=XH (a.drop (i+1)) (b.drop (i+1)):=by rw[XH,if_neg hc]
    rw[e,next (by omega)]
    exact ih (i+1) (by omega) (by omega)
theorem a2s: ∀ a:List Coef×List Coef×FnV 121×Unit,(decide (a.1.length<=9223372036854775807)&&decide (a.2.1.length<=9223372036854775807))=true->Ze Q9 0 (Zb UB (Zq (XH a.1 a.2.1))) UE [] (Yc b0p (encL a)):=by
 rintro⟨a,b,g,⟨⟩⟩ h
 simp only[Bool.and_eq_true,decide_eq_true_eq]at h
 refine b9i a b ?_
 rw[List.length_map]
 exact OP a b h.1 a.length 0 (by omega) (by omega)
theorem a7d: ∀ a:Lin×Lin×Unit,(Z9 a.1&&Z9 a.2.1)=true->Ze Oi 0 (Zb Ra (Zq (Vx a.1 a.2.1))) a1k [] (Yc c2b (encL a)):=by
 rintro⟨a,b,⟨⟩⟩ h
 show Ze Oi 0 (Zb Ra (Zq (Vx a b))) _ _ _
 unfold Vx
 refine c5w a b ⟨Zd (a.t,b.t,({}:FnV 121),()) rfl h,Zh (a.t,b.t,({}:FnV 121),()) rfl (TQ (fun hc=> ?_) fun hc=>Zh (a.k,b.k,()) rfl ?_)⟩
 ·have hc:XH a.t b.t≠0:=by simpa using hc
  rw[if_pos hc]
  exact Ur rfl
 ·have hc : ¬ XH a.t b.t≠0:=by simpa using hc
  rw[if_neg hc]
  exact Ur rfl
theorem b6h: ∀ a:Lin×Lin×Unit,(Z9 a.1&&Z9 a.2.1)=true->Ze c3q 0 (Zb b4v (Zq (Vx a.1 a.2.1==0))) a7j [] (Yc c8c (encL a)):=by
 rintro⟨a,b,⟨⟩⟩ h
 exact d0h a b ⟨Zd (a,b,()) rfl h,Zh (a,b,()) rfl (ZA rfl)⟩
structure BoxT where
 v:List Str
 m:Int
 deriving DecidableEq
instance:Enc BoxT where
 sz:=2
 enc x:=.agg [enc x.v,enc x.m]
 dec | .agg [a,b]=>⟨dec a,dec b⟩|_=>⟨[],0⟩
 is | .agg [a,b]=>is (List Str) a&&is Int b|_=>false
 is_enc v:=by simp
 dec_enc v:=by simp
 sub p h:=by
  cases p with
  | agg xs=>
   match xs,h with
   | [a,b],h=>
    simp only[Bool.and_eq_true]at h
    exact .agg (.cons (Enc.sub a h.1).2 (.cons (Enc.sub b h.2).2 .nil))
  | _=>cases h
@[simp] theorem d4i (a b : PV) : is BoxT (.agg [a, b]) = (is (List Str) a && is Int b) := rfl
@[simp] theorem d3h (a b : PV) : (dec (.agg [a, b]) : BoxT) = ⟨dec a, dec b⟩ := rfl
structure Mono where
 c:Int
 v:List Str
 deriving DecidableEq
instance:Enc Mono where
 sz:=2
 enc x:=.agg [enc x.c,enc x.v]
 dec | .agg [a,b]=>⟨dec a,dec b⟩|_=>⟨0,[]⟩
 is | .agg [a,b]=>is Int a&&is (List Str) b|_=>false
 is_enc v:=by simp
 dec_enc v:=by simp
 sub p h:=by
  cases p with
  | agg xs=>
   match xs,h with
   | [a,b],h=>
    simp only[Bool.and_eq_true]at h
    exact .agg (.cons (Enc.sub a h.1).2 (.cons (Enc.sub b h.2).2 .nil))
  | _=>cases h
@[simp] theorem d4m (a b : PV) : is Mono (.agg [a, b]) = (is Int a && is (List Str) b) := rfl
@[simp] theorem d2l (a b : PV) : (dec (.agg [a, b]) : Mono) = ⟨dec a, dec b⟩ := rfl
structure NilS where
 deriving DecidableEq
instance:Enc NilS where
 sz:=1
 enc _:=.sl 0 true []
 dec _:=⟨⟩
 is | .sl 0 true []=>true|_=>false
 is_enc _:=rfl
 dec_enc _:=rfl
 sub p h:=by
  cases p with
  | sl s t xs=>
   cases xs with
   | nil=>cases s with
    | zero=>cases t with
     | true=>exact .refl _
     | false=>cases h
    | succ s=>cases h
   | cons x xs=>cases s <;> cases t <;> cases h
  | _=>cases h
end Go.Pl
namespace Go.Pl
open Go.RowKit
open Enc (enc dec is)
open EncL (encL decL isL)
set_option maxRecDepth 100000
abbrev d0k(ps:List PV)(k:Int×Er->Prop):Prop:=QC (fun(x:Str×Unit)=>decide (List.length (Str.s (Prod.fst x))<=281474976710656)) (fun(x:Str×Unit)=>YT (Prod.fst x)) ps k
abbrev d3v(ps:List PV)(k:Str->Prop):Prop:=QC (fun(x:Int×Unit)=>decide ((-9223372036854775808:Int)<=Prod.fst x)&&decide (Prod.fst x<=9223372036854775807)) (fun(x:Int×Unit)=>VG (Prod.fst x)) ps k
-- IMPOSSIBLE
noncomputable def YQ:IC:=Wo Proofs.Tryz.f140
def YR:List IRes:=[(.tmp 2)]
abbrev a4m:Nat:=67
def Xk:ZC:=YM [(169,.pure (preT (fun _:Str×Str×Unit=>true)) (Zj (fun x:Str×Str×Unit=>x.2.1.s.isPrefixOf x.1.s))),(170,.pure (preT (fun x:Str×Unit=>decide (x.1.s.length<=281474976710656))) (Zj (fun x:Str×Unit=>YT x.1))),(68,.pure (preT (fun x:Int×Unit=>decide (-9223372036854775808<=x.1)&&decide (x.1<=9223372036854775807))) (Zj (fun x:Int×Unit=>VG x.1)))]
theorem b6b{G:PV->Prop}(s:List UInt8)(h : ∃ y0:Bool,AV.pv (Zj (fun(x:Str×Str×Unit)=>List.isPrefixOf (Str.s x.2.1) (Str.s x.1)) [(.str s),(.str [(95:UInt8)])])=AV.pv (enc y0)∧(if (y0)=true then(decide (0<=1)&&true&&decide (Int.toNat 1<=List.length s)&&decide (List.length s<=List.length s))=true∧((d0k [(.str (List.drop (Int.toNat 1) (List.take (List.length s) s)))] fun y1=>((NP (enc y1.2)&&Prod.fst (true,PV.bool (Qy (enc y1.2))))=true∧(if (Qy (enc y1.2))=true then if (decide (y1.1>0))=true then if (decide ((↑(List.length s):Int)<=10))=true then(d3v [(.int .i64 y1.1)] fun y2=>((decide (0<=1)&&true&&decide (Int.toNat 1<=List.length s)&&decide (List.length s<=List.length s))=true∧(G ((.bool (Str.s y2==List.drop (Int.toNat 1) (List.take (List.length s) s)))))))else(G ((.bool false)))else(G ((.bool false)))else(G ((.bool false)))))))else(At Xk 0 (Zb YR G) YQ 0 67 [(0,(.pv (.str s))),(34,(.pv (.sl 1 false (Zu s)))),(35,(.pv (.int .i64 (↑(List.length (Zu s)):Int)))),(36,(.pv (.int .i64 0)))] []))):Ze Xk 0 (Zb YR G) YQ [] (Yc 67 [.str s]):=Ze.tp (dm [dv Bool,dv (Int×Er),dv Str] 70 0x2222222222220222222222022222022212271200a4222201842220294161103e452) h
theorem AQ{G:PV->Prop}(s:List UInt8)(i:Int)(h:if (decide (i<(↑(List.length (Zu s)):Int)))=true then(decide (0<=i)&&decide (Int.toNat i<List.length (Zu s))&&1==1)=true∧((decide (0+List.length [Sh.int IntKind.u8]<=List.length (PV.cells (List.getD (Zu s) (Int.toNat i) default)))&&Yr (PV.cells (List.getD (Zu s) (Int.toNat i) default)) 0 [Sh.int IntKind.u8])=true∧(if (decide (PV.asInt (List.getD (PV.cells (List.getD (Zu s) (Int.toNat i) default)) 0 default)<97))=true then if (i==0)=true then G ((.bool false))else(if (decide (PV.asInt (List.getD (PV.cells (List.getD (Zu s) (Int.toNat i) default)) 0 default)<48))=true then G ((.bool false))else(if (decide (PV.asInt (List.getD (PV.cells (List.getD (Zu s) (Int.toNat i) default)) 0 default)>57))=true then G ((.bool false))else(At Xk 0 (Zb YR G) YQ 0 67 [(0,(.pv (.str s))),(34,(.pv (.sl 1 false (Zu s)))),(35,(.pv (.int .i64 (↑(List.length (Zu s)):Int)))),(36,(.pv (.int .i64 (IntKind.wrap IntKind.i64 (i+1)))))] [])))else(if (decide (PV.asInt (List.getD (PV.cells (List.getD (Zu s) (Int.toNat i) default)) 0 default)>122))=true then if (i==0)=true then G ((.bool false))else(if (decide (PV.asInt (List.getD (PV.cells (List.getD (Zu s) (Int.toNat i) default)) 0 default)<48))=true then G ((.bool false))else(if (decide (PV.asInt (List.getD (PV.cells (List.getD (Zu s) (Int.toNat i) default)) 0 default)>57))=true then G ((.bool false))else(At Xk 0 (Zb YR G) YQ 0 67 [(0,(.pv (.str s))),(34,(.pv (.sl 1 false (Zu s)))),(35,(.pv (.int .i64 (↑(List.length (Zu s)):Int)))),(36,(.pv (.int .i64 (IntKind.wrap IntKind.i64 (i+1)))))] [])))else(At Xk 0 (Zb YR G) YQ 0 67 [(0,(.pv (.str s))),(34,(.pv (.sl 1 false (Zu s)))),(35,(.pv (.int .i64 (↑(List.length (Zu s)):Int)))),(36,(.pv (.int .i64 (IntKind.wrap IntKind.i64 (i+1)))))] []))))else(if (!s==[])=true then G ((.bool (decide ((↑(List.length s):Int)<=30))))else(G ((.bool false))))):At Xk 0 (Zb YR G) YQ 0 67 [(0,.pv (.str s)),(34,.pv (.sl 1 false (Zu s))),(35,.pv (.int .i64 (Zu s).length)),(36,.pv (.int .i64 i))] []:=At.tp (dm [] 137 0x22202222005420222222220200014222220222220064222220222222222200b422202d42220200014222220222220064222220222222222200b42222220304213107542) h
end Go.Pl
namespace Go.Pl
open Go.RowKit
open Enc (enc dec is)
open EncL (encL decL isL)
theorem P7(s:List UInt8)(hs:s.length<=281474976710656): ∀ (m i:Nat),m+i=s.length->At Xk 0 (Zb YR (Zq (Wp s i))) YQ 0 67 [(0,.pv (.str s)),(34,.pv (.sl 1 false (Zu s))),(35,.pv (.int .i64 (Zu s).length)),(36,.pv (.int .i64 i))] []:=by
 intro m
 induction m with
 | zero=>
  intro i hi
  have e:Wp s i=(!(s==[])&&decide (s.length<=30)):=by
   unfold Wp
   cases i with
   | zero=>cases s with
    | nil=>rfl
    | cons c r=>simp at hi
   | succ i=>simp only;rw[List.drop_of_length_le (show s.length<=i+1 by omega)];simp
  rw[e]
  refine AQ s i (Xu (UI (by rw[Hr];omega)) (Vt (fun h=>ZA ?_) fun h=>ZA ?_))
  ·rw[h,Bool.true_and];exact decide_eq_decide.2 (by omega)
  ·rw[h,Bool.false_and]
 | succ m ih=>
  intro i hi
  have hlt:i<s.length:=by omega
  have h:=ih (i+1) (by omega)
  refine AQ s i ?_
  rw[b6d hlt,next (by omega)]
  have stop:(lowB s[i]=false∧(i=0∨digB s[i]=false))->Zq (Wp s i) (.bool false):=fun hb=>ZA (a3y hlt hb).symm
  have go:(lowB s[i]=true∨(i≠0∧digB s[i]=true))->At Xk 0 (Zb YR (Zq (Wp s i))) YQ 0 67 [(0,.pv (.str s)),(34,.pv (.sl 1 false (Zu s))),(35,.pv (.int .i64 (Zu s).length)),(36,.pv (.int .i64 ((i+1:Nat):Int)))] []:=fun hb=>by rw[a4k hlt hb];exact h
  have rest:lowB s[i]=false->(if ((i:Int)==0)=true then Zq (Wp s i) (.bool false)else if decide ((s[i].toNat:Int)<48)=true then Zq (Wp s i) (.bool false)else if decide ((s[i].toNat:Int)>57)=true then Zq (Wp s i) (.bool false)else At Xk 0 (Zb YR (Zq (Wp s i))) YQ 0 67 [(0,.pv (.str s)),(34,.pv (.sl 1 false (Zu s))),(35,.pv (.int .i64 (Zu s).length)),(36,.pv (.int .i64 ((i+1:Nat):Int)))] []):=by
   intro hl
   refine Ub (fun h0=>stop ⟨hl,.inl (by omega)⟩) fun h0=>XA (fun h1=>stop ⟨hl,.inr (Sm (by omega))⟩) fun h1=>XA (fun h2=>stop ⟨hl,.inr (Sm (by omega))⟩) fun h2=>go (.inr ⟨by omega,X9.2 (by omega)⟩)
  refine Xt (Qq (by rw[Hr];exact hlt)) ⟨by rw[Hr];simp[hlt],by rfl,?_⟩
  refine XA (fun h1=>rest (Tu ?_)) fun h1=>XA (fun h2=>rest (Tu ?_)) fun h2=>go (.inl (a0g.2 ?_))
  ·have h1:(s[i].toNat:Int)<97:=h1
   omega
  ·have h2:(s[i].toNat:Int)>122:=h2
   omega
  ·have h1 : ¬ (s[i].toNat:Int)<97:=h1
   have h2 : ¬ (s[i].toNat:Int)>122:=h2
   omega
theorem Om: ∀ a:Str×Unit,decide (a.1.s.length<=281474976710656)=true->Ze Xk 0 (Zb YR (Zq (Yx a.1))) YQ [] (Yc a4m (encL a)):=by
 rintro⟨⟨s⟩,⟨⟩⟩ hl
 have hl:s.length<=281474976710656:=by simpa using hl
 refine b6b s (Zh (⟨s⟩,⟨[95]⟩,()) rfl (Vt (fun h=> ?_) fun h=> ?_))
 ·have h:[95].isPrefixOf s=true:=h
  obtain⟨r,rfl⟩ : ∃ r,s=95::r:=by
   cases s with
   | nil=>simp at h
   | cons c r=>
    have:95=c:=by simpa using h
    exact⟨r,by rw[this]⟩
  have e1:List.drop (Int.toNat 1) (List.take (List.length (95::r)) (95::r))=r:=by rw[List.take_of_length_le (Nat.le_refl _)];rfl
  simp only[e1]
  refine⟨by simp,Zd (⟨r⟩,()) rfl (by simp at hl ⊢;omega),Zh (⟨r⟩,()) rfl ⟨by show(NP (enc (YT ⟨r⟩).2)&&true)=true;rw[d0s];rfl,?_⟩⟩
  show if Qy (enc (YT ⟨r⟩).2)=true then(if decide ((YT ⟨r⟩).1>0)=true then(if _ then _ else Zq (Yx ⟨95::r⟩) _)else Zq (Yx ⟨95::r⟩) _)else Zq (Yx ⟨95::r⟩) _
  rw[a9e]
  by_cases h9:r.length<=9
  ·rw[<- c0f r h9,decide_eq_true h9,Bool.and_true]
   refine Vt (fun h1=>Vt (fun h2=>Xt (by simp;omega) ⟨Zd ((YT ⟨r⟩).1,()) rfl (by have:=LX ⟨r⟩;simp;omega),Zh ((YT ⟨r⟩).1,()) rfl ⟨by simp,ZA ?_⟩⟩) fun h2=>ZA ?_) fun h1=>ZA ?_
   ·rw[h1,h2];simp only[Bool.true_and,Bool.and_true];rfl
   ·rw[h2];simp
   ·rw[h1];simp
  ·rw[decide_eq_false h9,Bool.and_false]
   refine Vt (fun h1=>Vt (fun h2=>Xu (by simp;omega) (ZA rfl)) fun h2=>ZA rfl) fun h1=>ZA rfl
 ·have h:[95].isPrefixOf s=false:=h
  show At Xk 0 (Zb YR (Zq (Yx ⟨s⟩))) YQ 0 67 _ _
  rw[a3o h]
  exact P7 s hl s.length 0 (by omega)
end Go.Pl
namespace Go.Pl
end Go.Pl
namespace Go.Pl.Cm
open Go.RowKit
open Enc (enc dec is)
open EncL (encL decL isL)
structure CmpOK {α:Type} (f:α->α->Int):Prop where
 anti : ∀ a b,f b a = - f a b
 zero : ∀ a b,f a b=0 ↔ a=b
 trans : ∀ a b c,f a b<=0->f b c<=0->f a c<=0
 rng : ∀ a b,-1<=f a b∧f a b<=1
theorem CmpOK.strict{α:Type}{f:α->α->Int}(h:CmpOK f){a b c:α}(h1:f a b<0)(h2:f b c<=0):f a c<0:=by
 have h3:=h.trans a b c (by omega) h2
 by_cases h0:f a c=0
 ·obtain rfl:=(h.zero a c).1 h0
  have:=h.anti a b
  omega
 ·omega
def XR{α:Type}(f:α->α->Int):List α->List α->Int
 | [],[]=>0
 | [],_::_=> -1
 | _::_,[]=>1
 | x::l,y::m=>if f x y≠0 then f x y else XR f l m
theorem SL{α:Type}{f:α->α->Int}(h:CmpOK f): ∀ a b,XR f b a = - XR f a b
 | [],[]=>rfl
 | [],_::_=>rfl
 | _::_,[]=>rfl
 | x::l,y::m=>by
  have h1:=h.anti x y
  rw[XR,XR,h1,SL h l m]
  by_cases h0:f x y=0
  ·rw[if_neg (by omega),if_neg (by omega)]
  ·rw[if_pos (by omega),if_pos (by omega)]
theorem A7{α:Type}{f:α->α->Int}(h:CmpOK f): ∀ a b,XR f a b=0 ↔ a=b
 | [],[]=>by simp[XR]
 | [],_::_=>by simp[XR]
 | _::_,[]=>by simp[XR]
 | x::l,y::m=>by
  rw[XR,List.cons.injEq,<- h.zero x y,<- A7 h l m]
  by_cases h0:f x y=0
  ·rw[if_neg (by omega)];omega
  ·rw[if_pos (by omega)];omega
theorem NF{α:Type}{f:α->α->Int}(h:CmpOK f): ∀ a b,-1<=XR f a b∧XR f a b<=1
 | [],[]=>by simp[XR]
 | [],_::_=>by simp[XR]
 | _::_,[]=>by simp[XR]
 | x::l,y::m=>by
  rw[XR]
  split
  ·exact h.rng x y
  ·exact NF h l m
theorem CR{α:Type}{f:α->α->Int}(h:CmpOK f): ∀ a b c,XR f a b<=0->XR f b c<=0->XR f a c<=0
 | [],_,[],_,_=>by simp[XR]
 | [],_,_::_,_,_=>by simp[XR]
 | _::_,[],_,h1,_=>by simp[XR]at h1
 | _::_,_::_,[],_,h2=>by simp[XR]at h2
 | x::l,y::m,z::n,h1,h2=>by
  rw[XR]at h1 h2 ⊢
  by_cases a:f x y=0
  ·obtain rfl:=(h.zero x y).1 a
   rw[if_neg (by omega)]at h1
   by_cases b:f x z=0
   ·rw[if_neg (by omega)]at h2 ⊢
    exact CR h l m n h1 h2
   ·rw[if_pos b]at h2 ⊢
    exact h2
  ·rw[if_pos a]at h1
   by_cases b:f y z=0
   ·obtain rfl:=(h.zero y z).1 b
    rw[if_pos a]
    exact h1
   ·rw[if_pos b]at h2
    have:=h.strict (show f x y<0 by omega) h2
    rw[if_pos (by omega)]
    omega
theorem Ed{α:Type}{f:α->α->Int}(h:CmpOK f):CmpOK (XR f):=⟨SL h,A7 h,CR h,NF h⟩
theorem EQ{α β γ:Type}{f:β->β->Int}{g:γ->γ->Int}(p:α->β)(q:α->γ)(hpq : ∀ a b,p a=p b->q a=q b->a=b)(hf:CmpOK f)(hg:CmpOK g):CmpOK fun a b:α=>if f (p a) (p b)≠0 then f (p a) (p b)else g (q a) (q b):=by
 refine⟨fun a b=> ?_,fun a b=> ?_,fun a b c h1 h2=> ?_,fun a b=> ?_⟩
 ·have h1:=hf.anti (p a) (p b)
  have h2:=hg.anti (q a) (q b)
  try simp only
  by_cases h0:f (p a) (p b)=0
  ·rw[if_neg (by omega),if_neg (by omega),h2]
  ·rw[if_pos (by omega),if_pos h0,h1]
 ·try simp only
  by_cases h0:f (p a) (p b)=0
  ·rw[if_neg (by omega),hg.zero]
   exact⟨fun h=>hpq a b ((hf.zero _ _).1 h0) h,fun h=>by rw[h]⟩
  ·rw[if_pos h0]
   exact⟨fun h=>absurd h h0,fun h=>absurd ((hf.zero _ _).2 (by rw[h])) h0⟩
 ·try simp only at h1 h2 ⊢
  by_cases x:f (p a) (p b)=0
  ·have e:=(hf.zero _ _).1 x
   rw[if_neg (by omega)]at h1
   rw[e]
   by_cases y:f (p b) (p c)=0
   ·rw[if_neg (by omega)]at h2 ⊢
    exact hg.trans _ _ _ h1 h2
   ·rw[if_pos y]at h2 ⊢
    exact h2
  ·rw[if_pos x]at h1
   by_cases y:f (p b) (p c)=0
   ·have e:=(hf.zero _ _).1 y
    rw[<- e,if_pos x]
    exact h1
   ·rw[if_pos y]at h2
    have:=hf.strict (show f (p a) (p b)<0 by omega) h2
    rw[if_pos (by omega)]
    omega
 ·try simp only
  split
  ·exact hf.rng _ _
  ·exact hg.rng _ _
theorem QM:CmpOK KS:=by
 refine⟨fun a b=> ?_,fun a b=> ?_,fun a b c=> ?_,fun a b=> ?_⟩ <;> unfold KS <;> (repeat' split) <;> omega
def a2x(a b:UInt8):Int:=if a<b then -1 else if b<a then 1 else 0
theorem Qb(a b:UInt8):a2x a b=KS a.toNat b.toNat:=by
 unfold a2x KS
 simp only[UInt8.lt_iff_toNat_lt]
 repeat' split
 all_goals omega
theorem c0z:CmpOK a2x:=by
 refine⟨fun a b=> ?_,fun a b=> ?_,fun a b c=> ?_,fun a b=> ?_⟩
 ·rw[Qb,Qb];exact QM.anti _ _
 ·rw[Qb,QM.zero]
  exact⟨fun h=>UInt8.toNat_inj.1 (by omega),fun h=>by rw[h]⟩
 ·rw[Qb,Qb,Qb];exact QM.trans _ _ _
 ·rw[Qb];exact QM.rng _ _
theorem M5: ∀ a b:List UInt8,Lib.compareBytes a b=XR a2x a b
 | [],[]=>rfl
 | [],_::_=>rfl
 | _::_,[]=>rfl
 | x::l,y::m=>by
  rw[Lib.compareBytes,XR,M5 l m]
  unfold a2x
  by_cases h1:x<y
  ·simp[h1]
  ·by_cases h2:y<x
   ·simp[h1,h2]
   ·simp[h1,h2]
theorem b4k:CmpOK Lib.compareBytes:=by
 have:Lib.compareBytes=XR a2x:=by funext a b;exact M5 a b
 rw[this]
 exact Ed c0z
theorem b6j:CmpOK Gn:=EQ (fun x:Coef=>x.v.s) (fun x:Coef=>x.c) (fun a b h1 h2=>by
 obtain⟨⟨s⟩,c⟩:=a
 obtain⟨⟨s'⟩,c'⟩:=b
 simp only at h1 h2
 rw[h1,h2]) b4k QM
theorem N7: ∀ a b:List Coef,XH a b=XR Gn a b
 | [],[]=>rfl
 | [],_::_=>rfl
 | _::_,[]=>rfl
 | x::l,y::m=>by rw[XH,XR,N7 l m]
theorem b0k:CmpOK XH:=by
 have:XH=XR Gn:=by funext a b;exact N7 a b
 rw[this]
 exact Ed b6j
theorem a3w:CmpOK Vx:=EQ (fun x:Lin=>x.t) (fun x:Lin=>x.k) (fun a b h1 h2=>by
 obtain⟨k,t⟩:=a
 obtain⟨k',t'⟩:=b
 simp only at h1 h2
 rw[h1,h2]) b0k QM
theorem cmpLin_dec(a b:Lin):(Vx a b==0)=decide (a=b):=by
 have:=a3w.zero a b
 by_cases h:a=b
 ·rw[this.2 h,decide_eq_true h];rfl
 ·rw[decide_eq_false h]
  exact beq_eq_false_iff_ne.2 fun e=>h (this.1 e)
end Go.Pl.Cm
namespace Go.Pl
open Go.RowKit
open Enc (enc dec is)
open EncL (encL decL isL)
set_option maxRecDepth 100000
noncomputable def Gx:IC:=Wo Proofs.Tryz.f61
def Gg:List IRes:=[(.tmp 4)]
abbrev c7o:Nat:=26
noncomputable def Tc:ZC:=YM []
theorem d0o{G:PV->Prop}(a b:List Int)(h:if ((↑(List.length (List.map enc a)):Int) != (↑(List.length (List.map enc b)):Int))=true then G ((.bool false))else(At Tc 0 (Zb Gg G) Gx 0 26 [(0,(.pv (.sl 1 false (List.map enc a)))),(1,(.pv (.sl 1 false (List.map enc b)))),(12,(.pv (.int .i64 (↑(List.length (List.map enc a)):Int)))),(13,(.pv (.int .i64 0)))] [])):Ze Tc 0 (Zb Gg G) Gx [] (Yc 26 [enc a,enc b]):=Ze.tp (dm [] 8 0x142) h
theorem b4c{G:PV->Prop}(a b:List Int)(i:Int)(h:if (decide (i<(↑(List.length (List.map enc a)):Int)))=true then(decide (0<=i)&&decide (Int.toNat i<List.length (List.map enc a))&&Enc.sz Int==1)=true∧(∃ y0:Int,AV.pv (PV.rptr (PV.cells (List.getD (List.map enc a) (Int.toNat i) default)))=AV.pv (PV.rptr (PV.cells ((enc) y0)))∧((decide (0<=i)&&decide (Int.toNat i<List.length (List.map enc b))&&Enc.sz Int==1)=true∧(∃ y1:Int,AV.pv (PV.rptr (PV.cells (List.getD (List.map enc b) (Int.toNat i) default)))=AV.pv (PV.rptr (PV.cells ((enc) y1)))∧(if (PV.asInt (List.getD (PV.cells (enc y0)) 0 default) != PV.asInt (List.getD (PV.cells (enc y1)) 0 default))=true then G ((.bool false))else(At Tc 0 (Zb Gg G) Gx 0 26 [(0,(.pv (.sl 1 false (List.map enc a)))),(1,(.pv (.sl 1 false (List.map enc b)))),(12,(.pv (.int .i64 (↑(List.length (List.map enc a)):Int)))),(13,(.pv (.int .i64 (IntKind.wrap IntKind.i64 (i+1)))))] [])))))else(G ((.bool true)))):At Tc 0 (Zb Gg G) Gx 0 26 [(13,.pv (.int .i64 i)),(12,.pv (.int .i64 (a.map (enc:Int->PV)).length)),(0,.pv (enc a)),(1,.pv (enc b))] []:=At.tp (dm [dr Int] 21 0x200014225125100e42) h
noncomputable def H5:IC:=Wo Proofs.Tryz.f62
def Hq:List IRes:=[(.tmp 6)]
abbrev c5o:Nat:=32
noncomputable def Tt:ZC:=YM [(63,.pure (preT (fun x:Lin×Lin×Unit=>Z9 x.1&&Z9 x.2.1)) (Zj (fun x:Lin×Lin×Unit=>decide (x.1=x.2.1))))]
theorem d3a{G:PV->Prop}(a b:List Lin)(h:if ((↑(List.length (List.map enc a)):Int) != (↑(List.length (List.map enc b)):Int))=true then G ((.bool false))else(At Tt 0 (Zb Hq G) H5 0 32 [(1,(.pv (.sl 2 false (List.map enc b)))),(2,(.pv (.fn 63))),(15,(.pv (.sl 2 false (List.map enc a)))),(16,(.pv (.int .i64 (↑(List.length (List.map enc a)):Int)))),(17,(.pv (.int .i64 0)))] [])):Ze Tt 0 (Zb Hq G) H5 [] (Yc 32 [enc a,enc b,.fn 63]):=Ze.tp (dm [] 8 0x142) h
theorem b3s{G:PV->Prop}(a b:List Lin)(i:Int)(h:if (decide (i<(↑(List.length (List.map enc a)):Int)))=true then(decide (0<=i)&&decide (Int.toNat i<List.length (List.map enc a))&&Enc.sz Lin==2)=true∧(∃ y0:Lin,AV.pv (PV.rptr (PV.cells (List.getD (List.map enc a) (Int.toNat i) default)))=AV.pv (PV.rptr (PV.cells ((enc) y0)))∧((decide (0<=i)&&decide (Int.toNat i<List.length (List.map enc b))&&Enc.sz Lin==2)=true∧(∃ y1:Lin,AV.pv (PV.rptr (PV.cells (List.getD (List.map enc b) (Int.toNat i) default)))=AV.pv (PV.rptr (PV.cells ((enc) y1)))∧((Go.Pl.preT (fun(x:Lin×Lin×Unit)=>Z9 x.1&&Z9 x.2.1) [(.agg [(.int .i64 (PV.asInt (List.getD (PV.cells (enc y0)) 0 default))),(.sl 2 false (PV.asXs (List.getD (PV.cells (enc y0)) (0+1) default)))]),(.agg [(.int .i64 (PV.asInt (List.getD (PV.cells (enc y1)) 0 default))),(.sl 2 false (PV.asXs (List.getD (PV.cells (enc y1)) (0+1) default)))])])=true∧(∃ y2:Bool,AV.pv (Zj (fun(x:Lin×Lin×Unit)=>decide (x.1=x.2.1)) [(.agg [(.int .i64 (PV.asInt (List.getD (PV.cells (enc y0)) 0 default))),(.sl 2 false (PV.asXs (List.getD (PV.cells (enc y0)) (0+1) default)))]),(.agg [(.int .i64 (PV.asInt (List.getD (PV.cells (enc y1)) 0 default))),(.sl 2 false (PV.asXs (List.getD (PV.cells (enc y1)) (0+1) default)))])])=AV.pv (enc y2)∧(if (!y2)=true then G ((.bool false))else(At Tt 0 (Zb Hq G) H5 0 32 [(1,(.pv (.sl 2 false (List.map enc b)))),(2,(.pv (.fn 63))),(15,(.pv (.sl 2 false (List.map enc a)))),(16,(.pv (.int .i64 (↑(List.length (List.map enc a)):Int)))),(17,(.pv (.int .i64 (IntKind.wrap IntKind.i64 (i+1)))))] [])))))))else(G ((.bool true)))):At Tt 0 (Zb Hq G) H5 0 32 [(17,.pv (.int .i64 i)),(16,.pv (.int .i64 (a.map (enc:Lin->PV)).length)),(15,.pv (enc a)),(1,.pv (enc b)),(2,.pv (.fn 63))] []:=At.tp (dm [dr Lin,dv Bool] 22 0x2000146125125100f42) h
noncomputable def Gc:IC:=Wo Proofs.Tryz.f64
def Hw:List IRes:=[(.tmp 6)]
abbrev c5l:Nat:=32
noncomputable def SB(N:Nat):ZC:=YM [(24,.pure (preT (fun x:Tm×Tm×Unit=>(tW x.1&&tW x.2.1)&&decide (ZO x.1<N))) (Zj (fun x:Tm×Tm×Unit=>K5 x.1 x.2.1)))]
theorem d3y{G:PV->Prop}(N:Nat)(a b:List Tm)(h:if ((↑(List.length (List.map enc a)):Int) != (↑(List.length (List.map enc b)):Int))=true then G ((.bool false))else(At (SB N) 0 (Zb Hw G) Gc 0 32 [(1,(.pv (.sl 10 false (List.map enc b)))),(2,(.pv (.fn 24))),(15,(.pv (.sl 10 false (List.map enc a)))),(16,(.pv (.int .i64 (↑(List.length (List.map enc a)):Int)))),(17,(.pv (.int .i64 0)))] [])):Ze (SB N) 0 (Zb Hw G) Gc [] (Yc 32 [enc a,enc b,.fn 24]):=Ze.tp (dm [] 8 0x142) h
theorem b5y{G:PV->Prop}(N:Nat)(a b:List Tm)(i:Int)(h:if (decide (i<(↑(List.length (List.map enc a)):Int)))=true then(decide (0<=i)&&decide (Int.toNat i<List.length (List.map enc a))&&Enc.sz Tm==10)=true∧(∃ y0:Tm,AV.pv (PV.rptr (PV.cells (List.getD (List.map enc a) (Int.toNat i) default)))=AV.pv (PV.rptr (PV.cells ((enc) y0)))∧(shT y0=true∧((decide (0<=i)&&decide (Int.toNat i<List.length (List.map enc b))&&Enc.sz Tm==10)=true∧(∃ y1:Tm,AV.pv (PV.rptr (PV.cells (List.getD (List.map enc b) (Int.toNat i) default)))=AV.pv (PV.rptr (PV.cells ((enc) y1)))∧(shT y1=true∧((Go.Pl.preT (fun(x:Tm×Tm×Unit)=>tW x.1&&tW x.2.1&&decide (ZO x.1<N)) [Pn y0,Pn y1])=true∧(∃ y2:Bool,AV.pv (Zj (fun(x:Tm×Tm×Unit)=>K5 x.1 x.2.1) [Pn y0,Pn y1])=AV.pv (enc y2)∧(if (!y2)=true then G ((.bool false))else(At (SB N) 0 (Zb Hw G) Gc 0 32 [(1,(.pv (.sl 10 false (List.map enc b)))),(2,(.pv (.fn 24))),(15,(.pv (.sl 10 false (List.map enc a)))),(16,(.pv (.int .i64 (↑(List.length (List.map enc a)):Int)))),(17,(.pv (.int .i64 (IntKind.wrap IntKind.i64 (i+1)))))] [])))))))))else(G ((.bool true)))):At (SB N) 0 (Zb Hw G) Gc 0 32 [(17,.pv (.int .i64 i)),(16,.pv (.int .i64 (a.map (enc:Tm->PV)).length)),(15,.pv (enc a)),(1,.pv (enc b)),(2,.pv (.fn 24))] []:=At.tp (dm [dr Tm,dv Bool] 22 0x2000146115115100f42) h
noncomputable def b2x:IC:=Wo Proofs.Tryz.f24
def a6d:List IRes:=[(.tmp 4)]
abbrev c5q:Nat:=72
noncomputable def c4y(N:Nat):ZC:=YM [(61,.pure (preT (fun x:List Int×List Int×Unit=>Z8 x.1)) (Zj (fun x:List Int×List Int×Unit=>decide (x.1=x.2.1)))),(62,.pure (preT (fun x:List Lin×List Lin×FnV 63×Unit=>Z8 x.1&&x.1.all Z9&&x.2.1.all Z9)) (Zj (fun x:List Lin×List Lin×FnV 63×Unit=>decide (x.1=x.2.1)))),(64,.pure (preT (fun x:List Tm×List Tm×FnV 24×Unit=>(tsW x.1&&tsW x.2.1)&&decide (ZY x.1<N))) (Zj (fun x:List Tm×List Tm×FnV 24×Unit=>VO x.1 x.2.1)))]
theorem d1y{G:PV->Prop}(N:Nat)(n:Nd)(ks:List Tm)(m:Nd)(ls:List Tm)(h:if (Nd.kind n==Nd.kind m)=true then if (Str.s (Nd.name n)==Str.s (Nd.name m))=true then if (Nd.num n==Nd.num m)=true then if (Str.s (Nd.elem n)==Str.s (Nd.elem m))=true then(Go.Pl.preT (fun(x:List Int×List Int×Unit)=>Z8 x.1) [(.sl 1 false (List.map enc (Nd.dims n))),(.sl 1 false (List.map enc (Nd.dims m)))])=true∧(∃ y0:Bool,AV.pv (Zj (fun(x:List Int×List Int×Unit)=>decide (x.1=x.2.1)) [(.sl 1 false (List.map enc (Nd.dims n))),(.sl 1 false (List.map enc (Nd.dims m)))])=AV.pv (enc y0)∧(if (y0)=true then(Go.Pl.preT (fun(x:List Int×List Int×Unit)=>Z8 x.1) [(.sl 1 false (List.map enc (Nd.data n))),(.sl 1 false (List.map enc (Nd.data m)))])=true∧(∃ y1:Bool,AV.pv (Zj (fun(x:List Int×List Int×Unit)=>decide (x.1=x.2.1)) [(.sl 1 false (List.map enc (Nd.data n))),(.sl 1 false (List.map enc (Nd.data m)))])=AV.pv (enc y1)∧(if (y1)=true then(Go.Pl.preT (fun(x:List Lin×List Lin×FnV 63×Unit)=>Z8 x.1&&List.all x.1 Z9&&List.all x.2.1 Z9) [(.sl 2 false (List.map enc (Nd.sizes n))),(.sl 2 false (List.map enc (Nd.sizes m))),(.fn 63)])=true∧(∃ y2:Bool,AV.pv (Zj (fun(x:List Lin×List Lin×FnV 63×Unit)=>decide (x.1=x.2.1)) [(.sl 2 false (List.map enc (Nd.sizes n))),(.sl 2 false (List.map enc (Nd.sizes m))),(.fn 63)])=AV.pv (enc y2)∧(if (y2)=true then(Go.Pl.preT (fun(x:List Int×List Int×Unit)=>Z8 x.1) [(.sl 1 false (List.map enc (Nd.ranks n))),(.sl 1 false (List.map enc (Nd.ranks m)))])=true∧(∃ y3:Bool,AV.pv (Zj (fun(x:List Int×List Int×Unit)=>decide (x.1=x.2.1)) [(.sl 1 false (List.map enc (Nd.ranks n))),(.sl 1 false (List.map enc (Nd.ranks m)))])=AV.pv (enc y3)∧(if (y3)=true then(Go.Pl.preT (fun(x:List Tm×List Tm×FnV 24×Unit)=>tsW x.1&&tsW x.2.1&&decide (ZY x.1<N)) [(.sl 10 false (List.map enc ks)),(.sl 10 false (List.map enc ls)),(.fn 24)])=true∧(∃ y4:Bool,AV.pv (Zj (fun(x:List Tm×List Tm×FnV 24×Unit)=>VO x.1 x.2.1) [(.sl 10 false (List.map enc ks)),(.sl 10 false (List.map enc ls)),(.fn 24)])=AV.pv (enc y4)∧(G ((.bool y4))))else(G ((.bool false)))))else(G ((.bool false)))))else(G ((.bool false)))))else(G ((.bool false)))))else(G ((.bool false)))else(G ((.bool false)))else(G ((.bool false)))else(G ((.bool false)))):Ze (c4y N) 0 (Zb a6d G) b2x [] (Yc 72 [.agg [enc n.kind,enc n.line,enc n.name,enc n.num,enc n.elem,enc n.dims,enc n.data,enc n.sizes,enc n.ranks,enc ks],.agg [enc m.kind,enc m.line,enc m.name,enc m.num,enc m.elem,enc m.dims,enc m.data,enc m.sizes,enc m.ranks,enc ls]]):=Ze.tp (dm [dv Bool] 334 0x22222222222222222222222222222222222222222222222222222022222222222222222222222222222222222222222222222022222222222222222222222222222222222222222022222222222222222222222222222222202222222222222222222222222022222222222222222022222222222022222025122220084251222201942512222030425122222204f42512222220764222222220a442222220d8422222211242) h
noncomputable def b4j:IC:=Wo Proofs.Tryz.f18
def a8i:List IRes:=[(.tmp 4)]
abbrev c8n:Nat:=10
noncomputable def c3b:ZC:=YM [(30,.pure (preT (fun x:Tm×Unit=>tW x.1)) (Zj (fun x:Tm×Unit=>Y5 x.1))),(24,.pure (preT (fun x:Tm×Tm×Unit=>tW x.1&&tW x.2.1)) (Zj (fun x:Tm×Tm×Unit=>K5 x.1 x.2.1)))]
theorem d1c{G:PV->Prop}(n:Nd)(ks:List Tm)(m:Nd)(ls:List Tm)(h:(Go.Pl.preT (fun(x:Tm×Unit)=>tW x.1) (EU n ks))=true∧(∃ y0:Tm,AV.pv (Zj (fun(x:Tm×Unit)=>Y5 x.1) (EU n ks))=AV.pv (enc y0)∧((Go.Pl.preT (fun(x:Tm×Unit)=>tW x.1) [(.agg [(.int .i64 (Nd.kind m)),(.int .i64 (Nd.line m)),(.str (Str.s (Nd.name m))),(.int .i64 (Nd.num m)),(.str (Str.s (Nd.elem m))),(.sl 1 false (List.map enc (Nd.dims m))),(.sl 1 false (List.map enc (Nd.data m))),(.sl 2 false (List.map enc (Nd.sizes m))),(.sl 1 false (List.map enc (Nd.ranks m))),(.sl 10 false (List.map enc ls))])])=true∧(∃ y1:Tm,AV.pv (Zj (fun(x:Tm×Unit)=>Y5 x.1) [(.agg [(.int .i64 (Nd.kind m)),(.int .i64 (Nd.line m)),(.str (Str.s (Nd.name m))),(.int .i64 (Nd.num m)),(.str (Str.s (Nd.elem m))),(.sl 1 false (List.map enc (Nd.dims m))),(.sl 1 false (List.map enc (Nd.data m))),(.sl 2 false (List.map enc (Nd.sizes m))),(.sl 1 false (List.map enc (Nd.ranks m))),(.sl 10 false (List.map enc ls))])])=AV.pv (enc y1)∧((Go.Pl.preT (fun(x:Tm×Tm×Unit)=>tW x.1&&tW x.2.1) [enc y0,enc y1])=true∧(∃ y2:Bool,AV.pv (Zj (fun(x:Tm×Tm×Unit)=>K5 x.1 x.2.1) [enc y0,enc y1])=AV.pv (enc y2)∧(G ((.bool y2))))))))):Ze c3b 0 (Zb a8i G) b4j [] (Yc 10 [.agg [enc n.kind,enc n.line,enc n.name,enc n.num,enc n.elem,enc n.dims,enc n.data,enc n.sizes,enc n.ranks,enc ks],.agg [enc m.kind,enc m.line,enc m.name,enc m.num,enc m.elem,enc m.dims,enc m.data,enc m.sizes,enc m.ranks,enc ls]]):=Ze.tp (dm [dv Tm,dv Bool] 8 0x615151) h
end Go.Pl
namespace Go.Pl
open Go.RowKit
open Enc (enc dec is)
open EncL (encL decL isL)
theorem EW{α:Type}[BEq α][LawfulBEq α]{x y:α}{P Q:Prop}(h1:x=y->P)(h2:x≠y->Q):if (x==y)=true then P else Q:=by by_cases h:x=y;rw[if_pos (by simpa using h)];exact h1 h;rw[if_neg (by simpa using h)];exact h2 h
theorem b3g{l:Lin}(h:VK l=true):Z9 l=true:=by unfold VK at h;rw[Bool.and_eq_true]at h;exact h.1
theorem OM{ks:List Tm}{k:Tm}(h:k∈ks):ZO k<=ZY ks:=by
 induction ks with
 | nil=>cases h
 | cons a l ih=>
  rw[ZY]
  rcases List.mem_cons.1 h with rfl|h
  ·omega
  ·have:=ih h;omega
theorem b5e(a b:List Int)(ha:a.length<=9223372036854775807)(hab:a.length=b.length): ∀ (k i:Nat),k+i=a.length ->
  At Tc 0 (Zb Gg (Zq (decide (a.drop i=b.drop i)))) Gx 0 26 [(0,.pv (enc a)),(1,.pv (enc b)),(12,.pv (.int .i64 (a.map (enc:Int->PV)).length)),(13,.pv (.int .i64 i))] []:=by
 intro k
 induction k with
 | zero=>
  intro i hi
  rw[List.drop_of_length_le (by omega),List.drop_of_length_le (by omega)]
  exact b4c a b i (Xu (WO (by omega)) (ZA rfl))
 | succ k ih=>
  intro i hi
  have hlt:i<a.length:=by omega
  have hlt2:i<b.length:=by omega
  have h:=ih (i+1) (by omega)
  refine b4c a b i (Xt (Wt hlt) ⟨ZP hlt rfl,Yg hlt ⟨ZP hlt2 rfl,Yg hlt2 ?_⟩⟩)
  show if (a[i] != b[i])=true then _ else _
  refine Mr (fun e=>ZA ?_) fun e=> ?_
  ·rw[List.drop_eq_getElem_cons hlt,List.drop_eq_getElem_cons hlt2,BJ e]
  ·rw[next (by omega),List.drop_eq_getElem_cons hlt,List.drop_eq_getElem_cons hlt2,BV e]
   exact h
theorem b8t: ∀ x:List Int×List Int×Unit,Z8 x.1=true->Ze Tc 0 (Zb Gg (Zq (decide (x.1=x.2.1)))) Gx [] (Yc c7o (encL x)):=by
 rintro⟨a,b,⟨⟩⟩ h
 have h:=of_decide_eq_true h
 refine d0o a b (CO (fun e=>ZA (b1n e).symm) fun e=> ?_)
 exact(b5e a b h e a.length 0 (by omega))
theorem a7b(a b:List Lin)(ha:a.length<=9223372036854775807)(wa:a.all Z9=true)(wb:b.all Z9=true)(hab:a.length=b.length): ∀ (k i:Nat),k+i=a.length ->
  At Tt 0 (Zb Hq (Zq (decide (a.drop i=b.drop i)))) H5 0 32 [(1,.pv (enc b)),(2,.pv (.fn 63)),(15,.pv (enc a)),(16,.pv (.int .i64 (a.map (enc:Lin->PV)).length)),(17,.pv (.int .i64 i))] []:=by
 intro k
 induction k with
 | zero=>
  intro i hi
  rw[List.drop_of_length_le (by omega),List.drop_of_length_le (by omega)]
  exact b3s a b i (Xu (WO (by omega)) (ZA rfl))
 | succ k ih=>
  intro i hi
  have h1:i<a.length:=by omega
  have h2:i<b.length:=by omega
  have h:=ih (i+1) (by omega)
  have ga:Z9 a[i]=true:=List.all_eq_true.1 wa _ (List.getElem_mem h1)
  have gb:Z9 b[i]=true:=List.all_eq_true.1 wb _ (List.getElem_mem h2)
  refine b3s a b i (Xt (Wt h1) ⟨ZP h1 rfl,Yg h1 ⟨ZP h2 rfl,Yg h2 ⟨Zd (a[i],b[i],()) rfl (by show(Z9 _&&Z9 _)=true;rw[ga,gb];rfl),Zh (a[i],b[i],()) rfl (Ve (fun e=>ZA ?_) fun e=> ?_)⟩⟩⟩)
  ·rw[List.drop_eq_getElem_cons h1,List.drop_eq_getElem_cons h2,BJ (of_decide_eq_false e)]
  ·rw[next (by omega),List.drop_eq_getElem_cons h1,List.drop_eq_getElem_cons h2,BV (of_decide_eq_true e)]
   exact h
theorem b6k: ∀ x:List Lin×List Lin×FnV 63×Unit,(Z8 x.1&&x.1.all Z9&&x.2.1.all Z9)=true->Ze Tt 0 (Zb Hq (Zq (decide (x.1=x.2.1)))) H5 [] (Yc c5o (encL x)):=by
 rintro⟨a,b,⟨⟩,⟨⟩⟩ h
 simp only[Bool.and_eq_true]at h
 obtain⟨⟨h,wa⟩,wb⟩:=h
 have h:=of_decide_eq_true h
 refine d3a a b (CO (fun e=>ZA (b1n e).symm) fun e=> ?_)
 exact(a7b a b h wa wb e a.length 0 (by omega))
theorem Rn{ts:List Tm}(h:tsW ts=true):ts.length<=1048576∧ ∀ k∈ts,tW k=true:=by
 have h:Xg ts<=1048576:=of_decide_eq_true h
 exact⟨by have:=Nu ts;omega,fun k hk=>decide_eq_true (Nat.le_trans (P9 hk) h)⟩
theorem b1a(N:Nat)(a b:List Tm)(ha:a.length<=1048576)(wa : ∀ k∈a,tW k=true)(wb : ∀ k∈b,tW k=true)(hd:ZY a<N)(hab:a.length=b.length): ∀ (k i:Nat),k+i=a.length ->
  At (SB N) 0 (Zb Hw (Zq (VO (a.drop i) (b.drop i)))) Gc 0 32 [(1,.pv (enc b)),(2,.pv (.fn 24)),(15,.pv (enc a)),(16,.pv (.int .i64 (a.map (enc:Tm->PV)).length)),(17,.pv (.int .i64 i))] []:=by
 intro k
 induction k with
 | zero=>
  intro i hi
  rw[List.drop_of_length_le (by omega),List.drop_of_length_le (by omega)]
  exact b5y N a b i (Xu (WO (by omega)) (ZA rfl))
 | succ k ih=>
  intro i hi
  have h1:i<a.length:=by omega
  have h2:i<b.length:=by omega
  have h:=ih (i+1) (by omega)
  have hk:=OM (List.getElem_mem h1)
  refine b5y N a b i (Xt (Wt h1) ⟨ZP h1 rfl,Yg h1 ⟨Vy _,ZP h2 rfl,Yg h2 ⟨Vy _,Zd (a[i],b[i],()) (a3k _ _) (by
   show(tW _&&tW _&&decide _)=true
   rw[wa _ (List.getElem_mem h1),wb _ (List.getElem_mem h2),decide_eq_true (show ZO a[i]<N by omega)];rfl),Zh (a[i],b[i],()) (a3k _ _) (Ve (fun e=>ZA ?_) fun e=> ?_)⟩⟩⟩)
  ·have e:K5 a[i] b[i]=false:=e
   rw[List.drop_eq_getElem_cons h1,List.drop_eq_getElem_cons h2,VO,e];rfl
  ·have e:K5 a[i] b[i]=true:=e
   rw[next (by omega),List.drop_eq_getElem_cons h1,List.drop_eq_getElem_cons h2,VO,e,Bool.true_and]
   exact h
theorem c2l(N:Nat): ∀ x:List Tm×List Tm×FnV 24×Unit,((tsW x.1&&tsW x.2.1)&&decide (ZY x.1<N))=true->Ze (SB N) 0 (Zb Hw (Zq (VO x.1 x.2.1))) Gc [] (Yc c5l (encL x)):=by
 rintro⟨a,b,⟨⟩,⟨⟩⟩ h
 simp only[Bool.and_eq_true,decide_eq_true_eq]at h
 obtain⟨⟨wa,wb⟩,hd⟩:=h
 refine d3y N a b (CO (fun e=>ZA (XU fun h=>e (Jb h))) fun e=> ?_)
 exact(b1a N a b (Rn wa).1 (Rn wa).2 (Rn wb).2 hd e a.length 0 (by omega))
theorem b2y{n:Nd}{ks:List Tm}(h:tW (.mk n ks)=true):tsW ks=true:=by
 have h:VN (.mk n ks)<=1048576:=of_decide_eq_true h
 rw[VN]at h
 exact decide_eq_true (by omega)
theorem a0m{α:Type}{l:List α}(h:l.length<=1048576):Z8 l=true:=decide_eq_true (by omega)
theorem a1o{n:Nd}{ks:List Tm}(h:tW (.mk n ks)=true):n.sizes.all Z9=true:=List.all_eq_true.2 fun l hl=>b3g (Nn h l hl)
theorem b9z(N:Nat): ∀ x:Tm×Tm×Unit,((tW x.1&&tW x.2.1)&&decide (ZO x.1<N+1))=true->Ze (c4y N) 0 (Zb a6d (Zq (K5 x.1 x.2.1))) b2x [] (Yc c5q (encL x)):=by
 rintro⟨⟨n,ks⟩,⟨m,ls⟩,⟨⟩⟩ h
 simp only[Bool.and_eq_true,decide_eq_true_eq]at h
 obtain⟨⟨hw,hv⟩,hd⟩:=h
 have hd:ZO (.mk n ks)<N+1:=hd
 rw[ZO]at hd
 have hn:=Fs hw
 rw[<- a4b]
 refine d1y N n ks m ls (EW (fun k1=> ?_) fun k=>ZA (XU fun h=>k (Yj.1 h).1.1))
 refine EW (fun k2=> ?_) fun k=>ZA (XU fun h=>k (by rw[(Yj.1 h).1.2.1]))
 refine EW (fun k3=> ?_) fun k=>ZA (XU fun h=>k (Yj.1 h).1.2.2.1)
 refine EW (fun k4=> ?_) fun k=>ZA (XU fun h=>k (by rw[(Yj.1 h).1.2.2.2.1]))
 refine⟨Zd (n.dims,m.dims,()) rfl (a0m hn.dims),Zh (n.dims,m.dims,()) rfl (Vt (fun k5=> ?_) fun k=>ZA (XU fun h=>of_decide_eq_false k (Yj.1 h).1.2.2.2.2.1))⟩
 refine⟨Zd (n.data,m.data,()) rfl (a0m hn.data),Zh (n.data,m.data,()) rfl (Vt (fun k6=> ?_) fun k=>ZA (XU fun h=>of_decide_eq_false k (Yj.1 h).1.2.2.2.2.2.1))⟩
 have hs:(Z8 n.sizes&&n.sizes.all Z9&&m.sizes.all Z9)=true:=by rw[a0m hn.sizes,a1o hw,a1o hv];rfl
 refine⟨Zd (α:=List Lin×List Lin×FnV 63×Unit) (n.sizes,m.sizes,⟨()⟩,()) rfl hs,Zh (α:=List Lin×List Lin×FnV 63×Unit) (n.sizes,m.sizes,⟨()⟩,()) rfl (Vt (fun k7=> ?_) fun k=>ZA (XU fun h=>of_decide_eq_false k (Yj.1 h).1.2.2.2.2.2.2.1))⟩
 refine⟨Zd (n.ranks,m.ranks,()) rfl (a0m hn.ranks),Zh (n.ranks,m.ranks,()) rfl (Vt (fun k8=> ?_) fun k=>ZA (XU fun h=>of_decide_eq_false k (Yj.1 h).1.2.2.2.2.2.2.2))⟩
 have hk:(tsW ks&&tsW ls&&decide (ZY ks<N))=true:=by rw[b2y hw,b2y hv,decide_eq_true (show ZY ks<N by omega)];rfl
 refine⟨Zd (α:=List Tm×List Tm×FnV 24×Unit) (ks,ls,⟨()⟩,()) rfl hk,Zh (α:=List Tm×List Tm×FnV 24×Unit) (ks,ls,⟨()⟩,()) rfl (ZA ?_)⟩
 show VO ks ls=K5 (.mk n ks) (.mk m ls)
 rw[Bool.eq_iff_iff,Yj]
 exact⟨fun h=>⟨⟨k1,stt k2,k3,stt k4,of_decide_eq_true k5,of_decide_eq_true k6,of_decide_eq_true k7,of_decide_eq_true k8⟩,h⟩,fun h=>h.2⟩
theorem c1w: ∀ x:Tm×Tm×Unit,(tW x.1&&tW x.2.1&&tW (Y5 x.1)&&tW (Y5 x.2.1))=true->Ze c3b 0 (Zb a8i (Zq (RX x.1 x.2.1))) b4j [] (Yc c8n (encL x)):=by
 rintro⟨⟨n,ks⟩,⟨m,ls⟩,⟨⟩⟩ h
 simp only[Bool.and_eq_true]at h
 obtain⟨⟨⟨h1,h2⟩,h3⟩,h4⟩:=h
 rw[<- a4b]
 have e1:([ndC n ks]:List PV)=encL ((Tm.mk n ks,()):Tm×Unit):=by rw[Wh];rfl
 have e2:([ndC m ls]:List PV)=encL ((Tm.mk m ls,()):Tm×Unit):=by rw[Wh];rfl
 refine d1c n ks m ls ⟨Zd (.mk n ks,()) e1 h1,Zh (.mk n ks,()) e1 ⟨Zd (.mk m ls,()) e2 h2,Zh (.mk m ls,()) e2 ⟨Zd (Y5 (.mk n ks),Y5 (.mk m ls),()) rfl ?_,Zh (Y5 (.mk n ks),Y5 (.mk m ls),()) rfl (ZA rfl)⟩⟩⟩
 show(tW _&&tW _)=true
 rw[h3,h4];rfl
end Go.Pl
namespace Go.Pl
open Go.RowKit
open Enc (enc dec is)
open EncL (encL decL isL)
set_option maxRecDepth 100000
noncomputable def b4i:IC:=Wo Proofs.Tryz.f50
def b5x:List IRes:=[(.cell true 10 2)]
abbrev c6s:Nat:=8
noncomputable def c4s:ZC:=YM [(51,.pure (preT (fun _:Str×Unit=>true)) (Zj (fun x:Str×Unit=>vT x.1)))]
theorem c9v{G:PV->Prop}(s:List UInt8)(h : ∃ y0:Tm,AV.pv (Zj (fun(x:Str×Unit)=>vT x.1) [(.str s)])=AV.pv (enc y0)∧(∃ y1:Tm,AV.pv (Zj (fun(x:Str×Unit)=>vT x.1) [(.str [(118:UInt8),(49:UInt8)])])=AV.pv (enc y1)∧((List.all [enc y0,enc y1] fun(x:PV)=>List.length (PV.cells x)==10&&PV.cellsOk x)=true∧(G ((.agg [(.int .i64 6),(.int .i64 0),(.str [(97:UInt8),(100:UInt8),(100:UInt8)]),(.int .i64 0),(.str []),(.sl 0 true []),(.sl 0 true []),(.sl 0 true []),(.sl 0 true []),(.sl 10 false [enc y0,enc y1])])))))):Ze c4s 0 (Zb b5x G) b4i [] (Yc 8 [.str s]):=Ze.tp (dm [dv Tm] 8 0x215252) h
noncomputable def b4t:IC:=Wo Proofs.Tryz.f12
def b6f:List IRes:=[(.tmp 0)]
abbrev c7i:Nat:=39
noncomputable def c4b:ZC:=YM [(51,.pure (preT (fun _:Str×Unit=>true)) (Zj (fun x:Str×Unit=>vT x.1))),(16,.pure (preT (fun _:Str×Tm×Tm×Unit=>true)) (Zj (fun x:Str×Tm×Tm×Unit=>Vp (FR x.1 x.2.1 x.2.2.1)))),(50,.pure (preT (fun _:Str×Unit=>true)) (Zj (fun x:Str×Unit=>Vp (MM x.1)))),(22,.pure (preT (fun x:Tm×Unit=>tW x.1)) (Zj (fun x:Tm×Unit=>Vw x.1))),(25,.pure (preT (fun x:Tm×Tm×Unit=>tW x.1&&tW x.2.1)) (Zj (fun x:Tm×Tm×Unit=>K5 x.1 x.2.1))),(30,.pure (preT (fun x:Tm×Unit=>tW x.1)) (Zj (fun x:Tm×Unit=>Y5 x.1))),(21,.pure (preT (fun x:Tm×Unit=>tW x.1)) (Zj (fun x:Tm×Unit=>G9 x.1))),(18,.pure (preT (fun x:Tm×Tm×Unit=>tW x.1&&tW x.2.1&&tW (Y5 x.1)&&tW (Y5 x.2.1))) (Zj (fun x:Tm×Tm×Unit=>RX x.1 x.2.1))),(32,.pure (preT (fun x:Tm×Unit=>tW x.1)) (Zj (fun x:Tm×Unit=>KO x.1)))]
theorem d3l{G:PV->Prop}(h : ∃ y0:TS,AV.pv (Zj (fun(x:Str×Unit)=>Vp (MM x.1)) [(.str [(98:UInt8)])])=AV.pv (enc y0)∧(∃ y1:Tm,AV.pv (Zj (fun(x:Str×Unit)=>vT x.1) [(.str [(120:UInt8)])])=AV.pv (enc y1)∧(∃ y2:Tm,AV.pv (Zj (fun(x:Str×Unit)=>vT x.1) [(.str [(97:UInt8)])])=AV.pv (enc y2)∧((Go.Pl.preT (fun(x:Str×Tm×Tm×Unit)=>true) [(.str [(98:UInt8)]),enc y2,(eS y0)])=true∧(∃ y3:TS,AV.pv (Zj (fun(x:Str×Tm×Tm×Unit)=>Vp (FR x.1 x.2.1 x.2.2.1)) [(.str [(98:UInt8)]),enc y2,(eS y0)])=AV.pv (enc y3)∧((Go.Pl.preT (fun(x:Str×Tm×Tm×Unit)=>true) [(.str [(97:UInt8)]),enc y1,(eS y3)])=true∧(∃ y4:TS,AV.pv (Zj (fun(x:Str×Tm×Tm×Unit)=>Vp (FR x.1 x.2.1 x.2.2.1)) [(.str [(97:UInt8)]),enc y1,(eS y3)])=AV.pv (enc y4)∧(∃ y5:Tm,AV.pv (Zj (fun(x:Str×Unit)=>vT x.1) [(.str [(120:UInt8)])])=AV.pv (enc y5)∧(∃ y6:Tm,AV.pv (Zj (fun(x:Str×Unit)=>vT x.1) [(.str [(118:UInt8),(50:UInt8)])])=AV.pv (enc y6)∧(∃ y7:TS,AV.pv (Zj (fun(x:Str×Unit)=>Vp (MM x.1)) [(.str [(118:UInt8),(51:UInt8)])])=AV.pv (enc y7)∧((Go.Pl.preT (fun(x:Str×Tm×Tm×Unit)=>true) [(.str [(118:UInt8),(51:UInt8)]),enc y6,(eS y7)])=true∧(∃ y8:TS,AV.pv (Zj (fun(x:Str×Tm×Tm×Unit)=>Vp (FR x.1 x.2.1 x.2.2.1)) [(.str [(118:UInt8),(51:UInt8)]),enc y6,(eS y7)])=AV.pv (enc y8)∧((Go.Pl.preT (fun(x:Str×Tm×Tm×Unit)=>true) [(.str [(118:UInt8),(50:UInt8)]),enc y5,(eS y8)])=true∧(∃ y9:TS,AV.pv (Zj (fun(x:Str×Tm×Tm×Unit)=>Vp (FR x.1 x.2.1 x.2.2.1)) [(.str [(118:UInt8),(50:UInt8)]),enc y5,(eS y8)])=AV.pv (enc y9)∧((Go.Pl.preT (fun(x:Tm×Unit)=>tW x.1) [(eS y4)])=true∧(∃ y10:Bool,AV.pv (Zj (fun(x:Tm×Unit)=>Vw x.1) [(eS y4)])=AV.pv (enc y10)∧(if (y10)=true then(Go.Pl.preT (fun(x:Tm×Unit)=>tW x.1) [(eS y4)])=true∧(∃ y11:Tm,AV.pv (Zj (fun(x:Tm×Unit)=>Y5 x.1) [(eS y4)])=AV.pv (enc y11)∧((Go.Pl.preT (fun(x:Tm×Tm×Unit)=>tW x.1&&tW x.2.1) [enc y11,(eS y9)])=true∧(∃ y12:Bool,AV.pv (Zj (fun(x:Tm×Tm×Unit)=>K5 x.1 x.2.1) [enc y11,(eS y9)])=AV.pv (enc y12)∧(if (y12)=true then(Go.Pl.preT (fun(x:Tm×Unit)=>tW x.1) [(eS y4)])=true∧(∃ y13:Int,AV.pv (Zj (fun(x:Tm×Unit)=>G9 x.1) [(eS y4)])=AV.pv (enc y13)∧(if (y13==7)=true then(Go.Pl.preT (fun(x:Tm×Tm×Unit)=>tW x.1&&tW x.2.1&&tW (Y5 x.1)&&tW (Y5 x.2.1)) [(eS y4),(eS y9)])=true∧(∃ y14:Bool,AV.pv (Zj (fun(x:Tm×Tm×Unit)=>RX x.1 x.2.1) [(eS y4),(eS y9)])=AV.pv (enc y14)∧(if (y14)=true then(Go.Pl.preT (fun(x:Tm×Unit)=>tW x.1) [(eS y4)])=true∧(∃ y15:List Str,AV.pv (Zj (fun(x:Tm×Unit)=>KO x.1) [(eS y4)])=AV.pv (enc y15)∧(G ((.bool ((↑(List.length (List.map enc y15)):Int)==1)))))else(G ((.bool false)))))else(G ((.bool false)))))else(G ((.bool false)))))))else(G ((.bool false)))))))))))))))))))):Ze c4b 0 (Zb b6f G) b4t [] (Yc 39 []):=Ze.tp (dm [dv TS,dv Tm,dv Bool,dv Int,dv (List Str)] 111 0x2222222222222222202222222222220222222220222202222912008427122016422281202942712261204247151515262625151626252) h
end Go.Pl
namespace Go.Pl
open Go.RowKit
open Enc (enc dec is)
open EncL (encL decL isL)
theorem c2k: ∀ x:Str×Unit,true=true->Ze c4s 0 (Zb b5x (Zq (MM x.1))) b4i [] (Yc c6s (encL x)):=by
 rintro⟨s,⟨⟩⟩ _
 refine c9v s.s (Zh (s,()) rfl (Zh (⟨[118,49]⟩,()) rfl ⟨?_,?_⟩))
 ·simp only[List.all_cons,List.all_nil,vT,Zw]
  rfl
 ·have h:is (List Tm) (.sl 10 false [enc (vT s),enc (vT ⟨[118,49]⟩)])=true:=Enc.is_enc [vT s,vT ⟨[118,49]⟩]
  have h2:(dec (.sl 10 false [enc (vT s),enc (vT ⟨[118,49]⟩)]):List Tm)=[vT s,vT ⟨[118,49]⟩]:=Enc.dec_enc [vT s,vT ⟨[118,49]⟩]
  refine⟨?_,?_⟩
  ·simp[h]
  ·rw[a9a _ _ _ _ _ _ _ _ _ _ h,h2]
   simp[MM,nd0,d0w]
theorem b7n: ∀ x:Unit,true=true->Ze c4b 0 (Zb b6f (Zq true)) b4t [] (Yc c7i (encL x)):=by
 rintro⟨⟩ _
 refine d3l (Zh (⟨[98]⟩,()) rfl (Zh (⟨[120]⟩,()) rfl (Zh (⟨[97]⟩,()) rfl ?_)))
 refine⟨Zd (⟨[98]⟩,vT ⟨[97]⟩,MM ⟨[98]⟩,()) (Ni _ _ _) rfl,Zh (⟨[98]⟩,vT ⟨[97]⟩,MM ⟨[98]⟩,()) (Ni _ _ _) ?_⟩
 refine⟨Zd (⟨[97]⟩,vT ⟨[120]⟩,FR ⟨[98]⟩ (vT ⟨[97]⟩) (MM ⟨[98]⟩),()) (Ni _ _ _) rfl,Zh (⟨[97]⟩,vT ⟨[120]⟩,FR ⟨[98]⟩ (vT ⟨[97]⟩) (MM ⟨[98]⟩),()) (Ni _ _ _) ?_⟩
 refine Zh (⟨[120]⟩,()) rfl (Zh (⟨[118,50]⟩,()) rfl (Zh (⟨[118,51]⟩,()) rfl ?_))
 refine⟨Zd (⟨[118,51]⟩,vT ⟨[118,50]⟩,MM ⟨[118,51]⟩,()) (Ni _ _ _) rfl,Zh (⟨[118,51]⟩,vT ⟨[118,50]⟩,MM ⟨[118,51]⟩,()) (Ni _ _ _) ?_⟩
 refine⟨Zd (⟨[118,50]⟩,vT ⟨[120]⟩,FR ⟨[118,51]⟩ (vT ⟨[118,50]⟩) (MM ⟨[118,51]⟩),()) (Ni _ _ _) rfl,Zh (⟨[118,50]⟩,vT ⟨[120]⟩,FR ⟨[118,51]⟩ (vT ⟨[118,50]⟩) (MM ⟨[118,51]⟩),()) (Ni _ _ _) ?_⟩
 refine⟨Zd (QH,()) (a1S QH) b0f,Zh (QH,()) (a1S QH) (Xt a5x ?_)⟩
 refine⟨Zd (QH,()) (a1S QH) b0f,Zh (QH,()) (a1S QH) ?_⟩
 refine⟨Zd (Y5 QH,Pg,()) (d3w _ Pg) (by show(tW (Y5 QH)&&tW Pg)=true;rw[Ri,c3i];rfl),Zh (Y5 QH,Pg,()) (d3w _ Pg) (Xt (by show K5 (Y5 QH) Pg=true;rw[Ri];exact c4g) ?_)⟩
 refine⟨Zd (QH,()) (a1S QH) b0f,Zh (QH,()) (a1S QH) (Xt (by show(G9 QH==7)=true;unfold G9;rw[c2c];rfl) ?_)⟩
 refine⟨Zd (QH,Pg,()) (c1v QH Pg) (by show(tW QH&&tW Pg&&tW (Y5 QH)&&tW (Y5 Pg))=true;rw[Ri,Es,b0f,c3i];rfl),Zh (QH,Pg,()) (c1v QH Pg) (Xt (by show K5 (Y5 QH) (Y5 Pg)=true;rw[Ri,Es];exact c4g) ?_)⟩
 refine⟨Zd (QH,()) (a1S QH) b0f,Zh (QH,()) (a1S QH) (ZA ?_)⟩
 show(((List.map (enc:Str->PV) (KO QH)).length:Int)==1)=true
 rw[List.length_map,a7o];rfl
theorem nd3(n m:Nd)(ks ls:List Tm){α:Type}[Enc α](x:α):([ndC n ks,enc x,ndC m ls]:List PV)=encL (Tm.mk n ks,x,Tm.mk m ls,()):=by rw[Wh,Wh];rfl
end Go.Pl
namespace Go.Pl
open Go.RowKit
open Enc (enc dec is)
open EncL (encL decL isL)
set_option maxRecDepth 100000
end Go.Pl
namespace Go.Pl
open Go.RowKit
open Enc (enc dec is)
open EncL (encL decL isL)
theorem c1d(s:Tm)(n:Nd)(ks:List Tm):([eS (Vp s),ndC n ks]:List PV)=encL (s,Tm.mk n ks,()):=by rw[Jm,Wh];rfl
end Go.Pl
namespace Go.Pl
open Go.RowKit
open Enc (enc dec is)
open EncL (encL decL isL)
set_option maxRecDepth 100000
def XM:IC:=(WP [ZB 1 (.box 10 (.t 0)) 0,ZB 2 (.alloc (.agg [(.int .i64 0),(.int .i64 0),(.str []),(.int .i64 0),(.str []),(.sl 0 true []),(.sl 0 true []),(.sl 0 true []),(.sl 0 true []),(.sl 0 true [])])) 1] (.seq (.reg [ZB 5 (.faddr 4 (.t 1)) 0,ZB 6 (.faddr 0 (.t 5)) 0,ZB 7 (.load false [.str] (.t 6)) 0,ZB 8 (.faddr 4 (.t 1)) 0,ZB 9 (.faddr 1 (.t 8)) 0,ZB 10 (Am [(.sl 1)] (.t 9)) 0,ZB 11 (c'' 93 [(.t 10)]) 0,ZB 12 (.faddr 4 (.t 1)) 2,ZB 13 (.faddr 2 (.t 12)) 2,ZB 14 (Am [(.sl 1)] (.t 13)) 2,ZB 15 (c'' 93 [(.t 14)]) 2,ZB 16 (.build [(.str []),(.sl 0 true []),(.sl 0 true [])] [(0,(1,(.t 7))),(1,(1,(.t 11))),(2,(1,(.t 15)))]) 4,ZB 17 (.faddr 4 (.t 1)) 4,Al (.store 3 (.t 17) (.t 16)) 4] (some [[],[0],[1,0],[],[3],[4,3],[5,4,3],[],[7],[8,7],[9,6,8,7,5,4,3],[2,6,10,1,0,5,4,3,9,8,7],[0,1,2,3,4,5,6,7,8,9,10,11],[12,11,10,0,1,2,3,4,5,6,7,8,9]])) (WP [ZB 18 (.faddr 8 (.t 1)) 0,ZB 19 (Am [(.sl 1)] (.t 18)) 0,ZB 20 (c'' 93 [(.t 19)]) 0,ZB 21 (.faddr 8 (.t 1)) 2,Al (.store 1 (.t 21) (.t 20)) 2] (WP [ZB 22 (.faddr 7 (.t 1)) 0,ZB 23 (Am [(.sl 2)] (.t 22)) 0,ZB 24 (c'' 94 [(.t 23)]) 0,ZB 25 (.faddr 7 (.t 1)) 2,Al (.store 1 (.t 25) (.t 24)) 2] (.seq (WP [ZB 26 (.faddr 7 (.t 1)) 0,ZB 27 (Am [(.sl 2)] (.t 26)) 0,ZB 28 (.len 1 (.t 27)) 0,ZB 29 (.mv (UH 0)) 0] (.block 0 (.loop [29,28,1,49,50,52,51,53,54,55,4,58,59,60,61,62,56,57,64,63,65,2,66] (WP [ZB 30 (Dk .lss (.t 29) (.t 28)) 0] (.seq (.cond (.t 30) .skip (.exit 0)) (.seq (.block 1 (WP [ZB 31 (XX 29) 0,ZB 3 (XX 31) 0] (.reg [ZB 32 (.faddr 7 (.t 1)) 0,ZB 33 (Am [(.sl 2)] (.t 32)) 0,ZB 34 (XX 3) 0,ZB 35 (.faddr 7 (.t 1)) 0,ZB 36 (Am [(.sl 2)] (.t 35)) 0,ZB 37 (XX 3) 0,ZB 38 (.iaddr 2 (.t 36) (.t 37)) 0,ZB 39 (.faddr 1 (.t 38)) 0,ZB 40 (Am [(.sl 2)] (.t 39)) 0,ZB 41 (c'' 95 [(.t 40)]) 0,ZB 42 (.iaddr 2 (.t 33) (.t 34)) 2,ZB 43 (.faddr 1 (.t 42)) 2,Al (.store 1 (.t 43) (.t 41)) 2] (some [[],[0],[],[],[3],[],[4,5,3],[6,4,5,3],[7,6,4,5,3],[8,7,6,4,5,3],[1,2,0,3,4,5,6,7,8,9],[10,0,1,2,3,4,5,6,7,8,9],[11,9,0,1,2,3,4,5,6,7,8,10]])))) (.reg [ZB 44 (Dk .add (.t 29) (UH 1)) 0,ZB 29 (XX 44) 0] none))))))) (WP [ZB 45 (.faddr 9 (.t 1)) 0,ZB 46 (Am [(.sl 10)] (.t 45)) 0,ZB 47 (c'' 96 [(.t 46)]) 0,ZB 48 (.faddr 9 (.t 1)) 2,Al (.store 1 (.t 48) (.t 47)) 2] (.ext 0 [1,49,50,52,51,53,54,55,4,58,59,60,61,62,56,57,64,63,65,2,66])))))))
def U8:ZC:=YM [(93,.pure (preT (fun x:List Int×Unit=>decide (x.1.length<=2000000))) (Zj (fun x:List Int×Unit=>x.1))),(94,.own (Yf 2) (Xq 62 2)),(95,.pure (preT (fun x:List Coef×Unit=>decide (x.1.length<=2000000))) (Zj (fun x:List Coef×Unit=>x.1))),(96,.own (Yf 10) (Xq 28 10))]
theorem c7y{G:Zm->Prop}(RR:Nat->St->Prop)(n:Nd)(ks:List Tm)(h:(Go.Pl.preT (fun(x:List Int×Unit)=>decide (List.length x.1<=2000000)) [(.sl 1 false (List.map enc (Nd.dims n)))])=true∧(∃ y0:List Int,AV.pv (Zj (fun(x:List Int×Unit)=>x.1) [(.sl 1 false (List.map enc (Nd.dims n)))])=AV.pv (enc y0)∧((Go.Pl.preT (fun(x:List Int×Unit)=>decide (List.length x.1<=2000000)) [(.sl 1 false (List.map enc (Nd.data n)))])=true∧(∃ y1:List Int,AV.pv (Zj (fun(x:List Int×Unit)=>x.1) [(.sl 1 false (List.map enc (Nd.data n)))])=AV.pv (enc y1)∧((Go.Pl.preT (fun(x:List Int×Unit)=>decide (List.length x.1<=2000000)) [(.sl 1 false (List.map enc (Nd.ranks n)))])=true∧(∃ y2:List Int,AV.pv (Zj (fun(x:List Int×Unit)=>x.1) [(.sl 1 false (List.map enc (Nd.ranks n)))])=AV.pv (enc y2)∧((Yf 2 [(.pv (.sl 2 false (List.map enc (Nd.sizes n))))] [])=true∧(EB U8 (Wn RR) 0 (fun st=>G st.heap) XM 0 67 [(1,(.ptr 0 0)),(2,(.ptr 1 0)),(4,.undef),(28,(.pv (.int .i64 (↑(List.length (List.map enc (Nd.sizes n)) - 0):Int)))),(29,(.pv (.int .i64 0))),(49,.undef),(50,.undef),(51,.undef),(52,.undef),(53,.undef),(54,.undef),(55,.undef),(56,.undef),(57,.undef),(58,.undef),(59,.undef),(60,.undef),(61,.undef),(62,.undef),(63,.undef),(64,.undef),(65,.undef),(66,.undef)] [(.obj (.box [(.pv (.int .i64 (Nd.kind n))),(.pv (.int .i64 (Nd.line n))),(.pv (.str (Str.s (Nd.name n)))),(.pv (.int .i64 (Nd.num n))),(.pv (.str (Str.s (Nd.elem n)))),(.pv (.sl 1 false (List.map enc y0))),(.pv (.sl 1 false (List.map enc y1))),(.row 2 (List.length (List.map enc (Nd.sizes n))) 0 (List.length (List.map enc (Nd.sizes n)))),(.pv (.sl 1 false (List.map enc y2))),(.pv (.sl 10 false (List.map enc ks)))])),(.obj (.box [(.pv (.int .i64 0)),(.pv (.int .i64 0)),(.pv (.str [])),(.pv (.int .i64 0)),(.pv (.str [])),(.pv (.sl 0 true [])),(.pv (.sl 0 true [])),(.pv (.sl 0 true [])),(.pv (.sl 0 true [])),(.pv (.sl 0 true []))])),(.obj (.row false 62 2 (List.map enc (Nd.sizes n))))])))))))):ZE U8 (Wn RR) 0 (fun st=>G st.heap) (.inl XM) [] (XB 67 [.pv (.agg [enc n.kind,enc n.line,enc n.name,enc n.num,enc n.elem,enc n.dims,enc n.data,enc n.sizes,enc n.ranks,enc ks])] []):=ZE.mh (dm [dv (List Int)] 10 0x31515151) h
theorem EZ{G:Zm->Prop}(RR:Nat->St->Prop)(n:Nd)(ks:List Tm)(m:Nat)(L:List Lin)(i:Int)(h:if (decide (i<(↑m:Int)))=true then(decide (0<=i)&&decide (0+Int.toNat i<m)&&List.length (List.map enc L)==m)=true∧((List.length (List.map enc L)==m&&decide (0+Int.toNat i<List.length (List.map enc L)))=true∧((decide (0+1+List.length [Sh.sl 2]<=List.length (PV.cells (List.getD (List.map enc L) (0+Int.toNat i) default)))&&Yr (PV.cells (List.getD (List.map enc L) (0+Int.toNat i) default)) (0+1) [Sh.sl 2])=true∧((Go.Pl.preT (fun(x:List Coef×Unit)=>decide (List.length x.1<=2000000)) [(.sl 2 (PV.asT (List.getD (PV.cells (List.getD (List.map enc L) (0+Int.toNat i) default)) (0+1) default)) (PV.asXs (List.getD (PV.cells (List.getD (List.map enc L) (0+Int.toNat i) default)) (0+1) default)))])=true∧(∃ y0:List Coef,AV.pv (Zj (fun(x:List Coef×Unit)=>x.1) [(.sl 2 (PV.asT (List.getD (PV.cells (List.getD (List.map enc L) (0+Int.toNat i) default)) (0+1) default)) (PV.asXs (List.getD (PV.cells (List.getD (List.map enc L) (0+Int.toNat i) default)) (0+1) default)))])=AV.pv (enc y0)∧((decide (0<=i)&&decide (0+Int.toNat i<m)&&List.length (List.map enc L)==m)=true∧((List.length (List.map enc L)==m&&decide (0+Int.toNat i<List.length (List.map enc L))&&List.length (PV.cells (enc y0))==1&&decide (0+1+1<=List.length (PV.cells (List.getD (List.map enc L) (0+Int.toNat i) default)))&&PV.cellsOk (enc y0))=true∧(EB U8 (Wn RR) 0 (fun st=>G st.heap) XM 0 67 [(1,(.ptr 0 0)),(2,(.ptr 1 0)),(4,.undef),(28,(.pv (.int .i64 (↑m:Int)))),(29,(.pv (.int .i64 (IntKind.wrap IntKind.i64 (i+1))))),(49,.undef),(50,.undef),(51,.undef),(52,.undef),(53,.undef),(54,.undef),(55,.undef),(56,.undef),(57,.undef),(58,.undef),(59,.undef),(60,.undef),(61,.undef),(62,.undef),(63,.undef),(64,.undef),(65,.undef),(66,.undef)] [(.obj (.box [(.pv (.int .i64 (Nd.kind n))),(.pv (.int .i64 (Nd.line n))),(.pv (.str (Str.s (Nd.name n)))),(.pv (.int .i64 (Nd.num n))),(.pv (.str (Str.s (Nd.elem n)))),(.pv (.sl 1 false (List.map enc (Nd.dims n)))),(.pv (.sl 1 false (List.map enc (Nd.data n)))),(.row 2 m 0 m),(.pv (.sl 1 false (List.map enc (Nd.ranks n)))),(.pv (.sl 10 false (List.map enc ks)))])),(.obj (.box [(.pv (.int .i64 0)),(.pv (.int .i64 0)),(.pv (.str [])),(.pv (.int .i64 0)),(.pv (.str [])),(.pv (.sl 0 true [])),(.pv (.sl 0 true [])),(.pv (.sl 0 true [])),(.pv (.sl 0 true [])),(.pv (.sl 0 true []))])),(.obj (.row false 62 2 (List.set (List.map enc L) (0+Int.toNat i) (PV.withCells (List.getD (List.map enc L) (0+Int.toNat i) default) (splice (PV.cells (List.getD (List.map enc L) (0+Int.toNat i) default)) (0+1) (PV.cells (enc y0)))))))])))))))else((Yf 10 [(.pv (.sl 10 false (List.map enc ks)))] [])=true∧((Wn RR) 0 ⟨ZU 67 0 [(1,(.ptr 0 0)),(2,(.ptr 1 0)),(4,.undef),(49,.undef),(50,.undef),(51,.undef),(52,.undef),(53,.undef),(54,.undef),(55,.undef),(56,.undef),(57,.undef),(58,.undef),(59,.undef),(60,.undef),(61,.undef),(62,.undef),(63,.undef),(64,.undef),(65,.undef),(66,.undef)],[(.obj (.box [(.pv (.int .i64 (Nd.kind n))),(.pv (.int .i64 (Nd.line n))),(.pv (.str (Str.s (Nd.name n)))),(.pv (.int .i64 (Nd.num n))),(.pv (.str (Str.s (Nd.elem n)))),(.pv (.sl 1 false (List.map enc (Nd.dims n)))),(.pv (.sl 1 false (List.map enc (Nd.data n)))),(.row 2 m 0 m),(.pv (.sl 1 false (List.map enc (Nd.ranks n)))),(.row 3 (List.length (List.map enc ks)) 0 (List.length (List.map enc ks)))])),(.obj (.box [(.pv (.int .i64 0)),(.pv (.int .i64 0)),(.pv (.str [])),(.pv (.int .i64 0)),(.pv (.str [])),(.pv (.sl 0 true [])),(.pv (.sl 0 true [])),(.pv (.sl 0 true [])),(.pv (.sl 0 true [])),(.pv (.sl 0 true []))])),(.obj (.row false 62 2 (List.map enc L))),(.obj (.row false 28 10 (List.map enc ks)))]⟩ (fun x S'=>Kj U8 (Wn RR) 0 (fun st=>G st.heap) XM 0 x S')))):EB U8 (Wn RR) 0 (fun st=>G st.heap) XM 0 67 [(1,.ptr 0 0),(2,.ptr 1 0),(4,.undef),(28,.pv (.int .i64 m)),(29,.pv (.int .i64 i)),(49,.undef),(50,.undef),(51,.undef),(52,.undef),(53,.undef),(54,.undef),(55,.undef),(56,.undef),(57,.undef),(58,.undef),(59,.undef),(60,.undef),(61,.undef),(62,.undef),(63,.undef),(64,.undef),(65,.undef),(66,.undef)] [.obj (.box [.pv (enc n.kind),.pv (enc n.line),.pv (enc n.name),.pv (enc n.num),.pv (enc n.elem),.pv (enc n.dims),.pv (enc n.data),.row 2 m 0 m,.pv (enc n.ranks),.pv (enc ks)]),.obj (.box [.pv (.int .i64 0),.pv (.int .i64 0),.pv (.str []),.pv (.int .i64 0),.pv (.str []),.pv (.sl 0 true []),.pv (.sl 0 true []),.pv (.sl 0 true []),.pv (.sl 0 true []),.pv (.sl 0 true [])]),.obj (.row false 62 2 (L.map enc))]:=ZE.mh (dm [dv (List Coef)] 20 0x310213151113100b42) h
def QW:IC:=XM
def Gf:ZC:=YM [(93,.pure (preT (fun x:List Int×Unit=>decide (x.1.length<=2000000))) (Zj (fun x:List Int×Unit=>x.1))),(94,.pure (preT (fun x:List Lin×Unit=>x.1.isEmpty)) (Zj (fun x:List Lin×Unit=>x.1))),(95,.pure (preT (fun x:List Coef×Unit=>decide (x.1.length<=2000000))) (Zj (fun x:List Coef×Unit=>x.1))),(96,.own (Yf 10) (Xq 28 10))]
theorem c6a{G:Zm->Prop}(RR:Nat->St->Prop)(n:Nd)(ks:List Tm)(h:(Go.Pl.preT (fun(x:List Int×Unit)=>decide (List.length x.1<=2000000)) [(.sl 1 false (List.map enc (Nd.dims n)))])=true∧(∃ y0:List Int,AV.pv (Zj (fun(x:List Int×Unit)=>x.1) [(.sl 1 false (List.map enc (Nd.dims n)))])=AV.pv (enc y0)∧((Go.Pl.preT (fun(x:List Int×Unit)=>decide (List.length x.1<=2000000)) [(.sl 1 false (List.map enc (Nd.data n)))])=true∧(∃ y1:List Int,AV.pv (Zj (fun(x:List Int×Unit)=>x.1) [(.sl 1 false (List.map enc (Nd.data n)))])=AV.pv (enc y1)∧((Go.Pl.preT (fun(x:List Int×Unit)=>decide (List.length x.1<=2000000)) [(.sl 1 false (List.map enc (Nd.ranks n)))])=true∧(∃ y2:List Int,AV.pv (Zj (fun(x:List Int×Unit)=>x.1) [(.sl 1 false (List.map enc (Nd.ranks n)))])=AV.pv (enc y2)∧((Go.Pl.preT (fun(x:List Lin×Unit)=>List.isEmpty x.1) [(.sl 2 false (List.map enc (Nd.sizes n)))])=true∧(∃ y3:List Lin,AV.pv (Zj (fun(x:List Lin×Unit)=>x.1) [(.sl 2 false (List.map enc (Nd.sizes n)))])=AV.pv (enc y3)∧(EB Gf (Wn RR) 0 (fun st=>G st.heap) QW 0 67 [(1,(.ptr 0 0)),(2,(.ptr 1 0)),(4,.undef),(28,(.pv (.int .i64 (↑(List.length (List.map enc y3)):Int)))),(29,(.pv (.int .i64 0))),(49,.undef),(50,.undef),(51,.undef),(52,.undef),(53,.undef),(54,.undef),(55,.undef),(56,.undef),(57,.undef),(58,.undef),(59,.undef),(60,.undef),(61,.undef),(62,.undef),(63,.undef),(64,.undef),(65,.undef),(66,.undef)] [(.obj (.box [(.pv (.int .i64 (Nd.kind n))),(.pv (.int .i64 (Nd.line n))),(.pv (.str (Str.s (Nd.name n)))),(.pv (.int .i64 (Nd.num n))),(.pv (.str (Str.s (Nd.elem n)))),(.pv (.sl 1 false (List.map enc y0))),(.pv (.sl 1 false (List.map enc y1))),(.pv (.sl 2 false (List.map enc y3))),(.pv (.sl 1 false (List.map enc y2))),(.pv (.sl 10 false (List.map enc ks)))])),(.obj (.box [(.pv (.int .i64 0)),(.pv (.int .i64 0)),(.pv (.str [])),(.pv (.int .i64 0)),(.pv (.str [])),(.pv (.sl 0 true [])),(.pv (.sl 0 true [])),(.pv (.sl 0 true [])),(.pv (.sl 0 true [])),(.pv (.sl 0 true []))]))]))))))))):ZE Gf (Wn RR) 0 (fun st=>G st.heap) (.inl QW) [] (XB 67 [.pv (.agg [enc n.kind,enc n.line,enc n.name,enc n.num,enc n.elem,enc n.dims,enc n.data,enc n.sizes,enc n.ranks,enc ks])] []):=ZE.mh (dm [dv (List Int),dv (List Lin)] 10 0x61515151) h
-- BAD 1 in Eh
theorem Eh{G:Zm->Prop}(RR:Nat->St->Prop)(n:Nd)(ks:List Tm)(m i:Int)(h:if (decide (i<m))=true then(decide (0<=i)&&decide (Int.toNat i<List.length (List.map enc (Nd.sizes n)))&&Enc.sz Lin==2)=true∧(∃ y0:Lin,AV.pv (PV.rptr (PV.cells (List.getD (List.map enc (Nd.sizes n)) (Int.toNat i) default)))=AV.pv (PV.rptr (PV.cells ((enc) y0)))∧((Go.Pl.preT (fun(x:List Coef×Unit)=>decide (List.length x.1<=2000000)) [(.sl 2 false (PV.asXs (List.getD (List.drop 1 (PV.cells (enc y0))) 0 default)))])=true∧(∃ y1:List Coef,AV.pv (Zj (fun(x:List Coef×Unit)=>x.1) [(.sl 2 false (PV.asXs (List.getD (List.drop 1 (PV.cells (enc y0))) 0 default)))])=AV.pv (enc y1)∧((decide (0<=i)&&decide (Int.toNat i<List.length (List.map enc (Nd.sizes n)))&&Enc.sz Lin==2)=true∧(∃ y2:Lin,AV.pv (PV.rptr (PV.cells (List.getD (List.map enc (Nd.sizes n)) (Int.toNat i) default)))=AV.pv (PV.rptr (PV.cells ((enc) y2)))∧(False))))))else((Yf 10 [(.pv (.sl 10 false (List.map enc ks)))] [])=true∧((Wn RR) 0 ⟨ZU 67 0 [(1,(.ptr 0 0)),(2,(.ptr 1 0)),(4,.undef),(49,.undef),(50,.undef),(51,.undef),(52,.undef),(53,.undef),(54,.undef),(55,.undef),(56,.undef),(57,.undef),(58,.undef),(59,.undef),(60,.undef),(61,.undef),(62,.undef),(63,.undef),(64,.undef),(65,.undef),(66,.undef)],[(.obj (.box [(.pv (.int .i64 (Nd.kind n))),(.pv (.int .i64 (Nd.line n))),(.pv (.str (Str.s (Nd.name n)))),(.pv (.int .i64 (Nd.num n))),(.pv (.str (Str.s (Nd.elem n)))),(.pv (.sl 1 false (List.map enc (Nd.dims n)))),(.pv (.sl 1 false (List.map enc (Nd.data n)))),(.pv (.sl 2 false (List.map enc (Nd.sizes n)))),(.pv (.sl 1 false (List.map enc (Nd.ranks n)))),(.row 2 (List.length (List.map enc ks)) 0 (List.length (List.map enc ks)))])),(.obj (.box [(.pv (.int .i64 0)),(.pv (.int .i64 0)),(.pv (.str [])),(.pv (.int .i64 0)),(.pv (.str [])),(.pv (.sl 0 true [])),(.pv (.sl 0 true [])),(.pv (.sl 0 true [])),(.pv (.sl 0 true [])),(.pv (.sl 0 true []))])),(.obj (.row false 28 10 (List.map enc ks)))]⟩ (fun x S'=>Kj Gf (Wn RR) 0 (fun st=>G st.heap) QW 0 x S')))):EB Gf (Wn RR) 0 (fun st=>G st.heap) QW 0 67 [(1,.ptr 0 0),(2,.ptr 1 0),(4,.undef),(28,.pv (.int .i64 m)),(29,.pv (.int .i64 i)),(49,.undef),(50,.undef),(51,.undef),(52,.undef),(53,.undef),(54,.undef),(55,.undef),(56,.undef),(57,.undef),(58,.undef),(59,.undef),(60,.undef),(61,.undef),(62,.undef),(63,.undef),(64,.undef),(65,.undef),(66,.undef)] [.obj (.box [.pv (enc n.kind),.pv (enc n.line),.pv (enc n.name),.pv (enc n.num),.pv (enc n.elem),.pv (enc n.dims),.pv (enc n.data),.pv (enc n.sizes),.pv (enc n.ranks),.pv (enc ks)]),.obj (.box [.pv (.int .i64 0),.pv (.int .i64 0),.pv (.str []),.pv (.int .i64 0),.pv (.str []),.pv (.sl 0 true []),.pv (.sl 0 true []),.pv (.sl 0 true []),.pv (.sl 0 true []),.pv (.sl 0 true [])])]:=ZE.mh (dm [dr Lin,dv (List Coef)] 17 0x310516125100842) h
def Vl:IC:=XM
def UW:ZC:=YM [(93,.pure (preT (fun x:List Int×Unit=>decide (x.1.length<=2000000))) (Zj (fun x:List Int×Unit=>x.1))),(94,.own (Yf 2) (Xq 62 2)),(95,.pure (preT (fun x:List Coef×Unit=>decide (x.1.length<=2000000))) (Zj (fun x:List Coef×Unit=>x.1))),(96,.pure (preT (fun x:List Tm×Unit=>x.1.isEmpty)) (Zj (fun x:List Tm×Unit=>x.1)))]
theorem c9a{G:Zm->Prop}(RR:Nat->St->Prop)(n:Nd)(ks:List Tm)(h:(Go.Pl.preT (fun(x:List Int×Unit)=>decide (List.length x.1<=2000000)) [(.sl 1 false (List.map enc (Nd.dims n)))])=true∧(∃ y0:List Int,AV.pv (Zj (fun(x:List Int×Unit)=>x.1) [(.sl 1 false (List.map enc (Nd.dims n)))])=AV.pv (enc y0)∧((Go.Pl.preT (fun(x:List Int×Unit)=>decide (List.length x.1<=2000000)) [(.sl 1 false (List.map enc (Nd.data n)))])=true∧(∃ y1:List Int,AV.pv (Zj (fun(x:List Int×Unit)=>x.1) [(.sl 1 false (List.map enc (Nd.data n)))])=AV.pv (enc y1)∧((Go.Pl.preT (fun(x:List Int×Unit)=>decide (List.length x.1<=2000000)) [(.sl 1 false (List.map enc (Nd.ranks n)))])=true∧(∃ y2:List Int,AV.pv (Zj (fun(x:List Int×Unit)=>x.1) [(.sl 1 false (List.map enc (Nd.ranks n)))])=AV.pv (enc y2)∧((Yf 2 [(.pv (.sl 2 false (List.map enc (Nd.sizes n))))] [])=true∧(EB UW (Wn RR) 0 (fun st=>G st.heap) Vl 0 67 [(1,(.ptr 0 0)),(2,(.ptr 1 0)),(4,.undef),(28,(.pv (.int .i64 (↑(List.length (List.map enc (Nd.sizes n)) - 0):Int)))),(29,(.pv (.int .i64 0))),(49,.undef),(50,.undef),(51,.undef),(52,.undef),(53,.undef),(54,.undef),(55,.undef),(56,.undef),(57,.undef),(58,.undef),(59,.undef),(60,.undef),(61,.undef),(62,.undef),(63,.undef),(64,.undef),(65,.undef),(66,.undef)] [(.obj (.box [(.pv (.int .i64 (Nd.kind n))),(.pv (.int .i64 (Nd.line n))),(.pv (.str (Str.s (Nd.name n)))),(.pv (.int .i64 (Nd.num n))),(.pv (.str (Str.s (Nd.elem n)))),(.pv (.sl 1 false (List.map enc y0))),(.pv (.sl 1 false (List.map enc y1))),(.row 2 (List.length (List.map enc (Nd.sizes n))) 0 (List.length (List.map enc (Nd.sizes n)))),(.pv (.sl 1 false (List.map enc y2))),(.pv (.sl 10 false (List.map enc ks)))])),(.obj (.box [(.pv (.int .i64 0)),(.pv (.int .i64 0)),(.pv (.str [])),(.pv (.int .i64 0)),(.pv (.str [])),(.pv (.sl 0 true [])),(.pv (.sl 0 true [])),(.pv (.sl 0 true [])),(.pv (.sl 0 true [])),(.pv (.sl 0 true []))])),(.obj (.row false 62 2 (List.map enc (Nd.sizes n))))])))))))):ZE UW (Wn RR) 0 (fun st=>G st.heap) (.inl Vl) [] (XB 67 [.pv (.agg [enc n.kind,enc n.line,enc n.name,enc n.num,enc n.elem,enc n.dims,enc n.data,enc n.sizes,enc n.ranks,enc ks])] []):=ZE.mh (dm [dv (List Int)] 10 0x31515151) h
theorem a1j{G:Zm->Prop}(RR:Nat->St->Prop)(n:Nd)(ks:List Tm)(m:Nat)(L:List Lin)(i:Int)(h:if (decide (i<(↑m:Int)))=true then(decide (0<=i)&&decide (0+Int.toNat i<m)&&List.length (List.map enc L)==m)=true∧((List.length (List.map enc L)==m&&decide (0+Int.toNat i<List.length (List.map enc L)))=true∧((decide (0+1+List.length [Sh.sl 2]<=List.length (PV.cells (List.getD (List.map enc L) (0+Int.toNat i) default)))&&Yr (PV.cells (List.getD (List.map enc L) (0+Int.toNat i) default)) (0+1) [Sh.sl 2])=true∧((Go.Pl.preT (fun(x:List Coef×Unit)=>decide (List.length x.1<=2000000)) [(.sl 2 (PV.asT (List.getD (PV.cells (List.getD (List.map enc L) (0+Int.toNat i) default)) (0+1) default)) (PV.asXs (List.getD (PV.cells (List.getD (List.map enc L) (0+Int.toNat i) default)) (0+1) default)))])=true∧(∃ y0:List Coef,AV.pv (Zj (fun(x:List Coef×Unit)=>x.1) [(.sl 2 (PV.asT (List.getD (PV.cells (List.getD (List.map enc L) (0+Int.toNat i) default)) (0+1) default)) (PV.asXs (List.getD (PV.cells (List.getD (List.map enc L) (0+Int.toNat i) default)) (0+1) default)))])=AV.pv (enc y0)∧((decide (0<=i)&&decide (0+Int.toNat i<m)&&List.length (List.map enc L)==m)=true∧((List.length (List.map enc L)==m&&decide (0+Int.toNat i<List.length (List.map enc L))&&List.length (PV.cells (enc y0))==1&&decide (0+1+1<=List.length (PV.cells (List.getD (List.map enc L) (0+Int.toNat i) default)))&&PV.cellsOk (enc y0))=true∧(EB UW (Wn RR) 0 (fun st=>G st.heap) Vl 0 67 [(1,(.ptr 0 0)),(2,(.ptr 1 0)),(4,.undef),(28,(.pv (.int .i64 (↑m:Int)))),(29,(.pv (.int .i64 (IntKind.wrap IntKind.i64 (i+1))))),(49,.undef),(50,.undef),(51,.undef),(52,.undef),(53,.undef),(54,.undef),(55,.undef),(56,.undef),(57,.undef),(58,.undef),(59,.undef),(60,.undef),(61,.undef),(62,.undef),(63,.undef),(64,.undef),(65,.undef),(66,.undef)] [(.obj (.box [(.pv (.int .i64 (Nd.kind n))),(.pv (.int .i64 (Nd.line n))),(.pv (.str (Str.s (Nd.name n)))),(.pv (.int .i64 (Nd.num n))),(.pv (.str (Str.s (Nd.elem n)))),(.pv (.sl 1 false (List.map enc (Nd.dims n)))),(.pv (.sl 1 false (List.map enc (Nd.data n)))),(.row 2 m 0 m),(.pv (.sl 1 false (List.map enc (Nd.ranks n)))),(.pv (.sl 10 false (List.map enc ks)))])),(.obj (.box [(.pv (.int .i64 0)),(.pv (.int .i64 0)),(.pv (.str [])),(.pv (.int .i64 0)),(.pv (.str [])),(.pv (.sl 0 true [])),(.pv (.sl 0 true [])),(.pv (.sl 0 true [])),(.pv (.sl 0 true [])),(.pv (.sl 0 true []))])),(.obj (.row false 62 2 (List.set (List.map enc L) (0+Int.toNat i) (PV.withCells (List.getD (List.map enc L) (0+Int.toNat i) default) (splice (PV.cells (List.getD (List.map enc L) (0+Int.toNat i) default)) (0+1) (PV.cells (enc y0)))))))])))))))else((Go.Pl.preT (fun(x:List Tm×Unit)=>List.isEmpty x.1) [(.sl 10 false (List.map enc ks))])=true∧(∃ y1:List Tm,AV.pv (Zj (fun(x:List Tm×Unit)=>x.1) [(.sl 10 false (List.map enc ks))])=AV.pv (enc y1)∧((Wn RR) 0 ⟨ZU 67 0 [(1,(.ptr 0 0)),(2,(.ptr 1 0)),(4,.undef),(49,.undef),(50,.undef),(51,.undef),(52,.undef),(53,.undef),(54,.undef),(55,.undef),(56,.undef),(57,.undef),(58,.undef),(59,.undef),(60,.undef),(61,.undef),(62,.undef),(63,.undef),(64,.undef),(65,.undef),(66,.undef)],[(.obj (.box [(.pv (.int .i64 (Nd.kind n))),(.pv (.int .i64 (Nd.line n))),(.pv (.str (Str.s (Nd.name n)))),(.pv (.int .i64 (Nd.num n))),(.pv (.str (Str.s (Nd.elem n)))),(.pv (.sl 1 false (List.map enc (Nd.dims n)))),(.pv (.sl 1 false (List.map enc (Nd.data n)))),(.row 2 m 0 m),(.pv (.sl 1 false (List.map enc (Nd.ranks n)))),(.pv (.sl 10 false (List.map enc y1)))])),(.obj (.box [(.pv (.int .i64 0)),(.pv (.int .i64 0)),(.pv (.str [])),(.pv (.int .i64 0)),(.pv (.str [])),(.pv (.sl 0 true [])),(.pv (.sl 0 true [])),(.pv (.sl 0 true [])),(.pv (.sl 0 true [])),(.pv (.sl 0 true []))])),(.obj (.row false 62 2 (List.map enc L)))]⟩ (fun x S'=>Kj UW (Wn RR) 0 (fun st=>G st.heap) Vl 0 x S'))))):EB UW (Wn RR) 0 (fun st=>G st.heap) Vl 0 67 [(1,.ptr 0 0),(2,.ptr 1 0),(4,.undef),(28,.pv (.int .i64 m)),(29,.pv (.int .i64 i)),(49,.undef),(50,.undef),(51,.undef),(52,.undef),(53,.undef),(54,.undef),(55,.undef),(56,.undef),(57,.undef),(58,.undef),(59,.undef),(60,.undef),(61,.undef),(62,.undef),(63,.undef),(64,.undef),(65,.undef),(66,.undef)] [.obj (.box [.pv (enc n.kind),.pv (enc n.line),.pv (enc n.name),.pv (enc n.num),.pv (enc n.elem),.pv (enc n.dims),.pv (enc n.data),.row 2 m 0 m,.pv (enc n.ranks),.pv (enc ks)]),.obj (.box [.pv (.int .i64 0),.pv (.int .i64 0),.pv (.str []),.pv (.int .i64 0),.pv (.str []),.pv (.sl 0 true []),.pv (.sl 0 true []),.pv (.sl 0 true []),.pv (.sl 0 true []),.pv (.sl 0 true [])]),.obj (.row false 62 2 (L.map enc))]:=ZE.mh (dm [dv (List Coef),dv (List Tm)] 20 0x610213151113100b42) h
def Ka:IC:=XM
def Gj:ZC:=YM [(93,.pure (preT (fun x:List Int×Unit=>decide (x.1.length<=2000000))) (Zj (fun x:List Int×Unit=>x.1))),(94,.pure (preT (fun x:List Lin×Unit=>x.1.isEmpty)) (Zj (fun x:List Lin×Unit=>x.1))),(95,.pure (preT (fun x:List Coef×Unit=>decide (x.1.length<=2000000))) (Zj (fun x:List Coef×Unit=>x.1))),(96,.pure (preT (fun x:List Tm×Unit=>x.1.isEmpty)) (Zj (fun x:List Tm×Unit=>x.1)))]
theorem c7a{G:Zm->Prop}(RR:Nat->St->Prop)(n:Nd)(ks:List Tm)(h:(Go.Pl.preT (fun(x:List Int×Unit)=>decide (List.length x.1<=2000000)) [(.sl 1 false (List.map enc (Nd.dims n)))])=true∧(∃ y0:List Int,AV.pv (Zj (fun(x:List Int×Unit)=>x.1) [(.sl 1 false (List.map enc (Nd.dims n)))])=AV.pv (enc y0)∧((Go.Pl.preT (fun(x:List Int×Unit)=>decide (List.length x.1<=2000000)) [(.sl 1 false (List.map enc (Nd.data n)))])=true∧(∃ y1:List Int,AV.pv (Zj (fun(x:List Int×Unit)=>x.1) [(.sl 1 false (List.map enc (Nd.data n)))])=AV.pv (enc y1)∧((Go.Pl.preT (fun(x:List Int×Unit)=>decide (List.length x.1<=2000000)) [(.sl 1 false (List.map enc (Nd.ranks n)))])=true∧(∃ y2:List Int,AV.pv (Zj (fun(x:List Int×Unit)=>x.1) [(.sl 1 false (List.map enc (Nd.ranks n)))])=AV.pv (enc y2)∧((Go.Pl.preT (fun(x:List Lin×Unit)=>List.isEmpty x.1) [(.sl 2 false (List.map enc (Nd.sizes n)))])=true∧(∃ y3:List Lin,AV.pv (Zj (fun(x:List Lin×Unit)=>x.1) [(.sl 2 false (List.map enc (Nd.sizes n)))])=AV.pv (enc y3)∧(EB Gj (Wn RR) 0 (fun st=>G st.heap) Ka 0 67 [(1,(.ptr 0 0)),(2,(.ptr 1 0)),(4,.undef),(28,(.pv (.int .i64 (↑(List.length (List.map enc y3)):Int)))),(29,(.pv (.int .i64 0))),(49,.undef),(50,.undef),(51,.undef),(52,.undef),(53,.undef),(54,.undef),(55,.undef),(56,.undef),(57,.undef),(58,.undef),(59,.undef),(60,.undef),(61,.undef),(62,.undef),(63,.undef),(64,.undef),(65,.undef),(66,.undef)] [(.obj (.box [(.pv (.int .i64 (Nd.kind n))),(.pv (.int .i64 (Nd.line n))),(.pv (.str (Str.s (Nd.name n)))),(.pv (.int .i64 (Nd.num n))),(.pv (.str (Str.s (Nd.elem n)))),(.pv (.sl 1 false (List.map enc y0))),(.pv (.sl 1 false (List.map enc y1))),(.pv (.sl 2 false (List.map enc y3))),(.pv (.sl 1 false (List.map enc y2))),(.pv (.sl 10 false (List.map enc ks)))])),(.obj (.box [(.pv (.int .i64 0)),(.pv (.int .i64 0)),(.pv (.str [])),(.pv (.int .i64 0)),(.pv (.str [])),(.pv (.sl 0 true [])),(.pv (.sl 0 true [])),(.pv (.sl 0 true [])),(.pv (.sl 0 true [])),(.pv (.sl 0 true []))]))]))))))))):ZE Gj (Wn RR) 0 (fun st=>G st.heap) (.inl Ka) [] (XB 67 [.pv (.agg [enc n.kind,enc n.line,enc n.name,enc n.num,enc n.elem,enc n.dims,enc n.data,enc n.sizes,enc n.ranks,enc ks])] []):=ZE.mh (dm [dv (List Int),dv (List Lin)] 10 0x61515151) h
-- BAD 1 in a1y
theorem a1y{G:Zm->Prop}(RR:Nat->St->Prop)(n:Nd)(ks:List Tm)(m i:Int)(h:if (decide (i<m))=true then(decide (0<=i)&&decide (Int.toNat i<List.length (List.map enc (Nd.sizes n)))&&Enc.sz Lin==2)=true∧(∃ y0:Lin,AV.pv (PV.rptr (PV.cells (List.getD (List.map enc (Nd.sizes n)) (Int.toNat i) default)))=AV.pv (PV.rptr (PV.cells ((enc) y0)))∧((Go.Pl.preT (fun(x:List Coef×Unit)=>decide (List.length x.1<=2000000)) [(.sl 2 false (PV.asXs (List.getD (List.drop 1 (PV.cells (enc y0))) 0 default)))])=true∧(∃ y1:List Coef,AV.pv (Zj (fun(x:List Coef×Unit)=>x.1) [(.sl 2 false (PV.asXs (List.getD (List.drop 1 (PV.cells (enc y0))) 0 default)))])=AV.pv (enc y1)∧((decide (0<=i)&&decide (Int.toNat i<List.length (List.map enc (Nd.sizes n)))&&Enc.sz Lin==2)=true∧(∃ y2:Lin,AV.pv (PV.rptr (PV.cells (List.getD (List.map enc (Nd.sizes n)) (Int.toNat i) default)))=AV.pv (PV.rptr (PV.cells ((enc) y2)))∧(False))))))else((Go.Pl.preT (fun(x:List Tm×Unit)=>List.isEmpty x.1) [(.sl 10 false (List.map enc ks))])=true∧(∃ y3:List Tm,AV.pv (Zj (fun(x:List Tm×Unit)=>x.1) [(.sl 10 false (List.map enc ks))])=AV.pv (enc y3)∧((Wn RR) 0 ⟨ZU 67 0 [(1,(.ptr 0 0)),(2,(.ptr 1 0)),(4,.undef),(49,.undef),(50,.undef),(51,.undef),(52,.undef),(53,.undef),(54,.undef),(55,.undef),(56,.undef),(57,.undef),(58,.undef),(59,.undef),(60,.undef),(61,.undef),(62,.undef),(63,.undef),(64,.undef),(65,.undef),(66,.undef)],[(.obj (.box [(.pv (.int .i64 (Nd.kind n))),(.pv (.int .i64 (Nd.line n))),(.pv (.str (Str.s (Nd.name n)))),(.pv (.int .i64 (Nd.num n))),(.pv (.str (Str.s (Nd.elem n)))),(.pv (.sl 1 false (List.map enc (Nd.dims n)))),(.pv (.sl 1 false (List.map enc (Nd.data n)))),(.pv (.sl 2 false (List.map enc (Nd.sizes n)))),(.pv (.sl 1 false (List.map enc (Nd.ranks n)))),(.pv (.sl 10 false (List.map enc y3)))])),(.obj (.box [(.pv (.int .i64 0)),(.pv (.int .i64 0)),(.pv (.str [])),(.pv (.int .i64 0)),(.pv (.str [])),(.pv (.sl 0 true [])),(.pv (.sl 0 true [])),(.pv (.sl 0 true [])),(.pv (.sl 0 true [])),(.pv (.sl 0 true []))]))]⟩ (fun x S'=>Kj Gj (Wn RR) 0 (fun st=>G st.heap) Ka 0 x S'))))):EB Gj (Wn RR) 0 (fun st=>G st.heap) Ka 0 67 [(1,.ptr 0 0),(2,.ptr 1 0),(4,.undef),(28,.pv (.int .i64 m)),(29,.pv (.int .i64 i)),(49,.undef),(50,.undef),(51,.undef),(52,.undef),(53,.undef),(54,.undef),(55,.undef),(56,.undef),(57,.undef),(58,.undef),(59,.undef),(60,.undef),(61,.undef),(62,.undef),(63,.undef),(64,.undef),(65,.undef),(66,.undef)] [.obj (.box [.pv (enc n.kind),.pv (enc n.line),.pv (enc n.name),.pv (enc n.num),.pv (enc n.elem),.pv (enc n.dims),.pv (enc n.data),.pv (enc n.sizes),.pv (enc n.ranks),.pv (enc ks)]),.obj (.box [.pv (.int .i64 0),.pv (.int .i64 0),.pv (.str []),.pv (.int .i64 0),.pv (.str []),.pv (.sl 0 true []),.pv (.sl 0 true []),.pv (.sl 0 true []),.pv (.sl 0 true []),.pv (.sl 0 true [])])]:=ZE.mh (dm [dr Lin,dv (List Coef),dv (List Tm)] 17 0x710516125100842) h
end Go.Pl
namespace Go.Pl
open Go.RowKit
open Enc (enc dec is)
open EncL (encL decL isL)
def d0e:List (Nat×AV):=[(1,.ptr 0 0),(2,.ptr 1 0),(4,.undef),(49,.undef),(50,.undef),(51,.undef),(52,.undef),(53,.undef),(54,.undef),(55,.undef),(56,.undef),(57,.undef),(58,.undef),(59,.undef),(60,.undef),(61,.undef),(62,.undef),(63,.undef),(64,.undef),(65,.undef),(66,.undef)]
def cpZ:List AV:=[.pv (.int .i64 0),.pv (.int .i64 0),.pv (.str []),.pv (.int .i64 0),.pv (.str []),.pv (.sl 0 true []),.pv (.sl 0 true []),.pv (.sl 0 true []),.pv (.sl 0 true []),.pv (.sl 0 true [])]
def b0l(n:Nd)(SZ:AV):List AV:=[.pv (enc n.kind),.pv (enc n.line),.pv (enc n.name),.pv (enc n.num),.pv (enc n.elem),.pv (enc n.dims),.pv (enc n.data),SZ,.pv (enc n.ranks)]
def cpR(n:Nd)(ks:List Tm)(m:Nat)(S:St):Prop:=m=0∧S.env=ZU 67 0 d0e∧ ∃ (SZ KD:AV) (b:Bool) (rest:Zm),S.heap = .obj (.box (b0l n SZ++[KD])):: .obj (.box cpZ)::rest ∧
 ((b=false∧SZ = .pv (enc n.sizes))∨(b=true∧SZ = .row 2 n.sizes.length 0 n.sizes.length∧S.heap[2]? = some (.obj (.row false 62 2 (n.sizes.map enc))))) ∧
 ((ks=[]∧KD = .pv (enc ks))∨(ks≠[]∧KD = .row (if b=true then 3 else 2) ks.length 0 ks.length∧S.heap[if b=true then 3 else 2]? = some (.obj (.row false 28 10 (ks.map enc)))))
theorem RN{α:Type}[Enc α]{l:List α}{s:Nat}(h:l≠[])(hl:l.length<=2000000):Yf s [(.pv (.sl s false (List.map enc l)))] []=true:=by
 simp[Yf,h,hl]
theorem a7c{RR:Nat->St->Prop}{n:Nd}{ks:List Tm}(hne:ks≠[])(hk:ks.length<=2000000)(hl:n.sizes.length<=2000000)(ht : ∀ l∈n.sizes,l.t.length<=2000000){m:Nat}(hm:m=n.sizes.length)(hR : ∀ S,cpR n ks 0 S->RR 0 S): ∀ (d i:Nat),d+i=n.sizes.length ->
  EB U8 (Wn RR) 0 (fun _=>False) XM 0 67 [(1,.ptr 0 0),(2,.ptr 1 0),(4,.undef),(28,.pv (.int .i64 m)),(29,.pv (.int .i64 i)),(49,.undef),(50,.undef),(51,.undef),(52,.undef),(53,.undef),(54,.undef),(55,.undef),(56,.undef),(57,.undef),(58,.undef),(59,.undef),(60,.undef),(61,.undef),(62,.undef),(63,.undef),(64,.undef),(65,.undef),(66,.undef)]
   [.obj (.box [.pv (enc n.kind),.pv (enc n.line),.pv (enc n.name),.pv (enc n.num),.pv (enc n.elem),.pv (enc n.dims),.pv (enc n.data),.row 2 m 0 m,.pv (enc n.ranks),.pv (enc ks)]),.obj (.box cpZ),.obj (.row false 62 2 (n.sizes.map enc))]:=by
 subst hm
 intro d
 induction d with
 | zero=>
  intro i hi
  refine EZ (G:=fun _=>False) RR n ks n.sizes.length n.sizes i (Xu (UI (by omega)) ⟨RN hne hk,hR _ ⟨rfl,rfl,_,_,true,_,rfl,.inr ⟨rfl,rfl,rfl⟩,.inr ⟨hne,by simp,rfl⟩⟩⟩)
 | succ d ih=>
  intro i hi
  have h1:i<n.sizes.length:=by omega
  refine EZ (G:=fun _=>False) RR n ks n.sizes.length n.sizes i (Xt (Qq h1) ?_)
  have e:List.getD (List.map (enc:Lin->PV) n.sizes) (0+Int.toNat (i:Int)) default=enc n.sizes[i]:=by rw[Nat.zero_add];exact JR enc h1
  have e2:(enc n.sizes[i]:PV) = .agg [.int .i64 n.sizes[i].k,.sl 2 false (n.sizes[i].t.map enc)]:=rfl
  have e3:List.set (n.sizes.map (enc:Lin->PV)) (0+Int.toNat (i:Int)) (.agg [.int .i64 n.sizes[i].k,.sl 2 false (n.sizes[i].t.map enc)])=n.sizes.map enc:=by
   rw[Nat.zero_add,Int.toNat_natCast,<- e2]
   apply List.ext_getElem?
   intro j
   rw[List.getElem?_set]
   split
   ·rename_i h;subst h;rw[if_pos (by simpa using h1),List.getElem?_map,List.getElem?_eq_getElem h1];rfl
   ·rfl
  have hc:=ht _ (List.getElem_mem h1)
  simp only[e,e2]
  refine⟨by simp[h1],by simp[h1],by simp[PV.cells,Yr,Sh.fit],Zd (n.sizes[i].t,()) rfl (decide_eq_true hc),Zh (n.sizes[i].t,()) rfl ⟨by simp[h1],?_,?_⟩⟩
  ·simp[h1,PV.cells,PV.cellsOk,enc]
  ·show EB U8 (Wn RR) 0 (fun _=>False) XM 0 67 _ [_,_,.obj (.row false 62 2 (List.set (n.sizes.map (enc:Lin->PV)) (0+Int.toNat (i:Int)) (.agg [.int .i64 n.sizes[i].k,.sl 2 false (n.sizes[i].t.map enc)])))]
   rw[e3,next (by omega)]
   exact ih (i+1) (by omega)
theorem b4r{RR:Nat->St->Prop}{n:Nd}(hl:n.sizes.length<=2000000)(ht : ∀ l∈n.sizes,l.t.length<=2000000){m:Nat}(hm:m=n.sizes.length)(hR : ∀ S,cpR n [] 0 S->RR 0 S): ∀ (d i:Nat),d+i=n.sizes.length ->
  EB UW (Wn RR) 0 (fun _=>False) Vl 0 67 [(1,.ptr 0 0),(2,.ptr 1 0),(4,.undef),(28,.pv (.int .i64 m)),(29,.pv (.int .i64 i)),(49,.undef),(50,.undef),(51,.undef),(52,.undef),(53,.undef),(54,.undef),(55,.undef),(56,.undef),(57,.undef),(58,.undef),(59,.undef),(60,.undef),(61,.undef),(62,.undef),(63,.undef),(64,.undef),(65,.undef),(66,.undef)]
   [.obj (.box [.pv (enc n.kind),.pv (enc n.line),.pv (enc n.name),.pv (enc n.num),.pv (enc n.elem),.pv (enc n.dims),.pv (enc n.data),.row 2 m 0 m,.pv (enc n.ranks),.pv (enc ([]:List Tm))]),.obj (.box cpZ),.obj (.row false 62 2 (n.sizes.map enc))]:=by
 subst hm
 intro d
 induction d with
 | zero=>
  intro i hi
  refine a1j (G:=fun _=>False) RR n [] n.sizes.length n.sizes i (Xu (UI (by omega)) ⟨Zd (([]:List Tm),()) rfl rfl,Zh (([]:List Tm),()) rfl (hR _ ⟨rfl,rfl,_,_,true,_,rfl,.inr ⟨rfl,rfl,rfl⟩,.inl ⟨rfl,rfl⟩⟩)⟩)
 | succ d ih=>
  intro i hi
  have h1:i<n.sizes.length:=by omega
  refine a1j (G:=fun _=>False) RR n [] n.sizes.length n.sizes i (Xt (Qq h1) ?_)
  have e:List.getD (List.map (enc:Lin->PV) n.sizes) (0+Int.toNat (i:Int)) default=enc n.sizes[i]:=by rw[Nat.zero_add];exact JR enc h1
  have e2:(enc n.sizes[i]:PV) = .agg [.int .i64 n.sizes[i].k,.sl 2 false (n.sizes[i].t.map enc)]:=rfl
  have e3:List.set (n.sizes.map (enc:Lin->PV)) (0+Int.toNat (i:Int)) (.agg [.int .i64 n.sizes[i].k,.sl 2 false (n.sizes[i].t.map enc)])=n.sizes.map enc:=by
   rw[Nat.zero_add,Int.toNat_natCast,<- e2]
   apply List.ext_getElem?
   intro j
   rw[List.getElem?_set]
   split
   ·rename_i h;subst h;rw[if_pos (by simpa using h1),List.getElem?_map,List.getElem?_eq_getElem h1];rfl
   ·rfl
  have hc:=ht _ (List.getElem_mem h1)
  simp only[e,e2]
  refine⟨by simp[h1],by simp[h1],by simp[PV.cells,Yr,Sh.fit],Zd (n.sizes[i].t,()) rfl (decide_eq_true hc),Zh (n.sizes[i].t,()) rfl ⟨by simp[h1],?_,?_⟩⟩
  ·simp[h1,PV.cells,PV.cellsOk,enc]
  ·show EB UW (Wn RR) 0 (fun _=>False) Vl 0 67 _ [_,_,.obj (.row false 62 2 (List.set (n.sizes.map (enc:Lin->PV)) (0+Int.toNat (i:Int)) (.agg [.int .i64 n.sizes[i].k,.sl 2 false (n.sizes[i].t.map enc)])))]
   rw[e3,next (by omega)]
   exact ih (i+1) (by omega)
abbrev FD(n:Nd)(ks:List Tm):St:=XB 67 [.pv (.agg [enc n.kind,enc n.line,enc n.name,enc n.num,enc n.elem,enc n.dims,enc n.data,enc n.sizes,enc n.ranks,enc ks])] []
theorem d2a{RR:Nat->St->Prop}{n:Nd}{ks:List Tm}(hw:tW (.mk n ks)=true)(hs:n.sizes≠[])(hne:ks≠[])(hR : ∀ S,cpR n ks 0 S->RR 0 S):ZE U8 (Wn RR) 0 (fun _=>False) (.inl XM) [] (FD n ks):=by
 have hb:=Fs hw
 have hk:=(Ym hw).1
 have h1:=hb.dims;have h2:=hb.data;have h3:=hb.ranks;have hsz:=hb.sizes
 refine c7y (G:=fun _=>False) RR n ks ⟨Zd (n.dims,()) rfl (decide_eq_true (show n.dims.length<=2000000 by omega)),Zh (n.dims,()) rfl ⟨Zd (n.data,()) rfl (decide_eq_true (show n.data.length<=2000000 by omega)),Zh (n.data,()) rfl
  ⟨Zd (n.ranks,()) rfl (decide_eq_true (show n.ranks.length<=2000000 by omega)),Zh (n.ranks,()) rfl ⟨RN hs (by omega),a7c hne (by omega) (by omega) (fun l hl=>by have:=hb.lens l hl;omega) (List.length_map _) hR n.sizes.length 0 (by omega)⟩⟩⟩⟩
theorem d0c{RR:Nat->St->Prop}{n:Nd}{ks:List Tm}(hw:tW (.mk n ks)=true)(hs:n.sizes≠[])(hz:ks=[])(hR : ∀ S,cpR n ks 0 S->RR 0 S):ZE UW (Wn RR) 0 (fun _=>False) (.inl Vl) [] (FD n ks):=by
 have hb:=Fs hw
 have hk:=(Ym hw).1
 have h1:=hb.dims;have h2:=hb.data;have h3:=hb.ranks;have hsz:=hb.sizes
 subst hz
 refine c9a (G:=fun _=>False) RR n [] ⟨Zd (n.dims,()) rfl (decide_eq_true (show n.dims.length<=2000000 by omega)),Zh (n.dims,()) rfl ⟨Zd (n.data,()) rfl (decide_eq_true (show n.data.length<=2000000 by omega)),Zh (n.data,()) rfl
  ⟨Zd (n.ranks,()) rfl (decide_eq_true (show n.ranks.length<=2000000 by omega)),Zh (n.ranks,()) rfl ⟨RN hs (by omega),b4r (by omega) (fun l hl=>by have:=hb.lens l hl;omega) (List.length_map _) hR n.sizes.length 0 (by omega)⟩⟩⟩⟩
theorem c9x{RR:Nat->St->Prop}{n:Nd}{ks:List Tm}(hw:tW (.mk n ks)=true)(hs:n.sizes=[])(hne:ks≠[])(hR : ∀ S,cpR n ks 0 S->RR 0 S):ZE Gf (Wn RR) 0 (fun _=>False) (.inl QW) [] (FD n ks):=by
 have hb:=Fs hw
 have hk:=(Ym hw).1
 have h1:=hb.dims;have h2:=hb.data;have h3:=hb.ranks;have hsz:=hb.sizes
 refine c6a (G:=fun _=>False) RR n ks ⟨Zd (n.dims,()) rfl (decide_eq_true (show n.dims.length<=2000000 by omega)),Zh (n.dims,()) rfl ⟨Zd (n.data,()) rfl (decide_eq_true (show n.data.length<=2000000 by omega)),Zh (n.data,()) rfl
  ⟨Zd (n.ranks,()) rfl (decide_eq_true (show n.ranks.length<=2000000 by omega)),Zh (n.ranks,()) rfl ⟨Zd (n.sizes,()) rfl (by rw[hs];rfl),Zh (n.sizes,()) rfl (Eh (G:=fun _=>False) RR n ks (List.length (List.map (enc:Lin->PV) n.sizes)) 0 (Xu (by rw[hs];decide) ⟨RN hne (by omega),hR _ ⟨rfl,rfl,_,_,false,_,rfl,.inl ⟨rfl,rfl⟩,.inr ⟨hne,by simp,rfl⟩⟩⟩))⟩⟩⟩⟩
theorem d2u{RR:Nat->St->Prop}{n:Nd}{ks:List Tm}(hw:tW (.mk n ks)=true)(hs:n.sizes=[])(hz:ks=[])(hR : ∀ S,cpR n ks 0 S->RR 0 S):ZE Gj (Wn RR) 0 (fun _=>False) (.inl Ka) [] (FD n ks):=by
 have hb:=Fs hw
 have hk:=(Ym hw).1
 have h1:=hb.dims;have h2:=hb.data;have h3:=hb.ranks;have hsz:=hb.sizes
 subst hz
 refine c7a (G:=fun _=>False) RR n [] ⟨Zd (n.dims,()) rfl (decide_eq_true (show n.dims.length<=2000000 by omega)),Zh (n.dims,()) rfl ⟨Zd (n.data,()) rfl (decide_eq_true (show n.data.length<=2000000 by omega)),Zh (n.data,()) rfl
  ⟨Zd (n.ranks,()) rfl (decide_eq_true (show n.ranks.length<=2000000 by omega)),Zh (n.ranks,()) rfl ⟨Zd (n.sizes,()) rfl (by rw[hs];rfl),Zh (n.sizes,()) rfl (a1y (G:=fun _=>False) RR n [] (List.length (List.map (enc:Lin->PV) n.sizes)) 0 (Xu (by rw[hs];decide) ⟨Zd (([]:List Tm),()) rfl rfl,Zh (([]:List Tm),()) rfl (hR _ ⟨rfl,rfl,_,_,false,_,rfl,.inl ⟨rfl,rfl⟩,.inl ⟨rfl,rfl⟩⟩)⟩))⟩⟩⟩⟩
end Go.Pl
namespace Go.Pl
open Go.RowKit
open Enc (enc dec is)
open EncL (encL decL isL)
set_option maxRecDepth 100000
def F3:IC:=(WP [ZB 1 (.box 10 (.t 0)) 0,ZB 2 (.alloc (.agg [(.int .i64 0),(.int .i64 0),(.str []),(.int .i64 0),(.str []),(.sl 0 true []),(.sl 0 true []),(.sl 0 true []),(.sl 0 true []),(.sl 0 true [])])) 1] (WP [ZB 6 (.load true [(.int .i64),(.int .i64),.str,(.int .i64),.str,(.sl 1),(.sl 1),(.sl 2),(.sl 1),(.sl 10)] (.t 1)) 0,ZB 7 (c'' 20 [(.t 6)]) 0,ZB 3 (.alloc (.sl 0 true [])) 2,Al (.store 1 (.t 3) (.t 7)) 3] (WP [ZB 4 (.alloc (.int .i64 0)) 0,Al (.store 1 (.t 4) (UH 0)) 1] (WP [ZB 8 (.mkfn 67 [] [(.t 4),(.t 3)]) 0,ZB 5 (XX 8) 0] (.ext 0 [1,9,5,10,11,12,2,13])))))
def a9j:ZC:=YM [(20,.pure (preT (fun x:Tm×Unit=>tW x.1)) (Zj (fun x:Tm×Unit=>X5 x.1)))]
theorem d3u{G:Zm->Prop}(RR:Nat->St->Prop)(n:Nd)(ks:List Tm)(h:(Go.Pl.preT (fun(x:Tm×Unit)=>tW x.1) (EU n ks))=true∧(∃ y0:List Str,AV.pv (Zj (fun(x:Tm×Unit)=>X5 x.1) (EU n ks))=AV.pv (enc y0)∧((Wn RR) 0 ⟨ZU 14 0 [(1,(.ptr 0 0)),(2,(.ptr 1 0)),(5,(.fn 67 [] [(.ptr 2 0),(.ptr 3 0)])),(9,.undef),(10,.undef),(11,.undef),(12,.undef),(13,.undef)],[(.obj (.box (Z5 n ks))),(.obj (.box [(.pv (.int .i64 0)),(.pv (.int .i64 0)),(.pv (.str [])),(.pv (.int .i64 0)),(.pv (.str [])),(.pv (.sl 0 true [])),(.pv (.sl 0 true [])),(.pv (.sl 0 true [])),(.pv (.sl 0 true [])),(.pv (.sl 0 true []))])),(.obj (.box [(.pv (.int .i64 0))])),(.obj (.box [(.pv (.sl 1 false (List.map enc y0)))]))]⟩ (fun x S'=>Kj a9j (Wn RR) 0 (fun st=>G st.heap) F3 0 x S')))):ZE a9j (Wn RR) 0 (fun st=>G st.heap) (.inl F3) [] (XB 14 [.pv (.agg [enc n.kind,enc n.line,enc n.name,enc n.num,enc n.elem,enc n.dims,enc n.data,enc n.sizes,enc n.ranks,enc ks])] []):=ZE.mh (.req (.abs (List Str) (fun YY=>AV.pv (enc YY)) (.nil))) h
end Go.Pl
namespace Go.Pl
open Go.RowKit
open Enc (enc dec is)
open EncL (encL decL isL)
set_option maxRecDepth 100000
noncomputable def Gh:IC:=Wo Proofs.Tryz.f38
def H7:List IRes:=[(.cell true 10 4),(.tmp 5)]
abbrev c7n:Nat:=32
noncomputable def Sl:ZC:=YM [(71,.pure (preT (fun x:Tm×Unit=>tW x.1)) (Zj (fun x:Tm×Unit=>Vp x.1)))]
theorem d1v{G:PV->Prop}(n:Nd)(ks:List Tm)(p:List Int)(h:At Sl 0 (Zb H7 G) Gh 0 32 [(2,(.ptr 0 0)),(4,(.ptr 1 0)),(8,(.pv (.sl 1 false (List.map enc p)))),(9,(.pv (.int .i64 (↑(List.length (List.map enc p)):Int)))),(10,(.pv (.int .i64 0)))] [(.obj (.box (Z5 n ks))),(.obj (.box [(.pv (.int .i64 0)),(.pv (.int .i64 0)),(.pv (.str [])),(.pv (.int .i64 0)),(.pv (.str [])),(.pv (.sl 0 true [])),(.pv (.sl 0 true [])),(.pv (.sl 0 true [])),(.pv (.sl 0 true [])),(.pv (.sl 0 true []))]))]):Ze Sl 0 (Zb H7 G) Gh [] (Yc 32 [.agg [enc n.kind,enc n.line,enc n.name,enc n.num,enc n.elem,enc n.dims,enc n.data,enc n.sizes,enc n.ranks,enc ks],enc p]):=Ze.tp (.nil) h
theorem a7n{G:PV->Prop}(n:Nd)(ks:List Tm)(p:List Int)(i:Int)(h:if (decide (i<(↑(List.length (List.map enc p)):Int)))=true then(decide (0<=i)&&decide (Int.toNat i<List.length (List.map enc p))&&Enc.sz Int==1)=true∧(∃ y0:Int,AV.pv (PV.rptr (PV.cells (List.getD (List.map enc p) (Int.toNat i) default)))=AV.pv (PV.rptr (PV.cells ((enc) y0)))∧(if (decide (PV.asInt (List.getD (PV.cells (enc y0)) 0 default)<0))=true then G ((.tup [(.agg [(.int .i64 0),(.int .i64 0),(.str []),(.int .i64 0),(.str []),(.sl 0 true []),(.sl 0 true []),(.sl 0 true []),(.sl 0 true []),(.sl 0 true [])]),(.bool false)]))else(if (decide (PV.asInt (List.getD (PV.cells (enc y0)) 0 default) ≥ (↑(List.length (List.map enc ks)):Int)))=true then G ((.tup [(.agg [(.int .i64 0),(.int .i64 0),(.str []),(.int .i64 0),(.str []),(.sl 0 true []),(.sl 0 true []),(.sl 0 true []),(.sl 0 true []),(.sl 0 true [])]),(.bool false)]))else((decide (0<=PV.asInt (List.getD (PV.cells (enc y0)) 0 default))&&decide (Int.toNat (PV.asInt (List.getD (PV.cells (enc y0)) 0 default))<List.length (List.map enc ks))&&Enc.sz Tm==10)=true∧(∃ y1:Tm,AV.pv (PV.rptr (PV.cells (List.getD (List.map enc ks) (Int.toNat (PV.asInt (List.getD (PV.cells (enc y0)) 0 default))) default)))=AV.pv (PV.rptr (PV.cells ((enc) y1)))∧(shT y1=true∧(At Sl 0 (Zb H7 G) Gh 0 32 [(2,(.ptr 0 0)),(4,(.ptr 1 0)),(8,(.pv (.sl 1 false (List.map enc p)))),(9,(.pv (.int .i64 (↑(List.length (List.map enc p)):Int)))),(10,(.pv (.int .i64 (IntKind.wrap IntKind.i64 (i+1)))))] [(.obj (.box (bxT y1))),(.obj (.box [(.pv (.int .i64 0)),(.pv (.int .i64 0)),(.pv (.str [])),(.pv (.int .i64 0)),(.pv (.str [])),(.pv (.sl 0 true [])),(.pv (.sl 0 true [])),(.pv (.sl 0 true [])),(.pv (.sl 0 true [])),(.pv (.sl 0 true []))]))])))))))else((Go.Pl.preT (fun(x:Tm×Unit)=>tW x.1) (EU n ks))=true∧(∃ y2:TS,AV.pv (Zj (fun(x:Tm×Unit)=>Vp x.1) (EU n ks))=AV.pv (enc y2)∧(G ((.tup [(.agg [(.int .i64 (Nd.kind (TS.n y2))),(.int .i64 (Nd.line (TS.n y2))),(.str (Str.s (Nd.name (TS.n y2)))),(.int .i64 (Nd.num (TS.n y2))),(.str (Str.s (Nd.elem (TS.n y2)))),(.sl 1 false (List.map enc (Nd.dims (TS.n y2)))),(.sl 1 false (List.map enc (Nd.data (TS.n y2)))),(.sl 2 false (List.map enc (Nd.sizes (TS.n y2)))),(.sl 1 false (List.map enc (Nd.ranks (TS.n y2)))),(.sl 10 false (List.map enc (TS.k y2)))]),(.bool true)])))))):At Sl 0 (Zb H7 G) Gh 0 32 [(2,.ptr 0 0),(4,.ptr 1 0),(8,.pv (enc p)),(9,.pv (.int .i64 (p.map (enc:Int->PV)).length)),(10,.pv (.int .i64 i))] [.obj (.box [.pv (enc n.kind),.pv (enc n.line),.pv (enc n.name),.pv (enc n.num),.pv (enc n.elem),.pv (enc n.dims),.pv (enc n.data),.pv (enc n.sizes),.pv (enc n.ranks),.pv (enc ks)]),.obj (.box [.pv (.int .i64 0),.pv (.int .i64 0),.pv (.str []),.pv (.int .i64 0),.pv (.str []),.pv (.sl 0 true []),.pv (.sl 0 true []),.pv (.sl 0 true []),.pv (.sl 0 true []),.pv (.sl 0 true [])])]:=At.tp (dm [dr Int,dr Tm,dv TS] 40 0x71021610001422222202222220074225101f42) h
end Go.Pl
namespace Go.Pl
open Go.RowKit
open Enc (enc dec is)
open EncL (encL decL isL)
theorem a9b(p:List Int)(hp:p.length<=1048576)(R:Tm×Bool): ∀ (d i:Nat) (n:Nd) (ks:List Tm),d+i=p.length->tW (.mk n ks)=true->R=Wv (Zr (.mk n ks) (p.drop i)) ->
  At Sl 0 (Zb H7 (Zq R)) Gh 0 32 [(2,.ptr 0 0),(4,.ptr 1 0),(8,.pv (enc p)),(9,.pv (.int .i64 (p.map (enc:Int->PV)).length)),(10,.pv (.int .i64 i))] [.obj (.box (Z5 n ks)),.obj (.box [.pv (.int .i64 0),.pv (.int .i64 0),.pv (.str []),.pv (.int .i64 0),.pv (.str []),.pv (.sl 0 true []),.pv (.sl 0 true []),.pv (.sl 0 true []),.pv (.sl 0 true []),.pv (.sl 0 true [])])]:=by
 intro d
 induction d with
 | zero=>
  intro i n ks hi hw hR
  rw[List.drop_eq_nil_of_le (by omega),Zr]at hR
  refine a7n n ks p i (Xu (WO (by omega)) ⟨Zd (Tm.mk n ks,()) (WA n ks) hw,Zh (Tm.mk n ks,()) (WA n ks) ?_⟩)
  rw[hR]
  exact b1u (Vp (.mk n ks))
 | succ d ih=>
  intro i n ks hi hw hR
  have h1:i<p.length:=by omega
  rw[List.drop_eq_getElem_cons h1,Zr]at hR
  refine a7n n ks p i (Xt (Wt h1) ⟨ZP h1 rfl,Yg h1 (XA (fun k=> ?_) fun k=>XA (fun k2=> ?_) fun k2=> ?_)⟩)
  ·have k:p[i]<0:=k
   rw[hR,if_neg (by omega)]
   exact MF
  ·have k : ¬ p[i]<0:=k
   rw[List.length_map]at k2
   have k2:p[i] ≥ (ks.length:Int):=k2
   rw[hR,if_pos (by omega),Tm.ks,List.getElem?_eq_none (by omega)]
   exact MF
  ·have k : ¬ p[i]<0:=k
   rw[List.length_map]at k2
   have k2 : ¬ p[i] ≥ (ks.length:Int):=k2
   obtain⟨j,hj⟩ : ∃ j:Nat,p[i]=j:=⟨p[i].toNat,by omega⟩
   have hjl:j<ks.length:=by omega
   rw[if_pos (by omega),Tm.ks,hj,Int.toNat_natCast,List.getElem?_eq_getElem hjl]at hR
   show(decide (0<=p[i])&&decide (Int.toNat p[i]<List.length (List.map (enc:Tm->PV) ks))&&Enc.sz Tm==10)=true∧_
   rw[show PV.asInt (List.getD (PV.cells (enc p[i])) 0 default)=(j:Int)from hj,hj]
   refine⟨ZP hjl rfl,Yg hjl ⟨Vy _,?_⟩⟩
   rw[next (by omega)]
   have hk:=(Ym hw).2 _ (List.getElem_mem hjl)
   cases he:ks[j]with
   | mk m ls=>
    rw[c6t]
    rw[he]at hR hk
    exact ih (i+1) m ls (by omega) hk hR
theorem c0l: ∀ x:Tm×List Int×Unit,(tW x.1&&decide (x.2.1.length<=1048576))=true->Ze Sl 0 (Zb H7 (Zq (Wv (Zr x.1 x.2.1)))) Gh [] (Yc c7n (encL x)):=by
 rintro⟨⟨n,ks⟩,p,⟨⟩⟩ h
 simp only[Bool.and_eq_true,decide_eq_true_eq]at h
 rw[ndT]
 exact d1v n ks p (a9b p h.2 _ p.length 0 n ks (by omega) h.1 rfl)
end Go.Pl
namespace Go.Pl
open Go.RowKit
open Enc (enc dec is)
open EncL (encL decL isL)
set_option maxRecDepth 100000
def TH:IC:=(WP [ZB 3 (.box 10 (.t 0)) 0,ZB 5 (.box 10 (.t 2)) 1,ZB 6 (.alloc (.agg [(.int .i64 0),(.int .i64 0),(.str []),(.int .i64 0),(.str []),(.sl 0 true []),(.sl 0 true []),(.sl 0 true []),(.sl 0 true []),(.sl 0 true [])])) 2,ZB 7 (.mv (UH 0)) 3] (.seq (WP [ZB 15 (.load true [(.int .i64),(.int .i64),.str,(.int .i64),.str,(.sl 1),(.sl 1),(.sl 2),(.sl 1),(.sl 10)] (.t 3)) 0,ZB 16 (XX 1) 0,ZB 17 (c'' 38 [(.t 15),(.t 16)]) 0,ZB 14 (XX 17) 2,ZB 18 (.extract (.t 14) 0) 2,ZB 19 (.extract (.t 14) 1) 2,ZB 8 (.alloc (.agg [(.int .i64 0),(.int .i64 0),(.str []),(.int .i64 0),(.str []),(.sl 0 true []),(.sl 0 true []),(.sl 0 true []),(.sl 0 true []),(.sl 0 true [])])) 2,Al (.store 10 (.t 8) (.t 18)) 3,ZB 9 (XX 19) 3] (WP [ZB 20 (XX 9) 0,ZB 21 (.un .not (.t 20)) 0] (.cond (.t 21) (WP [ZB 22 (.build [(.int .i64 0),(.int .i64 0),(.str []),(.int .i64 0),(.str []),(.sl 0 true []),(.sl 0 true []),(.sl 0 true []),(.sl 0 true []),(.sl 0 true [])] []) 0,Al (.store 10 (.t 6) (.t 22)) 0,ZB 7 (.mv (UH 9)) 0] .ret) .skip))) (.ext 0 [3,23,10,24,1,25,27,26,28,29,30,11,31,32,33,13,34,35,36,37,5,39,38,41,40,6,42])))
def L8:List IRes:=[(.cell true 10 6),(.tmp 7)]
noncomputable def b2d:ZC:=YM [(38,.pure (preT (fun x:Tm×List Int×Unit=>tW x.1&&decide (x.2.1.length<=1048576))) (Zj (fun x:Tm×List Int×Unit=>(Vp (Wv (Zr x.1 x.2.1)).1,(Wv (Zr x.1 x.2.1)).2))))]
theorem d2o{G:PV->Prop}(E:Xn)(n:Nd)(ks:List Tm)(p:List Int)(m:Nd)(ls:List Tm)(h:(Go.Pl.preT (fun(x:Tm×List Int×Unit)=>tW x.1&&decide (List.length x.2.1<=1048576)) [(.agg [(.int .i64 (Nd.kind n)),(.int .i64 (Nd.line n)),(.str (Str.s (Nd.name n))),(.int .i64 (Nd.num n)),(.str (Str.s (Nd.elem n))),(.sl 1 false (List.map enc (Nd.dims n))),(.sl 1 false (List.map enc (Nd.data n))),(.sl 2 false (List.map enc (Nd.sizes n))),(.sl 1 false (List.map enc (Nd.ranks n))),(.sl 10 false (List.map enc ks))]),(.sl 1 false (List.map enc p))])=true∧(∃ y0:TS×Bool,AV.pv (Zj (fun(x:Tm×List Int×Unit)=>(Vp (Prod.fst (Wv (Zr x.1 x.2.1))),Prod.snd (Wv (Zr x.1 x.2.1)))) [(.agg [(.int .i64 (Nd.kind n)),(.int .i64 (Nd.line n)),(.str (Str.s (Nd.name n))),(.int .i64 (Nd.num n)),(.str (Str.s (Nd.elem n))),(.sl 1 false (List.map enc (Nd.dims n))),(.sl 1 false (List.map enc (Nd.data n))),(.sl 2 false (List.map enc (Nd.sizes n))),(.sl 1 false (List.map enc (Nd.ranks n))),(.sl 10 false (List.map enc ks))]),(.sl 1 false (List.map enc p))])=AV.pv (enc y0)∧(if (!Prod.snd y0)=true then G ((.tup [(.agg [(.int .i64 0),(.int .i64 0),(.str []),(.int .i64 0),(.str []),(.sl 0 true []),(.sl 0 true []),(.sl 0 true []),(.sl 0 true []),(.sl 0 true [])]),(.int .i64 9)]))else(E 0 ⟨ZU 43 0 [(1,(.pv (.sl 1 false (List.map enc p)))),(3,(.ptr 0 0)),(5,(.ptr 1 0)),(6,(.ptr 2 0)),(10,.undef),(11,.undef),(13,.undef),(23,.undef),(24,.undef),(25,.undef),(26,.undef),(27,.undef),(28,.undef),(29,.undef),(30,.undef),(31,.undef),(32,.undef),(33,.undef),(34,.undef),(35,.undef),(36,.undef),(37,.undef),(38,.undef),(39,.undef),(40,.undef),(41,.undef),(42,.undef)],[(.obj (.box (Z5 n ks))),(.obj (.box (Z5 m ls))),(.obj (.box [(.pv (.int .i64 0)),(.pv (.int .i64 0)),(.pv (.str [])),(.pv (.int .i64 0)),(.pv (.str [])),(.pv (.sl 0 true [])),(.pv (.sl 0 true [])),(.pv (.sl 0 true [])),(.pv (.sl 0 true [])),(.pv (.sl 0 true []))]))]⟩ (fun x S'=>Kj b2d E 0 (Zb L8 G) TH 0 x S'))))):ZE b2d E 0 (Zb L8 G) (.inl TH) [] (Yc 43 [.agg [enc n.kind,enc n.line,enc n.name,enc n.num,enc n.elem,enc n.dims,enc n.data,enc n.sizes,enc n.ranks,enc ks],enc p,.agg [enc m.kind,enc m.line,enc m.name,enc m.num,enc m.elem,enc m.dims,enc m.data,enc m.sizes,enc m.ranks,enc ls]]):=ZE.mp (dm [dv (TS×Bool)] 9 0x1451) h
def LZ:IC:=TH
noncomputable def b4a:ZC:=YM [(38,.pure (preT (fun x:Tm×List Int×Unit=>tW x.1&&decide (x.2.1.length<=1048576))) (Zj (fun x:Tm×List Int×Unit=>(Vp (Wv (Zr x.1 x.2.1)).1,(Wv (Zr x.1 x.2.1)).2))))]
theorem d2h{G:Zm->Prop}(RR:Nat->St->Prop)(n:Nd)(ks:List Tm)(p:List Int)(m:Nd)(ls:List Tm)(h:(Go.Pl.preT (fun(x:Tm×List Int×Unit)=>tW x.1&&decide (List.length x.2.1<=1048576)) [(.agg [(.int .i64 (Nd.kind n)),(.int .i64 (Nd.line n)),(.str (Str.s (Nd.name n))),(.int .i64 (Nd.num n)),(.str (Str.s (Nd.elem n))),(.sl 1 false (List.map enc (Nd.dims n))),(.sl 1 false (List.map enc (Nd.data n))),(.sl 2 false (List.map enc (Nd.sizes n))),(.sl 1 false (List.map enc (Nd.ranks n))),(.sl 10 false (List.map enc ks))]),(.sl 1 false (List.map enc p))])=true∧(∃ y0:TS×Bool,AV.pv (Zj (fun(x:Tm×List Int×Unit)=>(Vp (Prod.fst (Wv (Zr x.1 x.2.1))),Prod.snd (Wv (Zr x.1 x.2.1)))) [(.agg [(.int .i64 (Nd.kind n)),(.int .i64 (Nd.line n)),(.str (Str.s (Nd.name n))),(.int .i64 (Nd.num n)),(.str (Str.s (Nd.elem n))),(.sl 1 false (List.map enc (Nd.dims n))),(.sl 1 false (List.map enc (Nd.data n))),(.sl 2 false (List.map enc (Nd.sizes n))),(.sl 1 false (List.map enc (Nd.ranks n))),(.sl 10 false (List.map enc ks))]),(.sl 1 false (List.map enc p))])=AV.pv (enc y0)∧(if (!Prod.snd y0)=true then G ([(.obj (.box (Z5 n ks))),(.obj (.box (Z5 m ls))),(.obj (.box [(.pv (.int .i64 0)),(.pv (.int .i64 0)),(.pv (.str [])),(.pv (.int .i64 0)),(.pv (.str [])),(.pv (.sl 0 true [])),(.pv (.sl 0 true [])),(.pv (.sl 0 true [])),(.pv (.sl 0 true [])),(.pv (.sl 0 true []))])),.fresh,.fresh,(.obj (.box [(.pv (.int .i64 (Nd.kind (TS.n y0.1)))),(.pv (.int .i64 (Nd.line (TS.n y0.1)))),(.pv (.str (Str.s (Nd.name (TS.n y0.1))))),(.pv (.int .i64 (Nd.num (TS.n y0.1)))),(.pv (.str (Str.s (Nd.elem (TS.n y0.1))))),(.pv (.sl 1 false (List.map enc (Nd.dims (TS.n y0.1))))),(.pv (.sl 1 false (List.map enc (Nd.data (TS.n y0.1))))),(.pv (.sl 2 false (List.map enc (Nd.sizes (TS.n y0.1))))),(.pv (.sl 1 false (List.map enc (Nd.ranks (TS.n y0.1))))),(.pv (.sl 10 false (List.map enc (TS.k y0.1))))]))])else((Wn RR) 0 ⟨ZU 43 0 [(1,(.pv (.sl 1 false (List.map enc p)))),(3,(.ptr 0 0)),(5,(.ptr 1 0)),(6,(.ptr 2 0)),(10,.undef),(11,.undef),(13,.undef),(23,.undef),(24,.undef),(25,.undef),(26,.undef),(27,.undef),(28,.undef),(29,.undef),(30,.undef),(31,.undef),(32,.undef),(33,.undef),(34,.undef),(35,.undef),(36,.undef),(37,.undef),(38,.undef),(39,.undef),(40,.undef),(41,.undef),(42,.undef)],[(.obj (.box (Z5 n ks))),(.obj (.box (Z5 m ls))),(.obj (.box [(.pv (.int .i64 0)),(.pv (.int .i64 0)),(.pv (.str [])),(.pv (.int .i64 0)),(.pv (.str [])),(.pv (.sl 0 true [])),(.pv (.sl 0 true [])),(.pv (.sl 0 true [])),(.pv (.sl 0 true [])),(.pv (.sl 0 true []))]))]⟩ (fun x S'=>Kj b4a (Wn RR) 0 (fun st=>G st.heap) LZ 0 x S'))))):ZE b4a (Wn RR) 0 (fun st=>G st.heap) (.inl LZ) [] (XB 43 [.pv (.agg [enc n.kind,enc n.line,enc n.name,enc n.num,enc n.elem,enc n.dims,enc n.data,enc n.sizes,enc n.ranks,enc ks]),.pv (enc p),.pv (.agg [enc m.kind,enc m.line,enc m.name,enc m.num,enc m.elem,enc m.dims,enc m.data,enc m.sizes,enc m.ranks,enc ls])] []):=ZE.mh (dm [dv (TS×Bool)] 9 0x1451) h
end Go.Pl
namespace Go.Pl
open Go.RowKit
open Enc (enc dec is)
open EncL (encL decL isL)
set_option maxRecDepth 100000
noncomputable def KA:IC:=Wo Proofs.Tryz.f9
def K4:List IRes:=[(.tmp 6)]
abbrev c7g:Nat:=141
noncomputable def Be:ZC:=YM [(12,.pure (preT (fun _:Unit=>true)) (Zj (fun _:Unit=>true))),(13,.pure (preT (fun x:Tm×Int×Unit=>tW x.1)) (Zj (fun x:Tm×Int×Unit=>Kg x.1 x.2.1))),(38,.pure (preT (fun x:Tm×List Int×Unit=>tW x.1&&decide (x.2.1.length<=1048576))) (Zj (fun x:Tm×List Int×Unit=>Kt (Zr x.1 x.2.1)))),(39,.pure (preT (fun x:Tm×List Int×Tm×Unit=>(tW x.1&&decide (x.2.1.length<=1048576))&&tW x.2.2.1)) (Zj (fun x:Tm×List Int×Tm×Unit=>DX x.1 x.2.1 x.2.2.1))),(31,.pure (preT (fun x:Tm×Tm×Unit=>tW x.1&&tW x.2.1)) (Zj (fun x:Tm×Tm×Unit=>Sa x.1 x.2.1)))]
theorem d4a{G:PV->Prop}(n:Nd)(ks:List Tm)(m:Nd)(ls:List Tm)(p q:List Int)(h : ∃ y0:Bool,AV.pv (Zj (fun(x:Unit)=>true) [])=AV.pv (enc y0)∧(if (!y0)=true then G ((.bool false))else((Go.Pl.preT (fun(x:Tm×Int×Unit)=>tW x.1) [(ndC n ks),(.int .i64 30)])=true∧(∃ y1:Bool,AV.pv (Zj (fun(x:Tm×Int×Unit)=>Kg x.1 x.2.1) [(ndC n ks),(.int .i64 30)])=AV.pv (enc y1)∧(if (!y1)=true then G ((.bool true))else((Go.Pl.preT (fun(x:Tm×Int×Unit)=>tW x.1) [(ndC m ls),(.int .i64 30)])=true∧(∃ y2:Bool,AV.pv (Zj (fun(x:Tm×Int×Unit)=>Kg x.1 x.2.1) [(ndC m ls),(.int .i64 30)])=AV.pv (enc y2)∧(if (!y2)=true then G ((.bool true))else(if (decide ((↑(List.length (List.map enc p)):Int)>12))=true then G ((.bool true))else(if (decide ((↑(List.length (List.map enc q)):Int)>12))=true then G ((.bool true))else((Go.Pl.preT (fun(x:Tm×List Int×Unit)=>tW x.1&&decide (List.length x.2.1<=1048576)) [(ndC n ks),(.sl 1 false (List.map enc p))])=true∧(∃ y3:TS×Bool,AV.pv (Zj (fun(x:Tm×List Int×Unit)=>Kt (Zr x.1 x.2.1)) [(ndC n ks),(.sl 1 false (List.map enc p))])=AV.pv (enc y3)∧((Go.Pl.preT (fun(x:Tm×List Int×Tm×Unit)=>tW x.1&&decide (List.length x.2.1<=1048576)&&tW x.2.2.1) [(ndC n ks),(.sl 1 false (List.map enc p)),(ndC m ls)])=true∧(∃ y4:TS×Int,AV.pv (Zj (fun(x:Tm×List Int×Tm×Unit)=>DX x.1 x.2.1 x.2.2.1) [(ndC n ks),(.sl 1 false (List.map enc p)),(ndC m ls)])=AV.pv (enc y4)∧(if (!Prod.snd y3)=true then G ((.bool (y4.2==9)))else((Go.Pl.preT (fun(x:Tm×List Int×Unit)=>tW x.1&&decide (List.length x.2.1<=1048576)) [(eS y4.1),(.sl 1 false (List.map enc p))])=true∧(∃ y5:TS×Bool,AV.pv (Zj (fun(x:Tm×List Int×Unit)=>Kt (Zr x.1 x.2.1)) [(eS y4.1),(.sl 1 false (List.map enc p))])=AV.pv (enc y5)∧((Go.Pl.preT (fun(x:Tm×List Int×Tm×Unit)=>tW x.1&&decide (List.length x.2.1<=1048576)&&tW x.2.2.1) [(eS y4.1),(.sl 1 false (List.map enc p)),(eS y3.1)])=true∧(∃ y6:TS×Int,AV.pv (Zj (fun(x:Tm×List Int×Tm×Unit)=>DX x.1 x.2.1 x.2.2.1) [(eS y4.1),(.sl 1 false (List.map enc p)),(eS y3.1)])=AV.pv (enc y6)∧(if (y4.2 != 0)=true then G ((.bool false))else(if (y6.2 != 0)=true then G ((.bool false))else(if (!Prod.snd y5)=true then G ((.bool false))else((Go.Pl.preT (fun(x:Tm×Tm×Unit)=>tW x.1&&tW x.2.1) [(eS y5.1),(ndC m ls)])=true∧(∃ y7:Bool,AV.pv (Zj (fun(x:Tm×Tm×Unit)=>Sa x.1 x.2.1) [(eS y5.1),(ndC m ls)])=AV.pv (enc y7)∧(if (!y7)=true then G ((.bool false))else((Go.Pl.preT (fun(x:Tm×Tm×Unit)=>tW x.1&&tW x.2.1) [(eS y6.1),(ndC n ks)])=true∧(∃ y8:Bool,AV.pv (Zj (fun(x:Tm×Tm×Unit)=>Sa x.1 x.2.1) [(eS y6.1),(ndC n ks)])=AV.pv (enc y8)∧(if (!y8)=true then G ((.bool false))else(At Be 0 (Zb K4 G) KA 0 141 [(3,(.ptr 0 0)),(7,(.pv (.sl 1 false (List.map enc p)))),(8,(.pv (.sl 1 false (List.map enc q)))),(11,(.ptr 1 0)),(17,(.pv (.int .i64 0)))] [(.obj (.box (Z5 n ks))),(.obj (.box (bS y4.1)))]))))))))))))))))))))))))))))):Ze Be 0 (Zb K4 G) KA [] (Yc 141 [.agg [enc n.kind,enc n.line,enc n.name,enc n.num,enc n.elem,enc n.dims,enc n.data,enc n.sizes,enc n.ranks,enc ks],.agg [enc m.kind,enc m.line,enc m.name,enc m.num,enc m.elem,enc m.dims,enc m.data,enc m.sizes,enc m.ranks,enc ls],.agg [enc p,enc q]]):=Ze.tp (dm [dv Bool,dv (TS×Bool),dv (TS×Int)] 176 0x1422512202222200642251220222222222200b4220222222222222200e422202222222222222222011427161020024716100014222220222220064222220222222222200b42251202222222222222200f4510001452) h
theorem b3q{G:PV->Prop}(n:Nd)(ks:List Tm)(m:Nd)(ls:List Tm)(p q:List Int)(i:Int)(x:TS)(h:if (decide (i<(↑(List.length (List.map enc p)):Int)))=true then if (decide (i<(↑(List.length (List.map enc q)):Int)))=true then(decide (0<=i)&&decide (Int.toNat i<List.length (List.map enc p))&&Enc.sz Int==1)=true∧(∃ y0:Int,AV.pv (PV.rptr (PV.cells (List.getD (List.map enc p) (Int.toNat i) default)))=AV.pv (PV.rptr (PV.cells ((enc) y0)))∧((decide (0<=i)&&decide (Int.toNat i<List.length (List.map enc q))&&Enc.sz Int==1)=true∧(∃ y1:Int,AV.pv (PV.rptr (PV.cells (List.getD (List.map enc q) (Int.toNat i) default)))=AV.pv (PV.rptr (PV.cells ((enc) y1)))∧(if (PV.asInt (List.getD (PV.cells (enc y0)) 0 default) != PV.asInt (List.getD (PV.cells (enc y1)) 0 default))=true then(Go.Pl.preT (fun(x:Tm×List Int×Unit)=>tW x.1&&decide (List.length x.2.1<=1048576)) [(ndC n ks),(.sl 1 false (List.map enc q))])=true∧(∃ y2:TS×Bool,AV.pv (Zj (fun(x:Tm×List Int×Unit)=>Kt (Zr x.1 x.2.1)) [(ndC n ks),(.sl 1 false (List.map enc q))])=AV.pv (enc y2)∧((Go.Pl.preT (fun(x:Tm×List Int×Unit)=>tW x.1&&decide (List.length x.2.1<=1048576)) [(eS x),(.sl 1 false (List.map enc q))])=true∧(∃ y3:TS×Bool,AV.pv (Zj (fun(x:Tm×List Int×Unit)=>Kt (Zr x.1 x.2.1)) [(eS x),(.sl 1 false (List.map enc q))])=AV.pv (enc y3)∧(if (y2.2==y3.2)=true then(Go.Pl.preT (fun(x:Tm×Tm×Unit)=>tW x.1&&tW x.2.1) [(eS y2.1),(eS y3.1)])=true∧(∃ y4:Bool,AV.pv (Zj (fun(x:Tm×Tm×Unit)=>Sa x.1 x.2.1) [(eS y2.1),(eS y3.1)])=AV.pv (enc y4)∧(G ((.bool y4))))else(G ((.bool false)))))))else(At Be 0 (Zb K4 G) KA 0 141 [(3,(.ptr 0 0)),(7,(.pv (.sl 1 false (List.map enc p)))),(8,(.pv (.sl 1 false (List.map enc q)))),(11,(.ptr 1 0)),(17,(.pv (.int .i64 (IntKind.wrap IntKind.i64 (i+1)))))] [(.obj (.box (Z5 n ks))),(.obj (.box (bS x)))])))))else(G ((.bool true)))else(G ((.bool true)))):At Be 0 (Zb K4 G) KA 0 141 [(3,.ptr 0 0),(7,.pv (enc p)),(8,.pv (enc q)),(11,.ptr 1 0),(17,.pv (.int .i64 i))] [.obj (.box [.pv (enc n.kind),.pv (enc n.line),.pv (enc n.name),.pv (enc n.num),.pv (enc n.elem),.pv (enc n.dims),.pv (enc n.data),.pv (enc n.sizes),.pv (enc n.ranks),.pv (enc ks)]),.obj (.box [.pv (enc x.n.kind),.pv (enc x.n.line),.pv (enc x.n.name),.pv (enc x.n.num),.pv (enc x.n.elem),.pv (enc x.n.dims),.pv (enc x.n.data),.pv (enc x.n.sizes),.pv (enc x.n.ranks),.pv (enc x.k)])]:=At.tp (dm [dr Int,dv (TS×Bool),dv Bool] 54 0x2222200202220271220064261610134225125102042222202a42) h
end Go.Pl
namespace Go.Pl
open Go.RowKit
open Enc (enc dec is)
open EncL (encL decL isL)
set_option maxRecDepth 100000
end Go.Pl
namespace Go.Pl
open Go.RowKit
open Enc (enc dec is)
open EncL (encL decL isL)
theorem Dx{t:Tm}{k:Int}{p:List Int}(h:(Zr t (k::p)).isSome=true): ∃ (j:Nat) (x:Tm),k=(j:Int)∧t.ks[j]? = some x∧(Zr x p).isSome=true∧ ∀ b,YU t (k::p) b = .mk t.nd (t.ks.set j (YU x p b)):=by
 rw[Zr]at h
 split at h
 ·rename_i hk
  split at h
  ·rename_i x hx
   refine⟨k.toNat,x,by omega,hx,h,fun b=> ?_⟩
   rw[YU,hx]
  ·cases h
 ·cases h
end Go.Pl
namespace Go.Pl
open Go.RowKit
open Enc (enc dec is)
open EncL (encL decL isL)
theorem QP{t x:Tm}{j:Nat}{p:List Int}(h:t.ks[j]? = some x):Zr t ((j:Int)::p)=Zr x p:=by
 rw[Zr,if_pos (by omega),Int.toNat_natCast,h]
theorem b5r{t x:Tm}{j:Nat}{p:List Int}{b:Tm}(h:t.ks[j]? = some x):YU t ((j:Int)::p) b = .mk t.nd (t.ks.set j (YU x p b)):=by
 rw[YU,Int.toNat_natCast,h]
theorem M9: ∀ (p:List Int) (t b:Tm),(Zr t p).isSome=true->Zr (YU t p b) p=some b
 | [],t,b,_=>rfl
 | k::p,t,b,h=>by
  obtain⟨j,x,rfl,hx,hp,hput⟩:=Dx h
  have hj:j<t.ks.length:=(List.getElem?_eq_some_iff.1 hx).1
  rw[hput b,QP (x:=YU x p b) (by rw[Tm.ks,List.getElem?_set_self hj])]
  exact M9 p x b hp
theorem a0s: ∀ (p:List Int) (t b old:Tm),Zr t p=some old->YU (YU t p b) p old=t
 | [],t,b,old,h=>by
  rw[Zr]at h
  cases h
  rfl
 | k::p,t,b,old,h=>by
  obtain⟨j,x,rfl,hx,hp,hput⟩:=Dx (by rw[h];rfl)
  have hj:j<t.ks.length:=(List.getElem?_eq_some_iff.1 hx).1
  rw[QP hx]at h
  rw[hput b,b5r (x:=YU x p b) (by rw[Tm.ks,List.getElem?_set_self hj]),a0s p x b old h]
  obtain⟨n,ks⟩:=t
  show Tm.mk n ((ks.set j (YU x p b)).set j x)=_
  rw[List.set_set]
  congr 1
  have hx:ks[j]? = some x:=hx
  exact List.ext_getElem? fun i=>by
   by_cases e:i=j
   ·subst e;rw[List.getElem?_set_self (by have hj:i<ks.length:=hj;simpa using hj),hx]
   ·rw[List.getElem?_set_ne (Ne.symm e)]
theorem BH: ∀ (p q:List Int) (i:Nat) (t b:Tm),(Zr t p).isSome=true->p.take i=q.take i->(h1:i<p.length)->(h2:i<q.length)->p[i]≠q[i]->Zr (YU t p b) q=Zr t q
 | [],q,i,t,b,_,_,h1,_,_=>by simp at h1
 | k::p,[],i,t,b,_,_,_,h2,_=>by simp at h2
 | k::p,l::q,0,t,b,h,_,_,_,hne=>by
  obtain⟨j,x,rfl,hx,hp,hput⟩:=Dx h
  have hne:(j:Int)≠l:=hne
  rw[hput b,Zr,Zr]
  by_cases hl:0<=l
  ·rw[if_pos hl,if_pos hl,Tm.ks,List.getElem?_set_ne (by omega)]
  ·rw[if_neg hl,if_neg hl]
 | k::p,l::q,i+1,t,b,h,e,h1,h2,hne=>by
  obtain⟨j,x,rfl,hx,hp,hput⟩:=Dx h
  have hj:j<t.ks.length:=(List.getElem?_eq_some_iff.1 hx).1
  rw[List.take_succ_cons,List.take_succ_cons]at e
  have e1:=(List.cons.inj e).1
  have e2:=(List.cons.inj e).2
  subst e1
  rw[hput b,QP (x:=YU x p b) (by rw[Tm.ks,List.getElem?_set_self hj]),QP hx]
  exact BH p q i x b hp e2 (by simpa using h1) (by simpa using h2) (by simpa using hne)
theorem s2(t:Tm)(p:List Int):([eS (Vp t),.sl 1 false (List.map enc p)]:List PV)=encL (t,p,()):=by rw[Jm];rfl
theorem s3(t:Tm)(p:List Int)(b:Tm):([eS (Vp t),.sl 1 false (List.map enc p),eS (Vp b)]:List PV)=encL (t,p,b,()):=by rw[Jm,Jm];rfl
section
variable (n m:Nd) (ks ls:List Tm) (p q:List Int)
theorem a8p(hw:tW (.mk n ks)=true)(x:Tm)(hx:x=YU (.mk n ks) p (.mk m ls))(hxw:tW x=true)(hp:(Zr (.mk n ks) p).isSome=true)(hpl:p.length<=12)(hql:q.length<=12): ∀ (d i:Nat),d+i=p.length->p.take i=q.take i ->
  At Be 0 (Zb K4 (Zq true)) KA 0 141 [(3,.ptr 0 0),(7,.pv (enc p)),(8,.pv (enc q)),(11,.ptr 1 0),(17,.pv (.int .i64 i))] [.obj (.box (Z5 n ks)),.obj (.box (bS (Vp x)))]:=by
 intro d
 induction d with
 | zero=>
  intro i hi _
  exact b3q n ks m ls p q i (Vp x) (Xu (WO (by omega)) (ZA rfl))
 | succ d ih=>
  intro i hi ht
  have h1:i<p.length:=by omega
  refine b3q n ks m ls p q i (Vp x) (Xt (Wt h1) ?_)
  by_cases h2:i<q.length
  ·refine Xt (Wt h2) ⟨ZP h1 rfl,Yg h1 ⟨ZP h2 rfl,Yg h2 (Mr (fun hne=> ?_) fun he=> ?_)⟩⟩
   ·have hne:p[i]≠q[i]:=hne
    have hat:(tW (Tm.mk n ks)&&decide (q.length<=1048576))=true:=by rw[hw,decide_eq_true (by omega)];rfl
    have hat2:(tW x&&decide (q.length<=1048576))=true:=by rw[hxw,decide_eq_true (by omega)];rfl
    refine⟨Zd (Tm.mk n ks,q,()) (ndT n ks q).symm hat,Zh (Tm.mk n ks,q,()) (ndT n ks q).symm ⟨Zd (x,q,()) (s2 x q) hat2,Zh (x,q,()) (s2 x q) ?_⟩⟩
    have e:Zr x q=Zr (.mk n ks) q:=by rw[hx];exact BH p q i _ _ hp ht h1 h2 hne
    have e':Kt (Zr (x,q,()).1 (x,q,()).2.1)=Kt (Zr (Tm.mk n ks,q,()).1 (Tm.mk n ks,q,()).2.1):=congrArg Kt e
    rw[e']
    have how:=c6l q hw
    refine Xt (by simp) ⟨Zd ((Wv (Zr (.mk n ks) q)).1,(Wv (Zr (.mk n ks) q)).1,()) (c1v _ _) (by show(tW _&&tW _)=true;rw[how];rfl),Zh ((Wv (Zr (.mk n ks) q)).1,(Wv (Zr (.mk n ks) q)).1,()) (c1v _ _) (ZA (JM _))⟩
   ·have he:p[i]=q[i]:=he
    rw[next (by omega)]
    exact ih (i+1) (by omega) (by rw[List.take_succ_eq_append_getElem h1,List.take_succ_eq_append_getElem h2,ht,he])
  ·exact Xu (WO h2) (ZA rfl)
end
theorem b7g: ∀ x:Tm×Tm×P2×Unit,(decide (VN x.1+VN x.2.1<=1048576))=true->Ze Be 0 (Zb K4 (Zq true)) KA [] (Yc c7g (encL x)):=by
 rintro⟨⟨n,ks⟩,⟨m,ls⟩,⟨p,q⟩,⟨⟩⟩ hw
 have h:VN (.mk n ks)+VN (.mk m ls)<=1048576:=of_decide_eq_true hw
 have h1:tW (.mk n ks)=true:=decide_eq_true (by omega)
 have h2:tW (.mk m ls)=true:=decide_eq_true (by omega)
 have e:(encL ((Tm.mk n ks,Tm.mk m ls,P2.mk p q,()):Tm×Tm×P2×Unit):List PV)=[ndC n ks,ndC m ls,.agg [enc p,enc q]]:=by rw[Wh,Wh];rfl
 rw[e]
 refine d4a n ks m ls p q (Zh () rfl (Ve (fun h=>nomatch h) fun _=> ?_))
 refine⟨Zd (Tm.mk n ks,(30:Int),()) (ndT n ks (30:Int)).symm h1,Zh (Tm.mk n ks,(30:Int),()) (ndT n ks (30:Int)).symm (Ve (fun _=>ZA rfl) fun _=> ?_)⟩
 refine⟨Zd (Tm.mk m ls,(30:Int),()) (ndT m ls (30:Int)).symm h2,Zh (Tm.mk m ls,(30:Int),()) (ndT m ls (30:Int)).symm (Ve (fun _=>ZA rfl) fun _=> ?_)⟩
 refine XA (fun _=>ZA rfl) fun hp=>XA (fun _=>ZA rfl) fun hq=> ?_
 have hp:p.length<=12:=by
  rw[List.length_map]at hp
  have hp : ¬ (p.length:Int)>12:=hp
  omega
 have hq:q.length<=12:=by
  rw[List.length_map]at hq
  have hq : ¬ (q.length:Int)>12:=hq
  omega
 have hat:(tW (Tm.mk n ks)&&decide (p.length<=1048576))=true:=by rw[h1,decide_eq_true (by omega)];rfl
 have hrp:(tW (Tm.mk n ks)&&decide (p.length<=1048576)&&tW (Tm.mk m ls))=true:=by rw[hat,h2];rfl
 refine⟨Zd (Tm.mk n ks,p,()) (ndT n ks p).symm hat,Zh (Tm.mk n ks,p,()) (ndT n ks p).symm ⟨Zd (Tm.mk n ks,p,Tm.mk m ls,()) (nd3 n m ks ls p) hrp,Zh (Tm.mk n ks,p,Tm.mk m ls,()) (nd3 n m ks ls p) ?_⟩⟩
 have hoo : ∃ o,Zr (.mk n ks) p=o:=⟨_,rfl⟩
 obtain⟨o,ho⟩:=hoo
 cases o with
 | none=>
  have e1:Kt (Zr (Tm.mk n ks,p,()).1 (Tm.mk n ks,p,()).2.1)=(Vp tm0,false):=by show Kt (Zr (.mk n ks) p)=_;rw[ho];rfl
  have e2:(DX (Tm.mk n ks,p,Tm.mk m ls,()).1 (Tm.mk n ks,p,Tm.mk m ls,()).2.1 (Tm.mk n ks,p,Tm.mk m ls,()).2.2.1)=(Vp tm0,9):=by
   show(Vp (Uk (.mk n ks) p (.mk m ls)).1,(Uk (.mk n ks) p (.mk m ls)).2)=_
   rw[show Uk (.mk n ks) p (.mk m ls)=(tm0,9)from if_neg (by rw[ho];simp)]
  rw[e1,e2]
  exact Xt rfl (ZA rfl)
 | some old=>
  have hs:(Zr (.mk n ks) p).isSome=true:=by rw[ho];rfl
  have howt:tW old=true:=Ro h1 ho
  have e1:Kt (Zr (Tm.mk n ks,p,()).1 (Tm.mk n ks,p,()).2.1)=(Vp old,true):=by show Kt (Zr (.mk n ks) p)=_;rw[ho];rfl
  have e2:(DX (Tm.mk n ks,p,Tm.mk m ls,()).1 (Tm.mk n ks,p,Tm.mk m ls,()).2.1 (Tm.mk n ks,p,Tm.mk m ls,()).2.2.1)=(Vp (YU (.mk n ks) p (.mk m ls)),0):=by
   show(Vp (Uk (.mk n ks) p (.mk m ls)).1,(Uk (.mk n ks) p (.mk m ls)).2)=_
   rw[show Uk (.mk n ks) p (.mk m ls)=(YU (.mk n ks) p (.mk m ls),0)from if_pos hs]
  rw[e1,e2]
  have hpp:=M9 p (.mk n ks) (.mk m ls) hs
  have hpu:=a0s p (.mk n ks) (.mk m ls) old ho
  have hxw:tW (YU (.mk n ks) p (.mk m ls))=true:=decide_eq_true (by have:=a0r p (.mk n ks) (.mk m ls);omega)
  refine Xu (by simp) ?_
  generalize hx:YU (.mk n ks) p (.mk m ls)=x at hpp hpu hxw ⊢
  have hat2:(tW x&&decide (p.length<=1048576))=true:=by rw[hxw,decide_eq_true (by omega)];rfl
  have hrp2:(tW x&&decide (p.length<=1048576)&&tW old)=true:=by rw[hat2,howt];rfl
  refine⟨Zd (x,p,()) (s2 x p) hat2,Zh (x,p,()) (s2 x p) ⟨Zd (x,p,old,()) (s3 x p old) hrp2,Zh (x,p,old,()) (s3 x p old) ?_⟩⟩
  have e3:Kt (Zr (x,p,()).1 (x,p,()).2.1)=(Vp (.mk m ls),true):=by show Kt (Zr x p)=_;rw[hpp];rfl
  have e4:(DX (x,p,old,()).1 (x,p,old,()).2.1 (x,p,old,()).2.2.1)=(Vp (.mk n ks),0):=by
   show(Vp (Uk x p old).1,(Uk x p old).2)=_
   rw[show Uk x p old=(YU x p old,0)from if_pos (by rw[hpp];rfl),hpu]
  rw[e3,e4]
  refine Xu (by simp) (Xu (by simp) (Xu (by simp) ?_))
  refine⟨Zd (Tm.mk m ls,Tm.mk m ls,()) (c1d _ m ls) (by show(tW (.mk m ls)&&tW (.mk m ls))=true;rw[h2];rfl),Zh (Tm.mk m ls,Tm.mk m ls,()) (c1d _ m ls) (Ve (fun h=> ?_) fun _=> ?_)⟩
  ·have h:Sa (.mk m ls) (.mk m ls)=false:=h
   rw[JM]at h
   cases h
  refine⟨Zd (Tm.mk n ks,Tm.mk n ks,()) (c1d _ n ks) (by show(tW (.mk n ks)&&tW (.mk n ks))=true;rw[h1];rfl),Zh (Tm.mk n ks,Tm.mk n ks,()) (c1d _ n ks) (Ve (fun h=> ?_) fun _=> ?_)⟩
  ·have h:Sa (.mk n ks) (.mk n ks)=false:=h
   rw[JM]at h
   cases h
  exact a8p n m ks ls p q h1 x hx.symm hxw hs hp hq p.length 0 (Nat.add_zero _) rfl
end Go.Pl
