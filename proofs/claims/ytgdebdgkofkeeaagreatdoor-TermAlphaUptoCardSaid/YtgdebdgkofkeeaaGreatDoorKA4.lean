/-
  Texts of mine that belong together (packed by pack.py), for every input: QUb, QUc, QUg, GUh, QUh, GUj, GTv, QTg, VwU, QTv, QUj, VwL, TyRn, GTd, QTd, GWy, QWy, GVa, QVa, QCo, GL7, QL7, GL9, QL9, TyRa, GRa, QGc, TyZ0, TyCm, GUk, QUk, GUn, QUn, GUo, QUo, GUd, QUd, GUi, GUl, QUl, GUm, TyLi, GUs, QUs, QUu, VwI, VwJ, VwY, GUt, QUy, VwH, GUu, VwK, QUw, GUw, QUx.
-/
import Derived.Test.YtgdebdgkofkeeaaGreatDoorChecked
import Derived.Test.YtgdebdgkofkeeaaGreatDoorProg
import Derived.Test.YtgdebdgkofkeeaaGreatDoorKA2
import Derived.Test.YtgdebdgkofkeeaaGreatDoorKA3
import Derived.KernelRfl
import Derived.Lib.ItoaLen
import Derived.Lib.ItoaNum
set_option linter.unusedVariables false
set_option linter.unusedSimpArgs false
namespace Go.Pl
open Go.RowKit
open Enc (enc dec is)
open EncL (encL decL isL)
theorem a7g{α:Type}[BEq α][LawfulBEq α]{x y:α}{P Q:Prop}(h1:x≠y->P)(h2:x=y->Q):if (x != y)=true then P else Q:=by by_cases h:x=y;rw[if_neg (by simpa using h)];exact h2 h;rw[if_pos (by simpa using h)];exact h1 h
theorem d1s{α:Type}[BEq α][LawfulBEq α]{x y:α}{P Q:Prop}(h1:x≠y->P)(h2:x=y->Q):if (!x==y)=true then P else Q:=by by_cases h:x=y;rw[if_neg (by simpa using h)];exact h2 h;rw[if_pos (by simpa using h)];exact h1 h
theorem Di{α β:Type}[Enc α][Enc β]{a:List α}{b:List β}{P Q:Prop}(h1:a.length≠b.length->P)(h2:a.length=b.length->Q):if ((↑(List.length (List.map (enc:α->PV) a)):Int) != (↑(List.length (List.map (enc:β->PV) b)):Int))=true then P else Q:=
 a7g (fun h=>h1 fun e=>h (by rw[List.length_map,List.length_map,e])) fun h=>h2 (by rw[List.length_map,List.length_map]at h;omega)
theorem Ht{α:Type}[DecidableEq α]{x y:α}{a b:List α}(h:x≠y):decide (x::a=y::b)=false:=decide_eq_false fun e=>h (List.cons.inj e).1
theorem GD{α:Type}[DecidableEq α]{x y:α}{a b:List α}(h:x=y):decide (x::a=y::b)=decide (a=b):=decide_eq_decide.2 ⟨fun e=>(List.cons.inj e).2,fun e=>by rw[h,e]⟩
theorem a1d{α:Type}[DecidableEq α]{a b:List α}(h:a.length≠b.length):decide (a=b)=false:=decide_eq_false fun e=>h (by rw[e])
theorem idf{x y:Int}(h:x≠y):x≠y:=h
theorem idt{x y:Int}(h:x=y):x=y:=h
theorem stf{x y:Str}(h:x.s≠y.s):x≠y:=fun e=>h (by rw[e])
theorem stt{x y:Str}(h:x.s=y.s):x=y:=by cases x;cases y;cases h;rfl
theorem b7r(a b:List Int)(hl:a.length<=1048576)(e:a.length=b.length)(R:Bool): ∀ (d i:Nat),d+i=a.length->R=decide (a.drop i=b.drop i) ->
  At Sw 0 (Zb G6 (Zq R)) G9 0 26 [(0,.pv (enc a)),(1,.pv (enc b)),(5,.pv (.int .i64 i))] []:=by
 intro d
 induction d with
 | zero=>
  intro i hi hR
  refine b1e a b i (XC (Vk (by omega)) (Zw ?_))
  rw[hR,List.drop_eq_nil_of_le (by omega),List.drop_eq_nil_of_le (by omega)];rfl
 | succ d ih=>
  intro i hi hR
  have h1:i<a.length:=by omega
  have h2:i<b.length:=by omega
  rw[List.drop_eq_getElem_cons h1,List.drop_eq_getElem_cons h2]at hR
  refine b1e a b i (Xi (WC h1) ⟨ZM h1 rfl,Yb h1 ⟨ZM h2 rfl,Yb h2 (a7g (fun h=>Zw ?_) fun h=> ?_)⟩⟩)
  ·rw[hR,Ht (show a[i]≠b[i]from idf h)]
  ·rw[next (by omega)]
   exact ih (i+1) (by omega) (by rw[hR,GD (show a[i]=b[i]from idt h)])
theorem b8g: ∀ x:List Int×List Int×Unit,decide (x.1.length<=1048576)=true->Zc Sw 0 (Zb G6 (Zq (decide (x.1=x.2.1)))) G9 [] (Yc d0w (encL x)):=by
 rintro⟨a,b,⟨⟩⟩ h
 refine d5r a b (Di (fun k=>Zw (a1d k).symm) fun k=> ?_)
 exact b7r a b (of_decide_eq_true h) k _ a.length 0 (by omega) rfl
theorem a6x(a b:List Str)(hl:a.length<=1048576)(e:a.length=b.length)(R:Bool): ∀ (d i:Nat),d+i=a.length->R=decide (a.drop i=b.drop i) ->
  At KU 0 (Zb Qk (Zq R)) UZ 0 26 [(0,.pv (enc a)),(1,.pv (enc b)),(5,.pv (.int .i64 i))] []:=by
 intro d
 induction d with
 | zero=>
  intro i hi hR
  refine ES a b i (XC (Vk (by omega)) (Zw ?_))
  rw[hR,List.drop_eq_nil_of_le (by omega),List.drop_eq_nil_of_le (by omega)];rfl
 | succ d ih=>
  intro i hi hR
  have h1:i<a.length:=by omega
  have h2:i<b.length:=by omega
  rw[List.drop_eq_getElem_cons h1,List.drop_eq_getElem_cons h2]at hR
  refine ES a b i (Xi (WC h1) ⟨ZM h1 rfl,Yb h1 ⟨ZM h2 rfl,Yb h2 (d1s (fun h=>Zw ?_) fun h=> ?_)⟩⟩)
  ·rw[hR,Ht (show a[i]≠b[i]from stf h)]
  ·rw[next (by omega)]
   exact ih (i+1) (by omega) (by rw[hR,GD (show a[i]=b[i]from stt h)])
theorem a8s: ∀ x:List Str×List Str×Unit,decide (x.1.length<=1048576)=true->Zc KU 0 (Zb Qk (Zq (decide (x.1=x.2.1)))) UZ [] (Yc c2v (encL x)):=by
 rintro⟨a,b,⟨⟩⟩ h
 refine c8r a b (Di (fun k=>Zw (a1d k).symm) fun k=> ?_)
 exact a6x a b (of_decide_eq_true h) k _ a.length 0 (by omega) rfl
theorem b6t(a b:Lin)(hl:a.t.length<=1048576)(e:a.t.length=b.t.length)(R:Bool): ∀ (d i:Nat),d+i=a.t.length->R=decide (a.t.drop i=b.t.drop i) ->
  At SL 0 (Zb GZ (Zq R)) G8 0 38 [(2,.ptr 0 0),(3,.ptr 1 0),(5,.pv (.int .i64 i))] [.obj (.box [.pv (enc a.k),.pv (enc a.t)]),.obj (.box [.pv (enc b.k),.pv (enc b.t)])]:=by
 intro d
 induction d with
 | zero=>
  intro i hi hR
  refine b5r a b i (XC (Vk (by omega)) (Zw ?_))
  rw[hR,List.drop_eq_nil_of_le (by omega),List.drop_eq_nil_of_le (by omega)];rfl
 | succ d ih=>
  intro i hi hR
  have h1:i<a.t.length:=by omega
  have h2:i<b.t.length:=by omega
  rw[List.drop_eq_getElem_cons h1,List.drop_eq_getElem_cons h2]at hR
  have hc:(PV.asStr (List.getD (PV.cells (enc a.t[i])) 0 default)==PV.asStr (List.getD (PV.cells (enc b.t[i])) 0 default)&&(PV.asInt (List.getD (PV.cells (enc a.t[i])) (0+1) default)==PV.asInt (List.getD (PV.cells (enc b.t[i])) (0+1) default)&&true))=decide (a.t[i]=b.t[i]):=by
   rw[co1,co1,co2,co2,Bool.and_true]
   rcases a.t[i]with ⟨⟨v⟩,c⟩
   rcases b.t[i]with ⟨⟨w⟩,c'⟩
   rw[Bool.eq_iff_iff]
   simp
  refine b5r a b i (Xi (WC h1) ⟨ZM h1 rfl,Yb h1 ⟨ZM h2 rfl,Yb h2 ?_⟩⟩)
  rw[hc]
  refine WW (fun h=>Zw ?_) fun h=> ?_
  ·rw[hR,Ht (of_decide_eq_false h)]
  ·rw[next (by omega)]
   exact ih (i+1) (by omega) (by rw[hR,GD (of_decide_eq_true h)])
theorem c1r: ∀ x:Lin×Lin×Unit,decide (x.1.t.length<=1048576)=true->Zc SL 0 (Zb GZ (Zq (decide (x.1=x.2.1)))) G8 [] (Yc d0i (encL x)):=by
 rintro⟨a,b,⟨⟩⟩ h
 refine d5w a b (a7g (fun k=>Zw (decide_eq_false fun e=>k (by rw[show a=b from e])).symm) fun k0=>Di (fun k=>Zw (decide_eq_false fun e=>k (by rw[show a=b from e])).symm) fun k=> ?_)
 refine b6t a b (of_decide_eq_true h) k _ a.t.length 0 (by omega) (decide_eq_decide.2 ⟨fun e=>by rw[show a=b from e],fun e=> ?_⟩)
 cases a;cases b
 simp only[List.drop_zero]at e k0
 rw[k0,e]
theorem Yu{n m:Nd}{ks ls:List Tm}:Kv (.mk n ks) (.mk m ls)=true ↔ (n.kind=m.kind∧n.name=m.name∧n.num=m.num∧n.elem=m.elem∧n.dims=m.dims∧n.data=m.data∧n.sizes=m.sizes∧n.ranks=m.ranks)∧Xp ks ls=true:=by
 rw[Kv]
 unfold LX
 simp only[Bool.and_eq_true,decide_eq_true_eq,and_assoc]
theorem BZ: ∀ {ks ls:List Tm},Xp ks ls=true->ks.length=ls.length
 | [],[],_=>rfl
 | [],_::_,h=>by simp[Xp]at h
 | _::_,[],h=>by simp[Xp]at h
 | k::ks,l::ls,h=>by
  rw[Xp,Bool.and_eq_true]at h
  rw[List.length_cons,List.length_cons,BZ h.2]
theorem WG{b:Bool}(h:b=true->False):false=b:=by cases b;rfl;exact(h rfl).elim
theorem c0s{n m:Nd}{ks ls:List Tm}:exM (.mk n ks) (.mk m ls)=true ↔ n=m∧PG ks ls=true:=by
 rw[exM,Bool.and_eq_true,decide_eq_true_eq]
mutual
theorem d2r: ∀ {a b:Tm},exM a b=true->Kv a b=true
 | .mk n ks,.mk m ls,h=>by
  obtain⟨e,h2⟩:=c0s.1 h
  subst e
  exact Yu.2 ⟨⟨rfl,rfl,rfl,rfl,rfl,rfl,rfl,rfl⟩,a8f h2⟩
theorem a8f: ∀ {ks ls:List Tm},PG ks ls=true->Xp ks ls=true
 | [],[],_=>by rw[Xp]
 | [],_::_,h=>by simp[PG]at h
 | _::_,[],h=>by simp[PG]at h
 | k::ks,l::ls,h=>by
  rw[PG,Bool.and_eq_true]at h
  rw[Xp,d2r h.1,a8f h.2];rfl
end
theorem b0a{a b:List Int}{P:Bool->Prop}(h:a.length<=1048576)(k:P (decide (a=b))):a2m [.sl 1 false (a.map enc),.sl 1 false (b.map enc)] P:=⟨Ze (a,b,()) rfl (decide_eq_true h),Zd (a,b,()) rfl k⟩
theorem b4v{N:Nat}{n:Nd}{ks:List Tm}(h:tW (.mk n ks)=true)(hd:ZU ks<N){k l:Tm}(hk:k∈ks)(hl:tW l=true):(fun x:Tm×Tm×Unit=>(tW x.1&&tW x.2.1)&&decide (ZI x.1<N)) (k,l,())=true:=by
 have h:=Cc h hd hk
 simp only[Bool.and_eq_true]at h ⊢
 exact⟨⟨h.1,hl⟩,h.2⟩
theorem c2x(a b:Tm):[Gz a,Gz b]=encL (a,b,()):=by rw[Rp,Rp];rfl
theorem d1q(n m:Nd)(ks ls:List Tm):[ndC n ks,ndC m ls]=encL (Tm.mk n ks,Tm.mk m ls,()):=by rw[Y0,Y0];rfl
theorem b6m(N:Nat)(n m:Nd)(ks ls:List Tm)(hw:tW (.mk n ks)=true)(hv:tW (.mk m ls)=true)(hd:ZU ks<N)(e:ks.length=ls.length)(R:Bool): ∀ (d i:Nat),d+i=ks.length->R=Xp (ks.drop i) (ls.drop i) ->
  At (KP N) 0 (Zb Us (Zq R)) Uo 1 117 [(2,.ptr 0 0),(3,.ptr 1 0),(6,.pv (.int .i64 i))] [.obj (.box (Ym n ks)),.obj (.box (Ym m ls))]:=by
 intro d
 induction d with
 | zero=>
  intro i hi hR
  rw[List.drop_eq_nil_of_le (by omega),List.drop_eq_nil_of_le (by omega),Xp]at hR
  exact b3i N n ks m ls i (XC (Vk (by omega)) (Zw hR.symm))
 | succ d ih=>
  intro i hi hR
  have h1:i<ks.length:=by omega
  have h2:i<ls.length:=by omega
  have hkl:=(YB hw).1
  rw[List.drop_eq_getElem_cons h1,List.drop_eq_getElem_cons h2,Xp]at hR
  refine b3i N n ks m ls i (Xi (WC h1) ⟨ZM h1 rfl,Yb h1 ⟨XO _,ZM h2 rfl,Yb h2 ⟨XO _,Ze (ks[i],ls[i],()) (c2x _ _) (b4v hw hd (List.getElem_mem h1) ((YB hv).2 _ (List.getElem_mem h2))),Zd (ks[i],ls[i],()) (c2x _ _) (WW (fun h=>Zw ?_) fun h=> ?_)⟩⟩⟩)
  ·have h:Kv ks[i] ls[i]=false:=h
   rw[hR,h];rfl
  ·have h:Kv ks[i] ls[i]=true:=h
   rw[next (by omega)]
   exact ih (i+1) (by omega) (by rw[hR,h];rfl)
theorem a4o(N:Nat)(n m:Nd)(ks ls:List Tm)(hw:tW (.mk n ks)=true)(hv:tW (.mk m ls)=true)(hd:ZU ks<N)(e:ks.length=ls.length)(es:n.sizes.length=m.sizes.length)(R:Bool): ∀ (d i:Nat),d+i=n.sizes.length->R=(decide (n.sizes.drop i=m.sizes.drop i)&&Xp ks ls) ->
  At (KP N) 0 (Zb Us (Zq R)) Uo 0 117 [(2,.ptr 0 0),(3,.ptr 1 0),(5,.pv (.int .i64 i))] [.obj (.box (Ym n ks)),.obj (.box (Ym m ls))]:=by
 intro d
 induction d with
 | zero=>
  intro i hi hR
  rw[List.drop_eq_nil_of_le (by omega),List.drop_eq_nil_of_le (by omega)]at hR
  exact b4k N n ks m ls i (XC (Vk (by omega)) (b6m N n m ks ls hw hv hd e R ks.length 0 (by omega) (by rw[hR];rfl)))
 | succ d ih=>
  intro i hi hR
  have h1:i<n.sizes.length:=by omega
  have h2:i<m.sizes.length:=by omega
  have hn:=En hw
  have hb:=hn.sizes
  rw[List.drop_eq_getElem_cons h1,List.drop_eq_getElem_cons h2]at hR
  refine b4k N n ks m ls i (Xi (WC h1) ⟨ZM h1 rfl,Yb h1 ⟨ZM h2 rfl,Yb h2 ⟨Ze (n.sizes[i],m.sizes[i],()) rfl (decide_eq_true (hn.lens _ (List.getElem_mem h1))),Zd (n.sizes[i],m.sizes[i],()) rfl (WW (fun h=>Zw ?_) fun h=> ?_)⟩⟩⟩)
  ·rw[hR,Ht (of_decide_eq_false h)];rfl
  ·rw[next (by omega)]
   exact ih (i+1) (by omega) (by rw[hR,GD (of_decide_eq_true h)])
theorem c4a(N:Nat): ∀ x:Tm×Tm×Unit,((tW x.1&&tW x.2.1)&&decide (ZI x.1<N+1))=true->Zc (KP N) 0 (Zb Us (Zq (Kv x.1 x.2.1))) Uo [] (Yc c7h (encL x)):=by
 rintro⟨⟨n,ks⟩,⟨m,ls⟩,⟨⟩⟩ h
 simp only[Bool.and_eq_true,decide_eq_true_eq]at h
 obtain⟨⟨hw,hv⟩,hd⟩:=h
 have hd:ZI (.mk n ks)<N+1:=hd
 rw[ZI]at hd
 have hn:=En hw
 rw[<- d1q]
 refine d2x N n ks m ls ?_
 refine a7g (fun k=>Zw (WG fun h=>k (Yu.1 h).1.1)) fun k1=> ?_
 refine d1s (fun k=>Zw (WG fun h=>k (by rw[(Yu.1 h).1.2.1]))) fun k2=> ?_
 refine a7g (fun k=>Zw (WG fun h=>k (Yu.1 h).1.2.2.1)) fun k3=> ?_
 refine Di (fun k=>Zw (WG fun h=>k (by rw[(Yu.1 h).1.2.2.2.2.2.2.1]))) fun k4=> ?_
 refine Di (fun k=>Zw (WG fun h=>k (BZ (Yu.1 h).2))) fun k5=> ?_
 refine d1s (fun k=>Zw (WG fun h=>k (by rw[(Yu.1 h).1.2.2.2.1]))) fun k6=> ?_
 refine b0a hn.dims (WW (fun k=>Zw (WG fun h=>of_decide_eq_false k (Yu.1 h).1.2.2.2.2.1)) fun k7=> ?_)
 refine b0a hn.data (WW (fun k=>Zw (WG fun h=>of_decide_eq_false k (Yu.1 h).1.2.2.2.2.2.1)) fun k8=> ?_)
 refine b0a hn.ranks (WW (fun k=>Zw (WG fun h=>of_decide_eq_false k (Yu.1 h).1.2.2.2.2.2.2.2)) fun k9=> ?_)
 refine a4o N n m ks ls hw hv (by omega) k5 k4 _ n.sizes.length 0 (by omega) ?_
 rw[Bool.eq_iff_iff]
 show Kv (.mk n ks) (.mk m ls)=true ↔ _
 rw[Yu,Bool.and_eq_true,decide_eq_true_eq]
 exact⟨fun h=>⟨h.1.2.2.2.2.2.2.1,h.2⟩,fun h=>⟨⟨k1,stt k2,k3,stt k6,of_decide_eq_true k7,of_decide_eq_true k8,h.1,of_decide_eq_true k9⟩,h.2⟩⟩
theorem ndT(n:Nd)(ks:List Tm){α:Type}[Enc α](x:α):encL (Tm.mk n ks,x,())=[ndC n ks,enc x]:=by rw[Y0];rfl
theorem c8d: ∀ x:Str×Unit,true=true->Zc d4v 0 (Zb c6c (Zq (vT x.1))) c5s [] (Yc d5x (encL x)):=by
 rintro⟨⟨s⟩,⟨⟩⟩ _
 exact d7s s ⟨by simp,by simp[vT,FO]⟩
def d4e(s:Str)(a b:Tm):Tm:=.mk {FO with kind:=5,name:=s} [a,b]
theorem b0e: ∀ x:Str×Tm×Tm×Unit,true=true->Zc b5w 0 (Zb a1y (Zq (d4e x.1 x.2.1 x.2.2.1))) a3b [] (Yc c4b (encL x)):=by
 rintro⟨⟨s⟩,⟨n,ks⟩,⟨m,ls⟩,⟨⟩⟩ _
 rw[show encL ((⟨s⟩:Str),Tm.mk n ks,Tm.mk m ls,())=[.str s,ndC n ks,ndC m ls]from by rw[Y0,Y0];rfl]
 refine d1y s n ks m ls ?_
 rw[Y0,Y0]
 have h:is (List Tm) (.sl 10 false ([Tm.mk n ks,Tm.mk m ls].map enc))=true:=Enc.is_enc [Tm.mk n ks,Tm.mk m ls]
 have h2:(dec (.sl 10 false ([Tm.mk n ks,Tm.mk m ls].map enc)):List Tm)=[Tm.mk n ks,Tm.mk m ls]:=Enc.dec_enc [Tm.mk n ks,Tm.mk m ls]
 refine⟨?_,?_⟩
 ·have:is (List Tm) (.sl 10 false [enc (Tm.mk n ks),enc (Tm.mk m ls)])=true:=h
  simp[this]
 ·have h:is (List Tm) (.sl 10 false [enc (Tm.mk n ks),enc (Tm.mk m ls)])=true:=h
  have h2:(dec (.sl 10 false [enc (Tm.mk n ks),enc (Tm.mk m ls)]):List Tm)=[Tm.mk n ks,Tm.mk m ls]:=h2
  rw[b2i _ _ _ _ _ _ _ _ _ _ h,h2]
  simp[d4e,FO]
end Go.Pl
namespace Go.Pl
open Go.RowKit
open Enc (enc dec is)
open EncL (encL decL isL)
mutual
theorem M4: ∀ {a b:List Str} (h : ∀ x,x∈a ↔ x∈b) (t:Tm),Z7 a t=Z7 b t
 | a,b,h,.mk n ks=>by
  rw[Z7,Z7,TE h]
  simp only[h]
theorem TE: ∀ {a b:List Str} (h : ∀ x,x∈a ↔ x∈b) (l:Bool) (s:Str) (i:Nat) (ks:List Tm),ZL a l s i ks=ZL b l s i ks
 | a,b,h,l,s,i,[]=>by rw[ZL,ZL]
 | a,b,h,l,s,i,k::ks=>by
  rw[ZL,ZL,TE h l s (i+1) ks,M4 (a:=if (l&&decide (i=1))=true then s::a else a) (b:=if (l&&decide (i=1))=true then s::b else b) (fun x=>by split <;> simp[h]) k]
end
mutual
theorem QB: ∀ (b:List Str) (t:Tm),(Z7 b t).length<=Zh t
 | b,.mk n ks=>by
  have h:=Tp b (ZF n ks.length) n.name 0 ks
  rw[Z7,Zh,List.length_append]
  split
  ·simp only[List.length_singleton];omega
  ·simp only[List.length_nil];omega
theorem Tp: ∀ (b:List Str) (l:Bool) (s:Str) (i:Nat) (ks:List Tm),(ZL b l s i ks).length<=Zl ks
 | b,l,s,i,[]=>by rw[ZL,Zl];simp
 | b,l,s,i,k::ks=>by
  have h1:=QB (if (l&&decide (i=1))=true then s::b else b) k
  have h2:=Tp b l s (i+1) ks
  rw[ZL,Zl,List.length_append]
  omega
end
end Go.Pl
namespace Go.Pl
open Go.RowKit
open Enc (enc dec is)
open EncL (encL decL isL)
theorem Tv: ∀ (l o:List Str),(l.foldl Y6 o).length<=o.length+l.length
 | [],o=>by simp
 | a::l,o=>by have:=Tv l (Y6 o a);have:=JY o a;rw[List.foldl_cons,List.length_cons];omega
theorem b0i{N:Nat}{t:Tm}{b g:List Str}(hw:tW t=true)(hd:ZI t<N)(h1:b.length+ZI t<=1048576)(h2:g.length+Zh t<=1048576):Wq N [(.pv (Gz t)),(.map 0),(.map 1)] [(.map (Yf b)),(.map (Yf g))]=true:=by
 rw[Rp]
 simp only[Wq,U0,Enc.dec_enc,hw,VO,decide_eq_true hd,decide_eq_true h1,decide_eq_true h2,Bool.true_and,Bool.and_true,Bool.and_eq_true]
 exact⟨@decide_eq_true _ (_) trivial,@decide_eq_true _ (_) trivial⟩
theorem b2l(N:Nat)(n:Nd)(ks:List Tm)(b:List Str)(hw:tW (.mk n ks)=true)(hd:ZU ks<N)(hb:b.length+ZU ks+1<=1048576)(R:List Str): ∀ (d i:Nat) (g:List Str),d+i=ks.length->g.length+Zl (ks.drop i)<=1048576->R=(ZL b (ZF n ks.length) n.name i (ks.drop i)).foldl Y6 g ->
  At (VM N) 2 (Yi 2 X6 fun r=>r=(.tup [],[.map (Yf b),.map (Yf R)],[])) X4 0 54 [(1,.map 0),(2,.map 1),(3,.ptr 2 0),(23,.pv (enc ks)),(24,.pv (.int .i64 (ks.map (enc:Tm->PV)).length)),(25,.pv (.int .i64 i))] [.obj (.map (Yf b)),.obj (.map (Yf g)),.obj (.box (Ym n ks))]:=by
 intro d
 induction d with
 | zero=>
  intro i g hi hg hR
  rw[List.drop_eq_nil_of_le (by omega),ZL]at hR
  exact a9c N n ks b g i (XC (Vk (by omega)) (by rw[hR];rfl))
 | succ d ih=>
  intro i g hi hg hR
  have h1:i<ks.length:=by omega
  have hkl:=(YB hw).1
  have hwk:=(YB hw).2 _ (List.getElem_mem h1)
  have hdk:=Kq (List.getElem_mem h1)
  rw[List.drop_eq_getElem_cons h1,Zl]at hg
  rw[List.drop_eq_getElem_cons h1,ZL,List.foldl_append]at hR
  have go : ∀ bd:List Str,(Z7 bd ks[i]=Z7 (if (ZF n ks.length&&decide (i=1))=true then n.name::b else b) ks[i])->At (VM N) 2 (Yi 2 X6 fun r=>r=(.tup [],[.map (Yf b),.map (Yf R)],[])) X4 0 54 [(1,.map 0),(2,.map 1),(3,.ptr 2 0),(23,.pv (enc ks)),(24,.pv (.int .i64 (ks.map (enc:Tm->PV)).length)),(25,.pv (.int .i64 (IntKind.i64.wrap ((i:Int)+1))))] [.obj (.map (Yf b)),.obj (.map (Yf ((Z7 bd ks[i]).foldl Y6 g))),.obj (.box (Ym n ks))]:=fun bd e=>by
   rw[next (by omega),e]
   refine ih (i+1) _ (by omega) ?_ hR
   have l1:=Tv (Z7 (if (ZF n ks.length&&decide (i=1))=true then n.name::b else b) ks[i]) g
   have l2:=QB (if (ZF n ks.length&&decide (i=1))=true then n.name::b else b) ks[i]
   omega
  have plain:(ZF n ks.length&&decide (i=1))=false->Wq N [(.pv (Gz ks[i])),(.map 0),(.map 1)] [(.map (Yf b)),(.map (Yf g))]=true∧At (VM N) 2 (Yi 2 X6 fun r=>r=(.tup [],[.map (Yf b),.map (Yf R)],[])) X4 0 54 [(1,.map 0),(2,.map 1),(3,.ptr 2 0),(23,.pv (enc ks)),(24,.pv (.int .i64 (ks.map (enc:Tm->PV)).length)),(25,.pv (.int .i64 (IntKind.i64.wrap ((i:Int)+1))))] [.obj (.map (Yf b)),.obj (.map (Yf (List.foldl Y6 (YV (Yf g)) (Z7 (YV (Yf b)) (dec (agS ks[i])))))),.obj (.box (Ym n ks))]:=fun e=>
   ⟨b0i hwk (by omega) (by omega) (by omega),by rw[VO,VO,a9j,Enc.dec_enc];exact go b (by rw[e];rfl)⟩
  refine a9c N n ks b g i (Xi (WC h1) ⟨ZM h1 rfl,Yb h1 ⟨XO _,XT (fun k5=>XT (fun k2=>XT (fun k1=> ?_) fun k1=> ?_) fun k2=> ?_) fun k5=> ?_⟩⟩)
  ·have e2:ks.length=2:=by rw[List.length_map]at k2;omega
   have e1:i=1:=by omega
   have el:(ZF n ks.length&&decide (i=1))=true:=by unfold ZF;rw[decide_eq_true k5,decide_eq_true e2,decide_eq_true e1];rfl
   have hu:Ww (enc n.name) (.bool true) (Yf b)=Yf (Y6 b n.name):=(Gp b n.name).2
   have:=JY b n.name
   refine⟨(Gp b n.name).1,?_⟩
   rw[hu,VO,VO,a9j,Enc.dec_enc]
   exact⟨b0i hwk (by omega) (by omega) (by omega),go (Y6 b n.name) (M4 (fun x=>by rw[el];simp[BA,or_comm]) _)⟩
  ·exact plain (by rw[decide_eq_false (show ¬ i=1 by omega),Bool.and_false])
  ·exact plain (by unfold ZF;rw[decide_eq_false (show ¬ ks.length=2 by rw[List.length_map]at k2;omega)];simp)
  ·exact plain (by unfold ZF;rw[decide_eq_false k5];simp)
theorem c3l(b:List Str)(s:Str):VH (enc s) (Yf b)=true∧YN (enc s) (PV.bool false) (Yf b) = .bool (decide (s∈b)):=by
 have key:Hy (enc s) (Yf b)=some (if s∈b then some (PV.bool true)else none):=by
  induction b with
  | nil=>rfl
  | cons a b ih=>
   show(match QN (enc s) (PV.str a.s)with|some true=>some (some (PV.bool true))|some false=>Hy (enc s) (Yf b)|none=>none)=_
   have e:QN (enc s:PV) (PV.str a.s)=some (s.s==a.s):=rfl
   rw[e]
   by_cases h:s=a
   ·subst h;simp
   ·have:(s.s==a.s)=false:=by
     rw[beq_eq_false_iff_ne]
     intro e;apply h;cases a;cases s;simp at e;rw[e]
    rw[this]
    show Hy (enc s) (Yf b)=_
    rw[ih]
    simp[h]
 unfold VH YN
 rw[key]
 by_cases h:s∈b
 ·simp[h]
 ·simp[h]
theorem c0u(N:Nat): ∀ args os,Wq (N+1) args os=true->Zc (VM N) os.length (Yi os.length X6 fun r=>r=G5 args os) X4 [] (We d2c args os):=by
 intro args os hp
 unfold Wq at hp
 split at hp
 ·rename_i p es fs
  simp only[Bool.and_eq_true,decide_eq_true_eq]at hp
  obtain⟨h1,hw,h3,h4,h5,h6,h7⟩:=hp
  obtain⟨⟨n,ks⟩,rfl⟩:=Pk h1
  rw[Enc.dec_enc]at hw h3 h6 h7
  generalize YV es=b at h4 h6
  generalize YV fs=g at h5 h7
  subst h4 h5
  rw[ZI]at h3 h6
  rw[Zh]at h7
  have key : ∀ g':List Str,g'.length+Zl ks<=1048576->(Z7 b (.mk n ks)).foldl Y6 g=(ZL b (ZF n ks.length) n.name 0 ks).foldl Y6 g'->At (VM N) 2 (Yi 2 X6 fun r=>r=(.tup [],[.map (Yf b),.map (Yf ((Z7 b (.mk n ks)).foldl Y6 g))],[])) X4 0 54 [(1,.map 0),(2,.map 1),(3,.ptr 2 0),(23,.pv (enc ks)),(24,.pv (.int .i64 (ks.map (enc:Tm->PV)).length)),(25,.pv (.int .i64 0))] [.obj (.map (Yf b)),.obj (.map (Yf g')),.obj (.box (Ym n ks))]:=fun g' l e=>
   b2l N n ks b hw (by omega) (by omega) _ ks.length 0 g' (by omega) (by simpa using l) (by rw[e];rfl)
  have e:G5 [.pv (enc (Tm.mk n ks)),.map 0,.map 1] [.map (Yf b),.map (Yf g)]=(.tup [],[.map (Yf b),.map (Yf ((Z7 b (.mk n ks)).foldl Y6 g))],[]):=by
   simp only[G5,Enc.dec_enc,VO]
  rw[e,Zy]
  refine d4z N n ks b g (XT (fun k=> ?_) fun k=>key g (by omega) (by rw[Z7,if_neg (fun h=>k h.1)];rfl))
  obtain⟨l1,l2⟩:=c3l b n.name
  rw[l1,l2]
  refine⟨rfl,WW (fun k2=> ?_) fun k2=> ?_⟩
  ·have k2:n.name ∉ b:=of_decide_eq_false k2
   have hu:Ww (enc n.name) (.bool true) (Yf g)=Yf (Y6 g n.name):=(Gp g n.name).2
   refine⟨(Gp g n.name).1,?_⟩
   rw[hu]
   refine key (Y6 g n.name) (by have:=JY g n.name;omega) ?_
   rw[Z7,if_pos ⟨k,k2⟩];rfl
  ·have k2:n.name∈b:=of_decide_eq_true k2
   exact key g (by omega) (by rw[Z7,if_neg (fun h=>h.2 k2)];rfl)
 ·cases hp
noncomputable def Vq:List AV->List AObj->Bool
 | [.pv p,.map 0,.map 1],[.map es,.map fs]=>can Tm p&&(tW (dec p)&&(@decide (es=Yf (YV es)) (Classical.propDecidable _)&&(@decide (fs=Yf (YV fs)) (Classical.propDecidable _)&&(decide ((YV es).length+ZI (dec p:Tm)<=1048576)&&decide ((YV fs).length+Zh (dec p:Tm)<=1048576)))))
 | _,_=>false
def a8m:List AV->List AObj->Nat
 | [.pv p,_,_],_=>ZI (dec p:Tm)
 | _,_=>0
theorem d5g{N:Nat}{args:List AV}{os:List AObj}(h:(Vq args os&&decide (a8m args os<N))=true):Wq N args os=true:=by
 rw[Bool.and_eq_true]at h
 obtain⟨h1,h2⟩:=h
 unfold Vq at h1
 split at h1
 ·simp only[Bool.and_eq_true]at h1
  obtain⟨q1,q2,q3,q4,q5,q6⟩:=h1
  simp only[Wq,Bool.and_eq_true]
  exact⟨q1,q2,h2,q3,q4,q5,q6⟩
 ·cases h1
theorem d5j{N:Nat}{args:List AV}{os:List AObj}(h:Wq N args os=true):(Vq args os&&decide (a8m args os<N))=true:=by
 unfold Wq at h
 split at h
 ·simp only[Bool.and_eq_true]at h
  obtain⟨q1,q2,q3,q4,q5,q6,q7⟩:=h
  rw[Bool.and_eq_true]
  refine⟨?_,q3⟩
  simp only[Vq,Bool.and_eq_true]
  exact⟨q1,q2,q4,q5,q6,q7⟩
 ·cases h
theorem c9c{t:Tm}{b g:List Str}(hw:tW t=true)(h1:b.length+ZI t<=1048576)(h2:g.length+Zh t<=1048576):Vq [(.pv (enc t)),(.map 0),(.map 1)] [(.map (Yf b)),(.map (Yf g))]=true:=by
 simp only[Vq,U0,Enc.dec_enc,hw,VO,decide_eq_true h1,decide_eq_true h2,Bool.true_and,Bool.and_true,Bool.and_eq_true]
 exact⟨@decide_eq_true _ (_) trivial,@decide_eq_true _ (_) trivial⟩
end Go.Pl
namespace Go.Pl
open Go.RowKit
open Enc (enc dec is)
open EncL (encL decL isL)
set_option maxRecDepth 100000
noncomputable def b5d:IC:=WB Proofs.Tryz.f20
def b3z:List IRes:=[(.tmp 2)]
abbrev c9l:Nat:=12
noncomputable def c5m:ZC:=YR [(55,.own Vq G5),(57,.own U3 (Q5 79)),(56,.own (Vf 79) Uj)]
theorem d3k{G:PV->Prop}(n:Nd)(ks:List Tm)(h:(Vq [(.pv (.agg [(.int .i64 (Nd.kind n)),(.int .i64 (Nd.line n)),(.str (Str.s (Nd.name n))),(.int .i64 (Nd.num n)),(.str (Str.s (Nd.elem n))),(.sl 1 false (List.map enc (Nd.dims n))),(.sl 1 false (List.map enc (Nd.data n))),(.sl 2 false (List.map enc (Nd.sizes n))),(.sl 1 false (List.map enc (Nd.ranks n))),(.sl 10 false (List.map enc ks))])),(.map 0),(.map 1)] [(.map []),(.map [])])=true∧((Vf 79 [(.fn 79 [] [(.ptr 0 0)])] [(.box [(.map 1)]),(.map (Yf (List.foldl Y6 (YV []) (Z7 (YV []) (dec (PV.agg [enc (Nd.kind n),enc (Nd.line n),enc (Nd.name n),enc (Nd.num n),enc (Nd.elem n),enc (Nd.dims n),enc (Nd.data n),enc (Nd.sizes n),enc (Nd.ranks n),enc ks]))))))])=true∧(G ((.sl 1 false (List.map PV.str (YT (List.map Vv (Yf (List.foldl Y6 (YV []) (Z7 (YV []) (dec (PV.agg [enc (Nd.kind n),enc (Nd.line n),enc (Nd.name n),enc (Nd.num n),enc (Nd.elem n),enc (Nd.dims n),enc (Nd.data n),enc (Nd.sizes n),enc (Nd.ranks n),enc ks]))))))))))))):Zc c5m 0 (Zb b3z G) b5d [] (Yc 12 [.agg [enc n.kind,enc n.line,enc n.name,enc n.num,enc n.elem,enc n.dims,enc n.data,enc n.sizes,enc n.ranks,enc ks]]):=Zc.tp (dm [] 8 0x313231) h
end Go.Pl
namespace Go.Pl
open Go.RowKit
open Enc (enc dec is)
open EncL (encL decL isL)
mutual
theorem b1w: ∀ (b:List Str) (t:Tm) (s:Str),s∈Z7 b t->s.s.length<=YO t
 | b,.mk n ks,s,h=>by
  rw[Z7]at h
  rw[YO]
  rcases List.mem_append.1 h with h|h
  ·split at h
   ·have:s=n.name:=by simpa using h
    subst this
    unfold AP;omega
   ·cases h
  ·have:=a1h b (ZF n ks.length) n.name 0 ks s h;omega
theorem a1h: ∀ (b:List Str) (l:Bool) (x:Str) (i:Nat) (ks:List Tm) (s:Str),s∈ZL b l x i ks->s.s.length<=Y2 ks
 | b,l,x,i,[],s,h=>by rw[ZL]at h;cases h
 | b,l,x,i,k::ks,s,h=>by
  rw[ZL]at h
  rw[Y2]
  rcases List.mem_append.1 h with h|h
  ·have:=b1w _ k s h;omega
  ·have:=a1h b l x (i+1) ks s h;omega
end
theorem b4c{l:List Str}(h1 : ∀ s∈l,s.s.length<=1048576)(h2:l.length<=1048576):Kh (Yf (Wn l))=true:=by
 have h3:(Yf (Wn l)).all c5p=true:=by
  rw[List.all_eq_true]
  intro x hx
  obtain⟨s,hs,rfl⟩:=List.mem_map.1 hx
  rcases (Rc l [] s).1 hs with h|h
  ·cases h
  ·exact decide_eq_true (h1 s h)
 have h4:((Yf (Wn l)).map Vv).Nodup:=by
  have e:(Yf (Wn l)).map Vv=(Wn l).map (·.s):=by unfold Yf;rw[List.map_map];rfl
  rw[e]
  have:=QW l [] (by simp)
  refine List.Pairwise.map _ (fun a b hab=> ?_) this
  intro he;apply hab;cases a;cases b;simp at he;rw[he]
 have h5:(Yf (Wn l)).length<=1048576:=by
  have:=UI l []
  unfold Yf
  rw[List.length_map]
  have e:Wn l=l.foldl Y6 []:=rfl
  rw[e]
  simp at this
  omega
 unfold Kh
 rw[h3,decide_eq_true h4,decide_eq_true h5];rfl
theorem NM(l:List Str):(PV.sl 1 false (List.map PV.str (YT (List.map Vv (Yf (Wn l))))))=enc (WV l):=by
 have e:(Yf (Wn l)).map Vv=(Wn l).map (·.s):=by unfold Yf;rw[List.map_map];rfl
 rw[e]
 unfold WV
 show _=PV.sl 1 false (List.map enc (List.map Str.mk _))
 rw[List.map_map]
 rfl
theorem b8t: ∀ x:Tm×Unit,tW x.1=true->Zc c5m 0 (Zb b3z (Zq (Z0 x.1))) b5d [] (Yc c9l (encL x)):=by
 rintro⟨⟨n,ks⟩,⟨⟩⟩ hw
 rw[show encL ((Tm.mk n ks,()):Tm×Unit)=[PV.agg [enc n.kind,enc n.line,enc n.name,enc n.num,enc n.elem,enc n.dims,enc n.data,enc n.sizes,enc n.ranks,enc ks]]from by
  show [enc (Tm.mk n ks)]=_
  rw[Zy]]
 have hw:tW (.mk n ks)=true:=hw
 refine d3k n ks ?_
 have hs:=KC hw
 have hW:=of_decide_eq_true hw
 have hd:ZI (.mk n ks)<=1048576:=Nat.le_trans (Aj _) hs
 have e:(dec (PV.agg [enc (Nd.kind n),enc (Nd.line n),enc (Nd.name n),enc (Nd.num n),enc (Nd.elem n),enc (Nd.dims n),enc (Nd.data n),enc (Nd.sizes n),enc (Nd.ranks n),enc ks]):Tm) = .mk n ks:=by rw[<- Zy,Enc.dec_enc]
 rw[e]
 refine⟨?_,?_,?_⟩
 ·have:=c9c (t:=.mk n ks) (b:=[]) (g:=[]) hw (by simpa using hd) (by simpa using hs)
  rw[Zy]at this
  exact this
 ·show(79==79&&Kh (Yf (Wn (Z7 [] (.mk n ks)))))=true
  rw[b4c (fun s h=>by have:=b1w _ _ s h;omega) (by have:=QB [] (.mk n ks);omega)]
  simp
 ·show Zq _ (PV.sl 1 false (List.map PV.str (YT (List.map Vv (Yf (Wn (Z7 [] (.mk n ks))))))))
  rw[NM]
  exact JS rfl
end Go.Pl
namespace Go.Pl
open Go.RowKit
open Enc (enc dec is)
open EncL (encL decL isL)
set_option maxRecDepth 100000
noncomputable def Jv:IC:=icx K6 Proofs.Tryz.f21
def Kn:List IRes:=[(.tmp 2)]
abbrev b8f:Nat:=11
noncomputable def U7:ZC:=YR [(58,.own Y9 (Wh 80))]
theorem c9h{G:PV->Prop}(E:XB)(n:Nd)(ks:List Tm)(h:(Y9 [(.pv (.agg [(.int .i64 (Nd.kind n)),(.int .i64 (Nd.line n)),(.str (Str.s (Nd.name n))),(.int .i64 (Nd.num n)),(.str (Str.s (Nd.elem n))),(.sl 1 false (List.map enc (Nd.dims n))),(.sl 1 false (List.map enc (Nd.data n))),(.sl 2 false (List.map enc (Nd.sizes n))),(.sl 1 false (List.map enc (Nd.ranks n))),(.sl 10 false (List.map enc ks))]))] [])=true∧(E 0 ⟨Z4 11 0 [(3,(.ptr 0 0)),(5,(.fn 80 [] [(.ptr 1 0)])),(8,.undef),(9,.undef)],[(.obj (.box [(.pv (.int .i64 0))])),(.obj (.box (Ym n ks)))]⟩ (fun x S'=>Jq U7 E 0 (Zb Kn G) Jv 0 x S'))):ZK U7 E 0 (Zb Kn G) (.inl Jv) [] (Yc 11 [.agg [enc n.kind,enc n.line,enc n.name,enc n.num,enc n.elem,enc n.dims,enc n.data,enc n.sizes,enc n.ranks,enc ks]]):=ZK.mp (.req (.keep (.nil))) h
theorem b8l{G:PV->Prop}(E:XB)(n:Nd)(ks:List Tm)(c:Int)(h:G ((.int .i64 c))):Jq U7 E 0 (Zb Kn G) Jv 0 .normal ⟨Z4 11 0 [(3,.ptr 0 0)],[.obj (.box [.pv (.int .i64 c)])]⟩:=ZK.mp (.nil) h
def Js:IC:=.skip
noncomputable def b1u:ZC:=YR [(58,.own Y9 (Wh 80))]
theorem c4q{G:Zo->Prop}(E:XB)(n:Nd)(ks:List Tm)(c:Int)(v:Int)(h:E 99 ⟨Z4 11 0 [(3,(.ptr 0 0))],[(.obj (.box [(.pv (.int .i64 c))]))]⟩ (fun x S'=>Jq b1u E 1 (fun st=>G st.heap) Js 99 x S')):ZK b1u E 1 (fun st=>G st.heap) (.inl Js) [.seq (.ext 99 [3])] ⟨Z4 11 0 [(3,.ptr 0 0),(6,.pv (.agg [enc n.kind,enc n.line,enc n.name,enc n.num,enc n.elem,enc n.dims,enc n.data,enc n.sizes,enc n.ranks,enc ks])),(7,.pv (.int .i64 v))],[.obj (.box [.pv (.int .i64 c)])]⟩:=ZK.mh (.nil) h
def JU:IC:=(.block 1 (.reg [ZJ 8 (Si [(.int .i64)] (.t 3)) 0,ZJ 9 (DY .add (.t 8) (Qs 1)) 0,PR (.store 1 (.t 3) (.t 9)) 0] none))
noncomputable def b7t:ZC:=YR [(58,.own Y9 (Wh 80))]
theorem b8d{G:Zo->Prop}(E:XB)(n:Nd)(ks:List Tm)(c:Int)(v:Int)(h:E 99 ⟨Z4 11 0 [],[(.obj (.box [(.pv (.int .i64 (IntKind.wrap IntKind.i64 (c+1))))]))]⟩ (fun x S'=>Jq b7t E 1 (fun st=>G st.heap) JU 99 x S')):ZK b7t E 1 (fun st=>G st.heap) (.inl JU) [.seq (.ext 99 [])] ⟨Z4 11 0 [(3,.ptr 0 0)],[.obj (.box [.pv (.int .i64 c)])]⟩:=ZK.mh (.lit (.nil)) h
noncomputable def JZ:IC:=icx K6 Proofs.Tryz.f32
def Ku:List IRes:=[(.tmp 2)]
abbrev c3v:Nat:=29
noncomputable def Ql:ZC:=YR [(58,.own Y9 (Wh 80)),(57,.own U3 (Q5 79)),(56,.own (Vf 79) Uj)]
theorem c7x{G:PV->Prop}(E:XB)(n:Nd)(ks:List Tm)(h:(Y9 [(.pv (.agg [(.int .i64 (Nd.kind n)),(.int .i64 (Nd.line n)),(.str (Str.s (Nd.name n))),(.int .i64 (Nd.num n)),(.str (Str.s (Nd.elem n))),(.sl 1 false (List.map enc (Nd.dims n))),(.sl 1 false (List.map enc (Nd.data n))),(.sl 2 false (List.map enc (Nd.sizes n))),(.sl 1 false (List.map enc (Nd.ranks n))),(.sl 10 false (List.map enc ks))]))] [])=true∧(E 0 ⟨Z4 29 0 [(3,(.ptr 0 0)),(4,.undef),(7,(.fn 80 [] [(.ptr 1 0)])),(8,.undef),(10,.undef),(11,.undef),(12,.undef),(13,.undef),(14,.undef),(15,.undef),(16,.undef),(17,.undef),(18,.undef),(19,.undef),(20,.undef),(21,.undef),(22,.undef),(23,.undef),(24,.undef),(25,.undef)],[(.obj (.box [(.map 2)])),(.obj (.box (Ym n ks))),(.obj (.map []))]⟩ (fun x S'=>Jq Ql E 0 (Zb Ku G) JZ 0 x S'))):ZK Ql E 0 (Zb Ku G) (.inl JZ) [] (Yc 29 [.agg [enc n.kind,enc n.line,enc n.name,enc n.num,enc n.elem,enc n.dims,enc n.data,enc n.sizes,enc n.ranks,enc ks]]):=ZK.mp (.req (.keep (.nil))) h
theorem c4p{G:PV->Prop}(E:XB)(n:Nd)(ks:List Tm)(m:List Str)(h:(Vf 79 [(.fn 79 [] [(.ptr 0 0)])] [(.box [(.map 1)]),(.map (Yf m))])=true∧(G ((.sl 1 false (List.map PV.str (YT (List.map Vv (Yf m)))))))):Jq Ql E 0 (Zb Ku G) JZ 0 .normal ⟨Z4 29 0 [(3,.ptr 0 0)],[.obj (.box [.map 1]),.obj (.map (Yf m))]⟩:=ZK.mp (.lit (.keep (.req (.keep (.nil))))) h
def JA:IC:=(.reg [ZJ 4 (.alloc (.agg [(.int .i64 0),(.int .i64 0),(.str []),(.int .i64 0),(.str []),(.sl 0 true []),(.sl 0 true []),(.sl 0 true []),(.sl 0 true []),(.sl 0 true [])])) 0,PR (.store 10 (.t 4) (.t 8)) 1] none)
noncomputable def a8o:ZC:=YR [(58,.own Y9 (Wh 80)),(57,.own U3 (Q5 79)),(56,.own (Vf 79) Uj)]
theorem c0x{G:Zo->Prop}(E:XB)(n:Nd)(ks:List Tm)(m:List Str)(v:Int)(h:E 99 ⟨Z4 29 0 [(3,(.ptr 0 0)),(4,(.ptr 2 0))],[(.obj (.box [(.map 1)])),(.obj (.map (Yf m))),(.obj (.box (Ym n ks)))]⟩ (fun x S'=>Jq a8o E 2 (fun st=>G st.heap) JA 99 x S')):ZK a8o E 2 (fun st=>G st.heap) (.inl JA) [.seq (.ext 99 [3,4])] ⟨Z4 29 0 [(3,.ptr 0 0),(8,.pv (.agg [enc n.kind,enc n.line,enc n.name,enc n.num,enc n.elem,enc n.dims,enc n.data,enc n.sizes,enc n.ranks,enc ks])),(9,.pv (.int .i64 v))],[.obj (.box [.map 1]),.obj (.map (Yf m))]⟩:=ZK.mh (.nil) h
def Ul:IC:=(.block 1 (Vw [ZJ 10 (.faddr 0 (.t 4)) 0,ZJ 11 (Si [(.int .i64)] (.t 10)) 0,ZJ 12 (DY .eql (.t 11) (Qs 6)) 0,ZJ 13 (WE 12) 0,r'' 14 (.faddr 0 (.t 4)) 0 13,r'' 15 (Si [(.int .i64)] (.t 14)) 0 13,r'' 16 (DY .eql (.t 15) (Qs 8)) 0 13,ZJ 17 (.pick (.t 13) (.c (.bool true)) (.t 16)) 0,ZJ 18 (WE 17) 0,r'' 19 (.faddr 0 (.t 4)) 0 18,r'' 20 (Si [(.int .i64)] (.t 19)) 0 18,r'' 21 (DY .eql (.t 20) (Qs 9)) 0 18,ZJ 22 (.pick (.t 18) (.c (.bool true)) (.t 21)) 0] (.cond (.t 22) (.reg [ZJ 23 (.load false [.any] (.t 3)) 0,ZJ 24 (.faddr 2 (.t 4)) 0,ZJ 25 (.load false [.str] (.t 24)) 0,PR (.mapupd true (.t 23) (.t 25) (.c (.bool true))) 0] none) .skip)))
noncomputable def CE:ZC:=YR [(58,.own Y9 (Wh 80)),(57,.own U3 (Q5 79)),(56,.own (Vf 79) Uj)]
theorem b8k{G:Zo->Prop}(E:XB)(n:Nd)(ks:List Tm)(m:List Str)(v:Int)(h:if (Nd.kind n==6)=true then(Ua (enc (Nd.name n)) (PV.bool true) (Yf m))=true∧(E 99 ⟨Z4 29 0 [],[(.obj (.box [(.map 1)])),(.obj (.map (Ww (enc (Nd.name n)) (PV.bool true) (Yf m)))),(.obj (.box (Ym n ks)))]⟩ (fun x S'=>Jq CE E 3 (fun st=>G st.heap) Ul 99 x S'))else(if (Nd.kind n==8)=true then(Ua (enc (Nd.name n)) (PV.bool true) (Yf m))=true∧(E 99 ⟨Z4 29 0 [],[(.obj (.box [(.map 1)])),(.obj (.map (Ww (enc (Nd.name n)) (PV.bool true) (Yf m)))),(.obj (.box (Ym n ks)))]⟩ (fun x S'=>Jq CE E 3 (fun st=>G st.heap) Ul 99 x S'))else(if (Nd.kind n==9)=true then(Ua (enc (Nd.name n)) (PV.bool true) (Yf m))=true∧(E 99 ⟨Z4 29 0 [],[(.obj (.box [(.map 1)])),(.obj (.map (Ww (enc (Nd.name n)) (PV.bool true) (Yf m)))),(.obj (.box (Ym n ks)))]⟩ (fun x S'=>Jq CE E 3 (fun st=>G st.heap) Ul 99 x S'))else(E 99 ⟨Z4 29 0 [],[(.obj (.box [(.map 1)])),(.obj (.map (Yf m))),(.obj (.box (Ym n ks)))]⟩ (fun x S'=>Jq CE E 3 (fun st=>G st.heap) Ul 99 x S'))))):ZK CE E 3 (fun st=>G st.heap) (.inl Ul) [.seq (.ext 99 [])] ⟨Z4 29 0 [(3,.ptr 0 0),(4,.ptr 2 0)],[.obj (.box [.map 1]),.obj (.map (Yf m)),.obj (.box [.pv (enc n.kind),.pv (enc n.line),.pv (enc n.name),.pv (enc n.num),.pv (enc n.elem),.pv (enc n.dims),.pv (enc n.data),.pv (enc n.sizes),.pv (enc n.ranks),.pv (enc ks)])]⟩:=ZK.mh (dm [] 41 0x10024222201222200642222012222222200a42) h
end Go.Pl
namespace Go.Pl
open Go.RowKit
open Enc (enc dec is)
open EncL (encL decL isL)
set_option maxRecDepth 100000
abbrev d5c(ps:List PV)(k:Bool->Prop):Prop:=V7 (fun(x:Tm×Unit)=>tW (Prod.fst x)) (fun(x:Tm×Unit)=>QI (Prod.fst x)) ps k
noncomputable def RQ:IC:=WB Proofs.Tryz.f58
def Pf:List IRes:=[(.tmp 2)]
abbrev c4d:Nat:=4
def OP:ZC:=YR []
theorem c8t{G:AV×List AObj×List AObj->Prop}(n:Nd)(ks:List Tm)(h:G (((.fn 80 [] [(.ptr 0 0)]),([],[(.box [(.pv (.int .i64 (Nd.kind n))),(.pv (.int .i64 (Nd.line n))),(.pv (.str (Str.s (Nd.name n)))),(.pv (.int .i64 (Nd.num n))),(.pv (.str (Str.s (Nd.elem n)))),(.pv (.sl 1 false (List.map enc (Nd.dims n)))),(.pv (.sl 1 false (List.map enc (Nd.data n)))),(.pv (.sl 2 false (List.map enc (Nd.sizes n)))),(.pv (.sl 1 false (List.map enc (Nd.ranks n)))),(.pv (.sl 10 false (List.map enc ks)))])])))):Zc OP 0 (Yi 0 Pf G) RQ [] (We 4 [.pv (.agg [enc n.kind,enc n.line,enc n.name,enc n.num,enc n.elem,enc n.dims,enc n.data,enc n.sizes,enc n.ranks,enc ks])] []):=Zc.to (.nil) h
noncomputable def H9:IC:=icx K6 Proofs.Tryz.f22
def KS:List IRes:=[(.cell false 1 2)]
abbrev c8v:Nat:=23
noncomputable def KO:ZC:=YR [(58,.own Y9 (Wh 80)),(59,.pure (preT (fun x:Tm×Unit=>tW x.1)) (Zk (fun x:Tm×Unit=>QI x.1)))]
theorem d2y{G:PV->Prop}(E:XB)(n:Nd)(ks:List Tm)(h:(Y9 [(.pv (.agg [(.int .i64 (Nd.kind n)),(.int .i64 (Nd.line n)),(.str (Str.s (Nd.name n))),(.int .i64 (Nd.num n)),(.str (Str.s (Nd.elem n))),(.sl 1 false (List.map enc (Nd.dims n))),(.sl 1 false (List.map enc (Nd.data n))),(.sl 2 false (List.map enc (Nd.sizes n))),(.sl 1 false (List.map enc (Nd.ranks n))),(.sl 10 false (List.map enc ks))]))] [])=true∧(E 0 ⟨Z4 23 0 [(2,(.ptr 0 0)),(3,(.ptr 1 0)),(4,.undef),(5,.undef),(7,(.fn 80 [] [(.ptr 2 0)])),(8,.undef),(9,.undef),(10,.undef),(11,.undef),(12,.undef),(13,.undef),(14,.undef),(15,.undef),(16,.undef),(17,.undef),(18,.undef),(19,.undef),(20,.undef),(21,.undef),(22,.undef)],[(.obj (.box [(.pv (.bool false))])),(.obj (.box [(.pv (.int .i64 0))])),(.obj (.box [(.pv (.int .i64 (Nd.kind n))),(.pv (.int .i64 (Nd.line n))),(.pv (.str (Str.s (Nd.name n)))),(.pv (.int .i64 (Nd.num n))),(.pv (.str (Str.s (Nd.elem n)))),(.pv (.sl 1 false (List.map enc (Nd.dims n)))),(.pv (.sl 1 false (List.map enc (Nd.data n)))),(.pv (.sl 2 false (List.map enc (Nd.sizes n)))),(.pv (.sl 1 false (List.map enc (Nd.ranks n)))),(.pv (.sl 10 false (List.map enc ks)))]))]⟩ (fun x S'=>Jq KO E 0 (Zb KS G) H9 0 x S'))):ZK KO E 0 (Zb KS G) (.inl H9) [] (Yc 23 [.agg [enc n.kind,enc n.line,enc n.name,enc n.num,enc n.elem,enc n.dims,enc n.data,enc n.sizes,enc n.ranks,enc ks]]):=ZK.mp (.req (.keep (.nil))) h
theorem d0l{G:PV->Prop}(E:XB)(n:Nd)(ks:List Tm)(c:Int)(h:G ((.bool true))):Jq KO E 0 (Zb KS G) H9 0 .normal ⟨Z4 23 0 [(2,.ptr 0 0),(3,.ptr 1 0)],[.obj (.box [.pv (.bool false)]),.obj (.box [.pv (.int .i64 c)])]⟩:=ZK.mp (.nil) h
theorem c3q{G:PV->Prop}(E:XB)(n:Nd)(ks:List Tm)(c:Int)(rest:List Slot)(h:G ((.bool false))):Jq KO E 0 (Zb KS G) H9 0 .ret ⟨Z4 23 0 [(2,.ptr 0 0),(3,.ptr 1 0)],(.obj (.box [.pv (.bool false)]):: .obj (.box [.pv (.int .i64 c)])::rest)⟩:=ZK.mp (.nil) h
def Cv:IC:=(Vw [ZJ 4 (.alloc (.agg [(.int .i64 0),(.int .i64 0),(.str []),(.int .i64 0),(.str []),(.sl 0 true []),(.sl 0 true []),(.sl 0 true []),(.sl 0 true []),(.sl 0 true [])])) 0,PR (.store 10 (.t 4) (.t 8)) 1] (.reg [ZJ 5 (WE 9) 0] none))
noncomputable def c5l:ZC:=YR [(58,.own Y9 (Wh 80)),(59,.pure (preT (fun x:Tm×Unit=>tW x.1)) (Zk (fun x:Tm×Unit=>QI x.1)))]
theorem d2a{G:Zo->Prop}(E:XB)(n:Nd)(ks:List Tm)(c v:Int)(h:E 99 ⟨Z4 23 0 [(2,(.ptr 0 0)),(3,(.ptr 1 0)),(4,(.ptr 2 0)),(5,(.pv (.int .i64 v)))],[(.obj (.box [(.pv (.bool false))])),(.obj (.box [(.pv (.int .i64 c))])),(.obj (.box [(.pv (.int .i64 (Nd.kind n))),(.pv (.int .i64 (Nd.line n))),(.pv (.str (Str.s (Nd.name n)))),(.pv (.int .i64 (Nd.num n))),(.pv (.str (Str.s (Nd.elem n)))),(.pv (.sl 1 false (List.map enc (Nd.dims n)))),(.pv (.sl 1 false (List.map enc (Nd.data n)))),(.pv (.sl 2 false (List.map enc (Nd.sizes n)))),(.pv (.sl 1 false (List.map enc (Nd.ranks n)))),(.pv (.sl 10 false (List.map enc ks)))]))]⟩ (fun x S'=>Jq c5l E 2 (fun st=>G st.heap) Cv 99 x S')):ZK c5l E 2 (fun st=>G st.heap) (.inl Cv) [.seq (.ext 99 [2,3,4,5])] ⟨Z4 23 0 [(2,.ptr 0 0),(3,.ptr 1 0),(8,.pv (.agg [enc n.kind,enc n.line,enc n.name,enc n.num,enc n.elem,enc n.dims,enc n.data,enc n.sizes,enc n.ranks,enc ks])),(9,.pv (.int .i64 v))],[.obj (.box [.pv (.bool false)]),.obj (.box [.pv (.int .i64 c)])]⟩:=ZK.mh (.nil) h
def BM:IC:=(.block 1 (Vw [ZJ 10 (Si [(.int .i64)] (.t 3)) 0,ZJ 11 (DY .add (.t 10) (Qs 1)) 0,PR (.store 1 (.t 3) (.t 11)) 0] (Vw [ZJ 12 (Si [(.int .i64)] (.t 3)) 0,ZJ 13 (DY .gtr (.t 12) (Qs 400)) 0,ZJ 14 (WE 13) 0,r'' 15 (WE 5) 0 14,r'' 16 (DY .gtr (.t 15) (Qs 40)) 0 14,ZJ 17 (.pick (.t 14) (.c (.bool true)) (.t 16)) 0,ZJ 18 (WE 17) 0,r'' 19 (.load true [(.int .i64),(.int .i64),.str,(.int .i64),.str,(.sl 1),(.sl 1),(.sl 2),(.sl 1),(.sl 10)] (.t 4)) 0 18,r'' 20 (c'' 59 [(.t 19)]) 0 18,r'' 21 (.un .not (.t 20)) 2 18,ZJ 22 (.pick (.t 18) (.c (.bool true)) (.t 21)) 2] (.cond (.t 22) (Vw [PR (.store 1 (.t 2) (.c (.bool false))) 0] .ret) .skip))))
noncomputable def c4y:ZC:=YR [(58,.own Y9 (Wh 80)),(59,.pure (preT (fun x:Tm×Unit=>tW x.1)) (Zk (fun x:Tm×Unit=>QI x.1)))]
theorem c9s{G:Zo->Prop}(E:XB)(n:Nd)(ks:List Tm)(c v:Int)(h:if (decide (IntKind.wrap IntKind.i64 (c+1)>400))=true then G ([(.obj (.box [(.pv (.bool false))])),(.obj (.box [(.pv (.int .i64 (IntKind.wrap IntKind.i64 (c+1))))])),(.obj (.box [(.pv (.int .i64 (Nd.kind n))),(.pv (.int .i64 (Nd.line n))),(.pv (.str (Str.s (Nd.name n)))),(.pv (.int .i64 (Nd.num n))),(.pv (.str (Str.s (Nd.elem n)))),(.pv (.sl 1 false (List.map enc (Nd.dims n)))),(.pv (.sl 1 false (List.map enc (Nd.data n)))),(.pv (.sl 2 false (List.map enc (Nd.sizes n)))),(.pv (.sl 1 false (List.map enc (Nd.ranks n)))),(.pv (.sl 10 false (List.map enc ks)))])),.fresh,.fresh])else(if (decide (v>40))=true then G ([(.obj (.box [(.pv (.bool false))])),(.obj (.box [(.pv (.int .i64 (IntKind.wrap IntKind.i64 (c+1))))])),(.obj (.box [(.pv (.int .i64 (Nd.kind n))),(.pv (.int .i64 (Nd.line n))),(.pv (.str (Str.s (Nd.name n)))),(.pv (.int .i64 (Nd.num n))),(.pv (.str (Str.s (Nd.elem n)))),(.pv (.sl 1 false (List.map enc (Nd.dims n)))),(.pv (.sl 1 false (List.map enc (Nd.data n)))),(.pv (.sl 2 false (List.map enc (Nd.sizes n)))),(.pv (.sl 1 false (List.map enc (Nd.ranks n)))),(.pv (.sl 10 false (List.map enc ks)))])),.fresh,.fresh])else((d5c [(.agg [(.int .i64 (Nd.kind n)),(.int .i64 (Nd.line n)),(.str (Str.s (Nd.name n))),(.int .i64 (Nd.num n)),(.str (Str.s (Nd.elem n))),(.sl 1 false (List.map enc (Nd.dims n))),(.sl 1 false (List.map enc (Nd.data n))),(.sl 2 false (List.map enc (Nd.sizes n))),(.sl 1 false (List.map enc (Nd.ranks n))),(.sl 10 false (List.map enc ks))])] fun y0=>(if (!y0)=true then G ([(.obj (.box [(.pv (.bool false))])),(.obj (.box [(.pv (.int .i64 (IntKind.wrap IntKind.i64 (c+1))))])),(.obj (.box [(.pv (.int .i64 (Nd.kind n))),(.pv (.int .i64 (Nd.line n))),(.pv (.str (Str.s (Nd.name n)))),(.pv (.int .i64 (Nd.num n))),(.pv (.str (Str.s (Nd.elem n)))),(.pv (.sl 1 false (List.map enc (Nd.dims n)))),(.pv (.sl 1 false (List.map enc (Nd.data n)))),(.pv (.sl 2 false (List.map enc (Nd.sizes n)))),(.pv (.sl 1 false (List.map enc (Nd.ranks n)))),(.pv (.sl 10 false (List.map enc ks)))])),.fresh,.fresh])else(E 99 ⟨Z4 23 0 [],[(.obj (.box [(.pv (.bool false))])),(.obj (.box [(.pv (.int .i64 (IntKind.wrap IntKind.i64 (c+1))))])),(.obj (.box [(.pv (.int .i64 (Nd.kind n))),(.pv (.int .i64 (Nd.line n))),(.pv (.str (Str.s (Nd.name n)))),(.pv (.int .i64 (Nd.num n))),(.pv (.str (Str.s (Nd.elem n)))),(.pv (.sl 1 false (List.map enc (Nd.dims n)))),(.pv (.sl 1 false (List.map enc (Nd.data n)))),(.pv (.sl 2 false (List.map enc (Nd.sizes n)))),(.pv (.sl 1 false (List.map enc (Nd.ranks n)))),(.pv (.sl 10 false (List.map enc ks)))]))]⟩ (fun x S'=>Jq c4y E 3 (fun st=>G st.heap) BM 99 x S'))))))):ZK c4y E 3 (fun st=>G st.heap) (.inl BM) [.seq (.ext 99 [])] ⟨Z4 23 0 [(2,.ptr 0 0),(3,.ptr 1 0),(4,.ptr 2 0),(5,.pv (.int .i64 v))],[.obj (.box [.pv (.bool false)]),.obj (.box [.pv (.int .i64 c)]),.obj (.box [.pv (enc n.kind),.pv (enc n.line),.pv (enc n.name),.pv (enc n.num),.pv (enc n.elem),.pv (enc n.dims),.pv (enc n.data),.pv (enc n.sizes),.pv (enc n.ranks),.pv (enc ks)])]⟩:=ZK.mh (dm [dv Bool] 38 0x142251202222005422202222222008422) h
end Go.Pl
namespace Go.Pl
open Go.RowKit
open Enc (enc dec is)
open EncL (encL decL isL)
theorem c2i{s:Str}:(s=⟨[]⟩) ↔ s.s=[]:=by cases s;simp
theorem b8w(n:Nd):YJ n 0 0=Al n:=by
 unfold YJ Al
 cases n.sizes <;> cases n.ranks <;> simp <;> omega
theorem c4m(k:Nat):((k:Int)=1) ↔ k=1:=by omega
theorem c2d(k:Nat):((k:Int)=2) ↔ k=2:=by omega
theorem c1l(k:Nat):((1:Int)<=(k:Int)) ↔ 1<=k:=by omega
theorem b0j(k:Nat):((k:Int)<=16) ↔ k<=16:=by omega
theorem b1p(n:Nd):YJ n 1 0=(decide (n.sizes.length<=1)&&n.sizes.all ZN&&n.ranks.isEmpty):=by
 unfold YJ
 rw[show decide ((n.sizes.length:Int)<=1)=decide (n.sizes.length<=1)from decide_eq_decide.2 (by omega),show decide ((n.ranks.length:Int)<=0)=n.ranks.isEmpty by cases n.ranks <;> simp <;> omega,Bool.and_assoc,Bool.and_assoc,Bool.and_comm n.ranks.isEmpty]
set_option maxHeartbeats 2000000 in
theorem a4c: ∀ x:Tm×Unit,tW x.1=true->Zc Ro 0 (Zb Ar (Zq (QI x.1))) Fy [] (Yc b1r (encL x)):=by
 rintro⟨⟨n,ks⟩,⟨⟩⟩ ht
 rw[<- WR]
 show Zc Ro 0 (Zb Ar (Zq (XJ n ks.length))) _ _ _
 have hnm:decide (n.name.s.length<=1048576)=true:=decide_eq_true (En ht).name
 have har:a7h (R6 n)=true:=c8b ht
 have leaf : ∀ b:Bool,XJ n ks.length=b->Zq (XJ n ks.length) (.bool b):=fun b h=>Zw h.symm
 refine c2p n ks ?_
 refine X0 (fun h1=>leaf _ ?_) fun h1=>X0 (fun h2=>leaf _ ?_) fun h2=> ?_
 ·unfold XJ;rw[decide_eq_false (by omega)];rfl
 ·unfold XJ;rw[decide_eq_false (show ¬ n.line<=10000 by omega)];simp
 have hk:XJ n ks.length=BN n ks.length:=by
  unfold XJ;rw[decide_eq_true (by omega),decide_eq_true (show n.line<=10000 by omega)];simp
 rw[hk]at leaf ⊢
 repeat' (first
  | refine XT (fun h=> ?_) (fun h=> ?_)
  | refine X0 (fun h=> ?_) (fun h=> ?_)
  | refine VK (fun h=> ?_) (fun h=> ?_)
  | refine⟨Ze (n.name,()) rfl hnm,Zd (n.name,()) rfl ?_⟩
  | refine⟨Ze (.mk n ks,0,0,()) (VI n ks 0 0) ht,Zd (.mk n ks,0,0,()) (VI n ks 0 0) ?_⟩
  | refine⟨Ze (.mk n ks,1,0,()) (VI n ks 1 0) ht,Zd (.mk n ks,1,0,()) (VI n ks 1 0) ?_⟩
  | refine⟨Ze (.mk n ks,()) (WR n ks) ht,Zd (.mk n ks,()) (WR n ks) ?_⟩
  | refine⟨Ze (R6 n,()) rfl har,Zd (R6 n,()) rfl ?_⟩
  | refine leaf _ ?_)
 all_goals clear ht hnm har leaf hk
 all_goals (unfold BN CB;simp_all[c2i,Tm.nd,Tm.ks,b8w,R6,c4m,c2d,c1l,b0j,b1p])
 intro hk
 omega
end Go.Pl
namespace Go.Proofs.YtgdebdgkofkeeaaGreatDoor
open Go.RowKit Go.Pl
open Enc (enc dec is)
open EncL (encL decL isL)
set_option maxRecDepth 100000
def ndC(n:Nd)(ks:List Tm):List PV:=[enc n.kind,enc n.line,enc n.name,enc n.num,enc n.elem,enc n.dims,enc n.data,enc n.sizes,enc n.ranks,enc ks]
abbrev wkT:ZC:=YR []
def eW(L:List (Nat×AV)):List AV:=Z4 28 0 L
def wk0(n:Nd)(ks:List Tm)(lev:Int)(l:Nat):List (Nat×AV):=[(0,.pv (.agg (ndC n ks))),(1,.pv (.int .i64 lev)),(2,.yld l)]
def wk1(n:Nd)(ks:List Tm)(lev:Int)(l:Nat):List (Nat×AV):=wk0 n ks lev l++[(3,.ptr 0 0),(6,.pv (.bool false))]
def wk2(n:Nd)(ks:List Tm)(lev:Int)(l:Nat):List (Nat×AV):=wk1 n ks lev l++[(9,.yld l),(10,.pv (.agg (ndC n ks))),(11,.pv (.int .i64 lev))]
def wk3(n:Nd)(ks:List Tm)(lev:Int)(l:Nat)(b:Bool):List (Nat×AV):=wk2 n ks lev l++[(12,.pv (.bool b))]
def wk4(n:Nd)(ks:List Tm)(lev:Int)(l:Nat)(b:Bool):List (Nat×AV):=wk3 n ks lev l b++[(13,.pv (.bool (!b)))]
def wk5(n:Nd)(ks:List Tm)(lev:Int)(l:Nat):List (Nat×AV):=wk4 n ks lev l true++[(14,.ptr 0 9),(15,.pv (enc ks)),(16,.pv (.int .i64 (ks.map enc).length)),(17,.pv (.int .i64 0))]
def wl0(ks:List Tm)(lev:Int)(l:Nat)(i:Int):List (Nat×AV):=[(17,.pv (.int .i64 i)),(16,.pv (.int .i64 (ks.map enc).length)),(15,.pv (enc ks)),(1,.pv (.int .i64 lev)),(2,.yld l)]
def wl1(ks:List Tm)(lev:Int)(l:Nat)(i:Int):List (Nat×AV):=wl0 ks lev l i++[(18,.pv (.bool (decide (i<((ks.map enc).length:Int)))))]
def wl5(ks:List Tm)(lev:Int)(l:Nat)(i:Int)(n:Nd)(kk:List Tm):List (Nat×AV):=wl1 ks lev l i++[(19,.pv (.rptr (ndC n kk))),(20,.pv (.agg (ndC n kk))),(8,.ptr 0 0)]
def wl6(ks:List Tm)(lev:Int)(l:Nat)(i:Int)(n:Nd)(kk:List Tm):List (Nat×AV):=wl5 ks lev l i n kk++[(21,.pv (.agg (ndC n kk))),(22,.pv (.int .i64 lev)),(23,.pv (.int .i64 (IntKind.i64.wrap (lev+1)))),(24,.yld l)]
def wl7(ks:List Tm)(lev:Int)(l:Nat)(i:Int)(b:Bool):List (Nat×AV):=wl0 ks lev l i++[(25,.pv (.bool b))]
def wl8(ks:List Tm)(lev:Int)(l:Nat)(i:Int)(b:Bool):List (Nat×AV):=wl7 ks lev l i b++[(26,.pv (.bool (!b)))]
def wl9(ks:List Tm)(lev:Int)(l:Nat)(i:Int):List (Nat×AV):=[(27,.pv (.int .i64 (IntKind.i64.wrap (i+1)))),(17,.pv (.int .i64 (IntKind.i64.wrap (i+1)))),(16,.pv (.int .i64 (ks.map enc).length)),(15,.pv (enc ks)),(1,.pv (.int .i64 lev)),(2,.yld l)]
def bx(n:Nd)(ks:List Tm):Zo:=[.obj (.box ((ndC n ks).map .pv))]
theorem Oj{T:ZC}{base d L sz:Nat}{env:List AV}{σ:Zo}{x i:IOp}{t:Bool}{xs:List PV}{n:Nat}{k:IntKind}{p:PV}{ps:List PI}(hx:ev env x = .pv (.sl sz t xs))(hi:ev env i = .pv (.int k (n:Int)))(hp:xs[n]? = some p):
  UM T base (⟨some d,.iaddr sz x i,L,none⟩::ps) ⟨env,σ⟩=UM T base ps ⟨env.set d (.pv (.rptr p.cells)),σ⟩:=by
 have hlt:n<xs.length:=(List.getElem?_eq_some_iff.1 hp).1
 have hg:xs[n]=p:=(List.getElem?_eq_some_iff.1 hp).2
 have h:(Y1 T (base+L) env (.iaddr sz x i)).run σ=some (.pv (.rptr p.cells),σ):=by
  simp only[Y1,YF,hx,hi]
  simp[HM.run,hlt,hg]
 show(JQ T base ⟨some d,.iaddr sz x i,L,none⟩ ⟨env,σ⟩).bind (UM T base ps)=_
 simp only[JQ,YM,h,Option.map_some,Option.bind_some,Ya]
set_option maxHeartbeats 1000000 in
theorem c7j: ∃ (o0 o1 o2 o3 o4 o5 o6 o7 o8 o9:Array Oper) (a1 b1 a6 b6:List Oper) (y c:Oper) (t1 t2:Array TypeId),
  Tryz.f81.body=some ((Code.region 0 o0 false).seq (((Code.region 1 o1 false).seq (Code.cond (.tmp 13) ((Code.region 2 o2 false).seq .ret) .skip)).seq (((Code.region 3 o3 false).seq (Code.block 0
   (Code.loop ((Code.region 4 o4 false).seq ((Code.cond (.tmp 18) .skip (.exit 0)).seq ((Code.block 1 ((Code.region 5 o5 false).seq ((Code.region 6 o6 false).seq (Code.cond (.tmp 26) ((Code.region 7 o7 false).seq .ret) .skip)))).seq (Code.region 8 o8 false))))))).seq ((Code.region 9 o9 false).seq .ret)))) ∧
  o1.toList=a1++y::b1∧y.op = .call {callee:=.value (.tmp 9),args:=#[.tmp 10,.tmp 11],argTypes:=t1}∧y.guard=none∧y.dst=some 12 ∧
  o6.toList=a6++c::b6∧c.op = .call {callee:=.value (.func 81),args:=#[.tmp 21,.tmp 23,.tmp 24],argTypes:=t2}∧c.guard=none∧c.dst=some 25 ∧
  (∀ n ks lev l,U8 Tryz.prog wkT o0 o0.toList ⟨eW (wk0 n ks lev l),[]⟩=some ⟨eW (wk1 n ks lev l),bx n ks⟩) ∧
  (∀ n ks lev l,U8 Tryz.prog wkT o1 a1 ⟨eW (wk1 n ks lev l),bx n ks⟩=some ⟨eW (wk2 n ks lev l),bx n ks⟩) ∧
  (∀ n ks lev l b,U8 Tryz.prog wkT o1 b1 ⟨eW (wk3 n ks lev l b),bx n ks⟩=some ⟨eW (wk4 n ks lev l b),bx n ks⟩) ∧
  (∀ L,U8 Tryz.prog wkT o2 o2.toList ⟨eW L,[]⟩=some ⟨(eW L).set 6 (.pv (.bool false)),[]⟩) ∧
  (∀ n ks lev l,U8 Tryz.prog wkT o3 o3.toList ⟨eW (wk4 n ks lev l true),bx n ks⟩=some ⟨eW (wk5 n ks lev l),bx n ks⟩) ∧
  (∀ ks lev l i,U8 Tryz.prog wkT o4 o4.toList ⟨eW (wl0 ks lev l i),[]⟩=some ⟨eW (wl1 ks lev l i),[]⟩) ∧
  (∀ ks lev l (i:Nat) n kk,ks[i]? = some (.mk n kk)->U8 Tryz.prog wkT o5 o5.toList ⟨eW (wl1 ks lev l i),[]⟩=some ⟨eW (wl5 ks lev l i n kk),bx n kk⟩) ∧
  (∀ ks lev l i n kk,U8 Tryz.prog wkT o6 a6 ⟨eW (wl5 ks lev l i n kk),bx n kk⟩=some ⟨eW (wl6 ks lev l i n kk),bx n kk⟩) ∧
  (∀ ks lev l i b,U8 Tryz.prog wkT o6 b6 ⟨eW (wl7 ks lev l i b),[]⟩=some ⟨eW (wl8 ks lev l i b),[]⟩) ∧
  (∀ L,U8 Tryz.prog wkT o7 o7.toList ⟨eW L,[]⟩=some ⟨(eW L).set 6 (.pv (.bool false)),[]⟩) ∧
  (∀ ks lev l i,U8 Tryz.prog wkT o8 o8.toList ⟨eW (wl0 ks lev l i),[]⟩=some ⟨eW (wl9 ks lev l i),[]⟩) ∧
  (∀ L,U8 Tryz.prog wkT o9 o9.toList ⟨eW L,[]⟩=some ⟨(eW L).set 6 (.pv (.bool true)),[]⟩):=by
 refine⟨_,_,_,_,_,_,_,_,_,_,[_,_,_],[_],[_,_,_,_],[_],_,_,_,_,rfl,rfl,rfl,rfl,rfl,rfl,rfl,rfl,rfl,?_,?_,?_,?_,?_,?_,?_,?_,?_,?_,?_,?_⟩
 ·intro n ks lev l;kernel_rfl
 ·intro n ks lev l;kernel_rfl
 ·intro n ks lev l b;kernel_rfl
 ·intro L;kernel_rfl
 ·intro n ks lev l;kernel_rfl
 ·intro ks lev l i;kernel_rfl
 ·intro ks lev l i n kk h
  unfold U8
  refine(Option.bind_eq_some_iff).2 ⟨_,(show YC _ _ _ _=some [⟨some 19,.iaddr 10 (.t 15) (.t 17),0,none⟩,⟨some 20,.load true [.int .i64,.int .i64,.str,.int .i64,.str,.sl 1,.sl 1,.sl 2,.sl 1,.sl 10] (.t 19),0,none⟩,⟨some 8,.alloc (.agg [.int .i64 0,.int .i64 0,.str [],.int .i64 0,.str [],.sl 0 true [],.sl 0 true [],.sl 0 true [],.sl 0 true [],.sl 0 true []]),0,none⟩,⟨none,.store 10 (.t 8) (.t 20),1,none⟩] by kernel_rfl),?_⟩
  have hk:(ks.map (enc:Tm->PV))[i]? = some (.agg (ndC n kk)):=by
   rw[List.getElem?_map,h,Option.map_some,Zy];rfl
  refine(Oj (t:=false) (xs:=ks.map enc) (k:=.i64) (n:=i) rfl rfl hk).trans ?_
  kernel_rfl
 ·intro ks lev l i n kk;kernel_rfl
 ·intro ks lev l i b;kernel_rfl
 ·intro L;kernel_rfl
 ·intro ks lev l i;kernel_rfl
 ·intro L;kernel_rfl
def encNd(x:Tm×Int):List PV:=[enc x.1,.int .i64 x.2]
def Oh(J:Nat->Zp->(Nat->Prop)->World->Prop)(Jx:Zp->(Nat->Prop)->World->Prop)(k:Nat)(Φ:Zp)(X:Nat->Prop)(W:World)(e:Ending)(W':World):Prop:=
 ∃ Φ',Φ.le Φ'∧(∀ b,X b->W'.heap[b]? = W.heap[b]?)∧((e = .returned (.bool true)∧J k Φ' X W')∨(e = .returned (.bool false)∧Jx Φ' X W'))
theorem Qc(a b:List Tm):Zl (a++b)=Zl a+Zl b:=by rw[KR,KR,KR,List.map_append,List.sum_append]
theorem MC(l:Nat)(a b:List Tm):ZG l (a++b)=ZG l a++ZG l b:=by rw[Qp,Qp,Qp,List.flatMap_append]
theorem Ef{ks:List Tm}{k:Tm}(h:k∈ks):Zh k<=Zl ks:=by
 induction ks with
 | nil=>cases h
 | cons a ks ih=>
  rw[Zl]
  rcases List.mem_cons.1 h with rfl|h
  ·omega
  ·have:=ih h;omega
theorem a5h(t:Tm):1<=Zh t:=by cases t;rw[Zh];omega
theorem EG(ks:List Tm):ks.length<=Zl ks:=by
 induction ks with
 | nil=>simp
 | cons a ks ih=>have:=a5h a;rw[Zl,List.length_cons];omega
theorem JI(n:Nd)(ks:List Tm):OV (bx n ks):=by
 intro l o h ty sz xs e
 subst e
 match l,h with
 | 0,h=>cases h
 | l+1,h=>simp[bx]at h
theorem UH:OV []:=by
 intro l o h
 simp at h
theorem UY{Φ:Zp}{W:World}{a:Act}{env:List AV}(hg:GlobOK Φ)(hp:Yg Φ W)(he:YE (fun _ _=>none) Φ a.tmps env)(hd:a.defers=[]):XA (entry (fun _ _=>none) Φ [] W) ⟨env,[]⟩ a W:=⟨_,Φ,WP hg hp,he,hd⟩
theorem WQ{μ':Mu}{Φ Φ':Zp}{σ':Zo}{W W':World}{X:Nat->Prop}(j1:Go.Pl.Good (entry (fun _ _=>none) Φ [] W) μ' Φ' σ' W')(hs:OV σ')(hx : ∀ b,X b->b<W.heap.size∧Φ b=none):
  Go.Pl.Steps X X Φ Φ' W W'∧(∀ b,X b->W'.heap[b]? = W.heap[b]?):=by
 obtain⟨h1,h2,h3⟩:=Tt j1 hs hx
 exact⟨h1.drop fun b h=>.inl h,h2⟩
theorem U9{μ:Mu}{Φ:Zp}{a:Act}{env:List AV}{x:Operand}{y:IOp}{b:Bool}(h:YE μ Φ a.tmps env)(hx:ZW x=some y)(he:ev env y = .pv (.bool b)):a.eval x = .bool b:=by
 have:=ZE h hx
 rw[he]at this
 generalize a.eval x=v at this ⊢
 cases ZV this
 rfl
theorem c9v{μ:Mu}{Φ:Zp}{a:Act}{env:List AV}{x:Operand}{y:IOp}{k:IntKind}{n:Int}(h:YE μ Φ a.tmps env)(hx:ZW x=some y)(he:ev env y = .pv (.int k n)):a.eval x = .int k n:=by
 have:=ZE h hx
 rw[he]at this
 generalize a.eval x=v at this ⊢
 cases ZV this
 rfl
theorem Ex{μ:Mu}{Φ:Zp}{a:Act}{env:List AV}{x:Operand}{y:IOp}{l:Nat}(h:YE μ Φ a.tmps env)(hx:ZW x=some y)(he:ev env y = .yld l):a.eval x = .func (.yield l) #[] #[]:=by
 have:=ZE h hx
 rw[he]at this
 generalize a.eval x=v at this ⊢
 cases this
 rfl
theorem a0r{μ:Mu}{Φ:Zp}{a:Act}{env:List AV}{x:Operand}{y:IOp}{p:PV}(h:YE μ Φ a.tmps env)(hx:ZW x=some y)(he:ev env y = .pv p):RP Φ (a.eval x) p:=by
 have:=ZE h hx
 rw[he]at this
 exact ZV this
theorem d0p{id:Nat}{ops:Array Oper}{b:Bool}{Q:Yz}{a:Act}{w:World}{Φ:Zp}{X:Nat->Prop}{J:Zp->(Nat->Prop)->World->Prop}(hJ:JOK J)(hj:J Φ X w)(hd:a.defers=[])(hsz:a.tmps.size=28)
  (h : ∀ L,U8 Tryz.prog wkT ops ops.toList ⟨eW L,[]⟩=some ⟨(eW L).set 6 (.pv (.bool b)),[]⟩)
  (hQ : ∀ (a':Act) w' Φ',a'.defers=[]->a'.tmps.getD 6 undef = .bool b->Φ.le Φ'->(∀ b,X b->w'.heap[b]? = w.heap[b]?)->J Φ' X w'->Q .ret a' w'):((Code.region id ops false).seq .ret).wpIn (Yw none) 4 Tryz.prog Q a w:=by
 refine wpIn_seq (GQ Zi (h []) (UY (hJ.glob hj) (hJ.phi hj) (PW (L:=[]) (n:=28) hsz (fun p hp=>by cases hp)) hd) ?_)
 rintro a' w' ⟨μ',Φ',hg,he,hd'⟩
 refine wpIn_ret ?_
 obtain⟨s1,s2⟩:=WQ hg UH (fun b hb=>hJ.out hj hb)
 exact hQ a' w' Φ' hd' (U9 (x:=.tmp 6) (y:=.t 6) he rfl (by cases b <;> kernel_rfl)) hg.Φle s2 (hJ.step hj s1)
theorem d4t{Φ:Zp}{v:Value}{n:Nd}{ks:List Tm}{lev:Nat}{l:Nat}(hv:RP Φ v (.agg (ndC n ks))):YE (fun _ _=>none) Φ (#[v,.int .i64 lev,.func (.yield l) #[] #[]]++Array.replicate 25 undef) (eW (wk0 n ks lev l)):=by
 refine PW (by simp) ?_
 intro q hq u hu
 simp only[wk0,List.mem_cons,List.not_mem_nil,or_false]at hq
 rcases hq with rfl|rfl|rfl
 ·simp[Array.getElem?_append]at hu
  subst hu
  exact .pv _ _ hv
 ·simp[Array.getElem?_append]at hu
  subst hu
  exact .pv _ _ (.int _ _)
 ·simp[Array.getElem?_append]at hu
  subst hu
  exact .yld l
theorem Et{μ:Mu}{Φ:Zp}{t:Array Value}{L:List (Nat×AV)}(h:YE μ Φ t (eW L)):t.size=28:=(Ap (n:=28) h).1
set_option maxHeartbeats 4000000 in
theorem c1x{l:Nat}{J:Nat->Zp->(Nat->Prop)->World->Prop}{Jx:Zp->(Nat->Prop)->World->Prop}{xs:List (Tm×Int)}(hJok : ∀ k,JOK (J k))(hJxok:JOK Jx)(hY:a2j Tryz.prog l encNd xs J Jx):
  ∀ (m:Nat) (t:Tm),SizeOf.sizeOf t<m-> ∀ (lev k:Nat) (Φ:Zp) (X:Nat->Prop) (W:World) (v:Value),J k Φ X W->RP Φ v (enc t)->(∀ i x,(Zx lev t)[i]? = some x->xs[k+i]? = some x)->lev+Zh t<=4611686018427387904 ->
   Calls Tryz.prog 81 #[v,.int .i64 lev,.func (.yield l) #[] #[]] W (Oh J Jx (k+Zh t) Φ X W):=by
 intro m
 induction m with
 | zero=>intro t h;omega
 | succ m ih=>
  intro t ht lev k Φ X W v hj hv hx hlev
  obtain⟨n,ks⟩:=t
  obtain⟨o0,o1,o2,o3,o4,o5,o6,o7,o8,o9,a1,b1,a6,b6,y,c,t1,t2,hbody,e1,y1,y2,y3,e6,c1,c2,c3,h0,h1,h1b,h2,h3,h4,h5,h6,h6b,h7,h8,h9⟩:=c7j
  rw[Zy]at hv
  refine callsIn_wide.1 (callsIn_of_wp (F:=Fence.wide) (n:=4) Tryz.func81 hbody trivial ?_ rfl)
  have hE0:YE (fun _ _=>none) Φ (#[v,.int .i64 lev,.func (.yield l) #[] #[]]++Array.replicate 25 undef) (eW (wk0 n ks lev l)):=d4t hv
  have hX0 : ∀ b,X b->b<W.heap.size∧Φ b=none:=fun b hb=>(hJok k).out hj hb
  refine wpIn_seq (GQ (nn:=4) Zi (h0 n ks lev l) (UY ((hJok k).glob hj) ((hJok k).phi hj) hE0 rfl) ?_)
  intro a w hr
  refine wpIn_seq (wpIn_seq (wpIn_region_list ?_))
  rw[e1]
  refine KX Zi (fun o ho=>by rw[e1];simp[ho]) (h1 n ks lev l) hr ?_
  rintro a2 w2 ⟨μ2,Φ2,hg2,he2,hd2⟩
  obtain⟨s2,k2,n2⟩:=Tt hg2 (JI n ks) hX0
  have hj2:=(hJok k).step hj s2
  have hx0:xs[k]? = some (.mk n ks,(lev:Int)):=hx 0 _ (by rw[Zx];rfl)
  have r10:RP Φ2 (a2.eval (.tmp 10)) (enc (Tm.mk n ks)):=by
   rw[Zy]
   exact a0r he2 (y:=.t 10) rfl (by kernel_rfl)
  have r11:RP Φ2 (a2.eval (.tmp 11)) (.int .i64 lev):=a0r he2 (y:=.t 11) rfl (by kernel_rfl)
  have hvs:Xq Φ2 (#[a2.eval (.tmp 10),a2.eval (.tmp 11)]:Array Value).toList (encNd (.mk n ks,(lev:Int))):=b2p r10 (b2p r11 a0y)
  refine a9x y1 y2 y3 (Ex he2 (y:=.t 9) rfl (by kernel_rfl)) (vs:=#[a2.eval (.tmp 10),a2.eval (.tmp 11)]) (by simp) (hY 3 k _ Φ2 _ w2 _ hx0 hj2 hvs) ?_
  rintro e w3 ⟨Φ3,hle3,hkeep3,hres⟩
  -- both answers
  have both : ∀ (b:Bool) (JJ:Zp->(Nat->Prop)->World->Prop),JOK JJ->JJ Φ3 (fun b=>X b∨Ga μ2 (bx n ks) b) w3-> 
    XA (entry μ2 Φ3 (bx n ks) w3) ⟨eW (wk3 n ks lev l b),bx n ks⟩ (a2.put (some 12) (.bool b)) w3:=by
   intro b JJ hJJ hjj
   refine⟨μ2,Φ3,hg2.moved (hJJ.glob hjj) hle3 (hJJ.phi hjj) (fun q hq=>hkeep3 q (.inr hq)) (fun q hq=>(hJJ.out hjj (.inr hq)).2) (JI n ks),?_,by rw[Xw];exact hd2⟩
   have:=Qo (d:=some 12) (he2.mono (.refl _) hle3) (.pv _ _ (.bool b))
   exact this
  have fin : ∀ (b:Bool) (a':Act) (w':World) (Φ':Zp),a'.defers=[]->a'.tmps.getD 6 undef = .bool b->(Oh J Jx (k+Zh (.mk n ks)) Φ X W (.returned (.bool b)) w')->bodyPost Tryz.prog Tryz.f81 (Oh J Jx (k+Zh (.mk n ks)) Φ X W) .ret a' w':=by
   intro b a' w' Φ' hd h6 hp
   refine bodyPost_ret (results_tmp rfl _ _ _) hd ?_
   rw[h6]
   exact hp
  rcases hres with ⟨rfl,hj3⟩|⟨rfl,hj3⟩
  ·refine⟨_,rfl,?_⟩
   rw[<- List.append_nil b1]
   refine KX Zi (fun o ho=>by rw[e1];simp[ho]) (h1b n ks lev l true) (both true _ (hJok _) hj3) ?_
   intro a4 w4 hr4
   have he4:=hr4
   obtain⟨μ4,Φ4,hg4,he4,hd4⟩:=he4
   refine wpIn_cond (t:=false) (U9 (x:=.tmp 13) (y:=.t 13) he4 rfl (by kernel_rfl)) (wpIn_skip ?_)
   refine wpIn_seq (wpIn_seq (GQ (nn:=4) Zi (h3 n ks lev l) hr4 ?_))
   rintro a5 w5 ⟨μ5,Φ5,hg5,he5,hd5⟩
   have hX3 : ∀ b,X b->b<w3.heap.size∧Φ3 b=none:=fun b hb=>(hJok _).out hj3 (.inl hb)
   obtain⟨s5,k5⟩:=GA hg5 (JI n ks) hX3 n2
   have hj5:=(hJok _).step hj3 (s5.drop (Y:=X) fun b h=>.inl h)
   have hk5 : ∀ b,X b->w5.heap[b]? = W.heap[b]? :=fun b hb=>(k5 b hb).trans ((hkeep3 b (.inl hb)).trans (k2 b hb))
   have hle5:Φ.le Φ5:=hg2.Φle.trans (hle3.trans hg5.Φle)
   have he5':YE (fun _ _=>none) Φ5 a5.tmps (eW (wl0 ks lev l 0)):=c1s (n:=28) he5 (.refl _) (by
    intro p hp
    simp only[wl0,List.mem_cons,List.not_mem_nil,or_false]at hp
    rcases hp with rfl|rfl|rfl|rfl|rfl <;> exact⟨by simp,rfl,rfl⟩)
   clear both hr4 hg4 he4 hd4 hE0 hr hg2 he2 hd2 r10 r11 hvs
   refine wpIn_block (wpIn_loop_ghost (fun(z:Nat) (a:Act) (w:World)=> ∃ (i:Nat) (Φ':Zp),z=ks.length - i∧i<=ks.length∧Φ.le Φ'∧(∀ b,X b->w.heap[b]? = W.heap[b]?)∧J (k+1+Zl (ks.take i)) Φ' X w∧YE (fun _ _=>none) Φ' a.tmps (eW (wl0 ks lev l i))∧a.defers=[]) _
    ⟨0,Φ5,rfl,Nat.zero_le _,hle5,hk5,hj5,he5',hd5⟩ ?_)
   clear hj5 hk5 hle5 he5' hd5 s5 k5 hg5 he5
   rintro z a w ⟨i,Φi,rfl,hi,hle,hk,hj,he,hd⟩
   have hXi : ∀ b,X b->b<w.heap.size∧Φi b=none:=fun b hb=>(hJok _).out hj hb
   refine wpIn_seq (GQ (nn:=4) Zi (h4 ks lev l i) (UY ((hJok _).glob hj) ((hJok _).phi hj) he hd) ?_)
   intro a7 w7 hr7
   have hr7':=hr7
   obtain⟨μ7,Φ7,hg7,he7,hd7⟩:=hr7'
   by_cases hlt:i<ks.length
   ·have hb:decide ((i:Int)<((ks.map (enc:Tm->PV)).length:Int))=true:=by simpa using hlt
    refine wpIn_seq (wpIn_cond (t:=true) (U9 (x:=.tmp 18) (y:=.t 18) he7 rfl (by rw[<- hb];kernel_rfl)) (wpIn_skip ?_))
    obtain⟨kn,kk,hkk⟩ : ∃ kn kk,ks[i]? = some (.mk kn kk):=by
     cases hki:ks[i]with
     | mk kn kk=>exact⟨kn,kk,by rw[List.getElem?_eq_getElem hlt,hki]⟩
    refine wpIn_seq (wpIn_block (wpIn_seq (GQ (nn:=4) Zi (h5 ks lev l i kn kk hkk) hr7 ?_)))
    intro a8 w8 hr8
    refine wpIn_seq (wpIn_region_list ?_)
    rw[e6]
    refine KX Zi (fun o ho=>by rw[e6];simp[ho]) (h6 ks lev l i kn kk) hr8 ?_
    rintro a9 w9 ⟨μ9,Φ9,hg9,he9,hd9⟩
    obtain⟨s9,k9⟩:=WQ hg9 (JI kn kk) hXi
    have hj9:=(hJok _).step hj s9
    have hmem:Tm.mk kn kk∈ks:=List.mem_of_getElem? hkk
    have hsz:=Ei (n:=n) hmem
    have hdm:=Ef hmem
    have hdp:Zh (.mk n ks)=Zl ks+1:=by rw[Zh]
    have hkl:=EG ks
    have hcut:ks=ks.take i++(.mk kn kk)::ks.drop (i+1):=by
     have h:=List.getElem?_eq_some_iff.1 hkk
     obtain⟨h1,h2⟩:=h
     rw[<- h2,List.getElem_cons_drop,List.take_append_drop]
    have r21:RP Φ9 (a9.eval (.tmp 21)) (enc (Tm.mk kn kk)):=by
     rw[Zy]
     exact a0r he9 (y:=.t 21) rfl (by kernel_rfl)
    have e23:a9.eval (.tmp 23) = .int .i64 ((lev+1:Nat):Int):=by
     have:=c9v (x:=.tmp 23) (y:=.t 23) he9 rfl (by kernel_rfl:_=AV.pv (.int .i64 (IntKind.i64.wrap ((lev:Int)+1))))
     rw[this,next (by omega)]
    have e24:a9.eval (.tmp 24) = .func (.yield l) #[] #[]:=Ex he9 (y:=.t 24) rfl (by kernel_rfl)
    have hxk : ∀ j x,(Zx (lev+1) (.mk kn kk))[j]? = some x->xs[k+1+Zl (ks.take i)+j]? = some x:=by
     intro j x hjx
     have:(Zx lev (.mk n ks))[1+Zl (ks.take i)+j]? = some x:=by
      rw[Zx,show 1+Zl (ks.take i)+j=(Zl (ks.take i)+j)+1 by omega,List.getElem?_cons_succ,hcut,MC,ZG,<- hcut,<- K9 (lev+1) (ks.take i),
       List.getElem?_append_right (by omega),Nat.add_sub_cancel_left,List.getElem?_append_left (List.getElem?_eq_some_iff.1 hjx).1,hjx]
     have:=hx _ _ this
     rw[<- this]
     congr 1
     omega
    have hcall:=ih (.mk kn kk) (by omega) (lev+1) (k+1+Zl (ks.take i)) Φ9 X w9 _ hj9 r21 hxk (by omega)
    refine LY c1 c2 c3 Tryz.func81 rfl (by kernel_rfl) (vs:=#[a9.eval (.tmp 21),.int .i64 ((lev+1:Nat):Int),.func (.yield l) #[] #[]]) (by simp only[List.map_toArray,List.map_cons,List.map_nil,e23,e24]) hcall ?_
    rintro e w10 ⟨Φ10,hle10,hkeep10,hres⟩
    have hks : ∀ b,X b->w10.heap[b]? = W.heap[b]? :=fun b hb=>(hkeep10 b hb).trans ((k9 b hb).trans (hk b hb))
    have he10 : ∀ b,YE (fun _ _=>none) Φ10 (a9.put (some 25) (.bool b)).tmps (eW (wl7 ks lev l i b)):=by
     intro b
     have h:=Qo (d:=some 25) (he9.mono (.refl _) hle10) (.pv _ _ (.bool b))
     refine c1s (n:=28) (L:=wl6 ks lev l i kn kk++[(25,.pv (.bool b))]) h (.refl _) ?_
     intro p hp
     simp only[wl7,wl0,List.mem_cons,List.mem_append,List.not_mem_nil,or_false]at hp
     rcases hp with (rfl|rfl|rfl|rfl|rfl)|rfl <;> exact⟨by simp,rfl,rfl⟩
    have hsz10:ks.take (i+1)=ks.take i++[.mk kn kk]:=by rw[List.take_add_one,hkk];rfl
    rcases hres with ⟨rfl,hj10⟩|⟨rfl,hj10⟩
    ·refine⟨_,rfl,?_⟩
     rw[<- List.append_nil b6]
     refine KX Zi (fun o ho=>by rw[e6];simp[ho]) (h6b ks lev l i true) (UY ((hJok _).glob hj10) ((hJok _).phi hj10) (he10 true) (by rw[Xw];exact hd9)) ?_
     intro a11 w11 hr11
     obtain⟨μ11,Φ11,hg11,he11,hd11⟩:=hr11
     obtain⟨s11,k11⟩:=WQ hg11 UH (fun b hb=>(hJok _).out hj10 hb)
     have hj11:=(hJok _).step hj10 s11
     refine wpIn_cond (t:=false) (U9 (x:=.tmp 26) (y:=.t 26) he11 rfl (by kernel_rfl)) (wpIn_skip ?_)
     have he11':YE (fun _ _=>none) Φ11 a11.tmps (eW (wl0 ks lev l i)):=c1s (n:=28) he11 (.refl _) (by
      intro p hp
      simp only[wl0,List.mem_cons,List.not_mem_nil,or_false]at hp
      rcases hp with rfl|rfl|rfl|rfl|rfl <;> exact⟨by simp,rfl,rfl⟩)
     refine GQ (nn:=4) Zi (h8 ks lev l i) (UY ((hJok _).glob hj11) ((hJok _).phi hj11) he11' hd11) ?_
     rintro a12 w12 ⟨μ12,Φ12,hg12,he12,hd12⟩
     obtain⟨s12,k12⟩:=WQ hg12 UH (fun b hb=>(hJok _).out hj11 hb)
     have hj12:=(hJok _).step hj11 s12
     refine⟨ks.length - (i+1),by omega,i+1,Φ12,rfl,hlt,hle.trans (hg9.Φle.trans (hle10.trans (hg11.Φle.trans hg12.Φle))),fun b hb=>(k12 b hb).trans ((k11 b hb).trans (hks b hb)),?_,?_,hd12⟩
     ·rw[hsz10,Qc,Zl,Zl,Nat.add_zero,<- Nat.add_assoc]
      exact hj12
     ·refine c1s (n:=28) he12 (.refl _) ?_
      intro p hp
      simp only[wl0,List.mem_cons,List.not_mem_nil,or_false]at hp
      rcases hp with rfl|rfl|rfl|rfl|rfl
      ·exact⟨by simp,by rw[<- next (show i<9223372036854775807 by omega)];rfl,rfl⟩
      all_goals exact⟨by simp,rfl,rfl⟩
    ·refine⟨_,rfl,?_⟩
     rw[<- List.append_nil b6]
     refine KX Zi (fun o ho=>by rw[e6];simp[ho]) (h6b ks lev l i false) (UY (hJxok.glob hj10) (hJxok.phi hj10) (he10 false) (by rw[Xw];exact hd9)) ?_
     rintro a11 w11 ⟨μ11,Φ11,hg11,he11,hd11⟩
     obtain⟨s11,k11⟩:=WQ hg11 UH (fun b hb=>hJxok.out hj10 hb)
     have hj11:=hJxok.step hj10 s11
     refine wpIn_cond (t:=true) (U9 (x:=.tmp 26) (y:=.t 26) he11 rfl (by kernel_rfl)) ?_
     refine d0p hJxok hj11 hd11 (Et he11) h7 ?_
     intro a' w' Φ' hd' h6' hle' hk' hj'
     refine fin false a' w' Φ' hd' h6' ⟨Φ',?_,fun b hb=>(hk' b hb).trans ((k11 b hb).trans (hks b hb)),.inr ⟨rfl,hj'⟩⟩
     exact hle.trans (hg9.Φle.trans (hle10.trans (hg11.Φle.trans hle')))
   ·have hb:decide ((i:Int)<((ks.map (enc:Tm->PV)).length:Int))=false:=by simpa using hlt
    refine wpIn_seq (wpIn_cond (t:=false) (U9 (x:=.tmp 18) (y:=.t 18) he7 rfl (by rw[<- hb];kernel_rfl)) (wpIn_exit ?_))
    obtain⟨s7,k7⟩:=WQ hg7 UH hXi
    have hj7:=(hJok _).step hj s7
    have hii:i=ks.length:=by omega
    subst hii
    rw[List.take_length]at hj7
    show((Code.region 9 o9 false).seq .ret).wpIn _ _ _ _ _ _
    refine d0p (hJok _) hj7 hd7 (Et he7) h9 ?_
    intro a' w' Φ' hd' h6' hle' hk' hj'
    refine fin true a' w' Φ' hd' h6' ⟨Φ',hle.trans (hg7.Φle.trans hle'),fun b hb=>(hk' b hb).trans ((k7 b hb).trans (hk b hb)),.inl ⟨rfl,?_⟩⟩
    rw[Zh,show k+(Zl ks+1)=k+1+Zl ks by omega]
    exact hj'
  ·refine⟨_,rfl,?_⟩
   rw[<- List.append_nil b1]
   refine KX Zi (fun o ho=>by rw[e1];simp[ho]) (h1b n ks lev l false) (both false _ hJxok hj3) ?_
   rintro a4 w4 ⟨μ4,Φ4,hg4,he4,hd4⟩
   refine wpIn_cond (t:=true) (U9 (x:=.tmp 13) (y:=.t 13) he4 rfl (by kernel_rfl)) ?_
   obtain⟨s4,k4⟩:=GA hg4 (JI n ks) (fun b hb=>hJxok.out hj3 (.inl hb)) n2
   have hj4:=hJxok.step hj3 (s4.drop (Y:=X) fun b h=>.inl h)
   refine d0p hJxok hj4 hd4 (Et he4) h2 ?_
   intro a' w' Φ' hd' h6' hle' hk' hj'
   exact fin false a' w' Φ' hd' h6' ⟨Φ',hg2.Φle.trans (hle3.trans (hg4.Φle.trans hle')),fun b hb=>(hk' b hb).trans ((k4 b hb).trans ((hkeep3 b (.inl hb)).trans (k2 b hb))),.inr ⟨rfl,hj'⟩⟩
def d3h(pss:List (List PV)):Tm:=match pss with
 | [ps]=>dec (.agg ps)
 | _=>.mk FO []
noncomputable def pre_ndI(pss:List (List PV)):Bool:=match pss with
 | [ps]=>can Tm (.agg ps)&&decide (Zh (dec (.agg ps))<=1048576)
 | _=>false
def F_ndI(pss:List (List PV)):List (Tm×Int):=Zx 1 (d3h pss)
theorem tmOf_nd(n:Nd)(ks:List Tm):d3h [ndC n ks] = .mk n ks:=by
 show dec (PV.agg (ndC n ks))=_
 rw[show(PV.agg (ndC n ks))=enc (Tm.mk n ks)from(Zy n ks).symm,Enc.dec_enc]
theorem pre_nd{n:Nd}{ks:List Tm}(h:Zh (.mk n ks)<=1048576):pre_ndI [ndC n ks]=true:=by
 show(can Tm (.agg (ndC n ks))&&decide (Zh (dec (PV.agg (ndC n ks)))<=1048576))=true
 rw[show(PV.agg (ndC n ks))=enc (Tm.mk n ks)from(Zy n ks).symm,Enc.dec_enc,U0,Bool.true_and]
 exact decide_eq_true h
theorem c8y: ∃ (o:Array Oper) (a:List Oper) (c:Oper) (t:Array TypeId),Tryz.f80.body=some (.region 0 o false)∧o.toList=a++[c] ∧
  c.op = .call {callee:=.value (.func 81),args:=#[.tmp 3,.const (.int .i64 1),.tmp 4],argTypes:=t}∧c.guard=none∧c.dst=some 5 ∧
  ∀ n ks l,U8 Tryz.prog wkT o a ⟨Z4 6 0 [(0,.yld l),(1,.pv (.rptr (ndC n ks)))],[]⟩=some ⟨Z4 6 0 [(0,.yld l),(1,.pv (.rptr (ndC n ks))),(3,.pv (.agg (ndC n ks))),(4,.yld l)],[]⟩:=by
 refine⟨_,[_,_],_,_,rfl,rfl,rfl,rfl,rfl,?_⟩
 intro n ks l
 kernel_rfl
set_option maxHeartbeats 1000000 in
theorem Ao:b3f Tryz.prog 80 encNd pre_ndI F_ndI:=by
 refine⟨⟨_,Tryz.func80,rfl,rfl⟩,?_⟩
 intro pss hpre Φ0 lb l J Jx W hcaps hJok hJxok hY h0
 unfold pre_ndI at hpre
 split at hpre
 ·rename_i ps
  simp only[Bool.and_eq_true,decide_eq_true_eq]at hpre
  obtain⟨hc,hsz⟩:=hpre
  obtain⟨t,ht⟩:=Pk hc
  obtain⟨n,ks⟩:=t
  rw[ht,Enc.dec_enc]at hsz
  rw[Zy]at ht
  obtain rfl:ps=ndC n ks:=by injection ht
  have hF:F_ndI [ndC n ks]=Zx 1 (.mk n ks):=by unfold F_ndI;rw[tmOf_nd]
  rw[hF]at hY ⊢
  obtain⟨lb⟩:=lb
  match lb,hcaps.1 with
  | [p1],_=>
   obtain⟨B1,c1,rfl,g1,r1,o1⟩:=hcaps.2 0 p1 _ rfl rfl
   have k1:=a6h g1 r1 o1
   obtain⟨o,a,c,t,hbody,e1,c1,c2,c3,hgo⟩:=c8y
   refine callsIn_wide.1 (callsIn_of_wp (F:=Fence.wide) (n:=4) Tryz.func80 hbody trivial ?_ rfl)
   have hE:YE (fun _ _=>none) Φ0 ((#[Value.func (.yield l) #[] #[]]++ #[Value.pointer (some ⟨B1,0,none⟩)])++Array.replicate 4 undef) (Z4 6 0 [(0,.yld l),(1,.pv (.rptr (ndC n ks)))]):=by
    refine PW (by simp) ?_
    intro q hq u hu
    simp only[List.mem_cons,List.not_mem_nil,or_false]at hq
    rcases hq with rfl|rfl
    ·simp[Array.getElem?_append]at hu
     subst hu
     exact .yld l
    ·simp[Array.getElem?_append]at hu
     subst hu
     exact .pv _ _ k1
   refine wpIn_region_list ?_
   rw[e1]
   refine KX (nn:=4) Zi (fun x hx=>by rw[e1];simp[hx]) (hgo n ks l) (UY ((hJok 0).glob h0) ((hJok 0).phi h0) hE rfl) ?_
   rintro a2 w2 ⟨μ2,Φ2,hg2,he2,hd2⟩
   obtain⟨s2,k2⟩:=WQ (X:=fun _=>False) hg2 UH (fun b hb=>hb.elim)
   have hj2:=(hJok _).step h0 s2
   have r3:RP Φ2 (a2.eval (.tmp 3)) (enc (Tm.mk n ks)):=by
    rw[Zy]
    exact a0r he2 (y:=.t 3) rfl (by kernel_rfl)
   have e4:a2.eval (.tmp 4) = .func (.yield l) #[] #[]:=Ex he2 (y:=.t 4) rfl (by kernel_rfl)
   have hcall:=c1x hJok hJxok hY (SizeOf.sizeOf (Tm.mk n ks)+1) (.mk n ks) (Nat.lt_succ_self _) 1 0 Φ2 _ w2 _ hj2 r3 (fun i x h=>by rw[Nat.zero_add];exact h) (by omega)
   refine LY c1 c2 c3 Tryz.func81 rfl (by kernel_rfl) (vs:=#[a2.eval (.tmp 3),.int .i64 ((1:Nat):Int),.func (.yield l) #[] #[]]) (by simp only[List.map_toArray,List.map_cons,List.map_nil,e4];rfl) hcall ?_
   rintro e w3 ⟨Φ3,hle3,hkeep3,hres⟩
   have fin : ∀ v,(∃ Φ' X',J (Zx 1 (.mk n ks)).length Φ' X' w3∨Jx Φ' X' w3)->wpListIn (Yw none) 4 Tryz.prog o (bodyPost Tryz.prog Tryz.f80 fun e W'=>(∃ v,e = .returned v)∧ ∃ Φ' X',(J (Zx 1 (.mk n ks)).length Φ' X' W'∨Jx Φ' X' W')) [] (a2.put (some 5) v) w3:=by
    intro v hv
    exact⟨by rw[Xw];exact hd2,_,results_none rfl _ _ _,⟨_,rfl⟩,hv⟩
   rcases hres with ⟨rfl,hj3⟩|⟨rfl,hj3⟩
   ·refine⟨_,rfl,fin _ ⟨Φ3,fun _=>False,.inl ?_⟩⟩
    rw[WL,<- Nat.zero_add (Zh _)]
    exact hj3
   ·exact⟨_,rfl,fin _ ⟨Φ3,_,.inr hj3⟩⟩
 ·cases hpre
end Go.Proofs.YtgdebdgkofkeeaaGreatDoor
namespace Go.Pl
open Go.RowKit
open Enc (enc dec is)
open EncL (encL decL isL)
open Go.Proofs.YtgdebdgkofkeeaaGreatDoor (encNd pre_ndI F_ndI tmOf_nd pre_nd)
theorem b3r: ∀ args os,Y9 args os=true->Zc OP os.length (Yi os.length Pf fun r=>r=Wh 80 args os) RQ [] (We c4d args os):=by
 intro args os h
 unfold Y9 at h
 split at h
 ·obtain⟨⟨n,ks⟩,rfl⟩:=Pk h
  rw[Zy]
  exact c8t n ks rfl
 ·cases h
def tvI(t:Tm)(k:Nat)(σ:Zo):Prop:=(∀ j p,j<k->(Zx 1 t)[j]? = some p->okN j p=true)∧k<=400∧σ=[.obj (.box [.pv (.bool false)]),.obj (.box [.pv (.int .i64 k)])]
def tvX(t:Tm)(σ:Zo):Prop:=VP t=false∧ ∃ (c:Int) (r:List Slot),σ = .obj (.box [.pv (.bool false)]):: .obj (.box [.pv (.int .i64 c)])::r
def tvE:XB:=fun n st q=>n=0∧RF KO 0 (.t 7) 80 [8,9] Cv BM encNd pre_ndI F_ndI st q
def tvM(t:Tm)(k:Nat)(x:Tm×Int)(st:St):Prop:=(∀ j p,j<k->(Zx 1 t)[j]? = some p->okN j p=true)∧k<=400 ∧
 st=⟨Z4 23 0 [(2,.ptr 0 0),(3,.ptr 1 0),(4,.ptr 2 0),(5,.pv (.int .i64 x.2))],[.obj (.box [.pv (.bool false)]),.obj (.box [.pv (.int .i64 k)]),.obj (.box ((Go.Proofs.YtgdebdgkofkeeaaGreatDoor.ndC x.1.nd x.1.ks).map .pv))]⟩
theorem b9u: ∀ x:Tm×Unit,tW x.1=true->Qw KO tvE 0 (Zb KS (Zq (VP x.1))) H9 [] (Yc c8v (encL x)):=by
 rintro⟨t,⟨⟩⟩ ht
 have ht:tW t=true:=ht
 obtain⟨n,ks⟩:=t
 rw[<- WR]
 show Qw KO tvE 0 (Zb KS (Zq (VP (.mk n ks)))) _ _ _
 have hsz:Zh (.mk n ks)<=1048576:=Nat.le_trans (QH _) (of_decide_eq_true ht)
 have hF:F_ndI [Go.Proofs.YtgdebdgkofkeeaaGreatDoor.ndC n ks]=Zx 1 (.mk n ks):=by unfold F_ndI;rw[tmOf_nd]
 refine d2y tvE n ks ⟨?_,rfl,[2],[Go.Proofs.YtgdebdgkofkeeaaGreatDoor.ndC n ks],[2,3],[2,3,4,5],[],⟨Z4 23 0 [(2,.ptr 0 0),(3,.ptr 1 0)],[.obj (.box [.pv (.bool false)]),.obj (.box [.pv (.int .i64 0)])]⟩,tvI (.mk n ks),tvX (.mk n ks),tvM (.mk n ks),
  rfl,by simp,rfl,?_,by kernel_rfl,pre_nd hsz,⟨fun j p hj=>by omega,by omega,rfl⟩,?_,?_,?_,?_⟩
 ·show can Tm (PV.agg (Go.Proofs.YtgdebdgkofkeeaaGreatDoor.ndC n ks))=true
  rw[show(PV.agg (Go.Proofs.YtgdebdgkofkeeaaGreatDoor.ndC n ks))=enc (Tm.mk n ks)from(Zy n ks).symm,U0]
 ·intro j l ps hl hps
  match j with
  | 0=>cases hl;cases hps;rfl
  | j+1=>simp at hl
 ·rintro k ⟨⟨xn,xk⟩,v⟩ σ hx ⟨hall,hk,rfl⟩
  have e:Hq [8,9] ((encNd (.mk xn xk,v)).map .pv) (Z4 23 0 [(2,.ptr 0 0),(3,.ptr 1 0)])=Z4 23 0 [(2,.ptr 0 0),(3,.ptr 1 0),(8,.pv (.agg (Go.Proofs.YtgdebdgkofkeeaaGreatDoor.ndC xn xk))),(9,.pv (.int .i64 v))]:=by
   show Hq [8,9] (([enc (Tm.mk xn xk),.int .i64 v]).map .pv) _=_
   rw[Zy]
   kernel_rfl
  rw[e]
  exact d2a (G:=fun _=>False) _ xn xk k v ⟨rfl,hall,hk,rfl⟩
 ·rintro k ⟨⟨xn,xk⟩,v⟩ st hx ⟨hall,hk,rfl⟩
  rw[hF]at hx
  have hno:=fun h=>a9g (.mk n ks) hx h
  have hw:IntKind.i64.wrap ((k:Int)+1)=((k+1:Nat):Int):=next (by omega)
  refine c9s (G:=tvX (.mk n ks)) _ xn xk k v ?_
  rw[hw]
  have bad:okN k (.mk xn xk,v)=false-> ∀ r,tvX (.mk n ks) (.obj (.box [.pv (.bool false)]):: .obj (.box [.pv (.int .i64 ((k+1:Nat):Int))])::r):=fun h r=>⟨hno h,_,r,rfl⟩
  refine X0 (fun h1=>bad ?_ _) fun h1=>X0 (fun h2=>bad ?_ _) fun h2=>⟨Ze (.mk xn xk,()) (WR xn xk) (Bi ht (List.mem_of_getElem? hx)),Zd (.mk xn xk,()) (WR xn xk) (WW (fun h3=>bad ?_ _) fun h3=>⟨rfl,⟨Z4 23 0 [(2,.ptr 0 0),(3,.ptr 1 0)],[.obj (.box [.pv (.bool false)]),.obj (.box [.pv (.int .i64 ((k+1:Nat):Int))])]⟩,by kernel_rfl,rfl,?_,?_,rfl⟩)⟩
  ·unfold okN;rw[decide_eq_false (show ¬ k<400 by omega)];rfl
  ·unfold okN;rw[decide_eq_false (show ¬ v<=40 by omega),Bool.and_false];rfl
  ·have h3:QI (.mk xn xk)=false:=h3
   unfold okN;rw[h3,Bool.and_false]
  ·have h3:QI (.mk xn xk)=true:=h3
   intro j p hj hp
   rw[Nat.lt_succ_iff_lt_or_eq]at hj
   rcases hj with hj|rfl
   ·exact hall j p hj hp
   ·rw[hx]at hp
    cases hp
    unfold okN
    rw[h3,decide_eq_true (show j<400 by omega),decide_eq_true (show v<=40 by omega)];rfl
  ·omega
 ·rintro σ ⟨hall,hk,rfl⟩
  refine d0l tvE n ks _ (Zw (a6m _ fun j p hp=>hall j p ?_ hp).symm)
  rw[hF]
  exact(List.getElem?_eq_some_iff.1 hp).1
 ·rintro σ ⟨hv,c,r,rfl⟩
  exact c3q tvE n ks c r (Zw hv.symm)
end Go.Pl
namespace Go.Pl
open Go.RowKit
open Enc (enc dec is)
open EncL (encL decL isL)
open Go.Proofs.YtgdebdgkofkeeaaGreatDoor (encNd pre_ndI F_ndI tmOf_nd pre_nd)
abbrev Sb(n:Nd)(ks:List Tm):List PV:=Go.Proofs.YtgdebdgkofkeeaaGreatDoor.ndC n ks
def UT(t:Tm):Int:=Zh t
def b9m(t:Tm)(k:Nat)(σ:Zo):Prop:=σ=[.obj (.box [.pv (.int .i64 (((Zx 1 t).take k).length:Int))])]
def d3q(t:Tm)(k:Nat)(x:Tm×Int)(st:St):Prop:=st=⟨Z4 11 0 [(3,.ptr 0 0)],[.obj (.box [.pv (.int .i64 (((Zx 1 t).take k).length:Int))])]⟩
def a3x:XB:=fun n st q=>n=0∧RF U7 0 (.t 5) 80 [6,7] Js JU encNd pre_ndI F_ndI st q
theorem c4c: ∀ x:Tm×Unit,tW x.1=true->Qw U7 a3x 0 (Zb Kn (Zq (UT x.1))) Jv [] (Yc b8f (encL x)):=by
 rintro⟨t,⟨⟩⟩ ht
 have ht:tW t=true:=ht
 obtain⟨n,ks⟩:=t
 rw[<- WR]
 show Qw U7 a3x 0 (Zb Kn (Zq (UT (.mk n ks)))) _ _ _
 have hsz:Zh (.mk n ks)<=1048576:=Nat.le_trans (QH _) (of_decide_eq_true ht)
 have hlen:(Zx 1 (.mk n ks)).length=Zh (.mk n ks):=WL _ _
 have hF:F_ndI [Sb n ks]=Zx 1 (.mk n ks):=by unfold F_ndI;rw[tmOf_nd]
 refine c9h a3x n ks ⟨?_,rfl,[1],[Sb n ks],[3],[3],[],⟨Z4 11 0 [(3,.ptr 0 0)],[.obj (.box [.pv (.int .i64 0)])]⟩,b9m (.mk n ks),fun _=>False,d3q (.mk n ks),rfl,by simp,rfl,?_,by kernel_rfl,pre_nd hsz,rfl,?_,?_,?_,?_⟩
 ·show can Tm (PV.agg (Sb n ks))=true
  rw[show(PV.agg (Sb n ks))=enc (Tm.mk n ks)from(Zy n ks).symm,U0]
 ·intro j l ps hl hps
  match j with
  | 0=>cases hl;cases hps;rfl
  | j+1=>simp at hl
 ·rintro k ⟨⟨xn,xk⟩,v⟩ σ hx hi
  unfold b9m at hi
  subst hi
  have e:Hq [6,7] ((encNd (.mk xn xk,v)).map .pv) (Z4 11 0 [(3,.ptr 0 0)])=Z4 11 0 [(3,.ptr 0 0),(6,.pv (.agg (Sb xn xk))),(7,.pv (.int .i64 v))]:=by
   show Hq [6,7] (([enc (Tm.mk xn xk),.int .i64 v]).map .pv) _=_
   rw[Zy]
   kernel_rfl
  rw[e]
  exact c4q (G:=fun _=>False) _ xn xk _ v ⟨rfl,rfl⟩
 ·rintro k ⟨⟨xn,xk⟩,v⟩ st hx hst
  unfold d3q at hst
  subst hst
  rw[hF]at hx
  have hk:k<Zh (.mk n ks):=by rw[<- hlen];exact(List.getElem?_eq_some_iff.1 hx).1
  have ek:(Zx 1 (.mk n ks)).take (k+1)=(Zx 1 (.mk n ks)).take k++[(.mk xn xk,v)]:=by rw[List.take_add_one,hx];rfl
  refine b8d (G:=fun _=>False) _ xn xk _ v ⟨rfl,_,rfl,rfl,?_⟩
  unfold b9m
  rw[ek,List.length_append,next (by rw[List.length_take];omega)]
  rfl
 ·rintro σ hi
  unfold b9m at hi
  subst hi
  rw[hF,List.take_length]
  exact b8l a3x n ks _ (UW (by unfold UT;rw[hlen]))
 ·exact fun σ h=>h.elim
def mxF(c v:Int):Int:=if v>c then v else c
mutual
theorem b5x: ∀ (t:Tm) (l:Nat) (c:Int),((Zx l t).map (·.2)).foldl mxF c=max c ((l:Int)+ZI t - 1)
 | .mk n ks,l,c=>by
  rw[Zx,List.map_cons,List.foldl_cons,TD ks (l+1) (mxF c l) (by unfold mxF;split <;> omega),ZI]
  unfold mxF
  split <;> omega
theorem TD: ∀ (ks:List Tm) (l:Nat) (c:Int),(l:Int) - 1<=c->((ZG l ks).map (·.2)).foldl mxF c=max c ((l:Int)+ZU ks - 1)
 | [],l,c,h=>by rw[ZG,ZU];simp;omega
 | k::ks,l,c,h=>by
  rw[ZG,List.map_append,List.foldl_append,b5x k l c,TD ks l _ (by omega),ZU]
  omega
end
theorem b8o{t:Tm}(h:tW t=true): ∀ s∈(ZY t).flatMap Vl,s.s.length<=1048576:=by
 intro s hs
 obtain⟨p,hp,hs⟩:=List.mem_flatMap.1 hs
 unfold ZY at hp
 obtain⟨q,hq,rfl⟩:=List.mem_map.1 hp
 have hw:=Bi h hq
 unfold Vl at hs
 split at hs
 ·have:s=q.1.nd.name:=by simpa using hs
  subst this
  obtain⟨⟨n,ks⟩,l⟩:=q
  exact(En hw).name
 ·cases hs
theorem Fg{α β:Type}(f:α->List β)(hf : ∀ x,(f x).length<=1): ∀ l:List α,(l.flatMap f).length<=l.length
 | []=>by simp
 | a::l=>by have:=hf a;have:=Fg f hf l;rw[List.flatMap_cons,List.length_append,List.length_cons];omega
theorem a5b(t:Tm):((ZY t).flatMap Vl).length<=Zh t:=by
 have:=Fg Vl (fun x=>by unfold Vl;split <;> simp) (ZY t)
 rw[QK]at this
 exact this
def EM(t:Tm)(k:Nat)(σ:Zo):Prop:=σ=[.obj (.box [.map 1]),.obj (.map (Yf (Wn ((((Zx 1 t).take k).map (·.1)).flatMap Vl))))]
def d2z(t:Tm)(k:Nat)(x:Tm×Int)(st:St):Prop:=st=⟨Z4 29 0 [(3,.ptr 0 0),(4,.ptr 2 0)],[.obj (.box [.map 1]),.obj (.map (Yf (Wn ((((Zx 1 t).take k).map (·.1)).flatMap Vl)))),.obj (.box (Ym x.1.nd x.1.ks))]⟩
def a5i:XB:=fun n st q=>n=0∧RF Ql 0 (.t 7) 80 [8,9] JA Ul encNd pre_ndI F_ndI st q
theorem c4i: ∀ x:Tm×Unit,tW x.1=true->Qw Ql a5i 0 (Zb Ku (Zq (Jb x.1))) JZ [] (Yc c3v (encL x)):=by
 rintro⟨t,⟨⟩⟩ ht
 have ht:tW t=true:=ht
 obtain⟨n,ks⟩:=t
 rw[<- WR]
 show Qw Ql a5i 0 (Zb Ku (Zq (Jb (.mk n ks)))) _ _ _
 have hsz:Zh (.mk n ks)<=1048576:=Nat.le_trans (QH _) (of_decide_eq_true ht)
 have hlen:(Zx 1 (.mk n ks)).length=Zh (.mk n ks):=WL _ _
 have hF:F_ndI [Sb n ks]=Zx 1 (.mk n ks):=by unfold F_ndI;rw[tmOf_nd]
 refine c7x a5i n ks ⟨?_,rfl,[1],[Sb n ks],[3],[3,4],[],⟨Z4 29 0 [(3,.ptr 0 0)],[.obj (.box [.map 1]),.obj (.map (Yf []))]⟩,EM (.mk n ks),fun _=>False,d2z (.mk n ks),rfl,by simp,rfl,?_,by kernel_rfl,pre_nd hsz,rfl,?_,?_,?_,?_⟩
 ·show can Tm (PV.agg (Sb n ks))=true
  rw[show(PV.agg (Sb n ks))=enc (Tm.mk n ks)from(Zy n ks).symm,U0]
 ·intro j l ps hl hps
  match j with
  | 0=>cases hl;cases hps;rfl
  | j+1=>simp at hl
 ·rintro k ⟨⟨xn,xk⟩,v⟩ σ hx hi
  unfold EM at hi
  subst hi
  have e:Hq [8,9] ((encNd (.mk xn xk,v)).map .pv) (Z4 29 0 [(3,.ptr 0 0)])=Z4 29 0 [(3,.ptr 0 0),(8,.pv (.agg (Sb xn xk))),(9,.pv (.int .i64 v))]:=by
   show Hq [8,9] (([enc (Tm.mk xn xk),.int .i64 v]).map .pv) _=_
   rw[Zy]
   kernel_rfl
  rw[e]
  exact c0x (G:=fun _=>False) _ xn xk _ v ⟨rfl,rfl⟩
 ·rintro k ⟨⟨xn,xk⟩,v⟩ st hx hst
  unfold d2z at hst
  subst hst
  rw[hF]at hx
  have hk:k<Zh (.mk n ks):=by rw[<- hlen];exact(List.getElem?_eq_some_iff.1 hx).1
  have ek:(Zx 1 (.mk n ks)).take (k+1)=(Zx 1 (.mk n ks)).take k++[(.mk xn xk,v)]:=by rw[List.take_add_one,hx];rfl
  have yes:(xn.kind=6∨xn.kind=8∨xn.kind=9)->Ua (enc xn.name) (PV.bool true) (Yf (Wn (((Zx 1 (.mk n ks)).take k).map (·.1) |>.flatMap Vl)))=true∧EM (.mk n ks) (k+1) [.obj (.box [.map 1]),.obj (.map (Ww (enc xn.name) (PV.bool true) (Yf (Wn (((Zx 1 (.mk n ks)).take k).map (·.1) |>.flatMap Vl)))))]:=fun h=>by
   refine⟨(Gp _ xn.name).1,?_⟩
   unfold EM
   rw[show Ww (enc xn.name) (PV.bool true) (Yf (Wn (((Zx 1 (.mk n ks)).take k).map (·.1) |>.flatMap Vl)))=_ from(Gp _ xn.name).2,ek,List.map_append,List.flatMap_append]
   unfold Wn
   rw[List.foldl_append,List.map_cons,List.map_nil,List.flatMap_cons,List.flatMap_nil]
   rw[show Vl (.mk xn xk)=[xn.name]from if_pos h]
   rfl
  have no : ¬ (xn.kind=6∨xn.kind=8∨xn.kind=9)->EM (.mk n ks) (k+1) [.obj (.box [.map 1]),.obj (.map (Yf (Wn (((Zx 1 (.mk n ks)).take k).map (·.1) |>.flatMap Vl))))]:=fun h=>by
   unfold EM
   rw[ek,List.map_append,List.flatMap_append,List.map_cons,List.map_nil,List.flatMap_cons,List.flatMap_nil,show Vl (.mk xn xk)=[]from if_neg h]
   simp
  refine b8k (G:=fun _=>False) _ xn xk _ v (XT (fun h1=>⟨(yes (.inl h1)).1,rfl,_,rfl,rfl,(yes (.inl h1)).2⟩) fun h1=>XT (fun h2=>⟨(yes (.inr (.inl h2))).1,rfl,_,rfl,rfl,(yes (.inr (.inl h2))).2⟩) fun h2=>XT (fun h3=>⟨(yes (.inr (.inr h3))).1,rfl,_,rfl,rfl,(yes (.inr (.inr h3))).2⟩) fun h3=>⟨rfl,_,rfl,rfl,no (by rintro(h|h|h);exact h1 h;exact h2 h;exact h3 h)⟩)
 ·rintro σ hi
  unfold EM at hi
  subst hi
  rw[hF,List.take_length]
  refine c4p a5i n ks _ ⟨?_,?_⟩
  ·show(79==79&&Kh (Yf (Wn ((ZY (.mk n ks)).flatMap Vl))))=true
   rw[b4c (b8o ht) (by have:=a5b (.mk n ks);omega)]
   simp
  ·show Zq _ (PV.sl 1 false (List.map PV.str (YT (List.map Vv (Yf (Wn ((ZY (.mk n ks)).flatMap Vl)))))))
   rw[NM]
   exact JS rfl
 ·exact fun σ h=>h.elim
end Go.Pl
namespace Go.Pl
open Go.RowKit
mutual
theorem Vz: ∀ (t:Tm) (bd:List Str) (x:Str),x∈Z7 bd t ↔ x ∉ bd∧x∈Z7 [] t
 | .mk n ks,bd,x=>by
  rw[Z7,Z7,List.mem_append,List.mem_append,M8 ks bd]
  have h:(x∈(if n.kind=1∧n.name ∉ bd then [n.name]else []) ↔ x ∉ bd∧x∈(if n.kind=1∧n.name ∉ ([]:List Str)then [n.name]else [])):=by
   by_cases h1:n.kind=1
   ·by_cases h2:n.name∈bd
    ·rw[if_neg (fun h=>h.2 h2),if_pos ⟨h1,by simp⟩]
     simp only[List.not_mem_nil,List.mem_singleton,false_iff]
     rintro⟨h3,rfl⟩
     exact h3 h2
    ·rw[if_pos ⟨h1,h2⟩,if_pos ⟨h1,by simp⟩]
     simp only[List.mem_singleton]
     exact⟨fun e=>⟨e▸h2,e⟩,fun e=>e.2⟩
   ·rw[if_neg (fun h=>h1 h.1),if_neg (fun h=>h1 h.1)];simp
  rw[h]
  exact⟨fun h=>h.elim (fun h=>⟨h.1,.inl h.2⟩) fun h=>⟨h.1,.inr h.2⟩,fun h=>h.2.elim (fun k=>.inl ⟨h.1,k⟩) fun k=>.inr ⟨h.1,k⟩⟩
theorem M8: ∀ (ks:List Tm) (bd:List Str) {l:Bool} {s:Str} {i:Nat} {x:Str},x∈ZL bd l s i ks ↔ x ∉ bd∧x∈ZL [] l s i ks
 | [],bd,l,s,i,x=>by simp[ZL]
 | k::ks,bd,l,s,i,x=>by
  rw[ZL,ZL,List.mem_append,List.mem_append,M8 ks bd]
  have h:(x∈Z7 (if l&&decide (i=1)then s::bd else bd) k ↔ x ∉ bd∧x∈Z7 (if l&&decide (i=1)then [s]else []) k):=by
   by_cases c:(l&&decide (i=1))=true
   ·rw[if_pos c,if_pos c,Vz k (s::bd),Vz k [s]]
    simp only[List.mem_cons,List.not_mem_nil,or_false,not_or]
    exact⟨fun h=>⟨h.1.2,h.1.1,h.2⟩,fun h=>⟨⟨h.2.1,h.1⟩,h.2.2⟩⟩
   ·rw[if_neg c,if_neg c,Vz k bd]
  rw[h]
  exact⟨fun h=>h.elim (fun h=>⟨h.1,.inl h.2⟩) fun h=>⟨h.1,.inr h.2⟩,fun h=>h.2.elim (fun k=>.inl ⟨h.1,k⟩) fun k=>.inr ⟨h.1,k⟩⟩
end
theorem a0e(s:Str)(a b:Tm):Z7 [] (KQ s a b)=Z7 [] a++Z7 [s] b:=by
 unfold KQ
 rw[Z7,ZL,ZL,ZL]
 simp[ZF]
theorem b4m(s:Str)(a b:Tm):Zh (KQ s a b)=1+Zh a+Zh b:=by
 unfold KQ
 rw[Zh,Zl,Zl,Zl];omega
theorem c6t(s:Str)(a b:Tm):YO (KQ s a b)=s.s.length+1+YO a+YO b:=by
 unfold KQ
 rw[YO,Y2,Y2,Y2]
 show AP {FO with kind:=5,name:=s}+_=_
 unfold AP
 simp[FO]
 omega
theorem a7o(l:List Str):(WV l).length<=l.length:=by
 unfold WV YT
 rw[List.length_map,List.length_mergeSort,List.length_map]
 have:=UI l []
 have e:Wn l=l.foldl Y6 []:=rfl
 rw[e]
 simpa using this
theorem MV(t:Tm):(Z0 t).length<=Zh t:=Nat.le_trans (a7o _) (QB [] t)
end Go.Pl
namespace Go.Pl
open Go.RowKit
open Enc (enc dec is)
open EncL (encL decL isL)
structure RnT where
 nm:Str
 n:Nd
 k:List Tm
def RnT.t(x:RnT):Tm:=.mk x.n x.k
instance:Enc RnT where
 sz:=11
 enc x:=.agg [enc x.nm,enc x.n.kind,enc x.n.line,enc x.n.name,enc x.n.num,enc x.n.elem,enc x.n.dims,enc x.n.data,enc x.n.sizes,enc x.n.ranks,enc x.k]
 dec | .agg [z,a,b,c,d,e,f,g,h,i,k]=>⟨dec z,⟨dec a,dec b,dec c,dec d,dec e,dec f,dec g,dec h,dec i⟩,dec k⟩|_=>⟨⟨[]⟩,FO,[]⟩
 is | .agg [z,a,b,c,d,e,f,g,h,i,k]=>is Str z&&is Int a&&is Int b&&is Str c&&is Int d&&is Str e&&is (List Int) f&&is (List Int) g&&is (List Lin) h&&is (List Int) i&&is (List Tm) k|_=>false
 is_enc v:=by simp
 dec_enc v:=by simp
 sub p h:=by
  cases p with
  | agg xs=>
   match xs,h with
   | [z,a,b,c,d,e,f,g,h',i,k],h=>
    simp only[Bool.and_eq_true]at h
    obtain⟨⟨⟨⟨⟨⟨⟨⟨⟨⟨h0,h1⟩,h2⟩,h3⟩,h4⟩,h5⟩,h6⟩,h7⟩,h8⟩,h9⟩,h10⟩:=h
    exact .agg (.cons (Enc.sub z h0).2 (.cons (Enc.sub a h1).2 (.cons (Enc.sub b h2).2 (.cons (Enc.sub c h3).2 (.cons (Enc.sub d h4).2 (.cons (Enc.sub e h5).2 (.cons (Enc.sub f h6).2 (.cons (Enc.sub g h7).2 (.cons (Enc.sub h' h8).2 (.cons (Enc.sub i h9).2 (.cons (Enc.sub k h10).2 .nil)))))))))))
  | _=>cases h
end Go.Pl
namespace Go.Pl
open Go.RowKit
open Enc (enc dec is)
open EncL (encL decL isL)
set_option maxRecDepth 100000
noncomputable def F5:IC:=WB Proofs.Tryz.f57
def F3:List IRes:=[(.tmp 2)]
abbrev c7q:Nat:=4
def b6r:ZC:=YR []
theorem d5e{G:AV×List AObj×List AObj->Prop}(es:List (PV×PV))(h:G (((.fn 79 [] [(.ptr 1 0)]),([(.map es)],[(.box [(.map 0)])])))):Zc b6r 1 (Yi 1 F3 G) F5 [] (We 4 [.map 0] [.map es]):=Zc.to (.nil) h
end Go.Pl
namespace Go.Pl
open Go.RowKit
open Enc (enc dec is)
open EncL (encL decL isL)
open Go.Proofs.YtgdebdgkofkeeaaGreatDoor (encNd pre_ndI F_ndI tmOf_nd pre_nd)
theorem c1p: ∀ args os,U3 args os=true->Zc b6r os.length (Yi os.length F3 fun r=>r=Q5 79 args os) F5 [] (We c7q args os):=by
 intro args os h
 unfold U3 at h
 split at h
 ·exact d5e _ rfl
 ·cases h
end Go.Pl
namespace Go.Pl
open Go.RowKit
open Enc (enc dec is)
open EncL (encL decL isL)
set_option maxRecDepth 100000
abbrev d5l(ps:List PV)(k:Arr×Int->Prop):Prop:=V7 (fun(x:Str×List Int×List Int×Unit)=>decide (List.length (Prod.fst (Prod.snd x))<=2000000)&&decide (List.length (Prod.fst (Prod.snd (Prod.snd x)))<=2000000)) (fun(x:Str×List Int×List Int×Unit)=>EC (Prod.fst x) (Prod.fst (Prod.snd x)) (Prod.fst (Prod.snd (Prod.snd x)))) ps k
noncomputable def b2t:IC:=WB Proofs.Tryz.f173
def b8b:List IRes:=[(.tmp 4)]
abbrev c7p:Nat:=22
def c6w:ZC:=YR []
theorem d4c{G:PV->Prop}(e:List UInt8)(n:Int)(h:if (e==[(105:UInt8),(110:UInt8),(116:UInt8)])=true then if (decide (n ≥ (-2147483648:Int)))=true then G ((.bool (decide (n<=2147483647))))else(G ((.bool false)))else(if (e==[(98:UInt8),(111:UInt8),(111:UInt8),(108:UInt8)])=true then if (n==0)=true then G ((.bool true))else(G ((.bool (n==1))))else(G ((.bool false))))):Zc c6w 0 (Zb b8b G) b2t [] (Yc 22 [.str e,.int .i64 n]):=Zc.tp (dm [] 36 0x2220220034200c4202202220044200c42) h
noncomputable def Eb:IC:=WB Proofs.Tryz.f172
def EK:List IRes:=[(.tmp 3)]
abbrev c7l:Nat:=8
def b7d:ZC:=YR [(173,.pure (preT (fun _:Str×Int×Unit=>true)) (Zk (fun x:Str×Int×Unit=>Wm x.1 x.2.1)))]
theorem d4g{G:AV×List AObj×List AObj->Prop}(e:List UInt8)(n:Int)(h : ∃ y0:Bool,AV.pv (Zk (fun(x:Str×Int×Unit)=>Wm x.1 x.2.1) [(.str e),(.int .i64 n)])=AV.pv (enc y0)∧(G (((.pv (.bool !y0)),([(.box [(.pv (.str e))])],[]))))):Zc b7d 1 (Yi 1 EK G) Eb [] (We 8 [.pv (.int .i64 n),.ptr 0 0] [.box [.pv (.str e)]]):=Zc.to (.lit (.abs (Bool) (fun YY=>AV.pv (enc YY)) (.nil))) h
noncomputable def Jo:IC:=KY
def Jn:List IRes:=[(.tmp 4)]
abbrev b6s:Nat:=19
def Ah:ZC:=YR [(172,.own D5 Rs)]
theorem d4s{G:AV×List AObj×List AObj->Prop}(e:List UInt8)(l:List Int)(t:Bool)(h:At Ah 1 (Yi 1 Jn G) Jo 0 19 [(0,(.pv (.sl 1 t (List.map enc l)))),(1,(.fn 172 [] [(.ptr 0 0)])),(7,(.pv (.int .i64 (↑(List.length (List.map enc l)):Int)))),(8,(.pv (.int .i64 0)))] [(.obj (.box [(.pv (.str e))]))]):Zc Ah 1 (Yi 1 Jn G) Jo [] (We 19 [.pv (.sl 1 t (l.map enc)),.fn 172 [] [.ptr 0 0]] [.box [.pv (.str e)]]):=Zc.to (.nil) h
theorem b5v{G:AV×List AObj×List AObj->Prop}(e:List UInt8)(l:List Int)(t:Bool)(i:Int)(h:if (decide (i<(↑(List.length l):Int)))=true then(decide (0<=i)&&decide (Int.toNat i<List.length (List.map enc l))&&1==1)=true∧(∃ y0:Int,AV.pv (PV.rptr (PV.cells (List.getD (List.map enc l) (Int.toNat i) default)))=AV.pv (PV.rptr (PV.cells ((enc) y0)))∧(if (!Wm (Str.mk e) (PV.asInt (List.getD (PV.cells (enc y0)) 0 default)))=true then G (((.pv (.int .i64 i)),([(.box [(.pv (.str e))])],[])))else(At Ah 1 (Yi 1 Jn G) Jo 0 19 [(0,(.pv (.sl 1 t (List.map enc l)))),(1,(.fn 172 [] [(.ptr 0 0)])),(7,(.pv (.int .i64 (↑(List.length l):Int)))),(8,(.pv (.int .i64 (IntKind.wrap IntKind.i64 (i+1)))))] [(.obj (.box [(.pv (.str e))]))])))else(G (((.pv (.int .i64 (-1))),([(.box [(.pv (.str e))])],[]))))):At Ah 1 (Yi 1 Jn G) Jo 0 19 [(0,.pv (.sl 1 t (l.map enc))),(1,.fn 172 [] [.ptr 0 0]),(7,.pv (.int .i64 l.length)),(8,.pv (.int .i64 i))] [.obj (.box [.pv (.str e)])]:=At.to (dm [dr Int] 19 0x2000143225100c42) h
noncomputable def Ee:IC:=Ea
def O3:List IRes:=[(.tmp 4)]
abbrev c8m:Nat:=9
def b2q:ZC:=YR [(144,.own Wi Cg)]
theorem d2f{G:AV×List AObj×List AObj->Prop}(e:List UInt8)(l:List Int)(t:Bool)(h:(Wi [(.pv (.sl 1 t (List.map enc l))),(.fn 172 [] [(.ptr 0 0)])] [(.box [(.pv (.str e))])])=true∧(G (((.pv (.bool (decide (Ur (Str.mk e) (List.map dec (List.map enc l)) 0 ≥ 0)))),([(.box [(.pv (.str e))])],[]))))):Zc b2q 1 (Yi 1 O3 G) Ee [] (We 9 [.pv (.sl 1 t (l.map enc)),.fn 172 [] [.ptr 0 0]] [.box [.pv (.str e)]]):=Zc.to (.req (.keep (.lit (.nil)))) h
noncomputable def Dn:IC:=WB Proofs.Tryz.f143
def Dq:List IRes:=[(.tmp 4)]
abbrev NU:Nat:=9
def CP:ZC:=YR [(113,.own Wi Rm)]
theorem Oc{G:PV->Prop}(e:List UInt8)(l:List Int)(h:(Wi [(.pv (.sl 1 false (List.map enc l))),(.fn 172 [] [(.ptr 0 0)])] [(.box [(.pv (.str e))])])=true∧(G ((.bool (!decide (0<=Ur (Str.mk e) (List.map dec (List.map enc l)) 0)))))):Zc CP 0 (Zb Dq G) Dn [] (Yc 9 [.str e,enc l]):=Zc.tp (.req (.keep (.nil))) h
noncomputable def a2p:IC:=WB Proofs.Tryz.f112
def a3l:List IRes:=[(.cell true 3 6),(.tmp 7)]
abbrev c3o:Nat:=45
def b3p:ZC:=YR [(142,.pure (preT (fun _:List Int×Unit=>true)) (Zk (fun x:List Int×Unit=>WH x.1))),(143,.pure (preT (fun x:Str×List Int×Unit=>decide (x.2.1.length<=2000000))) (Zk (fun x:Str×List Int×Unit=>x.2.1.all (Wm x.1)))),(93,.pure (preT (fun x:List Int×Unit=>decide (x.1.length<=2000000))) (Zk (fun x:List Int×Unit=>x.1)))]
theorem c8o{G:PV->Prop}(e:List UInt8)(d x:List Int)(h:if (!e==[(105:UInt8),(110:UInt8),(116:UInt8)])=true then if (!e==[(98:UInt8),(111:UInt8),(111:UInt8),(108:UInt8)])=true then G ((.tup [(.agg [(.str []),(.sl 0 true []),(.sl 0 true [])]),(.int .i64 12)]))else((Go.Pl.preT (fun(x:List Int×Unit)=>true) [(.sl 1 false (List.map enc d))])=true∧(∃ y0:Int×Int,AV.pv (Zk (fun(x:List Int×Unit)=>WH x.1) [(.sl 1 false (List.map enc d))])=AV.pv (enc y0)∧(if (y0.2 != 0)=true then G ((.tup [(.agg [(.str []),(.sl 0 true []),(.sl 0 true [])]),(.int .i64 y0.2)]))else(if ((↑(List.length (List.map enc x)):Int) != y0.1)=true then G ((.tup [(.agg [(.str []),(.sl 0 true []),(.sl 0 true [])]),(.int .i64 1)]))else((Go.Pl.preT (fun(x:Str×List Int×Unit)=>decide (List.length x.2.1<=2000000)) [(.str e),(.sl 1 false (List.map enc x))])=true∧(∃ y1:Bool,AV.pv (Zk (fun(x:Str×List Int×Unit)=>List.all x.2.1 (Wm x.1)) [(.str e),(.sl 1 false (List.map enc x))])=AV.pv (enc y1)∧(if (!y1)=true then G ((.tup [(.agg [(.str []),(.sl 0 true []),(.sl 0 true [])]),(.int .i64 2)]))else((Go.Pl.preT (fun(x:List Int×Unit)=>decide (List.length x.1<=2000000)) [(.sl 1 false (List.map enc d))])=true∧(∃ y2:List Int,AV.pv (Zk (fun(x:List Int×Unit)=>x.1) [(.sl 1 false (List.map enc d))])=AV.pv (enc y2)∧((Go.Pl.preT (fun(x:List Int×Unit)=>decide (List.length x.1<=2000000)) [(.sl 1 false (List.map enc x))])=true∧(∃ y3:List Int,AV.pv (Zk (fun(x:List Int×Unit)=>x.1) [(.sl 1 false (List.map enc x))])=AV.pv (enc y3)∧(G ((.tup [(.agg [(.str e),(.sl 1 false (List.map enc y2)),(.sl 1 false (List.map enc y3))]),(.int .i64 0)]))))))))))))))else((Go.Pl.preT (fun(x:List Int×Unit)=>true) [(.sl 1 false (List.map enc d))])=true∧(∃ y4:Int×Int,AV.pv (Zk (fun(x:List Int×Unit)=>WH x.1) [(.sl 1 false (List.map enc d))])=AV.pv (enc y4)∧(if (y4.2 != 0)=true then G ((.tup [(.agg [(.str []),(.sl 0 true []),(.sl 0 true [])]),(.int .i64 y4.2)]))else(if ((↑(List.length (List.map enc x)):Int) != y4.1)=true then G ((.tup [(.agg [(.str []),(.sl 0 true []),(.sl 0 true [])]),(.int .i64 1)]))else((Go.Pl.preT (fun(x:Str×List Int×Unit)=>decide (List.length x.2.1<=2000000)) [(.str e),(.sl 1 false (List.map enc x))])=true∧(∃ y5:Bool,AV.pv (Zk (fun(x:Str×List Int×Unit)=>List.all x.2.1 (Wm x.1)) [(.str e),(.sl 1 false (List.map enc x))])=AV.pv (enc y5)∧(if (!y5)=true then G ((.tup [(.agg [(.str []),(.sl 0 true []),(.sl 0 true [])]),(.int .i64 2)]))else((Go.Pl.preT (fun(x:List Int×Unit)=>decide (List.length x.1<=2000000)) [(.sl 1 false (List.map enc d))])=true∧(∃ y6:List Int,AV.pv (Zk (fun(x:List Int×Unit)=>x.1) [(.sl 1 false (List.map enc d))])=AV.pv (enc y6)∧((Go.Pl.preT (fun(x:List Int×Unit)=>decide (List.length x.1<=2000000)) [(.sl 1 false (List.map enc x))])=true∧(∃ y7:List Int,AV.pv (Zk (fun(x:List Int×Unit)=>x.1) [(.sl 1 false (List.map enc x))])=AV.pv (enc y7)∧(G ((.tup [(.agg [(.str e),(.sl 1 false (List.map enc y6)),(.sl 1 false (List.map enc y7))]),(.int .i64 0)]))))))))))))))):Zc b3p 0 (Zb a3l G) a2p [] (Yc 45 [.str e,enc d,enc x]):=Zc.tp (dm [dv (Int×Int),dv Bool,dv (List Int)] 69 0x7171000146100014200014251222071710001461000142000142510001422202242) h
noncomputable def b5a:IC:=WB Proofs.Tryz.f85
def b2k:List IRes:=[(.tmp 2)]
abbrev d1n:Nat:=17
def c6z:ZC:=YR [(112,.pure (preT (fun x:Str×List Int×List Int×Unit=>decide (x.2.1.length<=2000000)&&decide (x.2.2.1.length<=2000000))) (Zk (fun x:Str×List Int×List Int×Unit=>EC x.1 x.2.1 x.2.2.1)))]
theorem d2q{G:PV->Prop}(a:Arr)(h:(d5l [(.str (Str.s (Arr.e a))),(.sl 1 false (List.map enc (Arr.d a))),(.sl 1 false (List.map enc (Arr.x a)))] fun y0=>(G ((.bool (y0.2==0)))))):Zc c6z 0 (Zb b2k G) b5a [] (Yc 17 [enc a]):=Zc.tp (.req (.abs (Arr×Int) (fun YY=>AV.pv (enc YY)) (.lit (.nil)))) h
end Go.Pl
namespace Go.Pl
open Go.RowKit
open Enc (enc dec is)
open EncL (encL decL isL)
theorem c4r: ∀ a:Str×Int×Unit,true=true->Zc c6w 0 (Zb b8b (Zq (Wm a.1 a.2.1))) b2t [] (Yc c7p (encL a)):=by
 rintro⟨⟨e⟩,n,⟨⟩⟩ _
 refine d4c e n ?_
 simp only[beq_iff_eq,decide_eq_true_eq,Zq,b8r,a8z,true_and,Wm,Sa,QA,ge_iff_le]
 split
 ·split <;> simp[*]
 ·split
  ·split <;> simp[*]
  ·simp[*]
theorem c1v: ∀ args os,D5 args os=true->Zc b7d os.length (Yi os.length EK fun r=>r=Rs args os) Eb [] (We c7l args os):=by
 intro args os hp
 unfold D5 at hp
 split at hp
 ·rename_i n e
  refine d4g e n ?_
  exact Zd (⟨e⟩,n,()) rfl rfl
 ·cases hp
theorem Bd(e:Str): ∀ (l:List Int) (k:Nat),decide (0<=Ur e l k) = !l.all (Wm e)
 | [],k=>by simp[Ur]
 | n::l,k=>by
  simp only[Ur,List.all_cons]
  by_cases h:Wm e n=true
  ·simp only[h,if_true,Bool.true_and];exact Bd e l (k+1)
  ·simp only[Bool.not_eq_true]at h;simp[h]
theorem a8q(e:List UInt8)(l:List Int)(t:Bool)(hl:l.length<=2000000)(r:AV×List AObj×List AObj): ∀ (m k:Nat),m+k=l.length->r=(.pv (.int .i64 (Ur ⟨e⟩ (l.drop k) k)),[.box [.pv (.str e)]],[]) ->
  At Ah 1 (Yi 1 Jn fun x=>x=r) Jo 0 b6s [(0,.pv (.sl 1 t (l.map enc))),(1,.fn 172 [] [.ptr 0 0]),(7,.pv (.int .i64 l.length)),(8,.pv (.int .i64 k))] [.obj (.box [.pv (.str e)])]:=by
 intro m
 induction m with
 | zero=>
  intro k hk hr
  refine b5v e l t k ?_
  rw[if_neg (by simp;omega),hr,List.drop_of_length_le (by omega)]
  rfl
 | succ m ih=>
  intro k hk hr
  have hlt:k<l.length:=by omega
  refine b5v e l t k ?_
  rw[if_pos (by simp;omega)]
  refine⟨by simp;omega,l[k],by rw[Hl _ hlt],?_⟩
  rw[List.drop_eq_getElem_cons hlt,Ur]at hr
  show if (!Wm ⟨e⟩ l[k])=true then _ else _
  cases h:Wm ⟨e⟩ l[k]with
  | true=>
   rw[if_neg (by simp),next (by omega)]
   rw[h,if_pos rfl]at hr
   exact ih (k+1) (by omega) hr
  | false=>
   rw[if_pos (by decide)]
   rw[h,if_neg (by simp)]at hr
   exact hr.symm
theorem c0z: ∀ args os,Wi args os=true->Zc Ah os.length (Yi os.length Jn fun r=>r=Cg args os) Jo [] (We b6s args os):=by
 intro args os hp
 unfold Wi at hp
 split at hp
 ·rename_i t xs e
  simp only[Bool.and_eq_true,decide_eq_true_eq]at hp
  rw[a3i hp.1]
  have hl:(xs.map (dec:PV->Int)).length<=2000000:=by simpa using hp.2
  generalize xs.map (dec:PV->Int)=l at hl ⊢
  refine d4s e l t ?_
  rw[List.length_map]
  refine a8q e l t hl _ l.length 0 (by omega) ?_
  simp[Cg]
 ·cases hp
theorem c3y: ∀ args os,Wi args os=true->Zc b2q os.length (Yi os.length O3 fun r=>r=Rm args os) Ee [] (We c8m args os):=by
 intro args os hp
 have hp':=hp
 unfold Wi at hp
 split at hp
 ·rename_i t xs e
  simp only[Bool.and_eq_true,decide_eq_true_eq]at hp
  rw[a3i hp.1]at hp' ⊢
  exact d2f e _ t ⟨hp',rfl⟩
 ·cases hp
theorem Rl: ∀ a:Str×List Int×Unit,decide (a.2.1.length<=2000000)=true->Zc CP 0 (Zb Dq (Zq (a.2.1.all (Wm a.1)))) Dn [] (Yc NU (encL a)):=by
 rintro⟨⟨e⟩,l,⟨⟩⟩ hp
 refine Oc e l ⟨?_,rfl,?_⟩
 ·simpa [Wi]using hp
 ·simp[Bd]
theorem b3q: ∀ a:Str×List Int×List Int×Unit,(decide (a.2.1.length<=2000000)&&decide (a.2.2.1.length<=2000000))=true->Zc b3p 0 (Zb a3l (Zq (EC a.1 a.2.1 a.2.2.1))) a2p [] (Yc c3o (encL a)):=by
 rintro⟨⟨e⟩,d,x,⟨⟩⟩ hp
 simp only[Bool.and_eq_true,decide_eq_true_eq]at hp
 refine c8o e d x ?_
 have hp1:=hp.1
 have hp2:=hp.2
 simp only[preT,Zk,b0s,c4h,a5g,b0m,d4d,F7,d0u,c4e,d0m,LZ,List.isEmpty_iff,Bool.and_true,beq_self_eq_true,Bool.or_true,Bool.true_and,decide_eq_true_eq,AV.pv.injEq,c8k,exists_eq_left',hp1,hp2,true_and,Enc.sz,List.length_map,Zq,d0d,c7i,c9r,c0y,c2u,c2h,List.all_nil,List.isEmpty_nil,Bool.true_or,List.map_nil,Bool.not_eq_true',beq_eq_false_iff_ne,bne_iff_ne,EC,Sa,QA]
 by_cases h1:e=[105,110,116]
 ·simp only[h1,ne_eq,not_true,if_false,false_and]
  split
  ·rfl
  ·split
   ·rfl
   ·split
    ·simp_all
    ·simp_all
 ·simp only[h1,ne_eq,not_false_eq_true,if_true,true_and]
  split
  ·rfl
  ·split
   ·rfl
   ·split
    ·rfl
    ·split
     ·simp_all
     ·simp_all
theorem c1d: ∀ a:Arr×Unit,a7h a.1=true->Zc c6z 0 (Zb b2k (Zq (Pq a.1))) b5a [] (Yc d1n (encL a)):=by
 rintro⟨a,⟨⟩⟩ hp
 refine d2q a ⟨Ze (a.e,a.d,a.x,()) rfl hp,Zd (a.e,a.d,a.x,()) rfl ?_⟩
 exact⟨rfl,rfl⟩
end Go.Pl
namespace Go.Pl
open Go.RowKit
set_option maxRecDepth 100000
def Ws:IC:=(Vw [ZJ 4 (.mv (Qs 0)) 0] (.seq (Vw [ZJ 6 (WE 0) 0,ZJ 7 (.len 1 (.t 6)) 0,ZJ 8 (.mv (Qs 0)) 0] (.block 0 (.loop [8,7,1,0] (Vw [ZJ 9 (DY .lss (.t 8) (.t 7)) 0] (.seq (.cond (.t 9) .skip (.exit 0)) (.seq (.block 1 (Vw [ZJ 10 (WE 8) 0,ZJ 5 (WE 10) 0] (Vw [ZJ 11 (WE 1) 0,ZJ 12 (WE 0) 0,ZJ 13 (WE 5) 0,ZJ 14 (.iaddr 1 (.t 12) (.t 13)) 0,ZJ 15 (Si [(.int .i64)] (.t 14)) 0,ZJ 16 (DY .eql (.t 11) (.t 15)) 0] (.cond (.t 16) (Vw [ZJ 17 (WE 5) 0,ZJ 4 (WE 17) 0] .ret) .skip)))) (.reg [ZJ 18 (DY .add (.t 8) (Qs 1)) 0,ZJ 8 (WE 18) 0] none))))))) (Vw [ZJ 4 (.mv (.c (.int .i64 (-1)))) 0] .ret)))
def Wj:List IRes:=[(.tmp 4)]
def Vs:ZC:=YR []
theorem a7c{r:PV}(ns:List Int)(t:Bool)(v:Int)(hn:At Vs 0 (fun st=>fin st Wj=some r) Ws 0 19 [(0,(.pv (.sl 1 t (Zt ns)))),(1,(.pv (.int .i64 v))),(7,(.pv (.int .i64 (↑(Zt ns).length:Int)))),(8,(.pv (.int .i64 0)))] []):Zc Vs 0 (fun st=>fin st Wj=some r) Ws [] (Yc 19 [.sl 1 t (Zt ns),.int .i64 v]):=Zc.w (.nil) hn (by kernel_rfl)
theorem F8{r:PV}(ns:List Int)(t:Bool)(v:Int)(i:Int)(h0:(decide (i<(↑(Zt ns).length:Int)))=true)(h1:(decide (0<=i)&&decide (i.toNat<(Zt ns).length)&&1==1)=true)(h2:(decide (0+[Sh.int .i64].length<=((Zt ns).getD i.toNat default).cells.length)&&Yv ((Zt ns).getD i.toNat default).cells 0 [Sh.int .i64])=true)(h3:(v==(((Zt ns).getD i.toNat default).cells.getD 0 default).asInt)=true)(hr:(.int .i64 i)=r):At Vs 0 (fun st=>fin st Wj=some r) Ws 0 19 [(0,.pv (.sl 1 t (Zt ns))),(1,.pv (.int .i64 v)),(7,.pv (.int .i64 (Zt ns).length)),(8,.pv (.int .i64 i))] []:=At.w (.lit (.ans true (.req (.req (.lit (.ans true (.nil))))))) (And.intro h0 (And.intro h1 (And.intro h2 (And.intro h3 hr)))) (by kernel_rfl)
theorem EF{r:PV}(ns:List Int)(t:Bool)(v:Int)(i:Int)(h0:(decide (i<(↑(Zt ns).length:Int)))=true)(h1:(decide (0<=i)&&decide (i.toNat<(Zt ns).length)&&1==1)=true)(h2:(decide (0+[Sh.int .i64].length<=((Zt ns).getD i.toNat default).cells.length)&&Yv ((Zt ns).getD i.toNat default).cells 0 [Sh.int .i64])=true)(h3:(v==(((Zt ns).getD i.toNat default).cells.getD 0 default).asInt)=false)(hn:At Vs 0 (fun st=>fin st Wj=some r) Ws 0 19 [(0,(.pv (.sl 1 t (Zt ns)))),(1,(.pv (.int .i64 v))),(7,(.pv (.int .i64 (↑(Zt ns).length:Int)))),(8,(.pv (.int .i64 (IntKind.i64.wrap (i+1)))))] []):At Vs 0 (fun st=>fin st Wj=some r) Ws 0 19 [(0,.pv (.sl 1 t (Zt ns))),(1,.pv (.int .i64 v)),(7,.pv (.int .i64 (Zt ns).length)),(8,.pv (.int .i64 i))] []:=At.w (.lit (.ans true (.req (.req (.lit (.ans false (.lit (.nil)))))))) (And.intro h0 (And.intro h1 (And.intro h2 (And.intro h3 hn)))) (by kernel_rfl)
theorem OJ{r:PV}(ns:List Int)(t:Bool)(v:Int)(i:Int)(h0:(decide (i<(↑(Zt ns).length:Int)))=false)(hr:(.int .i64 (-1))=r):At Vs 0 (fun st=>fin st Wj=some r) Ws 0 19 [(0,.pv (.sl 1 t (Zt ns))),(1,.pv (.int .i64 v)),(7,.pv (.int .i64 (Zt ns).length)),(8,.pv (.int .i64 i))] []:=At.w (.lit (.ans false (.nil))) (And.intro h0 hr) (by kernel_rfl)
end Go.Pl
namespace Go.Pl
open Go.RowKit
def O5(v:Int):List Int->Nat->Int
 | [],_=> -1
 | n::r,i=>bif v==n then i else O5 v r (i+1)
theorem b0x{v:Int}: ∀ {l:List Int} {i:Nat},decide (0<=O5 v l i)=l.any (· == v):=by
 intro l
 induction l with
 | nil=>intro i;rfl
 | cons n r ih=>
  intro i
  simp only[O5,List.any_cons]
  by_cases h:v=n
  ·subst h;simp
  ·have h1:(v==n)=false:=by simpa using h
   have h2:(n==v)=false:=by simp;omega
   simp only[h1,h2,cond_false,Bool.false_or]
   exact ih
def Kj:List PV->PV
 | [.sl _ _ xs,.int _ v]=>.int .i64 (O5 v (xs.map PV.asInt) 0)
 | _=>.nilp
theorem Eh(ns:List Int)(t:Bool)(v:Int)(hl:ns.length<=1099511627776){r:PV}: ∀ (m k:Nat),m+k=ns.length->r = .int .i64 (O5 v (ns.drop k) k) ->
  At Vs 0 (fun st=>fin st Wj=some r) Ws 0 19 [(0,.pv (.sl 1 t (Zt ns))),(1,.pv (.int .i64 v)),(7,.pv (.int .i64 (Zt ns).length)),(8,.pv (.int .i64 k))] []:=by
 intro m
 induction m with
 | zero=>
  intro k hk hr
  rw[List.drop_of_length_le (by omega)]at hr
  exact OJ ns t v k (by simp;omega) hr.symm
 | succ m ih=>
  intro k hk hr
  have hlt:k<ns.length:=by omega
  have e:=Aw hlt
  rw[List.drop_eq_getElem_cons hlt,O5]at hr
  cases hb:v==ns[k]with
  | true=>
   rw[hb,cond_true]at hr
   exact F8 ns t v k (by simp;omega) (by simp;omega) (by rw[e];rfl) (by rw[e];exact hb) hr.symm
  | false=>
   rw[hb,cond_false]at hr
   refine EF ns t v k (by simp;omega) (by simp;omega) (by rw[e];rfl) (by rw[e];exact hb) ?_
   rw[next (by omega)]
   exact ih (k+1) (by omega) hr
theorem a4l: ∀ ps,Z8 ps=true->Zc Vs 0 (fun st=>fin st Wj=some (Kj ps)) Ws [] (Yc 19 ps):=by
 intro ps hp
 unfold Z8 at hp
 split at hp
 ·rename_i t xs v
  simp only[Bool.and_eq_true,decide_eq_true_eq]at hp
  obtain⟨ns,rfl⟩:=RA hp.1
  refine a7c ns t v ?_
  exact Eh ns t v (by have:=hp.2;rwa [Dm]at this) ns.length 0 (by omega) (by simp[Kj])
 ·cases hp
def PV.ns(p:PV):List Int:=p.asXs.map PV.asInt
def Qy:IC:=(Vw [ZJ 4 (f'' false) 0] (Vw [ZJ 5 (WE 0) 0,ZJ 6 (WE 1) 0,ZJ 7 (c'' 193 [(.t 5),(.t 6)]) 0,ZJ 8 (DY .geq (.t 7) (Qs 0)) 2,ZJ 4 (WE 8) 2] .ret))
def QP:List IRes:=[(.tmp 4)]
abbrev NV:Nat:=9
def Ja:ZC:=YR [(193,.pure Z8 Kj)]
theorem Ru{r:PV}(ns:List Int)(t:Bool)(v:Int)(h0:(Z8 [(.sl 1 t (Zt ns)),(.int .i64 v)])=true)(hr:(.bool (decide (O5 v (List.map PV.asInt (Zt ns)) 0 ≥ 0)))=r):Zc Ja 0 (fun st=>fin st QP=some r) Qy [] (Yc 9 [.sl 1 t (Zt ns),.int .i64 v]):=Zc.w (.req (.lit (.nil))) (And.intro h0 hr) (by kernel_rfl)
theorem Rn: ∀ ps,Z8 ps=true->Zc Ja 0 (fun st=>fin st QP=some (Vp ps)) Qy [] (Yc NV ps):=by
 intro ps hp
 have hp':=hp
 unfold Z8 at hp
 split at hp
 ·rename_i t xs v
  simp only[Bool.and_eq_true,decide_eq_true_eq]at hp
  obtain⟨ns,rfl⟩:=RA hp.1
  refine Ru ns t v hp' ?_
  have:=b0x (v:=v) (l:=ns) (i:=0)
  simp only[WN,Vp,Bh,ge_iff_le]
  rw[<- this]
 ·cases hp
end Go.Pl
namespace Go.Pl
open Go.RowKit
open Enc (enc dec is)
open EncL (encL decL isL)
set_option maxRecDepth 100000
end Go.Pl
namespace Go.Pl
open Go.RowKit
open Enc (enc dec is)
open EncL (encL decL isL)
theorem b5g{s:List UInt8}{i:Nat}(h:i<s.length):List.getD (Zv s) (Int.toNat (i:Int)) default = .int .u8 (s[i].toNat:Int):=by
 simp[Zv,List.getD,h]
theorem Gn(s:List UInt8):(Zv s).length=s.length:=by simp[Zv]
def NJ(c:UInt8):Bool:=lowB c||digB c
theorem a3s{c:UInt8}:lowB c=true ↔ 97<=c.toNat∧c.toNat<=122:=by
 simp only[lowB,Bool.and_eq_true,decide_eq_true_eq,UInt8.le_iff_toNat_le]
 have e1:(97:UInt8).toNat=97:=rfl
 have e2:(122:UInt8).toNat=122:=rfl
 rw[e1,e2]
theorem Td{c:UInt8}(h : ¬ (97<=c.toNat∧c.toNat<=122)):lowB c=false:=by
 cases e:lowB c
 ·rfl
 ·exact absurd (a3s.1 e) h
theorem Tn{c:UInt8}(h : ¬ (48<=c.toNat∧c.toNat<=57)):digB c=false:=by
 cases e:digB c
 ·rfl
 ·exact absurd (Wy.1 e) h
def WF(s:List UInt8)(i:Nat):Bool:=(match i with|0=>(match s with|[]=>true|c::r=>lowB c&&r.all NJ)|i+1=>(s.drop (i+1)).all NJ)&&(!(s==[]))&&decide (s.length<=30)
theorem a5t{s:List UInt8}{i:Nat}(h:i<s.length)(hb:lowB s[i]=true∨(i≠0∧digB s[i]=true)):WF s i=WF s (i+1):=by
 cases i with
 | zero=>
  cases s with
  | nil=>simp at h
  | cons c r=>
   rcases hb with hb|hb
   ·have hb:lowB c=true:=hb
    simp[WF,hb]
   ·exact absurd rfl hb.1
 | succ i=>
  unfold WF
  simp only
  rw[List.drop_eq_getElem_cons h,List.all_cons]
  have:NJ s[i+1]=true:=by
   rcases hb with hb|hb
   ·simp[NJ,hb]
   ·simp[NJ,hb.2]
  rw[this,Bool.true_and]
theorem a4e{s:List UInt8}{i:Nat}(h:i<s.length)(hb:lowB s[i]=false∧(i=0∨digB s[i]=false)):WF s i=false:=by
 cases i with
 | zero=>
  cases s with
  | nil=>simp at h
  | cons c r=>
   have hb:lowB c=false:=hb.1
   simp[WF,hb]
 | succ i=>
  unfold WF
  simp only
  rw[List.drop_eq_getElem_cons h,List.all_cons]
  have:NJ s[i+1]=false:=by
   rcases hb.2 with h0|h0
   ·cases h0
   ·simp[NJ,hb.1,h0]
  rw[this];simp
theorem a5j{s:List UInt8}(h:[95].isPrefixOf s=false):YD ⟨s⟩=WF s 0:=by
 cases s with
 | nil=>rfl
 | cons c r=>
  have hc : ¬ c=95:=by intro e;subst e;simp at h
  have e:decide ((c::r).length<=30)=decide (r.length<=29):=decide_eq_decide.2 (by simp)
  unfold WF
  rw[e]
  simp only[YD,if_neg hc]
  show _=(lowB c&&r.all NJ&& !((c::r)==[])&&_)
  have e2:((c::r)==[])=false:=rfl
  rw[e2]
  simp only[Bool.not_false,Bool.and_true]
  rfl
theorem OO(s:Str): -9223372036854775808<=(YZ s).1∧((YZ s).1<=9223372036854775807):=by
 unfold YZ
 split
 ·rename_i v hv;exact Lib.atoiAll_bounds hv
 ·have:=Lib.atoiSat_bounds s.s
  exact⟨by show _<=Lib.atoiSat s.s;omega,by show Lib.atoiSat s.s<=_;omega⟩
 ·exact⟨by show(-9223372036854775808:Int)<=0;omega,by show(0:Int)<=_;omega⟩
end Go.Pl
namespace Go.Pl
open Go.RowKit
open Enc (enc dec is)
open EncL (encL decL isL)
set_option maxRecDepth 100000
abbrev c5n(ps:List PV)(k:Int->Prop):Prop:=ceP (fun(x:Int×Int×Unit)=>Jf (Prod.fst x) (Prod.fst (Prod.snd x))) ps k
abbrev d4k(ps:List PV)(k:Int->Prop):Prop:=ceP (fun(x:Coef×Coef×Unit)=>HV (Prod.fst x) (Prod.fst (Prod.snd x))) ps k
abbrev d2w(ps:List PV)(k:Int->Prop):Prop:=V7 (fun(x:List Coef×List Coef×FnV 121×Unit)=>decide (List.length (Prod.fst x)<=9223372036854775807)&&decide (List.length (Prod.fst (Prod.snd x))<=9223372036854775807)) (fun(x:List Coef×List Coef×FnV 121×Unit)=>XP (Prod.fst x) (Prod.fst (Prod.snd x))) ps k
abbrev d5s(ps:List PV)(k:Int->Prop):Prop:=V7 (fun(x:Lin×Lin×Unit)=>Ye (Prod.fst x)&&Ye (Prod.fst (Prod.snd x))) (fun(x:Lin×Lin×Unit)=>VW (Prod.fst x) (Prod.fst (Prod.snd x))) ps k
noncomputable def Ra:IC:=WB Proofs.Tryz.f123
def GJ:List IRes:=[(.tmp 4)]
abbrev a6d:Nat:=13
def Cy:ZC:=YR []
theorem b4f{G:PV->Prop}(a b:Int)(h:if (decide (a<b))=true then G ((.int .i64 (-1)))else(if (decide (a>b))=true then G ((.int .i64 1))else(G ((.int .i64 0))))):Zc Cy 0 (Zb GJ G) Ra [] (Yc 13 [enc a,enc b]):=Zc.tp (dm [] 14 0x142000142) h
noncomputable def NF:IC:=WB Proofs.Tryz.f121
def CZ:List IRes:=[(.tmp 4)]
abbrev b0p:Nat:=19
def Po:ZC:=YR [(122,.pure (preT (fun _:Str×Str×Unit=>true)) (Zk (fun x:Str×Str×Unit=>Lib.compareBytes x.1.s x.2.1.s))),(123,.pure (preT (fun _:Int×Int×Unit=>true)) (Zk (fun x:Int×Int×Unit=>Jf x.1 x.2.1)))]
theorem c2t{G:PV->Prop}(x y:Coef)(h : ∃ y0:Int,AV.pv (Zk (fun(x:Str×Str×Unit)=>Lib.compareBytes (Str.s x.1) (Str.s x.2.1)) [(.str (Str.s x.v)),(.str (Str.s y.v))])=AV.pv (enc y0)∧(if (y0 != 0)=true then G ((.int .i64 y0))else(c5n [(.int .i64 x.c),(.int .i64 y.c)] fun y1=>(G ((.int .i64 y1)))))):Zc Po 0 (Zb CZ G) NF [] (Yc 19 [enc x,enc y]):=Zc.tp (dm [dv Int] 12 0x5200014252) h
noncomputable def UO:IC:=WB Proofs.Tryz.f120
def UU:List IRes:=[(.tmp 6)]
abbrev b1s:Nat:=39
def Q4:ZC:=YR [(121,.pure (preT (fun _:Coef×Coef×Unit=>true)) (Zk (fun x:Coef×Coef×Unit=>HV x.1 x.2.1)))]
theorem c1f{G:PV->Prop}(a b:List Coef)(h:At Q4 0 (Zb UU G) UO 0 39 [(0,(.pv (.sl 2 false (List.map enc a)))),(1,(.pv (.sl 2 false (List.map enc b)))),(2,(.pv (.fn 121))),(11,(.pv (.sl 2 false (List.map enc a)))),(12,(.pv (.int .i64 (↑(List.length (List.map enc a)):Int)))),(13,(.pv (.int .i64 0)))] []):Zc Q4 0 (Zb UU G) UO [] (Yc 39 [enc a,enc b,.fn 121]):=Zc.tp (.nil) h
theorem NA{G:PV->Prop}(a b:List Coef)(i:Int)(h:if (decide (i<(↑(List.length a):Int)))=true then(Qx a i 2 fun y0=>(if (decide (i ≥ (↑(List.length (List.map enc b)):Int)))=true then G ((.int .i64 1))else((Qx b i 2 fun y1=>(d4k [(.agg [(.str (PV.asStr (List.getD (PV.cells (enc y0)) 0 default))),(.int .i64 (PV.asInt (List.getD (PV.cells (enc y0)) (0+1) default)))]),(.agg [(.str (PV.asStr (List.getD (PV.cells (enc y1)) 0 default))),(.int .i64 (PV.asInt (List.getD (PV.cells (enc y1)) (0+1) default)))])] fun y2=>(if (y2 != 0)=true then G ((.int .i64 y2))else(At Q4 0 (Zb UU G) UO 0 39 [(0,(.pv (.sl 2 false (List.map enc a)))),(1,(.pv (.sl 2 false (List.map enc b)))),(2,(.pv (.fn 121))),(11,(.pv (.sl 2 false (List.map enc a)))),(12,(.pv (.int .i64 (↑(List.length a):Int)))),(13,(.pv (.int .i64 (IntKind.wrap IntKind.i64 (i+1)))))] [])))))))else(if (decide ((↑(List.length (List.map enc a)):Int)<(↑(List.length (List.map enc b)):Int)))=true then G ((.int .i64 (-1)))else(G ((.int .i64 0))))):At Q4 0 (Zb UU G) UO 0 39 [(0,.pv (enc a)),(1,.pv (enc b)),(2,.pv (.fn 121)),(11,.pv (enc a)),(12,.pv (.int .i64 a.length)),(13,.pv (.int .i64 i))] []:=At.tp (dm [dr Coef,dv Int] 35 0x142020001426225100014225101642) h
noncomputable def a3k:IC:=WB Proofs.Tryz.f89
def PS:List IRes:=[(.tmp 4)]
abbrev c2f:Nat:=19
def O7:ZC:=YR [(120,.pure (preT (fun x:List Coef×List Coef×FnV 121×Unit=>decide (x.1.length<=9223372036854775807)&&decide (x.2.1.length<=9223372036854775807))) (Zk (fun x:List Coef×List Coef×FnV 121×Unit=>XP x.1 x.2.1))),(123,.pure (preT (fun _:Int×Int×Unit=>true)) (Zk (fun x:Int×Int×Unit=>Jf x.1 x.2.1)))]
theorem c9x{G:PV->Prop}(a b:Lin)(h:(d2w [(.sl 2 false (List.map enc a.t)),(.sl 2 false (List.map enc b.t)),(.fn 121)] fun y0=>(if (y0 != 0)=true then G ((.int .i64 y0))else(c5n [(.int .i64 a.k),(.int .i64 b.k)] fun y1=>(G ((.int .i64 y1))))))):Zc O7 0 (Zb PS G) a3k [] (Yc 19 [enc a,enc b]):=Zc.tp (dm [dv Int] 12 0x5200014251) h
noncomputable def b4g:IC:=WB Proofs.Tryz.f63
def b1n:List IRes:=[(.tmp 4)]
abbrev c7a:Nat:=9
def c5x:ZC:=YR [(89,.pure (preT (fun x:Lin×Lin×Unit=>Ye x.1&&Ye x.2.1)) (Zk (fun x:Lin×Lin×Unit=>VW x.1 x.2.1)))]
theorem d5y{G:PV->Prop}(a b:Lin)(h:(d5s [(.agg [(.int .i64 a.k),(.sl 2 false (List.map enc a.t))]),(.agg [(.int .i64 b.k),(.sl 2 false (List.map enc b.t))])] fun y0=>(G ((.bool (y0==0)))))):Zc c5x 0 (Zb b1n G) b4g [] (Yc 9 [enc a,enc b]):=Zc.tp (.req (.abs (Int) (fun YY=>AV.pv (enc YY)) (.lit (.nil)))) h
end Go.Pl
namespace Go.Pl
open Go.RowKit
open Enc (enc dec is)
open EncL (encL decL isL)
theorem O1: ∀ a:Int×Int×Unit,true=true->Zc Cy 0 (Zb GJ (Zq (Jf a.1 a.2.1))) Ra [] (Yc a6d (encL a)):=by
 rintro⟨a,b,⟨⟩⟩ -
 show Zc Cy 0 (Zb GJ (Zq (Jf a b))) _ _ _
 refine b4f a b (X0 (fun h=> ?_) fun h=>X0 (fun k=> ?_) fun k=> ?_)
 ·exact UW (by simp[Jf,h])
 ·exact UW (by simp[Jf,h,k])
 ·exact UW (by simp[Jf,h,k])
theorem a6c: ∀ a:Coef×Coef×Unit,true=true->Zc Po 0 (Zb CZ (Zq (HV a.1 a.2.1))) NF [] (Yc b0p (encL a)):=by
 rintro⟨x,y,⟨⟩⟩ -
 show Zc Po 0 (Zb CZ (Zq (HV x y))) _ _ _
 unfold HV
 refine c2t x y (Zd (x.v,y.v,()) rfl (Af (fun h=> ?_) fun h=>Zd (x.c,y.c,()) rfl ?_))
 ·have h:Lib.compareBytes x.v.s y.v.s≠0:=by simpa using h
  rw[if_pos h]
  exact UW rfl
 ·have h : ¬ Lib.compareBytes x.v.s y.v.s≠0:=by simpa using h
  rw[if_neg h]
  exact UW rfl
theorem NW(t:Coef):(PV.agg [.str (PV.asStr (List.getD (PV.cells (enc t)) 0 default)),.int .i64 (PV.asInt (List.getD (PV.cells (enc t)) (0+1) default))])=enc t:=rfl
theorem OA(a b:List Coef)(ha:a.length<=9223372036854775807): ∀ (m i:Nat),m+i=a.length->i<=b.length ->
  At Q4 0 (Zb UU (Zq (XP (a.drop i) (b.drop i)))) UO 0 39 [(0,.pv (enc a)),(1,.pv (enc b)),(2,.pv (.fn 121)),(11,.pv (enc a)),(12,.pv (.int .i64 a.length)),(13,.pv (.int .i64 i))] []:=by
 intro m
 induction m with
 | zero=>
  intro i hi hb
  have ea:a.drop i=[]:=List.drop_of_length_le (by omega)
  rw[ea]
  refine NA a b i (XC (Uu (by omega)) (X0 (fun h=> ?_) fun h=> ?_))
  ·have h:a.length<b.length:=by simpa using h
   have:b.drop i=b[i]::b.drop (i+1):=List.drop_eq_getElem_cons (by omega)
   rw[this]
   exact UW (by rw[XP])
  ·have h : ¬ a.length<b.length:=by simpa using h
   have:b.drop i=[]:=List.drop_of_length_le (by omega)
   rw[this]
   exact UW (by rw[XP])
 | succ m ih=>
  intro i hi hb
  have hlt:i<a.length:=by omega
  have ea:a.drop i=a[i]::a.drop (i+1):=List.drop_eq_getElem_cons hlt
  rw[ea]
  refine NA a b i (Xi (Uw hlt) ⟨ZM hlt rfl,Yb hlt (X0 (fun h=> ?_) fun h=> ?_)⟩)
  ·have h:b.length<=i:=by
    have:(i:Int) ≥ ((List.map (enc:Coef->PV) b).length:Int):=h
    rw[List.length_map]at this
    omega
   have:b.drop i=[]:=List.drop_of_length_le h
   rw[this]
   exact UW (by rw[XP])
  ·have h:i<b.length:=by
    have : ¬ (i:Int) ≥ ((List.map (enc:Coef->PV) b).length:Int):=h
    rw[List.length_map]at this
    omega
   have eb:b.drop i=b[i]::b.drop (i+1):=List.drop_eq_getElem_cons h
   rw[eb]
   refine⟨ZM h rfl,Yb h ?_⟩
   rw[NW,NW]
   refine Zd (a[i],b[i],()) rfl (Af (fun hc=> ?_) fun hc=> ?_)
   ·have hc:HV a[i] b[i]≠0:=by simpa using hc
    exact UW (by rw[XP,if_pos hc])
   ·have hc : ¬ HV a[i] b[i]≠0:=by simpa using hc
    have e:XP (a[i]::a.drop (i+1)) (b[i]::b.drop (i+1))=XP (a.drop (i+1)) (b.drop (i+1)):=by rw[XP,if_neg hc]
    rw[e,next (by omega)]
    exact ih (i+1) (by omega) (by omega)
theorem a6u: ∀ a:List Coef×List Coef×FnV 121×Unit,(decide (a.1.length<=9223372036854775807)&&decide (a.2.1.length<=9223372036854775807))=true->Zc Q4 0 (Zb UU (Zq (XP a.1 a.2.1))) UO [] (Yc b1s (encL a)):=by
 rintro⟨a,b,g,⟨⟩⟩ h
 simp only[Bool.and_eq_true,decide_eq_true_eq]at h
 refine c1f a b ?_
 rw[List.length_map]
 exact OA a b h.1 a.length 0 (by omega) (by omega)
theorem a8c: ∀ a:Lin×Lin×Unit,(Ye a.1&&Ye a.2.1)=true->Zc O7 0 (Zb PS (Zq (VW a.1 a.2.1))) a3k [] (Yc c2f (encL a)):=by
 rintro⟨a,b,⟨⟩⟩ h
 show Zc O7 0 (Zb PS (Zq (VW a b))) _ _ _
 unfold VW
 refine c9x a b ⟨Ze (a.t,b.t,({}:FnV 121),()) rfl h,Zd (a.t,b.t,({}:FnV 121),()) rfl (Af (fun hc=> ?_) fun hc=>Zd (a.k,b.k,()) rfl ?_)⟩
 ·have hc:XP a.t b.t≠0:=by simpa using hc
  rw[if_pos hc]
  exact UW rfl
 ·have hc : ¬ XP a.t b.t≠0:=by simpa using hc
  rw[if_neg hc]
  exact UW rfl
theorem c2s: ∀ a:Lin×Lin×Unit,(Ye a.1&&Ye a.2.1)=true->Zc c5x 0 (Zb b1n (Zq (VW a.1 a.2.1==0))) b4g [] (Yc c7a (encL a)):=by
 rintro⟨a,b,⟨⟩⟩ h
 exact d5y a b ⟨Ze (a,b,()) rfl h,Zd (a,b,()) rfl (Zw rfl)⟩
structure BoxT where
 v:List Str
 m:Int
 deriving DecidableEq
instance:Enc BoxT where
 sz:=2
 enc x:=.agg [enc x.v,enc x.m]
 dec | .agg [a,b]=>⟨dec a,dec b⟩|_=>⟨[],0⟩
 is | .agg [a,b]=>is (List Str) a&&is Int b|_=>false
 is_enc v:=by simp
 dec_enc v:=by simp
 sub p h:=by
  cases p with
  | agg xs=>
   match xs,h with
   | [a,b],h=>
    simp only[Bool.and_eq_true]at h
    exact .agg (.cons (Enc.sub a h.1).2 (.cons (Enc.sub b h.2).2 .nil))
  | _=>cases h
@[simp] theorem d6t (a b : PV) : is BoxT (.agg [a, b]) = (is (List Str) a && is Int b) := rfl
@[simp] theorem d2n (a b : PV) : (dec (.agg [a, b]) : BoxT) = ⟨dec a, dec b⟩ := rfl
structure Mono where
 c:Int
 v:List Str
 deriving DecidableEq
instance:Enc Mono where
 sz:=2
 enc x:=.agg [enc x.c,enc x.v]
 dec | .agg [a,b]=>⟨dec a,dec b⟩|_=>⟨0,[]⟩
 is | .agg [a,b]=>is Int a&&is (List Str) b|_=>false
 is_enc v:=by simp
 dec_enc v:=by simp
 sub p h:=by
  cases p with
  | agg xs=>
   match xs,h with
   | [a,b],h=>
    simp only[Bool.and_eq_true]at h
    exact .agg (.cons (Enc.sub a h.1).2 (.cons (Enc.sub b h.2).2 .nil))
  | _=>cases h
@[simp] theorem d6w (a b : PV) : is Mono (.agg [a, b]) = (is Int a && is (List Str) b) := rfl
@[simp] theorem d2k (a b : PV) : (dec (.agg [a, b]) : Mono) = ⟨dec a, dec b⟩ := rfl
structure NilS where
 deriving DecidableEq
instance:Enc NilS where
 sz:=1
 enc _:=.sl 0 true []
 dec _:=⟨⟩
 is | .sl 0 true []=>true|_=>false
 is_enc _:=rfl
 dec_enc _:=rfl
 sub p h:=by
  cases p with
  | sl s t xs=>
   cases xs with
   | nil=>cases s with
    | zero=>cases t with
     | true=>exact .refl _
     | false=>cases h
    | succ s=>cases h
   | cons x xs=>cases s <;> cases t <;> cases h
  | _=>cases h
end Go.Pl
namespace Go.Pl
open Go.RowKit
open Enc (enc dec is)
open EncL (encL decL isL)
set_option maxRecDepth 100000
abbrev d6b(ps:List PV)(k:Int×Er->Prop):Prop:=V7 (fun(x:Str×Unit)=>decide (List.length (Str.s (Prod.fst x))<=281474976710656)) (fun(x:Str×Unit)=>YZ (Prod.fst x)) ps k
abbrev d2o(ps:List PV)(k:Str->Prop):Prop:=V7 (fun(x:Int×Unit)=>decide ((-9223372036854775808:Int)<=Prod.fst x)&&decide (Prod.fst x<=9223372036854775807)) (fun(x:Int×Unit)=>V5 (Prod.fst x)) ps k
-- IMPOSSIBLE
noncomputable def Y4:IC:=WB Proofs.Tryz.f140
def Y3:List IRes:=[(.tmp 2)]
abbrev a6w:Nat:=67
def Xz:ZC:=YR [(169,.pure (preT (fun _:Str×Str×Unit=>true)) (Zk (fun x:Str×Str×Unit=>x.2.1.s.isPrefixOf x.1.s))),(170,.pure (preT (fun x:Str×Unit=>decide (x.1.s.length<=281474976710656))) (Zk (fun x:Str×Unit=>YZ x.1))),(68,.pure (preT (fun x:Int×Unit=>decide (-9223372036854775808<=x.1)&&decide (x.1<=9223372036854775807))) (Zk (fun x:Int×Unit=>V5 x.1)))]
theorem b4u{G:PV->Prop}(s:List UInt8)(h : ∃ y0:Bool,AV.pv (Zk (fun(x:Str×Str×Unit)=>List.isPrefixOf (Str.s x.2.1) (Str.s x.1)) [(.str s),(.str [(95:UInt8)])])=AV.pv (enc y0)∧(if (y0)=true then(decide (0<=1)&&true&&decide (Int.toNat 1<=List.length s)&&decide (List.length s<=List.length s))=true∧((d6b [(.str (List.drop (Int.toNat 1) (List.take (List.length s) s)))] fun y1=>((NH (enc y1.2)&&Prod.fst (true,PV.bool (QU (enc y1.2))))=true∧(if (QU (enc y1.2))=true then if (decide (y1.1>0))=true then if (decide ((↑(List.length s):Int)<=10))=true then(d2o [(.int .i64 y1.1)] fun y2=>((decide (0<=1)&&true&&decide (Int.toNat 1<=List.length s)&&decide (List.length s<=List.length s))=true∧(G ((.bool (Str.s y2==List.drop (Int.toNat 1) (List.take (List.length s) s)))))))else(G ((.bool false)))else(G ((.bool false)))else(G ((.bool false)))))))else(At Xz 0 (Zb Y3 G) Y4 0 67 [(0,(.pv (.str s))),(34,(.pv (.sl 1 false (Zv s)))),(35,(.pv (.int .i64 (↑(List.length (Zv s)):Int)))),(36,(.pv (.int .i64 0)))] []))):Zc Xz 0 (Zb Y3 G) Y4 [] (Yc 67 [.str s]):=Zc.tp (dm [dv Bool,dv (Int×Er),dv Str] 70 0x2222222222220222222222022222022212271200a4222201842220294161103e452) h
theorem TL{G:PV->Prop}(s:List UInt8)(i:Int)(h:if (decide (i<(↑(List.length (Zv s)):Int)))=true then(decide (0<=i)&&decide (Int.toNat i<List.length (Zv s))&&1==1)=true∧((decide (0+List.length [Sh.int IntKind.u8]<=List.length (PV.cells (List.getD (Zv s) (Int.toNat i) default)))&&Yv (PV.cells (List.getD (Zv s) (Int.toNat i) default)) 0 [Sh.int IntKind.u8])=true∧(if (decide (PV.asInt (List.getD (PV.cells (List.getD (Zv s) (Int.toNat i) default)) 0 default)<97))=true then if (i==0)=true then G ((.bool false))else(if (decide (PV.asInt (List.getD (PV.cells (List.getD (Zv s) (Int.toNat i) default)) 0 default)<48))=true then G ((.bool false))else(if (decide (PV.asInt (List.getD (PV.cells (List.getD (Zv s) (Int.toNat i) default)) 0 default)>57))=true then G ((.bool false))else(At Xz 0 (Zb Y3 G) Y4 0 67 [(0,(.pv (.str s))),(34,(.pv (.sl 1 false (Zv s)))),(35,(.pv (.int .i64 (↑(List.length (Zv s)):Int)))),(36,(.pv (.int .i64 (IntKind.wrap IntKind.i64 (i+1)))))] [])))else(if (decide (PV.asInt (List.getD (PV.cells (List.getD (Zv s) (Int.toNat i) default)) 0 default)>122))=true then if (i==0)=true then G ((.bool false))else(if (decide (PV.asInt (List.getD (PV.cells (List.getD (Zv s) (Int.toNat i) default)) 0 default)<48))=true then G ((.bool false))else(if (decide (PV.asInt (List.getD (PV.cells (List.getD (Zv s) (Int.toNat i) default)) 0 default)>57))=true then G ((.bool false))else(At Xz 0 (Zb Y3 G) Y4 0 67 [(0,(.pv (.str s))),(34,(.pv (.sl 1 false (Zv s)))),(35,(.pv (.int .i64 (↑(List.length (Zv s)):Int)))),(36,(.pv (.int .i64 (IntKind.wrap IntKind.i64 (i+1)))))] [])))else(At Xz 0 (Zb Y3 G) Y4 0 67 [(0,(.pv (.str s))),(34,(.pv (.sl 1 false (Zv s)))),(35,(.pv (.int .i64 (↑(List.length (Zv s)):Int)))),(36,(.pv (.int .i64 (IntKind.wrap IntKind.i64 (i+1)))))] []))))else(if (!s==[])=true then G ((.bool (decide ((↑(List.length s):Int)<=30))))else(G ((.bool false))))):At Xz 0 (Zb Y3 G) Y4 0 67 [(0,.pv (.str s)),(34,.pv (.sl 1 false (Zv s))),(35,.pv (.int .i64 (Zv s).length)),(36,.pv (.int .i64 i))] []:=At.tp (dm [] 137 0x22202222005420222222220200014222220222220064222220222222222200b422202d42220200014222220222220064222220222222222200b42222220304213107542) h
end Go.Pl
namespace Go.Pl
open Go.RowKit
open Enc (enc dec is)
open EncL (encL decL isL)
theorem Ns(s:List UInt8)(hs:s.length<=281474976710656): ∀ (m i:Nat),m+i=s.length->At Xz 0 (Zb Y3 (Zq (WF s i))) Y4 0 67 [(0,.pv (.str s)),(34,.pv (.sl 1 false (Zv s))),(35,.pv (.int .i64 (Zv s).length)),(36,.pv (.int .i64 i))] []:=by
 intro m
 induction m with
 | zero=>
  intro i hi
  have e:WF s i=(!(s==[])&&decide (s.length<=30)):=by
   unfold WF
   cases i with
   | zero=>cases s with
    | nil=>rfl
    | cons c r=>simp at hi
   | succ i=>simp only;rw[List.drop_of_length_le (show s.length<=i+1 by omega)];simp
  rw[e]
  refine TL s i (XC (Uu (by rw[Gn];omega)) (VK (fun h=>Zw ?_) fun h=>Zw ?_))
  ·rw[h,Bool.true_and];exact decide_eq_decide.2 (by omega)
  ·rw[h,Bool.false_and]
 | succ m ih=>
  intro i hi
  have hlt:i<s.length:=by omega
  have h:=ih (i+1) (by omega)
  refine TL s i ?_
  rw[b5g hlt,next (by omega)]
  have stop:(lowB s[i]=false∧(i=0∨digB s[i]=false))->Zq (WF s i) (.bool false):=fun hb=>Zw (a4e hlt hb).symm
  have go:(lowB s[i]=true∨(i≠0∧digB s[i]=true))->At Xz 0 (Zb Y3 (Zq (WF s i))) Y4 0 67 [(0,.pv (.str s)),(34,.pv (.sl 1 false (Zv s))),(35,.pv (.int .i64 (Zv s).length)),(36,.pv (.int .i64 ((i+1:Nat):Int)))] []:=fun hb=>by rw[a5t hlt hb];exact h
  have rest:lowB s[i]=false->(if ((i:Int)==0)=true then Zq (WF s i) (.bool false)else if decide ((s[i].toNat:Int)<48)=true then Zq (WF s i) (.bool false)else if decide ((s[i].toNat:Int)>57)=true then Zq (WF s i) (.bool false)else At Xz 0 (Zb Y3 (Zq (WF s i))) Y4 0 67 [(0,.pv (.str s)),(34,.pv (.sl 1 false (Zv s))),(35,.pv (.int .i64 (Zv s).length)),(36,.pv (.int .i64 ((i+1:Nat):Int)))] []):=by
   intro hl
   refine XT (fun h0=>stop ⟨hl,.inl (by omega)⟩) fun h0=>X0 (fun h1=>stop ⟨hl,.inr (Tn (by omega))⟩) fun h1=>X0 (fun h2=>stop ⟨hl,.inr (Tn (by omega))⟩) fun h2=>go (.inr ⟨by omega,Wy.2 (by omega)⟩)
  refine Xi (Uw (by rw[Gn];exact hlt)) ⟨by rw[Gn];simp[hlt],by rfl,?_⟩
  refine X0 (fun h1=>rest (Td ?_)) fun h1=>X0 (fun h2=>rest (Td ?_)) fun h2=>go (.inl (a3s.2 ?_))
  ·have h1:(s[i].toNat:Int)<97:=h1
   omega
  ·have h2:(s[i].toNat:Int)>122:=h2
   omega
  ·have h1 : ¬ (s[i].toNat:Int)<97:=h1
   have h2 : ¬ (s[i].toNat:Int)>122:=h2
   omega
theorem Ox: ∀ a:Str×Unit,decide (a.1.s.length<=281474976710656)=true->Zc Xz 0 (Zb Y3 (Zq (YD a.1))) Y4 [] (Yc a6w (encL a)):=by
 rintro⟨⟨s⟩,⟨⟩⟩ hl
 have hl:s.length<=281474976710656:=by simpa using hl
 refine b4u s (Zd (⟨s⟩,⟨[95]⟩,()) rfl (VK (fun h=> ?_) fun h=> ?_))
 ·have h:[95].isPrefixOf s=true:=h
  obtain⟨r,rfl⟩ : ∃ r,s=95::r:=by
   cases s with
   | nil=>simp at h
   | cons c r=>
    have:95=c:=by simpa using h
    exact⟨r,by rw[this]⟩
  have e1:List.drop (Int.toNat 1) (List.take (List.length (95::r)) (95::r))=r:=by rw[List.take_of_length_le (Nat.le_refl _)];rfl
  simp only[e1]
  refine⟨by simp,Ze (⟨r⟩,()) rfl (by simp at hl ⊢;omega),Zd (⟨r⟩,()) rfl ⟨by show(NH (enc (YZ ⟨r⟩).2)&&true)=true;rw[d4i];rfl,?_⟩⟩
  show if QU (enc (YZ ⟨r⟩).2)=true then(if decide ((YZ ⟨r⟩).1>0)=true then(if _ then _ else Zq (YD ⟨95::r⟩) _)else Zq (YD ⟨95::r⟩) _)else Zq (YD ⟨95::r⟩) _
  rw[a8x]
  by_cases h9:r.length<=9
  ·rw[<- c3i r h9,decide_eq_true h9,Bool.and_true]
   refine VK (fun h1=>VK (fun h2=>Xi (by simp;omega) ⟨Ze ((YZ ⟨r⟩).1,()) rfl (by have:=OO ⟨r⟩;simp;omega),Zd ((YZ ⟨r⟩).1,()) rfl ⟨by simp,Zw ?_⟩⟩) fun h2=>Zw ?_) fun h1=>Zw ?_
   ·rw[h1,h2];simp only[Bool.true_and,Bool.and_true];rfl
   ·rw[h2];simp
   ·rw[h1];simp
  ·rw[decide_eq_false h9,Bool.and_false]
   refine VK (fun h1=>VK (fun h2=>XC (by simp;omega) (Zw rfl)) fun h2=>Zw rfl) fun h1=>Zw rfl
 ·have h:[95].isPrefixOf s=false:=h
  show At Xz 0 (Zb Y3 (Zq (YD ⟨s⟩))) Y4 0 67 _ _
  rw[a5j h]
  exact Ns s hl s.length 0 (by omega)
end Go.Pl
namespace Go.Pl
end Go.Pl
namespace Go.Pl.Cm
open Go.RowKit
open Enc (enc dec is)
open EncL (encL decL isL)
structure CmpOK {α:Type} (f:α->α->Int):Prop where
 anti : ∀ a b,f b a = - f a b
 zero : ∀ a b,f a b=0 ↔ a=b
 trans : ∀ a b c,f a b<=0->f b c<=0->f a c<=0
 rng : ∀ a b,-1<=f a b∧f a b<=1
theorem CmpOK.strict{α:Type}{f:α->α->Int}(h:CmpOK f){a b c:α}(h1:f a b<0)(h2:f b c<=0):f a c<0:=by
 have h3:=h.trans a b c (by omega) h2
 by_cases h0:f a c=0
 ·obtain rfl:=(h.zero a c).1 h0
  have:=h.anti a b
  omega
 ·omega
def X8{α:Type}(f:α->α->Int):List α->List α->Int
 | [],[]=>0
 | [],_::_=> -1
 | _::_,[]=>1
 | x::l,y::m=>if f x y≠0 then f x y else X8 f l m
theorem TB{α:Type}{f:α->α->Int}(h:CmpOK f): ∀ a b,X8 f b a = - X8 f a b
 | [],[]=>rfl
 | [],_::_=>rfl
 | _::_,[]=>rfl
 | x::l,y::m=>by
  have h1:=h.anti x y
  rw[X8,X8,h1,TB h l m]
  by_cases h0:f x y=0
  ·rw[if_neg (by omega),if_neg (by omega)]
  ·rw[if_pos (by omega),if_pos (by omega)]
theorem SY{α:Type}{f:α->α->Int}(h:CmpOK f): ∀ a b,X8 f a b=0 ↔ a=b
 | [],[]=>by simp[X8]
 | [],_::_=>by simp[X8]
 | _::_,[]=>by simp[X8]
 | x::l,y::m=>by
  rw[X8,List.cons.injEq,<- h.zero x y,<- SY h l m]
  by_cases h0:f x y=0
  ·rw[if_neg (by omega)];omega
  ·rw[if_pos (by omega)];omega
theorem Mv{α:Type}{f:α->α->Int}(h:CmpOK f): ∀ a b,-1<=X8 f a b∧X8 f a b<=1
 | [],[]=>by simp[X8]
 | [],_::_=>by simp[X8]
 | _::_,[]=>by simp[X8]
 | x::l,y::m=>by
  rw[X8]
  split
  ·exact h.rng x y
  ·exact Mv h l m
theorem Ak{α:Type}{f:α->α->Int}(h:CmpOK f): ∀ a b c,X8 f a b<=0->X8 f b c<=0->X8 f a c<=0
 | [],_,[],_,_=>by simp[X8]
 | [],_,_::_,_,_=>by simp[X8]
 | _::_,[],_,h1,_=>by simp[X8]at h1
 | _::_,_::_,[],_,h2=>by simp[X8]at h2
 | x::l,y::m,z::n,h1,h2=>by
  rw[X8]at h1 h2 ⊢
  by_cases a:f x y=0
  ·obtain rfl:=(h.zero x y).1 a
   rw[if_neg (by omega)]at h1
   by_cases b:f x z=0
   ·rw[if_neg (by omega)]at h2 ⊢
    exact Ak h l m n h1 h2
   ·rw[if_pos b]at h2 ⊢
    exact h2
  ·rw[if_pos a]at h1
   by_cases b:f y z=0
   ·obtain rfl:=(h.zero y z).1 b
    rw[if_pos a]
    exact h1
   ·rw[if_pos b]at h2
    have:=h.strict (show f x y<0 by omega) h2
    rw[if_pos (by omega)]
    omega
theorem a2r{α:Type}{f:α->α->Int}(h:CmpOK f):CmpOK (X8 f):=⟨TB h,SY h,Ak h,Mv h⟩
theorem EZ{α β γ:Type}{f:β->β->Int}{g:γ->γ->Int}(p:α->β)(q:α->γ)(hpq : ∀ a b,p a=p b->q a=q b->a=b)(hf:CmpOK f)(hg:CmpOK g):CmpOK fun a b:α=>if f (p a) (p b)≠0 then f (p a) (p b)else g (q a) (q b):=by
 refine⟨fun a b=> ?_,fun a b=> ?_,fun a b c h1 h2=> ?_,fun a b=> ?_⟩
 ·have h1:=hf.anti (p a) (p b)
  have h2:=hg.anti (q a) (q b)
  try simp only
  by_cases h0:f (p a) (p b)=0
  ·rw[if_neg (by omega),if_neg (by omega),h2]
  ·rw[if_pos (by omega),if_pos h0,h1]
 ·try simp only
  by_cases h0:f (p a) (p b)=0
  ·rw[if_neg (by omega),hg.zero]
   exact⟨fun h=>hpq a b ((hf.zero _ _).1 h0) h,fun h=>by rw[h]⟩
  ·rw[if_pos h0]
   exact⟨fun h=>absurd h h0,fun h=>absurd ((hf.zero _ _).2 (by rw[h])) h0⟩
 ·try simp only at h1 h2 ⊢
  by_cases x:f (p a) (p b)=0
  ·have e:=(hf.zero _ _).1 x
   rw[if_neg (by omega)]at h1
   rw[e]
   by_cases y:f (p b) (p c)=0
   ·rw[if_neg (by omega)]at h2 ⊢
    exact hg.trans _ _ _ h1 h2
   ·rw[if_pos y]at h2 ⊢
    exact h2
  ·rw[if_pos x]at h1
   by_cases y:f (p b) (p c)=0
   ·have e:=(hf.zero _ _).1 y
    rw[<- e,if_pos x]
    exact h1
   ·rw[if_pos y]at h2
    have:=hf.strict (show f (p a) (p b)<0 by omega) h2
    rw[if_pos (by omega)]
    omega
 ·try simp only
  split
  ·exact hf.rng _ _
  ·exact hg.rng _ _
theorem Kl:CmpOK Jf:=by
 refine⟨fun a b=> ?_,fun a b=> ?_,fun a b c=> ?_,fun a b=> ?_⟩ <;> unfold Jf <;> (repeat' split) <;> omega
def a3z(a b:UInt8):Int:=if a<b then -1 else if b<a then 1 else 0
theorem Qb(a b:UInt8):a3z a b=Jf a.toNat b.toNat:=by
 unfold a3z Jf
 simp only[UInt8.lt_iff_toNat_lt]
 repeat' split
 all_goals omega
theorem c1z:CmpOK a3z:=by
 refine⟨fun a b=> ?_,fun a b=> ?_,fun a b c=> ?_,fun a b=> ?_⟩
 ·rw[Qb,Qb];exact Kl.anti _ _
 ·rw[Qb,Kl.zero]
  exact⟨fun h=>UInt8.toNat_inj.1 (by omega),fun h=>by rw[h]⟩
 ·rw[Qb,Qb,Qb];exact Kl.trans _ _ _
 ·rw[Qb];exact Kl.rng _ _
theorem LW: ∀ a b:List UInt8,Lib.compareBytes a b=X8 a3z a b
 | [],[]=>rfl
 | [],_::_=>rfl
 | _::_,[]=>rfl
 | x::l,y::m=>by
  rw[Lib.compareBytes,X8,LW l m]
  unfold a3z
  by_cases h1:x<y
  ·simp[h1]
  ·by_cases h2:y<x
   ·simp[h1,h2]
   ·simp[h1,h2]
theorem a8u:CmpOK Lib.compareBytes:=by
 have:Lib.compareBytes=X8 a3z:=by funext a b;exact LW a b
 rw[this]
 exact a2r c1z
theorem c0f:CmpOK HV:=EZ (fun x:Coef=>x.v.s) (fun x:Coef=>x.c) (fun a b h1 h2=>by
 obtain⟨⟨s⟩,c⟩:=a
 obtain⟨⟨s'⟩,c'⟩:=b
 simp only at h1 h2
 rw[h1,h2]) a8u Kl
theorem Mr: ∀ a b:List Coef,XP a b=X8 HV a b
 | [],[]=>rfl
 | [],_::_=>rfl
 | _::_,[]=>rfl
 | x::l,y::m=>by rw[XP,X8,Mr l m]
theorem b0n:CmpOK XP:=by
 have:XP=X8 HV:=by funext a b;exact Mr a b
 rw[this]
 exact a2r c0f
theorem a6b:CmpOK VW:=EZ (fun x:Lin=>x.t) (fun x:Lin=>x.k) (fun a b h1 h2=>by
 obtain⟨k,t⟩:=a
 obtain⟨k',t'⟩:=b
 simp only at h1 h2
 rw[h1,h2]) b0n Kl
theorem cmpLin_dec(a b:Lin):(VW a b==0)=decide (a=b):=by
 have:=a6b.zero a b
 by_cases h:a=b
 ·rw[this.2 h,decide_eq_true h];rfl
 ·rw[decide_eq_false h]
  exact beq_eq_false_iff_ne.2 fun e=>h (this.1 e)
end Go.Pl.Cm
namespace Go.Pl
open Go.RowKit
open Enc (enc dec is)
open EncL (encL decL isL)
set_option maxRecDepth 100000
noncomputable def GL:IC:=WB Proofs.Tryz.f61
def Gx:List IRes:=[(.tmp 4)]
abbrev d0z:Nat:=26
noncomputable def Tc:ZC:=YR []
theorem d3v{G:PV->Prop}(a b:List Int)(h:if ((↑(List.length (List.map enc a)):Int) != (↑(List.length (List.map enc b)):Int))=true then G ((.bool false))else(At Tc 0 (Zb Gx G) GL 0 26 [(0,(.pv (.sl 1 false (List.map enc a)))),(1,(.pv (.sl 1 false (List.map enc b)))),(12,(.pv (.int .i64 (↑(List.length (List.map enc a)):Int)))),(13,(.pv (.int .i64 0)))] [])):Zc Tc 0 (Zb Gx G) GL [] (Yc 26 [enc a,enc b]):=Zc.tp (dm [] 8 0x142) h
theorem b0o{G:PV->Prop}(a b:List Int)(i:Int)(h:if (decide (i<(↑(List.length (List.map enc a)):Int)))=true then(decide (0<=i)&&decide (Int.toNat i<List.length (List.map enc a))&&Enc.sz Int==1)=true∧(∃ y0:Int,AV.pv (PV.rptr (PV.cells (List.getD (List.map enc a) (Int.toNat i) default)))=AV.pv (PV.rptr (PV.cells ((enc) y0)))∧((decide (0<=i)&&decide (Int.toNat i<List.length (List.map enc b))&&Enc.sz Int==1)=true∧(∃ y1:Int,AV.pv (PV.rptr (PV.cells (List.getD (List.map enc b) (Int.toNat i) default)))=AV.pv (PV.rptr (PV.cells ((enc) y1)))∧(if (PV.asInt (List.getD (PV.cells (enc y0)) 0 default) != PV.asInt (List.getD (PV.cells (enc y1)) 0 default))=true then G ((.bool false))else(At Tc 0 (Zb Gx G) GL 0 26 [(0,(.pv (.sl 1 false (List.map enc a)))),(1,(.pv (.sl 1 false (List.map enc b)))),(12,(.pv (.int .i64 (↑(List.length (List.map enc a)):Int)))),(13,(.pv (.int .i64 (IntKind.wrap IntKind.i64 (i+1)))))] [])))))else(G ((.bool true)))):At Tc 0 (Zb Gx G) GL 0 26 [(13,.pv (.int .i64 i)),(12,.pv (.int .i64 (a.map (enc:Int->PV)).length)),(0,.pv (enc a)),(1,.pv (enc b))] []:=At.tp (dm [dr Int] 21 0x200014225125100e42) h
noncomputable def Hw:IC:=WB Proofs.Tryz.f62
def GV:List IRes:=[(.tmp 6)]
abbrev c9d:Nat:=32
noncomputable def SK:ZC:=YR [(63,.pure (preT (fun x:Lin×Lin×Unit=>Ye x.1&&Ye x.2.1)) (Zk (fun x:Lin×Lin×Unit=>decide (x.1=x.2.1))))]
theorem d5f{G:PV->Prop}(a b:List Lin)(h:if ((↑(List.length (List.map enc a)):Int) != (↑(List.length (List.map enc b)):Int))=true then G ((.bool false))else(At SK 0 (Zb GV G) Hw 0 32 [(1,(.pv (.sl 2 false (List.map enc b)))),(2,(.pv (.fn 63))),(15,(.pv (.sl 2 false (List.map enc a)))),(16,(.pv (.int .i64 (↑(List.length (List.map enc a)):Int)))),(17,(.pv (.int .i64 0)))] [])):Zc SK 0 (Zb GV G) Hw [] (Yc 32 [enc a,enc b,.fn 63]):=Zc.tp (dm [] 8 0x142) h
theorem b5e{G:PV->Prop}(a b:List Lin)(i:Int)(h:if (decide (i<(↑(List.length (List.map enc a)):Int)))=true then(decide (0<=i)&&decide (Int.toNat i<List.length (List.map enc a))&&Enc.sz Lin==2)=true∧(∃ y0:Lin,AV.pv (PV.rptr (PV.cells (List.getD (List.map enc a) (Int.toNat i) default)))=AV.pv (PV.rptr (PV.cells ((enc) y0)))∧((decide (0<=i)&&decide (Int.toNat i<List.length (List.map enc b))&&Enc.sz Lin==2)=true∧(∃ y1:Lin,AV.pv (PV.rptr (PV.cells (List.getD (List.map enc b) (Int.toNat i) default)))=AV.pv (PV.rptr (PV.cells ((enc) y1)))∧((Go.Pl.preT (fun(x:Lin×Lin×Unit)=>Ye x.1&&Ye x.2.1) [(.agg [(.int .i64 (PV.asInt (List.getD (PV.cells (enc y0)) 0 default))),(.sl 2 false (PV.asXs (List.getD (PV.cells (enc y0)) (0+1) default)))]),(.agg [(.int .i64 (PV.asInt (List.getD (PV.cells (enc y1)) 0 default))),(.sl 2 false (PV.asXs (List.getD (PV.cells (enc y1)) (0+1) default)))])])=true∧(∃ y2:Bool,AV.pv (Zk (fun(x:Lin×Lin×Unit)=>decide (x.1=x.2.1)) [(.agg [(.int .i64 (PV.asInt (List.getD (PV.cells (enc y0)) 0 default))),(.sl 2 false (PV.asXs (List.getD (PV.cells (enc y0)) (0+1) default)))]),(.agg [(.int .i64 (PV.asInt (List.getD (PV.cells (enc y1)) 0 default))),(.sl 2 false (PV.asXs (List.getD (PV.cells (enc y1)) (0+1) default)))])])=AV.pv (enc y2)∧(if (!y2)=true then G ((.bool false))else(At SK 0 (Zb GV G) Hw 0 32 [(1,(.pv (.sl 2 false (List.map enc b)))),(2,(.pv (.fn 63))),(15,(.pv (.sl 2 false (List.map enc a)))),(16,(.pv (.int .i64 (↑(List.length (List.map enc a)):Int)))),(17,(.pv (.int .i64 (IntKind.wrap IntKind.i64 (i+1)))))] [])))))))else(G ((.bool true)))):At SK 0 (Zb GV G) Hw 0 32 [(17,.pv (.int .i64 i)),(16,.pv (.int .i64 (a.map (enc:Lin->PV)).length)),(15,.pv (enc a)),(1,.pv (enc b)),(2,.pv (.fn 63))] []:=At.tp (dm [dr Lin,dv Bool] 22 0x2000146125125100f42) h
noncomputable def Gm:IC:=WB Proofs.Tryz.f64
def Hr:List IRes:=[(.tmp 6)]
abbrev c8w:Nat:=32
noncomputable def Rf(N:Nat):ZC:=YR [(24,.pure (preT (fun x:Tm×Tm×Unit=>(tW x.1&&tW x.2.1)&&decide (ZI x.1<N))) (Zk (fun x:Tm×Tm×Unit=>Kv x.1 x.2.1)))]
theorem d3e{G:PV->Prop}(N:Nat)(a b:List Tm)(h:if ((↑(List.length (List.map enc a)):Int) != (↑(List.length (List.map enc b)):Int))=true then G ((.bool false))else(At (Rf N) 0 (Zb Hr G) Gm 0 32 [(1,(.pv (.sl 10 false (List.map enc b)))),(2,(.pv (.fn 24))),(15,(.pv (.sl 10 false (List.map enc a)))),(16,(.pv (.int .i64 (↑(List.length (List.map enc a)):Int)))),(17,(.pv (.int .i64 0)))] [])):Zc (Rf N) 0 (Zb Hr G) Gm [] (Yc 32 [enc a,enc b,.fn 24]):=Zc.tp (dm [] 8 0x142) h
theorem b3d{G:PV->Prop}(N:Nat)(a b:List Tm)(i:Int)(h:if (decide (i<(↑(List.length (List.map enc a)):Int)))=true then(decide (0<=i)&&decide (Int.toNat i<List.length (List.map enc a))&&Enc.sz Tm==10)=true∧(∃ y0:Tm,AV.pv (PV.rptr (PV.cells (List.getD (List.map enc a) (Int.toNat i) default)))=AV.pv (PV.rptr (PV.cells ((enc) y0)))∧(S9 y0=true∧((decide (0<=i)&&decide (Int.toNat i<List.length (List.map enc b))&&Enc.sz Tm==10)=true∧(∃ y1:Tm,AV.pv (PV.rptr (PV.cells (List.getD (List.map enc b) (Int.toNat i) default)))=AV.pv (PV.rptr (PV.cells ((enc) y1)))∧(S9 y1=true∧((Go.Pl.preT (fun(x:Tm×Tm×Unit)=>tW x.1&&tW x.2.1&&decide (ZI x.1<N)) [Gz y0,Gz y1])=true∧(∃ y2:Bool,AV.pv (Zk (fun(x:Tm×Tm×Unit)=>Kv x.1 x.2.1) [Gz y0,Gz y1])=AV.pv (enc y2)∧(if (!y2)=true then G ((.bool false))else(At (Rf N) 0 (Zb Hr G) Gm 0 32 [(1,(.pv (.sl 10 false (List.map enc b)))),(2,(.pv (.fn 24))),(15,(.pv (.sl 10 false (List.map enc a)))),(16,(.pv (.int .i64 (↑(List.length (List.map enc a)):Int)))),(17,(.pv (.int .i64 (IntKind.wrap IntKind.i64 (i+1)))))] [])))))))))else(G ((.bool true)))):At (Rf N) 0 (Zb Hr G) Gm 0 32 [(17,.pv (.int .i64 i)),(16,.pv (.int .i64 (a.map (enc:Tm->PV)).length)),(15,.pv (enc a)),(1,.pv (enc b)),(2,.pv (.fn 24))] []:=At.tp (dm [dr Tm,dv Bool] 22 0x2000146115115100f42) h
noncomputable def b2s:IC:=WB Proofs.Tryz.f24
def b3k:List IRes:=[(.tmp 4)]
abbrev d0e:Nat:=72
noncomputable def c6m(N:Nat):ZC:=YR [(61,.pure (preT (fun x:List Int×List Int×Unit=>Yd x.1)) (Zk (fun x:List Int×List Int×Unit=>decide (x.1=x.2.1)))),(62,.pure (preT (fun x:List Lin×List Lin×FnV 63×Unit=>Yd x.1&&x.1.all Ye&&x.2.1.all Ye)) (Zk (fun x:List Lin×List Lin×FnV 63×Unit=>decide (x.1=x.2.1)))),(64,.pure (preT (fun x:List Tm×List Tm×FnV 24×Unit=>(tsW x.1&&tsW x.2.1)&&decide (ZU x.1<N))) (Zk (fun x:List Tm×List Tm×FnV 24×Unit=>Xp x.1 x.2.1)))]
theorem d5d{G:PV->Prop}(N:Nat)(n:Nd)(ks:List Tm)(m:Nd)(ls:List Tm)(h:if (Nd.kind n==Nd.kind m)=true then if (Str.s (Nd.name n)==Str.s (Nd.name m))=true then if (Nd.num n==Nd.num m)=true then if (Str.s (Nd.elem n)==Str.s (Nd.elem m))=true then(Go.Pl.preT (fun(x:List Int×List Int×Unit)=>Yd x.1) [(.sl 1 false (List.map enc (Nd.dims n))),(.sl 1 false (List.map enc (Nd.dims m)))])=true∧(∃ y0:Bool,AV.pv (Zk (fun(x:List Int×List Int×Unit)=>decide (x.1=x.2.1)) [(.sl 1 false (List.map enc (Nd.dims n))),(.sl 1 false (List.map enc (Nd.dims m)))])=AV.pv (enc y0)∧(if (y0)=true then(Go.Pl.preT (fun(x:List Int×List Int×Unit)=>Yd x.1) [(.sl 1 false (List.map enc (Nd.data n))),(.sl 1 false (List.map enc (Nd.data m)))])=true∧(∃ y1:Bool,AV.pv (Zk (fun(x:List Int×List Int×Unit)=>decide (x.1=x.2.1)) [(.sl 1 false (List.map enc (Nd.data n))),(.sl 1 false (List.map enc (Nd.data m)))])=AV.pv (enc y1)∧(if (y1)=true then(Go.Pl.preT (fun(x:List Lin×List Lin×FnV 63×Unit)=>Yd x.1&&List.all x.1 Ye&&List.all x.2.1 Ye) [(.sl 2 false (List.map enc (Nd.sizes n))),(.sl 2 false (List.map enc (Nd.sizes m))),(.fn 63)])=true∧(∃ y2:Bool,AV.pv (Zk (fun(x:List Lin×List Lin×FnV 63×Unit)=>decide (x.1=x.2.1)) [(.sl 2 false (List.map enc (Nd.sizes n))),(.sl 2 false (List.map enc (Nd.sizes m))),(.fn 63)])=AV.pv (enc y2)∧(if (y2)=true then(Go.Pl.preT (fun(x:List Int×List Int×Unit)=>Yd x.1) [(.sl 1 false (List.map enc (Nd.ranks n))),(.sl 1 false (List.map enc (Nd.ranks m)))])=true∧(∃ y3:Bool,AV.pv (Zk (fun(x:List Int×List Int×Unit)=>decide (x.1=x.2.1)) [(.sl 1 false (List.map enc (Nd.ranks n))),(.sl 1 false (List.map enc (Nd.ranks m)))])=AV.pv (enc y3)∧(if (y3)=true then(Go.Pl.preT (fun(x:List Tm×List Tm×FnV 24×Unit)=>tsW x.1&&tsW x.2.1&&decide (ZU x.1<N)) [(.sl 10 false (List.map enc ks)),(.sl 10 false (List.map enc ls)),(.fn 24)])=true∧(∃ y4:Bool,AV.pv (Zk (fun(x:List Tm×List Tm×FnV 24×Unit)=>Xp x.1 x.2.1) [(.sl 10 false (List.map enc ks)),(.sl 10 false (List.map enc ls)),(.fn 24)])=AV.pv (enc y4)∧(G ((.bool y4))))else(G ((.bool false)))))else(G ((.bool false)))))else(G ((.bool false)))))else(G ((.bool false)))))else(G ((.bool false)))else(G ((.bool false)))else(G ((.bool false)))else(G ((.bool false)))):Zc (c6m N) 0 (Zb b3k G) b2s [] (Yc 72 [.agg [enc n.kind,enc n.line,enc n.name,enc n.num,enc n.elem,enc n.dims,enc n.data,enc n.sizes,enc n.ranks,enc ks],.agg [enc m.kind,enc m.line,enc m.name,enc m.num,enc m.elem,enc m.dims,enc m.data,enc m.sizes,enc m.ranks,enc ls]]):=Zc.tp (dm [dv Bool] 334 0x22222222222222222222222222222222222222222222222222222022222222222222222222222222222222222222222222222022222222222222222222222222222222222222222022222222222222222222222222222222202222222222222222222222222022222222222222222022222222222022222025122220084251222201942512222030425122222204f42512222220764222222220a442222220d8422222211242) h
noncomputable def b6w:IC:=WB Proofs.Tryz.f18
def a9d:List IRes:=[(.tmp 4)]
abbrev c9k:Nat:=10
noncomputable def c4w:ZC:=YR [(30,.pure (preT (fun x:Tm×Unit=>tW x.1)) (Zk (fun x:Tm×Unit=>Yk x.1))),(24,.pure (preT (fun x:Tm×Tm×Unit=>tW x.1&&tW x.2.1)) (Zk (fun x:Tm×Tm×Unit=>Kv x.1 x.2.1)))]
theorem d4o{G:PV->Prop}(n:Nd)(ks:List Tm)(m:Nd)(ls:List Tm)(h:(Go.Pl.preT (fun(x:Tm×Unit)=>tW x.1) (ndA n ks))=true∧(∃ y0:Tm,AV.pv (Zk (fun(x:Tm×Unit)=>Yk x.1) (ndA n ks))=AV.pv (enc y0)∧((Go.Pl.preT (fun(x:Tm×Unit)=>tW x.1) [(.agg [(.int .i64 (Nd.kind m)),(.int .i64 (Nd.line m)),(.str (Str.s (Nd.name m))),(.int .i64 (Nd.num m)),(.str (Str.s (Nd.elem m))),(.sl 1 false (List.map enc (Nd.dims m))),(.sl 1 false (List.map enc (Nd.data m))),(.sl 2 false (List.map enc (Nd.sizes m))),(.sl 1 false (List.map enc (Nd.ranks m))),(.sl 10 false (List.map enc ls))])])=true∧(∃ y1:Tm,AV.pv (Zk (fun(x:Tm×Unit)=>Yk x.1) [(.agg [(.int .i64 (Nd.kind m)),(.int .i64 (Nd.line m)),(.str (Str.s (Nd.name m))),(.int .i64 (Nd.num m)),(.str (Str.s (Nd.elem m))),(.sl 1 false (List.map enc (Nd.dims m))),(.sl 1 false (List.map enc (Nd.data m))),(.sl 2 false (List.map enc (Nd.sizes m))),(.sl 1 false (List.map enc (Nd.ranks m))),(.sl 10 false (List.map enc ls))])])=AV.pv (enc y1)∧((Go.Pl.preT (fun(x:Tm×Tm×Unit)=>tW x.1&&tW x.2.1) [enc y0,enc y1])=true∧(∃ y2:Bool,AV.pv (Zk (fun(x:Tm×Tm×Unit)=>Kv x.1 x.2.1) [enc y0,enc y1])=AV.pv (enc y2)∧(G ((.bool y2))))))))):Zc c4w 0 (Zb a9d G) b6w [] (Yc 10 [.agg [enc n.kind,enc n.line,enc n.name,enc n.num,enc n.elem,enc n.dims,enc n.data,enc n.sizes,enc n.ranks,enc ks],.agg [enc m.kind,enc m.line,enc m.name,enc m.num,enc m.elem,enc m.dims,enc m.data,enc m.sizes,enc m.ranks,enc ls]]):=Zc.tp (dm [dv Tm,dv Bool] 8 0x615151) h
end Go.Pl
namespace Go.Pl
open Go.RowKit
open Enc (enc dec is)
open EncL (encL decL isL)
theorem a0g{α:Type}[BEq α][LawfulBEq α]{x y:α}{P Q:Prop}(h1:x=y->P)(h2:x≠y->Q):if (x==y)=true then P else Q:=by by_cases h:x=y;rw[if_pos (by simpa using h)];exact h1 h;rw[if_neg (by simpa using h)];exact h2 h
theorem a8j{l:Lin}(h:V3 l=true):Ye l=true:=by unfold V3 at h;rw[Bool.and_eq_true]at h;exact h.1
theorem FY{ks:List Tm}{k:Tm}(h:k∈ks):ZI k<=ZU ks:=by
 induction ks with
 | nil=>cases h
 | cons a l ih=>
  rw[ZU]
  rcases List.mem_cons.1 h with rfl|h
  ·omega
  ·have:=ih h;omega
theorem b6y(a b:List Int)(ha:a.length<=9223372036854775807)(hab:a.length=b.length): ∀ (k i:Nat),k+i=a.length ->
  At Tc 0 (Zb Gx (Zq (decide (a.drop i=b.drop i)))) GL 0 26 [(0,.pv (enc a)),(1,.pv (enc b)),(12,.pv (.int .i64 (a.map (enc:Int->PV)).length)),(13,.pv (.int .i64 i))] []:=by
 intro k
 induction k with
 | zero=>
  intro i hi
  rw[List.drop_of_length_le (by omega),List.drop_of_length_le (by omega)]
  exact b0o a b i (XC (Vk (by omega)) (Zw rfl))
 | succ k ih=>
  intro i hi
  have hlt:i<a.length:=by omega
  have hlt2:i<b.length:=by omega
  have h:=ih (i+1) (by omega)
  refine b0o a b i (Xi (WC hlt) ⟨ZM hlt rfl,Yb hlt ⟨ZM hlt2 rfl,Yb hlt2 ?_⟩⟩)
  show if (a[i] != b[i])=true then _ else _
  refine a7g (fun e=>Zw ?_) fun e=> ?_
  ·rw[List.drop_eq_getElem_cons hlt,List.drop_eq_getElem_cons hlt2,Ht e]
  ·rw[next (by omega),List.drop_eq_getElem_cons hlt,List.drop_eq_getElem_cons hlt2,GD e]
   exact h
theorem c1y: ∀ x:List Int×List Int×Unit,Yd x.1=true->Zc Tc 0 (Zb Gx (Zq (decide (x.1=x.2.1)))) GL [] (Yc d0z (encL x)):=by
 rintro⟨a,b,⟨⟩⟩ h
 have h:=of_decide_eq_true h
 refine d3v a b (Di (fun e=>Zw (a1d e).symm) fun e=> ?_)
 exact(b6y a b h e a.length 0 (by omega))
theorem b1d(a b:List Lin)(ha:a.length<=9223372036854775807)(wa:a.all Ye=true)(wb:b.all Ye=true)(hab:a.length=b.length): ∀ (k i:Nat),k+i=a.length ->
  At SK 0 (Zb GV (Zq (decide (a.drop i=b.drop i)))) Hw 0 32 [(1,.pv (enc b)),(2,.pv (.fn 63)),(15,.pv (enc a)),(16,.pv (.int .i64 (a.map (enc:Lin->PV)).length)),(17,.pv (.int .i64 i))] []:=by
 intro k
 induction k with
 | zero=>
  intro i hi
  rw[List.drop_of_length_le (by omega),List.drop_of_length_le (by omega)]
  exact b5e a b i (XC (Vk (by omega)) (Zw rfl))
 | succ k ih=>
  intro i hi
  have h1:i<a.length:=by omega
  have h2:i<b.length:=by omega
  have h:=ih (i+1) (by omega)
  have ga:Ye a[i]=true:=List.all_eq_true.1 wa _ (List.getElem_mem h1)
  have gb:Ye b[i]=true:=List.all_eq_true.1 wb _ (List.getElem_mem h2)
  refine b5e a b i (Xi (WC h1) ⟨ZM h1 rfl,Yb h1 ⟨ZM h2 rfl,Yb h2 ⟨Ze (a[i],b[i],()) rfl (by show(Ye _&&Ye _)=true;rw[ga,gb];rfl),Zd (a[i],b[i],()) rfl (WW (fun e=>Zw ?_) fun e=> ?_)⟩⟩⟩)
  ·rw[List.drop_eq_getElem_cons h1,List.drop_eq_getElem_cons h2,Ht (of_decide_eq_false e)]
  ·rw[next (by omega),List.drop_eq_getElem_cons h1,List.drop_eq_getElem_cons h2,GD (of_decide_eq_true e)]
   exact h
theorem c1j: ∀ x:List Lin×List Lin×FnV 63×Unit,(Yd x.1&&x.1.all Ye&&x.2.1.all Ye)=true->Zc SK 0 (Zb GV (Zq (decide (x.1=x.2.1)))) Hw [] (Yc c9d (encL x)):=by
 rintro⟨a,b,⟨⟩,⟨⟩⟩ h
 simp only[Bool.and_eq_true]at h
 obtain⟨⟨h,wa⟩,wb⟩:=h
 have h:=of_decide_eq_true h
 refine d5f a b (Di (fun e=>Zw (a1d e).symm) fun e=> ?_)
 exact(b1d a b h wa wb e a.length 0 (by omega))
theorem PY{ts:List Tm}(h:tsW ts=true):ts.length<=1048576∧ ∀ k∈ts,tW k=true:=by
 have h:Y2 ts<=1048576:=of_decide_eq_true h
 exact⟨by have:=Ld ts;omega,fun k hk=>decide_eq_true (Nat.le_trans (FI hk) h)⟩
theorem b6c(N:Nat)(a b:List Tm)(ha:a.length<=1048576)(wa : ∀ k∈a,tW k=true)(wb : ∀ k∈b,tW k=true)(hd:ZU a<N)(hab:a.length=b.length): ∀ (k i:Nat),k+i=a.length ->
  At (Rf N) 0 (Zb Hr (Zq (Xp (a.drop i) (b.drop i)))) Gm 0 32 [(1,.pv (enc b)),(2,.pv (.fn 24)),(15,.pv (enc a)),(16,.pv (.int .i64 (a.map (enc:Tm->PV)).length)),(17,.pv (.int .i64 i))] []:=by
 intro k
 induction k with
 | zero=>
  intro i hi
  rw[List.drop_of_length_le (by omega),List.drop_of_length_le (by omega)]
  exact b3d N a b i (XC (Vk (by omega)) (Zw rfl))
 | succ k ih=>
  intro i hi
  have h1:i<a.length:=by omega
  have h2:i<b.length:=by omega
  have h:=ih (i+1) (by omega)
  have hk:=FY (List.getElem_mem h1)
  refine b3d N a b i (Xi (WC h1) ⟨ZM h1 rfl,Yb h1 ⟨XO _,ZM h2 rfl,Yb h2 ⟨XO _,Ze (a[i],b[i],()) (c2x _ _) (by
   show(tW _&&tW _&&decide _)=true
   rw[wa _ (List.getElem_mem h1),wb _ (List.getElem_mem h2),decide_eq_true (show ZI a[i]<N by omega)];rfl),Zd (a[i],b[i],()) (c2x _ _) (WW (fun e=>Zw ?_) fun e=> ?_)⟩⟩⟩)
  ·have e:Kv a[i] b[i]=false:=e
   rw[List.drop_eq_getElem_cons h1,List.drop_eq_getElem_cons h2,Xp,e];rfl
  ·have e:Kv a[i] b[i]=true:=e
   rw[next (by omega),List.drop_eq_getElem_cons h1,List.drop_eq_getElem_cons h2,Xp,e,Bool.true_and]
   exact h
theorem b9o(N:Nat): ∀ x:List Tm×List Tm×FnV 24×Unit,((tsW x.1&&tsW x.2.1)&&decide (ZU x.1<N))=true->Zc (Rf N) 0 (Zb Hr (Zq (Xp x.1 x.2.1))) Gm [] (Yc c8w (encL x)):=by
 rintro⟨a,b,⟨⟩,⟨⟩⟩ h
 simp only[Bool.and_eq_true,decide_eq_true_eq]at h
 obtain⟨⟨wa,wb⟩,hd⟩:=h
 refine d3e N a b (Di (fun e=>Zw (WG fun h=>e (BZ h))) fun e=> ?_)
 exact(b6c N a b (PY wa).1 (PY wa).2 (PY wb).2 hd e a.length 0 (by omega))
theorem b0b{n:Nd}{ks:List Tm}(h:tW (.mk n ks)=true):tsW ks=true:=by
 have h:YO (.mk n ks)<=1048576:=of_decide_eq_true h
 rw[YO]at h
 exact decide_eq_true (by omega)
theorem a2u{α:Type}{l:List α}(h:l.length<=1048576):Yd l=true:=decide_eq_true (by omega)
theorem EW{n:Nd}{ks:List Tm}(h:tW (.mk n ks)=true):n.sizes.all Ye=true:=List.all_eq_true.2 fun l hl=>a8j (LK h l hl)
theorem b9r(N:Nat): ∀ x:Tm×Tm×Unit,((tW x.1&&tW x.2.1)&&decide (ZI x.1<N+1))=true->Zc (c6m N) 0 (Zb b3k (Zq (Kv x.1 x.2.1))) b2s [] (Yc d0e (encL x)):=by
 rintro⟨⟨n,ks⟩,⟨m,ls⟩,⟨⟩⟩ h
 simp only[Bool.and_eq_true,decide_eq_true_eq]at h
 obtain⟨⟨hw,hv⟩,hd⟩:=h
 have hd:ZI (.mk n ks)<N+1:=hd
 rw[ZI]at hd
 have hn:=En hw
 rw[<- d1q]
 refine d5d N n ks m ls (a0g (fun k1=> ?_) fun k=>Zw (WG fun h=>k (Yu.1 h).1.1))
 refine a0g (fun k2=> ?_) fun k=>Zw (WG fun h=>k (by rw[(Yu.1 h).1.2.1]))
 refine a0g (fun k3=> ?_) fun k=>Zw (WG fun h=>k (Yu.1 h).1.2.2.1)
 refine a0g (fun k4=> ?_) fun k=>Zw (WG fun h=>k (by rw[(Yu.1 h).1.2.2.2.1]))
 refine⟨Ze (n.dims,m.dims,()) rfl (a2u hn.dims),Zd (n.dims,m.dims,()) rfl (VK (fun k5=> ?_) fun k=>Zw (WG fun h=>of_decide_eq_false k (Yu.1 h).1.2.2.2.2.1))⟩
 refine⟨Ze (n.data,m.data,()) rfl (a2u hn.data),Zd (n.data,m.data,()) rfl (VK (fun k6=> ?_) fun k=>Zw (WG fun h=>of_decide_eq_false k (Yu.1 h).1.2.2.2.2.2.1))⟩
 have hs:(Yd n.sizes&&n.sizes.all Ye&&m.sizes.all Ye)=true:=by rw[a2u hn.sizes,EW hw,EW hv];rfl
 refine⟨Ze (α:=List Lin×List Lin×FnV 63×Unit) (n.sizes,m.sizes,⟨()⟩,()) rfl hs,Zd (α:=List Lin×List Lin×FnV 63×Unit) (n.sizes,m.sizes,⟨()⟩,()) rfl (VK (fun k7=> ?_) fun k=>Zw (WG fun h=>of_decide_eq_false k (Yu.1 h).1.2.2.2.2.2.2.1))⟩
 refine⟨Ze (n.ranks,m.ranks,()) rfl (a2u hn.ranks),Zd (n.ranks,m.ranks,()) rfl (VK (fun k8=> ?_) fun k=>Zw (WG fun h=>of_decide_eq_false k (Yu.1 h).1.2.2.2.2.2.2.2))⟩
 have hk:(tsW ks&&tsW ls&&decide (ZU ks<N))=true:=by rw[b0b hw,b0b hv,decide_eq_true (show ZU ks<N by omega)];rfl
 refine⟨Ze (α:=List Tm×List Tm×FnV 24×Unit) (ks,ls,⟨()⟩,()) rfl hk,Zd (α:=List Tm×List Tm×FnV 24×Unit) (ks,ls,⟨()⟩,()) rfl (Zw ?_)⟩
 show Xp ks ls=Kv (.mk n ks) (.mk m ls)
 rw[Bool.eq_iff_iff,Yu]
 exact⟨fun h=>⟨⟨k1,stt k2,k3,stt k4,of_decide_eq_true k5,of_decide_eq_true k6,of_decide_eq_true k7,of_decide_eq_true k8⟩,h⟩,fun h=>h.2⟩
theorem b8e: ∀ x:Tm×Tm×Unit,(tW x.1&&tW x.2.1&&tW (Yk x.1)&&tW (Yk x.2.1))=true->Zc c4w 0 (Zb a9d (Zq (VQ x.1 x.2.1))) b6w [] (Yc c9k (encL x)):=by
 rintro⟨⟨n,ks⟩,⟨m,ls⟩,⟨⟩⟩ h
 simp only[Bool.and_eq_true]at h
 obtain⟨⟨⟨h1,h2⟩,h3⟩,h4⟩:=h
 rw[<- d1q]
 have e1:([ndC n ks]:List PV)=encL ((Tm.mk n ks,()):Tm×Unit):=by rw[Y0];rfl
 have e2:([ndC m ls]:List PV)=encL ((Tm.mk m ls,()):Tm×Unit):=by rw[Y0];rfl
 refine d4o n ks m ls ⟨Ze (.mk n ks,()) e1 h1,Zd (.mk n ks,()) e1 ⟨Ze (.mk m ls,()) e2 h2,Zd (.mk m ls,()) e2 ⟨Ze (Yk (.mk n ks),Yk (.mk m ls),()) rfl ?_,Zd (Yk (.mk n ks),Yk (.mk m ls),()) rfl (Zw rfl)⟩⟩⟩
 show(tW _&&tW _)=true
 rw[h3,h4];rfl
end Go.Pl
namespace Go.Pl
open Go.RowKit
open Enc (enc dec is)
open EncL (encL decL isL)
set_option maxRecDepth 100000
noncomputable def b4r:IC:=WB Proofs.Tryz.f50
def b7p:List IRes:=[(.cell true 10 2)]
abbrev d1c:Nat:=8
noncomputable def c6k:ZC:=YR [(51,.pure (preT (fun _:Str×Unit=>true)) (Zk (fun x:Str×Unit=>vT x.1)))]
theorem d6j{G:PV->Prop}(s:List UInt8)(h : ∃ y0:Tm,AV.pv (Zk (fun(x:Str×Unit)=>vT x.1) [(.str s)])=AV.pv (enc y0)∧(∃ y1:Tm,AV.pv (Zk (fun(x:Str×Unit)=>vT x.1) [(.str [(118:UInt8),(49:UInt8)])])=AV.pv (enc y1)∧((List.all [enc y0,enc y1] fun(x:PV)=>List.length (PV.cells x)==10&&PV.cellsOk x)=true∧(G ((.agg [(.int .i64 6),(.int .i64 0),(.str [(97:UInt8),(100:UInt8),(100:UInt8)]),(.int .i64 0),(.str []),(.sl 0 true []),(.sl 0 true []),(.sl 0 true []),(.sl 0 true []),(.sl 10 false [enc y0,enc y1])])))))):Zc c6k 0 (Zb b7p G) b4r [] (Yc 8 [.str s]):=Zc.tp (dm [dv Tm] 8 0x215252) h
noncomputable def b1i:IC:=WB Proofs.Tryz.f12
def a9s:List IRes:=[(.tmp 0)]
abbrev c9i:Nat:=39
noncomputable def c6e:ZC:=YR [(51,.pure (preT (fun _:Str×Unit=>true)) (Zk (fun x:Str×Unit=>vT x.1))),(16,.pure (preT (fun _:Str×Tm×Tm×Unit=>true)) (Zk (fun x:Str×Tm×Tm×Unit=>Pn (KQ x.1 x.2.1 x.2.2.1)))),(50,.pure (preT (fun _:Str×Unit=>true)) (Zk (fun x:Str×Unit=>Pn (Nl x.1)))),(22,.pure (preT (fun x:Tm×Unit=>tW x.1)) (Zk (fun x:Tm×Unit=>VP x.1))),(25,.pure (preT (fun x:Tm×Tm×Unit=>tW x.1&&tW x.2.1)) (Zk (fun x:Tm×Tm×Unit=>Kv x.1 x.2.1))),(30,.pure (preT (fun x:Tm×Unit=>tW x.1)) (Zk (fun x:Tm×Unit=>Yk x.1))),(21,.pure (preT (fun x:Tm×Unit=>tW x.1)) (Zk (fun x:Tm×Unit=>UT x.1))),(18,.pure (preT (fun x:Tm×Tm×Unit=>tW x.1&&tW x.2.1&&tW (Yk x.1)&&tW (Yk x.2.1))) (Zk (fun x:Tm×Tm×Unit=>VQ x.1 x.2.1))),(32,.pure (preT (fun x:Tm×Unit=>tW x.1)) (Zk (fun x:Tm×Unit=>Jb x.1)))]
theorem d5u{G:PV->Prop}(h : ∃ y0:TS,AV.pv (Zk (fun(x:Str×Unit)=>Pn (Nl x.1)) [(.str [(98:UInt8)])])=AV.pv (enc y0)∧(∃ y1:Tm,AV.pv (Zk (fun(x:Str×Unit)=>vT x.1) [(.str [(120:UInt8)])])=AV.pv (enc y1)∧(∃ y2:Tm,AV.pv (Zk (fun(x:Str×Unit)=>vT x.1) [(.str [(97:UInt8)])])=AV.pv (enc y2)∧((Go.Pl.preT (fun(x:Str×Tm×Tm×Unit)=>true) [(.str [(98:UInt8)]),enc y2,(eS y0)])=true∧(∃ y3:TS,AV.pv (Zk (fun(x:Str×Tm×Tm×Unit)=>Pn (KQ x.1 x.2.1 x.2.2.1)) [(.str [(98:UInt8)]),enc y2,(eS y0)])=AV.pv (enc y3)∧((Go.Pl.preT (fun(x:Str×Tm×Tm×Unit)=>true) [(.str [(97:UInt8)]),enc y1,(eS y3)])=true∧(∃ y4:TS,AV.pv (Zk (fun(x:Str×Tm×Tm×Unit)=>Pn (KQ x.1 x.2.1 x.2.2.1)) [(.str [(97:UInt8)]),enc y1,(eS y3)])=AV.pv (enc y4)∧(∃ y5:Tm,AV.pv (Zk (fun(x:Str×Unit)=>vT x.1) [(.str [(120:UInt8)])])=AV.pv (enc y5)∧(∃ y6:Tm,AV.pv (Zk (fun(x:Str×Unit)=>vT x.1) [(.str [(118:UInt8),(50:UInt8)])])=AV.pv (enc y6)∧(∃ y7:TS,AV.pv (Zk (fun(x:Str×Unit)=>Pn (Nl x.1)) [(.str [(118:UInt8),(51:UInt8)])])=AV.pv (enc y7)∧((Go.Pl.preT (fun(x:Str×Tm×Tm×Unit)=>true) [(.str [(118:UInt8),(51:UInt8)]),enc y6,(eS y7)])=true∧(∃ y8:TS,AV.pv (Zk (fun(x:Str×Tm×Tm×Unit)=>Pn (KQ x.1 x.2.1 x.2.2.1)) [(.str [(118:UInt8),(51:UInt8)]),enc y6,(eS y7)])=AV.pv (enc y8)∧((Go.Pl.preT (fun(x:Str×Tm×Tm×Unit)=>true) [(.str [(118:UInt8),(50:UInt8)]),enc y5,(eS y8)])=true∧(∃ y9:TS,AV.pv (Zk (fun(x:Str×Tm×Tm×Unit)=>Pn (KQ x.1 x.2.1 x.2.2.1)) [(.str [(118:UInt8),(50:UInt8)]),enc y5,(eS y8)])=AV.pv (enc y9)∧((Go.Pl.preT (fun(x:Tm×Unit)=>tW x.1) [(eS y4)])=true∧(∃ y10:Bool,AV.pv (Zk (fun(x:Tm×Unit)=>VP x.1) [(eS y4)])=AV.pv (enc y10)∧(if (y10)=true then(Go.Pl.preT (fun(x:Tm×Unit)=>tW x.1) [(eS y4)])=true∧(∃ y11:Tm,AV.pv (Zk (fun(x:Tm×Unit)=>Yk x.1) [(eS y4)])=AV.pv (enc y11)∧((Go.Pl.preT (fun(x:Tm×Tm×Unit)=>tW x.1&&tW x.2.1) [enc y11,(eS y9)])=true∧(∃ y12:Bool,AV.pv (Zk (fun(x:Tm×Tm×Unit)=>Kv x.1 x.2.1) [enc y11,(eS y9)])=AV.pv (enc y12)∧(if (y12)=true then(Go.Pl.preT (fun(x:Tm×Unit)=>tW x.1) [(eS y4)])=true∧(∃ y13:Int,AV.pv (Zk (fun(x:Tm×Unit)=>UT x.1) [(eS y4)])=AV.pv (enc y13)∧(if (y13==7)=true then(Go.Pl.preT (fun(x:Tm×Tm×Unit)=>tW x.1&&tW x.2.1&&tW (Yk x.1)&&tW (Yk x.2.1)) [(eS y4),(eS y9)])=true∧(∃ y14:Bool,AV.pv (Zk (fun(x:Tm×Tm×Unit)=>VQ x.1 x.2.1) [(eS y4),(eS y9)])=AV.pv (enc y14)∧(if (y14)=true then(Go.Pl.preT (fun(x:Tm×Unit)=>tW x.1) [(eS y4)])=true∧(∃ y15:List Str,AV.pv (Zk (fun(x:Tm×Unit)=>Jb x.1) [(eS y4)])=AV.pv (enc y15)∧(G ((.bool ((↑(List.length (List.map enc y15)):Int)==1)))))else(G ((.bool false)))))else(G ((.bool false)))))else(G ((.bool false)))))))else(G ((.bool false)))))))))))))))))))):Zc c6e 0 (Zb a9s G) b1i [] (Yc 39 []):=Zc.tp (dm [dv TS,dv Tm,dv Bool,dv Int,dv (List Str)] 111 0x2222222222222222202222222222220222222220222202222912008427122016422281202942712261204247151515262625151626252) h
end Go.Pl
namespace Go.Pl
open Go.RowKit
open Enc (enc dec is)
open EncL (encL decL isL)
theorem c1o: ∀ x:Str×Unit,true=true->Zc c6k 0 (Zb b7p (Zq (Nl x.1))) b4r [] (Yc d1c (encL x)):=by
 rintro⟨s,⟨⟩⟩ _
 refine d6j s.s (Zd (s,()) rfl (Zd (⟨[118,49]⟩,()) rfl ⟨?_,?_⟩))
 ·simp only[List.all_cons,List.all_nil,vT,Zy]
  rfl
 ·have h:is (List Tm) (.sl 10 false [enc (vT s),enc (vT ⟨[118,49]⟩)])=true:=Enc.is_enc [vT s,vT ⟨[118,49]⟩]
  have h2:(dec (.sl 10 false [enc (vT s),enc (vT ⟨[118,49]⟩)]):List Tm)=[vT s,vT ⟨[118,49]⟩]:=Enc.dec_enc [vT s,vT ⟨[118,49]⟩]
  refine⟨?_,?_⟩
  ·simp[h]
  ·rw[b2i _ _ _ _ _ _ _ _ _ _ h,h2]
   simp[Nl,FO,d6r]
theorem c1m: ∀ x:Unit,true=true->Zc c6e 0 (Zb a9s (Zq true)) b1i [] (Yc c9i (encL x)):=by
 rintro⟨⟩ _
 refine d5u (Zd (⟨[98]⟩,()) rfl (Zd (⟨[120]⟩,()) rfl (Zd (⟨[97]⟩,()) rfl ?_)))
 refine⟨Ze (⟨[98]⟩,vT ⟨[97]⟩,Nl ⟨[98]⟩,()) (Nz _ _ _) rfl,Zd (⟨[98]⟩,vT ⟨[97]⟩,Nl ⟨[98]⟩,()) (Nz _ _ _) ?_⟩
 refine⟨Ze (⟨[97]⟩,vT ⟨[120]⟩,KQ ⟨[98]⟩ (vT ⟨[97]⟩) (Nl ⟨[98]⟩),()) (Nz _ _ _) rfl,Zd (⟨[97]⟩,vT ⟨[120]⟩,KQ ⟨[98]⟩ (vT ⟨[97]⟩) (Nl ⟨[98]⟩),()) (Nz _ _ _) ?_⟩
 refine Zd (⟨[120]⟩,()) rfl (Zd (⟨[118,50]⟩,()) rfl (Zd (⟨[118,51]⟩,()) rfl ?_))
 refine⟨Ze (⟨[118,51]⟩,vT ⟨[118,50]⟩,Nl ⟨[118,51]⟩,()) (Nz _ _ _) rfl,Zd (⟨[118,51]⟩,vT ⟨[118,50]⟩,Nl ⟨[118,51]⟩,()) (Nz _ _ _) ?_⟩
 refine⟨Ze (⟨[118,50]⟩,vT ⟨[120]⟩,KQ ⟨[118,51]⟩ (vT ⟨[118,50]⟩) (Nl ⟨[118,51]⟩),()) (Nz _ _ _) rfl,Zd (⟨[118,50]⟩,vT ⟨[120]⟩,KQ ⟨[118,51]⟩ (vT ⟨[118,50]⟩) (Nl ⟨[118,51]⟩),()) (Nz _ _ _) ?_⟩
 refine⟨Ze (Ki,()) (a1S Ki) b2x,Zd (Ki,()) (a1S Ki) (Xi b3x ?_)⟩
 refine⟨Ze (Ki,()) (a1S Ki) b2x,Zd (Ki,()) (a1S Ki) ?_⟩
 refine⟨Ze (Yk Ki,Rw,()) (d6c _ Rw) (by show(tW (Yk Ki)&&tW Rw)=true;rw[Pv,c6u];rfl),Zd (Yk Ki,Rw,()) (d6c _ Rw) (Xi (by show Kv (Yk Ki) Rw=true;rw[Pv];exact c6r) ?_)⟩
 refine⟨Ze (Ki,()) (a1S Ki) b2x,Zd (Ki,()) (a1S Ki) (Xi (by show(UT Ki==7)=true;unfold UT;rw[b8q];rfl) ?_)⟩
 refine⟨Ze (Ki,Rw,()) (a4v Ki Rw) (by show(tW Ki&&tW Rw&&tW (Yk Ki)&&tW (Yk Rw))=true;rw[Pv,E8,b2x,c6u];rfl),Zd (Ki,Rw,()) (a4v Ki Rw) (Xi (by show Kv (Yk Ki) (Yk Rw)=true;rw[Pv,E8];exact c6r) ?_)⟩
 refine⟨Ze (Ki,()) (a1S Ki) b2x,Zd (Ki,()) (a1S Ki) (Zw ?_)⟩
 show(((List.map (enc:Str->PV) (Jb Ki)).length:Int)==1)=true
 rw[List.length_map,b7e];rfl
theorem nd1(n:Nd)(ks:List Tm):([ndC n ks]:List PV)=encL (Tm.mk n ks,()):=by rw[Y0];rfl
end Go.Pl
namespace Go.Pl
open Go.RowKit
open Enc (enc dec is)
open EncL (encL decL isL)
set_option maxRecDepth 100000
end Go.Pl
namespace Go.Pl
open Go.RowKit
open Enc (enc dec is)
open EncL (encL decL isL)
end Go.Pl
namespace Go.Pl
open Go.RowKit
open Enc (enc dec is)
open EncL (encL decL isL)
set_option maxRecDepth 100000
def XX:IC:=(Vw [ZJ 1 (.box 10 (.t 0)) 0,ZJ 2 (.alloc (.agg [(.int .i64 0),(.int .i64 0),(.str []),(.int .i64 0),(.str []),(.sl 0 true []),(.sl 0 true []),(.sl 0 true []),(.sl 0 true []),(.sl 0 true [])])) 1] (.seq (.reg [ZJ 5 (.faddr 4 (.t 1)) 0,ZJ 6 (.faddr 0 (.t 5)) 0,ZJ 7 (.load false [.str] (.t 6)) 0,ZJ 8 (.faddr 4 (.t 1)) 0,ZJ 9 (.faddr 1 (.t 8)) 0,ZJ 10 (Si [(.sl 1)] (.t 9)) 0,ZJ 11 (c'' 93 [(.t 10)]) 0,ZJ 12 (.faddr 4 (.t 1)) 2,ZJ 13 (.faddr 2 (.t 12)) 2,ZJ 14 (Si [(.sl 1)] (.t 13)) 2,ZJ 15 (c'' 93 [(.t 14)]) 2,ZJ 16 (.build [(.str []),(.sl 0 true []),(.sl 0 true [])] [(0,(1,(.t 7))),(1,(1,(.t 11))),(2,(1,(.t 15)))]) 4,ZJ 17 (.faddr 4 (.t 1)) 4,PR (.store 3 (.t 17) (.t 16)) 4] (some [[],[0],[1,0],[],[3],[4,3],[5,4,3],[],[7],[8,7],[9,6,8,7,5,4,3],[2,6,10,1,0,5,4,3,9,8,7],[0,1,2,3,4,5,6,7,8,9,10,11],[12,11,10,0,1,2,3,4,5,6,7,8,9]])) (Vw [ZJ 18 (.faddr 8 (.t 1)) 0,ZJ 19 (Si [(.sl 1)] (.t 18)) 0,ZJ 20 (c'' 93 [(.t 19)]) 0,ZJ 21 (.faddr 8 (.t 1)) 2,PR (.store 1 (.t 21) (.t 20)) 2] (Vw [ZJ 22 (.faddr 7 (.t 1)) 0,ZJ 23 (Si [(.sl 2)] (.t 22)) 0,ZJ 24 (c'' 94 [(.t 23)]) 0,ZJ 25 (.faddr 7 (.t 1)) 2,PR (.store 1 (.t 25) (.t 24)) 2] (.seq (Vw [ZJ 26 (.faddr 7 (.t 1)) 0,ZJ 27 (Si [(.sl 2)] (.t 26)) 0,ZJ 28 (.len 1 (.t 27)) 0,ZJ 29 (.mv (Qs 0)) 0] (.block 0 (.loop [29,28,1,49,50,52,51,53,54,55,4,58,59,60,61,62,56,57,64,63,65,2,66] (Vw [ZJ 30 (DY .lss (.t 29) (.t 28)) 0] (.seq (.cond (.t 30) .skip (.exit 0)) (.seq (.block 1 (Vw [ZJ 31 (WE 29) 0,ZJ 3 (WE 31) 0] (.reg [ZJ 32 (.faddr 7 (.t 1)) 0,ZJ 33 (Si [(.sl 2)] (.t 32)) 0,ZJ 34 (WE 3) 0,ZJ 35 (.faddr 7 (.t 1)) 0,ZJ 36 (Si [(.sl 2)] (.t 35)) 0,ZJ 37 (WE 3) 0,ZJ 38 (.iaddr 2 (.t 36) (.t 37)) 0,ZJ 39 (.faddr 1 (.t 38)) 0,ZJ 40 (Si [(.sl 2)] (.t 39)) 0,ZJ 41 (c'' 95 [(.t 40)]) 0,ZJ 42 (.iaddr 2 (.t 33) (.t 34)) 2,ZJ 43 (.faddr 1 (.t 42)) 2,PR (.store 1 (.t 43) (.t 41)) 2] (some [[],[0],[],[],[3],[],[4,5,3],[6,4,5,3],[7,6,4,5,3],[8,7,6,4,5,3],[1,2,0,3,4,5,6,7,8,9],[10,0,1,2,3,4,5,6,7,8,9],[11,9,0,1,2,3,4,5,6,7,8,10]])))) (.reg [ZJ 44 (DY .add (.t 29) (Qs 1)) 0,ZJ 29 (WE 44) 0] none))))))) (Vw [ZJ 45 (.faddr 9 (.t 1)) 0,ZJ 46 (Si [(.sl 10)] (.t 45)) 0,ZJ 47 (c'' 96 [(.t 46)]) 0,ZJ 48 (.faddr 9 (.t 1)) 2,PR (.store 1 (.t 48) (.t 47)) 2] (.ext 0 [1,49,50,52,51,53,54,55,4,58,59,60,61,62,56,57,64,63,65,2,66])))))))
def U5:ZC:=YR [(93,.pure (preT (fun x:List Int×Unit=>decide (x.1.length<=2000000))) (Zk (fun x:List Int×Unit=>x.1))),(94,.own (Yj 2) (Xr 62 2)),(95,.pure (preT (fun x:List Coef×Unit=>decide (x.1.length<=2000000))) (Zk (fun x:List Coef×Unit=>x.1))),(96,.own (Yj 10) (Xr 28 10))]
theorem d1e{G:Zo->Prop}(RR:Nat->St->Prop)(n:Nd)(ks:List Tm)(h:(Go.Pl.preT (fun(x:List Int×Unit)=>decide (List.length x.1<=2000000)) [(.sl 1 false (List.map enc (Nd.dims n)))])=true∧(∃ y0:List Int,AV.pv (Zk (fun(x:List Int×Unit)=>x.1) [(.sl 1 false (List.map enc (Nd.dims n)))])=AV.pv (enc y0)∧((Go.Pl.preT (fun(x:List Int×Unit)=>decide (List.length x.1<=2000000)) [(.sl 1 false (List.map enc (Nd.data n)))])=true∧(∃ y1:List Int,AV.pv (Zk (fun(x:List Int×Unit)=>x.1) [(.sl 1 false (List.map enc (Nd.data n)))])=AV.pv (enc y1)∧((Go.Pl.preT (fun(x:List Int×Unit)=>decide (List.length x.1<=2000000)) [(.sl 1 false (List.map enc (Nd.ranks n)))])=true∧(∃ y2:List Int,AV.pv (Zk (fun(x:List Int×Unit)=>x.1) [(.sl 1 false (List.map enc (Nd.ranks n)))])=AV.pv (enc y2)∧((Yj 2 [(.pv (.sl 2 false (List.map enc (Nd.sizes n))))] [])=true∧(AtM U5 (WT RR) 0 (fun st=>G st.heap) XX 0 67 [(1,(.ptr 0 0)),(2,(.ptr 1 0)),(4,.undef),(28,(.pv (.int .i64 (↑(List.length (List.map enc (Nd.sizes n)) - 0):Int)))),(29,(.pv (.int .i64 0))),(49,.undef),(50,.undef),(51,.undef),(52,.undef),(53,.undef),(54,.undef),(55,.undef),(56,.undef),(57,.undef),(58,.undef),(59,.undef),(60,.undef),(61,.undef),(62,.undef),(63,.undef),(64,.undef),(65,.undef),(66,.undef)] [(.obj (.box [(.pv (.int .i64 (Nd.kind n))),(.pv (.int .i64 (Nd.line n))),(.pv (.str (Str.s (Nd.name n)))),(.pv (.int .i64 (Nd.num n))),(.pv (.str (Str.s (Nd.elem n)))),(.pv (.sl 1 false (List.map enc y0))),(.pv (.sl 1 false (List.map enc y1))),(.row 2 (List.length (List.map enc (Nd.sizes n))) 0 (List.length (List.map enc (Nd.sizes n)))),(.pv (.sl 1 false (List.map enc y2))),(.pv (.sl 10 false (List.map enc ks)))])),(.obj (.box [(.pv (.int .i64 0)),(.pv (.int .i64 0)),(.pv (.str [])),(.pv (.int .i64 0)),(.pv (.str [])),(.pv (.sl 0 true [])),(.pv (.sl 0 true [])),(.pv (.sl 0 true [])),(.pv (.sl 0 true [])),(.pv (.sl 0 true []))])),(.obj (.row false 62 2 (List.map enc (Nd.sizes n))))])))))))):ZK U5 (WT RR) 0 (fun st=>G st.heap) (.inl XX) [] (We 67 [.pv (.agg [enc n.kind,enc n.line,enc n.name,enc n.num,enc n.elem,enc n.dims,enc n.data,enc n.sizes,enc n.ranks,enc ks])] []):=ZK.mh (dm [dv (List Int)] 10 0x31515151) h
theorem a1z{G:Zo->Prop}(RR:Nat->St->Prop)(n:Nd)(ks:List Tm)(m:Nat)(L:List Lin)(i:Int)(h:if (decide (i<(↑m:Int)))=true then(decide (0<=i)&&decide (0+Int.toNat i<m)&&List.length (List.map enc L)==m)=true∧((List.length (List.map enc L)==m&&decide (0+Int.toNat i<List.length (List.map enc L)))=true∧((decide (0+1+List.length [Sh.sl 2]<=List.length (PV.cells (List.getD (List.map enc L) (0+Int.toNat i) default)))&&Yv (PV.cells (List.getD (List.map enc L) (0+Int.toNat i) default)) (0+1) [Sh.sl 2])=true∧((Go.Pl.preT (fun(x:List Coef×Unit)=>decide (List.length x.1<=2000000)) [(.sl 2 (PV.asT (List.getD (PV.cells (List.getD (List.map enc L) (0+Int.toNat i) default)) (0+1) default)) (PV.asXs (List.getD (PV.cells (List.getD (List.map enc L) (0+Int.toNat i) default)) (0+1) default)))])=true∧(∃ y0:List Coef,AV.pv (Zk (fun(x:List Coef×Unit)=>x.1) [(.sl 2 (PV.asT (List.getD (PV.cells (List.getD (List.map enc L) (0+Int.toNat i) default)) (0+1) default)) (PV.asXs (List.getD (PV.cells (List.getD (List.map enc L) (0+Int.toNat i) default)) (0+1) default)))])=AV.pv (enc y0)∧((decide (0<=i)&&decide (0+Int.toNat i<m)&&List.length (List.map enc L)==m)=true∧((List.length (List.map enc L)==m&&decide (0+Int.toNat i<List.length (List.map enc L))&&List.length (PV.cells (enc y0))==1&&decide (0+1+1<=List.length (PV.cells (List.getD (List.map enc L) (0+Int.toNat i) default)))&&PV.cellsOk (enc y0))=true∧(AtM U5 (WT RR) 0 (fun st=>G st.heap) XX 0 67 [(1,(.ptr 0 0)),(2,(.ptr 1 0)),(4,.undef),(28,(.pv (.int .i64 (↑m:Int)))),(29,(.pv (.int .i64 (IntKind.wrap IntKind.i64 (i+1))))),(49,.undef),(50,.undef),(51,.undef),(52,.undef),(53,.undef),(54,.undef),(55,.undef),(56,.undef),(57,.undef),(58,.undef),(59,.undef),(60,.undef),(61,.undef),(62,.undef),(63,.undef),(64,.undef),(65,.undef),(66,.undef)] [(.obj (.box [(.pv (.int .i64 (Nd.kind n))),(.pv (.int .i64 (Nd.line n))),(.pv (.str (Str.s (Nd.name n)))),(.pv (.int .i64 (Nd.num n))),(.pv (.str (Str.s (Nd.elem n)))),(.pv (.sl 1 false (List.map enc (Nd.dims n)))),(.pv (.sl 1 false (List.map enc (Nd.data n)))),(.row 2 m 0 m),(.pv (.sl 1 false (List.map enc (Nd.ranks n)))),(.pv (.sl 10 false (List.map enc ks)))])),(.obj (.box [(.pv (.int .i64 0)),(.pv (.int .i64 0)),(.pv (.str [])),(.pv (.int .i64 0)),(.pv (.str [])),(.pv (.sl 0 true [])),(.pv (.sl 0 true [])),(.pv (.sl 0 true [])),(.pv (.sl 0 true [])),(.pv (.sl 0 true []))])),(.obj (.row false 62 2 (List.set (List.map enc L) (0+Int.toNat i) (PV.withCells (List.getD (List.map enc L) (0+Int.toNat i) default) (splice (PV.cells (List.getD (List.map enc L) (0+Int.toNat i) default)) (0+1) (PV.cells (enc y0)))))))])))))))else((Yj 10 [(.pv (.sl 10 false (List.map enc ks)))] [])=true∧((WT RR) 0 ⟨Z4 67 0 [(1,(.ptr 0 0)),(2,(.ptr 1 0)),(4,.undef),(49,.undef),(50,.undef),(51,.undef),(52,.undef),(53,.undef),(54,.undef),(55,.undef),(56,.undef),(57,.undef),(58,.undef),(59,.undef),(60,.undef),(61,.undef),(62,.undef),(63,.undef),(64,.undef),(65,.undef),(66,.undef)],[(.obj (.box [(.pv (.int .i64 (Nd.kind n))),(.pv (.int .i64 (Nd.line n))),(.pv (.str (Str.s (Nd.name n)))),(.pv (.int .i64 (Nd.num n))),(.pv (.str (Str.s (Nd.elem n)))),(.pv (.sl 1 false (List.map enc (Nd.dims n)))),(.pv (.sl 1 false (List.map enc (Nd.data n)))),(.row 2 m 0 m),(.pv (.sl 1 false (List.map enc (Nd.ranks n)))),(.row 3 (List.length (List.map enc ks)) 0 (List.length (List.map enc ks)))])),(.obj (.box [(.pv (.int .i64 0)),(.pv (.int .i64 0)),(.pv (.str [])),(.pv (.int .i64 0)),(.pv (.str [])),(.pv (.sl 0 true [])),(.pv (.sl 0 true [])),(.pv (.sl 0 true [])),(.pv (.sl 0 true [])),(.pv (.sl 0 true []))])),(.obj (.row false 62 2 (List.map enc L))),(.obj (.row false 28 10 (List.map enc ks)))]⟩ (fun x S'=>Jq U5 (WT RR) 0 (fun st=>G st.heap) XX 0 x S')))):AtM U5 (WT RR) 0 (fun st=>G st.heap) XX 0 67 [(1,.ptr 0 0),(2,.ptr 1 0),(4,.undef),(28,.pv (.int .i64 m)),(29,.pv (.int .i64 i)),(49,.undef),(50,.undef),(51,.undef),(52,.undef),(53,.undef),(54,.undef),(55,.undef),(56,.undef),(57,.undef),(58,.undef),(59,.undef),(60,.undef),(61,.undef),(62,.undef),(63,.undef),(64,.undef),(65,.undef),(66,.undef)] [.obj (.box [.pv (enc n.kind),.pv (enc n.line),.pv (enc n.name),.pv (enc n.num),.pv (enc n.elem),.pv (enc n.dims),.pv (enc n.data),.row 2 m 0 m,.pv (enc n.ranks),.pv (enc ks)]),.obj (.box [.pv (.int .i64 0),.pv (.int .i64 0),.pv (.str []),.pv (.int .i64 0),.pv (.str []),.pv (.sl 0 true []),.pv (.sl 0 true []),.pv (.sl 0 true []),.pv (.sl 0 true []),.pv (.sl 0 true [])]),.obj (.row false 62 2 (L.map enc))]:=ZK.mh (dm [dv (List Coef)] 20 0x310213151113100b42) h
def Ke:IC:=XX
def Gs:ZC:=YR [(93,.pure (preT (fun x:List Int×Unit=>decide (x.1.length<=2000000))) (Zk (fun x:List Int×Unit=>x.1))),(94,.pure (preT (fun x:List Lin×Unit=>x.1.isEmpty)) (Zk (fun x:List Lin×Unit=>x.1))),(95,.pure (preT (fun x:List Coef×Unit=>decide (x.1.length<=2000000))) (Zk (fun x:List Coef×Unit=>x.1))),(96,.own (Yj 10) (Xr 28 10))]
theorem d1v{G:Zo->Prop}(RR:Nat->St->Prop)(n:Nd)(ks:List Tm)(h:(Go.Pl.preT (fun(x:List Int×Unit)=>decide (List.length x.1<=2000000)) [(.sl 1 false (List.map enc (Nd.dims n)))])=true∧(∃ y0:List Int,AV.pv (Zk (fun(x:List Int×Unit)=>x.1) [(.sl 1 false (List.map enc (Nd.dims n)))])=AV.pv (enc y0)∧((Go.Pl.preT (fun(x:List Int×Unit)=>decide (List.length x.1<=2000000)) [(.sl 1 false (List.map enc (Nd.data n)))])=true∧(∃ y1:List Int,AV.pv (Zk (fun(x:List Int×Unit)=>x.1) [(.sl 1 false (List.map enc (Nd.data n)))])=AV.pv (enc y1)∧((Go.Pl.preT (fun(x:List Int×Unit)=>decide (List.length x.1<=2000000)) [(.sl 1 false (List.map enc (Nd.ranks n)))])=true∧(∃ y2:List Int,AV.pv (Zk (fun(x:List Int×Unit)=>x.1) [(.sl 1 false (List.map enc (Nd.ranks n)))])=AV.pv (enc y2)∧((Go.Pl.preT (fun(x:List Lin×Unit)=>List.isEmpty x.1) [(.sl 2 false (List.map enc (Nd.sizes n)))])=true∧(∃ y3:List Lin,AV.pv (Zk (fun(x:List Lin×Unit)=>x.1) [(.sl 2 false (List.map enc (Nd.sizes n)))])=AV.pv (enc y3)∧(AtM Gs (WT RR) 0 (fun st=>G st.heap) Ke 0 67 [(1,(.ptr 0 0)),(2,(.ptr 1 0)),(4,.undef),(28,(.pv (.int .i64 (↑(List.length (List.map enc y3)):Int)))),(29,(.pv (.int .i64 0))),(49,.undef),(50,.undef),(51,.undef),(52,.undef),(53,.undef),(54,.undef),(55,.undef),(56,.undef),(57,.undef),(58,.undef),(59,.undef),(60,.undef),(61,.undef),(62,.undef),(63,.undef),(64,.undef),(65,.undef),(66,.undef)] [(.obj (.box [(.pv (.int .i64 (Nd.kind n))),(.pv (.int .i64 (Nd.line n))),(.pv (.str (Str.s (Nd.name n)))),(.pv (.int .i64 (Nd.num n))),(.pv (.str (Str.s (Nd.elem n)))),(.pv (.sl 1 false (List.map enc y0))),(.pv (.sl 1 false (List.map enc y1))),(.pv (.sl 2 false (List.map enc y3))),(.pv (.sl 1 false (List.map enc y2))),(.pv (.sl 10 false (List.map enc ks)))])),(.obj (.box [(.pv (.int .i64 0)),(.pv (.int .i64 0)),(.pv (.str [])),(.pv (.int .i64 0)),(.pv (.str [])),(.pv (.sl 0 true [])),(.pv (.sl 0 true [])),(.pv (.sl 0 true [])),(.pv (.sl 0 true [])),(.pv (.sl 0 true []))]))]))))))))):ZK Gs (WT RR) 0 (fun st=>G st.heap) (.inl Ke) [] (We 67 [.pv (.agg [enc n.kind,enc n.line,enc n.name,enc n.num,enc n.elem,enc n.dims,enc n.data,enc n.sizes,enc n.ranks,enc ks])] []):=ZK.mh (dm [dv (List Int),dv (List Lin)] 10 0x61515151) h
-- BAD 1 in a3n
theorem a3n{G:Zo->Prop}(RR:Nat->St->Prop)(n:Nd)(ks:List Tm)(m i:Int)(h:if (decide (i<m))=true then(decide (0<=i)&&decide (Int.toNat i<List.length (List.map enc (Nd.sizes n)))&&Enc.sz Lin==2)=true∧(∃ y0:Lin,AV.pv (PV.rptr (PV.cells (List.getD (List.map enc (Nd.sizes n)) (Int.toNat i) default)))=AV.pv (PV.rptr (PV.cells ((enc) y0)))∧((Go.Pl.preT (fun(x:List Coef×Unit)=>decide (List.length x.1<=2000000)) [(.sl 2 false (PV.asXs (List.getD (List.drop 1 (PV.cells (enc y0))) 0 default)))])=true∧(∃ y1:List Coef,AV.pv (Zk (fun(x:List Coef×Unit)=>x.1) [(.sl 2 false (PV.asXs (List.getD (List.drop 1 (PV.cells (enc y0))) 0 default)))])=AV.pv (enc y1)∧((decide (0<=i)&&decide (Int.toNat i<List.length (List.map enc (Nd.sizes n)))&&Enc.sz Lin==2)=true∧(∃ y2:Lin,AV.pv (PV.rptr (PV.cells (List.getD (List.map enc (Nd.sizes n)) (Int.toNat i) default)))=AV.pv (PV.rptr (PV.cells ((enc) y2)))∧(False))))))else((Yj 10 [(.pv (.sl 10 false (List.map enc ks)))] [])=true∧((WT RR) 0 ⟨Z4 67 0 [(1,(.ptr 0 0)),(2,(.ptr 1 0)),(4,.undef),(49,.undef),(50,.undef),(51,.undef),(52,.undef),(53,.undef),(54,.undef),(55,.undef),(56,.undef),(57,.undef),(58,.undef),(59,.undef),(60,.undef),(61,.undef),(62,.undef),(63,.undef),(64,.undef),(65,.undef),(66,.undef)],[(.obj (.box [(.pv (.int .i64 (Nd.kind n))),(.pv (.int .i64 (Nd.line n))),(.pv (.str (Str.s (Nd.name n)))),(.pv (.int .i64 (Nd.num n))),(.pv (.str (Str.s (Nd.elem n)))),(.pv (.sl 1 false (List.map enc (Nd.dims n)))),(.pv (.sl 1 false (List.map enc (Nd.data n)))),(.pv (.sl 2 false (List.map enc (Nd.sizes n)))),(.pv (.sl 1 false (List.map enc (Nd.ranks n)))),(.row 2 (List.length (List.map enc ks)) 0 (List.length (List.map enc ks)))])),(.obj (.box [(.pv (.int .i64 0)),(.pv (.int .i64 0)),(.pv (.str [])),(.pv (.int .i64 0)),(.pv (.str [])),(.pv (.sl 0 true [])),(.pv (.sl 0 true [])),(.pv (.sl 0 true [])),(.pv (.sl 0 true [])),(.pv (.sl 0 true []))])),(.obj (.row false 28 10 (List.map enc ks)))]⟩ (fun x S'=>Jq Gs (WT RR) 0 (fun st=>G st.heap) Ke 0 x S')))):AtM Gs (WT RR) 0 (fun st=>G st.heap) Ke 0 67 [(1,.ptr 0 0),(2,.ptr 1 0),(4,.undef),(28,.pv (.int .i64 m)),(29,.pv (.int .i64 i)),(49,.undef),(50,.undef),(51,.undef),(52,.undef),(53,.undef),(54,.undef),(55,.undef),(56,.undef),(57,.undef),(58,.undef),(59,.undef),(60,.undef),(61,.undef),(62,.undef),(63,.undef),(64,.undef),(65,.undef),(66,.undef)] [.obj (.box [.pv (enc n.kind),.pv (enc n.line),.pv (enc n.name),.pv (enc n.num),.pv (enc n.elem),.pv (enc n.dims),.pv (enc n.data),.pv (enc n.sizes),.pv (enc n.ranks),.pv (enc ks)]),.obj (.box [.pv (.int .i64 0),.pv (.int .i64 0),.pv (.str []),.pv (.int .i64 0),.pv (.str []),.pv (.sl 0 true []),.pv (.sl 0 true []),.pv (.sl 0 true []),.pv (.sl 0 true []),.pv (.sl 0 true [])])]:=ZK.mh (dm [dr Lin,dv (List Coef)] 17 0x310516125100842) h
def Vu:IC:=XX
def Qa:ZC:=YR [(93,.pure (preT (fun x:List Int×Unit=>decide (x.1.length<=2000000))) (Zk (fun x:List Int×Unit=>x.1))),(94,.own (Yj 2) (Xr 62 2)),(95,.pure (preT (fun x:List Coef×Unit=>decide (x.1.length<=2000000))) (Zk (fun x:List Coef×Unit=>x.1))),(96,.pure (preT (fun x:List Tm×Unit=>x.1.isEmpty)) (Zk (fun x:List Tm×Unit=>x.1)))]
theorem d1j{G:Zo->Prop}(RR:Nat->St->Prop)(n:Nd)(ks:List Tm)(h:(Go.Pl.preT (fun(x:List Int×Unit)=>decide (List.length x.1<=2000000)) [(.sl 1 false (List.map enc (Nd.dims n)))])=true∧(∃ y0:List Int,AV.pv (Zk (fun(x:List Int×Unit)=>x.1) [(.sl 1 false (List.map enc (Nd.dims n)))])=AV.pv (enc y0)∧((Go.Pl.preT (fun(x:List Int×Unit)=>decide (List.length x.1<=2000000)) [(.sl 1 false (List.map enc (Nd.data n)))])=true∧(∃ y1:List Int,AV.pv (Zk (fun(x:List Int×Unit)=>x.1) [(.sl 1 false (List.map enc (Nd.data n)))])=AV.pv (enc y1)∧((Go.Pl.preT (fun(x:List Int×Unit)=>decide (List.length x.1<=2000000)) [(.sl 1 false (List.map enc (Nd.ranks n)))])=true∧(∃ y2:List Int,AV.pv (Zk (fun(x:List Int×Unit)=>x.1) [(.sl 1 false (List.map enc (Nd.ranks n)))])=AV.pv (enc y2)∧((Yj 2 [(.pv (.sl 2 false (List.map enc (Nd.sizes n))))] [])=true∧(AtM Qa (WT RR) 0 (fun st=>G st.heap) Vu 0 67 [(1,(.ptr 0 0)),(2,(.ptr 1 0)),(4,.undef),(28,(.pv (.int .i64 (↑(List.length (List.map enc (Nd.sizes n)) - 0):Int)))),(29,(.pv (.int .i64 0))),(49,.undef),(50,.undef),(51,.undef),(52,.undef),(53,.undef),(54,.undef),(55,.undef),(56,.undef),(57,.undef),(58,.undef),(59,.undef),(60,.undef),(61,.undef),(62,.undef),(63,.undef),(64,.undef),(65,.undef),(66,.undef)] [(.obj (.box [(.pv (.int .i64 (Nd.kind n))),(.pv (.int .i64 (Nd.line n))),(.pv (.str (Str.s (Nd.name n)))),(.pv (.int .i64 (Nd.num n))),(.pv (.str (Str.s (Nd.elem n)))),(.pv (.sl 1 false (List.map enc y0))),(.pv (.sl 1 false (List.map enc y1))),(.row 2 (List.length (List.map enc (Nd.sizes n))) 0 (List.length (List.map enc (Nd.sizes n)))),(.pv (.sl 1 false (List.map enc y2))),(.pv (.sl 10 false (List.map enc ks)))])),(.obj (.box [(.pv (.int .i64 0)),(.pv (.int .i64 0)),(.pv (.str [])),(.pv (.int .i64 0)),(.pv (.str [])),(.pv (.sl 0 true [])),(.pv (.sl 0 true [])),(.pv (.sl 0 true [])),(.pv (.sl 0 true [])),(.pv (.sl 0 true []))])),(.obj (.row false 62 2 (List.map enc (Nd.sizes n))))])))))))):ZK Qa (WT RR) 0 (fun st=>G st.heap) (.inl Vu) [] (We 67 [.pv (.agg [enc n.kind,enc n.line,enc n.name,enc n.num,enc n.elem,enc n.dims,enc n.data,enc n.sizes,enc n.ranks,enc ks])] []):=ZK.mh (dm [dv (List Int)] 10 0x31515151) h
theorem a2z{G:Zo->Prop}(RR:Nat->St->Prop)(n:Nd)(ks:List Tm)(m:Nat)(L:List Lin)(i:Int)(h:if (decide (i<(↑m:Int)))=true then(decide (0<=i)&&decide (0+Int.toNat i<m)&&List.length (List.map enc L)==m)=true∧((List.length (List.map enc L)==m&&decide (0+Int.toNat i<List.length (List.map enc L)))=true∧((decide (0+1+List.length [Sh.sl 2]<=List.length (PV.cells (List.getD (List.map enc L) (0+Int.toNat i) default)))&&Yv (PV.cells (List.getD (List.map enc L) (0+Int.toNat i) default)) (0+1) [Sh.sl 2])=true∧((Go.Pl.preT (fun(x:List Coef×Unit)=>decide (List.length x.1<=2000000)) [(.sl 2 (PV.asT (List.getD (PV.cells (List.getD (List.map enc L) (0+Int.toNat i) default)) (0+1) default)) (PV.asXs (List.getD (PV.cells (List.getD (List.map enc L) (0+Int.toNat i) default)) (0+1) default)))])=true∧(∃ y0:List Coef,AV.pv (Zk (fun(x:List Coef×Unit)=>x.1) [(.sl 2 (PV.asT (List.getD (PV.cells (List.getD (List.map enc L) (0+Int.toNat i) default)) (0+1) default)) (PV.asXs (List.getD (PV.cells (List.getD (List.map enc L) (0+Int.toNat i) default)) (0+1) default)))])=AV.pv (enc y0)∧((decide (0<=i)&&decide (0+Int.toNat i<m)&&List.length (List.map enc L)==m)=true∧((List.length (List.map enc L)==m&&decide (0+Int.toNat i<List.length (List.map enc L))&&List.length (PV.cells (enc y0))==1&&decide (0+1+1<=List.length (PV.cells (List.getD (List.map enc L) (0+Int.toNat i) default)))&&PV.cellsOk (enc y0))=true∧(AtM Qa (WT RR) 0 (fun st=>G st.heap) Vu 0 67 [(1,(.ptr 0 0)),(2,(.ptr 1 0)),(4,.undef),(28,(.pv (.int .i64 (↑m:Int)))),(29,(.pv (.int .i64 (IntKind.wrap IntKind.i64 (i+1))))),(49,.undef),(50,.undef),(51,.undef),(52,.undef),(53,.undef),(54,.undef),(55,.undef),(56,.undef),(57,.undef),(58,.undef),(59,.undef),(60,.undef),(61,.undef),(62,.undef),(63,.undef),(64,.undef),(65,.undef),(66,.undef)] [(.obj (.box [(.pv (.int .i64 (Nd.kind n))),(.pv (.int .i64 (Nd.line n))),(.pv (.str (Str.s (Nd.name n)))),(.pv (.int .i64 (Nd.num n))),(.pv (.str (Str.s (Nd.elem n)))),(.pv (.sl 1 false (List.map enc (Nd.dims n)))),(.pv (.sl 1 false (List.map enc (Nd.data n)))),(.row 2 m 0 m),(.pv (.sl 1 false (List.map enc (Nd.ranks n)))),(.pv (.sl 10 false (List.map enc ks)))])),(.obj (.box [(.pv (.int .i64 0)),(.pv (.int .i64 0)),(.pv (.str [])),(.pv (.int .i64 0)),(.pv (.str [])),(.pv (.sl 0 true [])),(.pv (.sl 0 true [])),(.pv (.sl 0 true [])),(.pv (.sl 0 true [])),(.pv (.sl 0 true []))])),(.obj (.row false 62 2 (List.set (List.map enc L) (0+Int.toNat i) (PV.withCells (List.getD (List.map enc L) (0+Int.toNat i) default) (splice (PV.cells (List.getD (List.map enc L) (0+Int.toNat i) default)) (0+1) (PV.cells (enc y0)))))))])))))))else((Go.Pl.preT (fun(x:List Tm×Unit)=>List.isEmpty x.1) [(.sl 10 false (List.map enc ks))])=true∧(∃ y1:List Tm,AV.pv (Zk (fun(x:List Tm×Unit)=>x.1) [(.sl 10 false (List.map enc ks))])=AV.pv (enc y1)∧((WT RR) 0 ⟨Z4 67 0 [(1,(.ptr 0 0)),(2,(.ptr 1 0)),(4,.undef),(49,.undef),(50,.undef),(51,.undef),(52,.undef),(53,.undef),(54,.undef),(55,.undef),(56,.undef),(57,.undef),(58,.undef),(59,.undef),(60,.undef),(61,.undef),(62,.undef),(63,.undef),(64,.undef),(65,.undef),(66,.undef)],[(.obj (.box [(.pv (.int .i64 (Nd.kind n))),(.pv (.int .i64 (Nd.line n))),(.pv (.str (Str.s (Nd.name n)))),(.pv (.int .i64 (Nd.num n))),(.pv (.str (Str.s (Nd.elem n)))),(.pv (.sl 1 false (List.map enc (Nd.dims n)))),(.pv (.sl 1 false (List.map enc (Nd.data n)))),(.row 2 m 0 m),(.pv (.sl 1 false (List.map enc (Nd.ranks n)))),(.pv (.sl 10 false (List.map enc y1)))])),(.obj (.box [(.pv (.int .i64 0)),(.pv (.int .i64 0)),(.pv (.str [])),(.pv (.int .i64 0)),(.pv (.str [])),(.pv (.sl 0 true [])),(.pv (.sl 0 true [])),(.pv (.sl 0 true [])),(.pv (.sl 0 true [])),(.pv (.sl 0 true []))])),(.obj (.row false 62 2 (List.map enc L)))]⟩ (fun x S'=>Jq Qa (WT RR) 0 (fun st=>G st.heap) Vu 0 x S'))))):AtM Qa (WT RR) 0 (fun st=>G st.heap) Vu 0 67 [(1,.ptr 0 0),(2,.ptr 1 0),(4,.undef),(28,.pv (.int .i64 m)),(29,.pv (.int .i64 i)),(49,.undef),(50,.undef),(51,.undef),(52,.undef),(53,.undef),(54,.undef),(55,.undef),(56,.undef),(57,.undef),(58,.undef),(59,.undef),(60,.undef),(61,.undef),(62,.undef),(63,.undef),(64,.undef),(65,.undef),(66,.undef)] [.obj (.box [.pv (enc n.kind),.pv (enc n.line),.pv (enc n.name),.pv (enc n.num),.pv (enc n.elem),.pv (enc n.dims),.pv (enc n.data),.row 2 m 0 m,.pv (enc n.ranks),.pv (enc ks)]),.obj (.box [.pv (.int .i64 0),.pv (.int .i64 0),.pv (.str []),.pv (.int .i64 0),.pv (.str []),.pv (.sl 0 true []),.pv (.sl 0 true []),.pv (.sl 0 true []),.pv (.sl 0 true []),.pv (.sl 0 true [])]),.obj (.row false 62 2 (L.map enc))]:=ZK.mh (dm [dv (List Coef),dv (List Tm)] 20 0x610213151113100b42) h
def Q3:IC:=XX
def Hu:ZC:=YR [(93,.pure (preT (fun x:List Int×Unit=>decide (x.1.length<=2000000))) (Zk (fun x:List Int×Unit=>x.1))),(94,.pure (preT (fun x:List Lin×Unit=>x.1.isEmpty)) (Zk (fun x:List Lin×Unit=>x.1))),(95,.pure (preT (fun x:List Coef×Unit=>decide (x.1.length<=2000000))) (Zk (fun x:List Coef×Unit=>x.1))),(96,.pure (preT (fun x:List Tm×Unit=>x.1.isEmpty)) (Zk (fun x:List Tm×Unit=>x.1)))]
theorem d2b{G:Zo->Prop}(RR:Nat->St->Prop)(n:Nd)(ks:List Tm)(h:(Go.Pl.preT (fun(x:List Int×Unit)=>decide (List.length x.1<=2000000)) [(.sl 1 false (List.map enc (Nd.dims n)))])=true∧(∃ y0:List Int,AV.pv (Zk (fun(x:List Int×Unit)=>x.1) [(.sl 1 false (List.map enc (Nd.dims n)))])=AV.pv (enc y0)∧((Go.Pl.preT (fun(x:List Int×Unit)=>decide (List.length x.1<=2000000)) [(.sl 1 false (List.map enc (Nd.data n)))])=true∧(∃ y1:List Int,AV.pv (Zk (fun(x:List Int×Unit)=>x.1) [(.sl 1 false (List.map enc (Nd.data n)))])=AV.pv (enc y1)∧((Go.Pl.preT (fun(x:List Int×Unit)=>decide (List.length x.1<=2000000)) [(.sl 1 false (List.map enc (Nd.ranks n)))])=true∧(∃ y2:List Int,AV.pv (Zk (fun(x:List Int×Unit)=>x.1) [(.sl 1 false (List.map enc (Nd.ranks n)))])=AV.pv (enc y2)∧((Go.Pl.preT (fun(x:List Lin×Unit)=>List.isEmpty x.1) [(.sl 2 false (List.map enc (Nd.sizes n)))])=true∧(∃ y3:List Lin,AV.pv (Zk (fun(x:List Lin×Unit)=>x.1) [(.sl 2 false (List.map enc (Nd.sizes n)))])=AV.pv (enc y3)∧(AtM Hu (WT RR) 0 (fun st=>G st.heap) Q3 0 67 [(1,(.ptr 0 0)),(2,(.ptr 1 0)),(4,.undef),(28,(.pv (.int .i64 (↑(List.length (List.map enc y3)):Int)))),(29,(.pv (.int .i64 0))),(49,.undef),(50,.undef),(51,.undef),(52,.undef),(53,.undef),(54,.undef),(55,.undef),(56,.undef),(57,.undef),(58,.undef),(59,.undef),(60,.undef),(61,.undef),(62,.undef),(63,.undef),(64,.undef),(65,.undef),(66,.undef)] [(.obj (.box [(.pv (.int .i64 (Nd.kind n))),(.pv (.int .i64 (Nd.line n))),(.pv (.str (Str.s (Nd.name n)))),(.pv (.int .i64 (Nd.num n))),(.pv (.str (Str.s (Nd.elem n)))),(.pv (.sl 1 false (List.map enc y0))),(.pv (.sl 1 false (List.map enc y1))),(.pv (.sl 2 false (List.map enc y3))),(.pv (.sl 1 false (List.map enc y2))),(.pv (.sl 10 false (List.map enc ks)))])),(.obj (.box [(.pv (.int .i64 0)),(.pv (.int .i64 0)),(.pv (.str [])),(.pv (.int .i64 0)),(.pv (.str [])),(.pv (.sl 0 true [])),(.pv (.sl 0 true [])),(.pv (.sl 0 true [])),(.pv (.sl 0 true [])),(.pv (.sl 0 true []))]))]))))))))):ZK Hu (WT RR) 0 (fun st=>G st.heap) (.inl Q3) [] (We 67 [.pv (.agg [enc n.kind,enc n.line,enc n.name,enc n.num,enc n.elem,enc n.dims,enc n.data,enc n.sizes,enc n.ranks,enc ks])] []):=ZK.mh (dm [dv (List Int),dv (List Lin)] 10 0x61515151) h
-- BAD 1 in a2h
theorem a2h{G:Zo->Prop}(RR:Nat->St->Prop)(n:Nd)(ks:List Tm)(m i:Int)(h:if (decide (i<m))=true then(decide (0<=i)&&decide (Int.toNat i<List.length (List.map enc (Nd.sizes n)))&&Enc.sz Lin==2)=true∧(∃ y0:Lin,AV.pv (PV.rptr (PV.cells (List.getD (List.map enc (Nd.sizes n)) (Int.toNat i) default)))=AV.pv (PV.rptr (PV.cells ((enc) y0)))∧((Go.Pl.preT (fun(x:List Coef×Unit)=>decide (List.length x.1<=2000000)) [(.sl 2 false (PV.asXs (List.getD (List.drop 1 (PV.cells (enc y0))) 0 default)))])=true∧(∃ y1:List Coef,AV.pv (Zk (fun(x:List Coef×Unit)=>x.1) [(.sl 2 false (PV.asXs (List.getD (List.drop 1 (PV.cells (enc y0))) 0 default)))])=AV.pv (enc y1)∧((decide (0<=i)&&decide (Int.toNat i<List.length (List.map enc (Nd.sizes n)))&&Enc.sz Lin==2)=true∧(∃ y2:Lin,AV.pv (PV.rptr (PV.cells (List.getD (List.map enc (Nd.sizes n)) (Int.toNat i) default)))=AV.pv (PV.rptr (PV.cells ((enc) y2)))∧(False))))))else((Go.Pl.preT (fun(x:List Tm×Unit)=>List.isEmpty x.1) [(.sl 10 false (List.map enc ks))])=true∧(∃ y3:List Tm,AV.pv (Zk (fun(x:List Tm×Unit)=>x.1) [(.sl 10 false (List.map enc ks))])=AV.pv (enc y3)∧((WT RR) 0 ⟨Z4 67 0 [(1,(.ptr 0 0)),(2,(.ptr 1 0)),(4,.undef),(49,.undef),(50,.undef),(51,.undef),(52,.undef),(53,.undef),(54,.undef),(55,.undef),(56,.undef),(57,.undef),(58,.undef),(59,.undef),(60,.undef),(61,.undef),(62,.undef),(63,.undef),(64,.undef),(65,.undef),(66,.undef)],[(.obj (.box [(.pv (.int .i64 (Nd.kind n))),(.pv (.int .i64 (Nd.line n))),(.pv (.str (Str.s (Nd.name n)))),(.pv (.int .i64 (Nd.num n))),(.pv (.str (Str.s (Nd.elem n)))),(.pv (.sl 1 false (List.map enc (Nd.dims n)))),(.pv (.sl 1 false (List.map enc (Nd.data n)))),(.pv (.sl 2 false (List.map enc (Nd.sizes n)))),(.pv (.sl 1 false (List.map enc (Nd.ranks n)))),(.pv (.sl 10 false (List.map enc y3)))])),(.obj (.box [(.pv (.int .i64 0)),(.pv (.int .i64 0)),(.pv (.str [])),(.pv (.int .i64 0)),(.pv (.str [])),(.pv (.sl 0 true [])),(.pv (.sl 0 true [])),(.pv (.sl 0 true [])),(.pv (.sl 0 true [])),(.pv (.sl 0 true []))]))]⟩ (fun x S'=>Jq Hu (WT RR) 0 (fun st=>G st.heap) Q3 0 x S'))))):AtM Hu (WT RR) 0 (fun st=>G st.heap) Q3 0 67 [(1,.ptr 0 0),(2,.ptr 1 0),(4,.undef),(28,.pv (.int .i64 m)),(29,.pv (.int .i64 i)),(49,.undef),(50,.undef),(51,.undef),(52,.undef),(53,.undef),(54,.undef),(55,.undef),(56,.undef),(57,.undef),(58,.undef),(59,.undef),(60,.undef),(61,.undef),(62,.undef),(63,.undef),(64,.undef),(65,.undef),(66,.undef)] [.obj (.box [.pv (enc n.kind),.pv (enc n.line),.pv (enc n.name),.pv (enc n.num),.pv (enc n.elem),.pv (enc n.dims),.pv (enc n.data),.pv (enc n.sizes),.pv (enc n.ranks),.pv (enc ks)]),.obj (.box [.pv (.int .i64 0),.pv (.int .i64 0),.pv (.str []),.pv (.int .i64 0),.pv (.str []),.pv (.sl 0 true []),.pv (.sl 0 true []),.pv (.sl 0 true []),.pv (.sl 0 true []),.pv (.sl 0 true [])])]:=ZK.mh (dm [dr Lin,dv (List Coef),dv (List Tm)] 17 0x710516125100842) h
end Go.Pl
namespace Go.Pl
open Go.RowKit
open Enc (enc dec is)
open EncL (encL decL isL)
def d5a:List (Nat×AV):=[(1,.ptr 0 0),(2,.ptr 1 0),(4,.undef),(49,.undef),(50,.undef),(51,.undef),(52,.undef),(53,.undef),(54,.undef),(55,.undef),(56,.undef),(57,.undef),(58,.undef),(59,.undef),(60,.undef),(61,.undef),(62,.undef),(63,.undef),(64,.undef),(65,.undef),(66,.undef)]
def cpZ:List AV:=[.pv (.int .i64 0),.pv (.int .i64 0),.pv (.str []),.pv (.int .i64 0),.pv (.str []),.pv (.sl 0 true []),.pv (.sl 0 true []),.pv (.sl 0 true []),.pv (.sl 0 true []),.pv (.sl 0 true [])]
def b4z(n:Nd)(SZ:AV):List AV:=[.pv (enc n.kind),.pv (enc n.line),.pv (enc n.name),.pv (enc n.num),.pv (enc n.elem),.pv (enc n.dims),.pv (enc n.data),SZ,.pv (enc n.ranks)]
def cpR(n:Nd)(ks:List Tm)(m:Nat)(S:St):Prop:=m=0∧S.env=Z4 67 0 d5a∧ ∃ (SZ KD:AV) (b:Bool) (rest:Zo),S.heap = .obj (.box (b4z n SZ++[KD])):: .obj (.box cpZ)::rest ∧
 ((b=false∧SZ = .pv (enc n.sizes))∨(b=true∧SZ = .row 2 n.sizes.length 0 n.sizes.length∧S.heap[2]? = some (.obj (.row false 62 2 (n.sizes.map enc))))) ∧
 ((ks=[]∧KD = .pv (enc ks))∨(ks≠[]∧KD = .row (if b=true then 3 else 2) ks.length 0 ks.length∧S.heap[if b=true then 3 else 2]? = some (.obj (.row false 28 10 (ks.map enc)))))
theorem Ph{α:Type}[Enc α]{l:List α}{s:Nat}(h:l≠[])(hl:l.length<=2000000):Yj s [(.pv (.sl s false (List.map enc l)))] []=true:=by
 simp[Yj,h,hl]
theorem a9u{RR:Nat->St->Prop}{n:Nd}{ks:List Tm}(hne:ks≠[])(hk:ks.length<=2000000)(hl:n.sizes.length<=2000000)(ht : ∀ l∈n.sizes,l.t.length<=2000000){m:Nat}(hm:m=n.sizes.length)(hR : ∀ S,cpR n ks 0 S->RR 0 S): ∀ (d i:Nat),d+i=n.sizes.length ->
  AtM U5 (WT RR) 0 (fun _=>False) XX 0 67 [(1,.ptr 0 0),(2,.ptr 1 0),(4,.undef),(28,.pv (.int .i64 m)),(29,.pv (.int .i64 i)),(49,.undef),(50,.undef),(51,.undef),(52,.undef),(53,.undef),(54,.undef),(55,.undef),(56,.undef),(57,.undef),(58,.undef),(59,.undef),(60,.undef),(61,.undef),(62,.undef),(63,.undef),(64,.undef),(65,.undef),(66,.undef)]
   [.obj (.box [.pv (enc n.kind),.pv (enc n.line),.pv (enc n.name),.pv (enc n.num),.pv (enc n.elem),.pv (enc n.dims),.pv (enc n.data),.row 2 m 0 m,.pv (enc n.ranks),.pv (enc ks)]),.obj (.box cpZ),.obj (.row false 62 2 (n.sizes.map enc))]:=by
 subst hm
 intro d
 induction d with
 | zero=>
  intro i hi
  refine a1z (G:=fun _=>False) RR n ks n.sizes.length n.sizes i (XC (Uu (by omega)) ⟨Ph hne hk,hR _ ⟨rfl,rfl,_,_,true,_,rfl,.inr ⟨rfl,rfl,rfl⟩,.inr ⟨hne,by simp,rfl⟩⟩⟩)
 | succ d ih=>
  intro i hi
  have h1:i<n.sizes.length:=by omega
  refine a1z (G:=fun _=>False) RR n ks n.sizes.length n.sizes i (Xi (Uw h1) ?_)
  have e:List.getD (List.map (enc:Lin->PV) n.sizes) (0+Int.toNat (i:Int)) default=enc n.sizes[i]:=by rw[Nat.zero_add];exact Hl enc h1
  have e2:(enc n.sizes[i]:PV) = .agg [.int .i64 n.sizes[i].k,.sl 2 false (n.sizes[i].t.map enc)]:=rfl
  have e3:List.set (n.sizes.map (enc:Lin->PV)) (0+Int.toNat (i:Int)) (.agg [.int .i64 n.sizes[i].k,.sl 2 false (n.sizes[i].t.map enc)])=n.sizes.map enc:=by
   rw[Nat.zero_add,Int.toNat_natCast,<- e2]
   apply List.ext_getElem?
   intro j
   rw[List.getElem?_set]
   split
   ·rename_i h;subst h;rw[if_pos (by simpa using h1),List.getElem?_map,List.getElem?_eq_getElem h1];rfl
   ·rfl
  have hc:=ht _ (List.getElem_mem h1)
  simp only[e,e2]
  refine⟨by simp[h1],by simp[h1],by simp[PV.cells,Yv,Sh.fit],Ze (n.sizes[i].t,()) rfl (decide_eq_true hc),Zd (n.sizes[i].t,()) rfl ⟨by simp[h1],?_,?_⟩⟩
  ·simp[h1,PV.cells,PV.cellsOk,enc]
  ·show AtM U5 (WT RR) 0 (fun _=>False) XX 0 67 _ [_,_,.obj (.row false 62 2 (List.set (n.sizes.map (enc:Lin->PV)) (0+Int.toNat (i:Int)) (.agg [.int .i64 n.sizes[i].k,.sl 2 false (n.sizes[i].t.map enc)])))]
   rw[e3,next (by omega)]
   exact ih (i+1) (by omega)
theorem a8k{RR:Nat->St->Prop}{n:Nd}(hl:n.sizes.length<=2000000)(ht : ∀ l∈n.sizes,l.t.length<=2000000){m:Nat}(hm:m=n.sizes.length)(hR : ∀ S,cpR n [] 0 S->RR 0 S): ∀ (d i:Nat),d+i=n.sizes.length ->
  AtM Qa (WT RR) 0 (fun _=>False) Vu 0 67 [(1,.ptr 0 0),(2,.ptr 1 0),(4,.undef),(28,.pv (.int .i64 m)),(29,.pv (.int .i64 i)),(49,.undef),(50,.undef),(51,.undef),(52,.undef),(53,.undef),(54,.undef),(55,.undef),(56,.undef),(57,.undef),(58,.undef),(59,.undef),(60,.undef),(61,.undef),(62,.undef),(63,.undef),(64,.undef),(65,.undef),(66,.undef)]
   [.obj (.box [.pv (enc n.kind),.pv (enc n.line),.pv (enc n.name),.pv (enc n.num),.pv (enc n.elem),.pv (enc n.dims),.pv (enc n.data),.row 2 m 0 m,.pv (enc n.ranks),.pv (enc ([]:List Tm))]),.obj (.box cpZ),.obj (.row false 62 2 (n.sizes.map enc))]:=by
 subst hm
 intro d
 induction d with
 | zero=>
  intro i hi
  refine a2z (G:=fun _=>False) RR n [] n.sizes.length n.sizes i (XC (Uu (by omega)) ⟨Ze (([]:List Tm),()) rfl rfl,Zd (([]:List Tm),()) rfl (hR _ ⟨rfl,rfl,_,_,true,_,rfl,.inr ⟨rfl,rfl,rfl⟩,.inl ⟨rfl,rfl⟩⟩)⟩)
 | succ d ih=>
  intro i hi
  have h1:i<n.sizes.length:=by omega
  refine a2z (G:=fun _=>False) RR n [] n.sizes.length n.sizes i (Xi (Uw h1) ?_)
  have e:List.getD (List.map (enc:Lin->PV) n.sizes) (0+Int.toNat (i:Int)) default=enc n.sizes[i]:=by rw[Nat.zero_add];exact Hl enc h1
  have e2:(enc n.sizes[i]:PV) = .agg [.int .i64 n.sizes[i].k,.sl 2 false (n.sizes[i].t.map enc)]:=rfl
  have e3:List.set (n.sizes.map (enc:Lin->PV)) (0+Int.toNat (i:Int)) (.agg [.int .i64 n.sizes[i].k,.sl 2 false (n.sizes[i].t.map enc)])=n.sizes.map enc:=by
   rw[Nat.zero_add,Int.toNat_natCast,<- e2]
   apply List.ext_getElem?
   intro j
   rw[List.getElem?_set]
   split
   ·rename_i h;subst h;rw[if_pos (by simpa using h1),List.getElem?_map,List.getElem?_eq_getElem h1];rfl
   ·rfl
  have hc:=ht _ (List.getElem_mem h1)
  simp only[e,e2]
  refine⟨by simp[h1],by simp[h1],by simp[PV.cells,Yv,Sh.fit],Ze (n.sizes[i].t,()) rfl (decide_eq_true hc),Zd (n.sizes[i].t,()) rfl ⟨by simp[h1],?_,?_⟩⟩
  ·simp[h1,PV.cells,PV.cellsOk,enc]
  ·show AtM Qa (WT RR) 0 (fun _=>False) Vu 0 67 _ [_,_,.obj (.row false 62 2 (List.set (n.sizes.map (enc:Lin->PV)) (0+Int.toNat (i:Int)) (.agg [.int .i64 n.sizes[i].k,.sl 2 false (n.sizes[i].t.map enc)])))]
   rw[e3,next (by omega)]
   exact ih (i+1) (by omega)
abbrev ED(n:Nd)(ks:List Tm):St:=We 67 [.pv (.agg [enc n.kind,enc n.line,enc n.name,enc n.num,enc n.elem,enc n.dims,enc n.data,enc n.sizes,enc n.ranks,enc ks])] []
theorem d6a{RR:Nat->St->Prop}{n:Nd}{ks:List Tm}(hw:tW (.mk n ks)=true)(hs:n.sizes≠[])(hne:ks≠[])(hR : ∀ S,cpR n ks 0 S->RR 0 S):ZK U5 (WT RR) 0 (fun _=>False) (.inl XX) [] (ED n ks):=by
 have hb:=En hw
 have hk:=(YB hw).1
 have h1:=hb.dims;have h2:=hb.data;have h3:=hb.ranks;have hsz:=hb.sizes
 refine d1e (G:=fun _=>False) RR n ks ⟨Ze (n.dims,()) rfl (decide_eq_true (show n.dims.length<=2000000 by omega)),Zd (n.dims,()) rfl ⟨Ze (n.data,()) rfl (decide_eq_true (show n.data.length<=2000000 by omega)),Zd (n.data,()) rfl
  ⟨Ze (n.ranks,()) rfl (decide_eq_true (show n.ranks.length<=2000000 by omega)),Zd (n.ranks,()) rfl ⟨Ph hs (by omega),a9u hne (by omega) (by omega) (fun l hl=>by have:=hb.lens l hl;omega) (List.length_map _) hR n.sizes.length 0 (by omega)⟩⟩⟩⟩
theorem d5z{RR:Nat->St->Prop}{n:Nd}{ks:List Tm}(hw:tW (.mk n ks)=true)(hs:n.sizes≠[])(hz:ks=[])(hR : ∀ S,cpR n ks 0 S->RR 0 S):ZK Qa (WT RR) 0 (fun _=>False) (.inl Vu) [] (ED n ks):=by
 have hb:=En hw
 have hk:=(YB hw).1
 have h1:=hb.dims;have h2:=hb.data;have h3:=hb.ranks;have hsz:=hb.sizes
 subst hz
 refine d1j (G:=fun _=>False) RR n [] ⟨Ze (n.dims,()) rfl (decide_eq_true (show n.dims.length<=2000000 by omega)),Zd (n.dims,()) rfl ⟨Ze (n.data,()) rfl (decide_eq_true (show n.data.length<=2000000 by omega)),Zd (n.data,()) rfl
  ⟨Ze (n.ranks,()) rfl (decide_eq_true (show n.ranks.length<=2000000 by omega)),Zd (n.ranks,()) rfl ⟨Ph hs (by omega),a8k (by omega) (fun l hl=>by have:=hb.lens l hl;omega) (List.length_map _) hR n.sizes.length 0 (by omega)⟩⟩⟩⟩
theorem d4w{RR:Nat->St->Prop}{n:Nd}{ks:List Tm}(hw:tW (.mk n ks)=true)(hs:n.sizes=[])(hne:ks≠[])(hR : ∀ S,cpR n ks 0 S->RR 0 S):ZK Gs (WT RR) 0 (fun _=>False) (.inl Ke) [] (ED n ks):=by
 have hb:=En hw
 have hk:=(YB hw).1
 have h1:=hb.dims;have h2:=hb.data;have h3:=hb.ranks;have hsz:=hb.sizes
 refine d1v (G:=fun _=>False) RR n ks ⟨Ze (n.dims,()) rfl (decide_eq_true (show n.dims.length<=2000000 by omega)),Zd (n.dims,()) rfl ⟨Ze (n.data,()) rfl (decide_eq_true (show n.data.length<=2000000 by omega)),Zd (n.data,()) rfl
  ⟨Ze (n.ranks,()) rfl (decide_eq_true (show n.ranks.length<=2000000 by omega)),Zd (n.ranks,()) rfl ⟨Ze (n.sizes,()) rfl (by rw[hs];rfl),Zd (n.sizes,()) rfl (a3n (G:=fun _=>False) RR n ks (List.length (List.map (enc:Lin->PV) n.sizes)) 0 (XC (by rw[hs];decide) ⟨Ph hne (by omega),hR _ ⟨rfl,rfl,_,_,false,_,rfl,.inl ⟨rfl,rfl⟩,.inr ⟨hne,by simp,rfl⟩⟩⟩))⟩⟩⟩⟩
theorem d5p{RR:Nat->St->Prop}{n:Nd}{ks:List Tm}(hw:tW (.mk n ks)=true)(hs:n.sizes=[])(hz:ks=[])(hR : ∀ S,cpR n ks 0 S->RR 0 S):ZK Hu (WT RR) 0 (fun _=>False) (.inl Q3) [] (ED n ks):=by
 have hb:=En hw
 have hk:=(YB hw).1
 have h1:=hb.dims;have h2:=hb.data;have h3:=hb.ranks;have hsz:=hb.sizes
 subst hz
 refine d2b (G:=fun _=>False) RR n [] ⟨Ze (n.dims,()) rfl (decide_eq_true (show n.dims.length<=2000000 by omega)),Zd (n.dims,()) rfl ⟨Ze (n.data,()) rfl (decide_eq_true (show n.data.length<=2000000 by omega)),Zd (n.data,()) rfl
  ⟨Ze (n.ranks,()) rfl (decide_eq_true (show n.ranks.length<=2000000 by omega)),Zd (n.ranks,()) rfl ⟨Ze (n.sizes,()) rfl (by rw[hs];rfl),Zd (n.sizes,()) rfl (a2h (G:=fun _=>False) RR n [] (List.length (List.map (enc:Lin->PV) n.sizes)) 0 (XC (by rw[hs];decide) ⟨Ze (([]:List Tm),()) rfl rfl,Zd (([]:List Tm),()) rfl (hR _ ⟨rfl,rfl,_,_,false,_,rfl,.inl ⟨rfl,rfl⟩,.inl ⟨rfl,rfl⟩⟩)⟩))⟩⟩⟩⟩
end Go.Pl
namespace Go.Pl
open Go.RowKit
open Enc (enc dec is)
open EncL (encL decL isL)
set_option maxRecDepth 100000
def OU:IC:=(Vw [ZJ 1 (.box 10 (.t 0)) 0,ZJ 2 (.alloc (.agg [(.int .i64 0),(.int .i64 0),(.str []),(.int .i64 0),(.str []),(.sl 0 true []),(.sl 0 true []),(.sl 0 true []),(.sl 0 true []),(.sl 0 true [])])) 1] (Vw [ZJ 6 (.load true [(.int .i64),(.int .i64),.str,(.int .i64),.str,(.sl 1),(.sl 1),(.sl 2),(.sl 1),(.sl 10)] (.t 1)) 0,ZJ 7 (c'' 20 [(.t 6)]) 0,ZJ 3 (.alloc (.sl 0 true [])) 2,PR (.store 1 (.t 3) (.t 7)) 3] (Vw [ZJ 4 (.alloc (.int .i64 0)) 0,PR (.store 1 (.t 4) (Qs 0)) 1] (Vw [ZJ 8 (.mkfn 67 [] [(.t 4),(.t 3)]) 0,ZJ 5 (WE 8) 0] (.ext 0 [1,9,5,10,11,12,2,13])))))
def b7l:ZC:=YR [(20,.pure (preT (fun x:Tm×Unit=>tW x.1)) (Zk (fun x:Tm×Unit=>Z0 x.1)))]
theorem d2p{G:Zo->Prop}(RR:Nat->St->Prop)(n:Nd)(ks:List Tm)(h:(Go.Pl.preT (fun(x:Tm×Unit)=>tW x.1) (ndA n ks))=true∧(∃ y0:List Str,AV.pv (Zk (fun(x:Tm×Unit)=>Z0 x.1) (ndA n ks))=AV.pv (enc y0)∧((WT RR) 0 ⟨Z4 14 0 [(1,(.ptr 0 0)),(2,(.ptr 1 0)),(5,(.fn 67 [] [(.ptr 2 0),(.ptr 3 0)])),(9,.undef),(10,.undef),(11,.undef),(12,.undef),(13,.undef)],[(.obj (.box (Ym n ks))),(.obj (.box [(.pv (.int .i64 0)),(.pv (.int .i64 0)),(.pv (.str [])),(.pv (.int .i64 0)),(.pv (.str [])),(.pv (.sl 0 true [])),(.pv (.sl 0 true [])),(.pv (.sl 0 true [])),(.pv (.sl 0 true [])),(.pv (.sl 0 true []))])),(.obj (.box [(.pv (.int .i64 0))])),(.obj (.box [(.pv (.sl 1 false (List.map enc y0)))]))]⟩ (fun x S'=>Jq b7l (WT RR) 0 (fun st=>G st.heap) OU 0 x S')))):ZK b7l (WT RR) 0 (fun st=>G st.heap) (.inl OU) [] (We 14 [.pv (.agg [enc n.kind,enc n.line,enc n.name,enc n.num,enc n.elem,enc n.dims,enc n.data,enc n.sizes,enc n.ranks,enc ks])] []):=ZK.mh (.req (.abs (List Str) (fun YY=>AV.pv (enc YY)) (.nil))) h
end Go.Pl
namespace Go.Pl
open Go.RowKit
open Enc (enc dec is)
open EncL (encL decL isL)
set_option maxRecDepth 100000
end Go.Pl
namespace Go.Pl
open Go.RowKit
open Enc (enc dec is)
open EncL (encL decL isL)
end Go.Pl
namespace Go.Pl
open Go.RowKit
open Enc (enc dec is)
open EncL (encL decL isL)
set_option maxRecDepth 100000
end Go.Pl
namespace Go.Pl
open Go.RowKit
open Enc (enc dec is)
end Go.Pl
namespace Go.Pl
open Go.RowKit
open Enc (enc dec is)
open EncL (encL decL isL)
set_option maxRecDepth 100000
end Go.Pl
namespace Go.Pl
open Go.RowKit
open Enc (enc dec is)
open EncL (encL decL isL)
open Go.Proofs.YtgdebdgkofkeeaaGreatDoor (encNd pre_ndI F_ndI tmOf_nd pre_nd)
end Go.Pl
namespace Go.Pl
open Go.RowKit
open Enc (enc dec is)
open EncL (encL decL isL)
theorem c4z(o l:List Str):([.sl 1 false (List.map enc o),.sl 1 false (List.map enc l)]:List PV)=encL (o,l,()):=rfl
section
variable (n m:Nd) (ks ls:List Tm) (s:List UInt8)
end
end Go.Pl
namespace Go.Pl
open Go.RowKit
open Enc (enc dec is)
theorem Om(n:Nd)(s:Str):AP (XM n s)+n.name.s.length=AP n+s.s.length:=by
 unfold AP XM
 dsimp only
 omega
theorem a3y{K:Nat}{σ:List (Str×Str)}(h : ∀ p∈σ,p.2.s.length<=K)(s:Str):(ZR σ s).s.length<=s.s.length+K:=by
 unfold ZR
 split
 ·rename_i p hp
  have:=h p (List.mem_of_find?_eq_some hp)
  omega
 ·omega
mutual
theorem b7z(tk:List Str)(K M:Nat)(hK : ∀ m,m<=M->(vN m).s.length<=K): ∀ (t:Tm) (σ:List (Str×Str)) (c:Nat),(∀ p∈σ,p.2.s.length<=K)->c+Zh t*(tk.length+1)<=M->YO (Yl tk σ c t).1<=YO t+K*Zh t
 | .mk n ks,σ,c,hσ,hc=>by
  rw[Zh]at hc
  have hmul:(Zl ks+1)*(tk.length+1)=Zl ks*(tk.length+1)+(tk.length+1):=by rw[Nat.add_mul,Nat.one_mul]
  rw[hmul]at hc
  rw[Yl]
  split
  ·have hn:=VY tk c
   have hv:(vN (Zn tk c)).s.length<=K:=hK _ (by omega)
   have h1:=O8 tk K M hK ks σ ((n.name,vN (Zn tk c))::σ) 0 (Zn tk c) hσ (fun p hp=>by
    rcases List.mem_cons.1 hp with rfl|hp
    ·exact hv
    ·exact hσ p hp) (by omega)
   have h2:=Om n (vN (Zn tk c))
   rw[YO,YO,Zh,Nat.mul_add,Nat.mul_one]
   omega
  ·have h1:=O8 tk K M hK ks σ σ 0 c hσ hσ (by omega)
   rw[YO,YO,Zh,Nat.mul_add,Nat.mul_one]
   have h2:AP (if n.kind=1 then XM n (ZR σ n.name)else n)<=AP n+K:=by
    split
    ·have:=Om n (ZR σ n.name)
     have:=a3y hσ n.name
     omega
    ·omega
   omega
theorem O8(tk:List Str)(K M:Nat)(hK : ∀ m,m<=M->(vN m).s.length<=K): ∀ (ks:List Tm) (σ τ:List (Str×Str)) (i c:Nat),(∀ p∈σ,p.2.s.length<=K)->(∀ p∈τ,p.2.s.length<=K)->c+Zl ks*(tk.length+1)<=M->Y2 (ZB tk σ τ i c ks).1<=Y2 ks+K*Zl ks
 | [],σ,τ,i,c,_,_,_=>by rw[ZB];simp[Y2]
 | k::ks,σ,τ,i,c,hσ,hτ,hc=>by
  rw[Zl,Nat.add_mul]at hc
  rw[ZB]
  have h0:=Rz tk (if i=0 then σ else τ) c k
  have h1:=b7z tk K M hK k (if i=0 then σ else τ) c (by split <;> assumption) (by omega)
  have h2:=O8 tk K M hK ks σ τ (i+1) (Yl tk (if i=0 then σ else τ) c k).2 hσ hτ (by omega)
  rw[Y2,Y2,Zl,Nat.mul_add]
  omega
end
mutual
theorem ND: ∀ (t:Tm) (b:List Str),(Z7 b t).length<=Zh t
 | .mk n ks,b=>by
  have:=Rh ks b (ZF n ks.length) n.name 0
  rw[Z7,List.length_append,Zh]
  split <;> simp <;> omega
theorem Rh: ∀ (ks:List Tm) (b:List Str) (l:Bool) (s:Str) (i:Nat),(ZL b l s i ks).length<=Zl ks
 | [],b,l,s,i=>by rw[ZL];simp
 | k::ks,b,l,s,i=>by
  have h1:=ND k (if l&&decide (i=1)then s::b else b)
  have h2:=Rh ks b l s (i+1)
  rw[ZL,List.length_append,Zl]
  omega
end
theorem CU(l:List Str):(WV l).length<=l.length:=by
 unfold WV YT
 rw[List.length_map,List.length_mergeSort,List.length_map]
 have:=UI l []
 have e:Wn l=l.foldl Y6 []:=rfl
 rw[e]
 simpa using this
theorem c5z{m:Nat}(h:m<1000):Lib.nDigits m<=3:=by
 rw[Lib.nDigits]
 split
 ·omega
 ·rw[Lib.nDigits]
  split
  ·omega
  ·rw[Lib.nDigits_small (show m / 10 / 10<10 by omega)];omega
theorem c7y{m:Nat}(h:m<=999):(vN m).s.length<=4:=by
 show(118::Lib.itoa (m:Int)).length<=4
 unfold Lib.itoa
 rw[if_neg (by omega),List.length_cons,Int.toNat_natCast,Lib.decDigits_length]
 have:=c5z (show m<1000 by omega)
 omega
theorem a3e(b:List Str)(t:Tm):(Z7 b t).length<=Zh t:=ND t b
theorem c7z{t:Tm}(h:Zh t<=31):YO (Yk t)<=YO t+4*Zh t:=by
 have hf:(Z0 t).length<=Zh t:=by
  unfold Z0
  exact Nat.le_trans (CU _) (a3e [] t)
 refine b7z (Z0 t) 4 999 (fun m hm=>c7y hm) t [] 0 (fun p hp=>by cases hp) ?_
 have:=Nat.mul_le_mul h (show(Z0 t).length+1<=32 by omega)
 omega
theorem a2d{t:Tm}(h:Zh t<=31)(hw:YO t+4*Zh t<=1048576):tW (Yk t)=true:=decide_eq_true (Nat.le_trans (c7z h) hw)
end Go.Pl
namespace Go.Pl
open Go.RowKit
theorem MR{σ:List (Str×Str)}(h : ∀ p∈σ,p.1=p.2)(s:Str):ZR σ s=s:=by
 unfold ZR
 split
 ·rename_i p hp
  rw[<- h p (List.mem_of_find?_eq_some hp)]
  have:=List.find?_some hp
  simpa using this
 ·rfl
theorem NE(n:Nd)(s:Str)(k:Nat):ZF (XM n s) k=ZF n k:=rfl
mutual
theorem a8t(tk:List Str): ∀ (t:Tm) (σ ρ:List (Str×Str)) (c:Nat),(∀ p∈ρ,p.1=p.2)->Yl tk ρ c (Yl tk σ c t).1=Yl tk σ c t
 | .mk n ks,σ,ρ,c,hρ=>by
  rw[Yl]
  by_cases hl:ZF n ks.length=true
  ·rw[if_pos hl]
   have h:=Gu tk ks σ ((n.name,vN (Zn tk c))::σ) ρ ((vN (Zn tk c),vN (Zn tk c))::ρ) 0 (Zn tk c) hρ (fun p hp=>by
    rcases List.mem_cons.1 hp with rfl|hp
    ·rfl
    ·exact hρ p hp)
   have hlen:=Wt tk σ ((n.name,vN (Zn tk c))::σ) ks 0 (Zn tk c)
   dsimp only
   rw[Yl,hlen,NE,if_pos hl]
   dsimp only
   show(Tm.mk (XM (XM n (vN (Zn tk c))) (vN (Zn tk c))) (ZB tk ρ ((vN (Zn tk c),vN (Zn tk c))::ρ) 0 (Zn tk c) (ZB tk σ ((n.name,vN (Zn tk c))::σ) 0 (Zn tk c) ks).1).1,(ZB tk ρ ((vN (Zn tk c),vN (Zn tk c))::ρ) 0 (Zn tk c) (ZB tk σ ((n.name,vN (Zn tk c))::σ) 0 (Zn tk c) ks).1).2)=_
   rw[h]
   rfl
  ·rw[if_neg hl]
   have h:=Gu tk ks σ σ ρ ρ 0 c hρ hρ
   have hlen:=Wt tk σ σ ks 0 c
   dsimp only
   have hl2:ZF (if n.kind=1 then XM n (ZR σ n.name)else n) ks.length=ZF n ks.length:=by split <;> rfl
   rw[Yl,hlen,hl2,if_neg hl]
   dsimp only
   rw[h]
   congr 2
   by_cases hk:n.kind=1
   ·rw[if_pos hk]
    show(if n.kind=1 then XM (XM n (ZR σ n.name)) (ZR ρ (ZR σ n.name))else _)=_
    rw[if_pos hk,MR hρ]
    rfl
   ·rw[if_neg hk,if_neg hk]
theorem Gu(tk:List Str): ∀ (ks:List Tm) (σ τ ρ π:List (Str×Str)) (i c:Nat),(∀ p∈ρ,p.1=p.2)->(∀ p∈π,p.1=p.2)->ZB tk ρ π i c (ZB tk σ τ i c ks).1=ZB tk σ τ i c ks
 | [],σ,τ,ρ,π,i,c,_,_=>by rw[ZB,ZB]
 | k::ks,σ,τ,ρ,π,i,c,hρ,hπ=>by
  rw[ZB]
  have h1:=a8t tk k (if i=0 then σ else τ) (if i=0 then ρ else π) c (by split <;> assumption)
  have h2:=Gu tk ks σ τ ρ π (i+1) (Yl tk (if i=0 then σ else τ) c k).2 hρ hπ
  dsimp only
  rw[ZB,h1,h2]
end
mutual
theorem ER(tk:List Str): ∀ (t:Tm) (σ:List (Str×Str)) (c:Nat) (bd bd':List Str),(∀ s,s∈bd ↔ ∃ p∈σ,p.1=s)->(∀ p∈σ,p.2∈bd')->(∀ s∈bd',s ∉ tk)->(∀ s∈Z7 bd t,s∈tk)->Z7 bd' (Yl tk σ c t).1=Z7 bd t
 | .mk n ks,σ,c,bd,bd',h1,h2,h3,h4=>by
  rw[Yl]
  by_cases hl:ZF n ks.length=true
  ·rw[if_pos hl]
   have hk5:n.kind=5:=by
    unfold ZF at hl
    simp only[Bool.and_eq_true,decide_eq_true_eq]at hl
    exact hl.1
   have hk2:ks.length=2:=by
    unfold ZF at hl
    simp only[Bool.and_eq_true,decide_eq_true_eq]at hl
    exact hl.2
   have hlen:=Wt tk σ ((n.name,vN (Zn tk c))::σ) ks 0 (Zn tk c)
   dsimp only
   rw[Z7,Z7,hlen,NE,hl]
   rw[Z7,hl]at h4
   have h:=BI tk ks σ ((n.name,vN (Zn tk c))::σ) (Zn tk c) true n.name (vN (Zn tk c)) 0 bd bd' h1 h2 h3 (fun _=>rfl) (fun _=>Ka tk c) (fun s hs=>h4 s (List.mem_append_right _ hs)) (fun h=>by cases h) (fun _=>by rw[hk2];omega)
   show(if (XM n (vN (Zn tk c))).kind=1∧_ then _ else _)++ZL bd' true (vN (Zn tk c)) 0 _=_
   rw[h,if_neg (fun h=>by have:n.kind=1:=h.1;omega),if_neg (fun h=>by omega)]
  ·rw[if_neg hl]
   have hlen:=Wt tk σ σ ks 0 c
   have hl2:ZF (if n.kind=1 then XM n (ZR σ n.name)else n) ks.length=false:=by
    have:ZF n ks.length=false:=by simpa using hl
    rw[<- this]
    split <;> rfl
   have hl1:ZF n ks.length=false:=by simpa using hl
   dsimp only
   rw[Z7,Z7,hlen,hl2,hl1]
   rw[Z7,hl1]at h4
   have h:=BI tk ks σ σ c false n.name (if n.kind=1 then XM n (ZR σ n.name)else n).name 0 bd bd' h1 h2 h3 (fun h=>by cases h) (fun h=>by cases h) (fun s hs=>h4 s (List.mem_append_right _ hs)) (fun _=>rfl) (fun h=>by cases h)
   rw[h]
   congr 1
   by_cases hk:n.kind=1
   ·rw[if_pos hk]
    show(if n.kind=1∧ZR σ n.name ∉ bd' then [ZR σ n.name]else [])=(if n.kind=1∧n.name ∉ bd then [n.name]else [])
    by_cases hb:n.name∈bd
    ·obtain⟨p,hp,hps⟩:=(h1 n.name).1 hb
     have this:ZR σ n.name∈bd':=by
      unfold ZR
      split
      ·rename_i q hq
       exact h2 q (List.mem_of_find?_eq_some hq)
      ·rename_i hq
       rw[List.find?_eq_none]at hq
       exact absurd (by simpa using hps) (hq p hp)
     rw[if_neg (fun h=>h.2 this),if_neg (fun h=>h.2 hb)]
    ·have hs:ZR σ n.name=n.name:=by
      unfold ZR
      split
      ·rename_i q hq
       have:=List.find?_some hq
       exact absurd ((h1 n.name).2 ⟨q,List.mem_of_find?_eq_some hq,by simpa using this⟩) hb
      ·rfl
     rw[if_pos ⟨hk,hb⟩]at h4
     have hn:n.name ∉ bd':=fun hx=>h3 _ hx (h4 n.name (by simp))
     rw[hs,if_pos ⟨hk,hn⟩,if_pos ⟨hk,hb⟩]
   ·rw[if_neg hk,if_neg (fun h=>hk h.1),if_neg (fun h=>hk h.1)]
theorem BI(tk:List Str): ∀ (ks:List Tm) (σ τ:List (Str×Str)) (c:Nat) (l:Bool) (s v:Str) (i:Nat) (bd bd':List Str),(∀ s,s∈bd ↔ ∃ p∈σ,p.1=s)->(∀ p∈σ,p.2∈bd')->(∀ s∈bd',s ∉ tk)->(l=true->τ=(s,v)::σ)->(l=true->v ∉ tk) ->
  (∀ x∈ZL bd l s i ks,x∈tk)->(l=false->τ=σ)->(l=true->i+ks.length<=2)->ZL bd' l v i (ZB tk σ τ i c ks).1=ZL bd l s i ks
 | [],σ,τ,c,l,s,v,i,bd,bd',_,_,_,_,_,_,_,_=>by rw[ZB,ZL,ZL]
 | k::ks,σ,τ,c,l,s,v,i,bd,bd',h1,h2,h3,h5,h6,h4,h7,h8=>by
  rw[ZB,ZL,ZL]
  rw[ZL]at h4
  have hk:=ER tk k (if i=0 then σ else τ) c (if l&&decide (i=1)then s::bd else bd) (if l&&decide (i=1)then v::bd' else bd') ?_ ?_ ?_ (fun x hx=>h4 x (List.mem_append_left _ hx))
  ·have hr:=BI tk ks σ τ (Yl tk (if i=0 then σ else τ) c k).2 l s v (i+1) bd bd' h1 h2 h3 h5 h6 (fun x hx=>h4 x (List.mem_append_right _ hx)) h7 (fun h=>by have:=h8 h;rw[List.length_cons]at this;omega)
   rw[hk,hr]
  ·intro x
   cases l with
   | false=>
    rw[h7 rfl]
    simp only[Bool.false_and,if_neg Bool.false_ne_true,ite_self]
    exact h1 x
   | true=>
    have hi:=h8 rfl
    rw[List.length_cons]at hi
    by_cases h0:i=0
    ·subst h0
     simpa using h1 x
    ·obtain rfl:i=1:=by omega
     rw[h5 rfl]
     simp only[Bool.true_and,decide_true,if_true,if_neg (show ¬ (1:Nat)=0 by decide),List.mem_cons]
     rw[h1 x]
     constructor
     ·rintro(rfl|⟨p,hp,e⟩)
      ·exact⟨_,.inl rfl,rfl⟩
      ·exact⟨p,.inr hp,e⟩
     ·rintro⟨p,rfl|hp,e⟩
      ·exact .inl e.symm
      ·exact .inr ⟨p,hp,e⟩
  ·intro p hp
   cases l with
   | false=>
    rw[h7 rfl,ite_self]at hp
    simpa using h2 p hp
   | true=>
    have hi:=h8 rfl
    rw[List.length_cons]at hi
    by_cases h0:i=0
    ·subst h0
     simpa using h2 p (by simpa using hp)
    ·obtain rfl:i=1:=by omega
     rw[h5 rfl,if_neg (show ¬ (1:Nat)=0 by decide)]at hp
     simp only[Bool.true_and,decide_true,if_true,List.mem_cons]
     rcases List.mem_cons.1 hp with rfl|hp
     ·exact .inl rfl
     ·exact .inr (h2 p hp)
  ·intro x hx
   split at hx
   ·rename_i hc
    have hl:l=true:=by
     cases l with
     | true=>rfl
     | false=>simp at hc
    rcases List.mem_cons.1 hx with rfl|hx
    ·exact h6 hl
    ·exact h3 x hx
   ·exact h3 x hx
end
theorem a5e(t:Tm):Z7 [] (Yk t)=Z7 [] t:=ER (Z0 t) t [] 0 [] [] (fun s=>by simp) (fun p hp=>by cases hp) (fun s hs=>by cases hs) fun s hs=>by
 unfold Z0
 exact Q9.2 hs
theorem NT(t:Tm):Z0 (Yk t)=Z0 t:=by unfold Z0;rw[a5e]
def nmN(t:Tm):Nd:=if t.nd.kind=1∨t.nd.kind=5 then XM t.nd ⟨[]⟩else t.nd
mutual
theorem c1g(tk:List Str){α:Type}(g:Tm->α)(hg : ∀ (n m:Nd) (ks ls:List Tm),nmN (.mk n ks)=nmN (.mk m ls)->ks.length=ls.length->g (.mk n ks)=g (.mk m ls)): ∀ (t:Tm) (σ:List (Str×Str)) (c:Nat),(ZY (Yl tk σ c t).1).map g=(ZY t).map g
 | .mk n ks,σ,c=>by
  rw[Yl]
  by_cases hl:ZF n ks.length=true
  ·rw[if_pos hl]
   have hk5:n.kind=5:=by
    unfold ZF at hl
    simp only[Bool.and_eq_true,decide_eq_true_eq]at hl
    exact hl.1
   have hlen:=Wt tk σ ((n.name,vN (Zn tk c))::σ) ks 0 (Zn tk c)
   dsimp only
   rw[Xa,Xa,List.map_cons,List.map_cons,CF tk g hg ks]
   congr 1
   refine hg _ _ _ _ ?_ hlen
   unfold nmN
   show(if n.kind=1∨n.kind=5 then XM (XM n _) ⟨[]⟩else _)=(if n.kind=1∨n.kind=5 then XM n ⟨[]⟩else _)
   rw[if_pos (.inr hk5),if_pos (.inr hk5)]
   rfl
  ·rw[if_neg hl]
   have hlen:=Wt tk σ σ ks 0 c
   dsimp only
   rw[Xa,Xa,List.map_cons,List.map_cons,CF tk g hg ks]
   congr 1
   refine hg _ _ _ _ ?_ hlen
   by_cases hk:n.kind=1
   ·rw[if_pos hk]
    unfold nmN
    show(if n.kind=1∨n.kind=5 then XM (XM n _) ⟨[]⟩else _)=(if n.kind=1∨n.kind=5 then XM n ⟨[]⟩else _)
    rw[if_pos (.inl hk),if_pos (.inl hk)]
    rfl
   ·rw[if_neg hk]
    rfl
theorem CF(tk:List Str){α:Type}(g:Tm->α)(hg : ∀ (n m:Nd) (ks ls:List Tm),nmN (.mk n ks)=nmN (.mk m ls)->ks.length=ls.length->g (.mk n ks)=g (.mk m ls)): ∀ (ks:List Tm) (σ τ:List (Str×Str)) (i c:Nat),((ZB tk σ τ i c ks).1.flatMap ZY).map g=(ks.flatMap ZY).map g
 | [],σ,τ,i,c=>by rw[ZB]
 | k::ks,σ,τ,i,c=>by
  rw[ZB]
  dsimp only
  rw[List.flatMap_cons,List.flatMap_cons,List.map_append,List.map_append,c1g tk g hg k,CF tk g hg ks]
end
mutual
theorem Lu(tk:List Str): ∀ (t:Tm) (σ:List (Str×Str)) (c:Nat),Zh (Yl tk σ c t).1=Zh t∧ZI (Yl tk σ c t).1=ZI t
 | .mk n ks,σ,c=>by
  rw[Yl]
  split
  ·dsimp only
   obtain⟨h1,h2⟩:=Gb tk ks σ ((n.name,vN (Zn tk c))::σ) 0 (Zn tk c)
   rw[Zh,Zh,ZI,ZI,h1,h2]
   exact⟨rfl,rfl⟩
  ·dsimp only
   obtain⟨h1,h2⟩:=Gb tk ks σ σ 0 c
   rw[Zh,Zh,ZI,ZI,h1,h2]
   exact⟨rfl,rfl⟩
theorem Gb(tk:List Str): ∀ (ks:List Tm) (σ τ:List (Str×Str)) (i c:Nat),Zl (ZB tk σ τ i c ks).1=Zl ks∧ZU (ZB tk σ τ i c ks).1=ZU ks
 | [],σ,τ,i,c=>by rw[ZB];exact⟨rfl,rfl⟩
 | k::ks,σ,τ,i,c=>by
  rw[ZB]
  dsimp only
  obtain⟨h1,h2⟩:=Lu tk k (if i=0 then σ else τ) c
  obtain⟨h3,h4⟩:=Gb tk ks σ τ (i+1) (Yl tk (if i=0 then σ else τ) c k).2
  rw[Zl,Zl,ZU,ZU,h1,h2,h3,h4]
  exact⟨rfl,rfl⟩
end
theorem Nu(t:Tm):Zh (Yk t)=Zh t:=(Lu _ t [] 0).1
end Go.Pl
namespace Go.Pl
open Go.RowKit
theorem NN{n:Nd}{k:Nat}{s:Str}(h:XJ n k=true)(hk:n.kind=1∨n.kind=5)(hs:Yt s.s=true):XJ (XM n s) k=true:=by
 unfold XJ at h ⊢
 rw[Bool.and_eq_true]at h ⊢
 refine⟨h.1,?_⟩
 have h2:=h.2
 unfold BN at h2 ⊢
 show(if n.kind=1 then CB n&&Yt s.s&&decide (n.num=0)&&decide (k=0)&&Al n else if n.kind=2 then _ else if n.kind=3 then _ else if n.kind=4 then _ else if n.kind=5 then CB n&&Yt s.s&&decide (n.num=0)&&decide (k=2)&&Al n else _)=true
 rcases hk with hk|hk
 ·rw[if_pos hk]at h2 ⊢
  simp only[Bool.and_eq_true]at h2 ⊢
  exact⟨⟨⟨⟨h2.1.1.1.1,hs⟩,h2.1.1.2⟩,h2.1.2⟩,h2.2⟩
 ·rw[if_neg (by omega),if_neg (by omega),if_neg (by omega),if_neg (by omega),if_pos hk]at h2 ⊢
  simp only[Bool.and_eq_true]at h2 ⊢
  exact⟨⟨⟨⟨h2.1.1.1.1,hs⟩,h2.1.1.2⟩,h2.1.2⟩,h2.2⟩
theorem F4{n:Nd}{k:Nat}(h:XJ n k=true)(hk:n.kind=1):Yt n.name.s=true:=by
 unfold XJ BN at h
 rw[if_pos hk]at h
 simp only[Bool.and_eq_true]at h
 exact h.2.1.1.1.2
mutual
theorem d0c(tk:List Str)(M:Nat)(hM : ∀ m,m<=M->Yt (vN m).s=true): ∀ (t:Tm) (σ:List (Str×Str)) (c:Nat),(∀ p∈σ,Yt p.2.s=true)->c+Zh t*(tk.length+1)<=M->(ZY t).all QI=true->(ZY (Yl tk σ c t).1).all QI=true
 | .mk n ks,σ,c,hσ,hc,h=>by
  rw[Xa,List.all_cons,Bool.and_eq_true]at h
  obtain⟨h1,h2⟩:=h
  have h1:XJ n ks.length=true:=h1
  rw[Zh,Nat.add_mul,Nat.one_mul]at hc
  rw[Yl]
  by_cases hl:ZF n ks.length=true
  ·rw[if_pos hl]
   have hk5:n.kind=5:=by
    unfold ZF at hl
    simp only[Bool.and_eq_true,decide_eq_true_eq]at hl
    exact hl.1
   have hn:=VY tk c
   have hv:=hM (Zn tk c) (by omega)
   have hlen:=Wt tk σ ((n.name,vN (Zn tk c))::σ) ks 0 (Zn tk c)
   dsimp only
   rw[Xa,List.all_cons,Bool.and_eq_true]
   refine⟨?_,Ry tk M hM ks σ _ 0 _ hσ (fun p hp=>by
    rcases List.mem_cons.1 hp with rfl|hp
    ·exact hv
    ·exact hσ p hp) (by omega) h2⟩
   show XJ (XM n _) (ZB tk σ ((n.name,vN (Zn tk c))::σ) 0 (Zn tk c) ks).1.length=true
   rw[hlen]
   exact NN h1 (.inr hk5) hv
  ·rw[if_neg hl]
   have hlen:=Wt tk σ σ ks 0 c
   dsimp only
   rw[Xa,List.all_cons,Bool.and_eq_true]
   refine⟨?_,Ry tk M hM ks σ σ 0 c hσ hσ (by omega) h2⟩
   show XJ (if n.kind=1 then XM n (ZR σ n.name)else n) (ZB tk σ σ 0 c ks).1.length=true
   rw[hlen]
   split
   ·rename_i hk
    refine NN h1 (.inl hk) ?_
    unfold ZR
    split
    ·rename_i p hp
     exact hσ p (List.mem_of_find?_eq_some hp)
    ·exact F4 h1 hk
   ·exact h1
theorem Ry(tk:List Str)(M:Nat)(hM : ∀ m,m<=M->Yt (vN m).s=true): ∀ (ks:List Tm) (σ τ:List (Str×Str)) (i c:Nat),(∀ p∈σ,Yt p.2.s=true)->(∀ p∈τ,Yt p.2.s=true)->c+Zl ks*(tk.length+1)<=M->(ks.flatMap ZY).all QI=true->((ZB tk σ τ i c ks).1.flatMap ZY).all QI=true
 | [],σ,τ,i,c,_,_,_,_=>by rw[ZB];rfl
 | k::ks,σ,τ,i,c,hσ,hτ,hc,h=>by
  rw[List.flatMap_cons,List.all_append,Bool.and_eq_true]at h
  rw[Zl,Nat.add_mul]at hc
  rw[ZB]
  have h0:=Rz tk (if i=0 then σ else τ) c k
  dsimp only
  rw[List.flatMap_cons,List.all_append,Bool.and_eq_true]
  exact⟨d0c tk M hM k _ c (by split <;> assumption) (by omega) h.1,Ry tk M hM ks σ τ (i+1) _ hσ hτ (by omega) h.2⟩
end
end Go.Pl
namespace Go.Pl
open Go.RowKit
open Enc (enc dec is)
open EncL (encL decL isL)
set_option maxRecDepth 100000
end Go.Pl
namespace Go.Pl
open Go.RowKit
open Enc (enc dec is)
open EncL (encL decL isL)
theorem BU{t:Tm}{k:Int}(h:QJ t k=true):(Zh t:Int)<=k:=by
 unfold QJ at h
 simp only[Bool.and_eq_true,decide_eq_true_eq]at h
 exact h.1.2
mutual
theorem Fb: ∀ t:Tm,Kv t t=true
 | .mk n ks=>by
  rw[Kv,TQ ks]
  simp[LX]
theorem TQ: ∀ ts:List Tm,Xp ts ts=true
 | []=>rfl
 | k::ks=>by rw[Xp,Fb k,TQ ks];rfl
end
end Go.Pl
namespace Go.Pl
open Go.RowKit
mutual
def XR(f g:Str):Tm->Tm
 | .mk n ks=>.mk (if n.kind=1∧n.name=f then XM n g else n) (Xg f g (ZF n ks.length&&decide (n.name=f)) 0 ks)
def Xg(f g:Str)(b:Bool)(i:Nat):List Tm->List Tm
 | []=>[]
 | k::ks=>(if b&&decide (i=1)then k else XR f g k)::Xg f g b (i+1) ks
end
theorem Kt(f g:Str)(b:Bool): ∀ (ks:List Tm) (i:Nat),(Xg f g b i ks).length=ks.length
 | [],i=>by rw[Xg]
 | k::ks,i=>by rw[Xg,List.length_cons,List.length_cons,Kt f g b ks]
theorem Yn(σ:List (Str×Str))(a v s:Str):ZR ((a,v)::σ) s=if a=s then v else ZR σ s:=by
 unfold ZR
 rw[List.find?_cons]
 by_cases h:a=s
 ·subst h;simp
 ·rw[if_neg h]
  have:(a==s)=false:=by simpa using h
  simp[this]
mutual
theorem NR(tk:List Str)(g:Str): ∀ (t:Tm) (σ ρ:List (Str×Str)) (c:Nat),(∀ s,s≠g->ZR ρ s=ZR σ s)->(∀ x∈ZY t,x.nd.name≠g)->Yl tk ρ c t=Yl tk σ c t
 | .mk n ks,σ,ρ,c,h,hg=>by
  rw[Xa]at hg
  have hn:n.name≠g:=hg (.mk n ks) (by simp)
  rw[Yl,Yl]
  split
  ·dsimp only
   rw[GN tk g ks σ ((n.name,vN (Zn tk c))::σ) ρ ((n.name,vN (Zn tk c))::ρ) 0 (Zn tk c) h (fun s hs=>by rw[Yn,Yn,h s hs]) (fun x hx=>hg x (List.mem_cons_of_mem _ hx))]
  ·dsimp only
   rw[GN tk g ks σ σ ρ ρ 0 c h h (fun x hx=>hg x (List.mem_cons_of_mem _ hx)),h _ hn]
theorem GN(tk:List Str)(g:Str): ∀ (ks:List Tm) (σ τ ρ π:List (Str×Str)) (i c:Nat),(∀ s,s≠g->ZR ρ s=ZR σ s)->(∀ s,s≠g->ZR π s=ZR τ s)->(∀ x∈ks.flatMap ZY,x.nd.name≠g)->ZB tk ρ π i c ks=ZB tk σ τ i c ks
 | [],σ,τ,ρ,π,i,c,_,_,_=>by rw[ZB,ZB]
 | k::ks,σ,τ,ρ,π,i,c,h1,h2,hg=>by
  rw[List.flatMap_cons]at hg
  have a:=NR tk g k (if i=0 then σ else τ) (if i=0 then ρ else π) c (by split <;> assumption) (fun x hx=>hg x (List.mem_append_left _ hx))
  rw[ZB,ZB,a,GN tk g ks σ τ ρ π (i+1) _ h1 h2 (fun x hx=>hg x (List.mem_append_right _ hx))]
end
def Lr(f g:Str)(σ ρ:List (Str×Str)):Prop:= ∀ s,s≠g->ZR ρ (if s=f then g else s)=ZR σ s
theorem Lr.cons{f g:Str}{σ ρ:List (Str×Str)}(h:Lr f g σ ρ){a v:Str}(hf:a≠f)(hg:a≠g):Lr f g ((a,v)::σ) ((a,v)::ρ):=by
 intro s hs
 by_cases e:s=f
 ·subst e
  have:=h s hs
  rw[if_pos rfl]at this ⊢
  rw[Yn,Yn,if_neg hg,if_neg hf]
  exact this
 ·have:=h s hs
  rw[if_neg e]at this ⊢
  rw[Yn,Yn,this]
theorem Lr.shut{f g:Str}{σ ρ:List (Str×Str)}(h:Lr f g σ ρ){v:Str}: ∀ s,s≠g->ZR ((f,v)::ρ) s=ZR ((f,v)::σ) s:=by
 intro s hs
 rw[Yn,Yn]
 by_cases e:f=s
 ·rw[if_pos e,if_pos e]
 ·rw[if_neg e,if_neg e]
  have:=h s hs
  rwa [if_neg (fun e2=>e e2.symm)]at this
mutual
theorem Pd(tk:List Str)(f g:Str): ∀ (t:Tm) (σ ρ:List (Str×Str)) (c:Nat),Lr f g σ ρ->(∀ x∈ZY t,x.nd.name≠g)->Yl tk ρ c (XR f g t)=Yl tk σ c t
 | .mk n ks,σ,ρ,c,h,hg=>by
  rw[Xa]at hg
  have hn:n.name≠g:=hg (.mk n ks) (by simp)
  have hk : ∀ x∈ks.flatMap ZY,x.nd.name≠g:=fun x hx=>hg x (List.mem_cons_of_mem _ hx)
  rw[XR,Yl,Yl,Kt]
  have hl:ZF (if n.kind=1∧n.name=f then XM n g else n) ks.length=ZF n ks.length:=by split <;> rfl
  rw[hl]
  by_cases hL:ZF n ks.length=true
  ·rw[if_pos hL,if_pos hL]
   have hL':=hL
   unfold ZF at hL'
   simp only[Bool.and_eq_true,decide_eq_true_eq]at hL'
   obtain⟨hk5,hk2⟩:=hL'
   rw[if_neg (show ¬ (n.kind=1∧n.name=f) by omega)]
   dsimp only
   rw[hL,Bool.true_and,CG tk f g ks σ ((n.name,vN (Zn tk c))::σ) ρ ((n.name,vN (Zn tk c))::ρ) 0 (Zn tk c) (decide (n.name=f)) h (fun hb=>h.cons (of_decide_eq_false hb) hn) (fun hb=>by
    have e:n.name=f:=of_decide_eq_true hb
    rw[e]
    exact h.shut) (fun _=>by omega) hk]
  ·rw[if_neg hL,if_neg hL]
   have hL':ZF n ks.length=false:=by simpa using hL
   dsimp only
   rw[hL',Bool.false_and,CG tk f g ks σ σ ρ ρ 0 c false h (fun _=>h) (fun hb=>by cases hb) (fun hb=>by cases hb) hk]
   congr 2
   by_cases hk1:n.kind=1
   ·have hs:=h n.name hn
    rw[if_pos hk1]
    by_cases e:n.name=f
    ·have en:(if n.kind=1∧n.name=f then XM n g else n)=XM n g:=if_pos ⟨hk1,e⟩
     rw[en,if_pos (show(XM n g).kind=1 from hk1)]
     rw[if_pos e]at hs
     show XM (XM n g) (ZR ρ g)=_
     rw[hs];rfl
    ·have en:(if n.kind=1∧n.name=f then XM n g else n)=n:=if_neg (fun h=>e h.2)
     rw[en,if_pos hk1]
     rw[if_neg e]at hs
     rw[hs]
   ·have en:(if n.kind=1∧n.name=f then XM n g else n)=n:=if_neg (fun h=>hk1 h.1)
    rw[en,if_neg hk1,if_neg hk1]
theorem CG(tk:List Str)(f g:Str): ∀ (ks:List Tm) (σ τ ρ π:List (Str×Str)) (i c:Nat) (b:Bool),Lr f g σ ρ->(b=false->Lr f g τ π)->(b=true-> ∀ s,s≠g->ZR π s=ZR τ s)->(b=true->i+ks.length<=2)->(∀ x∈ks.flatMap ZY,x.nd.name≠g) ->
  ZB tk ρ π i c (Xg f g b i ks)=ZB tk σ τ i c ks
 | [],σ,τ,ρ,π,i,c,b,_,_,_,_,_=>by rw[Xg,ZB,ZB]
 | k::ks,σ,τ,ρ,π,i,c,b,h1,h2,h3,h4,hg=>by
  rw[List.flatMap_cons]at hg
  have hgk : ∀ x∈ZY k,x.nd.name≠g:=fun x hx=>hg x (List.mem_append_left _ hx)
  have a:Yl tk (if i=0 then ρ else π) c (if b&&decide (i=1)then k else XR f g k)=Yl tk (if i=0 then σ else τ) c k:=by
   by_cases h0:i=0
   ·subst h0
    simp only[if_true,show decide ((0:Nat)=1)=false from rfl,Bool.and_false,if_neg Bool.false_ne_true]
    exact Pd tk f g k σ ρ c h1 hgk
   ·rw[if_neg h0,if_neg h0]
    cases b with
    | false=>
     rw[Bool.false_and,if_neg Bool.false_ne_true]
     exact Pd tk f g k τ π c (h2 rfl) hgk
    | true=>
     have:=h4 rfl
     rw[List.length_cons]at this
     obtain rfl:i=1:=by omega
     rw[Bool.true_and,if_pos (by decide)]
     exact NR tk g k τ π c (h3 rfl) hgk
  rw[Xg,ZB,ZB,a,CG tk f g ks σ τ ρ π (i+1) _ b h1 h2 h3 (fun hb=>by have:=h4 hb;rw[List.length_cons]at this;omega) (fun x hx=>hg x (List.mem_append_right _ hx))]
end
mutual
theorem a2a(f g:Str): ∀ (t:Tm) (x:Str),x≠f->x≠g->(∀ y∈ZY t,y.nd.name≠g)->(x∈Z7 [] (XR f g t) ↔ x∈Z7 [] t)
 | .mk n ks,x,hf,hx,hg=>by
  rw[Xa]at hg
  have hk : ∀ y∈ks.flatMap ZY,y.nd.name≠g:=fun y hy=>hg y (List.mem_cons_of_mem _ hy)
  rw[XR,Z7,Z7,Kt,List.mem_append,List.mem_append]
  have hl:ZF (if n.kind=1∧n.name=f then XM n g else n) ks.length=ZF n ks.length:=by split <;> rfl
  rw[hl]
  have h1:(x∈(if (if n.kind=1∧n.name=f then XM n g else n).kind=1∧(if n.kind=1∧n.name=f then XM n g else n).name ∉ ([]:List Str)then [(if n.kind=1∧n.name=f then XM n g else n).name]else []) ↔ x∈(if n.kind=1∧n.name ∉ ([]:List Str)then [n.name]else [])):=by
   by_cases c:n.kind=1∧n.name=f
   ·have en:(if n.kind=1∧n.name=f then XM n g else n)=XM n g:=if_pos c
    rw[en,if_pos ⟨c.1,by simp⟩,if_pos ⟨c.1,by simp⟩]
    simp only[List.mem_singleton]
    constructor
    ·intro e;exact absurd e hx
    ·intro e;exact absurd (e.trans c.2) hf
   ·have en:(if n.kind=1∧n.name=f then XM n g else n)=n:=if_neg c
    rw[en]
  have h2:(x∈ZL [] (ZF n ks.length) (if n.kind=1∧n.name=f then XM n g else n).name 0 (Xg f g (ZF n ks.length&&decide (n.name=f)) 0 ks) ↔ x∈ZL [] (ZF n ks.length) n.name 0 ks):=by
   by_cases hL:ZF n ks.length=true
   ·have hL':=hL
    unfold ZF at hL'
    simp only[Bool.and_eq_true,decide_eq_true_eq]at hL'
    have en:(if n.kind=1∧n.name=f then XM n g else n)=n:=if_neg (fun h=>by omega)
    rw[en,hL,Bool.true_and]
    exact Bu f g ks true n.name 0 (decide (n.name=f)) x hf hx hk
   ·have hL':ZF n ks.length=false:=by simpa using hL
    rw[hL',Bool.false_and]
    have h:=Bu f g ks false n.name 0 false x hf hx hk
    have e : ∀ (ls:List Tm) (s s':Str) (i:Nat),ZL [] false s i ls=ZL [] false s' i ls:=fun ls=>by
     induction ls with
     | nil=>intro s s' i;rw[ZL,ZL]
     | cons k ls ih=>intro s s' i;rw[ZL,ZL,ih s s'];simp
    rw[e _ _ n.name]
    exact h
  rw[h1,h2]
theorem Bu(f g:Str): ∀ (ks:List Tm) (l:Bool) (s:Str) (i:Nat) (b:Bool) (x:Str),x≠f->x≠g->(∀ y∈ks.flatMap ZY,y.nd.name≠g)->(x∈ZL [] l s i (Xg f g b i ks) ↔ x∈ZL [] l s i ks)
 | [],l,s,i,b,x,_,_,_=>by rw[Xg]
 | k::ks,l,s,i,b,x,hf,hx,hg=>by
  rw[List.flatMap_cons]at hg
  rw[Xg,ZL,ZL,List.mem_append,List.mem_append,Bu f g ks l s (i+1) b x hf hx (fun y hy=>hg y (List.mem_append_right _ hy))]
  have h : ∀ bd:List Str,(x∈Z7 bd (if b&&decide (i=1)then k else XR f g k) ↔ x∈Z7 bd k):=fun bd=>by
   split
   ·exact Iff.rfl
   ·rw[Vz,Vz k,a2a f g k x hf hx (fun y hy=>hg y (List.mem_append_left _ hy))]
  rw[h]
end
mutual
theorem a2q(f g:Str)(hfg:f≠g): ∀ (t:Tm),f ∉ Z7 [] (XR f g t)
 | .mk n ks=>by
  rw[XR,Z7,Kt,List.mem_append,not_or]
  have hl:ZF (if n.kind=1∧n.name=f then XM n g else n) ks.length=ZF n ks.length:=by split <;> rfl
  rw[hl]
  refine⟨?_,?_⟩
  ·by_cases c:n.kind=1∧n.name=f
   ·have en:(if n.kind=1∧n.name=f then XM n g else n)=XM n g:=if_pos c
    rw[en]
    split
    ·simp only[List.mem_singleton];exact hfg
    ·simp
   ·have en:(if n.kind=1∧n.name=f then XM n g else n)=n:=if_neg c
    rw[en]
    split
    ·rename_i h
     simp only[List.mem_singleton]
     exact fun e=>c ⟨h.1,e.symm⟩
    ·simp
  ·by_cases hL:ZF n ks.length=true
   ·have hL':=hL
    unfold ZF at hL'
    simp only[Bool.and_eq_true,decide_eq_true_eq]at hL'
    have en:(if n.kind=1∧n.name=f then XM n g else n)=n:=if_neg (fun h=>by omega)
    rw[en,hL,Bool.true_and]
    exact Cx f g hfg ks true n.name 0 (decide (n.name=f)) (fun hb=>⟨rfl,of_decide_eq_true hb⟩)
   ·have hL':ZF n ks.length=false:=by simpa using hL
    rw[hL',Bool.false_and]
    exact Cx f g hfg ks false _ 0 false (fun h=>by cases h)
theorem Cx(f g:Str)(hfg:f≠g): ∀ (ks:List Tm) (l:Bool) (s:Str) (i:Nat) (b:Bool),(b=true->l=true∧s=f)->f ∉ ZL [] l s i (Xg f g b i ks)
 | [],l,s,i,b,_=>by rw[Xg,ZL];simp
 | k::ks,l,s,i,b,hb=>by
  rw[Xg,ZL,List.mem_append,not_or]
  refine⟨?_,Cx f g hfg ks l s (i+1) b hb⟩
  by_cases c:(b&&decide (i=1))=true
  ·rw[if_pos c]
   simp only[Bool.and_eq_true,decide_eq_true_eq]at c
   obtain⟨hl,hs⟩:=hb c.1
   rw[hl,hs,if_pos (by simp[c.2]),Vz]
   exact fun h=>h.1 (by simp)
  ·rw[if_neg c,Vz]
   exact fun h=>a2q f g hfg k h.2
end
mutual
theorem Fz: ∀ (t:Tm) (b:List Str) (x:Str),x∈Z7 b t-> ∃ y∈ZY t,y.nd.name=x
 | .mk n ks,b,x,h=>by
  rw[Z7,List.mem_append]at h
  rw[Xa]
  rcases h with h|h
  ·split at h
   ·obtain rfl:x=n.name:=by simpa using h
    exact⟨.mk n ks,by simp,rfl⟩
   ·cases h
  ·obtain⟨y,hy,e⟩:=Tq ks b _ _ _ x h
   exact⟨y,List.mem_cons_of_mem _ hy,e⟩
theorem Tq: ∀ (ks:List Tm) (b:List Str) (l:Bool) (s:Str) (i:Nat) (x:Str),x∈ZL b l s i ks-> ∃ y∈ks.flatMap ZY,y.nd.name=x
 | [],b,l,s,i,x,h=>by rw[ZL]at h;cases h
 | k::ks,b,l,s,i,x,h=>by
  rw[ZL,List.mem_append]at h
  rw[List.flatMap_cons]
  rcases h with h|h
  ·obtain⟨y,hy,e⟩:=Fz k _ x h
   exact⟨y,List.mem_append_left _ hy,e⟩
  ·obtain⟨y,hy,e⟩:=Tq ks b l s (i+1) x h
   exact⟨y,List.mem_append_right _ hy,e⟩
end
theorem PZ{f g:Str}(hfg:f≠g)(a b:Tm)(hg : ∀ y∈ZY b,y.nd.name≠g):Z0 (KQ g a (XR f g b))=Z0 (KQ f a b):=by
 unfold Z0
 rw[a0e,a0e]
 refine a6i fun x=> ?_
 rw[List.mem_append,List.mem_append,Vz _ [g],Vz b [f]]
 simp only[List.mem_singleton]
 have hgb:g ∉ Z7 [] b:=fun h=>by
  obtain⟨y,hy,e⟩:=Fz b [] g h
  exact hg y hy e
 by_cases hf:x=f
 ·subst hf
  have:=a2q x g hfg b
  exact⟨fun h=>h.imp id fun h=>absurd h.2 this,fun h=>h.imp id fun h=>absurd rfl h.1⟩
 ·by_cases hx:x=g
  ·subst hx
   exact⟨fun h=>h.imp id fun h=>absurd rfl h.1,fun h=>h.imp id fun h=>absurd h.2 hgb⟩
  ·rw[a2a f g b x hf hx hg]
   exact⟨fun h=>h.imp id fun h=>⟨hf,h.2⟩,fun h=>h.imp id fun h=>⟨hx,h.2⟩⟩
theorem a1c(tk:List Str)(σ:List (Str×Str))(c:Nat)(s:Str)(a b:Tm):Yl tk σ c (KQ s a b) =
  (.mk (XM {FO with kind:=5,name:=s} (vN (Zn tk c))) [(Yl tk σ (Zn tk c) a).1,(Yl tk ((s,vN (Zn tk c))::σ) (Yl tk σ (Zn tk c) a).2 b).1],(Yl tk ((s,vN (Zn tk c))::σ) (Yl tk σ (Zn tk c) a).2 b).2):=by
 rw[KQ,Yl]
 split
 ·dsimp only
  rw[ZB,ZB,ZB]
  rfl
 ·rename_i h
  exact absurd rfl h
theorem a4y{f g:Str}(hfg:f≠g)(a b:Tm)(hg : ∀ y∈ZY b,y.nd.name≠g):Yk (KQ g a (XR f g b))=Yk (KQ f a b):=by
 unfold Yk
 rw[PZ hfg a b hg]
 generalize Z0 (KQ f a b)=tk
 have h:=Pd tk f g b [(f,vN (Zn tk 0))] [(g,vN (Zn tk 0))] (Yl tk [] (Zn tk 0) a).2 (fun s hs=>by
  by_cases e:s=f
  ·rw[if_pos e,Yn,Yn,if_pos rfl,if_pos e.symm]
  ·rw[if_neg e,Yn,Yn,if_neg (fun h=>hs h.symm),if_neg (fun h=>e h.symm)]) hg
 rw[a1c,a1c,h]
 rfl
mutual
theorem Ov: ∀ {a b:Tm} (bd:List Str),Kv a b=true->Z7 bd a=Z7 bd b∧Zh a=Zh b
 | .mk n ks,.mk m ls,bd,h=>by
  rw[Kv,Bool.and_eq_true]at h
  obtain⟨h1,h2⟩:=h
  unfold LX at h1
  simp only[Bool.and_eq_true,decide_eq_true_eq]at h1
  have hk:n.kind=m.kind:=h1.1.1.1.1.1.1.1
  have hn:n.name=m.name:=h1.1.1.1.1.1.1.2
  have hlen:=a2l h2
  have hl:ZF n ks.length=ZF m ls.length:=by unfold ZF;rw[hk,hlen]
  rw[Z7,Z7,Zh,Zh,hl,hk,hn,(Ch bd (ZF m ls.length) m.name 0 h2).1,(Ch bd (ZF m ls.length) m.name 0 h2).2]
  exact⟨rfl,rfl⟩
theorem Ch: ∀ {a b:List Tm} (bd:List Str) (l:Bool) (s:Str) (i:Nat),Xp a b=true->ZL bd l s i a=ZL bd l s i b∧Zl a=Zl b
 | [],[],bd,l,s,i,h=>⟨rfl,rfl⟩
 | [],_::_,bd,l,s,i,h=>by rw[Xp]at h;cases h;all_goals simp
 | _::_,[],bd,l,s,i,h=>by rw[Xp]at h;cases h;all_goals simp
 | k::ks,m::ls,bd,l,s,i,h=>by
  rw[Xp,Bool.and_eq_true]at h
  rw[ZL,ZL,Zl,Zl,(Ov _ h.1).1,(Ov [] h.1).2,(Ch bd l s (i+1) h.2).1,(Ch bd l s (i+1) h.2).2]
  exact⟨rfl,rfl⟩
theorem a2l: ∀ {a b:List Tm},Xp a b=true->a.length=b.length
 | [],[],_=>rfl
 | [],_::_,h=>by rw[Xp]at h;cases h;all_goals simp
 | _::_,[],h=>by rw[Xp]at h;cases h;all_goals simp
 | k::ks,m::ls,h=>by
  rw[Xp,Bool.and_eq_true]at h
  rw[List.length_cons,List.length_cons,a2l h.2]
end
mutual
theorem NP: ∀ {a b:Tm},Kv a b=true->Kv b a=true
 | .mk n ks,.mk m ls,h=>by
  rw[Kv,Bool.and_eq_true]at h ⊢
  refine⟨?_,SA h.2⟩
  have h1:=h.1
  unfold LX at h1 ⊢
  simp only[Bool.and_eq_true,decide_eq_true_eq]at h1 ⊢
  obtain⟨⟨⟨⟨⟨⟨⟨a1,a2⟩,a3⟩,a4⟩,a5⟩,a6⟩,a7⟩,a8⟩:=h1
  exact⟨⟨⟨⟨⟨⟨⟨a1.symm,a2.symm⟩,a3.symm⟩,a4.symm⟩,a5.symm⟩,a6.symm⟩,a7.symm⟩,a8.symm⟩
theorem SA: ∀ {a b:List Tm},Xp a b=true->Xp b a=true
 | [],[],_=>rfl
 | [],_::_,h=>by rw[Xp]at h;cases h;all_goals simp
 | _::_,[],h=>by rw[Xp]at h;cases h;all_goals simp
 | k::ks,m::ls,h=>by
  rw[Xp,Bool.and_eq_true]at h ⊢
  exact⟨NP h.1,SA h.2⟩
end
theorem Ej{a b:Tm}(h:VQ a b=true):Z0 a=Z0 b∧Zh a=Zh b∧VQ b a=true:=by
 unfold VQ at h ⊢
 have h1:=Ov [] h
 refine⟨?_,by rw[<- Nu a,<- Nu b];exact h1.2,NP h⟩
 rw[<- NT a,<- NT b]
 unfold Z0
 rw[h1.1]
end Go.Pl
namespace Go.Pl
open Go.RowKit
open Enc (enc dec is)
open EncL (encL decL isL)
set_option maxRecDepth 100000
abbrev Dz(N:Nat)(ps:List PV)(k:Tm->Prop):Prop:=V7 (fun(x:Tm×Str×Str×Unit)=>decide (YO (Prod.fst x)<=1048576)&&decide (ZI (Prod.fst x)<N)) (fun(x:Tm×Str×Str×Unit)=>XR (Prod.fst (Prod.snd x)) (Prod.fst (Prod.snd (Prod.snd x))) (Prod.fst x)) ps k
noncomputable def YH:IC:=WB Proofs.Tryz.f17
def YI:List IRes:=[(.cell true 10 6)]
abbrev d1i:Nat:=68
noncomputable def Xu(N:Nat):ZC:=YR [(17,.pure (preT (fun x:Tm×Str×Str×Unit=>decide (YO x.1<=1048576)&&decide (ZI x.1<N))) (Zk (fun x:Tm×Str×Str×Unit=>XR x.2.1 x.2.2.1 x.1)))]
theorem d2u{G:PV->Prop}(N:Nat)(n:Nd)(ks:List Tm)(f g:List UInt8)(h:if (Nd.kind n==1)=true then if (Str.s (Nd.name n)==f)=true then At (Xu N) 0 (Zb YI G) YH 0 68 [(1,(.pv (.str f))),(2,(.pv (.str g))),(3,(.ptr 0 0)),(6,(.ptr 1 0)),(7,(.pv (.sl 0 true []))),(8,(.pv (.int .i64 0)))] [(.obj (.box [(.pv (.int .i64 (Nd.kind n))),(.pv (.int .i64 (Nd.line n))),(.pv (.str g)),(.pv (.int .i64 (Nd.num n))),(.pv (.str (Str.s (Nd.elem n)))),(.pv (.sl 1 false (List.map enc (Nd.dims n)))),(.pv (.sl 1 false (List.map enc (Nd.data n)))),(.pv (.sl 2 false (List.map enc (Nd.sizes n)))),(.pv (.sl 1 false (List.map enc (Nd.ranks n)))),(.pv (.sl 10 false (List.map enc ks)))])),(.obj (.box [(.pv (.int .i64 0)),(.pv (.int .i64 0)),(.pv (.str [])),(.pv (.int .i64 0)),(.pv (.str [])),(.pv (.sl 0 true [])),(.pv (.sl 0 true [])),(.pv (.sl 0 true [])),(.pv (.sl 0 true [])),(.pv (.sl 0 true []))]))]else(At (Xu N) 0 (Zb YI G) YH 0 68 [(1,(.pv (.str f))),(2,(.pv (.str g))),(3,(.ptr 0 0)),(6,(.ptr 1 0)),(7,(.pv (.sl 0 true []))),(8,(.pv (.int .i64 0)))] [(.obj (.box (Ym n ks))),(.obj (.box [(.pv (.int .i64 0)),(.pv (.int .i64 0)),(.pv (.str [])),(.pv (.int .i64 0)),(.pv (.str [])),(.pv (.sl 0 true [])),(.pv (.sl 0 true [])),(.pv (.sl 0 true [])),(.pv (.sl 0 true [])),(.pv (.sl 0 true []))]))])else(At (Xu N) 0 (Zb YI G) YH 0 68 [(1,(.pv (.str f))),(2,(.pv (.str g))),(3,(.ptr 0 0)),(6,(.ptr 1 0)),(7,(.pv (.sl 0 true []))),(8,(.pv (.int .i64 0)))] [(.obj (.box (Ym n ks))),(.obj (.box [(.pv (.int .i64 0)),(.pv (.int .i64 0)),(.pv (.str [])),(.pv (.int .i64 0)),(.pv (.str [])),(.pv (.sl 0 true [])),(.pv (.sl 0 true [])),(.pv (.sl 0 true [])),(.pv (.sl 0 true [])),(.pv (.sl 0 true []))]))])):Zc (Xu N) 0 (Zb YI G) YH [] (Yc 68 [.agg [enc n.kind,enc n.line,enc n.name,enc n.num,enc n.elem,enc n.dims,enc n.data,enc n.sizes,enc n.ranks,enc ks],.str f,.str g]):=Zc.tp (dm [] 23 0x222220000142222200b42) h
theorem a2k{G:PV->Prop}(N:Nat)(n:Nd)(ks:List Tm)(f g:List UInt8)(s:List UInt8)(i:Int)(h:if (decide (i<(↑(List.length (List.map enc ks)):Int)))=true then if (Nd.kind n==5)=true then if ((↑(List.length (List.map enc ks)):Int)==2)=true then if (i==1)=true then if (s==f)=true then(Qx ks i 10 fun y0=>(S9 y0=true∧(At (Xu N) 0 (Zb YI G) YH 0 68 [(1,(.pv (.str f))),(2,(.pv (.str g))),(3,(.ptr 0 0)),(6,(.ptr 1 0)),(7,(.row 2 1 0 1)),(8,(.pv (.int .i64 (IntKind.wrap IntKind.i64 (i+1)))))] [(.obj (.box [(.pv (.int .i64 (Nd.kind n))),(.pv (.int .i64 (Nd.line n))),(.pv (.str s)),(.pv (.int .i64 (Nd.num n))),(.pv (.str (Str.s (Nd.elem n)))),(.pv (.sl 1 false (List.map enc (Nd.dims n)))),(.pv (.sl 1 false (List.map enc (Nd.data n)))),(.pv (.sl 2 false (List.map enc (Nd.sizes n)))),(.pv (.sl 1 false (List.map enc (Nd.ranks n)))),(.pv (.sl 10 false (List.map enc ks)))])),(.obj (.box [(.pv (.int .i64 0)),(.pv (.int .i64 0)),(.pv (.str [])),(.pv (.int .i64 0)),(.pv (.str [])),(.pv (.sl 0 true [])),(.pv (.sl 0 true [])),(.pv (.sl 0 true [])),(.pv (.sl 0 true [])),(.pv (.sl 0 true []))])),(.obj (.row false 28 10 (agT y0)))])))else((Qx ks i 10 fun y1=>(S9 y1=true∧((Dz N [Gz y1,(.str f),(.str g)] fun y2=>((List.all [enc y2] fun(x:PV)=>List.length (PV.cells x)==10&&PV.cellsOk x)=true∧(At (Xu N) 0 (Zb YI G) YH 0 68 [(1,(.pv (.str f))),(2,(.pv (.str g))),(3,(.ptr 0 0)),(6,(.ptr 1 0)),(7,(.row 2 1 0 1)),(8,(.pv (.int .i64 (IntKind.wrap IntKind.i64 (i+1)))))] [(.obj (.box [(.pv (.int .i64 (Nd.kind n))),(.pv (.int .i64 (Nd.line n))),(.pv (.str s)),(.pv (.int .i64 (Nd.num n))),(.pv (.str (Str.s (Nd.elem n)))),(.pv (.sl 1 false (List.map enc (Nd.dims n)))),(.pv (.sl 1 false (List.map enc (Nd.data n)))),(.pv (.sl 2 false (List.map enc (Nd.sizes n)))),(.pv (.sl 1 false (List.map enc (Nd.ranks n)))),(.pv (.sl 10 false (List.map enc ks)))])),(.obj (.box [(.pv (.int .i64 0)),(.pv (.int .i64 0)),(.pv (.str [])),(.pv (.int .i64 0)),(.pv (.str [])),(.pv (.sl 0 true [])),(.pv (.sl 0 true [])),(.pv (.sl 0 true [])),(.pv (.sl 0 true [])),(.pv (.sl 0 true []))])),(.obj (.row false 28 10 [enc y2]))])))))))else((Qx ks i 10 fun y3=>(S9 y3=true∧((Dz N [Gz y3,(.str f),(.str g)] fun y4=>((List.all [enc y4] fun(x:PV)=>List.length (PV.cells x)==10&&PV.cellsOk x)=true∧(At (Xu N) 0 (Zb YI G) YH 0 68 [(1,(.pv (.str f))),(2,(.pv (.str g))),(3,(.ptr 0 0)),(6,(.ptr 1 0)),(7,(.row 2 1 0 1)),(8,(.pv (.int .i64 (IntKind.wrap IntKind.i64 (i+1)))))] [(.obj (.box [(.pv (.int .i64 (Nd.kind n))),(.pv (.int .i64 (Nd.line n))),(.pv (.str s)),(.pv (.int .i64 (Nd.num n))),(.pv (.str (Str.s (Nd.elem n)))),(.pv (.sl 1 false (List.map enc (Nd.dims n)))),(.pv (.sl 1 false (List.map enc (Nd.data n)))),(.pv (.sl 2 false (List.map enc (Nd.sizes n)))),(.pv (.sl 1 false (List.map enc (Nd.ranks n)))),(.pv (.sl 10 false (List.map enc ks)))])),(.obj (.box [(.pv (.int .i64 0)),(.pv (.int .i64 0)),(.pv (.str [])),(.pv (.int .i64 0)),(.pv (.str [])),(.pv (.sl 0 true [])),(.pv (.sl 0 true [])),(.pv (.sl 0 true [])),(.pv (.sl 0 true [])),(.pv (.sl 0 true []))])),(.obj (.row false 28 10 [enc y4]))])))))))else((Qx ks i 10 fun y5=>(S9 y5=true∧((Dz N [Gz y5,(.str f),(.str g)] fun y6=>((List.all [enc y6] fun(x:PV)=>List.length (PV.cells x)==10&&PV.cellsOk x)=true∧(At (Xu N) 0 (Zb YI G) YH 0 68 [(1,(.pv (.str f))),(2,(.pv (.str g))),(3,(.ptr 0 0)),(6,(.ptr 1 0)),(7,(.row 2 1 0 1)),(8,(.pv (.int .i64 (IntKind.wrap IntKind.i64 (i+1)))))] [(.obj (.box [(.pv (.int .i64 (Nd.kind n))),(.pv (.int .i64 (Nd.line n))),(.pv (.str s)),(.pv (.int .i64 (Nd.num n))),(.pv (.str (Str.s (Nd.elem n)))),(.pv (.sl 1 false (List.map enc (Nd.dims n)))),(.pv (.sl 1 false (List.map enc (Nd.data n)))),(.pv (.sl 2 false (List.map enc (Nd.sizes n)))),(.pv (.sl 1 false (List.map enc (Nd.ranks n)))),(.pv (.sl 10 false (List.map enc ks)))])),(.obj (.box [(.pv (.int .i64 0)),(.pv (.int .i64 0)),(.pv (.str [])),(.pv (.int .i64 0)),(.pv (.str [])),(.pv (.sl 0 true [])),(.pv (.sl 0 true [])),(.pv (.sl 0 true [])),(.pv (.sl 0 true [])),(.pv (.sl 0 true []))])),(.obj (.row false 28 10 [enc y6]))])))))))else((Qx ks i 10 fun y7=>(S9 y7=true∧((Dz N [Gz y7,(.str f),(.str g)] fun y8=>((List.all [enc y8] fun(x:PV)=>List.length (PV.cells x)==10&&PV.cellsOk x)=true∧(At (Xu N) 0 (Zb YI G) YH 0 68 [(1,(.pv (.str f))),(2,(.pv (.str g))),(3,(.ptr 0 0)),(6,(.ptr 1 0)),(7,(.row 2 1 0 1)),(8,(.pv (.int .i64 (IntKind.wrap IntKind.i64 (i+1)))))] [(.obj (.box [(.pv (.int .i64 (Nd.kind n))),(.pv (.int .i64 (Nd.line n))),(.pv (.str s)),(.pv (.int .i64 (Nd.num n))),(.pv (.str (Str.s (Nd.elem n)))),(.pv (.sl 1 false (List.map enc (Nd.dims n)))),(.pv (.sl 1 false (List.map enc (Nd.data n)))),(.pv (.sl 2 false (List.map enc (Nd.sizes n)))),(.pv (.sl 1 false (List.map enc (Nd.ranks n)))),(.pv (.sl 10 false (List.map enc ks)))])),(.obj (.box [(.pv (.int .i64 0)),(.pv (.int .i64 0)),(.pv (.str [])),(.pv (.int .i64 0)),(.pv (.str [])),(.pv (.sl 0 true [])),(.pv (.sl 0 true [])),(.pv (.sl 0 true [])),(.pv (.sl 0 true [])),(.pv (.sl 0 true []))])),(.obj (.row false 28 10 [enc y8]))])))))))else(G ((.agg [(.int .i64 (Nd.kind n)),(.int .i64 (Nd.line n)),(.str s),(.int .i64 (Nd.num n)),(.str (Str.s (Nd.elem n))),(.sl 1 false (List.map enc (Nd.dims n))),(.sl 1 false (List.map enc (Nd.data n))),(.sl 2 false (List.map enc (Nd.sizes n))),(.sl 1 false (List.map enc (Nd.ranks n))),(.sl 0 true [])])))):At (Xu N) 0 (Zb YI G) YH 0 68 [(1,.pv (.str f)),(2,.pv (.str g)),(3,.ptr 0 0),(6,.ptr 1 0),(7,.pv (.sl 0 true [])),(8,.pv (.int .i64 i))] [.obj (.box [.pv (enc n.kind),.pv (enc n.line),.pv (.str s),.pv (enc n.num),.pv (enc n.elem),.pv (enc n.dims),.pv (enc n.data),.pv (enc n.sizes),.pv (enc n.ranks),.pv (enc ks)]),.obj (.box [.pv (.int .i64 0),.pv (.int .i64 0),.pv (.str []),.pv (.int .i64 0),.pv (.str []),.pv (.sl 0 true []),.pv (.sl 0 true []),.pv (.sl 0 true []),.pv (.sl 0 true []),.pv (.sl 0 true [])])]:=At.tp (dm [dr Tm,dv Tm] 121 0x2222216115122222222222220222221611512222222202222216115122222022222161151022222215100a42222201f42220374222220544207242) h
theorem a0a{G:PV->Prop}(N:Nat)(n:Nd)(ks:List Tm)(f g:List UInt8)(s:List UInt8)(o:List Tm)(L:Nat)(i:Int)(h:if (decide (i<(↑(List.length (List.map enc ks)):Int)))=true then if (Nd.kind n==5)=true then if ((↑(List.length (List.map enc ks)):Int)==2)=true then if (i==1)=true then if (s==f)=true then(Qx ks i 10 fun y0=>(S9 y0=true∧((List.length (List.map enc o)==L&&L==L&&decide ((L+List.length (List.drop 0 (List.take 1 [PV.agg (QO (PV.cells (enc y0)) 0 [Sh.int .i64,Sh.int .i64,Sh.str,Sh.int .i64,Sh.str,Sh.sl 1,Sh.sl 1,Sh.sl 2,Sh.sl 1,Sh.sl 10])])))*176<=1099511627776)&&decide (L+List.length (List.drop 0 (List.take 1 [PV.agg (QO (PV.cells (enc y0)) 0 [Sh.int .i64,Sh.int .i64,Sh.str,Sh.int .i64,Sh.str,Sh.sl 1,Sh.sl 1,Sh.sl 2,Sh.sl 1,Sh.sl 10])]))<=1099511627776))=true∧(At (Xu N) 0 (Zb YI G) YH 0 68 [(1,(.pv (.str f))),(2,(.pv (.str g))),(3,(.ptr 0 0)),(6,(.ptr 1 0)),(7,(.row 2 (L+List.length (List.drop 0 (List.take 1 [PV.agg (QO (PV.cells (enc y0)) 0 [Sh.int .i64,Sh.int .i64,Sh.str,Sh.int .i64,Sh.str,Sh.sl 1,Sh.sl 1,Sh.sl 2,Sh.sl 1,Sh.sl 10])]))) 0 (L+List.length (List.drop 0 (List.take 1 [PV.agg (QO (PV.cells (enc y0)) 0 [Sh.int .i64,Sh.int .i64,Sh.str,Sh.int .i64,Sh.str,Sh.sl 1,Sh.sl 1,Sh.sl 2,Sh.sl 1,Sh.sl 10])]))))),(8,(.pv (.int .i64 (IntKind.wrap IntKind.i64 (i+1)))))] [(.obj (.box [(.pv (.int .i64 (Nd.kind n))),(.pv (.int .i64 (Nd.line n))),(.pv (.str s)),(.pv (.int .i64 (Nd.num n))),(.pv (.str (Str.s (Nd.elem n)))),(.pv (.sl 1 false (List.map enc (Nd.dims n)))),(.pv (.sl 1 false (List.map enc (Nd.data n)))),(.pv (.sl 2 false (List.map enc (Nd.sizes n)))),(.pv (.sl 1 false (List.map enc (Nd.ranks n)))),(.pv (.sl 10 false (List.map enc ks)))])),(.obj (.box [(.pv (.int .i64 0)),(.pv (.int .i64 0)),(.pv (.str [])),(.pv (.int .i64 0)),(.pv (.str [])),(.pv (.sl 0 true [])),(.pv (.sl 0 true [])),(.pv (.sl 0 true [])),(.pv (.sl 0 true [])),(.pv (.sl 0 true []))])),(.obj (.row false 28 10 (List.map enc o++List.drop 0 (List.take 1 [PV.agg (QO (PV.cells (enc y0)) 0 [Sh.int .i64,Sh.int .i64,Sh.str,Sh.int .i64,Sh.str,Sh.sl 1,Sh.sl 1,Sh.sl 2,Sh.sl 1,Sh.sl 10])]))))]))))else((Qx ks i 10 fun y1=>(S9 y1=true∧((Dz N [Gz y1,(.str f),(.str g)] fun y2=>((List.all [enc y2] fun(x:PV)=>List.length (PV.cells x)==10&&PV.cellsOk x)=true∧((List.length (List.map enc o)==L&&L==L&&decide ((L+List.length (List.drop 0 (List.take 1 [enc y2])))*176<=1099511627776)&&decide (L+List.length (List.drop 0 (List.take 1 [enc y2]))<=1099511627776))=true∧(At (Xu N) 0 (Zb YI G) YH 0 68 [(1,(.pv (.str f))),(2,(.pv (.str g))),(3,(.ptr 0 0)),(6,(.ptr 1 0)),(7,(.row 2 (L+List.length (List.drop 0 (List.take 1 [enc y2]))) 0 (L+List.length (List.drop 0 (List.take 1 [enc y2]))))),(8,(.pv (.int .i64 (IntKind.wrap IntKind.i64 (i+1)))))] [(.obj (.box [(.pv (.int .i64 (Nd.kind n))),(.pv (.int .i64 (Nd.line n))),(.pv (.str s)),(.pv (.int .i64 (Nd.num n))),(.pv (.str (Str.s (Nd.elem n)))),(.pv (.sl 1 false (List.map enc (Nd.dims n)))),(.pv (.sl 1 false (List.map enc (Nd.data n)))),(.pv (.sl 2 false (List.map enc (Nd.sizes n)))),(.pv (.sl 1 false (List.map enc (Nd.ranks n)))),(.pv (.sl 10 false (List.map enc ks)))])),(.obj (.box [(.pv (.int .i64 0)),(.pv (.int .i64 0)),(.pv (.str [])),(.pv (.int .i64 0)),(.pv (.str [])),(.pv (.sl 0 true [])),(.pv (.sl 0 true [])),(.pv (.sl 0 true [])),(.pv (.sl 0 true [])),(.pv (.sl 0 true []))])),(.obj (.row false 28 10 (List.map enc o++List.drop 0 (List.take 1 [enc y2]))))]))))))))else((Qx ks i 10 fun y3=>(S9 y3=true∧((Dz N [Gz y3,(.str f),(.str g)] fun y4=>((List.all [enc y4] fun(x:PV)=>List.length (PV.cells x)==10&&PV.cellsOk x)=true∧((List.length (List.map enc o)==L&&L==L&&decide ((L+List.length (List.drop 0 (List.take 1 [enc y4])))*176<=1099511627776)&&decide (L+List.length (List.drop 0 (List.take 1 [enc y4]))<=1099511627776))=true∧(At (Xu N) 0 (Zb YI G) YH 0 68 [(1,(.pv (.str f))),(2,(.pv (.str g))),(3,(.ptr 0 0)),(6,(.ptr 1 0)),(7,(.row 2 (L+List.length (List.drop 0 (List.take 1 [enc y4]))) 0 (L+List.length (List.drop 0 (List.take 1 [enc y4]))))),(8,(.pv (.int .i64 (IntKind.wrap IntKind.i64 (i+1)))))] [(.obj (.box [(.pv (.int .i64 (Nd.kind n))),(.pv (.int .i64 (Nd.line n))),(.pv (.str s)),(.pv (.int .i64 (Nd.num n))),(.pv (.str (Str.s (Nd.elem n)))),(.pv (.sl 1 false (List.map enc (Nd.dims n)))),(.pv (.sl 1 false (List.map enc (Nd.data n)))),(.pv (.sl 2 false (List.map enc (Nd.sizes n)))),(.pv (.sl 1 false (List.map enc (Nd.ranks n)))),(.pv (.sl 10 false (List.map enc ks)))])),(.obj (.box [(.pv (.int .i64 0)),(.pv (.int .i64 0)),(.pv (.str [])),(.pv (.int .i64 0)),(.pv (.str [])),(.pv (.sl 0 true [])),(.pv (.sl 0 true [])),(.pv (.sl 0 true [])),(.pv (.sl 0 true [])),(.pv (.sl 0 true []))])),(.obj (.row false 28 10 (List.map enc o++List.drop 0 (List.take 1 [enc y4]))))]))))))))else((Qx ks i 10 fun y5=>(S9 y5=true∧((Dz N [Gz y5,(.str f),(.str g)] fun y6=>((List.all [enc y6] fun(x:PV)=>List.length (PV.cells x)==10&&PV.cellsOk x)=true∧((List.length (List.map enc o)==L&&L==L&&decide ((L+List.length (List.drop 0 (List.take 1 [enc y6])))*176<=1099511627776)&&decide (L+List.length (List.drop 0 (List.take 1 [enc y6]))<=1099511627776))=true∧(At (Xu N) 0 (Zb YI G) YH 0 68 [(1,(.pv (.str f))),(2,(.pv (.str g))),(3,(.ptr 0 0)),(6,(.ptr 1 0)),(7,(.row 2 (L+List.length (List.drop 0 (List.take 1 [enc y6]))) 0 (L+List.length (List.drop 0 (List.take 1 [enc y6]))))),(8,(.pv (.int .i64 (IntKind.wrap IntKind.i64 (i+1)))))] [(.obj (.box [(.pv (.int .i64 (Nd.kind n))),(.pv (.int .i64 (Nd.line n))),(.pv (.str s)),(.pv (.int .i64 (Nd.num n))),(.pv (.str (Str.s (Nd.elem n)))),(.pv (.sl 1 false (List.map enc (Nd.dims n)))),(.pv (.sl 1 false (List.map enc (Nd.data n)))),(.pv (.sl 2 false (List.map enc (Nd.sizes n)))),(.pv (.sl 1 false (List.map enc (Nd.ranks n)))),(.pv (.sl 10 false (List.map enc ks)))])),(.obj (.box [(.pv (.int .i64 0)),(.pv (.int .i64 0)),(.pv (.str [])),(.pv (.int .i64 0)),(.pv (.str [])),(.pv (.sl 0 true [])),(.pv (.sl 0 true [])),(.pv (.sl 0 true [])),(.pv (.sl 0 true [])),(.pv (.sl 0 true []))])),(.obj (.row false 28 10 (List.map enc o++List.drop 0 (List.take 1 [enc y6]))))]))))))))else((Qx ks i 10 fun y7=>(S9 y7=true∧((Dz N [Gz y7,(.str f),(.str g)] fun y8=>((List.all [enc y8] fun(x:PV)=>List.length (PV.cells x)==10&&PV.cellsOk x)=true∧((List.length (List.map enc o)==L&&L==L&&decide ((L+List.length (List.drop 0 (List.take 1 [enc y8])))*176<=1099511627776)&&decide (L+List.length (List.drop 0 (List.take 1 [enc y8]))<=1099511627776))=true∧(At (Xu N) 0 (Zb YI G) YH 0 68 [(1,(.pv (.str f))),(2,(.pv (.str g))),(3,(.ptr 0 0)),(6,(.ptr 1 0)),(7,(.row 2 (L+List.length (List.drop 0 (List.take 1 [enc y8]))) 0 (L+List.length (List.drop 0 (List.take 1 [enc y8]))))),(8,(.pv (.int .i64 (IntKind.wrap IntKind.i64 (i+1)))))] [(.obj (.box [(.pv (.int .i64 (Nd.kind n))),(.pv (.int .i64 (Nd.line n))),(.pv (.str s)),(.pv (.int .i64 (Nd.num n))),(.pv (.str (Str.s (Nd.elem n)))),(.pv (.sl 1 false (List.map enc (Nd.dims n)))),(.pv (.sl 1 false (List.map enc (Nd.data n)))),(.pv (.sl 2 false (List.map enc (Nd.sizes n)))),(.pv (.sl 1 false (List.map enc (Nd.ranks n)))),(.pv (.sl 10 false (List.map enc ks)))])),(.obj (.box [(.pv (.int .i64 0)),(.pv (.int .i64 0)),(.pv (.str [])),(.pv (.int .i64 0)),(.pv (.str [])),(.pv (.sl 0 true [])),(.pv (.sl 0 true [])),(.pv (.sl 0 true [])),(.pv (.sl 0 true [])),(.pv (.sl 0 true []))])),(.obj (.row false 28 10 (List.map enc o++List.drop 0 (List.take 1 [enc y8]))))]))))))))else((List.length (List.map enc o)==L)=true∧(G ((.agg [(.int .i64 (Nd.kind n)),(.int .i64 (Nd.line n)),(.str s),(.int .i64 (Nd.num n)),(.str (Str.s (Nd.elem n))),(.sl 1 false (List.map enc (Nd.dims n))),(.sl 1 false (List.map enc (Nd.data n))),(.sl 2 false (List.map enc (Nd.sizes n))),(.sl 1 false (List.map enc (Nd.ranks n))),(.sl 10 false (List.drop 0 (List.take L (List.map enc o))))]))))):At (Xu N) 0 (Zb YI G) YH 0 68 [(1,.pv (.str f)),(2,.pv (.str g)),(3,.ptr 0 0),(6,.ptr 1 0),(7,.row 2 L 0 L),(8,.pv (.int .i64 i))] [.obj (.box [.pv (enc n.kind),.pv (enc n.line),.pv (.str s),.pv (enc n.num),.pv (enc n.elem),.pv (enc n.dims),.pv (enc n.data),.pv (enc n.sizes),.pv (enc n.ranks),.pv (enc ks)]),.obj (.box [.pv (.int .i64 0),.pv (.int .i64 0),.pv (.str []),.pv (.int .i64 0),.pv (.str []),.pv (.sl 0 true []),.pv (.sl 0 true []),.pv (.sl 0 true []),.pv (.sl 0 true []),.pv (.sl 0 true [])]),.obj (.row false 28 10 (o.map enc))]:=At.tp (dm [dr Tm,dv Tm] 112 0x10212161151222222222222202121611512222222202121611512222202121611510212215100842222201b422203142222204c4206842) h
end Go.Pl
namespace Go.Pl
open Go.RowKit
mutual
theorem c6p(f g:Str)(h:g.s.length<=f.s.length+2): ∀ t:Tm,YO (XR f g t)<=YO t+2*Zh t
 | .mk n ks=>by
  have h1:=b2z f g h ks (ZF n ks.length&&decide (n.name=f)) 0
  rw[XR,YO,YO,Zh]
  have h2:AP (if n.kind=1∧n.name=f then XM n g else n)<=AP n+2:=by
   split
   ·rename_i e
    have:=Om n g
    rw[e.2]at this
    omega
   ·omega
  omega
theorem b2z(f g:Str)(h:g.s.length<=f.s.length+2): ∀ (ks:List Tm) (b:Bool) (i:Nat),Y2 (Xg f g b i ks)<=Y2 ks+2*Zl ks
 | [],b,i=>by rw[Xg];simp[Y2]
 | k::ks,b,i=>by
  have h1:=c6p f g h k
  have h2:=b2z f g h ks b (i+1)
  rw[Xg,Y2,Y2,Zl]
  have h3:YO (if (b&&decide (i=1))=true then k else XR f g k)<=YO k+2*Zh k:=by split <;> omega
  omega
end
theorem d4m{m:Nat}(h:m<10000):Lib.nDigits m<=4:=by
 rw[Lib.nDigits]
 split
 ·omega
 ·have:=c5z (show m / 10<1000 by omega)
  omega
theorem c3w{m:Nat}(h:m<=9999):(vN m).s.length<=5:=by
 show(118::Lib.itoa (m:Int)).length<=5
 unfold Lib.itoa
 rw[if_neg (by omega),List.length_cons,Int.toNat_natCast,Lib.decDigits_length]
 have:=d4m (show m<10000 by omega)
 omega
theorem b7f{t:Tm}(h:Zh t<=41):YO (Yk t)<=YO t+5*Zh t:=by
 have hf:(Z0 t).length<=Zh t:=by
  unfold Z0
  exact Nat.le_trans (CU _) (a3e [] t)
 refine b7z (Z0 t) 5 9999 (fun m hm=>c3w hm) t [] 0 (fun p hp=>by cases hp) ?_
 have:=Nat.mul_le_mul h (show(Z0 t).length+1<=42 by omega)
 omega
end Go.Pl
namespace Go.Pl
open Go.RowKit
open Enc (enc dec is)
open EncL (encL decL isL)
theorem d3l(t:Tm):PV.agg (QO (PV.cells (enc t)) 0 [Sh.int .i64,Sh.int .i64,Sh.str,Sh.int .i64,Sh.str,Sh.sl 1,Sh.sl 1,Sh.sl 2,Sh.sl 1,Sh.sl 10])=enc t:=by
 obtain⟨n,ks⟩:=t
 rw[Zy]
 rfl
theorem K7(q:Tm):(List.all [(enc q:PV)] fun(x:PV)=>List.length (PV.cells x)==10&&PV.cellsOk x)=true:=by
 obtain⟨m,ls⟩:=q
 rw[Zy]
 rfl
theorem b2e(n:Nd):Zq (Tm.mk n []) (.agg [.int .i64 n.kind,.int .i64 n.line,.str n.name.s,.int .i64 n.num,.str n.elem.s,.sl 1 false (n.dims.map enc),.sl 1 false (n.data.map enc),.sl 2 false (n.sizes.map enc),.sl 1 false (n.ranks.map enc),.sl 0 true []]):=by
 refine⟨?_,?_⟩
 ·show tmI (.agg (ndP n (.sl 0 true [])))=true
  rw[ndP,tmI]
  simp only[Enc.is_enc,Bool.true_and,Sd]
  rfl
 ·show tmD (.agg (ndP n (.sl 0 true [])))=_
  rw[ndP,tmD]
  simp only[Enc.dec_enc,R7]
theorem Ri(t:Tm)(f g:List UInt8):([Gz t,.str f,.str g]:List PV)=encL (t,(⟨f⟩:Str),(⟨g⟩:Str),()):=by rw[Rp];rfl
def FN(n:Nd)(ks:List Tm)(f:List UInt8):Bool:=ZF n ks.length&&decide (n.name=(⟨f⟩:Str))
def rnX(n:Nd)(ks:List Tm)(s:List UInt8):List AV:=[.pv (.int .i64 n.kind),.pv (.int .i64 n.line),.pv (.str s),.pv (.int .i64 n.num),.pv (.str n.elem.s),.pv (.sl 1 false (n.dims.map enc)),.pv (.sl 1 false (n.data.map enc)),.pv (.sl 2 false (n.sizes.map enc)),.pv (.sl 1 false (n.ranks.map enc)),.pv (.sl 10 false (ks.map enc))]
def rnZ:List AV:=[.pv (.int .i64 0),.pv (.int .i64 0),.pv (.str []),.pv (.int .i64 0),.pv (.str []),.pv (.sl 0 true []),.pv (.sl 0 true []),.pv (.sl 0 true []),.pv (.sl 0 true []),.pv (.sl 0 true [])]
theorem Rq{n:Nd}{ks:List Tm}{f:List UInt8}{i:Nat}(h:n.kind=5->ks.length=2->i=1->n.name.s≠f):(FN n ks f&&decide (i=1))=false:=by
 unfold FN ZF
 by_cases h1:n.kind=5
 ·by_cases h2:ks.length=2
  ·by_cases h3:i=1
   ·have:n.name≠(⟨f⟩:Str):=fun e=>h h1 h2 h3 (by rw[e])
    simp[this]
   ·simp[h3]
  ·simp[h2]
 ·simp[h1]
theorem b9w{n:Nd}{ks:List Tm}{f:List UInt8}{i:Nat}(h1:n.kind=5)(h2:ks.length=2)(h3:i=1)(h4:n.name.s=f):(FN n ks f&&decide (i=1))=true:=by
 have:n.name=(⟨f⟩:Str):=by rw[<- h4]
 simp[FN,ZF,h1,h2,h3,this]
theorem b0y(N:Nat)(n:Nd)(ks:List Tm)(f g s:List UInt8)(hs:n.kind=5->s=n.name.s)(hw:tW (.mk n ks)=true)(hd:ZU ks<N)(R:List Tm): ∀ (d i:Nat) (o:List Tm) (L:Nat),d+i=ks.length->L=o.length->L<=i->R=o++Xg ⟨f⟩ ⟨g⟩ (FN n ks f) i (ks.drop i) ->
  At (Xu N) 0 (Zb YI (Zq (Tm.mk (XM n ⟨s⟩) R))) YH 0 68 [(1,.pv (.str f)),(2,.pv (.str g)),(3,.ptr 0 0),(6,.ptr 1 0),(7,.row 2 L 0 L),(8,.pv (.int .i64 i))] [.obj (.box (rnX n ks s)),.obj (.box rnZ),.obj (.row false 28 10 (o.map enc))]:=by
 have hkl:=(YB hw).1
 intro d
 induction d with
 | zero=>
  intro i o L hi hL hl hR
  rw[List.drop_eq_nil_of_le (by omega),Xg,List.append_nil]at hR
  refine a0a N n ks f g s o L i (XC (Vk (by omega)) ⟨by simp[hL],?_⟩)
  have e:List.drop 0 (List.take L (List.map (enc:Tm->PV) o))=o.map enc:=by rw[List.drop_zero,List.take_of_length_le (by simp[hL])]
  rw[e,hR]
  show Zq (Tm.mk (XM n ⟨s⟩) o) (ndC (XM n ⟨s⟩) o)
  rw[Y0]
  exact JS rfl
 | succ d ih=>
  intro i o L hi hL hl hR
  have h1:i<ks.length:=by omega
  have hwk:=(YB hw).2 _ (List.getElem_mem h1)
  have hdk:=Kq (List.getElem_mem h1)
  rw[List.drop_eq_getElem_cons h1,Xg]at hR
  have nx : ∀ y:Tm,y=(if (FN n ks f&&decide (i=1))=true then ks[i]else XR ⟨f⟩ ⟨g⟩ ks[i])-> ∀ l:List PV,l=[enc y] ->
    At (Xu N) 0 (Zb YI (Zq (Tm.mk (XM n ⟨s⟩) R))) YH 0 68 [(1,.pv (.str f)),(2,.pv (.str g)),(3,.ptr 0 0),(6,.ptr 1 0),(7,.row 2 (L+l.length) 0 (L+l.length)),(8,.pv (.int .i64 (IntKind.i64.wrap ((i:Int)+1))))] [.obj (.box (rnX n ks s)),.obj (.box rnZ),.obj (.row false 28 10 (o.map enc++l))]:=by
   rintro y hy l rfl
   rw[next (by omega)]
   have h:=ih (i+1) (o++[y]) (L+1) (by omega) (by simp;omega) (by omega) (by rw[hR,hy];simp)
   rw[List.map_append]at h
   exact h
  have pre : ∀ e,preT (fun x:Tm×Str×Str×Unit=>decide (YO x.1<=1048576)&&decide (ZI x.1<N)) [Gz e,.str f,.str g]=(decide (YO e<=1048576)&&decide (ZI e<N)):=fun e=>by rw[Ri];exact Ba _ _
  have hp:(decide (YO ks[i]<=1048576)&&decide (ZI ks[i]<N))=true:=by rw[show decide (YO ks[i]<=1048576)=true from hwk,decide_eq_true (show ZI ks[i]<N by omega)];rfl
  have bd : ∀ l:List PV,l.length=1->(List.length (List.map (enc:Tm->PV) o)==L&&L==L&&decide ((L+l.length)*176<=1099511627776)&&decide (L+l.length<=1099511627776))=true:=fun l hl1=>by
   rw[hl1];simp;omega
  refine a0a N n ks f g s o L i (Xi (WC h1) (XT (fun k5=>XT (fun k2=>XT (fun k1=>XT (fun hsf=> ?_) fun hsf=> ?_) fun k1=> ?_) fun k2=> ?_) fun k5=> ?_))
  ·have e2:ks.length=2:=by rw[List.length_map]at k2;omega
   exact⟨ZM h1 rfl,Yb h1 ⟨XO _,bd _ rfl,nx _ (by rw[if_pos (b9w k5 e2 (by omega) (by rw[<- hs k5,hsf]))]) _ (congrArg (fun z=>[z]) (d3l _))⟩⟩
  ·have hb:(FN n ks f&&decide (i=1))=false:=Rq fun _ _ _ e=>hsf (by rw[hs k5,e])
   exact⟨ZM h1 rfl,Yb h1 ⟨XO _,(pre _).trans hp,Zd (ks[i],(⟨f⟩:Str),(⟨g⟩:Str),()) (Ri _ _ _) ⟨K7 _,bd _ rfl,nx _ (by rw[hb];rfl) _ rfl⟩⟩⟩
  ·have hb:(FN n ks f&&decide (i=1))=false:=Rq fun _ _ e _=>k1 (by omega)
   exact⟨ZM h1 rfl,Yb h1 ⟨XO _,(pre _).trans hp,Zd (ks[i],(⟨f⟩:Str),(⟨g⟩:Str),()) (Ri _ _ _) ⟨K7 _,bd _ rfl,nx _ (by rw[hb];rfl) _ rfl⟩⟩⟩
  ·have hb:(FN n ks f&&decide (i=1))=false:=Rq fun _ e _ _=>k2 (by rw[List.length_map];omega)
   exact⟨ZM h1 rfl,Yb h1 ⟨XO _,(pre _).trans hp,Zd (ks[i],(⟨f⟩:Str),(⟨g⟩:Str),()) (Ri _ _ _) ⟨K7 _,bd _ rfl,nx _ (by rw[hb];rfl) _ rfl⟩⟩⟩
  ·have hb:(FN n ks f&&decide (i=1))=false:=Rq fun e _ _ _=>k5 e
   exact⟨ZM h1 rfl,Yb h1 ⟨XO _,(pre _).trans hp,Zd (ks[i],(⟨f⟩:Str),(⟨g⟩:Str),()) (Ri _ _ _) ⟨K7 _,bd _ rfl,nx _ (by rw[hb];rfl) _ rfl⟩⟩⟩
theorem GU(N:Nat)(n:Nd)(ks:List Tm)(f g s:List UInt8)(hs:n.kind=5->s=n.name.s)(hw:tW (.mk n ks)=true)(hd:ZU ks<N):
  At (Xu N) 0 (Zb YI (Zq (Tm.mk (XM n ⟨s⟩) (Xg ⟨f⟩ ⟨g⟩ (FN n ks f) 0 ks)))) YH 0 68 [(1,.pv (.str f)),(2,.pv (.str g)),(3,.ptr 0 0),(6,.ptr 1 0),(7,.pv (.sl 0 true [])),(8,.pv (.int .i64 0))] [.obj (.box (rnX n ks s)),.obj (.box rnZ)]:=by
 cases ks with
 | nil=>
  refine a2k N n [] f g s 0 (XC (by simp) ?_)
  rw[Xg]
  exact b2e (XM n ⟨s⟩)
 | cons k ks=>
  have h1:0<(k::ks).length:=by simp
  have hwk:tW k=true:=(YB hw).2 k (by simp)
  have hdk:=Kq (ks:=k::ks) (k:=k) (by simp)
  rw[Xg]
  have hb0:(FN n (k::ks) f&&decide ((0:Nat)=1))=false:=by simp
  rw[hb0]
  have nx : ∀ l:List PV,l=[enc (XR ⟨f⟩ ⟨g⟩ k)] ->
    At (Xu N) 0 (Zb YI (Zq (Tm.mk (XM n ⟨s⟩) (XR ⟨f⟩ ⟨g⟩ k::Xg ⟨f⟩ ⟨g⟩ (FN n (k::ks) f) 1 ks)))) YH 0 68 [(1,.pv (.str f)),(2,.pv (.str g)),(3,.ptr 0 0),(6,.ptr 1 0),(7,.row 2 1 0 1),(8,.pv (.int .i64 (IntKind.i64.wrap ((0:Int)+1))))] [.obj (.box (rnX n (k::ks) s)),.obj (.box rnZ),.obj (.row false 28 10 l)]:=by
   rintro l rfl
   exact b0y N n (k::ks) f g s hs hw hd _ ks.length 1 [XR ⟨f⟩ ⟨g⟩ k] 1 (by simp) rfl (by omega) rfl
  have hp:(decide (YO k<=1048576)&&decide (ZI k<N))=true:=by rw[show decide (YO k<=1048576)=true from hwk,decide_eq_true (show ZI k<N by omega)];rfl
  have pre : ∀ e,preT (fun x:Tm×Str×Str×Unit=>decide (YO x.1<=1048576)&&decide (ZI x.1<N)) [Gz e,.str f,.str g]=(decide (YO e<=1048576)&&decide (ZI e<N)):=fun e=>by rw[Ri];exact Ba _ _
  refine a2k N n (k::ks) f g s 0 (Xi (WC (i:=0) h1) (XT (fun k5=>XT (fun k2=>XT (fun k1=>absurd k1 (by decide)) fun k1=> ?_) fun k2=> ?_) fun k5=> ?_))
  ·exact⟨ZM (i:=0) h1 rfl,Yb (i:=0) h1 ⟨XO _,(pre _).trans hp,Zd (k,(⟨f⟩:Str),(⟨g⟩:Str),()) (Ri _ _ _) ⟨K7 _,nx _ rfl⟩⟩⟩
  ·exact⟨ZM (i:=0) h1 rfl,Yb (i:=0) h1 ⟨XO _,(pre _).trans hp,Zd (k,(⟨f⟩:Str),(⟨g⟩:Str),()) (Ri _ _ _) ⟨K7 _,nx _ rfl⟩⟩⟩
  ·exact⟨ZM (i:=0) h1 rfl,Yb (i:=0) h1 ⟨XO _,(pre _).trans hp,Zd (k,(⟨f⟩:Str),(⟨g⟩:Str),()) (Ri _ _ _) ⟨K7 _,nx _ rfl⟩⟩⟩
theorem c2m(N:Nat): ∀ x:Tm×Str×Str×Unit,(decide (YO x.1<=1048576)&&decide (ZI x.1<N+1))=true->Zc (Xu N) 0 (Zb YI (Zq (XR x.2.1 x.2.2.1 x.1))) YH [] (Yc d1i (encL x)):=by
 rintro⟨⟨n,ks⟩,⟨f⟩,⟨g⟩,⟨⟩⟩ hw
 simp only[Bool.and_eq_true,decide_eq_true_eq]at hw
 obtain⟨hw,hd⟩:=hw
 have hw:tW (.mk n ks)=true:=decide_eq_true hw
 have hd:ZI (.mk n ks)<N+1:=hd
 rw[ZI]at hd
 rw[show encL ((Tm.mk n ks,(⟨f⟩:Str),(⟨g⟩:Str),()):Tm×Str×Str×Unit)=[ndC n ks,.str f,.str g]from by rw[Y0];rfl]
 show Zc (Xu N) 0 (Zb YI (Zq (XR ⟨f⟩ ⟨g⟩ (.mk n ks)))) YH [] _
 rw[XR]
 have b0:(ZF n ks.length&&decide (n.name=(⟨f⟩:Str)))=FN n ks f:=rfl
 rw[b0]
 refine d2u N n ks f g (XT (fun k1=>XT (fun hf=> ?_) fun hf=> ?_) fun k1=> ?_)
 ·have e:n.name=(⟨f⟩:Str):=by rw[<- hf]
  rw[if_pos ⟨k1,e⟩]
  exact GU N n ks f g g (fun h=>by omega) hw (by omega)
 ·rw[if_neg (fun h=>hf (by rw[h.2]))]
  exact GU N n ks f g n.name.s (fun _=>rfl) hw (by omega)
 ·rw[if_neg (fun h=>k1 h.1)]
  exact GU N n ks f g n.name.s (fun _=>rfl) hw (by omega)
end Go.Pl
namespace Go.Pl
open Go.RowKit
open Enc (enc dec is)
open EncL (encL decL isL)
set_option maxRecDepth 100000
abbrev b3e(ps:List PV)(k:Bool->Prop):Prop:=V7 (fun(x:Tm×Int×Unit)=>tW (Prod.fst x)) (fun(x:Tm×Int×Unit)=>QJ (Prod.fst x) (Prod.fst (Prod.snd x))) ps k
abbrev d3u(ps:List PV)(k:Bool->Prop):Prop:=V7 (fun(x:Str×Unit)=>decide (List.length (Str.s (Prod.fst x))<=1048576)) (fun(x:Str×Unit)=>Yt (Str.s (Prod.fst x))) ps k
abbrev d4p(ps:List PV)(k:List Tm->Prop):Prop:=V7 (fun(x:Tm×Unit)=>tW (Prod.fst x)) (fun(x:Tm×Unit)=>ZY (Prod.fst x)) ps k
abbrev c5a(ps:List PV)(k:TS->Prop):Prop:=V7 (fun(x:Str×Tm×Tm×Unit)=>true) (fun(x:Str×Tm×Tm×Unit)=>Pn (KQ (Prod.fst x) (Prod.fst (Prod.snd x)) (Prod.fst (Prod.snd (Prod.snd x))))) ps k
abbrev d6n(ps:List PV)(k:Tm->Prop):Prop:=V7 (fun(x:Tm×Str×Str×Unit)=>decide (YO (Prod.fst x)<=1048576)) (fun(x:Tm×Str×Str×Unit)=>XR (Prod.fst (Prod.snd x)) (Prod.fst (Prod.snd (Prod.snd x))) (Prod.fst x)) ps k
abbrev a0i(ps:List PV)(k:Bool->Prop):Prop:=V7 (fun(x:Tm×Tm×Unit)=>tW (Prod.fst x)&&tW (Prod.fst (Prod.snd x))&&tW (Yk (Prod.fst x))&&tW (Yk (Prod.fst (Prod.snd x)))) (fun(x:Tm×Tm×Unit)=>VQ (Prod.fst x) (Prod.fst (Prod.snd x))) ps k
abbrev c4v(ps:List PV)(k:List Str->Prop):Prop:=V7 (fun(x:Tm×Unit)=>tW (Prod.fst x)) (fun(x:Tm×Unit)=>Z0 (Prod.fst x)) ps k
abbrev d5o(ps:List PV)(k:Bool->Prop):Prop:=V7 (fun(x:List Str×List Str×Unit)=>decide (List.length (Prod.fst x)<=1048576)) (fun(x:List Str×List Str×Unit)=>decide (Prod.fst x=Prod.fst (Prod.snd x))) ps k
abbrev c6j(ps:List PV)(k:Int->Prop):Prop:=V7 (fun(x:Tm×Unit)=>tW (Prod.fst x)) (fun(x:Tm×Unit)=>UT (Prod.fst x)) ps k
noncomputable def QV:IC:=WB Proofs.Tryz.f3
def QG:List IRes:=[(.tmp 6)]
abbrev c8q:Nat:=104
noncomputable def DF:ZC:=YR [(12,.pure (preT (fun _:Unit=>true)) (Zk (fun _:Unit=>true))),(13,.pure (preT (fun x:Tm×Int×Unit=>tW x.1)) (Zk (fun x:Tm×Int×Unit=>QJ x.1 x.2.1))),(14,.pure (preT (fun x:Str×Unit=>decide (x.1.s.length<=1048576))) (Zk (fun x:Str×Unit=>Yt x.1.s))),(15,.pure (preT (fun x:Tm×Unit=>tW x.1)) (Zk (fun x:Tm×Unit=>ZY x.1))),(16,.pure (preT (fun _:Str×Tm×Tm×Unit=>true)) (Zk (fun x:Str×Tm×Tm×Unit=>Pn (KQ x.1 x.2.1 x.2.2.1)))),(17,.pure (preT (fun x:Tm×Str×Str×Unit=>decide (YO x.1<=1048576))) (Zk (fun x:Tm×Str×Str×Unit=>XR x.2.1 x.2.2.1 x.1))),(18,.pure (preT (fun x:Tm×Tm×Unit=>tW x.1&&tW x.2.1&&tW (Yk x.1)&&tW (Yk x.2.1))) (Zk (fun x:Tm×Tm×Unit=>VQ x.1 x.2.1))),(20,.pure (preT (fun x:Tm×Unit=>tW x.1)) (Zk (fun x:Tm×Unit=>Z0 x.1))),(19,.pure (preT (fun x:List Str×List Str×Unit=>decide (x.1.length<=1048576))) (Zk (fun x:List Str×List Str×Unit=>decide (x.1=x.2.1)))),(21,.pure (preT (fun x:Tm×Unit=>tW x.1)) (Zk (fun x:Tm×Unit=>UT x.1)))]
theorem d6m{G:PV->Prop}(n:Nd)(ks:List Tm)(m:Nd)(ls:List Tm)(s:List UInt8)(p:Nd)(us:List Tm)(h : ∃ y0:Bool,AV.pv (Zk (fun(x:Unit)=>true) [])=AV.pv (enc y0)∧(if (!y0)=true then G ((.bool false))else((b3e [(ndC n ks),(.int .i64 20)] fun y1=>(if (!y1)=true then G ((.bool true))else((b3e [(ndC m ls),(.int .i64 20)] fun y2=>(if (!y2)=true then G ((.bool true))else((b3e [(ndC p us),(.int .i64 20)] fun y3=>(if (!y3)=true then G ((.bool true))else((d3u [(.str s)] fun y4=>(if (!y4)=true then G ((.bool true))else(if (decide ((↑(List.length s):Int)>10))=true then G ((.bool true))else(ctP [(122:UInt8),(122:UInt8)] s∧((d4p [(ndC m ls)] fun y5=>(At DF 0 (Zb QG G) QV 0 104 [(3,(.ptr 0 0)),(4,(.ptr 1 0)),(7,(.ptr 2 0)),(8,(.pv (.str s))),(9,(.pv (.str ([(122:UInt8),(122:UInt8)]++s)))),(10,(.pv (.sl 10 false (List.map enc y5)))),(11,(.pv (.int .i64 0)))] [(.obj (.box (Ym n ks))),(.obj (.box (Ym m ls))),(.obj (.box (Ym p us)))]))))))))))))))))))):Zc DF 0 (Zb QG G) QV [] (Yc 104 [.agg [enc n.kind,enc n.line,enc n.name,enc n.num,enc n.elem,enc n.dims,enc n.data,enc n.sizes,enc n.ranks,enc ks],.agg [enc m.kind,enc m.line,enc m.name,enc m.num,enc m.elem,enc m.dims,enc m.data,enc m.sizes,enc m.ranks,enc ls],(.agg [.str s,enc p.kind,enc p.line,enc p.name,enc p.num,enc p.elem,enc p.dims,enc p.data,enc p.sizes,enc p.ranks,enc us])]):=Zc.tp (dm [dv Bool,dv (List Tm)] 98 0x61100014222202222005422512022222222009422512022222222222200d422512022222222222222220114510001452) h
theorem b6a{G:PV->Prop}(n:Nd)(ks:List Tm)(m:Nd)(ls:List Tm)(s:List UInt8)(p:Nd)(us:List Tm)(l:List Tm)(i:Int)(h:if (decide (i<(↑(List.length (List.map enc l)):Int)))=true then(Qx l i 10 fun y0=>(sfN y0=true∧(if (fvN y0==[(122:UInt8),(122:UInt8)]++s)=true then G ((.bool true))else(At DF 0 (Zb QG G) QV 0 104 [(3,(.ptr 0 0)),(4,(.ptr 1 0)),(7,(.ptr 2 0)),(8,(.pv (.str s))),(9,(.pv (.str ([(122:UInt8),(122:UInt8)]++s)))),(10,(.pv (.sl 10 false (List.map enc l)))),(11,(.pv (.int .i64 (IntKind.wrap IntKind.i64 (i+1)))))] [(.obj (.box (Ym n ks))),(.obj (.box (Ym m ls))),(.obj (.box (Ym p us)))]))))else((c5a [(.str s),(ndC n ks),(ndC m ls)] fun y1=>((d6n [(ndC m ls),(.str s),(.str ([(122:UInt8),(122:UInt8)]++s))] fun y2=>((c5a [(.str ([(122:UInt8),(122:UInt8)]++s)),(ndC n ks),enc y2] fun y3=>((a0i [(eS y1),(eS y3)] fun y4=>(if (!y4)=true then G ((.bool false))else((a0i [(eS y3),(eS y1)] fun y5=>(if (!y5)=true then G ((.bool false))else((a0i [(ndC n ks),(ndC p us)] fun y6=>(if (!y6)=true then G ((.bool true))else((a0i [(ndC p us),(ndC n ks)] fun y7=>(if (y7)=true then(c4v (ndA n ks) fun y8=>((c4v [(ndC p us)] fun y9=>((d5o [(.sl 1 false (List.map enc y8)),(.sl 1 false (List.map enc y9))] fun y10=>(if (y10)=true then(c6j (ndA n ks) fun y11=>((c6j [(ndC p us)] fun y12=>(G ((.bool (y11==y12)))))))else(G ((.bool false)))))))))else(G ((.bool false)))))))))))))))))))))):At DF 0 (Zb QG G) QV 0 104 [(3,.ptr 0 0),(4,.ptr 1 0),(7,.ptr 2 0),(8,.pv (.str s)),(9,.pv (.str ([122,122]++s))),(10,.pv (enc l)),(11,.pv (.int .i64 i))] [.obj (.box [.pv (enc n.kind),.pv (enc n.line),.pv (enc n.name),.pv (enc n.num),.pv (enc n.elem),.pv (enc n.dims),.pv (enc n.data),.pv (enc n.sizes),.pv (enc n.ranks),.pv (enc ks)]),.obj (.box [.pv (enc m.kind),.pv (enc m.line),.pv (enc m.name),.pv (enc m.num),.pv (enc m.elem),.pv (enc m.dims),.pv (enc m.data),.pv (enc m.sizes),.pv (enc m.ranks),.pv (enc ls)]),.obj (.box [.pv (enc p.kind),.pv (enc p.line),.pv (enc p.name),.pv (enc p.num),.pv (enc p.elem),.pv (enc p.dims),.pv (enc p.data),.pv (enc p.sizes),.pv (enc p.ranks),.pv (enc us)])]:=At.tp (dm [dr Tm,dv TS,dv Tm,dv Bool,dv (List Str),dv Int] 123 0x22222222222222202222222022222a122a1200d4222812912291202642812202222222008481000142281220222220064816171610200014215100b42) h
end Go.Pl
namespace Go.Pl
open Go.RowKit
open Enc (enc dec is)
open EncL (encL decL isL)
theorem c1k(n m:Nd)(ks ls:List Tm):([ndC n ks,ndC m ls]:List PV)=encL (Tm.mk n ks,Tm.mk m ls,()):=by rw[Y0,Y0];rfl
theorem MK{a b:Tm}(h:Yk a=Yk b):VQ a b=true:=by unfold VQ;rw[h];exact Fb _
section
variable (n m p:Nd) (ks ls us:List Tm) (s:List UInt8)
abbrev RB(s:List UInt8):Str:=⟨[122,122]++s⟩
abbrev alA(n m:Nd)(ks ls:List Tm)(s:List UInt8):Tm:=KQ ⟨s⟩ (.mk n ks) (.mk m ls)
abbrev alB(n m:Nd)(ks ls:List Tm)(s:List UInt8):Tm:=KQ (RB s) (.mk n ks) (XR ⟨s⟩ (RB s) (.mk m ls))
theorem d2v(s:List UInt8):(⟨s⟩:Str)≠RB s:=fun e=>by
 have:=congrArg (fun x:Str=>x.s.length) e
 simp at this
 omega
theorem TC(t:Tm):1<=Zh t:=by cases t;rw[Zh];omega
theorem b9s(hW:YO (.mk n ks)+9*Zh (.mk n ks)+(YO (.mk m ls)+9*Zh (.mk m ls))+(s.length+(YO (.mk p us)+9*Zh (.mk p us)))<=1048576)(h1:Zh (.mk n ks)<=20)(h2:Zh (.mk m ls)<=20)(h3:Zh (.mk p us)<=20)
  (hg : ∀ y∈ZY (.mk m ls),y.nd.name≠RB s) (l:List Tm) (i:Nat) (hi : ¬ i<l.length) :
  At DF 0 (Zb QG (Zq true)) QV 0 104 [(3,.ptr 0 0),(4,.ptr 1 0),(7,.ptr 2 0),(8,.pv (.str s)),(9,.pv (.str ([122,122]++s))),(10,.pv (enc l)),(11,.pv (.int .i64 i))] [.obj (.box (Ym n ks)),.obj (.box (Ym m ls)),.obj (.box (Ym p us))]:=by
 have t1:tW (.mk n ks)=true:=decide_eq_true (by omega)
 have t2:tW (.mk m ls)=true:=decide_eq_true (by omega)
 have t3:tW (.mk p us)=true:=decide_eq_true (by omega)
 have p1:=TC (.mk n ks)
 have p2:=TC (.mk m ls)
 have hr:=c6p ⟨s⟩ (RB s) (by simp) (.mk m ls)
 have wA:YO (alA n m ks ls s)=s.length+1+YO (.mk n ks)+YO (.mk m ls):=c6t _ _ _
 have wB:YO (alB n m ks ls s)=(RB s).s.length+1+YO (.mk n ks)+YO (XR ⟨s⟩ (RB s) (.mk m ls)):=c6t _ _ _
 have lz:(RB s).s.length=s.length+2:=by simp
 have sA:Zh (alA n m ks ls s)=1+Zh (.mk n ks)+Zh (.mk m ls):=b4m _ _ _
 have hst:Yk (alB n m ks ls s)=Yk (alA n m ks ls s):=a4y (d2v s) (.mk n ks) (.mk m ls) hg
 have wS:=b7f (t:=alA n m ks ls s) (by omega)
 have tA:tW (alA n m ks ls s)=true:=decide_eq_true (by omega)
 have tB:tW (alB n m ks ls s)=true:=decide_eq_true (by omega)
 have tSA:tW (Yk (alA n m ks ls s))=true:=decide_eq_true (by omega)
 have tSB:tW (Yk (alB n m ks ls s))=true:=by rw[hst];exact tSA
 have tS1:tW (Yk (.mk n ks))=true:=a2d (by omega) (by omega)
 have tS3:tW (Yk (.mk p us))=true:=a2d (by omega) (by omega)
 have f1:=MV (.mk n ks)
 have f3:=MV (.mk p us)
 have e3:([.str s,ndC n ks,ndC m ls]:List PV)=encL ((⟨s⟩:Str),Tm.mk n ks,Tm.mk m ls,()):=by rw[Y0,Y0];rfl
 have e4:([ndC m ls,.str s,.str ([122,122]++s)]:List PV)=encL (Tm.mk m ls,(⟨s⟩:Str),RB s,()):=by rw[Y0];rfl
 have e5:([.str ([122,122]++s),ndC n ks,enc (XR ⟨s⟩ (RB s) (.mk m ls))]:List PV)=encL (RB s,Tm.mk n ks,XR ⟨s⟩ (RB s) (.mk m ls),()):=by rw[Y0];rfl
 refine b6a n ks m ls s p us l i (XC (Vk hi) ?_)
 refine⟨Ze ((⟨s⟩:Str),Tm.mk n ks,Tm.mk m ls,()) e3 rfl,Zd ((⟨s⟩:Str),Tm.mk n ks,Tm.mk m ls,()) e3 ?_⟩
 refine⟨Ze (Tm.mk m ls,(⟨s⟩:Str),RB s,()) e4 t2,Zd (Tm.mk m ls,(⟨s⟩:Str),RB s,()) e4 ?_⟩
 refine⟨Ze (RB s,Tm.mk n ks,XR ⟨s⟩ (RB s) (.mk m ls),()) e5 rfl,Zd (RB s,Tm.mk n ks,XR ⟨s⟩ (RB s) (.mk m ls),()) e5 ?_⟩
 refine⟨Ze (alA n m ks ls s,alB n m ks ls s,()) (a4v _ _) (by show(tW _&&tW _&&tW _&&tW _)=true;rw[tA,tB,tSA,tSB];rfl),Zd (alA n m ks ls s,alB n m ks ls s,()) (a4v _ _) (WW (fun h=> ?_) fun _=> ?_)⟩
 ·exact absurd ((MK hst.symm).symm.trans h) (by decide)
 refine⟨Ze (alB n m ks ls s,alA n m ks ls s,()) (a4v _ _) (by show(tW _&&tW _&&tW _&&tW _)=true;rw[tA,tB,tSA,tSB];rfl),Zd (alB n m ks ls s,alA n m ks ls s,()) (a4v _ _) (WW (fun h=> ?_) fun _=> ?_)⟩
 ·exact absurd ((MK hst).symm.trans h) (by decide)
 refine⟨Ze (Tm.mk n ks,Tm.mk p us,()) (c1k _ _ _ _) (by show(tW _&&tW _&&tW _&&tW _)=true;rw[t1,t3,tS1,tS3];rfl),Zd (Tm.mk n ks,Tm.mk p us,()) (c1k _ _ _ _) (WW (fun _=>Zw rfl) fun ha=> ?_)⟩
 obtain⟨q1,q2,q3⟩:=Ej (a:=.mk n ks) (b:=.mk p us) ha
 refine⟨Ze (Tm.mk p us,Tm.mk n ks,()) (c1k _ _ _ _) (by show(tW _&&tW _&&tW _&&tW _)=true;rw[t1,t3,tS1,tS3];rfl),Zd (Tm.mk p us,Tm.mk n ks,()) (c1k _ _ _ _) (Xi q3 ?_)⟩
 refine⟨Ze (Tm.mk n ks,()) (X3 n ks) t1,Zd (Tm.mk n ks,()) (X3 n ks) ⟨Ze (Tm.mk p us,()) (nd1 p us) t3,Zd (Tm.mk p us,()) (nd1 p us) ?_⟩⟩
 refine⟨Ze (Z0 (.mk n ks),Z0 (.mk p us),()) (c4z _ _) (decide_eq_true (by show(Z0 (.mk n ks)).length<=_;omega)),Zd (Z0 (.mk n ks),Z0 (.mk p us),()) (c4z _ _) (Xi (decide_eq_true q1) ?_)⟩
 refine⟨Ze (Tm.mk n ks,()) (X3 n ks) t1,Zd (Tm.mk n ks,()) (X3 n ks) ⟨Ze (Tm.mk p us,()) (nd1 p us) t3,Zd (Tm.mk p us,()) (nd1 p us) (Zw ?_)⟩⟩
 show(UT (.mk n ks)==UT (.mk p us))=true
 unfold UT
 rw[q2]
 simp
theorem b1z(hW:YO (.mk n ks)+9*Zh (.mk n ks)+(YO (.mk m ls)+9*Zh (.mk m ls))+(s.length+(YO (.mk p us)+9*Zh (.mk p us)))<=1048576)(h1:Zh (.mk n ks)<=20)(h2:Zh (.mk m ls)<=20)(h3:Zh (.mk p us)<=20)
  : ∀ d i:Nat,d+i=(ZY (.mk m ls)).length->(∀ y∈(ZY (.mk m ls)).take i,y.nd.name≠RB s) ->
  At DF 0 (Zb QG (Zq true)) QV 0 104 [(3,.ptr 0 0),(4,.ptr 1 0),(7,.ptr 2 0),(8,.pv (.str s)),(9,.pv (.str ([122,122]++s))),(10,.pv (enc (ZY (.mk m ls)))),(11,.pv (.int .i64 i))] [.obj (.box (Ym n ks)),.obj (.box (Ym m ls)),.obj (.box (Ym p us))]:=by
 intro d
 have hl:=QK (.mk m ls)
 induction d with
 | zero=>
  intro i hi hg
  rw[List.take_of_length_le (by omega)]at hg
  exact b9s n m p ks ls us s hW h1 h2 h3 hg _ i (by omega)
 | succ d ih=>
  intro i hi hg
  have hlt:i<(ZY (.mk m ls)).length:=by omega
  refine b6a n ks m ls s p us _ i (Xi (WC hlt) ⟨ZM hlt rfl,Yb hlt ⟨d0j _,?_⟩⟩)
  rw[d0a]
  refine XT (fun _=>Zw rfl) fun hne=> ?_
  rw[next (by omega)]
  refine ih (i+1) (by omega) (fun y hy=> ?_)
  rw[List.take_add_one,List.mem_append,List.getElem?_eq_getElem hlt]at hy
  rcases hy with hy|hy
  ·exact hg y hy
  ·have hy:y=(ZY (.mk m ls))[i]:=by simpa using hy
   exact fun e=>hne (by rw[<- hy,e])
end
theorem c4l: ∀ x:Tm×Tm×RnT×Unit,decide (YO x.1+9*Zh x.1+(YO x.2.1+9*Zh x.2.1)+(x.2.2.1.nm.s.length+(YO x.2.2.1.t+9*Zh x.2.2.1.t))<=1048576)=true->Zc DF 0 (Zb QG (Zq true)) QV [] (Yc c8q (encL x)):=by
 rintro⟨⟨n,ks⟩,⟨m,ls⟩,⟨⟨s⟩,p,us⟩,⟨⟩⟩ hw
 have hW:YO (.mk n ks)+9*Zh (.mk n ks)+(YO (.mk m ls)+9*Zh (.mk m ls))+(s.length+(YO (.mk p us)+9*Zh (.mk p us)))<=1048576:=of_decide_eq_true hw
 have t1:tW (.mk n ks)=true:=decide_eq_true (by omega)
 have t2:tW (.mk m ls)=true:=decide_eq_true (by omega)
 have t3:tW (.mk p us)=true:=decide_eq_true (by omega)
 have e:(encL ((Tm.mk n ks,Tm.mk m ls,⟨⟨s⟩,p,us⟩,()):Tm×Tm×RnT×Unit):List PV)=[ndC n ks,ndC m ls,(.agg [.str s,.int .i64 p.kind,.int .i64 p.line,.str p.name.s,.int .i64 p.num,.str p.elem.s,.sl 1 false (p.dims.map enc),.sl 1 false (p.data.map enc),.sl 2 false (p.sizes.map enc),.sl 1 false (p.ranks.map enc),.sl 10 false (us.map enc)])]:=by rw[Y0,Y0];rfl
 rw[e]
 refine d6m n ks m ls s p us (Zd () rfl (WW (fun h=>nomatch h) fun _=> ?_))
 refine⟨Ze (Tm.mk n ks,(20:Int),()) (ndT n ks (20:Int)).symm t1,Zd (Tm.mk n ks,(20:Int),()) (ndT n ks (20:Int)).symm (WW (fun _=>Zw rfl) fun g1=> ?_)⟩
 refine⟨Ze (Tm.mk m ls,(20:Int),()) (ndT m ls (20:Int)).symm t2,Zd (Tm.mk m ls,(20:Int),()) (ndT m ls (20:Int)).symm (WW (fun _=>Zw rfl) fun g2=> ?_)⟩
 refine⟨Ze (Tm.mk p us,(20:Int),()) (ndT p us (20:Int)).symm t3,Zd (Tm.mk p us,(20:Int),()) (ndT p us (20:Int)).symm (WW (fun _=>Zw rfl) fun g3=> ?_)⟩
 have h1:=BU (t:=.mk n ks) (k:=20) g1
 have h2:=BU (t:=.mk m ls) (k:=20) g2
 have h3:=BU (t:=.mk p us) (k:=20) g3
 refine⟨Ze ((⟨s⟩:Str),()) rfl (decide_eq_true (by show s.length<=_;omega)),Zd ((⟨s⟩:Str),()) rfl (WW (fun _=>Zw rfl) fun _=>X0 (fun _=>Zw rfl) fun _=> ?_)⟩
 refine⟨by simp;omega,?_⟩
 refine⟨Ze (Tm.mk m ls,()) (nd1 m ls) t2,Zd (Tm.mk m ls,()) (nd1 m ls) ?_⟩
 exact b1z n m p ks ls us s hW (by omega) (by omega) (by omega) (ZY (.mk m ls)).length 0 (Nat.add_zero _) (fun y hy=>by simp at hy)
end Go.Pl
