/-
  Texts of mine that belong together (packed by pack.py), for every input: QPa, QQb, QQc, QUb, QUc, QUg, GUh, QUh, GUj, GTv, QTg, VwU, QTv, QUj, VwL, GTd, QTd, GWy, QWy, GVa, QVa, QCo, GL7, QL7, GL9, QL9, TyRa, GRa, QGc, TyZ0, TyCm, GUk, QUk, GUn, QUn, GUo, QUo, GUd, QUd, GUi, GUl, QUl, GUm, QUu.
-/
import Derived.Test.YtgdebdgkofkeeaaGreatDoorChecked
import Derived.Test.YtgdebdgkofkeeaaGreatDoorProg
import Derived.Test.YtgdebdgkofkeeaaGreatDoorKU2
import Derived.Test.YtgdebdgkofkeeaaGreatDoorKU3
import Derived.KernelRfl
import Derived.Lib.ItoaLen
set_option linter.unusedVariables false
set_option linter.unusedSimpArgs false
namespace Go.Pl
open Go.RowKit
open Enc (enc dec is)
open EncL (encL decL isL)
theorem EG(l:List Str)(s:List UInt8)(i:Nat)(h:i<=l.length):(PV.sl 1 false (List.drop 0 (List.take (0+List.length (List.drop 0 (List.take (Int.toNat (i:Int)) (List.map (enc:Str->PV) l)))+List.length (List.drop 0 (List.take 1 [PV.str s]))+List.length (List.drop (Int.toNat (i:Int)) (List.take (List.length (List.map (enc:Str->PV) l)) (List.map (enc:Str->PV) l)))) (([]:List PV)++List.drop 0 (List.take (Int.toNat (i:Int)) (List.map (enc:Str->PV) l))++List.drop 0 (List.take 1 [PV.str s])++List.drop (Int.toNat (i:Int)) (List.take (List.length (List.map (enc:Str->PV) l)) (List.map (enc:Str->PV) l))))))=enc (l.take i++(⟨s⟩:Str)::l.drop i):=by
 have e:(([]:List PV)++List.drop 0 (List.take (Int.toNat (i:Int)) (List.map (enc:Str->PV) l))++List.drop 0 (List.take 1 [PV.str s])++List.drop (Int.toNat (i:Int)) (List.take (List.length (List.map (enc:Str->PV) l)) (List.map (enc:Str->PV) l)))=(l.take i++(⟨s⟩:Str)::l.drop i).map enc:=by
  rw[Int.toNat_natCast,List.nil_append,List.drop_zero,List.take_length,List.map_append,List.map_cons,List.map_take,List.map_drop,List.append_assoc]
  rfl
 rw[e,List.drop_zero,List.take_of_length_le]
 ·rfl
 ·rw[<- e];simp only[List.length_append,List.length_nil];omega
theorem a4n(l:List Str)(s:List UInt8)(hl:l.length<=1048576): ∀ (d i:Nat),d+i=l.length->Wt l ⟨s⟩=l.take i++Wt (l.drop i) ⟨s⟩ ->
  At KX 0 (Zb U7 (Zq (Wt l ⟨s⟩))) Qe 0 45 [(0,.pv (enc l)),(1,.pv (.str s)),(5,.pv (.int .i64 i))] []:=by
 intro d
 induction d with
 | zero=>
  intro i hi hR
  have hn : ¬ i<l.length:=by omega
  refine Ev l s i (XV (Wx hn) (XV (Wx hn) ⟨by first|(simp[Enc.sz];done)|(simp[Enc.sz];omega),by first|(simp[Enc.sz];done)|(simp[Enc.sz];omega),by first|(simp[Enc.sz];done)|(simp[Enc.sz];omega),by first|(simp[Enc.sz];done)|(simp[Enc.sz];omega),by first|(simp[Enc.sz];done)|(simp[Enc.sz];omega),by first|(simp[Enc.sz];done)|(simp[Enc.sz];omega),by first|(simp[Enc.sz];done)|(simp[Enc.sz];omega),by first|(simp[Enc.sz];done)|(simp[Enc.sz];omega),?_⟩))
  rw[EG l s i (by omega)]
  refine U6 ?_
  rw[hR,List.drop_eq_nil_of_le (show l.length<=i by omega)]
  rfl
 | succ d ih=>
  intro i hi hR
  have hlt:i<l.length:=by omega
  have hR2:=hR
  rw[List.drop_eq_getElem_cons hlt,Wt]at hR2
  have hil:i<=l.length:=by omega
  refine Ev l s i (Xg (We hlt) ⟨ZN hlt rfl,Ye hlt (AQ (fun hb=> ?_) fun hb=>Xg (We hlt) ⟨ZN hlt rfl,Ye hlt (WU (fun he=> ?_) fun he=>⟨by first|(simp[Enc.sz];done)|(simp[Enc.sz];omega),by first|(simp[Enc.sz];done)|(simp[Enc.sz];omega),by first|(simp[Enc.sz];done)|(simp[Enc.sz];omega),by first|(simp[Enc.sz];done)|(simp[Enc.sz];omega),by first|(simp[Enc.sz];done)|(simp[Enc.sz];omega),by first|(simp[Enc.sz];done)|(simp[Enc.sz];omega),by first|(simp[Enc.sz];done)|(simp[Enc.sz];omega),by first|(simp[Enc.sz];done)|(simp[Enc.sz];omega),?_⟩)⟩)⟩)
  ·have hb:Op.bytesLess l[i].s s=true:=hb
   rw[X8]at hb
   rw[if_pos (of_decide_eq_true hb)]at hR2
   rw[next (by omega)]
   refine ih (i+1) (by omega) ?_
   rw[hR2,Uo hlt,List.append_assoc];rfl
  ·have hb : ¬ Op.bytesLess l[i].s s=true:=hb
   rw[X8]at hb
   have he:l[i].s=s:=he
   have he2:l[i]=⟨s⟩:=by rw[<- he]
   rw[if_neg (fun h=>hb (decide_eq_true h)),if_pos he2]at hR2
   refine U6 ?_
   rw[hR2,<- List.drop_eq_getElem_cons hlt,List.take_append_drop]
  ·have hb : ¬ Op.bytesLess l[i].s s=true:=hb
   rw[X8]at hb
   have he:l[i].s≠s:=he
   have he2 : ¬ l[i]=⟨s⟩:=fun h=>he (by rw[h])
   rw[if_neg (fun h=>hb (decide_eq_true h)),if_neg he2]at hR2
   rw[EG l s i hil]
   refine U6 ?_
   rw[hR2,List.drop_eq_getElem_cons hlt]
theorem b5o: ∀ x:List Str×Str×Unit,decide (x.1.length<=1048576)=true->Ze KX 0 (Zb U7 (Zq (Wt x.1 x.2.1))) Qe [] (Z7 b7s (encL x)):=by
 rintro⟨l,⟨s⟩,⟨⟩⟩ h
 exact c8h l s (a4n l s (of_decide_eq_true h) l.length 0 (by omega) (by simp))
end Go.Pl
namespace Go.Pl
open Go.RowKit
open Enc (enc dec is)
open EncL (encL decL isL)
theorem a5f{α:Type}[BEq α][LawfulBEq α]{x y:α}{P Q:Prop}(h1:x≠y->P)(h2:x=y->Q):if (x != y)=true then P else Q:=by by_cases h:x=y;rw[if_neg (by simpa using h)];exact h2 h;rw[if_pos (by simpa using h)];exact h1 h
theorem b6x{α:Type}[BEq α][LawfulBEq α]{x y:α}{P Q:Prop}(h1:x≠y->P)(h2:x=y->Q):if (!x==y)=true then P else Q:=by by_cases h:x=y;rw[if_neg (by simpa using h)];exact h2 h;rw[if_pos (by simpa using h)];exact h1 h
theorem Dz{α β:Type}[Enc α][Enc β]{a:List α}{b:List β}{P Q:Prop}(h1:a.length≠b.length->P)(h2:a.length=b.length->Q):if ((↑(List.length (List.map (enc:α->PV) a)):Int) != (↑(List.length (List.map (enc:β->PV) b)):Int))=true then P else Q:=
 a5f (fun h=>h1 fun e=>h (by rw[List.length_map,List.length_map,e])) fun h=>h2 (by rw[List.length_map,List.length_map]at h;omega)
theorem Hw{α:Type}[DecidableEq α]{x y:α}{a b:List α}(h:x≠y):decide (x::a=y::b)=false:=decide_eq_false fun e=>h (List.cons.inj e).1
theorem GR{α:Type}[DecidableEq α]{x y:α}{a b:List α}(h:x=y):decide (x::a=y::b)=decide (a=b):=decide_eq_decide.2 ⟨fun e=>(List.cons.inj e).2,fun e=>by rw[h,e]⟩
theorem a0r{α:Type}[DecidableEq α]{a b:List α}(h:a.length≠b.length):decide (a=b)=false:=decide_eq_false fun e=>h (by rw[e])
theorem idf{x y:Int}(h:x≠y):x≠y:=h
theorem idt{x y:Int}(h:x=y):x=y:=h
theorem stf{x y:Str}(h:x.s≠y.s):x≠y:=fun e=>h (by rw[e])
theorem stt{x y:Str}(h:x.s=y.s):x=y:=by cases x;cases y;cases h;rfl
theorem b1p(a b:List Int)(hl:a.length<=1048576)(e:a.length=b.length)(R:Bool): ∀ (d i:Nat),d+i=a.length->R=decide (a.drop i=b.drop i) ->
  At Tg 0 (Zb Gx (Zq R)) GD 0 26 [(0,.pv (enc a)),(1,.pv (enc b)),(5,.pv (.int .i64 i))] []:=by
 intro d
 induction d with
 | zero=>
  intro i hi hR
  refine b1y a b i (XV (Wx (by omega)) (ZC ?_))
  rw[hR,List.drop_eq_nil_of_le (by omega),List.drop_eq_nil_of_le (by omega)];rfl
 | succ d ih=>
  intro i hi hR
  have h1:i<a.length:=by omega
  have h2:i<b.length:=by omega
  rw[List.drop_eq_getElem_cons h1,List.drop_eq_getElem_cons h2]at hR
  refine b1y a b i (Xg (We h1) ⟨ZN h1 rfl,Ye h1 ⟨ZN h2 rfl,Ye h2 (a5f (fun h=>ZC ?_) fun h=> ?_)⟩⟩)
  ·rw[hR,Hw (show a[i]≠b[i]from idf h)]
  ·rw[next (by omega)]
   exact ih (i+1) (by omega) (by rw[hR,GR (show a[i]=b[i]from idt h)])
theorem b7h: ∀ x:List Int×List Int×Unit,decide (x.1.length<=1048576)=true->Ze Tg 0 (Zb Gx (Zq (decide (x.1=x.2.1)))) GD [] (Z7 c6i (encL x)):=by
 rintro⟨a,b,⟨⟩⟩ h
 refine d1s a b (Dz (fun k=>ZC (a0r k).symm) fun k=> ?_)
 exact b1p a b (of_decide_eq_true h) k _ a.length 0 (by omega) rfl
theorem a5p(a b:List Str)(hl:a.length<=1048576)(e:a.length=b.length)(R:Bool): ∀ (d i:Nat),d+i=a.length->R=decide (a.drop i=b.drop i) ->
  At KO 0 (Zb Qc (Zq R)) Qb 0 26 [(0,.pv (enc a)),(1,.pv (enc b)),(5,.pv (.int .i64 i))] []:=by
 intro d
 induction d with
 | zero=>
  intro i hi hR
  refine a0m a b i (XV (Wx (by omega)) (ZC ?_))
  rw[hR,List.drop_eq_nil_of_le (by omega),List.drop_eq_nil_of_le (by omega)];rfl
 | succ d ih=>
  intro i hi hR
  have h1:i<a.length:=by omega
  have h2:i<b.length:=by omega
  rw[List.drop_eq_getElem_cons h1,List.drop_eq_getElem_cons h2]at hR
  refine a0m a b i (Xg (We h1) ⟨ZN h1 rfl,Ye h1 ⟨ZN h2 rfl,Ye h2 (b6x (fun h=>ZC ?_) fun h=> ?_)⟩⟩)
  ·rw[hR,Hw (show a[i]≠b[i]from stf h)]
  ·rw[next (by omega)]
   exact ih (i+1) (by omega) (by rw[hR,GR (show a[i]=b[i]from stt h)])
theorem a9q: ∀ x:List Str×List Str×Unit,decide (x.1.length<=1048576)=true->Ze KO 0 (Zb Qc (Zq (decide (x.1=x.2.1)))) Qb [] (Z7 b6v (encL x)):=by
 rintro⟨a,b,⟨⟩⟩ h
 refine c5e a b (Dz (fun k=>ZC (a0r k).symm) fun k=> ?_)
 exact a5p a b (of_decide_eq_true h) k _ a.length 0 (by omega) rfl
theorem b2c(a b:Lin)(hl:a.t.length<=1048576)(e:a.t.length=b.t.length)(R:Bool): ∀ (d i:Nat),d+i=a.t.length->R=decide (a.t.drop i=b.t.drop i) ->
  At SG 0 (Zb GN (Zq R)) HY 0 38 [(2,.ptr 0 0),(3,.ptr 1 0),(5,.pv (.int .i64 i))] [.obj (.box [.pv (enc a.k),.pv (enc a.t)]),.obj (.box [.pv (enc b.k),.pv (enc b.t)])]:=by
 intro d
 induction d with
 | zero=>
  intro i hi hR
  refine a6t a b i (XV (Wx (by omega)) (ZC ?_))
  rw[hR,List.drop_eq_nil_of_le (by omega),List.drop_eq_nil_of_le (by omega)];rfl
 | succ d ih=>
  intro i hi hR
  have h1:i<a.t.length:=by omega
  have h2:i<b.t.length:=by omega
  rw[List.drop_eq_getElem_cons h1,List.drop_eq_getElem_cons h2]at hR
  have hc:(PV.asStr (List.getD (PV.cells (enc a.t[i])) 0 default)==PV.asStr (List.getD (PV.cells (enc b.t[i])) 0 default)&&(PV.asInt (List.getD (PV.cells (enc a.t[i])) (0+1) default)==PV.asInt (List.getD (PV.cells (enc b.t[i])) (0+1) default)&&true))=decide (a.t[i]=b.t[i]):=by
   rw[co1,co1,co2,co2,Bool.and_true]
   rcases a.t[i]with ⟨⟨v⟩,c⟩
   rcases b.t[i]with ⟨⟨w⟩,c'⟩
   rw[Bool.eq_iff_iff]
   simp
  refine a6t a b i (Xg (We h1) ⟨ZN h1 rfl,Ye h1 ⟨ZN h2 rfl,Ye h2 ?_⟩⟩)
  rw[hc]
  refine Qx (fun h=>ZC ?_) fun h=> ?_
  ·rw[hR,Hw (of_decide_eq_false h)]
  ·rw[next (by omega)]
   exact ih (i+1) (by omega) (by rw[hR,GR (of_decide_eq_true h)])
theorem b8m: ∀ x:Lin×Lin×Unit,decide (x.1.t.length<=1048576)=true->Ze SG 0 (Zb GN (Zq (decide (x.1=x.2.1)))) HY [] (Z7 c6t (encL x)):=by
 rintro⟨a,b,⟨⟩⟩ h
 refine d2s a b (a5f (fun k=>ZC (decide_eq_false fun e=>k (by rw[show a=b from e])).symm) fun k0=>Dz (fun k=>ZC (decide_eq_false fun e=>k (by rw[show a=b from e])).symm) fun k=> ?_)
 refine b2c a b (of_decide_eq_true h) k _ a.t.length 0 (by omega) (decide_eq_decide.2 ⟨fun e=>by rw[show a=b from e],fun e=> ?_⟩)
 cases a;cases b
 simp only[List.drop_zero]at e k0
 rw[k0,e]
theorem Yn{n m:Nd}{ks ls:List Tm}:Gd (.mk n ks) (.mk m ls)=true ↔ (n.kind=m.kind∧n.name=m.name∧n.num=m.num∧n.elem=m.elem∧n.dims=m.dims∧n.data=m.data∧n.sizes=m.sizes∧n.ranks=m.ranks)∧VV ks ls=true:=by
 rw[Gd]
 unfold c3d
 simp only[Bool.and_eq_true,decide_eq_true_eq,and_assoc]
theorem BJ: ∀ {ks ls:List Tm},VV ks ls=true->ks.length=ls.length
 | [],[],_=>rfl
 | [],_::_,h=>by simp[VV]at h
 | _::_,[],h=>by simp[VV]at h
 | k::ks,l::ls,h=>by
  rw[VV,Bool.and_eq_true]at h
  rw[List.length_cons,List.length_cons,BJ h.2]
theorem Wv{b:Bool}(h:b=true->False):false=b:=by cases b;rfl;exact(h rfl).elim
theorem b8n{n m:Nd}{ks ls:List Tm}:exM (.mk n ks) (.mk m ls)=true ↔ n=m∧Pk ks ls=true:=by
 rw[exM,Bool.and_eq_true,decide_eq_true_eq]
mutual
theorem d3o: ∀ {a b:Tm},exM a b=true->Gd a b=true
 | .mk n ks,.mk m ls,h=>by
  obtain⟨e,h2⟩:=b8n.1 h
  subst e
  exact Yn.2 ⟨⟨rfl,rfl,rfl,rfl,rfl,rfl,rfl,rfl⟩,b3o h2⟩
theorem b3o: ∀ {ks ls:List Tm},Pk ks ls=true->VV ks ls=true
 | [],[],_=>by rw[VV]
 | [],_::_,h=>by simp[Pk]at h
 | _::_,[],h=>by simp[Pk]at h
 | k::ks,l::ls,h=>by
  rw[Pk,Bool.and_eq_true]at h
  rw[VV,d3o h.1,b3o h.2];rfl
end
theorem b1e{a b:List Int}{P:Bool->Prop}(h:a.length<=1048576)(k:P (decide (a=b))):EJ [.sl 1 false (a.map enc),.sl 1 false (b.map enc)] P:=⟨Zc (a,b,()) rfl (decide_eq_true h),Zd (a,b,()) rfl k⟩
theorem a9o{N:Nat}{n:Nd}{ks:List Tm}(h:tW (.mk n ks)=true)(hd:ZV ks<N){k l:Tm}(hk:k∈ks)(hl:tW l=true):(fun x:Tm×Tm×Unit=>(tW x.1&&tW x.2.1)&&decide (ZI x.1<N)) (k,l,())=true:=by
 have h:=Cj h hd hk
 simp only[Bool.and_eq_true]at h ⊢
 exact⟨⟨h.1,hl⟩,h.2⟩
theorem b6y(a b:Tm):[LK a,LK b]=encL (a,b,()):=by rw[Oz,Oz];rfl
theorem c8k(n m:Nd)(ks ls:List Tm):[ndC n ks,ndC m ls]=encL (Tm.mk n ks,Tm.mk m ls,()):=by rw[Wo,Wo];rfl
theorem b0e(N:Nat)(n m:Nd)(ks ls:List Tm)(hw:tW (.mk n ks)=true)(hv:tW (.mk m ls)=true)(hd:ZV ks<N)(e:ks.length=ls.length)(R:Bool): ∀ (d i:Nat),d+i=ks.length->R=VV (ks.drop i) (ls.drop i) ->
  At (KL N) 0 (Zb Uj (Zq R)) Uf 1 117 [(2,.ptr 0 0),(3,.ptr 1 0),(6,.pv (.int .i64 i))] [.obj (.box (Z0 n ks)),.obj (.box (Z0 m ls))]:=by
 intro d
 induction d with
 | zero=>
  intro i hi hR
  rw[List.drop_eq_nil_of_le (by omega),List.drop_eq_nil_of_le (by omega),VV]at hR
  exact b3n N n ks m ls i (XV (Wx (by omega)) (ZC hR.symm))
 | succ d ih=>
  intro i hi hR
  have h1:i<ks.length:=by omega
  have h2:i<ls.length:=by omega
  have hkl:=(YO hw).1
  rw[List.drop_eq_getElem_cons h1,List.drop_eq_getElem_cons h2,VV]at hR
  refine b3n N n ks m ls i (Xg (We h1) ⟨ZN h1 rfl,Ye h1 ⟨QE _,ZN h2 rfl,Ye h2 ⟨QE _,Zc (ks[i],ls[i],()) (b6y _ _) (a9o hw hd (List.getElem_mem h1) ((YO hv).2 _ (List.getElem_mem h2))),Zd (ks[i],ls[i],()) (b6y _ _) (Qx (fun h=>ZC ?_) fun h=> ?_)⟩⟩⟩)
  ·have h:Gd ks[i] ls[i]=false:=h
   rw[hR,h];rfl
  ·have h:Gd ks[i] ls[i]=true:=h
   rw[next (by omega)]
   exact ih (i+1) (by omega) (by rw[hR,h];rfl)
theorem a4c(N:Nat)(n m:Nd)(ks ls:List Tm)(hw:tW (.mk n ks)=true)(hv:tW (.mk m ls)=true)(hd:ZV ks<N)(e:ks.length=ls.length)(es:n.sizes.length=m.sizes.length)(R:Bool): ∀ (d i:Nat),d+i=n.sizes.length->R=(decide (n.sizes.drop i=m.sizes.drop i)&&VV ks ls) ->
  At (KL N) 0 (Zb Uj (Zq R)) Uf 0 117 [(2,.ptr 0 0),(3,.ptr 1 0),(5,.pv (.int .i64 i))] [.obj (.box (Z0 n ks)),.obj (.box (Z0 m ls))]:=by
 intro d
 induction d with
 | zero=>
  intro i hi hR
  rw[List.drop_eq_nil_of_le (by omega),List.drop_eq_nil_of_le (by omega)]at hR
  exact a9y N n ks m ls i (XV (Wx (by omega)) (b0e N n m ks ls hw hv hd e R ks.length 0 (by omega) (by rw[hR];rfl)))
 | succ d ih=>
  intro i hi hR
  have h1:i<n.sizes.length:=by omega
  have h2:i<m.sizes.length:=by omega
  have hn:=Fg hw
  have hb:=hn.sizes
  rw[List.drop_eq_getElem_cons h1,List.drop_eq_getElem_cons h2]at hR
  refine a9y N n ks m ls i (Xg (We h1) ⟨ZN h1 rfl,Ye h1 ⟨ZN h2 rfl,Ye h2 ⟨Zc (n.sizes[i],m.sizes[i],()) rfl (decide_eq_true (hn.lens _ (List.getElem_mem h1))),Zd (n.sizes[i],m.sizes[i],()) rfl (Qx (fun h=>ZC ?_) fun h=> ?_)⟩⟩⟩)
  ·rw[hR,Hw (of_decide_eq_false h)];rfl
  ·rw[next (by omega)]
   exact ih (i+1) (by omega) (by rw[hR,GR (of_decide_eq_true h)])
theorem b6w(N:Nat): ∀ x:Tm×Tm×Unit,((tW x.1&&tW x.2.1)&&decide (ZI x.1<N+1))=true->Ze (KL N) 0 (Zb Uj (Zq (Gd x.1 x.2.1))) Uf [] (Z7 c7c (encL x)):=by
 rintro⟨⟨n,ks⟩,⟨m,ls⟩,⟨⟩⟩ h
 simp only[Bool.and_eq_true,decide_eq_true_eq]at h
 obtain⟨⟨hw,hv⟩,hd⟩:=h
 have hd:ZI (.mk n ks)<N+1:=hd
 rw[ZI]at hd
 have hn:=Fg hw
 rw[<- c8k]
 refine d1w N n ks m ls ?_
 refine a5f (fun k=>ZC (Wv fun h=>k (Yn.1 h).1.1)) fun k1=> ?_
 refine b6x (fun k=>ZC (Wv fun h=>k (by rw[(Yn.1 h).1.2.1]))) fun k2=> ?_
 refine a5f (fun k=>ZC (Wv fun h=>k (Yn.1 h).1.2.2.1)) fun k3=> ?_
 refine Dz (fun k=>ZC (Wv fun h=>k (by rw[(Yn.1 h).1.2.2.2.2.2.2.1]))) fun k4=> ?_
 refine Dz (fun k=>ZC (Wv fun h=>k (BJ (Yn.1 h).2))) fun k5=> ?_
 refine b6x (fun k=>ZC (Wv fun h=>k (by rw[(Yn.1 h).1.2.2.2.1]))) fun k6=> ?_
 refine b1e hn.dims (Qx (fun k=>ZC (Wv fun h=>of_decide_eq_false k (Yn.1 h).1.2.2.2.2.1)) fun k7=> ?_)
 refine b1e hn.data (Qx (fun k=>ZC (Wv fun h=>of_decide_eq_false k (Yn.1 h).1.2.2.2.2.2.1)) fun k8=> ?_)
 refine b1e hn.ranks (Qx (fun k=>ZC (Wv fun h=>of_decide_eq_false k (Yn.1 h).1.2.2.2.2.2.2.2)) fun k9=> ?_)
 refine a4c N n m ks ls hw hv (by omega) k5 k4 _ n.sizes.length 0 (by omega) ?_
 rw[Bool.eq_iff_iff]
 show Gd (.mk n ks) (.mk m ls)=true ↔ _
 rw[Yn,Bool.and_eq_true,decide_eq_true_eq]
 exact⟨fun h=>⟨h.1.2.2.2.2.2.2.1,h.2⟩,fun h=>⟨⟨k1,stt k2,k3,stt k6,of_decide_eq_true k7,of_decide_eq_true k8,h.1,of_decide_eq_true k9⟩,h.2⟩⟩
theorem ndT(n:Nd)(ks:List Tm){α:Type}[Enc α](x:α):encL (Tm.mk n ks,x,())=[ndC n ks,enc x]:=by rw[Wo];rfl
theorem c9p: ∀ x:Str×Unit,true=true->Ze d0s 0 (Zb c4p (Zq (vT x.1))) c3m [] (Z7 d1a (encL x)):=by
 rintro⟨⟨s⟩,⟨⟩⟩ _
 exact d4y s ⟨by simp,by simp[vT,EE]⟩
def d3n(s:Str)(a b:Tm):Tm:=.mk {EE with kind:=5,name:=s} [a,b]
theorem a6a: ∀ x:Str×Tm×Tm×Unit,true=true->Ze b3l 0 (Zb EA (Zq (d3n x.1 x.2.1 x.2.2.1))) a1u [] (Z7 b9e (encL x)):=by
 rintro⟨⟨s⟩,⟨n,ks⟩,⟨m,ls⟩,⟨⟩⟩ _
 rw[show encL ((⟨s⟩:Str),Tm.mk n ks,Tm.mk m ls,())=[.str s,ndC n ks,ndC m ls]from by rw[Wo,Wo];rfl]
 refine c6r s n ks m ls ?_
 rw[Wo,Wo]
 have h:is (List Tm) (.sl 10 false ([Tm.mk n ks,Tm.mk m ls].map enc))=true:=Enc.is_enc [Tm.mk n ks,Tm.mk m ls]
 have h2:(dec (.sl 10 false ([Tm.mk n ks,Tm.mk m ls].map enc)):List Tm)=[Tm.mk n ks,Tm.mk m ls]:=Enc.dec_enc [Tm.mk n ks,Tm.mk m ls]
 refine⟨?_,?_⟩
 ·have:is (List Tm) (.sl 10 false [enc (Tm.mk n ks),enc (Tm.mk m ls)])=true:=h
  simp[this]
 ·have h:is (List Tm) (.sl 10 false [enc (Tm.mk n ks),enc (Tm.mk m ls)])=true:=h
  have h2:(dec (.sl 10 false [enc (Tm.mk n ks),enc (Tm.mk m ls)]):List Tm)=[Tm.mk n ks,Tm.mk m ls]:=h2
  rw[a8m _ _ _ _ _ _ _ _ _ _ h,h2]
  simp[d3n,EE]
end Go.Pl
namespace Go.Pl
open Go.RowKit
open Enc (enc dec is)
open EncL (encL decL isL)
mutual
theorem Lb: ∀ {a b:List Str} (h : ∀ x,x∈a ↔ x∈b) (t:Tm),YX a t=YX b t
 | a,b,h,.mk n ks=>by
  rw[YX,YX,SI h]
  simp only[h]
theorem SI: ∀ {a b:List Str} (h : ∀ x,x∈a ↔ x∈b) (l:Bool) (s:Str) (i:Nat) (ks:List Tm),YZ a l s i ks=YZ b l s i ks
 | a,b,h,l,s,i,[]=>by rw[YZ,YZ]
 | a,b,h,l,s,i,k::ks=>by
  rw[YZ,YZ,SI h l s (i+1) ks,Lb (a:=if (l&&decide (i=1))=true then s::a else a) (b:=if (l&&decide (i=1))=true then s::b else b) (fun x=>by split <;> simp[h]) k]
end
mutual
theorem Qy: ∀ (b:List Str) (t:Tm),(YX b t).length<=Zl t
 | b,.mk n ks=>by
  have h:=Sk b (X3 n ks.length) n.name 0 ks
  rw[YX,Zl,List.length_append]
  split
  ·simp only[List.length_singleton];omega
  ·simp only[List.length_nil];omega
theorem Sk: ∀ (b:List Str) (l:Bool) (s:Str) (i:Nat) (ks:List Tm),(YZ b l s i ks).length<=Zo ks
 | b,l,s,i,[]=>by rw[YZ,Zo];simp
 | b,l,s,i,k::ks=>by
  have h1:=Qy (if (l&&decide (i=1))=true then s::b else b) k
  have h2:=Sk b l s (i+1) ks
  rw[YZ,Zo,List.length_append]
  omega
end
end Go.Pl
namespace Go.Pl
open Go.RowKit
open Enc (enc dec is)
open EncL (encL decL isL)
theorem Tq: ∀ (l o:List Str),(l.foldl Y4 o).length<=o.length+l.length
 | [],o=>by simp
 | a::l,o=>by have:=Tq l (Y4 o a);have:=JZ o a;rw[List.foldl_cons,List.length_cons];omega
theorem b4x{N:Nat}{t:Tm}{b g:List Str}(hw:tW t=true)(hd:ZI t<N)(h1:b.length+ZI t<=1048576)(h2:g.length+Zl t<=1048576):X4 N [(.pv (LK t)),(.map 0),(.map 1)] [(.map (Z8 b)),(.map (Z8 g))]=true:=by
 rw[Oz]
 simp only[X4,Vi,Enc.dec_enc,hw,VD,decide_eq_true hd,decide_eq_true h1,decide_eq_true h2,Bool.true_and,Bool.and_true,Bool.and_eq_true]
 exact⟨@decide_eq_true _ (_) trivial,@decide_eq_true _ (_) trivial⟩
theorem a9k(N:Nat)(n:Nd)(ks:List Tm)(b:List Str)(hw:tW (.mk n ks)=true)(hd:ZV ks<N)(hb:b.length+ZV ks+1<=1048576)(R:List Str): ∀ (d i:Nat) (g:List Str),d+i=ks.length->g.length+Zo (ks.drop i)<=1048576->R=(YZ b (X3 n ks.length) n.name i (ks.drop i)).foldl Y4 g ->
  At (VT N) 2 (Yd 2 XU fun r=>r=(.tup [],[.map (Z8 b),.map (Z8 R)],[])) XO 0 54 [(1,.map 0),(2,.map 1),(3,.ptr 2 0),(23,.pv (enc ks)),(24,.pv (.int .i64 (ks.map (enc:Tm->PV)).length)),(25,.pv (.int .i64 i))] [.obj (.map (Z8 b)),.obj (.map (Z8 g)),.obj (.box (Z0 n ks))]:=by
 intro d
 induction d with
 | zero=>
  intro i g hi hg hR
  rw[List.drop_eq_nil_of_le (by omega),YZ]at hR
  exact a6o N n ks b g i (XV (Wx (by omega)) (by rw[hR];rfl))
 | succ d ih=>
  intro i g hi hg hR
  have h1:i<ks.length:=by omega
  have hkl:=(YO hw).1
  have hwk:=(YO hw).2 _ (List.getElem_mem h1)
  have hdk:=Sv (List.getElem_mem h1)
  rw[List.drop_eq_getElem_cons h1,Zo]at hg
  rw[List.drop_eq_getElem_cons h1,YZ,List.foldl_append]at hR
  have go : ∀ bd:List Str,(YX bd ks[i]=YX (if (X3 n ks.length&&decide (i=1))=true then n.name::b else b) ks[i])->At (VT N) 2 (Yd 2 XU fun r=>r=(.tup [],[.map (Z8 b),.map (Z8 R)],[])) XO 0 54 [(1,.map 0),(2,.map 1),(3,.ptr 2 0),(23,.pv (enc ks)),(24,.pv (.int .i64 (ks.map (enc:Tm->PV)).length)),(25,.pv (.int .i64 (IntKind.i64.wrap ((i:Int)+1))))] [.obj (.map (Z8 b)),.obj (.map (Z8 ((YX bd ks[i]).foldl Y4 g))),.obj (.box (Z0 n ks))]:=fun bd e=>by
   rw[next (by omega),e]
   refine ih (i+1) _ (by omega) ?_ hR
   have l1:=Tq (YX (if (X3 n ks.length&&decide (i=1))=true then n.name::b else b) ks[i]) g
   have l2:=Qy (if (X3 n ks.length&&decide (i=1))=true then n.name::b else b) ks[i]
   omega
  have plain:(X3 n ks.length&&decide (i=1))=false->X4 N [(.pv (LK ks[i])),(.map 0),(.map 1)] [(.map (Z8 b)),(.map (Z8 g))]=true∧At (VT N) 2 (Yd 2 XU fun r=>r=(.tup [],[.map (Z8 b),.map (Z8 R)],[])) XO 0 54 [(1,.map 0),(2,.map 1),(3,.ptr 2 0),(23,.pv (enc ks)),(24,.pv (.int .i64 (ks.map (enc:Tm->PV)).length)),(25,.pv (.int .i64 (IntKind.i64.wrap ((i:Int)+1))))] [.obj (.map (Z8 b)),.obj (.map (Z8 (List.foldl Y4 (YM (Z8 g)) (YX (YM (Z8 b)) (dec (agS ks[i])))))),.obj (.box (Z0 n ks))]:=fun e=>
   ⟨b4x hwk (by omega) (by omega) (by omega),by rw[VD,VD,a7l,Enc.dec_enc];exact go b (by rw[e];rfl)⟩
  refine a6o N n ks b g i (Xg (We h1) ⟨ZN h1 rfl,Ye h1 ⟨QE _,WU (fun k5=>WU (fun k2=>WU (fun k1=> ?_) fun k1=> ?_) fun k2=> ?_) fun k5=> ?_⟩⟩)
  ·have e2:ks.length=2:=by rw[List.length_map]at k2;omega
   have e1:i=1:=by omega
   have el:(X3 n ks.length&&decide (i=1))=true:=by unfold X3;rw[decide_eq_true k5,decide_eq_true e2,decide_eq_true e1];rfl
   have hu:X5 (enc n.name) (.bool true) (Z8 b)=Z8 (Y4 b n.name):=(Ht b n.name).2
   have:=JZ b n.name
   refine⟨(Ht b n.name).1,?_⟩
   rw[hu,VD,VD,a7l,Enc.dec_enc]
   exact⟨b4x hwk (by omega) (by omega) (by omega),go (Y4 b n.name) (Lb (fun x=>by rw[el];simp[Ck,or_comm]) _)⟩
  ·exact plain (by rw[decide_eq_false (show ¬ i=1 by omega),Bool.and_false])
  ·exact plain (by unfold X3;rw[decide_eq_false (show ¬ ks.length=2 by rw[List.length_map]at k2;omega)];simp)
  ·exact plain (by unfold X3;rw[decide_eq_false k5];simp)
theorem b8u(b:List Str)(s:Str):VC (enc s) (Z8 b)=true∧YE (enc s) (PV.bool false) (Z8 b) = .bool (decide (s∈b)):=by
 have key:Gj (enc s) (Z8 b)=some (if s∈b then some (PV.bool true)else none):=by
  induction b with
  | nil=>rfl
  | cons a b ih=>
   show(match QJ (enc s) (PV.str a.s)with|some true=>some (some (PV.bool true))|some false=>Gj (enc s) (Z8 b)|none=>none)=_
   have e:QJ (enc s:PV) (PV.str a.s)=some (s.s==a.s):=rfl
   rw[e]
   by_cases h:s=a
   ·subst h;simp
   ·have:(s.s==a.s)=false:=by
     rw[beq_eq_false_iff_ne]
     intro e;apply h;cases a;cases s;simp at e;rw[e]
    rw[this]
    show Gj (enc s) (Z8 b)=_
    rw[ih]
    simp[h]
 unfold VC YE
 rw[key]
 by_cases h:s∈b
 ·simp[h]
 ·simp[h]
theorem c2o(N:Nat): ∀ args os,X4 (N+1) args os=true->Ze (VT N) os.length (Yd os.length XU fun r=>r=Gu args os) XO [] (XY c9x args os):=by
 intro args os hp
 unfold X4 at hp
 split at hp
 ·rename_i p es fs
  simp only[Bool.and_eq_true,decide_eq_true_eq]at hp
  obtain⟨h1,hw,h3,h4,h5,h6,h7⟩:=hp
  obtain⟨⟨n,ks⟩,rfl⟩:=RO h1
  rw[Enc.dec_enc]at hw h3 h6 h7
  generalize YM es=b at h4 h6
  generalize YM fs=g at h5 h7
  subst h4 h5
  rw[ZI]at h3 h6
  rw[Zl]at h7
  have key : ∀ g':List Str,g'.length+Zo ks<=1048576->(YX b (.mk n ks)).foldl Y4 g=(YZ b (X3 n ks.length) n.name 0 ks).foldl Y4 g'->At (VT N) 2 (Yd 2 XU fun r=>r=(.tup [],[.map (Z8 b),.map (Z8 ((YX b (.mk n ks)).foldl Y4 g))],[])) XO 0 54 [(1,.map 0),(2,.map 1),(3,.ptr 2 0),(23,.pv (enc ks)),(24,.pv (.int .i64 (ks.map (enc:Tm->PV)).length)),(25,.pv (.int .i64 0))] [.obj (.map (Z8 b)),.obj (.map (Z8 g')),.obj (.box (Z0 n ks))]:=fun g' l e=>
   a9k N n ks b hw (by omega) (by omega) _ ks.length 0 g' (by omega) (by simpa using l) (by rw[e];rfl)
  have e:Gu [.pv (enc (Tm.mk n ks)),.map 0,.map 1] [.map (Z8 b),.map (Z8 g)]=(.tup [],[.map (Z8 b),.map (Z8 ((YX b (.mk n ks)).foldl Y4 g))],[]):=by
   simp only[Gu,Enc.dec_enc,VD]
  rw[e,Zx]
  refine d3u N n ks b g (WU (fun k=> ?_) fun k=>key g (by omega) (by rw[YX,if_neg (fun h=>k h.1)];rfl))
  obtain⟨l1,l2⟩:=b8u b n.name
  rw[l1,l2]
  refine⟨rfl,Qx (fun k2=> ?_) fun k2=> ?_⟩
  ·have k2:n.name ∉ b:=of_decide_eq_false k2
   have hu:X5 (enc n.name) (.bool true) (Z8 g)=Z8 (Y4 g n.name):=(Ht g n.name).2
   refine⟨(Ht g n.name).1,?_⟩
   rw[hu]
   refine key (Y4 g n.name) (by have:=JZ g n.name;omega) ?_
   rw[YX,if_pos ⟨k,k2⟩];rfl
  ·have k2:n.name∈b:=of_decide_eq_true k2
   exact key g (by omega) (by rw[YX,if_neg (fun h=>h.2 k2)];rfl)
 ·cases hp
noncomputable def Vo:List AV->List AObj->Bool
 | [.pv p,.map 0,.map 1],[.map es,.map fs]=>L6 Tm p&&(tW (dec p)&&(@decide (es=Z8 (YM es)) (Classical.propDecidable _)&&(@decide (fs=Z8 (YM fs)) (Classical.propDecidable _)&&(decide ((YM es).length+ZI (dec p:Tm)<=1048576)&&decide ((YM fs).length+Zl (dec p:Tm)<=1048576)))))
 | _,_=>false
def b0c:List AV->List AObj->Nat
 | [.pv p,_,_],_=>ZI (dec p:Tm)
 | _,_=>0
theorem d4e{N:Nat}{args:List AV}{os:List AObj}(h:(Vo args os&&decide (b0c args os<N))=true):X4 N args os=true:=by
 rw[Bool.and_eq_true]at h
 obtain⟨h1,h2⟩:=h
 unfold Vo at h1
 split at h1
 ·simp only[Bool.and_eq_true]at h1
  obtain⟨q1,q2,q3,q4,q5,q6⟩:=h1
  simp only[X4,Bool.and_eq_true]
  exact⟨q1,q2,h2,q3,q4,q5,q6⟩
 ·cases h1
theorem d0d{N:Nat}{args:List AV}{os:List AObj}(h:X4 N args os=true):(Vo args os&&decide (b0c args os<N))=true:=by
 unfold X4 at h
 split at h
 ·simp only[Bool.and_eq_true]at h
  obtain⟨q1,q2,q3,q4,q5,q6,q7⟩:=h
  rw[Bool.and_eq_true]
  refine⟨?_,q3⟩
  simp only[Vo,Bool.and_eq_true]
  exact⟨q1,q2,q4,q5,q6,q7⟩
 ·cases h
theorem c9k{t:Tm}{b g:List Str}(hw:tW t=true)(h1:b.length+ZI t<=1048576)(h2:g.length+Zl t<=1048576):Vo [(.pv (enc t)),(.map 0),(.map 1)] [(.map (Z8 b)),(.map (Z8 g))]=true:=by
 simp only[Vo,Vi,Enc.dec_enc,hw,VD,decide_eq_true h1,decide_eq_true h2,Bool.true_and,Bool.and_true,Bool.and_eq_true]
 exact⟨@decide_eq_true _ (_) trivial,@decide_eq_true _ (_) trivial⟩
end Go.Pl
namespace Go.Pl
open Go.RowKit
open Enc (enc dec is)
open EncL (encL decL isL)
set_option maxRecDepth 100000
noncomputable def a8s:IC:=Ww Proofs.Tryz.f20
def b4t:List IRes:=[(.tmp 2)]
abbrev c5k:Nat:=12
noncomputable def c3k:Zz:=YF [(55,.own Vo Gu),(57,.own UW (Q5 79)),(56,.own (WT 79) Uc)]
theorem d0l{G:PV->Prop}(n:Nd)(ks:List Tm)(h:(Vo [(.pv (.agg [(.int .i64 (Nd.kind n)),(.int .i64 (Nd.line n)),(.str (Str.s (Nd.name n))),(.int .i64 (Nd.num n)),(.str (Str.s (Nd.elem n))),(.sl 1 false (List.map enc (Nd.dims n))),(.sl 1 false (List.map enc (Nd.data n))),(.sl 2 false (List.map enc (Nd.sizes n))),(.sl 1 false (List.map enc (Nd.ranks n))),(.sl 10 false (List.map enc ks))])),(.map 0),(.map 1)] [(.map []),(.map [])])=true∧((WT 79 [(.fn 79 [] [(.ptr 0 0)])] [(.box [(.map 1)]),(.map (Z8 (List.foldl Y4 (YM []) (YX (YM []) (dec (PV.agg [enc (Nd.kind n),enc (Nd.line n),enc (Nd.name n),enc (Nd.num n),enc (Nd.elem n),enc (Nd.dims n),enc (Nd.data n),enc (Nd.sizes n),enc (Nd.ranks n),enc ks]))))))])=true∧(G ((.sl 1 false (List.map PV.str (YQ (List.map Vj (Z8 (List.foldl Y4 (YM []) (YX (YM []) (dec (PV.agg [enc (Nd.kind n),enc (Nd.line n),enc (Nd.name n),enc (Nd.num n),enc (Nd.elem n),enc (Nd.dims n),enc (Nd.data n),enc (Nd.sizes n),enc (Nd.ranks n),enc ks]))))))))))))):Ze c3k 0 (Zb b4t G) a8s [] (Z7 12 [.agg [enc n.kind,enc n.line,enc n.name,enc n.num,enc n.elem,enc n.dims,enc n.data,enc n.sizes,enc n.ranks,enc ks]]):=Ze.tp (dm [] 8 0x313231) h
end Go.Pl
namespace Go.Pl
open Go.RowKit
open Enc (enc dec is)
open EncL (encL decL isL)
mutual
theorem b1g: ∀ (b:List Str) (t:Tm) (s:Str),s∈YX b t->s.s.length<=KA t
 | b,.mk n ks,s,h=>by
  rw[YX]at h
  rw[KA]
  rcases List.mem_append.1 h with h|h
  ·split at h
   ·have:s=n.name:=by simpa using h
    subst this
    unfold Fv;omega
   ·cases h
  ·have:=a1m b (X3 n ks.length) n.name 0 ks s h;omega
theorem a1m: ∀ (b:List Str) (l:Bool) (x:Str) (i:Nat) (ks:List Tm) (s:Str),s∈YZ b l x i ks->s.s.length<=XQ ks
 | b,l,x,i,[],s,h=>by rw[YZ]at h;cases h
 | b,l,x,i,k::ks,s,h=>by
  rw[YZ]at h
  rw[XQ]
  rcases List.mem_append.1 h with h|h
  ·have:=b1g _ k s h;omega
  ·have:=a1m b l x (i+1) ks s h;omega
end
theorem b4i{l:List Str}(h1 : ∀ s∈l,s.s.length<=1048576)(h2:l.length<=1048576):Q3 (Z8 (Ws l))=true:=by
 have h3:(Z8 (Ws l)).all c4h=true:=by
  rw[List.all_eq_true]
  intro x hx
  obtain⟨s,hs,rfl⟩:=List.mem_map.1 hx
  rcases (Sq l [] s).1 hs with h|h
  ·cases h
  ·exact decide_eq_true (h1 s h)
 have h4:((Z8 (Ws l)).map Vj).Nodup:=by
  have e:(Z8 (Ws l)).map Vj=(Ws l).map (·.s):=by unfold Z8;rw[List.map_map];rfl
  rw[e]
  have:=QS l [] (by simp)
  refine List.Pairwise.map _ (fun a b hab=> ?_) this
  intro he;apply hab;cases a;cases b;simp at he;rw[he]
 have h5:(Z8 (Ws l)).length<=1048576:=by
  have:=Kq l []
  unfold Z8
  rw[List.length_map]
  have e:Ws l=l.foldl Y4 []:=rfl
  rw[e]
  simp at this
  omega
 unfold Q3
 rw[h3,decide_eq_true h4,decide_eq_true h5];rfl
theorem NB(l:List Str):(PV.sl 1 false (List.map PV.str (YQ (List.map Vj (Z8 (Ws l))))))=enc (WP l):=by
 have e:(Z8 (Ws l)).map Vj=(Ws l).map (·.s):=by unfold Z8;rw[List.map_map];rfl
 rw[e]
 unfold WP
 show _=PV.sl 1 false (List.map enc (List.map Str.mk _))
 rw[List.map_map]
 rfl
theorem b9q: ∀ x:Tm×Unit,tW x.1=true->Ze c3k 0 (Zb b4t (Zq (ZW x.1))) a8s [] (Z7 c5k (encL x)):=by
 rintro⟨⟨n,ks⟩,⟨⟩⟩ hw
 rw[show encL ((Tm.mk n ks,()):Tm×Unit)=[PV.agg [enc n.kind,enc n.line,enc n.name,enc n.num,enc n.elem,enc n.dims,enc n.data,enc n.sizes,enc n.ranks,enc ks]]from by
  show [enc (Tm.mk n ks)]=_
  rw[Zx]]
 have hw:tW (.mk n ks)=true:=hw
 refine d0l n ks ?_
 have hs:=Vp hw
 have hW:=of_decide_eq_true hw
 have hd:ZI (.mk n ks)<=1048576:=Nat.le_trans (He _) hs
 have e:(dec (PV.agg [enc (Nd.kind n),enc (Nd.line n),enc (Nd.name n),enc (Nd.num n),enc (Nd.elem n),enc (Nd.dims n),enc (Nd.data n),enc (Nd.sizes n),enc (Nd.ranks n),enc ks]):Tm) = .mk n ks:=by rw[<- Zx,Enc.dec_enc]
 rw[e]
 refine⟨?_,?_,?_⟩
 ·have:=c9k (t:=.mk n ks) (b:=[]) (g:=[]) hw (by simpa using hd) (by simpa using hs)
  rw[Zx]at this
  exact this
 ·show(79==79&&Q3 (Z8 (Ws (YX [] (.mk n ks)))))=true
  rw[b4i (fun s h=>by have:=b1g _ _ s h;omega) (by have:=Qy [] (.mk n ks);omega)]
  simp
 ·show Zq _ (PV.sl 1 false (List.map PV.str (YQ (List.map Vj (Z8 (Ws (YX [] (.mk n ks))))))))
  rw[NB]
  exact U6 rfl
end Go.Pl
namespace Go.Pl
open Go.RowKit
open Enc (enc dec is)
open EncL (encL decL isL)
set_option maxRecDepth 100000
noncomputable def JA:IC:=icx WW Proofs.Tryz.f21
def Ka:List IRes:=[(.tmp 2)]
abbrev c1g:Nat:=11
noncomputable def Qm:Zz:=YF [(58,.own Yf (YH 80))]
theorem c6s{G:PV->Prop}(E:YJ)(n:Nd)(ks:List Tm)(h:(Yf [(.pv (.agg [(.int .i64 (Nd.kind n)),(.int .i64 (Nd.line n)),(.str (Str.s (Nd.name n))),(.int .i64 (Nd.num n)),(.str (Str.s (Nd.elem n))),(.sl 1 false (List.map enc (Nd.dims n))),(.sl 1 false (List.map enc (Nd.data n))),(.sl 2 false (List.map enc (Nd.sizes n))),(.sl 1 false (List.map enc (Nd.ranks n))),(.sl 10 false (List.map enc ks))]))] [])=true∧(E 0 ⟨ZE 11 0 [(3,(.ptr 0 0)),(5,(.fn 80 [] [(.ptr 1 0)])),(8,.undef),(9,.undef)],[(.obj (.box [(.pv (.int .i64 0))])),(.obj (.box (Z0 n ks)))]⟩ (fun x S'=>Un Qm E 0 (Zb Ka G) JA 0 x S'))):Zv Qm E 0 (Zb Ka G) (.inl JA) [] (Z7 11 [.agg [enc n.kind,enc n.line,enc n.name,enc n.num,enc n.elem,enc n.dims,enc n.data,enc n.sizes,enc n.ranks,enc ks]]):=Zv.mp (.req (.keep (.nil))) h
theorem b6m{G:PV->Prop}(E:YJ)(n:Nd)(ks:List Tm)(c:Int)(h:G ((.int .i64 c))):Un Qm E 0 (Zb Ka G) JA 0 .normal ⟨ZE 11 0 [(3,.ptr 0 0)],[.obj (.box [.pv (.int .i64 c)])]⟩:=Zv.mp (.nil) h
def JD:IC:=.skip
noncomputable def b0h:Zz:=YF [(58,.own Yf (YH 80))]
theorem b7q{G:Zn->Prop}(E:YJ)(n:Nd)(ks:List Tm)(c:Int)(v:Int)(h:E 99 ⟨ZE 11 0 [(3,(.ptr 0 0))],[(.obj (.box [(.pv (.int .i64 c))]))]⟩ (fun x S'=>Un b0h E 1 (fun st=>G st.heap) JD 99 x S')):Zv b0h E 1 (fun st=>G st.heap) (.inl JD) [.seq (.ext 99 [3])] ⟨ZE 11 0 [(3,.ptr 0 0),(6,.pv (.agg [enc n.kind,enc n.line,enc n.name,enc n.num,enc n.elem,enc n.dims,enc n.data,enc n.sizes,enc n.ranks,enc ks])),(7,.pv (.int .i64 v))],[.obj (.box [.pv (.int .i64 c)])]⟩:=Zv.mh (.nil) h
def JE:IC:=(.block 1 (.reg [ZA 8 (DZ [(.int .i64)] (.t 3)) 0,ZA 9 (Hm .add (.t 8) (UT 1)) 0,Ak (.store 1 (.t 3) (.t 9)) 0] none))
noncomputable def a9z:Zz:=YF [(58,.own Yf (YH 80))]
theorem b7d{G:Zn->Prop}(E:YJ)(n:Nd)(ks:List Tm)(c:Int)(v:Int)(h:E 99 ⟨ZE 11 0 [],[(.obj (.box [(.pv (.int .i64 (IntKind.wrap IntKind.i64 (c+1))))]))]⟩ (fun x S'=>Un a9z E 1 (fun st=>G st.heap) JE 99 x S')):Zv a9z E 1 (fun st=>G st.heap) (.inl JE) [.seq (.ext 99 [])] ⟨ZE 11 0 [(3,.ptr 0 0)],[.obj (.box [.pv (.int .i64 c)])]⟩:=Zv.mh (.lit (.nil)) h
noncomputable def JG:IC:=icx WW Proofs.Tryz.f27
def Q6:List IRes:=[(.tmp 2)]
abbrev b5z:Nat:=14
noncomputable def Qg:Zz:=YF [(58,.own Yf (YH 80))]
theorem c7n{G:PV->Prop}(E:YJ)(n:Nd)(ks:List Tm)(h:(Yf [(.pv (.agg [(.int .i64 (Nd.kind n)),(.int .i64 (Nd.line n)),(.str (Str.s (Nd.name n))),(.int .i64 (Nd.num n)),(.str (Str.s (Nd.elem n))),(.sl 1 false (List.map enc (Nd.dims n))),(.sl 1 false (List.map enc (Nd.data n))),(.sl 2 false (List.map enc (Nd.sizes n))),(.sl 1 false (List.map enc (Nd.ranks n))),(.sl 10 false (List.map enc ks))]))] [])=true∧(E 0 ⟨ZE 14 0 [(3,(.ptr 0 0)),(5,.undef),(7,(.fn 80 [] [(.ptr 1 0)])),(9,.undef),(10,.undef),(11,.undef),(12,.undef)],[(.obj (.box [(.pv (.int .i64 0))])),(.obj (.box (Z0 n ks)))]⟩ (fun x S'=>Un Qg E 0 (Zb Q6 G) JG 0 x S'))):Zv Qg E 0 (Zb Q6 G) (.inl JG) [] (Z7 14 [.agg [enc n.kind,enc n.line,enc n.name,enc n.num,enc n.elem,enc n.dims,enc n.data,enc n.sizes,enc n.ranks,enc ks]]):=Zv.mp (.req (.keep (.nil))) h
theorem b9u{G:PV->Prop}(E:YJ)(n:Nd)(ks:List Tm)(c:Int)(h:G ((.int .i64 c))):Un Qg E 0 (Zb Q6 G) JG 0 .normal ⟨ZE 14 0 [(3,.ptr 0 0)],[.obj (.box [.pv (.int .i64 c)])]⟩:=Zv.mp (.nil) h
def J6:IC:=(.reg [ZA 5 (X0 9) 0] none)
noncomputable def a7j:Zz:=YF [(58,.own Yf (YH 80))]
theorem b8s{G:Zn->Prop}(E:YJ)(n:Nd)(ks:List Tm)(c:Int)(v:Int)(h:E 99 ⟨ZE 14 0 [(3,(.ptr 0 0)),(5,(.pv (.int .i64 v)))],[(.obj (.box [(.pv (.int .i64 c))]))]⟩ (fun x S'=>Un a7j E 1 (fun st=>G st.heap) J6 99 x S')):Zv a7j E 1 (fun st=>G st.heap) (.inl J6) [.seq (.ext 99 [3,5])] ⟨ZE 14 0 [(3,.ptr 0 0),(8,.pv (.agg [enc n.kind,enc n.line,enc n.name,enc n.num,enc n.elem,enc n.dims,enc n.data,enc n.sizes,enc n.ranks,enc ks])),(9,.pv (.int .i64 v))],[.obj (.box [.pv (.int .i64 c)])]⟩:=Zv.mh (.nil) h
def JH:IC:=(.block 1 (.reg [ZA 10 (DZ [(.int .i64)] (.t 3)) 0,ZA 11 (X0 5) 0,ZA 12 (.mm true (.t 10) (.t 11)) 0,Ak (.store 1 (.t 3) (.t 12)) 0] none))
noncomputable def b5f:Zz:=YF [(58,.own Yf (YH 80))]
theorem b6q{G:Zn->Prop}(E:YJ)(n:Nd)(ks:List Tm)(c:Int)(v:Int)(h:E 99 ⟨ZE 14 0 [],[(.obj (.box [(.pv (.int .i64 (if true=true then if v>c then v else c else if v<c then v else c)))]))]⟩ (fun x S'=>Un b5f E 1 (fun st=>G st.heap) JH 99 x S')):Zv b5f E 1 (fun st=>G st.heap) (.inl JH) [.seq (.ext 99 [])] ⟨ZE 14 0 [(3,.ptr 0 0),(5,.pv (.int .i64 v))],[.obj (.box [.pv (.int .i64 c)])]⟩:=Zv.mh (.nil) h
noncomputable def J4:IC:=icx WW Proofs.Tryz.f37
def Ki:List IRes:=[(.tmp 2)]
abbrev c2r:Nat:=25
noncomputable def UY:Zz:=YF [(58,.own Yf (YH 80))]
theorem c5g{G:PV->Prop}(E:YJ)(n:Nd)(ks:List Tm)(h:(Yf [(.pv (.agg [(.int .i64 (Nd.kind n)),(.int .i64 (Nd.line n)),(.str (Str.s (Nd.name n))),(.int .i64 (Nd.num n)),(.str (Str.s (Nd.elem n))),(.sl 1 false (List.map enc (Nd.dims n))),(.sl 1 false (List.map enc (Nd.data n))),(.sl 2 false (List.map enc (Nd.sizes n))),(.sl 1 false (List.map enc (Nd.ranks n))),(.sl 10 false (List.map enc ks))]))] [])=true∧(E 0 ⟨ZE 25 0 [(3,(.ptr 0 0)),(4,.undef),(6,(.fn 80 [] [(.ptr 1 0)])),(7,.undef),(9,.undef),(10,.undef),(11,.undef),(12,.undef),(13,.undef),(14,.undef),(15,.undef),(16,.undef),(17,.undef),(18,.undef),(19,.undef),(20,.undef),(21,.undef),(22,.undef),(23,.undef)],[(.obj (.box [(.pv (.int .i64 0))])),(.obj (.box (Z0 n ks)))]⟩ (fun x S'=>Un UY E 0 (Zb Ki G) J4 0 x S'))):Zv UY E 0 (Zb Ki G) (.inl J4) [] (Z7 25 [.agg [enc n.kind,enc n.line,enc n.name,enc n.num,enc n.elem,enc n.dims,enc n.data,enc n.sizes,enc n.ranks,enc ks]]):=Zv.mp (.req (.keep (.nil))) h
theorem c2i{G:PV->Prop}(E:YJ)(n:Nd)(ks:List Tm)(c:Int)(h:G ((.int .i64 c))):Un UY E 0 (Zb Ki G) J4 0 .normal ⟨ZE 25 0 [(3,.ptr 0 0)],[.obj (.box [.pv (.int .i64 c)])]⟩:=Zv.mp (.nil) h
def JU:IC:=(.reg [ZA 4 (.alloc (.agg [(.int .i64 0),(.int .i64 0),(.str []),(.int .i64 0),(.str []),(.sl 0 true []),(.sl 0 true []),(.sl 0 true []),(.sl 0 true []),(.sl 0 true [])])) 0,Ak (.store 10 (.t 4) (.t 7)) 1] none)
noncomputable def a8b:Zz:=YF [(58,.own Yf (YH 80))]
theorem b9o{G:Zn->Prop}(E:YJ)(n:Nd)(ks:List Tm)(c:Int)(v:Int)(h:E 99 ⟨ZE 25 0 [(3,(.ptr 0 0)),(4,(.ptr 1 0))],[(.obj (.box [(.pv (.int .i64 c))])),(.obj (.box (Z0 n ks)))]⟩ (fun x S'=>Un a8b E 1 (fun st=>G st.heap) JU 99 x S')):Zv a8b E 1 (fun st=>G st.heap) (.inl JU) [.seq (.ext 99 [3,4])] ⟨ZE 25 0 [(3,.ptr 0 0),(7,.pv (.agg [enc n.kind,enc n.line,enc n.name,enc n.num,enc n.elem,enc n.dims,enc n.data,enc n.sizes,enc n.ranks,enc ks])),(8,.pv (.int .i64 v))],[.obj (.box [.pv (.int .i64 c)])]⟩:=Zv.mh (.nil) h
def V7:IC:=(.block 1 (Vf [ZA 9 (.faddr 0 (.t 4)) 0,ZA 10 (DZ [(.int .i64)] (.t 9)) 0,ZA 11 (Hm .eql (.t 10) (UT 6)) 0,ZA 12 (X0 11) 0,p'' 13 (.faddr 2 (.t 4)) 0 12,p'' 14 (.load false [.str] (.t 13)) 0 12,p'' 15 (Hm .eql (.t 14) (.c (.str [105,110,100,101,120]))) 0 12,p'' 16 (X0 15) 0 12,LP 17 (.faddr 2 (.t 4)) 0 16,LP 18 (.load false [.str] (.t 17)) 0 16,LP 19 (Hm .eql (.t 18) (.c (.str [117,112,100,97,116,101]))) 0 16,p'' 20 (.pick (.t 16) (.c (.bool true)) (.t 19)) 0 12,ZA 21 (.pick (.t 12) (.t 20) (.c (.bool false))) 0] (.cond (.t 21) (.reg [ZA 22 (DZ [(.int .i64)] (.t 3)) 0,ZA 23 (Hm .add (.t 22) (UT 1)) 0,Ak (.store 1 (.t 3) (.t 23)) 0] none) .skip)))
noncomputable def BD:Zz:=YF [(58,.own Yf (YH 80))]
theorem b7o{G:Zn->Prop}(E:YJ)(n:Nd)(ks:List Tm)(c:Int)(v:Int)(h:if (Nd.kind n==6)=true then if (Str.s (Nd.name n)==[(105:UInt8),(110:UInt8),(100:UInt8),(101:UInt8),(120:UInt8)])=true then E 99 ⟨ZE 25 0 [],[(.obj (.box [(.pv (.int .i64 (IntKind.wrap IntKind.i64 (c+1))))])),(.obj (.box (Z0 n ks)))]⟩ (fun x S'=>Un BD E 2 (fun st=>G st.heap) V7 99 x S')else(if (Str.s (Nd.name n)==[(117:UInt8),(112:UInt8),(100:UInt8),(97:UInt8),(116:UInt8),(101:UInt8)])=true then E 99 ⟨ZE 25 0 [],[(.obj (.box [(.pv (.int .i64 (IntKind.wrap IntKind.i64 (c+1))))])),(.obj (.box (Z0 n ks)))]⟩ (fun x S'=>Un BD E 2 (fun st=>G st.heap) V7 99 x S')else(E 99 ⟨ZE 25 0 [],[(.obj (.box [(.pv (.int .i64 c))])),(.obj (.box (Z0 n ks)))]⟩ (fun x S'=>Un BD E 2 (fun st=>G st.heap) V7 99 x S')))else(E 99 ⟨ZE 25 0 [],[(.obj (.box [(.pv (.int .i64 c))])),(.obj (.box (Z0 n ks)))]⟩ (fun x S'=>Un BD E 2 (fun st=>G st.heap) V7 99 x S'))):Zv BD E 2 (fun st=>G st.heap) (.inl V7) [.seq (.ext 99 [])] ⟨ZE 25 0 [(3,.ptr 0 0),(4,.ptr 1 0)],[.obj (.box [.pv (.int .i64 c)]),.obj (.box [.pv (enc n.kind),.pv (enc n.line),.pv (enc n.name),.pv (enc n.num),.pv (enc n.elem),.pv (enc n.dims),.pv (enc n.data),.pv (enc n.sizes),.pv (enc n.ranks),.pv (enc ks)])]⟩:=Zv.mh (dm [] 42 0x2222220020024222222022222220084222201d42) h
noncomputable def JY:IC:=icx WW Proofs.Tryz.f32
def QY:List IRes:=[(.tmp 2)]
abbrev c1o:Nat:=29
noncomputable def Qn:Zz:=YF [(58,.own Yf (YH 80)),(57,.own UW (Q5 79)),(56,.own (WT 79) Uc)]
theorem c7q{G:PV->Prop}(E:YJ)(n:Nd)(ks:List Tm)(h:(Yf [(.pv (.agg [(.int .i64 (Nd.kind n)),(.int .i64 (Nd.line n)),(.str (Str.s (Nd.name n))),(.int .i64 (Nd.num n)),(.str (Str.s (Nd.elem n))),(.sl 1 false (List.map enc (Nd.dims n))),(.sl 1 false (List.map enc (Nd.data n))),(.sl 2 false (List.map enc (Nd.sizes n))),(.sl 1 false (List.map enc (Nd.ranks n))),(.sl 10 false (List.map enc ks))]))] [])=true∧(E 0 ⟨ZE 29 0 [(3,(.ptr 0 0)),(4,.undef),(7,(.fn 80 [] [(.ptr 1 0)])),(8,.undef),(10,.undef),(11,.undef),(12,.undef),(13,.undef),(14,.undef),(15,.undef),(16,.undef),(17,.undef),(18,.undef),(19,.undef),(20,.undef),(21,.undef),(22,.undef),(23,.undef),(24,.undef),(25,.undef)],[(.obj (.box [(.map 2)])),(.obj (.box (Z0 n ks))),(.obj (.map []))]⟩ (fun x S'=>Un Qn E 0 (Zb QY G) JY 0 x S'))):Zv Qn E 0 (Zb QY G) (.inl JY) [] (Z7 29 [.agg [enc n.kind,enc n.line,enc n.name,enc n.num,enc n.elem,enc n.dims,enc n.data,enc n.sizes,enc n.ranks,enc ks]]):=Zv.mp (.req (.keep (.nil))) h
theorem b8k{G:PV->Prop}(E:YJ)(n:Nd)(ks:List Tm)(m:List Str)(h:(WT 79 [(.fn 79 [] [(.ptr 0 0)])] [(.box [(.map 1)]),(.map (Z8 m))])=true∧(G ((.sl 1 false (List.map PV.str (YQ (List.map Vj (Z8 m)))))))):Un Qn E 0 (Zb QY G) JY 0 .normal ⟨ZE 29 0 [(3,.ptr 0 0)],[.obj (.box [.map 1]),.obj (.map (Z8 m))]⟩:=Zv.mp (.lit (.keep (.req (.keep (.nil))))) h
def JQ:IC:=(.reg [ZA 4 (.alloc (.agg [(.int .i64 0),(.int .i64 0),(.str []),(.int .i64 0),(.str []),(.sl 0 true []),(.sl 0 true []),(.sl 0 true []),(.sl 0 true []),(.sl 0 true [])])) 0,Ak (.store 10 (.t 4) (.t 8)) 1] none)
noncomputable def b3d:Zz:=YF [(58,.own Yf (YH 80)),(57,.own UW (Q5 79)),(56,.own (WT 79) Uc)]
theorem c1x{G:Zn->Prop}(E:YJ)(n:Nd)(ks:List Tm)(m:List Str)(v:Int)(h:E 99 ⟨ZE 29 0 [(3,(.ptr 0 0)),(4,(.ptr 2 0))],[(.obj (.box [(.map 1)])),(.obj (.map (Z8 m))),(.obj (.box (Z0 n ks)))]⟩ (fun x S'=>Un b3d E 2 (fun st=>G st.heap) JQ 99 x S')):Zv b3d E 2 (fun st=>G st.heap) (.inl JQ) [.seq (.ext 99 [3,4])] ⟨ZE 29 0 [(3,.ptr 0 0),(8,.pv (.agg [enc n.kind,enc n.line,enc n.name,enc n.num,enc n.elem,enc n.dims,enc n.data,enc n.sizes,enc n.ranks,enc ks])),(9,.pv (.int .i64 v))],[.obj (.box [.map 1]),.obj (.map (Z8 m))]⟩:=Zv.mh (.nil) h
def VY:IC:=(.block 1 (Vf [ZA 10 (.faddr 0 (.t 4)) 0,ZA 11 (DZ [(.int .i64)] (.t 10)) 0,ZA 12 (Hm .eql (.t 11) (UT 6)) 0,ZA 13 (X0 12) 0,LP 14 (.faddr 0 (.t 4)) 0 13,LP 15 (DZ [(.int .i64)] (.t 14)) 0 13,LP 16 (Hm .eql (.t 15) (UT 8)) 0 13,ZA 17 (.pick (.t 13) (.c (.bool true)) (.t 16)) 0,ZA 18 (X0 17) 0,LP 19 (.faddr 0 (.t 4)) 0 18,LP 20 (DZ [(.int .i64)] (.t 19)) 0 18,LP 21 (Hm .eql (.t 20) (UT 9)) 0 18,ZA 22 (.pick (.t 18) (.c (.bool true)) (.t 21)) 0] (.cond (.t 22) (.reg [ZA 23 (.load false [.any] (.t 3)) 0,ZA 24 (.faddr 2 (.t 4)) 0,ZA 25 (.load false [.str] (.t 24)) 0,Ak (.mapupd true (.t 23) (.t 25) (.c (.bool true))) 0] none) .skip)))
noncomputable def Bz:Zz:=YF [(58,.own Yf (YH 80)),(57,.own UW (Q5 79)),(56,.own (WT 79) Uc)]
theorem b8d{G:Zn->Prop}(E:YJ)(n:Nd)(ks:List Tm)(m:List Str)(v:Int)(h:if (Nd.kind n==6)=true then(V4 (enc (Nd.name n)) (PV.bool true) (Z8 m))=true∧(E 99 ⟨ZE 29 0 [],[(.obj (.box [(.map 1)])),(.obj (.map (X5 (enc (Nd.name n)) (PV.bool true) (Z8 m)))),(.obj (.box (Z0 n ks)))]⟩ (fun x S'=>Un Bz E 3 (fun st=>G st.heap) VY 99 x S'))else(if (Nd.kind n==8)=true then(V4 (enc (Nd.name n)) (PV.bool true) (Z8 m))=true∧(E 99 ⟨ZE 29 0 [],[(.obj (.box [(.map 1)])),(.obj (.map (X5 (enc (Nd.name n)) (PV.bool true) (Z8 m)))),(.obj (.box (Z0 n ks)))]⟩ (fun x S'=>Un Bz E 3 (fun st=>G st.heap) VY 99 x S'))else(if (Nd.kind n==9)=true then(V4 (enc (Nd.name n)) (PV.bool true) (Z8 m))=true∧(E 99 ⟨ZE 29 0 [],[(.obj (.box [(.map 1)])),(.obj (.map (X5 (enc (Nd.name n)) (PV.bool true) (Z8 m)))),(.obj (.box (Z0 n ks)))]⟩ (fun x S'=>Un Bz E 3 (fun st=>G st.heap) VY 99 x S'))else(E 99 ⟨ZE 29 0 [],[(.obj (.box [(.map 1)])),(.obj (.map (Z8 m))),(.obj (.box (Z0 n ks)))]⟩ (fun x S'=>Un Bz E 3 (fun st=>G st.heap) VY 99 x S'))))):Zv Bz E 3 (fun st=>G st.heap) (.inl VY) [.seq (.ext 99 [])] ⟨ZE 29 0 [(3,.ptr 0 0),(4,.ptr 2 0)],[.obj (.box [.map 1]),.obj (.map (Z8 m)),.obj (.box [.pv (enc n.kind),.pv (enc n.line),.pv (enc n.name),.pv (enc n.num),.pv (enc n.elem),.pv (enc n.dims),.pv (enc n.data),.pv (enc n.sizes),.pv (enc n.ranks),.pv (enc ks)])]⟩:=Zv.mh (dm [] 41 0x10024222201222200642222012222222200a42) h
end Go.Pl
namespace Go.Pl
open Go.RowKit
open Enc (enc dec is)
open EncL (encL decL isL)
set_option maxRecDepth 100000
abbrev d2o(ps:List PV)(k:Bool->Prop):Prop:=Kv (fun(x:Tm×Unit)=>tW (Prod.fst x)) (fun(x:Tm×Unit)=>Ga (Prod.fst x)) ps k
noncomputable def TR:IC:=Ww Proofs.Tryz.f58
def RF:List IRes:=[(.tmp 2)]
abbrev c2u:Nat:=4
def Fs:Zz:=YF []
theorem c7y{G:AV×List AObj×List AObj->Prop}(n:Nd)(ks:List Tm)(h:G (((.fn 80 [] [(.ptr 0 0)]),([],[(.box [(.pv (.int .i64 (Nd.kind n))),(.pv (.int .i64 (Nd.line n))),(.pv (.str (Str.s (Nd.name n)))),(.pv (.int .i64 (Nd.num n))),(.pv (.str (Str.s (Nd.elem n)))),(.pv (.sl 1 false (List.map enc (Nd.dims n)))),(.pv (.sl 1 false (List.map enc (Nd.data n)))),(.pv (.sl 2 false (List.map enc (Nd.sizes n)))),(.pv (.sl 1 false (List.map enc (Nd.ranks n)))),(.pv (.sl 10 false (List.map enc ks)))])])))):Ze Fs 0 (Yd 0 RF G) TR [] (XY 4 [.pv (.agg [enc n.kind,enc n.line,enc n.name,enc n.num,enc n.elem,enc n.dims,enc n.data,enc n.sizes,enc n.ranks,enc ks])] []):=Ze.to (.nil) h
noncomputable def H5:IC:=icx WW Proofs.Tryz.f22
def Jb:List IRes:=[(.cell false 1 2)]
abbrev c6j:Nat:=23
noncomputable def KC:Zz:=YF [(58,.own Yf (YH 80)),(59,.pure (preT (fun x:Tm×Unit=>tW x.1)) (Zi (fun x:Tm×Unit=>Ga x.1)))]
theorem d1i{G:PV->Prop}(E:YJ)(n:Nd)(ks:List Tm)(h:(Yf [(.pv (.agg [(.int .i64 (Nd.kind n)),(.int .i64 (Nd.line n)),(.str (Str.s (Nd.name n))),(.int .i64 (Nd.num n)),(.str (Str.s (Nd.elem n))),(.sl 1 false (List.map enc (Nd.dims n))),(.sl 1 false (List.map enc (Nd.data n))),(.sl 2 false (List.map enc (Nd.sizes n))),(.sl 1 false (List.map enc (Nd.ranks n))),(.sl 10 false (List.map enc ks))]))] [])=true∧(E 0 ⟨ZE 23 0 [(2,(.ptr 0 0)),(3,(.ptr 1 0)),(4,.undef),(5,.undef),(7,(.fn 80 [] [(.ptr 2 0)])),(8,.undef),(9,.undef),(10,.undef),(11,.undef),(12,.undef),(13,.undef),(14,.undef),(15,.undef),(16,.undef),(17,.undef),(18,.undef),(19,.undef),(20,.undef),(21,.undef),(22,.undef)],[(.obj (.box [(.pv (.bool false))])),(.obj (.box [(.pv (.int .i64 0))])),(.obj (.box [(.pv (.int .i64 (Nd.kind n))),(.pv (.int .i64 (Nd.line n))),(.pv (.str (Str.s (Nd.name n)))),(.pv (.int .i64 (Nd.num n))),(.pv (.str (Str.s (Nd.elem n)))),(.pv (.sl 1 false (List.map enc (Nd.dims n)))),(.pv (.sl 1 false (List.map enc (Nd.data n)))),(.pv (.sl 2 false (List.map enc (Nd.sizes n)))),(.pv (.sl 1 false (List.map enc (Nd.ranks n)))),(.pv (.sl 10 false (List.map enc ks)))]))]⟩ (fun x S'=>Un KC E 0 (Zb Jb G) H5 0 x S'))):Zv KC E 0 (Zb Jb G) (.inl H5) [] (Z7 23 [.agg [enc n.kind,enc n.line,enc n.name,enc n.num,enc n.elem,enc n.dims,enc n.data,enc n.sizes,enc n.ranks,enc ks]]):=Zv.mp (.req (.keep (.nil))) h
theorem c9a{G:PV->Prop}(E:YJ)(n:Nd)(ks:List Tm)(c:Int)(h:G ((.bool true))):Un KC E 0 (Zb Jb G) H5 0 .normal ⟨ZE 23 0 [(2,.ptr 0 0),(3,.ptr 1 0)],[.obj (.box [.pv (.bool false)]),.obj (.box [.pv (.int .i64 c)])]⟩:=Zv.mp (.nil) h
theorem b9m{G:PV->Prop}(E:YJ)(n:Nd)(ks:List Tm)(c:Int)(rest:List Slot)(h:G ((.bool false))):Un KC E 0 (Zb Jb G) H5 0 .ret ⟨ZE 23 0 [(2,.ptr 0 0),(3,.ptr 1 0)],(.obj (.box [.pv (.bool false)]):: .obj (.box [.pv (.int .i64 c)])::rest)⟩:=Zv.mp (.nil) h
def C9:IC:=(Vf [ZA 4 (.alloc (.agg [(.int .i64 0),(.int .i64 0),(.str []),(.int .i64 0),(.str []),(.sl 0 true []),(.sl 0 true []),(.sl 0 true []),(.sl 0 true []),(.sl 0 true [])])) 0,Ak (.store 10 (.t 4) (.t 8)) 1] (.reg [ZA 5 (X0 9) 0] none))
noncomputable def c2y:Zz:=YF [(58,.own Yf (YH 80)),(59,.pure (preT (fun x:Tm×Unit=>tW x.1)) (Zi (fun x:Tm×Unit=>Ga x.1)))]
theorem c6y{G:Zn->Prop}(E:YJ)(n:Nd)(ks:List Tm)(c v:Int)(h:E 99 ⟨ZE 23 0 [(2,(.ptr 0 0)),(3,(.ptr 1 0)),(4,(.ptr 2 0)),(5,(.pv (.int .i64 v)))],[(.obj (.box [(.pv (.bool false))])),(.obj (.box [(.pv (.int .i64 c))])),(.obj (.box [(.pv (.int .i64 (Nd.kind n))),(.pv (.int .i64 (Nd.line n))),(.pv (.str (Str.s (Nd.name n)))),(.pv (.int .i64 (Nd.num n))),(.pv (.str (Str.s (Nd.elem n)))),(.pv (.sl 1 false (List.map enc (Nd.dims n)))),(.pv (.sl 1 false (List.map enc (Nd.data n)))),(.pv (.sl 2 false (List.map enc (Nd.sizes n)))),(.pv (.sl 1 false (List.map enc (Nd.ranks n)))),(.pv (.sl 10 false (List.map enc ks)))]))]⟩ (fun x S'=>Un c2y E 2 (fun st=>G st.heap) C9 99 x S')):Zv c2y E 2 (fun st=>G st.heap) (.inl C9) [.seq (.ext 99 [2,3,4,5])] ⟨ZE 23 0 [(2,.ptr 0 0),(3,.ptr 1 0),(8,.pv (.agg [enc n.kind,enc n.line,enc n.name,enc n.num,enc n.elem,enc n.dims,enc n.data,enc n.sizes,enc n.ranks,enc ks])),(9,.pv (.int .i64 v))],[.obj (.box [.pv (.bool false)]),.obj (.box [.pv (.int .i64 c)])]⟩:=Zv.mh (.nil) h
def Bp:IC:=(.block 1 (Vf [ZA 10 (DZ [(.int .i64)] (.t 3)) 0,ZA 11 (Hm .add (.t 10) (UT 1)) 0,Ak (.store 1 (.t 3) (.t 11)) 0] (Vf [ZA 12 (DZ [(.int .i64)] (.t 3)) 0,ZA 13 (Hm .gtr (.t 12) (UT 400)) 0,ZA 14 (X0 13) 0,LP 15 (X0 5) 0 14,LP 16 (Hm .gtr (.t 15) (UT 40)) 0 14,ZA 17 (.pick (.t 14) (.c (.bool true)) (.t 16)) 0,ZA 18 (X0 17) 0,LP 19 (.load true [(.int .i64),(.int .i64),.str,(.int .i64),.str,(.sl 1),(.sl 1),(.sl 2),(.sl 1),(.sl 10)] (.t 4)) 0 18,LP 20 (c'' 59 [(.t 19)]) 0 18,LP 21 (.un .not (.t 20)) 2 18,ZA 22 (.pick (.t 18) (.c (.bool true)) (.t 21)) 2] (.cond (.t 22) (Vf [Ak (.store 1 (.t 2) (.c (.bool false))) 0] .ret) .skip))))
noncomputable def c3b:Zz:=YF [(58,.own Yf (YH 80)),(59,.pure (preT (fun x:Tm×Unit=>tW x.1)) (Zi (fun x:Tm×Unit=>Ga x.1)))]
theorem c8t{G:Zn->Prop}(E:YJ)(n:Nd)(ks:List Tm)(c v:Int)(h:if (decide (IntKind.wrap IntKind.i64 (c+1)>400))=true then G ([(.obj (.box [(.pv (.bool false))])),(.obj (.box [(.pv (.int .i64 (IntKind.wrap IntKind.i64 (c+1))))])),(.obj (.box [(.pv (.int .i64 (Nd.kind n))),(.pv (.int .i64 (Nd.line n))),(.pv (.str (Str.s (Nd.name n)))),(.pv (.int .i64 (Nd.num n))),(.pv (.str (Str.s (Nd.elem n)))),(.pv (.sl 1 false (List.map enc (Nd.dims n)))),(.pv (.sl 1 false (List.map enc (Nd.data n)))),(.pv (.sl 2 false (List.map enc (Nd.sizes n)))),(.pv (.sl 1 false (List.map enc (Nd.ranks n)))),(.pv (.sl 10 false (List.map enc ks)))])),.fresh,.fresh])else(if (decide (v>40))=true then G ([(.obj (.box [(.pv (.bool false))])),(.obj (.box [(.pv (.int .i64 (IntKind.wrap IntKind.i64 (c+1))))])),(.obj (.box [(.pv (.int .i64 (Nd.kind n))),(.pv (.int .i64 (Nd.line n))),(.pv (.str (Str.s (Nd.name n)))),(.pv (.int .i64 (Nd.num n))),(.pv (.str (Str.s (Nd.elem n)))),(.pv (.sl 1 false (List.map enc (Nd.dims n)))),(.pv (.sl 1 false (List.map enc (Nd.data n)))),(.pv (.sl 2 false (List.map enc (Nd.sizes n)))),(.pv (.sl 1 false (List.map enc (Nd.ranks n)))),(.pv (.sl 10 false (List.map enc ks)))])),.fresh,.fresh])else((d2o [(.agg [(.int .i64 (Nd.kind n)),(.int .i64 (Nd.line n)),(.str (Str.s (Nd.name n))),(.int .i64 (Nd.num n)),(.str (Str.s (Nd.elem n))),(.sl 1 false (List.map enc (Nd.dims n))),(.sl 1 false (List.map enc (Nd.data n))),(.sl 2 false (List.map enc (Nd.sizes n))),(.sl 1 false (List.map enc (Nd.ranks n))),(.sl 10 false (List.map enc ks))])] fun y0=>(if (!y0)=true then G ([(.obj (.box [(.pv (.bool false))])),(.obj (.box [(.pv (.int .i64 (IntKind.wrap IntKind.i64 (c+1))))])),(.obj (.box [(.pv (.int .i64 (Nd.kind n))),(.pv (.int .i64 (Nd.line n))),(.pv (.str (Str.s (Nd.name n)))),(.pv (.int .i64 (Nd.num n))),(.pv (.str (Str.s (Nd.elem n)))),(.pv (.sl 1 false (List.map enc (Nd.dims n)))),(.pv (.sl 1 false (List.map enc (Nd.data n)))),(.pv (.sl 2 false (List.map enc (Nd.sizes n)))),(.pv (.sl 1 false (List.map enc (Nd.ranks n)))),(.pv (.sl 10 false (List.map enc ks)))])),.fresh,.fresh])else(E 99 ⟨ZE 23 0 [],[(.obj (.box [(.pv (.bool false))])),(.obj (.box [(.pv (.int .i64 (IntKind.wrap IntKind.i64 (c+1))))])),(.obj (.box [(.pv (.int .i64 (Nd.kind n))),(.pv (.int .i64 (Nd.line n))),(.pv (.str (Str.s (Nd.name n)))),(.pv (.int .i64 (Nd.num n))),(.pv (.str (Str.s (Nd.elem n)))),(.pv (.sl 1 false (List.map enc (Nd.dims n)))),(.pv (.sl 1 false (List.map enc (Nd.data n)))),(.pv (.sl 2 false (List.map enc (Nd.sizes n)))),(.pv (.sl 1 false (List.map enc (Nd.ranks n)))),(.pv (.sl 10 false (List.map enc ks)))]))]⟩ (fun x S'=>Un c3b E 3 (fun st=>G st.heap) Bp 99 x S'))))))):Zv c3b E 3 (fun st=>G st.heap) (.inl Bp) [.seq (.ext 99 [])] ⟨ZE 23 0 [(2,.ptr 0 0),(3,.ptr 1 0),(4,.ptr 2 0),(5,.pv (.int .i64 v))],[.obj (.box [.pv (.bool false)]),.obj (.box [.pv (.int .i64 c)]),.obj (.box [.pv (enc n.kind),.pv (enc n.line),.pv (enc n.name),.pv (enc n.num),.pv (enc n.elem),.pv (enc n.dims),.pv (enc n.data),.pv (enc n.sizes),.pv (enc n.ranks),.pv (enc ks)])]⟩:=Zv.mh (dm [dv Bool] 38 0x142251202222005422202222222008422) h
end Go.Pl
namespace Go.Pl
open Go.RowKit
open Enc (enc dec is)
open EncL (encL decL isL)
theorem b7g{s:Str}:(s=⟨[]⟩) ↔ s.s=[]:=by cases s;simp
theorem b7p(n:Nd):YA n 0 0=TN n:=by
 unfold YA TN
 cases n.sizes <;> cases n.ranks <;> simp <;> omega
theorem c0v(k:Nat):((k:Int)=1) ↔ k=1:=by omega
theorem b7x(k:Nat):((k:Int)=2) ↔ k=2:=by omega
theorem c2h(k:Nat):((1:Int)<=(k:Int)) ↔ 1<=k:=by omega
theorem b3j(k:Nat):((k:Int)<=16) ↔ k<=16:=by omega
theorem a8g(n:Nd):YA n 1 0=(decide (n.sizes.length<=1)&&n.sizes.all ZJ&&n.ranks.isEmpty):=by
 unfold YA
 rw[show decide ((n.sizes.length:Int)<=1)=decide (n.sizes.length<=1)from decide_eq_decide.2 (by omega),show decide ((n.ranks.length:Int)<=0)=n.ranks.isEmpty by cases n.ranks <;> simp <;> omega,Bool.and_assoc,Bool.and_assoc,Bool.and_comm n.ranks.isEmpty]
set_option maxHeartbeats 2000000 in
theorem a4i: ∀ x:Tm×Unit,tW x.1=true->Ze Rz 0 (Zb Bj (Zq (Ga x.1))) Mv [] (Z7 a7b (encL x)):=by
 rintro⟨⟨n,ks⟩,⟨⟩⟩ ht
 rw[<- XJ]
 show Ze Rz 0 (Zb Bj (Zq (Ub n ks.length))) _ _ _
 have hnm:decide (n.name.s.length<=1048576)=true:=decide_eq_true (Fg ht).name
 have har:a4y (TJ n)=true:=c5b ht
 have leaf : ∀ b:Bool,Ub n ks.length=b->Zq (Ub n ks.length) (.bool b):=fun b h=>ZC h.symm
 refine c1m n ks ?_
 refine XZ (fun h1=>leaf _ ?_) fun h1=>XZ (fun h2=>leaf _ ?_) fun h2=> ?_
 ·unfold Ub;rw[decide_eq_false (by omega)];rfl
 ·unfold Ub;rw[decide_eq_false (show ¬ n.line<=10000 by omega)];simp
 have hk:Ub n ks.length=M7 n ks.length:=by
  unfold Ub;rw[decide_eq_true (by omega),decide_eq_true (show n.line<=10000 by omega)];simp
 rw[hk]at leaf ⊢
 repeat' (first
  | refine WU (fun h=> ?_) (fun h=> ?_)
  | refine XZ (fun h=> ?_) (fun h=> ?_)
  | refine VO (fun h=> ?_) (fun h=> ?_)
  | refine⟨Zc (n.name,()) rfl hnm,Zd (n.name,()) rfl ?_⟩
  | refine⟨Zc (.mk n ks,0,0,()) (VE n ks 0 0) ht,Zd (.mk n ks,0,0,()) (VE n ks 0 0) ?_⟩
  | refine⟨Zc (.mk n ks,1,0,()) (VE n ks 1 0) ht,Zd (.mk n ks,1,0,()) (VE n ks 1 0) ?_⟩
  | refine⟨Zc (.mk n ks,()) (XJ n ks) ht,Zd (.mk n ks,()) (XJ n ks) ?_⟩
  | refine⟨Zc (TJ n,()) rfl har,Zd (TJ n,()) rfl ?_⟩
  | refine leaf _ ?_)
 all_goals clear ht hnm har leaf hk
 all_goals (unfold M7 Rh;simp_all[b7g,Tm.nd,Tm.ks,b7p,TJ,c0v,b7x,c2h,b3j,a8g])
 intro hk
 omega
end Go.Pl
namespace Go.Proofs.YtgdebdgkofkeeaaGreatDoor
open Go.RowKit Go.Pl
open Enc (enc dec is)
open EncL (encL decL isL)
set_option maxRecDepth 100000
def ndC(n:Nd)(ks:List Tm):List PV:=[enc n.kind,enc n.line,enc n.name,enc n.num,enc n.elem,enc n.dims,enc n.data,enc n.sizes,enc n.ranks,enc ks]
abbrev wkT:Zz:=YF []
def eW(L:List (Nat×AV)):List AV:=ZE 28 0 L
def wk0(n:Nd)(ks:List Tm)(lev:Int)(l:Nat):List (Nat×AV):=[(0,.pv (.agg (ndC n ks))),(1,.pv (.int .i64 lev)),(2,.yld l)]
def wk1(n:Nd)(ks:List Tm)(lev:Int)(l:Nat):List (Nat×AV):=wk0 n ks lev l++[(3,.ptr 0 0),(6,.pv (.bool false))]
def wk2(n:Nd)(ks:List Tm)(lev:Int)(l:Nat):List (Nat×AV):=wk1 n ks lev l++[(9,.yld l),(10,.pv (.agg (ndC n ks))),(11,.pv (.int .i64 lev))]
def wk3(n:Nd)(ks:List Tm)(lev:Int)(l:Nat)(b:Bool):List (Nat×AV):=wk2 n ks lev l++[(12,.pv (.bool b))]
def wk4(n:Nd)(ks:List Tm)(lev:Int)(l:Nat)(b:Bool):List (Nat×AV):=wk3 n ks lev l b++[(13,.pv (.bool (!b)))]
def wk5(n:Nd)(ks:List Tm)(lev:Int)(l:Nat):List (Nat×AV):=wk4 n ks lev l true++[(14,.ptr 0 9),(15,.pv (enc ks)),(16,.pv (.int .i64 (ks.map enc).length)),(17,.pv (.int .i64 0))]
def wl0(ks:List Tm)(lev:Int)(l:Nat)(i:Int):List (Nat×AV):=[(17,.pv (.int .i64 i)),(16,.pv (.int .i64 (ks.map enc).length)),(15,.pv (enc ks)),(1,.pv (.int .i64 lev)),(2,.yld l)]
def wl1(ks:List Tm)(lev:Int)(l:Nat)(i:Int):List (Nat×AV):=wl0 ks lev l i++[(18,.pv (.bool (decide (i<((ks.map enc).length:Int)))))]
def wl5(ks:List Tm)(lev:Int)(l:Nat)(i:Int)(n:Nd)(kk:List Tm):List (Nat×AV):=wl1 ks lev l i++[(19,.pv (.rptr (ndC n kk))),(20,.pv (.agg (ndC n kk))),(8,.ptr 0 0)]
def wl6(ks:List Tm)(lev:Int)(l:Nat)(i:Int)(n:Nd)(kk:List Tm):List (Nat×AV):=wl5 ks lev l i n kk++[(21,.pv (.agg (ndC n kk))),(22,.pv (.int .i64 lev)),(23,.pv (.int .i64 (IntKind.i64.wrap (lev+1)))),(24,.yld l)]
def wl7(ks:List Tm)(lev:Int)(l:Nat)(i:Int)(b:Bool):List (Nat×AV):=wl0 ks lev l i++[(25,.pv (.bool b))]
def wl8(ks:List Tm)(lev:Int)(l:Nat)(i:Int)(b:Bool):List (Nat×AV):=wl7 ks lev l i b++[(26,.pv (.bool (!b)))]
def wl9(ks:List Tm)(lev:Int)(l:Nat)(i:Int):List (Nat×AV):=[(27,.pv (.int .i64 (IntKind.i64.wrap (i+1)))),(17,.pv (.int .i64 (IntKind.i64.wrap (i+1)))),(16,.pv (.int .i64 (ks.map enc).length)),(15,.pv (enc ks)),(1,.pv (.int .i64 lev)),(2,.yld l)]
def bx(n:Nd)(ks:List Tm):Zn:=[.obj (.box ((ndC n ks).map .pv))]
theorem FH{T:Zz}{base d L sz:Nat}{env:List AV}{σ:Zn}{x i:IOp}{t:Bool}{xs:List PV}{n:Nat}{k:IntKind}{p:PV}{ps:List PI}(hx:ev env x = .pv (.sl sz t xs))(hi:ev env i = .pv (.int k (n:Int)))(hp:xs[n]? = some p):
  UK T base (⟨some d,.iaddr sz x i,L,none⟩::ps) ⟨env,σ⟩=UK T base ps ⟨env.set d (.pv (.rptr p.cells)),σ⟩:=by
 have hlt:n<xs.length:=(List.getElem?_eq_some_iff.1 hp).1
 have hg:xs[n]=p:=(List.getElem?_eq_some_iff.1 hp).2
 have h:(YR T (base+L) env (.iaddr sz x i)).run σ=some (.pv (.rptr p.cells),σ):=by
  simp only[YR,Yy,hx,hi]
  simp[HM.run,hlt,hg]
 show(Ju T base ⟨some d,.iaddr sz x i,L,none⟩ ⟨env,σ⟩).bind (UK T base ps)=_
 simp only[Ju,YD,h,Option.map_some,Option.bind_some,Z4]
set_option maxHeartbeats 1000000 in
theorem c5r: ∃ (o0 o1 o2 o3 o4 o5 o6 o7 o8 o9:Array Oper) (a1 b1 a6 b6:List Oper) (y c:Oper) (t1 t2:Array TypeId),
  Tryz.f81.body=some ((Code.region 0 o0 false).seq (((Code.region 1 o1 false).seq (Code.cond (.tmp 13) ((Code.region 2 o2 false).seq .ret) .skip)).seq (((Code.region 3 o3 false).seq (Code.block 0
   (Code.loop ((Code.region 4 o4 false).seq ((Code.cond (.tmp 18) .skip (.exit 0)).seq ((Code.block 1 ((Code.region 5 o5 false).seq ((Code.region 6 o6 false).seq (Code.cond (.tmp 26) ((Code.region 7 o7 false).seq .ret) .skip)))).seq (Code.region 8 o8 false))))))).seq ((Code.region 9 o9 false).seq .ret)))) ∧
  o1.toList=a1++y::b1∧y.op = .call {callee:=.value (.tmp 9),args:=#[.tmp 10,.tmp 11],argTypes:=t1}∧y.guard=none∧y.dst=some 12 ∧
  o6.toList=a6++c::b6∧c.op = .call {callee:=.value (.func 81),args:=#[.tmp 21,.tmp 23,.tmp 24],argTypes:=t2}∧c.guard=none∧c.dst=some 25 ∧
  (∀ n ks lev l,Qj Tryz.prog wkT o0 o0.toList ⟨eW (wk0 n ks lev l),[]⟩=some ⟨eW (wk1 n ks lev l),bx n ks⟩) ∧
  (∀ n ks lev l,Qj Tryz.prog wkT o1 a1 ⟨eW (wk1 n ks lev l),bx n ks⟩=some ⟨eW (wk2 n ks lev l),bx n ks⟩) ∧
  (∀ n ks lev l b,Qj Tryz.prog wkT o1 b1 ⟨eW (wk3 n ks lev l b),bx n ks⟩=some ⟨eW (wk4 n ks lev l b),bx n ks⟩) ∧
  (∀ L,Qj Tryz.prog wkT o2 o2.toList ⟨eW L,[]⟩=some ⟨(eW L).set 6 (.pv (.bool false)),[]⟩) ∧
  (∀ n ks lev l,Qj Tryz.prog wkT o3 o3.toList ⟨eW (wk4 n ks lev l true),bx n ks⟩=some ⟨eW (wk5 n ks lev l),bx n ks⟩) ∧
  (∀ ks lev l i,Qj Tryz.prog wkT o4 o4.toList ⟨eW (wl0 ks lev l i),[]⟩=some ⟨eW (wl1 ks lev l i),[]⟩) ∧
  (∀ ks lev l (i:Nat) n kk,ks[i]? = some (.mk n kk)->Qj Tryz.prog wkT o5 o5.toList ⟨eW (wl1 ks lev l i),[]⟩=some ⟨eW (wl5 ks lev l i n kk),bx n kk⟩) ∧
  (∀ ks lev l i n kk,Qj Tryz.prog wkT o6 a6 ⟨eW (wl5 ks lev l i n kk),bx n kk⟩=some ⟨eW (wl6 ks lev l i n kk),bx n kk⟩) ∧
  (∀ ks lev l i b,Qj Tryz.prog wkT o6 b6 ⟨eW (wl7 ks lev l i b),[]⟩=some ⟨eW (wl8 ks lev l i b),[]⟩) ∧
  (∀ L,Qj Tryz.prog wkT o7 o7.toList ⟨eW L,[]⟩=some ⟨(eW L).set 6 (.pv (.bool false)),[]⟩) ∧
  (∀ ks lev l i,Qj Tryz.prog wkT o8 o8.toList ⟨eW (wl0 ks lev l i),[]⟩=some ⟨eW (wl9 ks lev l i),[]⟩) ∧
  (∀ L,Qj Tryz.prog wkT o9 o9.toList ⟨eW L,[]⟩=some ⟨(eW L).set 6 (.pv (.bool true)),[]⟩):=by
 refine⟨_,_,_,_,_,_,_,_,_,_,[_,_,_],[_],[_,_,_,_],[_],_,_,_,_,rfl,rfl,rfl,rfl,rfl,rfl,rfl,rfl,rfl,?_,?_,?_,?_,?_,?_,?_,?_,?_,?_,?_,?_⟩
 ·intro n ks lev l;kernel_rfl
 ·intro n ks lev l;kernel_rfl
 ·intro n ks lev l b;kernel_rfl
 ·intro L;kernel_rfl
 ·intro n ks lev l;kernel_rfl
 ·intro ks lev l i;kernel_rfl
 ·intro ks lev l i n kk h
  unfold Qj
  refine(Option.bind_eq_some_iff).2 ⟨_,(show Yu _ _ _ _=some [⟨some 19,.iaddr 10 (.t 15) (.t 17),0,none⟩,⟨some 20,.load true [.int .i64,.int .i64,.str,.int .i64,.str,.sl 1,.sl 1,.sl 2,.sl 1,.sl 10] (.t 19),0,none⟩,⟨some 8,.alloc (.agg [.int .i64 0,.int .i64 0,.str [],.int .i64 0,.str [],.sl 0 true [],.sl 0 true [],.sl 0 true [],.sl 0 true [],.sl 0 true []]),0,none⟩,⟨none,.store 10 (.t 8) (.t 20),1,none⟩] by kernel_rfl),?_⟩
  have hk:(ks.map (enc:Tm->PV))[i]? = some (.agg (ndC n kk)):=by
   rw[List.getElem?_map,h,Option.map_some,Zx];rfl
  refine(FH (t:=false) (xs:=ks.map enc) (k:=.i64) (n:=i) rfl rfl hk).trans ?_
  kernel_rfl
 ·intro ks lev l i n kk;kernel_rfl
 ·intro ks lev l i b;kernel_rfl
 ·intro L;kernel_rfl
 ·intro ks lev l i;kernel_rfl
 ·intro L;kernel_rfl
def encNd(x:Tm×Int):List PV:=[enc x.1,.int .i64 x.2]
def OZ(J:Nat->Zp->(Nat->Prop)->World->Prop)(Jx:Zp->(Nat->Prop)->World->Prop)(k:Nat)(Φ:Zp)(X:Nat->Prop)(W:World)(e:Ending)(W':World):Prop:=
 ∃ Φ',Φ.le Φ'∧(∀ b,X b->W'.heap[b]? = W.heap[b]?)∧((e = .returned (.bool true)∧J k Φ' X W')∨(e = .returned (.bool false)∧Jx Φ' X W'))
theorem Qa(a b:List Tm):Zo (a++b)=Zo a+Zo b:=by rw[Jc,Jc,Jc,List.map_append,List.sum_append]
theorem Lh(l:Nat)(a b:List Tm):ZF l (a++b)=ZF l a++ZF l b:=by rw[Qq,Qq,Qq,List.flatMap_append]
theorem FQ{ks:List Tm}{k:Tm}(h:k∈ks):Zl k<=Zo ks:=by
 induction ks with
 | nil=>cases h
 | cons a ks ih=>
  rw[Zo]
  rcases List.mem_cons.1 h with rfl|h
  ·omega
  ·have:=ih h;omega
theorem a4a(t:Tm):1<=Zl t:=by cases t;rw[Zl];omega
theorem LZ(ks:List Tm):ks.length<=Zo ks:=by
 induction ks with
 | nil=>simp
 | cons a ks ih=>have:=a4a a;rw[Zo,List.length_cons];omega
theorem JX(n:Nd)(ks:List Tm):Oe (bx n ks):=by
 intro l o h ty sz xs e
 subst e
 match l,h with
 | 0,h=>cases h
 | l+1,h=>simp[bx]at h
theorem Uw:Oe []:=by
 intro l o h
 simp at h
theorem Qr{Φ:Zp}{W:World}{a:Act}{env:List AV}(hg:GlobOK Φ)(hp:Ya Φ W)(he:Yx (fun _ _=>none) Φ a.tmps env)(hd:a.defers=[]):Xo (entry (fun _ _=>none) Φ [] W) ⟨env,[]⟩ a W:=⟨_,Φ,WC hg hp,he,hd⟩
theorem WG{μ':Mu}{Φ Φ':Zp}{σ':Zn}{W W':World}{X:Nat->Prop}(j1:Go.Pl.Good (entry (fun _ _=>none) Φ [] W) μ' Φ' σ' W')(hs:Oe σ')(hx : ∀ b,X b->b<W.heap.size∧Φ b=none):
  Go.Pl.Steps X X Φ Φ' W W'∧(∀ b,X b->W'.heap[b]? = W.heap[b]?):=by
 obtain⟨h1,h2,h3⟩:=SY j1 hs hx
 exact⟨h1.drop fun b h=>.inl h,h2⟩
theorem UZ{μ:Mu}{Φ:Zp}{a:Act}{env:List AV}{x:Operand}{y:IOp}{b:Bool}(h:Yx μ Φ a.tmps env)(hx:ZQ x=some y)(he:ev env y = .pv (.bool b)):a.eval x = .bool b:=by
 have:=ZB h hx
 rw[he]at this
 generalize a.eval x=v at this ⊢
 cases ZP this
 rfl
theorem c5v{μ:Mu}{Φ:Zp}{a:Act}{env:List AV}{x:Operand}{y:IOp}{k:IntKind}{n:Int}(h:Yx μ Φ a.tmps env)(hx:ZQ x=some y)(he:ev env y = .pv (.int k n)):a.eval x = .int k n:=by
 have:=ZB h hx
 rw[he]at this
 generalize a.eval x=v at this ⊢
 cases ZP this
 rfl
theorem F8{μ:Mu}{Φ:Zp}{a:Act}{env:List AV}{x:Operand}{y:IOp}{l:Nat}(h:Yx μ Φ a.tmps env)(hx:ZQ x=some y)(he:ev env y = .yld l):a.eval x = .func (.yield l) #[] #[]:=by
 have:=ZB h hx
 rw[he]at this
 generalize a.eval x=v at this ⊢
 cases this
 rfl
theorem a0l{μ:Mu}{Φ:Zp}{a:Act}{env:List AV}{x:Operand}{y:IOp}{p:PV}(h:Yx μ Φ a.tmps env)(hx:ZQ x=some y)(he:ev env y = .pv p):RP Φ (a.eval x) p:=by
 have:=ZB h hx
 rw[he]at this
 exact ZP this
theorem c9w{id:Nat}{ops:Array Oper}{b:Bool}{Q:Yr}{a:Act}{w:World}{Φ:Zp}{X:Nat->Prop}{J:Zp->(Nat->Prop)->World->Prop}(hJ:JOK J)(hj:J Φ X w)(hd:a.defers=[])(hsz:a.tmps.size=28)
  (h : ∀ L,Qj Tryz.prog wkT ops ops.toList ⟨eW L,[]⟩=some ⟨(eW L).set 6 (.pv (.bool b)),[]⟩)
  (hQ : ∀ (a':Act) w' Φ',a'.defers=[]->a'.tmps.getD 6 undef = .bool b->Φ.le Φ'->(∀ b,X b->w'.heap[b]? = w.heap[b]?)->J Φ' X w'->Q .ret a' w'):((Code.region id ops false).seq .ret).wpIn (Yl none) 4 Tryz.prog Q a w:=by
 refine wpIn_seq (Gg Zh (h []) (Qr (hJ.glob hj) (hJ.phi hj) (RQ (L:=[]) (n:=28) hsz (fun p hp=>by cases hp)) hd) ?_)
 rintro a' w' ⟨μ',Φ',hg,he,hd'⟩
 refine wpIn_ret ?_
 obtain⟨s1,s2⟩:=WG hg Uw (fun b hb=>hJ.out hj hb)
 exact hQ a' w' Φ' hd' (UZ (x:=.tmp 6) (y:=.t 6) he rfl (by cases b <;> kernel_rfl)) hg.Φle s2 (hJ.step hj s1)
theorem d2g{Φ:Zp}{v:Value}{n:Nd}{ks:List Tm}{lev:Nat}{l:Nat}(hv:RP Φ v (.agg (ndC n ks))):Yx (fun _ _=>none) Φ (#[v,.int .i64 lev,.func (.yield l) #[] #[]]++Array.replicate 25 undef) (eW (wk0 n ks lev l)):=by
 refine RQ (by simp) ?_
 intro q hq u hu
 simp only[wk0,List.mem_cons,List.not_mem_nil,or_false]at hq
 rcases hq with rfl|rfl|rfl
 ·simp[Array.getElem?_append]at hu
  subst hu
  exact .pv _ _ hv
 ·simp[Array.getElem?_append]at hu
  subst hu
  exact .pv _ _ (.int _ _)
 ·simp[Array.getElem?_append]at hu
  subst hu
  exact .yld l
theorem Ol{μ:Mu}{Φ:Zp}{t:Array Value}{L:List (Nat×AV)}(h:Yx μ Φ t (eW L)):t.size=28:=(CG (n:=28) h).1
set_option maxHeartbeats 4000000 in
theorem c1e{l:Nat}{J:Nat->Zp->(Nat->Prop)->World->Prop}{Jx:Zp->(Nat->Prop)->World->Prop}{xs:List (Tm×Int)}(hJok : ∀ k,JOK (J k))(hJxok:JOK Jx)(hY:a1x Tryz.prog l encNd xs J Jx):
  ∀ (m:Nat) (t:Tm),SizeOf.sizeOf t<m-> ∀ (lev k:Nat) (Φ:Zp) (X:Nat->Prop) (W:World) (v:Value),J k Φ X W->RP Φ v (enc t)->(∀ i x,(Zm lev t)[i]? = some x->xs[k+i]? = some x)->lev+Zl t<=4611686018427387904 ->
   Calls Tryz.prog 81 #[v,.int .i64 lev,.func (.yield l) #[] #[]] W (OZ J Jx (k+Zl t) Φ X W):=by
 intro m
 induction m with
 | zero=>intro t h;omega
 | succ m ih=>
  intro t ht lev k Φ X W v hj hv hx hlev
  obtain⟨n,ks⟩:=t
  obtain⟨o0,o1,o2,o3,o4,o5,o6,o7,o8,o9,a1,b1,a6,b6,y,c,t1,t2,hbody,e1,y1,y2,y3,e6,c1,c2,c3,h0,h1,h1b,h2,h3,h4,h5,h6,h6b,h7,h8,h9⟩:=c5r
  rw[Zx]at hv
  refine callsIn_wide.1 (callsIn_of_wp (F:=Fence.wide) (n:=4) Tryz.func81 hbody trivial ?_ rfl)
  have hE0:Yx (fun _ _=>none) Φ (#[v,.int .i64 lev,.func (.yield l) #[] #[]]++Array.replicate 25 undef) (eW (wk0 n ks lev l)):=d2g hv
  have hX0 : ∀ b,X b->b<W.heap.size∧Φ b=none:=fun b hb=>(hJok k).out hj hb
  refine wpIn_seq (Gg (nn:=4) Zh (h0 n ks lev l) (Qr ((hJok k).glob hj) ((hJok k).phi hj) hE0 rfl) ?_)
  intro a w hr
  refine wpIn_seq (wpIn_seq (wpIn_region_list ?_))
  rw[e1]
  refine KR Zh (fun o ho=>by rw[e1];simp[ho]) (h1 n ks lev l) hr ?_
  rintro a2 w2 ⟨μ2,Φ2,hg2,he2,hd2⟩
  obtain⟨s2,k2,n2⟩:=SY hg2 (JX n ks) hX0
  have hj2:=(hJok k).step hj s2
  have hx0:xs[k]? = some (.mk n ks,(lev:Int)):=hx 0 _ (by rw[Zm];rfl)
  have r10:RP Φ2 (a2.eval (.tmp 10)) (enc (Tm.mk n ks)):=by
   rw[Zx]
   exact a0l he2 (y:=.t 10) rfl (by kernel_rfl)
  have r11:RP Φ2 (a2.eval (.tmp 11)) (.int .i64 lev):=a0l he2 (y:=.t 11) rfl (by kernel_rfl)
  have hvs:Xh Φ2 (#[a2.eval (.tmp 10),a2.eval (.tmp 11)]:Array Value).toList (encNd (.mk n ks,(lev:Int))):=a5w r10 (a5w r11 EL)
  refine a9t y1 y2 y3 (F8 he2 (y:=.t 9) rfl (by kernel_rfl)) (vs:=#[a2.eval (.tmp 10),a2.eval (.tmp 11)]) (by simp) (hY 3 k _ Φ2 _ w2 _ hx0 hj2 hvs) ?_
  rintro e w3 ⟨Φ3,hle3,hkeep3,hres⟩
  -- both answers
  have both : ∀ (b:Bool) (JJ:Zp->(Nat->Prop)->World->Prop),JOK JJ->JJ Φ3 (fun b=>X b∨Gw μ2 (bx n ks) b) w3-> 
    Xo (entry μ2 Φ3 (bx n ks) w3) ⟨eW (wk3 n ks lev l b),bx n ks⟩ (a2.put (some 12) (.bool b)) w3:=by
   intro b JJ hJJ hjj
   refine⟨μ2,Φ3,hg2.moved (hJJ.glob hjj) hle3 (hJJ.phi hjj) (fun q hq=>hkeep3 q (.inr hq)) (fun q hq=>(hJJ.out hjj (.inr hq)).2) (JX n ks),?_,by rw[Xi];exact hd2⟩
   have:=Qh (d:=some 12) (he2.mono (.refl _) hle3) (.pv _ _ (.bool b))
   exact this
  have fin : ∀ (b:Bool) (a':Act) (w':World) (Φ':Zp),a'.defers=[]->a'.tmps.getD 6 undef = .bool b->(OZ J Jx (k+Zl (.mk n ks)) Φ X W (.returned (.bool b)) w')->bodyPost Tryz.prog Tryz.f81 (OZ J Jx (k+Zl (.mk n ks)) Φ X W) .ret a' w':=by
   intro b a' w' Φ' hd h6 hp
   refine bodyPost_ret (results_tmp rfl _ _ _) hd ?_
   rw[h6]
   exact hp
  rcases hres with ⟨rfl,hj3⟩|⟨rfl,hj3⟩
  ·refine⟨_,rfl,?_⟩
   rw[<- List.append_nil b1]
   refine KR Zh (fun o ho=>by rw[e1];simp[ho]) (h1b n ks lev l true) (both true _ (hJok _) hj3) ?_
   intro a4 w4 hr4
   have he4:=hr4
   obtain⟨μ4,Φ4,hg4,he4,hd4⟩:=he4
   refine wpIn_cond (t:=false) (UZ (x:=.tmp 13) (y:=.t 13) he4 rfl (by kernel_rfl)) (wpIn_skip ?_)
   refine wpIn_seq (wpIn_seq (Gg (nn:=4) Zh (h3 n ks lev l) hr4 ?_))
   rintro a5 w5 ⟨μ5,Φ5,hg5,he5,hd5⟩
   have hX3 : ∀ b,X b->b<w3.heap.size∧Φ3 b=none:=fun b hb=>(hJok _).out hj3 (.inl hb)
   obtain⟨s5,k5⟩:=GQ hg5 (JX n ks) hX3 n2
   have hj5:=(hJok _).step hj3 (s5.drop (Y:=X) fun b h=>.inl h)
   have hk5 : ∀ b,X b->w5.heap[b]? = W.heap[b]? :=fun b hb=>(k5 b hb).trans ((hkeep3 b (.inl hb)).trans (k2 b hb))
   have hle5:Φ.le Φ5:=hg2.Φle.trans (hle3.trans hg5.Φle)
   have he5':Yx (fun _ _=>none) Φ5 a5.tmps (eW (wl0 ks lev l 0)):=c2j (n:=28) he5 (.refl _) (by
    intro p hp
    simp only[wl0,List.mem_cons,List.not_mem_nil,or_false]at hp
    rcases hp with rfl|rfl|rfl|rfl|rfl <;> exact⟨by simp,rfl,rfl⟩)
   clear both hr4 hg4 he4 hd4 hE0 hr hg2 he2 hd2 r10 r11 hvs
   refine wpIn_block (wpIn_loop_ghost (fun(z:Nat) (a:Act) (w:World)=> ∃ (i:Nat) (Φ':Zp),z=ks.length - i∧i<=ks.length∧Φ.le Φ'∧(∀ b,X b->w.heap[b]? = W.heap[b]?)∧J (k+1+Zo (ks.take i)) Φ' X w∧Yx (fun _ _=>none) Φ' a.tmps (eW (wl0 ks lev l i))∧a.defers=[]) _
    ⟨0,Φ5,rfl,Nat.zero_le _,hle5,hk5,hj5,he5',hd5⟩ ?_)
   clear hj5 hk5 hle5 he5' hd5 s5 k5 hg5 he5
   rintro z a w ⟨i,Φi,rfl,hi,hle,hk,hj,he,hd⟩
   have hXi : ∀ b,X b->b<w.heap.size∧Φi b=none:=fun b hb=>(hJok _).out hj hb
   refine wpIn_seq (Gg (nn:=4) Zh (h4 ks lev l i) (Qr ((hJok _).glob hj) ((hJok _).phi hj) he hd) ?_)
   intro a7 w7 hr7
   have hr7':=hr7
   obtain⟨μ7,Φ7,hg7,he7,hd7⟩:=hr7'
   by_cases hlt:i<ks.length
   ·have hb:decide ((i:Int)<((ks.map (enc:Tm->PV)).length:Int))=true:=by simpa using hlt
    refine wpIn_seq (wpIn_cond (t:=true) (UZ (x:=.tmp 18) (y:=.t 18) he7 rfl (by rw[<- hb];kernel_rfl)) (wpIn_skip ?_))
    obtain⟨kn,kk,hkk⟩ : ∃ kn kk,ks[i]? = some (.mk kn kk):=by
     cases hki:ks[i]with
     | mk kn kk=>exact⟨kn,kk,by rw[List.getElem?_eq_getElem hlt,hki]⟩
    refine wpIn_seq (wpIn_block (wpIn_seq (Gg (nn:=4) Zh (h5 ks lev l i kn kk hkk) hr7 ?_)))
    intro a8 w8 hr8
    refine wpIn_seq (wpIn_region_list ?_)
    rw[e6]
    refine KR Zh (fun o ho=>by rw[e6];simp[ho]) (h6 ks lev l i kn kk) hr8 ?_
    rintro a9 w9 ⟨μ9,Φ9,hg9,he9,hd9⟩
    obtain⟨s9,k9⟩:=WG hg9 (JX kn kk) hXi
    have hj9:=(hJok _).step hj s9
    have hmem:Tm.mk kn kk∈ks:=List.mem_of_getElem? hkk
    have hsz:=FJ (n:=n) hmem
    have hdm:=FQ hmem
    have hdp:Zl (.mk n ks)=Zo ks+1:=by rw[Zl]
    have hkl:=LZ ks
    have hcut:ks=ks.take i++(.mk kn kk)::ks.drop (i+1):=by
     have h:=List.getElem?_eq_some_iff.1 hkk
     obtain⟨h1,h2⟩:=h
     rw[<- h2,List.getElem_cons_drop,List.take_append_drop]
    have r21:RP Φ9 (a9.eval (.tmp 21)) (enc (Tm.mk kn kk)):=by
     rw[Zx]
     exact a0l he9 (y:=.t 21) rfl (by kernel_rfl)
    have e23:a9.eval (.tmp 23) = .int .i64 ((lev+1:Nat):Int):=by
     have:=c5v (x:=.tmp 23) (y:=.t 23) he9 rfl (by kernel_rfl:_=AV.pv (.int .i64 (IntKind.i64.wrap ((lev:Int)+1))))
     rw[this,next (by omega)]
    have e24:a9.eval (.tmp 24) = .func (.yield l) #[] #[]:=F8 he9 (y:=.t 24) rfl (by kernel_rfl)
    have hxk : ∀ j x,(Zm (lev+1) (.mk kn kk))[j]? = some x->xs[k+1+Zo (ks.take i)+j]? = some x:=by
     intro j x hjx
     have:(Zm lev (.mk n ks))[1+Zo (ks.take i)+j]? = some x:=by
      rw[Zm,show 1+Zo (ks.take i)+j=(Zo (ks.take i)+j)+1 by omega,List.getElem?_cons_succ,hcut,Lh,ZF,<- hcut,<- KP (lev+1) (ks.take i),
       List.getElem?_append_right (by omega),Nat.add_sub_cancel_left,List.getElem?_append_left (List.getElem?_eq_some_iff.1 hjx).1,hjx]
     have:=hx _ _ this
     rw[<- this]
     congr 1
     omega
    have hcall:=ih (.mk kn kk) (by omega) (lev+1) (k+1+Zo (ks.take i)) Φ9 X w9 _ hj9 r21 hxk (by omega)
    refine La c1 c2 c3 Tryz.func81 rfl (by kernel_rfl) (vs:=#[a9.eval (.tmp 21),.int .i64 ((lev+1:Nat):Int),.func (.yield l) #[] #[]]) (by simp only[List.map_toArray,List.map_cons,List.map_nil,e23,e24]) hcall ?_
    rintro e w10 ⟨Φ10,hle10,hkeep10,hres⟩
    have hks : ∀ b,X b->w10.heap[b]? = W.heap[b]? :=fun b hb=>(hkeep10 b hb).trans ((k9 b hb).trans (hk b hb))
    have he10 : ∀ b,Yx (fun _ _=>none) Φ10 (a9.put (some 25) (.bool b)).tmps (eW (wl7 ks lev l i b)):=by
     intro b
     have h:=Qh (d:=some 25) (he9.mono (.refl _) hle10) (.pv _ _ (.bool b))
     refine c2j (n:=28) (L:=wl6 ks lev l i kn kk++[(25,.pv (.bool b))]) h (.refl _) ?_
     intro p hp
     simp only[wl7,wl0,List.mem_cons,List.mem_append,List.not_mem_nil,or_false]at hp
     rcases hp with (rfl|rfl|rfl|rfl|rfl)|rfl <;> exact⟨by simp,rfl,rfl⟩
    have hsz10:ks.take (i+1)=ks.take i++[.mk kn kk]:=by rw[List.take_add_one,hkk];rfl
    rcases hres with ⟨rfl,hj10⟩|⟨rfl,hj10⟩
    ·refine⟨_,rfl,?_⟩
     rw[<- List.append_nil b6]
     refine KR Zh (fun o ho=>by rw[e6];simp[ho]) (h6b ks lev l i true) (Qr ((hJok _).glob hj10) ((hJok _).phi hj10) (he10 true) (by rw[Xi];exact hd9)) ?_
     intro a11 w11 hr11
     obtain⟨μ11,Φ11,hg11,he11,hd11⟩:=hr11
     obtain⟨s11,k11⟩:=WG hg11 Uw (fun b hb=>(hJok _).out hj10 hb)
     have hj11:=(hJok _).step hj10 s11
     refine wpIn_cond (t:=false) (UZ (x:=.tmp 26) (y:=.t 26) he11 rfl (by kernel_rfl)) (wpIn_skip ?_)
     have he11':Yx (fun _ _=>none) Φ11 a11.tmps (eW (wl0 ks lev l i)):=c2j (n:=28) he11 (.refl _) (by
      intro p hp
      simp only[wl0,List.mem_cons,List.not_mem_nil,or_false]at hp
      rcases hp with rfl|rfl|rfl|rfl|rfl <;> exact⟨by simp,rfl,rfl⟩)
     refine Gg (nn:=4) Zh (h8 ks lev l i) (Qr ((hJok _).glob hj11) ((hJok _).phi hj11) he11' hd11) ?_
     rintro a12 w12 ⟨μ12,Φ12,hg12,he12,hd12⟩
     obtain⟨s12,k12⟩:=WG hg12 Uw (fun b hb=>(hJok _).out hj11 hb)
     have hj12:=(hJok _).step hj11 s12
     refine⟨ks.length - (i+1),by omega,i+1,Φ12,rfl,hlt,hle.trans (hg9.Φle.trans (hle10.trans (hg11.Φle.trans hg12.Φle))),fun b hb=>(k12 b hb).trans ((k11 b hb).trans (hks b hb)),?_,?_,hd12⟩
     ·rw[hsz10,Qa,Zo,Zo,Nat.add_zero,<- Nat.add_assoc]
      exact hj12
     ·refine c2j (n:=28) he12 (.refl _) ?_
      intro p hp
      simp only[wl0,List.mem_cons,List.not_mem_nil,or_false]at hp
      rcases hp with rfl|rfl|rfl|rfl|rfl
      ·exact⟨by simp,by rw[<- next (show i<9223372036854775807 by omega)];rfl,rfl⟩
      all_goals exact⟨by simp,rfl,rfl⟩
    ·refine⟨_,rfl,?_⟩
     rw[<- List.append_nil b6]
     refine KR Zh (fun o ho=>by rw[e6];simp[ho]) (h6b ks lev l i false) (Qr (hJxok.glob hj10) (hJxok.phi hj10) (he10 false) (by rw[Xi];exact hd9)) ?_
     rintro a11 w11 ⟨μ11,Φ11,hg11,he11,hd11⟩
     obtain⟨s11,k11⟩:=WG hg11 Uw (fun b hb=>hJxok.out hj10 hb)
     have hj11:=hJxok.step hj10 s11
     refine wpIn_cond (t:=true) (UZ (x:=.tmp 26) (y:=.t 26) he11 rfl (by kernel_rfl)) ?_
     refine c9w hJxok hj11 hd11 (Ol he11) h7 ?_
     intro a' w' Φ' hd' h6' hle' hk' hj'
     refine fin false a' w' Φ' hd' h6' ⟨Φ',?_,fun b hb=>(hk' b hb).trans ((k11 b hb).trans (hks b hb)),.inr ⟨rfl,hj'⟩⟩
     exact hle.trans (hg9.Φle.trans (hle10.trans (hg11.Φle.trans hle')))
   ·have hb:decide ((i:Int)<((ks.map (enc:Tm->PV)).length:Int))=false:=by simpa using hlt
    refine wpIn_seq (wpIn_cond (t:=false) (UZ (x:=.tmp 18) (y:=.t 18) he7 rfl (by rw[<- hb];kernel_rfl)) (wpIn_exit ?_))
    obtain⟨s7,k7⟩:=WG hg7 Uw hXi
    have hj7:=(hJok _).step hj s7
    have hii:i=ks.length:=by omega
    subst hii
    rw[List.take_length]at hj7
    show((Code.region 9 o9 false).seq .ret).wpIn _ _ _ _ _ _
    refine c9w (hJok _) hj7 hd7 (Ol he7) h9 ?_
    intro a' w' Φ' hd' h6' hle' hk' hj'
    refine fin true a' w' Φ' hd' h6' ⟨Φ',hle.trans (hg7.Φle.trans hle'),fun b hb=>(hk' b hb).trans ((k7 b hb).trans (hk b hb)),.inl ⟨rfl,?_⟩⟩
    rw[Zl,show k+(Zo ks+1)=k+1+Zo ks by omega]
    exact hj'
  ·refine⟨_,rfl,?_⟩
   rw[<- List.append_nil b1]
   refine KR Zh (fun o ho=>by rw[e1];simp[ho]) (h1b n ks lev l false) (both false _ hJxok hj3) ?_
   rintro a4 w4 ⟨μ4,Φ4,hg4,he4,hd4⟩
   refine wpIn_cond (t:=true) (UZ (x:=.tmp 13) (y:=.t 13) he4 rfl (by kernel_rfl)) ?_
   obtain⟨s4,k4⟩:=GQ hg4 (JX n ks) (fun b hb=>hJxok.out hj3 (.inl hb)) n2
   have hj4:=hJxok.step hj3 (s4.drop (Y:=X) fun b h=>.inl h)
   refine c9w hJxok hj4 hd4 (Ol he4) h2 ?_
   intro a' w' Φ' hd' h6' hle' hk' hj'
   exact fin false a' w' Φ' hd' h6' ⟨Φ',hg2.Φle.trans (hle3.trans (hg4.Φle.trans hle')),fun b hb=>(hk' b hb).trans ((k4 b hb).trans ((hkeep3 b (.inl hb)).trans (k2 b hb))),.inr ⟨rfl,hj'⟩⟩
def d1y(pss:List (List PV)):Tm:=match pss with
 | [ps]=>dec (.agg ps)
 | _=>.mk EE []
noncomputable def pre_ndI(pss:List (List PV)):Bool:=match pss with
 | [ps]=>L6 Tm (.agg ps)&&decide (Zl (dec (.agg ps))<=1048576)
 | _=>false
def F_ndI(pss:List (List PV)):List (Tm×Int):=Zm 1 (d1y pss)
theorem tmOf_nd(n:Nd)(ks:List Tm):d1y [ndC n ks] = .mk n ks:=by
 show dec (PV.agg (ndC n ks))=_
 rw[show(PV.agg (ndC n ks))=enc (Tm.mk n ks)from(Zx n ks).symm,Enc.dec_enc]
theorem pre_nd{n:Nd}{ks:List Tm}(h:Zl (.mk n ks)<=1048576):pre_ndI [ndC n ks]=true:=by
 show(L6 Tm (.agg (ndC n ks))&&decide (Zl (dec (PV.agg (ndC n ks)))<=1048576))=true
 rw[show(PV.agg (ndC n ks))=enc (Tm.mk n ks)from(Zx n ks).symm,Enc.dec_enc,Vi,Bool.true_and]
 exact decide_eq_true h
theorem c6k: ∃ (o:Array Oper) (a:List Oper) (c:Oper) (t:Array TypeId),Tryz.f80.body=some (.region 0 o false)∧o.toList=a++[c] ∧
  c.op = .call {callee:=.value (.func 81),args:=#[.tmp 3,.const (.int .i64 1),.tmp 4],argTypes:=t}∧c.guard=none∧c.dst=some 5 ∧
  ∀ n ks l,Qj Tryz.prog wkT o a ⟨ZE 6 0 [(0,.yld l),(1,.pv (.rptr (ndC n ks)))],[]⟩=some ⟨ZE 6 0 [(0,.yld l),(1,.pv (.rptr (ndC n ks))),(3,.pv (.agg (ndC n ks))),(4,.yld l)],[]⟩:=by
 refine⟨_,[_,_],_,_,rfl,rfl,rfl,rfl,rfl,?_⟩
 intro n ks l
 kernel_rfl
set_option maxHeartbeats 1000000 in
theorem QO:b5g Tryz.prog 80 encNd pre_ndI F_ndI:=by
 refine⟨⟨_,Tryz.func80,rfl,rfl⟩,?_⟩
 intro pss hpre Φ0 lb l J Jx W hcaps hJok hJxok hY h0
 unfold pre_ndI at hpre
 split at hpre
 ·rename_i ps
  simp only[Bool.and_eq_true,decide_eq_true_eq]at hpre
  obtain⟨hc,hsz⟩:=hpre
  obtain⟨t,ht⟩:=RO hc
  obtain⟨n,ks⟩:=t
  rw[ht,Enc.dec_enc]at hsz
  rw[Zx]at ht
  obtain rfl:ps=ndC n ks:=by injection ht
  have hF:F_ndI [ndC n ks]=Zm 1 (.mk n ks):=by unfold F_ndI;rw[tmOf_nd]
  rw[hF]at hY ⊢
  obtain⟨lb⟩:=lb
  match lb,hcaps.1 with
  | [p1],_=>
   obtain⟨B1,c1,rfl,g1,r1,o1⟩:=hcaps.2 0 p1 _ rfl rfl
   have k1:=a4v g1 r1 o1
   obtain⟨o,a,c,t,hbody,e1,c1,c2,c3,hgo⟩:=c6k
   refine callsIn_wide.1 (callsIn_of_wp (F:=Fence.wide) (n:=4) Tryz.func80 hbody trivial ?_ rfl)
   have hE:Yx (fun _ _=>none) Φ0 ((#[Value.func (.yield l) #[] #[]]++ #[Value.pointer (some ⟨B1,0,none⟩)])++Array.replicate 4 undef) (ZE 6 0 [(0,.yld l),(1,.pv (.rptr (ndC n ks)))]):=by
    refine RQ (by simp) ?_
    intro q hq u hu
    simp only[List.mem_cons,List.not_mem_nil,or_false]at hq
    rcases hq with rfl|rfl
    ·simp[Array.getElem?_append]at hu
     subst hu
     exact .yld l
    ·simp[Array.getElem?_append]at hu
     subst hu
     exact .pv _ _ k1
   refine wpIn_region_list ?_
   rw[e1]
   refine KR (nn:=4) Zh (fun x hx=>by rw[e1];simp[hx]) (hgo n ks l) (Qr ((hJok 0).glob h0) ((hJok 0).phi h0) hE rfl) ?_
   rintro a2 w2 ⟨μ2,Φ2,hg2,he2,hd2⟩
   obtain⟨s2,k2⟩:=WG (X:=fun _=>False) hg2 Uw (fun b hb=>hb.elim)
   have hj2:=(hJok _).step h0 s2
   have r3:RP Φ2 (a2.eval (.tmp 3)) (enc (Tm.mk n ks)):=by
    rw[Zx]
    exact a0l he2 (y:=.t 3) rfl (by kernel_rfl)
   have e4:a2.eval (.tmp 4) = .func (.yield l) #[] #[]:=F8 he2 (y:=.t 4) rfl (by kernel_rfl)
   have hcall:=c1e hJok hJxok hY (SizeOf.sizeOf (Tm.mk n ks)+1) (.mk n ks) (Nat.lt_succ_self _) 1 0 Φ2 _ w2 _ hj2 r3 (fun i x h=>by rw[Nat.zero_add];exact h) (by omega)
   refine La c1 c2 c3 Tryz.func81 rfl (by kernel_rfl) (vs:=#[a2.eval (.tmp 3),.int .i64 ((1:Nat):Int),.func (.yield l) #[] #[]]) (by simp only[List.map_toArray,List.map_cons,List.map_nil,e4];rfl) hcall ?_
   rintro e w3 ⟨Φ3,hle3,hkeep3,hres⟩
   have fin : ∀ v,(∃ Φ' X',J (Zm 1 (.mk n ks)).length Φ' X' w3∨Jx Φ' X' w3)->wpListIn (Yl none) 4 Tryz.prog o (bodyPost Tryz.prog Tryz.f80 fun e W'=>(∃ v,e = .returned v)∧ ∃ Φ' X',(J (Zm 1 (.mk n ks)).length Φ' X' W'∨Jx Φ' X' W')) [] (a2.put (some 5) v) w3:=by
    intro v hv
    exact⟨by rw[Xi];exact hd2,_,results_none rfl _ _ _,⟨_,rfl⟩,hv⟩
   rcases hres with ⟨rfl,hj3⟩|⟨rfl,hj3⟩
   ·refine⟨_,rfl,fin _ ⟨Φ3,fun _=>False,.inl ?_⟩⟩
    rw[Xt,<- Nat.zero_add (Zl _)]
    exact hj3
   ·exact⟨_,rfl,fin _ ⟨Φ3,_,.inr hj3⟩⟩
 ·cases hpre
end Go.Proofs.YtgdebdgkofkeeaaGreatDoor
namespace Go.Pl
open Go.RowKit
open Enc (enc dec is)
open EncL (encL decL isL)
open Go.Proofs.YtgdebdgkofkeeaaGreatDoor (encNd pre_ndI F_ndI tmOf_nd pre_nd)
theorem a9a: ∀ args os,Yf args os=true->Ze Fs os.length (Yd os.length RF fun r=>r=YH 80 args os) TR [] (XY c2u args os):=by
 intro args os h
 unfold Yf at h
 split at h
 ·obtain⟨⟨n,ks⟩,rfl⟩:=RO h
  rw[Zx]
  exact c7y n ks rfl
 ·cases h
def tvI(t:Tm)(k:Nat)(σ:Zn):Prop:=(∀ j p,j<k->(Zm 1 t)[j]? = some p->okN j p=true)∧k<=400∧σ=[.obj (.box [.pv (.bool false)]),.obj (.box [.pv (.int .i64 k)])]
def tvX(t:Tm)(σ:Zn):Prop:=VB t=false∧ ∃ (c:Int) (r:List Slot),σ = .obj (.box [.pv (.bool false)]):: .obj (.box [.pv (.int .i64 c)])::r
def tvE:YJ:=fun n st q=>n=0∧Gv KC 0 (.t 7) 80 [8,9] C9 Bp encNd pre_ndI F_ndI st q
def tvM(t:Tm)(k:Nat)(x:Tm×Int)(st:St):Prop:=(∀ j p,j<k->(Zm 1 t)[j]? = some p->okN j p=true)∧k<=400 ∧
 st=⟨ZE 23 0 [(2,.ptr 0 0),(3,.ptr 1 0),(4,.ptr 2 0),(5,.pv (.int .i64 x.2))],[.obj (.box [.pv (.bool false)]),.obj (.box [.pv (.int .i64 k)]),.obj (.box ((Go.Proofs.YtgdebdgkofkeeaaGreatDoor.ndC x.1.nd x.1.ks).map .pv))]⟩
theorem b6d: ∀ x:Tm×Unit,tW x.1=true->Ve KC tvE 0 (Zb Jb (Zq (VB x.1))) H5 [] (Z7 c6j (encL x)):=by
 rintro⟨t,⟨⟩⟩ ht
 have ht:tW t=true:=ht
 obtain⟨n,ks⟩:=t
 rw[<- XJ]
 show Ve KC tvE 0 (Zb Jb (Zq (VB (.mk n ks)))) _ _ _
 have hsz:Zl (.mk n ks)<=1048576:=Nat.le_trans (VM _) (of_decide_eq_true ht)
 have hF:F_ndI [Go.Proofs.YtgdebdgkofkeeaaGreatDoor.ndC n ks]=Zm 1 (.mk n ks):=by unfold F_ndI;rw[tmOf_nd]
 refine d1i tvE n ks ⟨?_,rfl,[2],[Go.Proofs.YtgdebdgkofkeeaaGreatDoor.ndC n ks],[2,3],[2,3,4,5],[],⟨ZE 23 0 [(2,.ptr 0 0),(3,.ptr 1 0)],[.obj (.box [.pv (.bool false)]),.obj (.box [.pv (.int .i64 0)])]⟩,tvI (.mk n ks),tvX (.mk n ks),tvM (.mk n ks),
  rfl,by simp,rfl,?_,by kernel_rfl,pre_nd hsz,⟨fun j p hj=>by omega,by omega,rfl⟩,?_,?_,?_,?_⟩
 ·show L6 Tm (PV.agg (Go.Proofs.YtgdebdgkofkeeaaGreatDoor.ndC n ks))=true
  rw[show(PV.agg (Go.Proofs.YtgdebdgkofkeeaaGreatDoor.ndC n ks))=enc (Tm.mk n ks)from(Zx n ks).symm,Vi]
 ·intro j l ps hl hps
  match j with
  | 0=>cases hl;cases hps;rfl
  | j+1=>simp at hl
 ·rintro k ⟨⟨xn,xk⟩,v⟩ σ hx ⟨hall,hk,rfl⟩
  have e:QF [8,9] ((encNd (.mk xn xk,v)).map .pv) (ZE 23 0 [(2,.ptr 0 0),(3,.ptr 1 0)])=ZE 23 0 [(2,.ptr 0 0),(3,.ptr 1 0),(8,.pv (.agg (Go.Proofs.YtgdebdgkofkeeaaGreatDoor.ndC xn xk))),(9,.pv (.int .i64 v))]:=by
   show QF [8,9] (([enc (Tm.mk xn xk),.int .i64 v]).map .pv) _=_
   rw[Zx]
   kernel_rfl
  rw[e]
  exact c6y (G:=fun _=>False) _ xn xk k v ⟨rfl,hall,hk,rfl⟩
 ·rintro k ⟨⟨xn,xk⟩,v⟩ st hx ⟨hall,hk,rfl⟩
  rw[hF]at hx
  have hno:=fun h=>b2k (.mk n ks) hx h
  have hw:IntKind.i64.wrap ((k:Int)+1)=((k+1:Nat):Int):=next (by omega)
  refine c8t (G:=tvX (.mk n ks)) _ xn xk k v ?_
  rw[hw]
  have bad:okN k (.mk xn xk,v)=false-> ∀ r,tvX (.mk n ks) (.obj (.box [.pv (.bool false)]):: .obj (.box [.pv (.int .i64 ((k+1:Nat):Int))])::r):=fun h r=>⟨hno h,_,r,rfl⟩
  refine XZ (fun h1=>bad ?_ _) fun h1=>XZ (fun h2=>bad ?_ _) fun h2=>⟨Zc (.mk xn xk,()) (XJ xn xk) (Bn ht (List.mem_of_getElem? hx)),Zd (.mk xn xk,()) (XJ xn xk) (Qx (fun h3=>bad ?_ _) fun h3=>⟨rfl,⟨ZE 23 0 [(2,.ptr 0 0),(3,.ptr 1 0)],[.obj (.box [.pv (.bool false)]),.obj (.box [.pv (.int .i64 ((k+1:Nat):Int))])]⟩,by kernel_rfl,rfl,?_,?_,rfl⟩)⟩
  ·unfold okN;rw[decide_eq_false (show ¬ k<400 by omega)];rfl
  ·unfold okN;rw[decide_eq_false (show ¬ v<=40 by omega),Bool.and_false];rfl
  ·have h3:Ga (.mk xn xk)=false:=h3
   unfold okN;rw[h3,Bool.and_false]
  ·have h3:Ga (.mk xn xk)=true:=h3
   intro j p hj hp
   rw[Nat.lt_succ_iff_lt_or_eq]at hj
   rcases hj with hj|rfl
   ·exact hall j p hj hp
   ·rw[hx]at hp
    cases hp
    unfold okN
    rw[h3,decide_eq_true (show j<400 by omega),decide_eq_true (show v<=40 by omega)];rfl
  ·omega
 ·rintro σ ⟨hall,hk,rfl⟩
  refine c9a tvE n ks _ (ZC (a5j _ fun j p hp=>hall j p ?_ hp).symm)
  rw[hF]
  exact(List.getElem?_eq_some_iff.1 hp).1
 ·rintro σ ⟨hv,c,r,rfl⟩
  exact b9m tvE n ks c r (ZC hv.symm)
end Go.Pl
namespace Go.Pl
open Go.RowKit
open Enc (enc dec is)
open EncL (encL decL isL)
open Go.Proofs.YtgdebdgkofkeeaaGreatDoor (encNd pre_ndI F_ndI tmOf_nd pre_nd)
abbrev UD(n:Nd)(ks:List Tm):List PV:=Go.Proofs.YtgdebdgkofkeeaaGreatDoor.ndC n ks
def Vg(t:Tm):Int:=Zl t
def b7b(t:Tm)(k:Nat)(σ:Zn):Prop:=σ=[.obj (.box [.pv (.int .i64 (((Zm 1 t).take k).length:Int))])]
def d2e(t:Tm)(k:Nat)(x:Tm×Int)(st:St):Prop:=st=⟨ZE 11 0 [(3,.ptr 0 0)],[.obj (.box [.pv (.int .i64 (((Zm 1 t).take k).length:Int))])]⟩
def a5g:YJ:=fun n st q=>n=0∧Gv Qm 0 (.t 5) 80 [6,7] JD JE encNd pre_ndI F_ndI st q
theorem b8l: ∀ x:Tm×Unit,tW x.1=true->Ve Qm a5g 0 (Zb Ka (Zq (Vg x.1))) JA [] (Z7 c1g (encL x)):=by
 rintro⟨t,⟨⟩⟩ ht
 have ht:tW t=true:=ht
 obtain⟨n,ks⟩:=t
 rw[<- XJ]
 show Ve Qm a5g 0 (Zb Ka (Zq (Vg (.mk n ks)))) _ _ _
 have hsz:Zl (.mk n ks)<=1048576:=Nat.le_trans (VM _) (of_decide_eq_true ht)
 have hlen:(Zm 1 (.mk n ks)).length=Zl (.mk n ks):=Xt _ _
 have hF:F_ndI [UD n ks]=Zm 1 (.mk n ks):=by unfold F_ndI;rw[tmOf_nd]
 refine c6s a5g n ks ⟨?_,rfl,[1],[UD n ks],[3],[3],[],⟨ZE 11 0 [(3,.ptr 0 0)],[.obj (.box [.pv (.int .i64 0)])]⟩,b7b (.mk n ks),fun _=>False,d2e (.mk n ks),rfl,by simp,rfl,?_,by kernel_rfl,pre_nd hsz,rfl,?_,?_,?_,?_⟩
 ·show L6 Tm (PV.agg (UD n ks))=true
  rw[show(PV.agg (UD n ks))=enc (Tm.mk n ks)from(Zx n ks).symm,Vi]
 ·intro j l ps hl hps
  match j with
  | 0=>cases hl;cases hps;rfl
  | j+1=>simp at hl
 ·rintro k ⟨⟨xn,xk⟩,v⟩ σ hx hi
  unfold b7b at hi
  subst hi
  have e:QF [6,7] ((encNd (.mk xn xk,v)).map .pv) (ZE 11 0 [(3,.ptr 0 0)])=ZE 11 0 [(3,.ptr 0 0),(6,.pv (.agg (UD xn xk))),(7,.pv (.int .i64 v))]:=by
   show QF [6,7] (([enc (Tm.mk xn xk),.int .i64 v]).map .pv) _=_
   rw[Zx]
   kernel_rfl
  rw[e]
  exact b7q (G:=fun _=>False) _ xn xk _ v ⟨rfl,rfl⟩
 ·rintro k ⟨⟨xn,xk⟩,v⟩ st hx hst
  unfold d2e at hst
  subst hst
  rw[hF]at hx
  have hk:k<Zl (.mk n ks):=by rw[<- hlen];exact(List.getElem?_eq_some_iff.1 hx).1
  have ek:(Zm 1 (.mk n ks)).take (k+1)=(Zm 1 (.mk n ks)).take k++[(.mk xn xk,v)]:=by rw[List.take_add_one,hx];rfl
  refine b7d (G:=fun _=>False) _ xn xk _ v ⟨rfl,_,rfl,rfl,?_⟩
  unfold b7b
  rw[ek,List.length_append,next (by rw[List.length_take];omega)]
  rfl
 ·rintro σ hi
  unfold b7b at hi
  subst hi
  rw[hF,List.take_length]
  exact b6m a5g n ks _ (VW (by unfold Vg;rw[hlen]))
 ·exact fun σ h=>h.elim
def c2t(l:List Int):Int:=l.foldl (fun c v=>if v>c then v else c) 0
def KQ(t:Tm):Int:=ZI t
def mxF(c v:Int):Int:=if v>c then v else c
mutual
theorem NZ: ∀ (t:Tm) (l:Nat) (c:Int),((Zm l t).map (·.2)).foldl mxF c=max c ((l:Int)+ZI t - 1)
 | .mk n ks,l,c=>by
  rw[Zm,List.map_cons,List.foldl_cons,TB ks (l+1) (mxF c l) (by unfold mxF;split <;> omega),ZI]
  unfold mxF
  split <;> omega
theorem TB: ∀ (ks:List Tm) (l:Nat) (c:Int),(l:Int) - 1<=c->((ZF l ks).map (·.2)).foldl mxF c=max c ((l:Int)+ZV ks - 1)
 | [],l,c,h=>by rw[ZF,ZV];simp;omega
 | k::ks,l,c,h=>by
  rw[ZF,List.map_append,List.foldl_append,NZ k l c,TB ks l _ (by omega),ZV]
  omega
end
theorem c1p(t:Tm):c2t ((Zm 1 t).map (·.2))=KQ t:=by
 have h:=NZ t 1 0
 have hp:1<=ZI t:=by cases t;rw[ZI];omega
 show((Zm 1 t).map (·.2)).foldl mxF 0=_
 rw[h]
 unfold KQ
 omega
def c0t(t:Tm)(k:Nat)(σ:Zn):Prop:=σ=[.obj (.box [.pv (.int .i64 (c2t (((Zm 1 t).take k).map (·.2))))])]
def d3s(t:Tm)(k:Nat)(x:Tm×Int)(st:St):Prop:=st=⟨ZE 14 0 [(3,.ptr 0 0),(5,.pv (.int .i64 x.2))],[.obj (.box [.pv (.int .i64 (c2t (((Zm 1 t).take k).map (·.2))))])]⟩
def a3c:YJ:=fun n st q=>n=0∧Gv Qg 0 (.t 7) 80 [8,9] J6 JH encNd pre_ndI F_ndI st q
theorem b8v: ∀ x:Tm×Unit,tW x.1=true->Ve Qg a3c 0 (Zb Q6 (Zq (KQ x.1))) JG [] (Z7 b5z (encL x)):=by
 rintro⟨t,⟨⟩⟩ ht
 have ht:tW t=true:=ht
 obtain⟨n,ks⟩:=t
 rw[<- XJ]
 show Ve Qg a3c 0 (Zb Q6 (Zq (KQ (.mk n ks)))) _ _ _
 have hsz:Zl (.mk n ks)<=1048576:=Nat.le_trans (VM _) (of_decide_eq_true ht)
 have hlen:(Zm 1 (.mk n ks)).length=Zl (.mk n ks):=Xt _ _
 have hF:F_ndI [UD n ks]=Zm 1 (.mk n ks):=by unfold F_ndI;rw[tmOf_nd]
 refine c7n a3c n ks ⟨?_,rfl,[1],[UD n ks],[3],[3,5],[],⟨ZE 14 0 [(3,.ptr 0 0)],[.obj (.box [.pv (.int .i64 0)])]⟩,c0t (.mk n ks),fun _=>False,d3s (.mk n ks),rfl,by simp,rfl,?_,by kernel_rfl,pre_nd hsz,rfl,?_,?_,?_,?_⟩
 ·show L6 Tm (PV.agg (UD n ks))=true
  rw[show(PV.agg (UD n ks))=enc (Tm.mk n ks)from(Zx n ks).symm,Vi]
 ·intro j l ps hl hps
  match j with
  | 0=>cases hl;cases hps;rfl
  | j+1=>simp at hl
 ·rintro k ⟨⟨xn,xk⟩,v⟩ σ hx hi
  unfold c0t at hi
  subst hi
  have e:QF [8,9] ((encNd (.mk xn xk,v)).map .pv) (ZE 14 0 [(3,.ptr 0 0)])=ZE 14 0 [(3,.ptr 0 0),(8,.pv (.agg (UD xn xk))),(9,.pv (.int .i64 v))]:=by
   show QF [8,9] (([enc (Tm.mk xn xk),.int .i64 v]).map .pv) _=_
   rw[Zx]
   kernel_rfl
  rw[e]
  exact b8s (G:=fun _=>False) _ xn xk _ v ⟨rfl,rfl⟩
 ·rintro k ⟨⟨xn,xk⟩,v⟩ st hx hst
  unfold d3s at hst
  subst hst
  rw[hF]at hx
  have hk:k<Zl (.mk n ks):=by rw[<- hlen];exact(List.getElem?_eq_some_iff.1 hx).1
  have ek:(Zm 1 (.mk n ks)).take (k+1)=(Zm 1 (.mk n ks)).take k++[(.mk xn xk,v)]:=by rw[List.take_add_one,hx];rfl
  refine b6q (G:=fun _=>False) _ xn xk _ v ⟨rfl,_,rfl,rfl,?_⟩
  unfold c0t c2t
  rw[ek,List.map_append,List.foldl_append]
  rfl
 ·rintro σ hi
  unfold c0t at hi
  subst hi
  rw[hF,List.take_length]
  exact b9u a3c n ks _ (VW (c1p _))
 ·exact fun σ h=>h.elim
def Fa(t:Tm)(k:Nat)(σ:Zn):Prop:=σ=[.obj (.box [.pv (.int .i64 (((((Zm 1 t).take k).map (·.1)).filter J3).length:Int))])]
def d2x(t:Tm)(k:Nat)(x:Tm×Int)(st:St):Prop:=st=⟨ZE 25 0 [(3,.ptr 0 0),(4,.ptr 1 0)],[.obj (.box [.pv (.int .i64 (((((Zm 1 t).take k).map (·.1)).filter J3).length:Int))]),.obj (.box (Z0 x.1.nd x.1.ks))]⟩
def a3l:YJ:=fun n st q=>n=0∧Gv UY 0 (.t 6) 80 [7,8] JU V7 encNd pre_ndI F_ndI st q
theorem c0g: ∀ x:Tm×Unit,tW x.1=true->Ve UY a3l 0 (Zb Ki (Zq (Ym x.1))) J4 [] (Z7 c2r (encL x)):=by
 rintro⟨t,⟨⟩⟩ ht
 have ht:tW t=true:=ht
 obtain⟨n,ks⟩:=t
 rw[<- XJ]
 show Ve UY a3l 0 (Zb Ki (Zq (Ym (.mk n ks)))) _ _ _
 have hsz:Zl (.mk n ks)<=1048576:=Nat.le_trans (VM _) (of_decide_eq_true ht)
 have hlen:(Zm 1 (.mk n ks)).length=Zl (.mk n ks):=Xt _ _
 have hF:F_ndI [UD n ks]=Zm 1 (.mk n ks):=by unfold F_ndI;rw[tmOf_nd]
 refine c5g a3l n ks ⟨?_,rfl,[1],[UD n ks],[3],[3,4],[],⟨ZE 25 0 [(3,.ptr 0 0)],[.obj (.box [.pv (.int .i64 0)])]⟩,Fa (.mk n ks),fun _=>False,d2x (.mk n ks),rfl,by simp,rfl,?_,by kernel_rfl,pre_nd hsz,rfl,?_,?_,?_,?_⟩
 ·show L6 Tm (PV.agg (UD n ks))=true
  rw[show(PV.agg (UD n ks))=enc (Tm.mk n ks)from(Zx n ks).symm,Vi]
 ·intro j l ps hl hps
  match j with
  | 0=>cases hl;cases hps;rfl
  | j+1=>simp at hl
 ·rintro k ⟨⟨xn,xk⟩,v⟩ σ hx hi
  unfold Fa at hi
  subst hi
  have e:QF [7,8] ((encNd (.mk xn xk,v)).map .pv) (ZE 25 0 [(3,.ptr 0 0)])=ZE 25 0 [(3,.ptr 0 0),(7,.pv (.agg (UD xn xk))),(8,.pv (.int .i64 v))]:=by
   show QF [7,8] (([enc (Tm.mk xn xk),.int .i64 v]).map .pv) _=_
   rw[Zx]
   kernel_rfl
  rw[e]
  exact b9o (G:=fun _=>False) _ xn xk _ v ⟨rfl,rfl⟩
 ·rintro k ⟨⟨xn,xk⟩,v⟩ st hx hst
  unfold d2x at hst
  subst hst
  rw[hF]at hx
  have hk:k<Zl (.mk n ks):=by rw[<- hlen];exact(List.getElem?_eq_some_iff.1 hx).1
  have ek:(Zm 1 (.mk n ks)).take (k+1)=(Zm 1 (.mk n ks)).take k++[(.mk xn xk,v)]:=by rw[List.take_add_one,hx];rfl
  have hl:((((Zm 1 (.mk n ks)).take k).map (·.1)).filter J3).length<=k:=Nat.le_trans (List.length_filter_le _ _) (by rw[List.length_map,List.length_take];omega)
  have yes:J3 (.mk xn xk)=true->Fa (.mk n ks) (k+1) [.obj (.box [.pv (.int .i64 (IntKind.i64.wrap ((((((Zm 1 (.mk n ks)).take k).map (·.1)).filter J3).length:Int)+1)))])]:=fun h=>by
   unfold Fa
   rw[ek,List.map_append,List.filter_append,List.length_append,next (by omega)]
   simp[h]
  have no:J3 (.mk xn xk)=false->Fa (.mk n ks) (k+1) [.obj (.box [.pv (.int .i64 (((((Zm 1 (.mk n ks)).take k).map (·.1)).filter J3).length:Int))])]:=fun h=>by
   unfold Fa
   rw[ek,List.map_append,List.filter_append,List.length_append]
   simp[h]
  refine b7o (G:=fun _=>False) _ xn xk _ v (WU (fun h1=>WU (fun h2=>⟨rfl,_,rfl,rfl,yes ?_⟩) fun h2=>WU (fun h3=>⟨rfl,_,rfl,rfl,yes ?_⟩) fun h3=>⟨rfl,_,rfl,rfl,no ?_⟩) fun h1=>⟨rfl,_,rfl,rfl,no ?_⟩)
  ·unfold J3;rw[decide_eq_true (show(Tm.mk xn xk).nd.kind=6 from h1),decide_eq_true (show(Tm.mk xn xk).nd.name.s=c5m from h2)];rfl
  ·unfold J3;rw[decide_eq_true (show(Tm.mk xn xk).nd.kind=6 from h1),decide_eq_true (show(Tm.mk xn xk).nd.name.s=c8e from h3)];simp
  ·unfold J3;rw[decide_eq_false (show ¬ (Tm.mk xn xk).nd.name.s=c5m from h2),decide_eq_false (show ¬ (Tm.mk xn xk).nd.name.s=c8e from h3)];simp
  ·unfold J3;rw[decide_eq_false (show ¬ (Tm.mk xn xk).nd.kind=6 from h1)];rfl
 ·rintro σ hi
  unfold Fa at hi
  subst hi
  rw[hF,List.take_length]
  exact c2i a3l n ks _ (VW rfl)
 ·exact fun σ h=>h.elim
theorem c0u{t:Tm}(h:tW t=true): ∀ s∈(Yt t).flatMap Wy,s.s.length<=1048576:=by
 intro s hs
 obtain⟨p,hp,hs⟩:=List.mem_flatMap.1 hs
 unfold Yt at hp
 obtain⟨q,hq,rfl⟩:=List.mem_map.1 hp
 have hw:=Bn h hq
 unfold Wy at hs
 split at hs
 ·have:s=q.1.nd.name:=by simpa using hs
  subst this
  obtain⟨⟨n,ks⟩,l⟩:=q
  exact(Fg hw).name
 ·cases hs
theorem ME{α β:Type}(f:α->List β)(hf : ∀ x,(f x).length<=1): ∀ l:List α,(l.flatMap f).length<=l.length
 | []=>by simp
 | a::l=>by have:=hf a;have:=ME f hf l;rw[List.flatMap_cons,List.length_append,List.length_cons];omega
theorem A9(t:Tm):((Yt t).flatMap Wy).length<=Zl t:=by
 have:=ME Wy (fun x=>by unfold Wy;split <;> simp) (Yt t)
 rw[QP]at this
 exact this
def Fy(t:Tm)(k:Nat)(σ:Zn):Prop:=σ=[.obj (.box [.map 1]),.obj (.map (Z8 (Ws ((((Zm 1 t).take k).map (·.1)).flatMap Wy))))]
def d1m(t:Tm)(k:Nat)(x:Tm×Int)(st:St):Prop:=st=⟨ZE 29 0 [(3,.ptr 0 0),(4,.ptr 2 0)],[.obj (.box [.map 1]),.obj (.map (Z8 (Ws ((((Zm 1 t).take k).map (·.1)).flatMap Wy)))),.obj (.box (Z0 x.1.nd x.1.ks))]⟩
def a2e:YJ:=fun n st q=>n=0∧Gv Qn 0 (.t 7) 80 [8,9] JQ VY encNd pre_ndI F_ndI st q
theorem c2k: ∀ x:Tm×Unit,tW x.1=true->Ve Qn a2e 0 (Zb QY (Zq (Yc x.1))) JY [] (Z7 c1o (encL x)):=by
 rintro⟨t,⟨⟩⟩ ht
 have ht:tW t=true:=ht
 obtain⟨n,ks⟩:=t
 rw[<- XJ]
 show Ve Qn a2e 0 (Zb QY (Zq (Yc (.mk n ks)))) _ _ _
 have hsz:Zl (.mk n ks)<=1048576:=Nat.le_trans (VM _) (of_decide_eq_true ht)
 have hlen:(Zm 1 (.mk n ks)).length=Zl (.mk n ks):=Xt _ _
 have hF:F_ndI [UD n ks]=Zm 1 (.mk n ks):=by unfold F_ndI;rw[tmOf_nd]
 refine c7q a2e n ks ⟨?_,rfl,[1],[UD n ks],[3],[3,4],[],⟨ZE 29 0 [(3,.ptr 0 0)],[.obj (.box [.map 1]),.obj (.map (Z8 []))]⟩,Fy (.mk n ks),fun _=>False,d1m (.mk n ks),rfl,by simp,rfl,?_,by kernel_rfl,pre_nd hsz,rfl,?_,?_,?_,?_⟩
 ·show L6 Tm (PV.agg (UD n ks))=true
  rw[show(PV.agg (UD n ks))=enc (Tm.mk n ks)from(Zx n ks).symm,Vi]
 ·intro j l ps hl hps
  match j with
  | 0=>cases hl;cases hps;rfl
  | j+1=>simp at hl
 ·rintro k ⟨⟨xn,xk⟩,v⟩ σ hx hi
  unfold Fy at hi
  subst hi
  have e:QF [8,9] ((encNd (.mk xn xk,v)).map .pv) (ZE 29 0 [(3,.ptr 0 0)])=ZE 29 0 [(3,.ptr 0 0),(8,.pv (.agg (UD xn xk))),(9,.pv (.int .i64 v))]:=by
   show QF [8,9] (([enc (Tm.mk xn xk),.int .i64 v]).map .pv) _=_
   rw[Zx]
   kernel_rfl
  rw[e]
  exact c1x (G:=fun _=>False) _ xn xk _ v ⟨rfl,rfl⟩
 ·rintro k ⟨⟨xn,xk⟩,v⟩ st hx hst
  unfold d1m at hst
  subst hst
  rw[hF]at hx
  have hk:k<Zl (.mk n ks):=by rw[<- hlen];exact(List.getElem?_eq_some_iff.1 hx).1
  have ek:(Zm 1 (.mk n ks)).take (k+1)=(Zm 1 (.mk n ks)).take k++[(.mk xn xk,v)]:=by rw[List.take_add_one,hx];rfl
  have yes:(xn.kind=6∨xn.kind=8∨xn.kind=9)->V4 (enc xn.name) (PV.bool true) (Z8 (Ws (((Zm 1 (.mk n ks)).take k).map (·.1) |>.flatMap Wy)))=true∧Fy (.mk n ks) (k+1) [.obj (.box [.map 1]),.obj (.map (X5 (enc xn.name) (PV.bool true) (Z8 (Ws (((Zm 1 (.mk n ks)).take k).map (·.1) |>.flatMap Wy)))))]:=fun h=>by
   refine⟨(Ht _ xn.name).1,?_⟩
   unfold Fy
   rw[show X5 (enc xn.name) (PV.bool true) (Z8 (Ws (((Zm 1 (.mk n ks)).take k).map (·.1) |>.flatMap Wy)))=_ from(Ht _ xn.name).2,ek,List.map_append,List.flatMap_append]
   unfold Ws
   rw[List.foldl_append,List.map_cons,List.map_nil,List.flatMap_cons,List.flatMap_nil]
   rw[show Wy (.mk xn xk)=[xn.name]from if_pos h]
   rfl
  have no : ¬ (xn.kind=6∨xn.kind=8∨xn.kind=9)->Fy (.mk n ks) (k+1) [.obj (.box [.map 1]),.obj (.map (Z8 (Ws (((Zm 1 (.mk n ks)).take k).map (·.1) |>.flatMap Wy))))]:=fun h=>by
   unfold Fy
   rw[ek,List.map_append,List.flatMap_append,List.map_cons,List.map_nil,List.flatMap_cons,List.flatMap_nil,show Wy (.mk xn xk)=[]from if_neg h]
   simp
  refine b8d (G:=fun _=>False) _ xn xk _ v (WU (fun h1=>⟨(yes (.inl h1)).1,rfl,_,rfl,rfl,(yes (.inl h1)).2⟩) fun h1=>WU (fun h2=>⟨(yes (.inr (.inl h2))).1,rfl,_,rfl,rfl,(yes (.inr (.inl h2))).2⟩) fun h2=>WU (fun h3=>⟨(yes (.inr (.inr h3))).1,rfl,_,rfl,rfl,(yes (.inr (.inr h3))).2⟩) fun h3=>⟨rfl,_,rfl,rfl,no (by rintro(h|h|h);exact h1 h;exact h2 h;exact h3 h)⟩)
 ·rintro σ hi
  unfold Fy at hi
  subst hi
  rw[hF,List.take_length]
  refine b8k a2e n ks _ ⟨?_,?_⟩
  ·show(79==79&&Q3 (Z8 (Ws ((Yt (.mk n ks)).flatMap Wy))))=true
   rw[b4i (c0u ht) (by have:=A9 (.mk n ks);omega)]
   simp
  ·show Zq _ (PV.sl 1 false (List.map PV.str (YQ (List.map Vj (Z8 (Ws ((Yt (.mk n ks)).flatMap Wy)))))))
   rw[NB]
   exact U6 rfl
 ·exact fun σ h=>h.elim
end Go.Pl
namespace Go.Pl
open Go.RowKit
mutual
theorem DY: ∀ (t:Tm) (bd:List Str) (x:Str),x∈YX bd t ↔ x ∉ bd∧x∈YX [] t
 | .mk n ks,bd,x=>by
  rw[YX,YX,List.mem_append,List.mem_append,Nw ks bd]
  have h:(x∈(if n.kind=1∧n.name ∉ bd then [n.name]else []) ↔ x ∉ bd∧x∈(if n.kind=1∧n.name ∉ ([]:List Str)then [n.name]else [])):=by
   by_cases h1:n.kind=1
   ·by_cases h2:n.name∈bd
    ·rw[if_neg (fun h=>h.2 h2),if_pos ⟨h1,by simp⟩]
     simp only[List.not_mem_nil,List.mem_singleton,false_iff]
     rintro⟨h3,rfl⟩
     exact h3 h2
    ·rw[if_pos ⟨h1,h2⟩,if_pos ⟨h1,by simp⟩]
     simp only[List.mem_singleton]
     exact⟨fun e=>⟨e▸h2,e⟩,fun e=>e.2⟩
   ·rw[if_neg (fun h=>h1 h.1),if_neg (fun h=>h1 h.1)];simp
  rw[h]
  exact⟨fun h=>h.elim (fun h=>⟨h.1,.inl h.2⟩) fun h=>⟨h.1,.inr h.2⟩,fun h=>h.2.elim (fun k=>.inl ⟨h.1,k⟩) fun k=>.inr ⟨h.1,k⟩⟩
theorem Nw: ∀ (ks:List Tm) (bd:List Str) {l:Bool} {s:Str} {i:Nat} {x:Str},x∈YZ bd l s i ks ↔ x ∉ bd∧x∈YZ [] l s i ks
 | [],bd,l,s,i,x=>by simp[YZ]
 | k::ks,bd,l,s,i,x=>by
  rw[YZ,YZ,List.mem_append,List.mem_append,Nw ks bd]
  have h:(x∈YX (if l&&decide (i=1)then s::bd else bd) k ↔ x ∉ bd∧x∈YX (if l&&decide (i=1)then [s]else []) k):=by
   by_cases c:(l&&decide (i=1))=true
   ·rw[if_pos c,if_pos c,DY k (s::bd),DY k [s]]
    simp only[List.mem_cons,List.not_mem_nil,or_false,not_or]
    exact⟨fun h=>⟨h.1.2,h.1.1,h.2⟩,fun h=>⟨⟨h.2.1,h.1⟩,h.2.2⟩⟩
   ·rw[if_neg c,if_neg c,DY k bd]
  rw[h]
  exact⟨fun h=>h.elim (fun h=>⟨h.1,.inl h.2⟩) fun h=>⟨h.1,.inr h.2⟩,fun h=>h.2.elim (fun k=>.inl ⟨h.1,k⟩) fun k=>.inr ⟨h.1,k⟩⟩
end
theorem b7u(s:Str)(a b:Tm):YX [] (UN s a b)=YX [] a++YX [s] b:=by
 unfold UN
 rw[YX,YZ,YZ,YZ]
 simp[X3]
theorem a5v(s:Str)(a b:Tm):((ZW b).filter fun x=>decide (x≠s)).foldl Wt (ZW a)=ZW (UN s a b):=by
 unfold ZW
 rw[Si,b7u]
 refine S9 fun x=> ?_
 rw[List.mem_append,List.mem_append,List.mem_filter,WI,DY b [s]]
 simp only[List.mem_singleton,decide_eq_true_eq]
 exact⟨fun h=>h.imp id fun h=>⟨h.2,h.1⟩,fun h=>h.imp id fun h=>⟨h.2,h.1⟩⟩
theorem a1h(s:Str)(a b:Tm):Yt (UN s a b)=UN s a b::(Yt a++Yt b):=by
 unfold UN
 rw[JK]
 simp
theorem a4s(s:Str)(a b:Tm):(Yc b).foldl Wt (Yc a)=Yc (UN s a b):=by
 unfold Yc
 rw[Si,a1h]
 refine S9 fun x=> ?_
 rw[List.flatMap_cons,List.flatMap_append,List.mem_append,List.mem_append,List.mem_append,WI]
 have:Wy (UN s a b)=[]:=by simp[Wy,UN,Tm.nd]
 rw[this]
 simp
theorem FX(s:Str)(a b:Tm):Ym (UN s a b)=Ym a+Ym b:=by
 unfold Ym
 rw[a1h,List.filter_cons,if_neg (by simp[J3,UN,Tm.nd]),List.filter_append,List.length_append]
 omega
theorem Cz(s:Str)(a b:Tm):Zl (UN s a b)=1+Zl a+Zl b:=by
 unfold UN
 rw[Zl,Zo,Zo,Zo];omega
theorem a4o(s:Str)(a b:Tm):ZI (UN s a b)=1+max (ZI a) (ZI b):=by
 unfold UN
 rw[ZI,ZV,ZV,ZV];omega
theorem c4b(s:Str)(a b:Tm):KA (UN s a b)=s.s.length+1+KA a+KA b:=by
 unfold UN
 rw[KA,XQ,XQ,XQ]
 show Fv {EE with kind:=5,name:=s}+_=_
 unfold Fv
 simp[EE]
 omega
theorem Sj(l:List Str):(WP l).length<=l.length:=by
 unfold WP YQ
 rw[List.length_map,List.length_mergeSort,List.length_map]
 have:=Kq l []
 have e:Ws l=l.foldl Y4 []:=rfl
 rw[e]
 simpa using this
theorem Ai(t:Tm):(ZW t).length<=Zl t:=Nat.le_trans (Sj _) (Qy [] t)
theorem K6(t:Tm):(Yc t).length<=Zl t:=Nat.le_trans (Sj _) (A9 t)
end Go.Pl
namespace Go.Pl
open Go.RowKit
open Enc (enc dec is)
open EncL (encL decL isL)
set_option maxRecDepth 100000
noncomputable def Om:IC:=Ww Proofs.Tryz.f57
def OH:List IRes:=[(.tmp 2)]
abbrev c8i:Nat:=4
def b3e:Zz:=YF []
theorem d2j{G:AV×List AObj×List AObj->Prop}(es:List (PV×PV))(h:G (((.fn 79 [] [(.ptr 1 0)]),([(.map es)],[(.box [(.map 0)])])))):Ze b3e 1 (Yd 1 OH G) Om [] (XY 4 [.map 0] [.map es]):=Ze.to (.nil) h
end Go.Pl
namespace Go.Pl
open Go.RowKit
open Enc (enc dec is)
open EncL (encL decL isL)
open Go.Proofs.YtgdebdgkofkeeaaGreatDoor (encNd pre_ndI F_ndI tmOf_nd pre_nd)
theorem c2w: ∀ args os,UW args os=true->Ze b3e os.length (Yd os.length OH fun r=>r=Q5 79 args os) Om [] (XY c8i args os):=by
 intro args os h
 unfold UW at h
 split at h
 ·exact d2j _ rfl
 ·cases h
end Go.Pl
namespace Go.Pl
open Go.RowKit
open Enc (enc dec is)
open EncL (encL decL isL)
set_option maxRecDepth 100000
abbrev d1o(ps:List PV)(k:Arr×Int->Prop):Prop:=Kv (fun(x:Str×List Int×List Int×Unit)=>decide (List.length (Prod.fst (Prod.snd x))<=2000000)&&decide (List.length (Prod.fst (Prod.snd (Prod.snd x)))<=2000000)) (fun(x:Str×List Int×List Int×Unit)=>Ot (Prod.fst x) (Prod.fst (Prod.snd x)) (Prod.fst (Prod.snd (Prod.snd x)))) ps k
noncomputable def b3u:IC:=Ww Proofs.Tryz.f173
def b0u:List IRes:=[(.tmp 4)]
abbrev c9n:Nat:=22
def c3f:Zz:=YF []
theorem d0i{G:PV->Prop}(e:List UInt8)(n:Int)(h:if (e==[(105:UInt8),(110:UInt8),(116:UInt8)])=true then if (decide (n ≥ (-2147483648:Int)))=true then G ((.bool (decide (n<=2147483647))))else(G ((.bool false)))else(if (e==[(98:UInt8),(111:UInt8),(111:UInt8),(108:UInt8)])=true then if (n==0)=true then G ((.bool true))else(G ((.bool (n==1))))else(G ((.bool false))))):Ze c3f 0 (Zb b0u G) b3u [] (Z7 22 [.str e,.int .i64 n]):=Ze.tp (dm [] 36 0x2220220034200c4202202220044200c42) h
noncomputable def FY:IC:=Ww Proofs.Tryz.f172
def Oq:List IRes:=[(.tmp 3)]
abbrev c9q:Nat:=8
def a9d:Zz:=YF [(173,.pure (preT (fun _:Str×Int×Unit=>true)) (Zi (fun x:Str×Int×Unit=>Wd x.1 x.2.1)))]
theorem d2m{G:AV×List AObj×List AObj->Prop}(e:List UInt8)(n:Int)(h : ∃ y0:Bool,AV.pv (Zi (fun(x:Str×Int×Unit)=>Wd x.1 x.2.1) [(.str e),(.int .i64 n)])=AV.pv (enc y0)∧(G (((.pv (.bool !y0)),([(.box [(.pv (.str e))])],[]))))):Ze a9d 1 (Yd 1 Oq G) FY [] (XY 8 [.pv (.int .i64 n),.ptr 0 0] [.box [.pv (.str e)]]):=Ze.to (.lit (.abs (Bool) (fun YY=>AV.pv (enc YY)) (.nil))) h
noncomputable def K9:IC:=K5
def KM:List IRes:=[(.tmp 4)]
abbrev b3p:Nat:=19
def Cy:Zz:=YF [(172,.own D7 RZ)]
theorem d2q{G:AV×List AObj×List AObj->Prop}(e:List UInt8)(l:List Int)(t:Bool)(h:At Cy 1 (Yd 1 KM G) K9 0 19 [(0,(.pv (.sl 1 t (List.map enc l)))),(1,(.fn 172 [] [(.ptr 0 0)])),(7,(.pv (.int .i64 (↑(List.length (List.map enc l)):Int)))),(8,(.pv (.int .i64 0)))] [(.obj (.box [(.pv (.str e))]))]):Ze Cy 1 (Yd 1 KM G) K9 [] (XY 19 [.pv (.sl 1 t (l.map enc)),.fn 172 [] [.ptr 0 0]] [.box [.pv (.str e)]]):=Ze.to (.nil) h
theorem a8i{G:AV×List AObj×List AObj->Prop}(e:List UInt8)(l:List Int)(t:Bool)(i:Int)(h:if (decide (i<(↑(List.length l):Int)))=true then(decide (0<=i)&&decide (Int.toNat i<List.length (List.map enc l))&&1==1)=true∧(∃ y0:Int,AV.pv (PV.rptr (PV.cells (List.getD (List.map enc l) (Int.toNat i) default)))=AV.pv (PV.rptr (PV.cells ((enc) y0)))∧(if (!Wd (Str.mk e) (PV.asInt (List.getD (PV.cells (enc y0)) 0 default)))=true then G (((.pv (.int .i64 i)),([(.box [(.pv (.str e))])],[])))else(At Cy 1 (Yd 1 KM G) K9 0 19 [(0,(.pv (.sl 1 t (List.map enc l)))),(1,(.fn 172 [] [(.ptr 0 0)])),(7,(.pv (.int .i64 (↑(List.length l):Int)))),(8,(.pv (.int .i64 (IntKind.wrap IntKind.i64 (i+1)))))] [(.obj (.box [(.pv (.str e))]))])))else(G (((.pv (.int .i64 (-1))),([(.box [(.pv (.str e))])],[]))))):At Cy 1 (Yd 1 KM G) K9 0 19 [(0,.pv (.sl 1 t (l.map enc))),(1,.fn 172 [] [.ptr 0 0]),(7,.pv (.int .i64 l.length)),(8,.pv (.int .i64 i))] [.obj (.box [.pv (.str e)])]:=At.to (dm [dr Int] 19 0x2000143225100c42) h
noncomputable def OJ:IC:=OG
def FR:List IRes:=[(.tmp 4)]
abbrev c5p:Nat:=9
def a9h:Zz:=YF [(144,.own Wm D5)]
theorem d3c{G:AV×List AObj×List AObj->Prop}(e:List UInt8)(l:List Int)(t:Bool)(h:(Wm [(.pv (.sl 1 t (List.map enc l))),(.fn 172 [] [(.ptr 0 0)])] [(.box [(.pv (.str e))])])=true∧(G (((.pv (.bool (decide (Uh (Str.mk e) (List.map dec (List.map enc l)) 0 ≥ 0)))),([(.box [(.pv (.str e))])],[]))))):Ze a9h 1 (Yd 1 FR G) OJ [] (XY 9 [.pv (.sl 1 t (l.map enc)),.fn 172 [] [.ptr 0 0]] [.box [.pv (.str e)]]):=Ze.to (.req (.keep (.lit (.nil)))) h
noncomputable def DD:IC:=Ww Proofs.Tryz.f143
def Da:List IRes:=[(.tmp 4)]
abbrev Nn:Nat:=9
def Ad:Zz:=YF [(113,.own Wm Ph)]
theorem FL{G:PV->Prop}(e:List UInt8)(l:List Int)(h:(Wm [(.pv (.sl 1 false (List.map enc l))),(.fn 172 [] [(.ptr 0 0)])] [(.box [(.pv (.str e))])])=true∧(G ((.bool (!decide (0<=Uh (Str.mk e) (List.map dec (List.map enc l)) 0)))))):Ze Ad 0 (Zb Da G) DD [] (Z7 9 [.str e,enc l]):=Ze.tp (.req (.keep (.nil))) h
noncomputable def a1j:IC:=Ww Proofs.Tryz.f112
def a1k:List IRes:=[(.cell true 3 6),(.tmp 7)]
abbrev b6f:Nat:=45
def b4h:Zz:=YF [(142,.pure (preT (fun _:List Int×Unit=>true)) (Zi (fun x:List Int×Unit=>Wz x.1))),(143,.pure (preT (fun x:Str×List Int×Unit=>decide (x.2.1.length<=2000000))) (Zi (fun x:Str×List Int×Unit=>x.2.1.all (Wd x.1)))),(93,.pure (preT (fun x:List Int×Unit=>decide (x.1.length<=2000000))) (Zi (fun x:List Int×Unit=>x.1)))]
theorem c8p{G:PV->Prop}(e:List UInt8)(d x:List Int)(h:if (!e==[(105:UInt8),(110:UInt8),(116:UInt8)])=true then if (!e==[(98:UInt8),(111:UInt8),(111:UInt8),(108:UInt8)])=true then G ((.tup [(.agg [(.str []),(.sl 0 true []),(.sl 0 true [])]),(.int .i64 12)]))else((Go.Pl.preT (fun(x:List Int×Unit)=>true) [(.sl 1 false (List.map enc d))])=true∧(∃ y0:Int×Int,AV.pv (Zi (fun(x:List Int×Unit)=>Wz x.1) [(.sl 1 false (List.map enc d))])=AV.pv (enc y0)∧(if (y0.2 != 0)=true then G ((.tup [(.agg [(.str []),(.sl 0 true []),(.sl 0 true [])]),(.int .i64 y0.2)]))else(if ((↑(List.length (List.map enc x)):Int) != y0.1)=true then G ((.tup [(.agg [(.str []),(.sl 0 true []),(.sl 0 true [])]),(.int .i64 1)]))else((Go.Pl.preT (fun(x:Str×List Int×Unit)=>decide (List.length x.2.1<=2000000)) [(.str e),(.sl 1 false (List.map enc x))])=true∧(∃ y1:Bool,AV.pv (Zi (fun(x:Str×List Int×Unit)=>List.all x.2.1 (Wd x.1)) [(.str e),(.sl 1 false (List.map enc x))])=AV.pv (enc y1)∧(if (!y1)=true then G ((.tup [(.agg [(.str []),(.sl 0 true []),(.sl 0 true [])]),(.int .i64 2)]))else((Go.Pl.preT (fun(x:List Int×Unit)=>decide (List.length x.1<=2000000)) [(.sl 1 false (List.map enc d))])=true∧(∃ y2:List Int,AV.pv (Zi (fun(x:List Int×Unit)=>x.1) [(.sl 1 false (List.map enc d))])=AV.pv (enc y2)∧((Go.Pl.preT (fun(x:List Int×Unit)=>decide (List.length x.1<=2000000)) [(.sl 1 false (List.map enc x))])=true∧(∃ y3:List Int,AV.pv (Zi (fun(x:List Int×Unit)=>x.1) [(.sl 1 false (List.map enc x))])=AV.pv (enc y3)∧(G ((.tup [(.agg [(.str e),(.sl 1 false (List.map enc y2)),(.sl 1 false (List.map enc y3))]),(.int .i64 0)]))))))))))))))else((Go.Pl.preT (fun(x:List Int×Unit)=>true) [(.sl 1 false (List.map enc d))])=true∧(∃ y4:Int×Int,AV.pv (Zi (fun(x:List Int×Unit)=>Wz x.1) [(.sl 1 false (List.map enc d))])=AV.pv (enc y4)∧(if (y4.2 != 0)=true then G ((.tup [(.agg [(.str []),(.sl 0 true []),(.sl 0 true [])]),(.int .i64 y4.2)]))else(if ((↑(List.length (List.map enc x)):Int) != y4.1)=true then G ((.tup [(.agg [(.str []),(.sl 0 true []),(.sl 0 true [])]),(.int .i64 1)]))else((Go.Pl.preT (fun(x:Str×List Int×Unit)=>decide (List.length x.2.1<=2000000)) [(.str e),(.sl 1 false (List.map enc x))])=true∧(∃ y5:Bool,AV.pv (Zi (fun(x:Str×List Int×Unit)=>List.all x.2.1 (Wd x.1)) [(.str e),(.sl 1 false (List.map enc x))])=AV.pv (enc y5)∧(if (!y5)=true then G ((.tup [(.agg [(.str []),(.sl 0 true []),(.sl 0 true [])]),(.int .i64 2)]))else((Go.Pl.preT (fun(x:List Int×Unit)=>decide (List.length x.1<=2000000)) [(.sl 1 false (List.map enc d))])=true∧(∃ y6:List Int,AV.pv (Zi (fun(x:List Int×Unit)=>x.1) [(.sl 1 false (List.map enc d))])=AV.pv (enc y6)∧((Go.Pl.preT (fun(x:List Int×Unit)=>decide (List.length x.1<=2000000)) [(.sl 1 false (List.map enc x))])=true∧(∃ y7:List Int,AV.pv (Zi (fun(x:List Int×Unit)=>x.1) [(.sl 1 false (List.map enc x))])=AV.pv (enc y7)∧(G ((.tup [(.agg [(.str e),(.sl 1 false (List.map enc y6)),(.sl 1 false (List.map enc y7))]),(.int .i64 0)]))))))))))))))):Ze b4h 0 (Zb a1k G) a1j [] (Z7 45 [.str e,enc d,enc x]):=Ze.tp (dm [dv (Int×Int),dv Bool,dv (List Int)] 69 0x7171000146100014200014251222071710001461000142000142510001422202242) h
noncomputable def a8f:IC:=Ww Proofs.Tryz.f85
def b5e:List IRes:=[(.tmp 2)]
abbrev c6e:Nat:=17
def c4l:Zz:=YF [(112,.pure (preT (fun x:Str×List Int×List Int×Unit=>decide (x.2.1.length<=2000000)&&decide (x.2.2.1.length<=2000000))) (Zi (fun x:Str×List Int×List Int×Unit=>Ot x.1 x.2.1 x.2.2.1)))]
theorem d3m{G:PV->Prop}(a:Arr)(h:(d1o [(.str (Str.s (Arr.e a))),(.sl 1 false (List.map enc (Arr.d a))),(.sl 1 false (List.map enc (Arr.x a)))] fun y0=>(G ((.bool (y0.2==0)))))):Ze c4l 0 (Zb b5e G) a8f [] (Z7 17 [enc a]):=Ze.tp (.req (.abs (Arr×Int) (fun YY=>AV.pv (enc YY)) (.lit (.nil)))) h
end Go.Pl
namespace Go.Pl
open Go.RowKit
open Enc (enc dec is)
open EncL (encL decL isL)
theorem c0k: ∀ a:Str×Int×Unit,true=true->Ze c3f 0 (Zb b0u (Zq (Wd a.1 a.2.1))) b3u [] (Z7 c9n (encL a)):=by
 rintro⟨⟨e⟩,n,⟨⟩⟩ _
 refine d0i e n ?_
 simp only[beq_iff_eq,decide_eq_true_eq,Zq,c1z,a8x,true_and,Wd,AC,Qz,ge_iff_le]
 split
 ·split <;> simp[*]
 ·split
  ·split <;> simp[*]
  ·simp[*]
theorem c2f: ∀ args os,D7 args os=true->Ze a9d os.length (Yd os.length Oq fun r=>r=RZ args os) FY [] (XY c9q args os):=by
 intro args os hp
 unfold D7 at hp
 split at hp
 ·rename_i n e
  refine d2m e n ?_
  exact Zd (⟨e⟩,n,()) rfl rfl
 ·cases hp
theorem CE(e:Str): ∀ (l:List Int) (k:Nat),decide (0<=Uh e l k) = !l.all (Wd e)
 | [],k=>by simp[Uh]
 | n::l,k=>by
  simp only[Uh,List.all_cons]
  by_cases h:Wd e n=true
  ·simp only[h,if_true,Bool.true_and];exact CE e l (k+1)
  ·simp only[Bool.not_eq_true]at h;simp[h]
theorem b4w(e:List UInt8)(l:List Int)(t:Bool)(hl:l.length<=2000000)(r:AV×List AObj×List AObj): ∀ (m k:Nat),m+k=l.length->r=(.pv (.int .i64 (Uh ⟨e⟩ (l.drop k) k)),[.box [.pv (.str e)]],[]) ->
  At Cy 1 (Yd 1 KM fun x=>x=r) K9 0 b3p [(0,.pv (.sl 1 t (l.map enc))),(1,.fn 172 [] [.ptr 0 0]),(7,.pv (.int .i64 l.length)),(8,.pv (.int .i64 k))] [.obj (.box [.pv (.str e)])]:=by
 intro m
 induction m with
 | zero=>
  intro k hk hr
  refine a8i e l t k ?_
  rw[if_neg (by simp;omega),hr,List.drop_of_length_le (by omega)]
  rfl
 | succ m ih=>
  intro k hk hr
  have hlt:k<l.length:=by omega
  refine a8i e l t k ?_
  rw[if_pos (by simp;omega)]
  refine⟨by simp;omega,l[k],by rw[Jz _ hlt],?_⟩
  rw[List.drop_eq_getElem_cons hlt,Uh]at hr
  show if (!Wd ⟨e⟩ l[k])=true then _ else _
  cases h:Wd ⟨e⟩ l[k]with
  | true=>
   rw[if_neg (by simp),next (by omega)]
   rw[h,if_pos rfl]at hr
   exact ih (k+1) (by omega) hr
  | false=>
   rw[if_pos (by decide)]
   rw[h,if_neg (by simp)]at hr
   exact hr.symm
theorem b6u: ∀ args os,Wm args os=true->Ze Cy os.length (Yd os.length KM fun r=>r=D5 args os) K9 [] (XY b3p args os):=by
 intro args os hp
 unfold Wm at hp
 split at hp
 ·rename_i t xs e
  simp only[Bool.and_eq_true,decide_eq_true_eq]at hp
  rw[a1b hp.1]
  have hl:(xs.map (dec:PV->Int)).length<=2000000:=by simpa using hp.2
  generalize xs.map (dec:PV->Int)=l at hl ⊢
  refine d2q e l t ?_
  rw[List.length_map]
  refine b4w e l t hl _ l.length 0 (by omega) ?_
  simp[D5]
 ·cases hp
theorem b7m: ∀ args os,Wm args os=true->Ze a9h os.length (Yd os.length FR fun r=>r=Ph args os) OJ [] (XY c5p args os):=by
 intro args os hp
 have hp':=hp
 unfold Wm at hp
 split at hp
 ·rename_i t xs e
  simp only[Bool.and_eq_true,decide_eq_true_eq]at hp
  rw[a1b hp.1]at hp' ⊢
  exact d3c e _ t ⟨hp',rfl⟩
 ·cases hp
theorem TV: ∀ a:Str×List Int×Unit,decide (a.2.1.length<=2000000)=true->Ze Ad 0 (Zb Da (Zq (a.2.1.all (Wd a.1)))) DD [] (Z7 Nn (encL a)):=by
 rintro⟨⟨e⟩,l,⟨⟩⟩ hp
 refine FL e l ⟨?_,rfl,?_⟩
 ·simpa [Wm]using hp
 ·simp[CE]
theorem b5s: ∀ a:Str×List Int×List Int×Unit,(decide (a.2.1.length<=2000000)&&decide (a.2.2.1.length<=2000000))=true->Ze b4h 0 (Zb a1k (Zq (Ot a.1 a.2.1 a.2.2.1))) a1j [] (Z7 b6f (encL a)):=by
 rintro⟨⟨e⟩,d,x,⟨⟩⟩ hp
 simp only[Bool.and_eq_true,decide_eq_true_eq]at hp
 refine c8p e d x ?_
 have hp1:=hp.1
 have hp2:=hp.2
 simp only[preT,Zi,b4q,b7n,a4k,a5t,d0f,OO,c9c,b9t,c5u,LD,List.isEmpty_iff,Bool.and_true,beq_self_eq_true,Bool.or_true,Bool.true_and,decide_eq_true_eq,AV.pv.injEq,c9f,exists_eq_left',hp1,hp2,true_and,Enc.sz,List.length_map,Zq,c5a,c7v,c6a,b9z,c0y,c0r,List.all_nil,List.isEmpty_nil,Bool.true_or,List.map_nil,Bool.not_eq_true',beq_eq_false_iff_ne,bne_iff_ne,Ot,AC,Qz]
 by_cases h1:e=[105,110,116]
 ·simp only[h1,ne_eq,not_true,if_false,false_and]
  split
  ·rfl
  ·split
   ·rfl
   ·split
    ·simp_all
    ·simp_all
 ·simp only[h1,ne_eq,not_false_eq_true,if_true,true_and]
  split
  ·rfl
  ·split
   ·rfl
   ·split
    ·rfl
    ·split
     ·simp_all
     ·simp_all
theorem c1i: ∀ a:Arr×Unit,a4y a.1=true->Ze c4l 0 (Zb b5e (Zq (RN a.1))) a8f [] (Z7 c6e (encL a)):=by
 rintro⟨a,⟨⟩⟩ hp
 refine d3m a ⟨Zc (a.e,a.d,a.x,()) rfl hp,Zd (a.e,a.d,a.x,()) rfl ?_⟩
 exact⟨rfl,rfl⟩
end Go.Pl
namespace Go.Pl
open Go.RowKit
set_option maxRecDepth 100000
def Wp:IC:=(Vf [ZA 4 (.mv (UT 0)) 0] (.seq (Vf [ZA 6 (X0 0) 0,ZA 7 (.len 1 (.t 6)) 0,ZA 8 (.mv (UT 0)) 0] (.block 0 (.loop [8,7,1,0] (Vf [ZA 9 (Hm .lss (.t 8) (.t 7)) 0] (.seq (.cond (.t 9) .skip (.exit 0)) (.seq (.block 1 (Vf [ZA 10 (X0 8) 0,ZA 5 (X0 10) 0] (Vf [ZA 11 (X0 1) 0,ZA 12 (X0 0) 0,ZA 13 (X0 5) 0,ZA 14 (.iaddr 1 (.t 12) (.t 13)) 0,ZA 15 (DZ [(.int .i64)] (.t 14)) 0,ZA 16 (Hm .eql (.t 11) (.t 15)) 0] (.cond (.t 16) (Vf [ZA 17 (X0 5) 0,ZA 4 (X0 17) 0] .ret) .skip)))) (.reg [ZA 18 (Hm .add (.t 8) (UT 1)) 0,ZA 8 (X0 18) 0] none))))))) (Vf [ZA 4 (.mv (.c (.int .i64 (-1)))) 0] .ret)))
def Wn:List IRes:=[(.tmp 4)]
def Vn:Zz:=YF []
theorem a5b{r:PV}(ns:List Int)(t:Bool)(v:Int)(hn:At Vn 0 (fun st=>fin st Wn=some r) Wp 0 19 [(0,(.pv (.sl 1 t (Zt ns)))),(1,(.pv (.int .i64 v))),(7,(.pv (.int .i64 (↑(Zt ns).length:Int)))),(8,(.pv (.int .i64 0)))] []):Ze Vn 0 (fun st=>fin st Wn=some r) Wp [] (Z7 19 [.sl 1 t (Zt ns),.int .i64 v]):=Ze.w (.nil) hn (by kernel_rfl)
theorem F7{r:PV}(ns:List Int)(t:Bool)(v:Int)(i:Int)(h0:(decide (i<(↑(Zt ns).length:Int)))=true)(h1:(decide (0<=i)&&decide (i.toNat<(Zt ns).length)&&1==1)=true)(h2:(decide (0+[Sh.int .i64].length<=((Zt ns).getD i.toNat default).cells.length)&&Yp ((Zt ns).getD i.toNat default).cells 0 [Sh.int .i64])=true)(h3:(v==(((Zt ns).getD i.toNat default).cells.getD 0 default).asInt)=true)(hr:(.int .i64 i)=r):At Vn 0 (fun st=>fin st Wn=some r) Wp 0 19 [(0,.pv (.sl 1 t (Zt ns))),(1,.pv (.int .i64 v)),(7,.pv (.int .i64 (Zt ns).length)),(8,.pv (.int .i64 i))] []:=At.w (.lit (.ans true (.req (.req (.lit (.ans true (.nil))))))) (And.intro h0 (And.intro h1 (And.intro h2 (And.intro h3 hr)))) (by kernel_rfl)
theorem FK{r:PV}(ns:List Int)(t:Bool)(v:Int)(i:Int)(h0:(decide (i<(↑(Zt ns).length:Int)))=true)(h1:(decide (0<=i)&&decide (i.toNat<(Zt ns).length)&&1==1)=true)(h2:(decide (0+[Sh.int .i64].length<=((Zt ns).getD i.toNat default).cells.length)&&Yp ((Zt ns).getD i.toNat default).cells 0 [Sh.int .i64])=true)(h3:(v==(((Zt ns).getD i.toNat default).cells.getD 0 default).asInt)=false)(hn:At Vn 0 (fun st=>fin st Wn=some r) Wp 0 19 [(0,(.pv (.sl 1 t (Zt ns)))),(1,(.pv (.int .i64 v))),(7,(.pv (.int .i64 (↑(Zt ns).length:Int)))),(8,(.pv (.int .i64 (IntKind.i64.wrap (i+1)))))] []):At Vn 0 (fun st=>fin st Wn=some r) Wp 0 19 [(0,.pv (.sl 1 t (Zt ns))),(1,.pv (.int .i64 v)),(7,.pv (.int .i64 (Zt ns).length)),(8,.pv (.int .i64 i))] []:=At.w (.lit (.ans true (.req (.req (.lit (.ans false (.lit (.nil)))))))) (And.intro h0 (And.intro h1 (And.intro h2 (And.intro h3 hn)))) (by kernel_rfl)
theorem LU{r:PV}(ns:List Int)(t:Bool)(v:Int)(i:Int)(h0:(decide (i<(↑(Zt ns).length:Int)))=false)(hr:(.int .i64 (-1))=r):At Vn 0 (fun st=>fin st Wn=some r) Wp 0 19 [(0,.pv (.sl 1 t (Zt ns))),(1,.pv (.int .i64 v)),(7,.pv (.int .i64 (Zt ns).length)),(8,.pv (.int .i64 i))] []:=At.w (.lit (.ans false (.nil))) (And.intro h0 hr) (by kernel_rfl)
end Go.Pl
namespace Go.Pl
open Go.RowKit
def FN(v:Int):List Int->Nat->Int
 | [],_=> -1
 | n::r,i=>bif v==n then i else FN v r (i+1)
theorem b1u{v:Int}: ∀ {l:List Int} {i:Nat},decide (0<=FN v l i)=l.any (· == v):=by
 intro l
 induction l with
 | nil=>intro i;rfl
 | cons n r ih=>
  intro i
  simp only[FN,List.any_cons]
  by_cases h:v=n
  ·subst h;simp
  ·have h1:(v==n)=false:=by simpa using h
   have h2:(n==v)=false:=by simp;omega
   simp only[h1,h2,cond_false,Bool.false_or]
   exact ih
def Q4:List PV->PV
 | [.sl _ _ xs,.int _ v]=>.int .i64 (FN v (xs.map PV.asInt) 0)
 | _=>.nilp
theorem Fp(ns:List Int)(t:Bool)(v:Int)(hl:ns.length<=1099511627776){r:PV}: ∀ (m k:Nat),m+k=ns.length->r = .int .i64 (FN v (ns.drop k) k) ->
  At Vn 0 (fun st=>fin st Wn=some r) Wp 0 19 [(0,.pv (.sl 1 t (Zt ns))),(1,.pv (.int .i64 v)),(7,.pv (.int .i64 (Zt ns).length)),(8,.pv (.int .i64 k))] []:=by
 intro m
 induction m with
 | zero=>
  intro k hk hr
  rw[List.drop_of_length_le (by omega)]at hr
  exact LU ns t v k (by simp;omega) hr.symm
 | succ m ih=>
  intro k hk hr
  have hlt:k<ns.length:=by omega
  have e:=Ae hlt
  rw[List.drop_eq_getElem_cons hlt,FN]at hr
  cases hb:v==ns[k]with
  | true=>
   rw[hb,cond_true]at hr
   exact F7 ns t v k (by simp;omega) (by simp;omega) (by rw[e];rfl) (by rw[e];exact hb) hr.symm
  | false=>
   rw[hb,cond_false]at hr
   refine FK ns t v k (by simp;omega) (by simp;omega) (by rw[e];rfl) (by rw[e];exact hb) ?_
   rw[next (by omega)]
   exact ih (k+1) (by omega) hr
theorem a2m: ∀ ps,ZZ ps=true->Ze Vn 0 (fun st=>fin st Wn=some (Q4 ps)) Wp [] (Z7 19 ps):=by
 intro ps hp
 unfold ZZ at hp
 split at hp
 ·rename_i t xs v
  simp only[Bool.and_eq_true,decide_eq_true_eq]at hp
  obtain⟨ns,rfl⟩:=Pn hp.1
  refine a5b ns t v ?_
  exact Fp ns t v (by have:=hp.2;rwa [Dh]at this) ns.length 0 (by omega) (by simp[Q4])
 ·cases hp
def PV.ns(p:PV):List Int:=p.asXs.map PV.asInt
def QC:IC:=(Vf [ZA 4 (f'' false) 0] (Vf [ZA 5 (X0 0) 0,ZA 6 (X0 1) 0,ZA 7 (c'' 193 [(.t 5),(.t 6)]) 0,ZA 8 (Hm .geq (.t 7) (UT 0)) 2,ZA 4 (X0 8) 2] .ret))
def QM:List IRes:=[(.tmp 4)]
abbrev NI:Nat:=9
def KU:Zz:=YF [(193,.pure ZZ Q4)]
theorem TI{r:PV}(ns:List Int)(t:Bool)(v:Int)(h0:(ZZ [(.sl 1 t (Zt ns)),(.int .i64 v)])=true)(hr:(.bool (decide (FN v (List.map PV.asInt (Zt ns)) 0 ≥ 0)))=r):Ze KU 0 (fun st=>fin st QM=some r) QC [] (Z7 9 [.sl 1 t (Zt ns),.int .i64 v]):=Ze.w (.req (.lit (.nil))) (And.intro h0 hr) (by kernel_rfl)
theorem Rx: ∀ ps,ZZ ps=true->Ze KU 0 (fun st=>fin st QM=some (Vl ps)) QC [] (Z7 NI ps):=by
 intro ps hp
 have hp':=hp
 unfold ZZ at hp
 split at hp
 ·rename_i t xs v
  simp only[Bool.and_eq_true,decide_eq_true_eq]at hp
  obtain⟨ns,rfl⟩:=Pn hp.1
  refine TI ns t v hp' ?_
  have:=b1u (v:=v) (l:=ns) (i:=0)
  simp only[WK,Vl,BA,ge_iff_le]
  rw[<- this]
 ·cases hp
end Go.Pl
namespace Go.Pl
open Go.RowKit
open Enc (enc dec is)
open EncL (encL decL isL)
set_option maxRecDepth 100000
end Go.Pl
namespace Go.Pl
open Go.RowKit
open Enc (enc dec is)
open EncL (encL decL isL)
theorem a6m{s:List UInt8}{i:Nat}(h:i<s.length):List.getD (Zw s) (Int.toNat (i:Int)) default = .int .u8 (s[i].toNat:Int):=by
 simp[Zw,List.getD,h]
theorem GG(s:List UInt8):(Zw s).length=s.length:=by simp[Zw]
def MC(c:UInt8):Bool:=lowB c||digB c
theorem a0s{c:UInt8}:lowB c=true ↔ 97<=c.toNat∧c.toNat<=122:=by
 simp only[lowB,Bool.and_eq_true,decide_eq_true_eq,UInt8.le_iff_toNat_le]
 have e1:(97:UInt8).toNat=97:=rfl
 have e2:(122:UInt8).toNat=122:=rfl
 rw[e1,e2]
theorem SC{c:UInt8}(h : ¬ (97<=c.toNat∧c.toNat<=122)):lowB c=false:=by
 cases e:lowB c
 ·rfl
 ·exact absurd (a0s.1 e) h
theorem SN{c:UInt8}(h : ¬ (48<=c.toNat∧c.toNat<=57)):digB c=false:=by
 cases e:digB c
 ·rfl
 ·exact absurd (Wq.1 e) h
def Wu(s:List UInt8)(i:Nat):Bool:=(match i with|0=>(match s with|[]=>true|c::r=>lowB c&&r.all MC)|i+1=>(s.drop (i+1)).all MC)&&(!(s==[]))&&decide (s.length<=30)
theorem a3w{s:List UInt8}{i:Nat}(h:i<s.length)(hb:lowB s[i]=true∨(i≠0∧digB s[i]=true)):Wu s i=Wu s (i+1):=by
 cases i with
 | zero=>
  cases s with
  | nil=>simp at h
  | cons c r=>
   rcases hb with hb|hb
   ·have hb:lowB c=true:=hb
    simp[Wu,hb]
   ·exact absurd rfl hb.1
 | succ i=>
  unfold Wu
  simp only
  rw[List.drop_eq_getElem_cons h,List.all_cons]
  have:MC s[i+1]=true:=by
   rcases hb with hb|hb
   ·simp[MC,hb]
   ·simp[MC,hb.2]
  rw[this,Bool.true_and]
theorem a3e{s:List UInt8}{i:Nat}(h:i<s.length)(hb:lowB s[i]=false∧(i=0∨digB s[i]=false)):Wu s i=false:=by
 cases i with
 | zero=>
  cases s with
  | nil=>simp at h
  | cons c r=>
   have hb:lowB c=false:=hb.1
   simp[Wu,hb]
 | succ i=>
  unfold Wu
  simp only
  rw[List.drop_eq_getElem_cons h,List.all_cons]
  have:MC s[i+1]=false:=by
   rcases hb.2 with h0|h0
   ·cases h0
   ·simp[MC,hb.1,h0]
  rw[this];simp
theorem a4g{s:List UInt8}(h:[95].isPrefixOf s=false):Yw ⟨s⟩=Wu s 0:=by
 cases s with
 | nil=>rfl
 | cons c r=>
  have hc : ¬ c=95:=by intro e;subst e;simp at h
  have e:decide ((c::r).length<=30)=decide (r.length<=29):=decide_eq_decide.2 (by simp)
  unfold Wu
  rw[e]
  simp only[Yw,if_neg hc]
  show _=(lowB c&&r.all MC&& !((c::r)==[])&&_)
  have e2:((c::r)==[])=false:=rfl
  rw[e2]
  simp only[Bool.not_false,Bool.and_true]
  rfl
theorem FZ(s:Str): -9223372036854775808<=(YV s).1∧((YV s).1<=9223372036854775807):=by
 unfold YV
 split
 ·rename_i v hv;exact Lib.atoiAll_bounds hv
 ·have:=Lib.atoiSat_bounds s.s
  exact⟨by show _<=Lib.atoiSat s.s;omega,by show Lib.atoiSat s.s<=_;omega⟩
 ·exact⟨by show(-9223372036854775808:Int)<=0;omega,by show(0:Int)<=_;omega⟩
end Go.Pl
namespace Go.Pl
open Go.RowKit
open Enc (enc dec is)
open EncL (encL decL isL)
set_option maxRecDepth 100000
abbrev c4d(ps:List PV)(k:Int->Prop):Prop:=ceP (fun(x:Int×Int×Unit)=>Jh (Prod.fst x) (Prod.fst (Prod.snd x))) ps k
abbrev d0j(ps:List PV)(k:Int->Prop):Prop:=ceP (fun(x:Coef×Coef×Unit)=>H9 (Prod.fst x) (Prod.fst (Prod.snd x))) ps k
abbrev d4c(ps:List PV)(k:Int->Prop):Prop:=Kv (fun(x:List Coef×List Coef×FnV 121×Unit)=>decide (List.length (Prod.fst x)<=9223372036854775807)&&decide (List.length (Prod.fst (Prod.snd x))<=9223372036854775807)) (fun(x:List Coef×List Coef×FnV 121×Unit)=>XG (Prod.fst x) (Prod.fst (Prod.snd x))) ps k
abbrev d4a(ps:List PV)(k:Int->Prop):Prop:=Kv (fun(x:Lin×Lin×Unit)=>Z9 (Prod.fst x)&&Z9 (Prod.fst (Prod.snd x))) (fun(x:Lin×Lin×Unit)=>VN (Prod.fst x) (Prod.fst (Prod.snd x))) ps k
noncomputable def Ta:IC:=Ww Proofs.Tryz.f123
def Gm:List IRes:=[(.tmp 4)]
abbrev a2l:Nat:=13
def Cu:Zz:=YF []
theorem b2j{G:PV->Prop}(a b:Int)(h:if (decide (a<b))=true then G ((.int .i64 (-1)))else(if (decide (a>b))=true then G ((.int .i64 1))else(G ((.int .i64 0))))):Ze Cu 0 (Zb Gm G) Ta [] (Z7 13 [enc a,enc b]):=Ze.tp (dm [] 14 0x142000142) h
noncomputable def MB:IC:=Ww Proofs.Tryz.f121
def Bv:List IRes:=[(.tmp 4)]
abbrev b0b:Nat:=19
def Rj:Zz:=YF [(122,.pure (preT (fun _:Str×Str×Unit=>true)) (Zi (fun x:Str×Str×Unit=>Lib.compareBytes x.1.s x.2.1.s))),(123,.pure (preT (fun _:Int×Int×Unit=>true)) (Zi (fun x:Int×Int×Unit=>Jh x.1 x.2.1)))]
theorem b9c{G:PV->Prop}(x y:Coef)(h : ∃ y0:Int,AV.pv (Zi (fun(x:Str×Str×Unit)=>Lib.compareBytes (Str.s x.1) (Str.s x.2.1)) [(.str (Str.s x.v)),(.str (Str.s y.v))])=AV.pv (enc y0)∧(if (y0 != 0)=true then G ((.int .i64 y0))else(c4d [(.int .i64 x.c),(.int .i64 y.c)] fun y1=>(G ((.int .i64 y1)))))):Ze Rj 0 (Zb Bv G) MB [] (Z7 19 [enc x,enc y]):=Ze.tp (dm [dv Int] 12 0x5200014252) h
noncomputable def UQ:IC:=Ww Proofs.Tryz.f120
def Ut:List IRes:=[(.tmp 6)]
abbrev a6f:Nat:=39
def Kb:Zz:=YF [(121,.pure (preT (fun _:Coef×Coef×Unit=>true)) (Zi (fun x:Coef×Coef×Unit=>H9 x.1 x.2.1)))]
theorem c0l{G:PV->Prop}(a b:List Coef)(h:At Kb 0 (Zb Ut G) UQ 0 39 [(0,(.pv (.sl 2 false (List.map enc a)))),(1,(.pv (.sl 2 false (List.map enc b)))),(2,(.pv (.fn 121))),(11,(.pv (.sl 2 false (List.map enc a)))),(12,(.pv (.int .i64 (↑(List.length (List.map enc a)):Int)))),(13,(.pv (.int .i64 0)))] []):Ze Kb 0 (Zb Ut G) UQ [] (Z7 39 [enc a,enc b,.fn 121]):=Ze.tp (.nil) h
theorem M4{G:PV->Prop}(a b:List Coef)(i:Int)(h:if (decide (i<(↑(List.length a):Int)))=true then(Hr a i 2 fun y0=>(if (decide (i ≥ (↑(List.length (List.map enc b)):Int)))=true then G ((.int .i64 1))else((Hr b i 2 fun y1=>(d0j [(.agg [(.str (PV.asStr (List.getD (PV.cells (enc y0)) 0 default))),(.int .i64 (PV.asInt (List.getD (PV.cells (enc y0)) (0+1) default)))]),(.agg [(.str (PV.asStr (List.getD (PV.cells (enc y1)) 0 default))),(.int .i64 (PV.asInt (List.getD (PV.cells (enc y1)) (0+1) default)))])] fun y2=>(if (y2 != 0)=true then G ((.int .i64 y2))else(At Kb 0 (Zb Ut G) UQ 0 39 [(0,(.pv (.sl 2 false (List.map enc a)))),(1,(.pv (.sl 2 false (List.map enc b)))),(2,(.pv (.fn 121))),(11,(.pv (.sl 2 false (List.map enc a)))),(12,(.pv (.int .i64 (↑(List.length a):Int)))),(13,(.pv (.int .i64 (IntKind.wrap IntKind.i64 (i+1)))))] [])))))))else(if (decide ((↑(List.length (List.map enc a)):Int)<(↑(List.length (List.map enc b)):Int)))=true then G ((.int .i64 (-1)))else(G ((.int .i64 0))))):At Kb 0 (Zb Ut G) UQ 0 39 [(0,.pv (enc a)),(1,.pv (enc b)),(2,.pv (.fn 121)),(11,.pv (enc a)),(12,.pv (.int .i64 a.length)),(13,.pv (.int .i64 i))] []:=At.tp (dm [dr Coef,dv Int] 35 0x142020001426225100014225101642) h
noncomputable def a0i:IC:=Ww Proofs.Tryz.f89
def T9:List IRes:=[(.tmp 4)]
abbrev b8h:Nat:=19
def OU:Zz:=YF [(120,.pure (preT (fun x:List Coef×List Coef×FnV 121×Unit=>decide (x.1.length<=9223372036854775807)&&decide (x.2.1.length<=9223372036854775807))) (Zi (fun x:List Coef×List Coef×FnV 121×Unit=>XG x.1 x.2.1))),(123,.pure (preT (fun _:Int×Int×Unit=>true)) (Zi (fun x:Int×Int×Unit=>Jh x.1 x.2.1)))]
theorem c8q{G:PV->Prop}(a b:Lin)(h:(d4c [(.sl 2 false (List.map enc a.t)),(.sl 2 false (List.map enc b.t)),(.fn 121)] fun y0=>(if (y0 != 0)=true then G ((.int .i64 y0))else(c4d [(.int .i64 a.k),(.int .i64 b.k)] fun y1=>(G ((.int .i64 y1))))))):Ze OU 0 (Zb T9 G) a0i [] (Z7 19 [enc a,enc b]):=Ze.tp (dm [dv Int] 12 0x5200014251) h
noncomputable def a5y:IC:=Ww Proofs.Tryz.f63
def b0i:List IRes:=[(.tmp 4)]
abbrev c9o:Nat:=9
def c3z:Zz:=YF [(89,.pure (preT (fun x:Lin×Lin×Unit=>Z9 x.1&&Z9 x.2.1)) (Zi (fun x:Lin×Lin×Unit=>VN x.1 x.2.1)))]
theorem d3d{G:PV->Prop}(a b:Lin)(h:(d4a [(.agg [(.int .i64 a.k),(.sl 2 false (List.map enc a.t))]),(.agg [(.int .i64 b.k),(.sl 2 false (List.map enc b.t))])] fun y0=>(G ((.bool (y0==0)))))):Ze c3z 0 (Zb b0i G) a5y [] (Z7 9 [enc a,enc b]):=Ze.tp (.req (.abs (Int) (fun YY=>AV.pv (enc YY)) (.lit (.nil)))) h
end Go.Pl
namespace Go.Pl
open Go.RowKit
open Enc (enc dec is)
open EncL (encL decL isL)
theorem FI: ∀ a:Int×Int×Unit,true=true->Ze Cu 0 (Zb Gm (Zq (Jh a.1 a.2.1))) Ta [] (Z7 a2l (encL a)):=by
 rintro⟨a,b,⟨⟩⟩ -
 show Ze Cu 0 (Zb Gm (Zq (Jh a b))) _ _ _
 refine b2j a b (XZ (fun h=> ?_) fun h=>XZ (fun k=> ?_) fun k=> ?_)
 ·exact VW (by simp[Jh,h])
 ·exact VW (by simp[Jh,h,k])
 ·exact VW (by simp[Jh,h,k])
theorem a5o: ∀ a:Coef×Coef×Unit,true=true->Ze Rj 0 (Zb Bv (Zq (H9 a.1 a.2.1))) MB [] (Z7 b0b (encL a)):=by
 rintro⟨x,y,⟨⟩⟩ -
 show Ze Rj 0 (Zb Bv (Zq (H9 x y))) _ _ _
 unfold H9
 refine b9c x y (Zd (x.v,y.v,()) rfl (AQ (fun h=> ?_) fun h=>Zd (x.c,y.c,()) rfl ?_))
 ·have h:Lib.compareBytes x.v.s y.v.s≠0:=by simpa using h
  rw[if_pos h]
  exact VW rfl
 ·have h : ¬ Lib.compareBytes x.v.s y.v.s≠0:=by simpa using h
  rw[if_neg h]
  exact VW rfl
theorem Nt(t:Coef):(PV.agg [.str (PV.asStr (List.getD (PV.cells (enc t)) 0 default)),.int .i64 (PV.asInt (List.getD (PV.cells (enc t)) (0+1) default))])=enc t:=rfl
theorem Og(a b:List Coef)(ha:a.length<=9223372036854775807): ∀ (m i:Nat),m+i=a.length->i<=b.length ->
  At Kb 0 (Zb Ut (Zq (XG (a.drop i) (b.drop i)))) UQ 0 39 [(0,.pv (enc a)),(1,.pv (enc b)),(2,.pv (.fn 121)),(11,.pv (enc a)),(12,.pv (.int .i64 a.length)),(13,.pv (.int .i64 i))] []:=by
 intro m
 induction m with
 | zero=>
  intro i hi hb
  have ea:a.drop i=[]:=List.drop_of_length_le (by omega)
  rw[ea]
  refine M4 a b i (XV (Qd (by omega)) (XZ (fun h=> ?_) fun h=> ?_))
  ·have h:a.length<b.length:=by simpa using h
   have:b.drop i=b[i]::b.drop (i+1):=List.drop_eq_getElem_cons (by omega)
   rw[this]
   exact VW (by rw[XG])
  ·have h : ¬ a.length<b.length:=by simpa using h
   have:b.drop i=[]:=List.drop_of_length_le (by omega)
   rw[this]
   exact VW (by rw[XG])
 | succ m ih=>
  intro i hi hb
  have hlt:i<a.length:=by omega
  have ea:a.drop i=a[i]::a.drop (i+1):=List.drop_eq_getElem_cons hlt
  rw[ea]
  refine M4 a b i (Xg (QI hlt) ⟨ZN hlt rfl,Ye hlt (XZ (fun h=> ?_) fun h=> ?_)⟩)
  ·have h:b.length<=i:=by
    have:(i:Int) ≥ ((List.map (enc:Coef->PV) b).length:Int):=h
    rw[List.length_map]at this
    omega
   have:b.drop i=[]:=List.drop_of_length_le h
   rw[this]
   exact VW (by rw[XG])
  ·have h:i<b.length:=by
    have : ¬ (i:Int) ≥ ((List.map (enc:Coef->PV) b).length:Int):=h
    rw[List.length_map]at this
    omega
   have eb:b.drop i=b[i]::b.drop (i+1):=List.drop_eq_getElem_cons h
   rw[eb]
   refine⟨ZN h rfl,Ye h ?_⟩
   rw[Nt,Nt]
   refine Zd (a[i],b[i],()) rfl (AQ (fun hc=> ?_) fun hc=> ?_)
   ·have hc:H9 a[i] b[i]≠0:=by simpa using hc
    exact VW (by rw[XG,if_pos hc])
   ·have hc : ¬ H9 a[i] b[i]≠0:=by simpa using hc
    have e:XG (a[i]::a.drop (i+1)) (b[i]::b.drop (i+1))=XG (a.drop (i+1)) (b.drop (i+1)):=by rw[XG,if_neg hc]
    rw[e,next (by omega)]
    exact ih (i+1) (by omega) (by omega)
theorem a3r: ∀ a:List Coef×List Coef×FnV 121×Unit,(decide (a.1.length<=9223372036854775807)&&decide (a.2.1.length<=9223372036854775807))=true->Ze Kb 0 (Zb Ut (Zq (XG a.1 a.2.1))) UQ [] (Z7 a6f (encL a)):=by
 rintro⟨a,b,g,⟨⟩⟩ h
 simp only[Bool.and_eq_true,decide_eq_true_eq]at h
 refine c0l a b ?_
 rw[List.length_map]
 exact Og a b h.1 a.length 0 (by omega) (by omega)
theorem b4v: ∀ a:Lin×Lin×Unit,(Z9 a.1&&Z9 a.2.1)=true->Ze OU 0 (Zb T9 (Zq (VN a.1 a.2.1))) a0i [] (Z7 b8h (encL a)):=by
 rintro⟨a,b,⟨⟩⟩ h
 show Ze OU 0 (Zb T9 (Zq (VN a b))) _ _ _
 unfold VN
 refine c8q a b ⟨Zc (a.t,b.t,({}:FnV 121),()) rfl h,Zd (a.t,b.t,({}:FnV 121),()) rfl (AQ (fun hc=> ?_) fun hc=>Zd (a.k,b.k,()) rfl ?_)⟩
 ·have hc:XG a.t b.t≠0:=by simpa using hc
  rw[if_pos hc]
  exact VW rfl
 ·have hc : ¬ XG a.t b.t≠0:=by simpa using hc
  rw[if_neg hc]
  exact VW rfl
theorem b8t: ∀ a:Lin×Lin×Unit,(Z9 a.1&&Z9 a.2.1)=true->Ze c3z 0 (Zb b0i (Zq (VN a.1 a.2.1==0))) a5y [] (Z7 c9o (encL a)):=by
 rintro⟨a,b,⟨⟩⟩ h
 exact d3d a b ⟨Zc (a,b,()) rfl h,Zd (a,b,()) rfl (ZC rfl)⟩
structure BoxT where
 v:List Str
 m:Int
 deriving DecidableEq
instance:Enc BoxT where
 sz:=2
 enc x:=.agg [enc x.v,enc x.m]
 dec | .agg [a,b]=>⟨dec a,dec b⟩|_=>⟨[],0⟩
 is | .agg [a,b]=>is (List Str) a&&is Int b|_=>false
 is_enc v:=by simp
 dec_enc v:=by simp
 sub p h:=by
  cases p with
  | agg xs=>
   match xs,h with
   | [a,b],h=>
    simp only[Bool.and_eq_true]at h
    exact .agg (.cons (Enc.sub a h.1).2 (.cons (Enc.sub b h.2).2 .nil))
  | _=>cases h
@[simp] theorem d4q (a b : PV) : is BoxT (.agg [a, b]) = (is (List Str) a && is Int b) := rfl
@[simp] theorem d3f (a b : PV) : (dec (.agg [a, b]) : BoxT) = ⟨dec a, dec b⟩ := rfl
structure Mono where
 c:Int
 v:List Str
 deriving DecidableEq
instance:Enc Mono where
 sz:=2
 enc x:=.agg [enc x.c,enc x.v]
 dec | .agg [a,b]=>⟨dec a,dec b⟩|_=>⟨0,[]⟩
 is | .agg [a,b]=>is Int a&&is (List Str) b|_=>false
 is_enc v:=by simp
 dec_enc v:=by simp
 sub p h:=by
  cases p with
  | agg xs=>
   match xs,h with
   | [a,b],h=>
    simp only[Bool.and_eq_true]at h
    exact .agg (.cons (Enc.sub a h.1).2 (.cons (Enc.sub b h.2).2 .nil))
  | _=>cases h
@[simp] theorem d4j (a b : PV) : is Mono (.agg [a, b]) = (is Int a && is (List Str) b) := rfl
@[simp] theorem d2a (a b : PV) : (dec (.agg [a, b]) : Mono) = ⟨dec a, dec b⟩ := rfl
structure NilS where
 deriving DecidableEq
instance:Enc NilS where
 sz:=1
 enc _:=.sl 0 true []
 dec _:=⟨⟩
 is | .sl 0 true []=>true|_=>false
 is_enc _:=rfl
 dec_enc _:=rfl
 sub p h:=by
  cases p with
  | sl s t xs=>
   cases xs with
   | nil=>cases s with
    | zero=>cases t with
     | true=>exact .refl _
     | false=>cases h
    | succ s=>cases h
   | cons x xs=>cases s <;> cases t <;> cases h
  | _=>cases h
end Go.Pl
namespace Go.Pl
open Go.RowKit
open Enc (enc dec is)
open EncL (encL decL isL)
set_option maxRecDepth 100000
abbrev d4h(ps:List PV)(k:Int×Er->Prop):Prop:=Kv (fun(x:Str×Unit)=>decide (List.length (Str.s (Prod.fst x))<=281474976710656)) (fun(x:Str×Unit)=>YV (Prod.fst x)) ps k
abbrev d3p(ps:List PV)(k:Str->Prop):Prop:=Kv (fun(x:Int×Unit)=>decide ((-9223372036854775808:Int)<=Prod.fst x)&&decide (Prod.fst x<=9223372036854775807)) (fun(x:Int×Unit)=>VP (Prod.fst x)) ps k
-- IMPOSSIBLE
noncomputable def YT:IC:=Ww Proofs.Tryz.f140
def YW:List IRes:=[(.tmp 2)]
abbrev a3d:Nat:=67
def Xn:Zz:=YF [(169,.pure (preT (fun _:Str×Str×Unit=>true)) (Zi (fun x:Str×Str×Unit=>x.2.1.s.isPrefixOf x.1.s))),(170,.pure (preT (fun x:Str×Unit=>decide (x.1.s.length<=281474976710656))) (Zi (fun x:Str×Unit=>YV x.1))),(68,.pure (preT (fun x:Int×Unit=>decide (-9223372036854775808<=x.1)&&decide (x.1<=9223372036854775807))) (Zi (fun x:Int×Unit=>VP x.1)))]
theorem a8o{G:PV->Prop}(s:List UInt8)(h : ∃ y0:Bool,AV.pv (Zi (fun(x:Str×Str×Unit)=>List.isPrefixOf (Str.s x.2.1) (Str.s x.1)) [(.str s),(.str [(95:UInt8)])])=AV.pv (enc y0)∧(if (y0)=true then(decide (0<=1)&&true&&decide (Int.toNat 1<=List.length s)&&decide (List.length s<=List.length s))=true∧((d4h [(.str (List.drop (Int.toNat 1) (List.take (List.length s) s)))] fun y1=>((MN (enc y1.2)&&Prod.fst (true,PV.bool (QA (enc y1.2))))=true∧(if (QA (enc y1.2))=true then if (decide (y1.1>0))=true then if (decide ((↑(List.length s):Int)<=10))=true then(d3p [(.int .i64 y1.1)] fun y2=>((decide (0<=1)&&true&&decide (Int.toNat 1<=List.length s)&&decide (List.length s<=List.length s))=true∧(G ((.bool (Str.s y2==List.drop (Int.toNat 1) (List.take (List.length s) s)))))))else(G ((.bool false)))else(G ((.bool false)))else(G ((.bool false)))))))else(At Xn 0 (Zb YW G) YT 0 67 [(0,(.pv (.str s))),(34,(.pv (.sl 1 false (Zw s)))),(35,(.pv (.int .i64 (↑(List.length (Zw s)):Int)))),(36,(.pv (.int .i64 0)))] []))):Ze Xn 0 (Zb YW G) YT [] (Z7 67 [.str s]):=Ze.tp (dm [dv Bool,dv (Int×Er),dv Str] 70 0x2222222222220222222222022222022212271200a4222201842220294161103e452) h
theorem Sd{G:PV->Prop}(s:List UInt8)(i:Int)(h:if (decide (i<(↑(List.length (Zw s)):Int)))=true then(decide (0<=i)&&decide (Int.toNat i<List.length (Zw s))&&1==1)=true∧((decide (0+List.length [Sh.int IntKind.u8]<=List.length (PV.cells (List.getD (Zw s) (Int.toNat i) default)))&&Yp (PV.cells (List.getD (Zw s) (Int.toNat i) default)) 0 [Sh.int IntKind.u8])=true∧(if (decide (PV.asInt (List.getD (PV.cells (List.getD (Zw s) (Int.toNat i) default)) 0 default)<97))=true then if (i==0)=true then G ((.bool false))else(if (decide (PV.asInt (List.getD (PV.cells (List.getD (Zw s) (Int.toNat i) default)) 0 default)<48))=true then G ((.bool false))else(if (decide (PV.asInt (List.getD (PV.cells (List.getD (Zw s) (Int.toNat i) default)) 0 default)>57))=true then G ((.bool false))else(At Xn 0 (Zb YW G) YT 0 67 [(0,(.pv (.str s))),(34,(.pv (.sl 1 false (Zw s)))),(35,(.pv (.int .i64 (↑(List.length (Zw s)):Int)))),(36,(.pv (.int .i64 (IntKind.wrap IntKind.i64 (i+1)))))] [])))else(if (decide (PV.asInt (List.getD (PV.cells (List.getD (Zw s) (Int.toNat i) default)) 0 default)>122))=true then if (i==0)=true then G ((.bool false))else(if (decide (PV.asInt (List.getD (PV.cells (List.getD (Zw s) (Int.toNat i) default)) 0 default)<48))=true then G ((.bool false))else(if (decide (PV.asInt (List.getD (PV.cells (List.getD (Zw s) (Int.toNat i) default)) 0 default)>57))=true then G ((.bool false))else(At Xn 0 (Zb YW G) YT 0 67 [(0,(.pv (.str s))),(34,(.pv (.sl 1 false (Zw s)))),(35,(.pv (.int .i64 (↑(List.length (Zw s)):Int)))),(36,(.pv (.int .i64 (IntKind.wrap IntKind.i64 (i+1)))))] [])))else(At Xn 0 (Zb YW G) YT 0 67 [(0,(.pv (.str s))),(34,(.pv (.sl 1 false (Zw s)))),(35,(.pv (.int .i64 (↑(List.length (Zw s)):Int)))),(36,(.pv (.int .i64 (IntKind.wrap IntKind.i64 (i+1)))))] []))))else(if (!s==[])=true then G ((.bool (decide ((↑(List.length s):Int)<=30))))else(G ((.bool false))))):At Xn 0 (Zb YW G) YT 0 67 [(0,.pv (.str s)),(34,.pv (.sl 1 false (Zw s))),(35,.pv (.int .i64 (Zw s).length)),(36,.pv (.int .i64 i))] []:=At.tp (dm [] 137 0x22202222005420222222220200014222220222220064222220222222222200b422202d42220200014222220222220064222220222222222200b42222220304213107542) h
end Go.Pl
namespace Go.Pl
open Go.RowKit
open Enc (enc dec is)
open EncL (encL decL isL)
theorem PS(s:List UInt8)(hs:s.length<=281474976710656): ∀ (m i:Nat),m+i=s.length->At Xn 0 (Zb YW (Zq (Wu s i))) YT 0 67 [(0,.pv (.str s)),(34,.pv (.sl 1 false (Zw s))),(35,.pv (.int .i64 (Zw s).length)),(36,.pv (.int .i64 i))] []:=by
 intro m
 induction m with
 | zero=>
  intro i hi
  have e:Wu s i=(!(s==[])&&decide (s.length<=30)):=by
   unfold Wu
   cases i with
   | zero=>cases s with
    | nil=>rfl
    | cons c r=>simp at hi
   | succ i=>simp only;rw[List.drop_of_length_le (show s.length<=i+1 by omega)];simp
  rw[e]
  refine Sd s i (XV (Qd (by rw[GG];omega)) (VO (fun h=>ZC ?_) fun h=>ZC ?_))
  ·rw[h,Bool.true_and];exact decide_eq_decide.2 (by omega)
  ·rw[h,Bool.false_and]
 | succ m ih=>
  intro i hi
  have hlt:i<s.length:=by omega
  have h:=ih (i+1) (by omega)
  refine Sd s i ?_
  rw[a6m hlt,next (by omega)]
  have stop:(lowB s[i]=false∧(i=0∨digB s[i]=false))->Zq (Wu s i) (.bool false):=fun hb=>ZC (a3e hlt hb).symm
  have go:(lowB s[i]=true∨(i≠0∧digB s[i]=true))->At Xn 0 (Zb YW (Zq (Wu s i))) YT 0 67 [(0,.pv (.str s)),(34,.pv (.sl 1 false (Zw s))),(35,.pv (.int .i64 (Zw s).length)),(36,.pv (.int .i64 ((i+1:Nat):Int)))] []:=fun hb=>by rw[a3w hlt hb];exact h
  have rest:lowB s[i]=false->(if ((i:Int)==0)=true then Zq (Wu s i) (.bool false)else if decide ((s[i].toNat:Int)<48)=true then Zq (Wu s i) (.bool false)else if decide ((s[i].toNat:Int)>57)=true then Zq (Wu s i) (.bool false)else At Xn 0 (Zb YW (Zq (Wu s i))) YT 0 67 [(0,.pv (.str s)),(34,.pv (.sl 1 false (Zw s))),(35,.pv (.int .i64 (Zw s).length)),(36,.pv (.int .i64 ((i+1:Nat):Int)))] []):=by
   intro hl
   refine WU (fun h0=>stop ⟨hl,.inl (by omega)⟩) fun h0=>XZ (fun h1=>stop ⟨hl,.inr (SN (by omega))⟩) fun h1=>XZ (fun h2=>stop ⟨hl,.inr (SN (by omega))⟩) fun h2=>go (.inr ⟨by omega,Wq.2 (by omega)⟩)
  refine Xg (QI (by rw[GG];exact hlt)) ⟨by rw[GG];simp[hlt],by rfl,?_⟩
  refine XZ (fun h1=>rest (SC ?_)) fun h1=>XZ (fun h2=>rest (SC ?_)) fun h2=>go (.inl (a0s.2 ?_))
  ·have h1:(s[i].toNat:Int)<97:=h1
   omega
  ·have h2:(s[i].toNat:Int)>122:=h2
   omega
  ·have h1 : ¬ (s[i].toNat:Int)<97:=h1
   have h2 : ¬ (s[i].toNat:Int)>122:=h2
   omega
theorem Oc: ∀ a:Str×Unit,decide (a.1.s.length<=281474976710656)=true->Ze Xn 0 (Zb YW (Zq (Yw a.1))) YT [] (Z7 a3d (encL a)):=by
 rintro⟨⟨s⟩,⟨⟩⟩ hl
 have hl:s.length<=281474976710656:=by simpa using hl
 refine a8o s (Zd (⟨s⟩,⟨[95]⟩,()) rfl (VO (fun h=> ?_) fun h=> ?_))
 ·have h:[95].isPrefixOf s=true:=h
  obtain⟨r,rfl⟩ : ∃ r,s=95::r:=by
   cases s with
   | nil=>simp at h
   | cons c r=>
    have:95=c:=by simpa using h
    exact⟨r,by rw[this]⟩
  have e1:List.drop (Int.toNat 1) (List.take (List.length (95::r)) (95::r))=r:=by rw[List.take_of_length_le (Nat.le_refl _)];rfl
  simp only[e1]
  refine⟨by simp,Zc (⟨r⟩,()) rfl (by simp at hl ⊢;omega),Zd (⟨r⟩,()) rfl ⟨by show(MN (enc (YV ⟨r⟩).2)&&true)=true;rw[d4g];rfl,?_⟩⟩
  show if QA (enc (YV ⟨r⟩).2)=true then(if decide ((YV ⟨r⟩).1>0)=true then(if _ then _ else Zq (Yw ⟨95::r⟩) _)else Zq (Yw ⟨95::r⟩) _)else Zq (Yw ⟨95::r⟩) _
  rw[a6z]
  by_cases h9:r.length<=9
  ·rw[<- b7k r h9,decide_eq_true h9,Bool.and_true]
   refine VO (fun h1=>VO (fun h2=>Xg (by simp;omega) ⟨Zc ((YV ⟨r⟩).1,()) rfl (by have:=FZ ⟨r⟩;simp;omega),Zd ((YV ⟨r⟩).1,()) rfl ⟨by simp,ZC ?_⟩⟩) fun h2=>ZC ?_) fun h1=>ZC ?_
   ·rw[h1,h2];simp only[Bool.true_and,Bool.and_true];rfl
   ·rw[h2];simp
   ·rw[h1];simp
  ·rw[decide_eq_false h9,Bool.and_false]
   refine VO (fun h1=>VO (fun h2=>XV (by simp;omega) (ZC rfl)) fun h2=>ZC rfl) fun h1=>ZC rfl
 ·have h:[95].isPrefixOf s=false:=h
  show At Xn 0 (Zb YW (Zq (Yw ⟨s⟩))) YT 0 67 _ _
  rw[a4g h]
  exact PS s hl s.length 0 (by omega)
end Go.Pl
namespace Go.Pl
end Go.Pl
namespace Go.Pl.Cm
open Go.RowKit
open Enc (enc dec is)
open EncL (encL decL isL)
structure CmpOK {α:Type} (f:α->α->Int):Prop where
 anti : ∀ a b,f b a = - f a b
 zero : ∀ a b,f a b=0 ↔ a=b
 trans : ∀ a b c,f a b<=0->f b c<=0->f a c<=0
 rng : ∀ a b,-1<=f a b∧f a b<=1
theorem CmpOK.strict{α:Type}{f:α->α->Int}(h:CmpOK f){a b c:α}(h1:f a b<0)(h2:f b c<=0):f a c<0:=by
 have h3:=h.trans a b c (by omega) h2
 by_cases h0:f a c=0
 ·obtain rfl:=(h.zero a c).1 h0
  have:=h.anti a b
  omega
 ·omega
def XR{α:Type}(f:α->α->Int):List α->List α->Int
 | [],[]=>0
 | [],_::_=> -1
 | _::_,[]=>1
 | x::l,y::m=>if f x y≠0 then f x y else XR f l m
theorem Tw{α:Type}{f:α->α->Int}(h:CmpOK f): ∀ a b,XR f b a = - XR f a b
 | [],[]=>rfl
 | [],_::_=>rfl
 | _::_,[]=>rfl
 | x::l,y::m=>by
  have h1:=h.anti x y
  rw[XR,XR,h1,Tw h l m]
  by_cases h0:f x y=0
  ·rw[if_neg (by omega),if_neg (by omega)]
  ·rw[if_pos (by omega),if_pos (by omega)]
theorem Sl{α:Type}{f:α->α->Int}(h:CmpOK f): ∀ a b,XR f a b=0 ↔ a=b
 | [],[]=>by simp[XR]
 | [],_::_=>by simp[XR]
 | _::_,[]=>by simp[XR]
 | x::l,y::m=>by
  rw[XR,List.cons.injEq,<- h.zero x y,<- Sl h l m]
  by_cases h0:f x y=0
  ·rw[if_neg (by omega)];omega
  ·rw[if_pos (by omega)];omega
theorem MO{α:Type}{f:α->α->Int}(h:CmpOK f): ∀ a b,-1<=XR f a b∧XR f a b<=1
 | [],[]=>by simp[XR]
 | [],_::_=>by simp[XR]
 | _::_,[]=>by simp[XR]
 | x::l,y::m=>by
  rw[XR]
  split
  ·exact h.rng x y
  ·exact MO h l m
theorem CU{α:Type}{f:α->α->Int}(h:CmpOK f): ∀ a b c,XR f a b<=0->XR f b c<=0->XR f a c<=0
 | [],_,[],_,_=>by simp[XR]
 | [],_,_::_,_,_=>by simp[XR]
 | _::_,[],_,h1,_=>by simp[XR]at h1
 | _::_,_::_,[],_,h2=>by simp[XR]at h2
 | x::l,y::m,z::n,h1,h2=>by
  rw[XR]at h1 h2 ⊢
  by_cases a:f x y=0
  ·obtain rfl:=(h.zero x y).1 a
   rw[if_neg (by omega)]at h1
   by_cases b:f x z=0
   ·rw[if_neg (by omega)]at h2 ⊢
    exact CU h l m n h1 h2
   ·rw[if_pos b]at h2 ⊢
    exact h2
  ·rw[if_pos a]at h1
   by_cases b:f y z=0
   ·obtain rfl:=(h.zero y z).1 b
    rw[if_pos a]
    exact h1
   ·rw[if_pos b]at h2
    have:=h.strict (show f x y<0 by omega) h2
    rw[if_pos (by omega)]
    omega
theorem a0o{α:Type}{f:α->α->Int}(h:CmpOK f):CmpOK (XR f):=⟨Tw h,Sl h,CU h,MO h⟩
theorem Ej{α β γ:Type}{f:β->β->Int}{g:γ->γ->Int}(p:α->β)(q:α->γ)(hpq : ∀ a b,p a=p b->q a=q b->a=b)(hf:CmpOK f)(hg:CmpOK g):CmpOK fun a b:α=>if f (p a) (p b)≠0 then f (p a) (p b)else g (q a) (q b):=by
 refine⟨fun a b=> ?_,fun a b=> ?_,fun a b c h1 h2=> ?_,fun a b=> ?_⟩
 ·have h1:=hf.anti (p a) (p b)
  have h2:=hg.anti (q a) (q b)
  try simp only
  by_cases h0:f (p a) (p b)=0
  ·rw[if_neg (by omega),if_neg (by omega),h2]
  ·rw[if_pos (by omega),if_pos h0,h1]
 ·try simp only
  by_cases h0:f (p a) (p b)=0
  ·rw[if_neg (by omega),hg.zero]
   exact⟨fun h=>hpq a b ((hf.zero _ _).1 h0) h,fun h=>by rw[h]⟩
  ·rw[if_pos h0]
   exact⟨fun h=>absurd h h0,fun h=>absurd ((hf.zero _ _).2 (by rw[h])) h0⟩
 ·try simp only at h1 h2 ⊢
  by_cases x:f (p a) (p b)=0
  ·have e:=(hf.zero _ _).1 x
   rw[if_neg (by omega)]at h1
   rw[e]
   by_cases y:f (p b) (p c)=0
   ·rw[if_neg (by omega)]at h2 ⊢
    exact hg.trans _ _ _ h1 h2
   ·rw[if_pos y]at h2 ⊢
    exact h2
  ·rw[if_pos x]at h1
   by_cases y:f (p b) (p c)=0
   ·have e:=(hf.zero _ _).1 y
    rw[<- e,if_pos x]
    exact h1
   ·rw[if_pos y]at h2
    have:=hf.strict (show f (p a) (p b)<0 by omega) h2
    rw[if_pos (by omega)]
    omega
 ·try simp only
  split
  ·exact hf.rng _ _
  ·exact hg.rng _ _
theorem Q9:CmpOK Jh:=by
 refine⟨fun a b=> ?_,fun a b=> ?_,fun a b c=> ?_,fun a b=> ?_⟩ <;> unfold Jh <;> (repeat' split) <;> omega
def a2i(a b:UInt8):Int:=if a<b then -1 else if b<a then 1 else 0
theorem U8(a b:UInt8):a2i a b=Jh a.toNat b.toNat:=by
 unfold a2i Jh
 simp only[UInt8.lt_iff_toNat_lt]
 repeat' split
 all_goals omega
theorem c1w:CmpOK a2i:=by
 refine⟨fun a b=> ?_,fun a b=> ?_,fun a b c=> ?_,fun a b=> ?_⟩
 ·rw[U8,U8];exact Q9.anti _ _
 ·rw[U8,Q9.zero]
  exact⟨fun h=>UInt8.toNat_inj.1 (by omega),fun h=>by rw[h]⟩
 ·rw[U8,U8,U8];exact Q9.trans _ _ _
 ·rw[U8];exact Q9.rng _ _
theorem Lc: ∀ a b:List UInt8,Lib.compareBytes a b=XR a2i a b
 | [],[]=>rfl
 | [],_::_=>rfl
 | _::_,[]=>rfl
 | x::l,y::m=>by
  rw[Lib.compareBytes,XR,Lc l m]
  unfold a2i
  by_cases h1:x<y
  ·simp[h1]
  ·by_cases h2:y<x
   ·simp[h1,h2]
   ·simp[h1,h2]
theorem b5t:CmpOK Lib.compareBytes:=by
 have:Lib.compareBytes=XR a2i:=by funext a b;exact Lc a b
 rw[this]
 exact a0o c1w
theorem b6i:CmpOK H9:=Ej (fun x:Coef=>x.v.s) (fun x:Coef=>x.c) (fun a b h1 h2=>by
 obtain⟨⟨s⟩,c⟩:=a
 obtain⟨⟨s'⟩,c'⟩:=b
 simp only at h1 h2
 rw[h1,h2]) b5t Q9
theorem NQ: ∀ a b:List Coef,XG a b=XR H9 a b
 | [],[]=>rfl
 | [],_::_=>rfl
 | _::_,[]=>rfl
 | x::l,y::m=>by rw[XG,XR,NQ l m]
theorem a9j:CmpOK XG:=by
 have:XG=XR H9:=by funext a b;exact NQ a b
 rw[this]
 exact a0o b6i
theorem a2w:CmpOK VN:=Ej (fun x:Lin=>x.t) (fun x:Lin=>x.k) (fun a b h1 h2=>by
 obtain⟨k,t⟩:=a
 obtain⟨k',t'⟩:=b
 simp only at h1 h2
 rw[h1,h2]) a9j Q9
theorem cmpLin_dec(a b:Lin):(VN a b==0)=decide (a=b):=by
 have:=a2w.zero a b
 by_cases h:a=b
 ·rw[this.2 h,decide_eq_true h];rfl
 ·rw[decide_eq_false h]
  exact beq_eq_false_iff_ne.2 fun e=>h (this.1 e)
end Go.Pl.Cm
namespace Go.Pl
open Go.RowKit
open Enc (enc dec is)
open EncL (encL decL isL)
set_option maxRecDepth 100000
noncomputable def H7:IC:=Ww Proofs.Tryz.f61
def G5:List IRes:=[(.tmp 4)]
abbrev c6p:Nat:=26
noncomputable def AR:Zz:=YF []
theorem d3x{G:PV->Prop}(a b:List Int)(h:if ((↑(List.length (List.map enc a)):Int) != (↑(List.length (List.map enc b)):Int))=true then G ((.bool false))else(At AR 0 (Zb G5 G) H7 0 26 [(0,(.pv (.sl 1 false (List.map enc a)))),(1,(.pv (.sl 1 false (List.map enc b)))),(12,(.pv (.int .i64 (↑(List.length (List.map enc a)):Int)))),(13,(.pv (.int .i64 0)))] [])):Ze AR 0 (Zb G5 G) H7 [] (Z7 26 [enc a,enc b]):=Ze.tp (dm [] 8 0x142) h
theorem b3k{G:PV->Prop}(a b:List Int)(i:Int)(h:if (decide (i<(↑(List.length (List.map enc a)):Int)))=true then(decide (0<=i)&&decide (Int.toNat i<List.length (List.map enc a))&&Enc.sz Int==1)=true∧(∃ y0:Int,AV.pv (PV.rptr (PV.cells (List.getD (List.map enc a) (Int.toNat i) default)))=AV.pv (PV.rptr (PV.cells ((enc) y0)))∧((decide (0<=i)&&decide (Int.toNat i<List.length (List.map enc b))&&Enc.sz Int==1)=true∧(∃ y1:Int,AV.pv (PV.rptr (PV.cells (List.getD (List.map enc b) (Int.toNat i) default)))=AV.pv (PV.rptr (PV.cells ((enc) y1)))∧(if (PV.asInt (List.getD (PV.cells (enc y0)) 0 default) != PV.asInt (List.getD (PV.cells (enc y1)) 0 default))=true then G ((.bool false))else(At AR 0 (Zb G5 G) H7 0 26 [(0,(.pv (.sl 1 false (List.map enc a)))),(1,(.pv (.sl 1 false (List.map enc b)))),(12,(.pv (.int .i64 (↑(List.length (List.map enc a)):Int)))),(13,(.pv (.int .i64 (IntKind.wrap IntKind.i64 (i+1)))))] [])))))else(G ((.bool true)))):At AR 0 (Zb G5 G) H7 0 26 [(13,.pv (.int .i64 i)),(12,.pv (.int .i64 (a.map (enc:Int->PV)).length)),(0,.pv (enc a)),(1,.pv (enc b))] []:=At.tp (dm [dr Int] 21 0x200014225125100e42) h
noncomputable def HV:IC:=Ww Proofs.Tryz.f62
def GZ:List IRes:=[(.tmp 6)]
abbrev c6d:Nat:=32
noncomputable def TD:Zz:=YF [(63,.pure (preT (fun x:Lin×Lin×Unit=>Z9 x.1&&Z9 x.2.1)) (Zi (fun x:Lin×Lin×Unit=>decide (x.1=x.2.1))))]
theorem d0o{G:PV->Prop}(a b:List Lin)(h:if ((↑(List.length (List.map enc a)):Int) != (↑(List.length (List.map enc b)):Int))=true then G ((.bool false))else(At TD 0 (Zb GZ G) HV 0 32 [(1,(.pv (.sl 2 false (List.map enc b)))),(2,(.pv (.fn 63))),(15,(.pv (.sl 2 false (List.map enc a)))),(16,(.pv (.int .i64 (↑(List.length (List.map enc a)):Int)))),(17,(.pv (.int .i64 0)))] [])):Ze TD 0 (Zb GZ G) HV [] (Z7 32 [enc a,enc b,.fn 63]):=Ze.tp (dm [] 8 0x142) h
theorem b2g{G:PV->Prop}(a b:List Lin)(i:Int)(h:if (decide (i<(↑(List.length (List.map enc a)):Int)))=true then(decide (0<=i)&&decide (Int.toNat i<List.length (List.map enc a))&&Enc.sz Lin==2)=true∧(∃ y0:Lin,AV.pv (PV.rptr (PV.cells (List.getD (List.map enc a) (Int.toNat i) default)))=AV.pv (PV.rptr (PV.cells ((enc) y0)))∧((decide (0<=i)&&decide (Int.toNat i<List.length (List.map enc b))&&Enc.sz Lin==2)=true∧(∃ y1:Lin,AV.pv (PV.rptr (PV.cells (List.getD (List.map enc b) (Int.toNat i) default)))=AV.pv (PV.rptr (PV.cells ((enc) y1)))∧((Go.Pl.preT (fun(x:Lin×Lin×Unit)=>Z9 x.1&&Z9 x.2.1) [(.agg [(.int .i64 (PV.asInt (List.getD (PV.cells (enc y0)) 0 default))),(.sl 2 false (PV.asXs (List.getD (PV.cells (enc y0)) (0+1) default)))]),(.agg [(.int .i64 (PV.asInt (List.getD (PV.cells (enc y1)) 0 default))),(.sl 2 false (PV.asXs (List.getD (PV.cells (enc y1)) (0+1) default)))])])=true∧(∃ y2:Bool,AV.pv (Zi (fun(x:Lin×Lin×Unit)=>decide (x.1=x.2.1)) [(.agg [(.int .i64 (PV.asInt (List.getD (PV.cells (enc y0)) 0 default))),(.sl 2 false (PV.asXs (List.getD (PV.cells (enc y0)) (0+1) default)))]),(.agg [(.int .i64 (PV.asInt (List.getD (PV.cells (enc y1)) 0 default))),(.sl 2 false (PV.asXs (List.getD (PV.cells (enc y1)) (0+1) default)))])])=AV.pv (enc y2)∧(if (!y2)=true then G ((.bool false))else(At TD 0 (Zb GZ G) HV 0 32 [(1,(.pv (.sl 2 false (List.map enc b)))),(2,(.pv (.fn 63))),(15,(.pv (.sl 2 false (List.map enc a)))),(16,(.pv (.int .i64 (↑(List.length (List.map enc a)):Int)))),(17,(.pv (.int .i64 (IntKind.wrap IntKind.i64 (i+1)))))] [])))))))else(G ((.bool true)))):At TD 0 (Zb GZ G) HV 0 32 [(17,.pv (.int .i64 i)),(16,.pv (.int .i64 (a.map (enc:Lin->PV)).length)),(15,.pv (enc a)),(1,.pv (enc b)),(2,.pv (.fn 63))] []:=At.tp (dm [dr Lin,dv Bool] 22 0x2000146125125100f42) h
noncomputable def Gc:IC:=Ww Proofs.Tryz.f64
def Gf:List IRes:=[(.tmp 6)]
abbrev c8u:Nat:=32
noncomputable def Tz(N:Nat):Zz:=YF [(24,.pure (preT (fun x:Tm×Tm×Unit=>(tW x.1&&tW x.2.1)&&decide (ZI x.1<N))) (Zi (fun x:Tm×Tm×Unit=>Gd x.1 x.2.1)))]
theorem d0v{G:PV->Prop}(N:Nat)(a b:List Tm)(h:if ((↑(List.length (List.map enc a)):Int) != (↑(List.length (List.map enc b)):Int))=true then G ((.bool false))else(At (Tz N) 0 (Zb Gf G) Gc 0 32 [(1,(.pv (.sl 10 false (List.map enc b)))),(2,(.pv (.fn 24))),(15,(.pv (.sl 10 false (List.map enc a)))),(16,(.pv (.int .i64 (↑(List.length (List.map enc a)):Int)))),(17,(.pv (.int .i64 0)))] [])):Ze (Tz N) 0 (Zb Gf G) Gc [] (Z7 32 [enc a,enc b,.fn 24]):=Ze.tp (dm [] 8 0x142) h
theorem a9m{G:PV->Prop}(N:Nat)(a b:List Tm)(i:Int)(h:if (decide (i<(↑(List.length (List.map enc a)):Int)))=true then(decide (0<=i)&&decide (Int.toNat i<List.length (List.map enc a))&&Enc.sz Tm==10)=true∧(∃ y0:Tm,AV.pv (PV.rptr (PV.cells (List.getD (List.map enc a) (Int.toNat i) default)))=AV.pv (PV.rptr (PV.cells ((enc) y0)))∧(shT y0=true∧((decide (0<=i)&&decide (Int.toNat i<List.length (List.map enc b))&&Enc.sz Tm==10)=true∧(∃ y1:Tm,AV.pv (PV.rptr (PV.cells (List.getD (List.map enc b) (Int.toNat i) default)))=AV.pv (PV.rptr (PV.cells ((enc) y1)))∧(shT y1=true∧((Go.Pl.preT (fun(x:Tm×Tm×Unit)=>tW x.1&&tW x.2.1&&decide (ZI x.1<N)) [LK y0,LK y1])=true∧(∃ y2:Bool,AV.pv (Zi (fun(x:Tm×Tm×Unit)=>Gd x.1 x.2.1) [LK y0,LK y1])=AV.pv (enc y2)∧(if (!y2)=true then G ((.bool false))else(At (Tz N) 0 (Zb Gf G) Gc 0 32 [(1,(.pv (.sl 10 false (List.map enc b)))),(2,(.pv (.fn 24))),(15,(.pv (.sl 10 false (List.map enc a)))),(16,(.pv (.int .i64 (↑(List.length (List.map enc a)):Int)))),(17,(.pv (.int .i64 (IntKind.wrap IntKind.i64 (i+1)))))] [])))))))))else(G ((.bool true)))):At (Tz N) 0 (Zb Gf G) Gc 0 32 [(17,.pv (.int .i64 i)),(16,.pv (.int .i64 (a.map (enc:Tm->PV)).length)),(15,.pv (enc a)),(1,.pv (enc b)),(2,.pv (.fn 24))] []:=At.tp (dm [dr Tm,dv Bool] 22 0x2000146115115100f42) h
noncomputable def a7a:IC:=Ww Proofs.Tryz.f24
def b5j:List IRes:=[(.tmp 4)]
abbrev c8r:Nat:=72
noncomputable def c3c(N:Nat):Zz:=YF [(61,.pure (preT (fun x:List Int×List Int×Unit=>Z5 x.1)) (Zi (fun x:List Int×List Int×Unit=>decide (x.1=x.2.1)))),(62,.pure (preT (fun x:List Lin×List Lin×FnV 63×Unit=>Z5 x.1&&x.1.all Z9&&x.2.1.all Z9)) (Zi (fun x:List Lin×List Lin×FnV 63×Unit=>decide (x.1=x.2.1)))),(64,.pure (preT (fun x:List Tm×List Tm×FnV 24×Unit=>(tsW x.1&&tsW x.2.1)&&decide (ZV x.1<N))) (Zi (fun x:List Tm×List Tm×FnV 24×Unit=>VV x.1 x.2.1)))]
theorem d2l{G:PV->Prop}(N:Nat)(n:Nd)(ks:List Tm)(m:Nd)(ls:List Tm)(h:if (Nd.kind n==Nd.kind m)=true then if (Str.s (Nd.name n)==Str.s (Nd.name m))=true then if (Nd.num n==Nd.num m)=true then if (Str.s (Nd.elem n)==Str.s (Nd.elem m))=true then(Go.Pl.preT (fun(x:List Int×List Int×Unit)=>Z5 x.1) [(.sl 1 false (List.map enc (Nd.dims n))),(.sl 1 false (List.map enc (Nd.dims m)))])=true∧(∃ y0:Bool,AV.pv (Zi (fun(x:List Int×List Int×Unit)=>decide (x.1=x.2.1)) [(.sl 1 false (List.map enc (Nd.dims n))),(.sl 1 false (List.map enc (Nd.dims m)))])=AV.pv (enc y0)∧(if (y0)=true then(Go.Pl.preT (fun(x:List Int×List Int×Unit)=>Z5 x.1) [(.sl 1 false (List.map enc (Nd.data n))),(.sl 1 false (List.map enc (Nd.data m)))])=true∧(∃ y1:Bool,AV.pv (Zi (fun(x:List Int×List Int×Unit)=>decide (x.1=x.2.1)) [(.sl 1 false (List.map enc (Nd.data n))),(.sl 1 false (List.map enc (Nd.data m)))])=AV.pv (enc y1)∧(if (y1)=true then(Go.Pl.preT (fun(x:List Lin×List Lin×FnV 63×Unit)=>Z5 x.1&&List.all x.1 Z9&&List.all x.2.1 Z9) [(.sl 2 false (List.map enc (Nd.sizes n))),(.sl 2 false (List.map enc (Nd.sizes m))),(.fn 63)])=true∧(∃ y2:Bool,AV.pv (Zi (fun(x:List Lin×List Lin×FnV 63×Unit)=>decide (x.1=x.2.1)) [(.sl 2 false (List.map enc (Nd.sizes n))),(.sl 2 false (List.map enc (Nd.sizes m))),(.fn 63)])=AV.pv (enc y2)∧(if (y2)=true then(Go.Pl.preT (fun(x:List Int×List Int×Unit)=>Z5 x.1) [(.sl 1 false (List.map enc (Nd.ranks n))),(.sl 1 false (List.map enc (Nd.ranks m)))])=true∧(∃ y3:Bool,AV.pv (Zi (fun(x:List Int×List Int×Unit)=>decide (x.1=x.2.1)) [(.sl 1 false (List.map enc (Nd.ranks n))),(.sl 1 false (List.map enc (Nd.ranks m)))])=AV.pv (enc y3)∧(if (y3)=true then(Go.Pl.preT (fun(x:List Tm×List Tm×FnV 24×Unit)=>tsW x.1&&tsW x.2.1&&decide (ZV x.1<N)) [(.sl 10 false (List.map enc ks)),(.sl 10 false (List.map enc ls)),(.fn 24)])=true∧(∃ y4:Bool,AV.pv (Zi (fun(x:List Tm×List Tm×FnV 24×Unit)=>VV x.1 x.2.1) [(.sl 10 false (List.map enc ks)),(.sl 10 false (List.map enc ls)),(.fn 24)])=AV.pv (enc y4)∧(G ((.bool y4))))else(G ((.bool false)))))else(G ((.bool false)))))else(G ((.bool false)))))else(G ((.bool false)))))else(G ((.bool false)))else(G ((.bool false)))else(G ((.bool false)))else(G ((.bool false)))):Ze (c3c N) 0 (Zb b5j G) a7a [] (Z7 72 [.agg [enc n.kind,enc n.line,enc n.name,enc n.num,enc n.elem,enc n.dims,enc n.data,enc n.sizes,enc n.ranks,enc ks],.agg [enc m.kind,enc m.line,enc m.name,enc m.num,enc m.elem,enc m.dims,enc m.data,enc m.sizes,enc m.ranks,enc ls]]):=Ze.tp (dm [dv Bool] 334 0x22222222222222222222222222222222222222222222222222222022222222222222222222222222222222222222222222222022222222222222222222222222222222222222222022222222222222222222222222222222202222222222222222222222222022222222222222222022222222222022222025122220084251222201942512222030425122222204f42512222220764222222220a442222220d8422222211242) h
noncomputable def b5w:IC:=Ww Proofs.Tryz.f18
def b0f:List IRes:=[(.tmp 4)]
abbrev c8g:Nat:=10
noncomputable def c4m:Zz:=YF [(30,.pure (preT (fun x:Tm×Unit=>tW x.1)) (Zi (fun x:Tm×Unit=>Y7 x.1))),(24,.pure (preT (fun x:Tm×Tm×Unit=>tW x.1&&tW x.2.1)) (Zi (fun x:Tm×Tm×Unit=>Gd x.1 x.2.1)))]
theorem d2p{G:PV->Prop}(n:Nd)(ks:List Tm)(m:Nd)(ls:List Tm)(h:(Go.Pl.preT (fun(x:Tm×Unit)=>tW x.1) (Am n ks))=true∧(∃ y0:Tm,AV.pv (Zi (fun(x:Tm×Unit)=>Y7 x.1) (Am n ks))=AV.pv (enc y0)∧((Go.Pl.preT (fun(x:Tm×Unit)=>tW x.1) [(.agg [(.int .i64 (Nd.kind m)),(.int .i64 (Nd.line m)),(.str (Str.s (Nd.name m))),(.int .i64 (Nd.num m)),(.str (Str.s (Nd.elem m))),(.sl 1 false (List.map enc (Nd.dims m))),(.sl 1 false (List.map enc (Nd.data m))),(.sl 2 false (List.map enc (Nd.sizes m))),(.sl 1 false (List.map enc (Nd.ranks m))),(.sl 10 false (List.map enc ls))])])=true∧(∃ y1:Tm,AV.pv (Zi (fun(x:Tm×Unit)=>Y7 x.1) [(.agg [(.int .i64 (Nd.kind m)),(.int .i64 (Nd.line m)),(.str (Str.s (Nd.name m))),(.int .i64 (Nd.num m)),(.str (Str.s (Nd.elem m))),(.sl 1 false (List.map enc (Nd.dims m))),(.sl 1 false (List.map enc (Nd.data m))),(.sl 2 false (List.map enc (Nd.sizes m))),(.sl 1 false (List.map enc (Nd.ranks m))),(.sl 10 false (List.map enc ls))])])=AV.pv (enc y1)∧((Go.Pl.preT (fun(x:Tm×Tm×Unit)=>tW x.1&&tW x.2.1) [enc y0,enc y1])=true∧(∃ y2:Bool,AV.pv (Zi (fun(x:Tm×Tm×Unit)=>Gd x.1 x.2.1) [enc y0,enc y1])=AV.pv (enc y2)∧(G ((.bool y2))))))))):Ze c4m 0 (Zb b0f G) b5w [] (Z7 10 [.agg [enc n.kind,enc n.line,enc n.name,enc n.num,enc n.elem,enc n.dims,enc n.data,enc n.sizes,enc n.ranks,enc ks],.agg [enc m.kind,enc m.line,enc m.name,enc m.num,enc m.elem,enc m.dims,enc m.data,enc m.sizes,enc m.ranks,enc ls]]):=Ze.tp (dm [dv Tm,dv Bool] 8 0x615151) h
end Go.Pl
namespace Go.Pl
open Go.RowKit
open Enc (enc dec is)
open EncL (encL decL isL)
theorem a1v{α:Type}[BEq α][LawfulBEq α]{x y:α}{P Q:Prop}(h1:x=y->P)(h2:x≠y->Q):if (x==y)=true then P else Q:=by by_cases h:x=y;rw[if_pos (by simpa using h)];exact h1 h;rw[if_neg (by simpa using h)];exact h2 h
theorem b1t{l:Lin}(h:Vz l=true):Z9 l=true:=by unfold Vz at h;rw[Bool.and_eq_true]at h;exact h.1
theorem LY{ks:List Tm}{k:Tm}(h:k∈ks):ZI k<=ZV ks:=by
 induction ks with
 | nil=>cases h
 | cons a l ih=>
  rw[ZV]
  rcases List.mem_cons.1 h with rfl|h
  ·omega
  ·have:=ih h;omega
theorem a7w(a b:List Int)(ha:a.length<=9223372036854775807)(hab:a.length=b.length): ∀ (k i:Nat),k+i=a.length ->
  At AR 0 (Zb G5 (Zq (decide (a.drop i=b.drop i)))) H7 0 26 [(0,.pv (enc a)),(1,.pv (enc b)),(12,.pv (.int .i64 (a.map (enc:Int->PV)).length)),(13,.pv (.int .i64 i))] []:=by
 intro k
 induction k with
 | zero=>
  intro i hi
  rw[List.drop_of_length_le (by omega),List.drop_of_length_le (by omega)]
  exact b3k a b i (XV (Wx (by omega)) (ZC rfl))
 | succ k ih=>
  intro i hi
  have hlt:i<a.length:=by omega
  have hlt2:i<b.length:=by omega
  have h:=ih (i+1) (by omega)
  refine b3k a b i (Xg (We hlt) ⟨ZN hlt rfl,Ye hlt ⟨ZN hlt2 rfl,Ye hlt2 ?_⟩⟩)
  show if (a[i] != b[i])=true then _ else _
  refine a5f (fun e=>ZC ?_) fun e=> ?_
  ·rw[List.drop_eq_getElem_cons hlt,List.drop_eq_getElem_cons hlt2,Hw e]
  ·rw[next (by omega),List.drop_eq_getElem_cons hlt,List.drop_eq_getElem_cons hlt2,GR e]
   exact h
theorem c0f: ∀ x:List Int×List Int×Unit,Z5 x.1=true->Ze AR 0 (Zb G5 (Zq (decide (x.1=x.2.1)))) H7 [] (Z7 c6p (encL x)):=by
 rintro⟨a,b,⟨⟩⟩ h
 have h:=of_decide_eq_true h
 refine d3x a b (Dz (fun e=>ZC (a0r e).symm) fun e=> ?_)
 exact(a7w a b h e a.length 0 (by omega))
theorem b2a(a b:List Lin)(ha:a.length<=9223372036854775807)(wa:a.all Z9=true)(wb:b.all Z9=true)(hab:a.length=b.length): ∀ (k i:Nat),k+i=a.length ->
  At TD 0 (Zb GZ (Zq (decide (a.drop i=b.drop i)))) HV 0 32 [(1,.pv (enc b)),(2,.pv (.fn 63)),(15,.pv (enc a)),(16,.pv (.int .i64 (a.map (enc:Lin->PV)).length)),(17,.pv (.int .i64 i))] []:=by
 intro k
 induction k with
 | zero=>
  intro i hi
  rw[List.drop_of_length_le (by omega),List.drop_of_length_le (by omega)]
  exact b2g a b i (XV (Wx (by omega)) (ZC rfl))
 | succ k ih=>
  intro i hi
  have h1:i<a.length:=by omega
  have h2:i<b.length:=by omega
  have h:=ih (i+1) (by omega)
  have ga:Z9 a[i]=true:=List.all_eq_true.1 wa _ (List.getElem_mem h1)
  have gb:Z9 b[i]=true:=List.all_eq_true.1 wb _ (List.getElem_mem h2)
  refine b2g a b i (Xg (We h1) ⟨ZN h1 rfl,Ye h1 ⟨ZN h2 rfl,Ye h2 ⟨Zc (a[i],b[i],()) rfl (by show(Z9 _&&Z9 _)=true;rw[ga,gb];rfl),Zd (a[i],b[i],()) rfl (Qx (fun e=>ZC ?_) fun e=> ?_)⟩⟩⟩)
  ·rw[List.drop_eq_getElem_cons h1,List.drop_eq_getElem_cons h2,Hw (of_decide_eq_false e)]
  ·rw[next (by omega),List.drop_eq_getElem_cons h1,List.drop_eq_getElem_cons h2,GR (of_decide_eq_true e)]
   exact h
theorem c1q: ∀ x:List Lin×List Lin×FnV 63×Unit,(Z5 x.1&&x.1.all Z9&&x.2.1.all Z9)=true->Ze TD 0 (Zb GZ (Zq (decide (x.1=x.2.1)))) HV [] (Z7 c6d (encL x)):=by
 rintro⟨a,b,⟨⟩,⟨⟩⟩ h
 simp only[Bool.and_eq_true]at h
 obtain⟨⟨h,wa⟩,wb⟩:=h
 have h:=of_decide_eq_true h
 refine d0o a b (Dz (fun e=>ZC (a0r e).symm) fun e=> ?_)
 exact(b2a a b h wa wb e a.length 0 (by omega))
theorem Pj{ts:List Tm}(h:tsW ts=true):ts.length<=1048576∧ ∀ k∈ts,tW k=true:=by
 have h:XQ ts<=1048576:=of_decide_eq_true h
 exact⟨by have:=Mx ts;omega,fun k hk=>decide_eq_true (Nat.le_trans (Mf hk) h)⟩
theorem b3s(N:Nat)(a b:List Tm)(ha:a.length<=1048576)(wa : ∀ k∈a,tW k=true)(wb : ∀ k∈b,tW k=true)(hd:ZV a<N)(hab:a.length=b.length): ∀ (k i:Nat),k+i=a.length ->
  At (Tz N) 0 (Zb Gf (Zq (VV (a.drop i) (b.drop i)))) Gc 0 32 [(1,.pv (enc b)),(2,.pv (.fn 24)),(15,.pv (enc a)),(16,.pv (.int .i64 (a.map (enc:Tm->PV)).length)),(17,.pv (.int .i64 i))] []:=by
 intro k
 induction k with
 | zero=>
  intro i hi
  rw[List.drop_of_length_le (by omega),List.drop_of_length_le (by omega)]
  exact a9m N a b i (XV (Wx (by omega)) (ZC rfl))
 | succ k ih=>
  intro i hi
  have h1:i<a.length:=by omega
  have h2:i<b.length:=by omega
  have h:=ih (i+1) (by omega)
  have hk:=LY (List.getElem_mem h1)
  refine a9m N a b i (Xg (We h1) ⟨ZN h1 rfl,Ye h1 ⟨QE _,ZN h2 rfl,Ye h2 ⟨QE _,Zc (a[i],b[i],()) (b6y _ _) (by
   show(tW _&&tW _&&decide _)=true
   rw[wa _ (List.getElem_mem h1),wb _ (List.getElem_mem h2),decide_eq_true (show ZI a[i]<N by omega)];rfl),Zd (a[i],b[i],()) (b6y _ _) (Qx (fun e=>ZC ?_) fun e=> ?_)⟩⟩⟩)
  ·have e:Gd a[i] b[i]=false:=e
   rw[List.drop_eq_getElem_cons h1,List.drop_eq_getElem_cons h2,VV,e];rfl
  ·have e:Gd a[i] b[i]=true:=e
   rw[next (by omega),List.drop_eq_getElem_cons h1,List.drop_eq_getElem_cons h2,VV,e,Bool.true_and]
   exact h
theorem b8q(N:Nat): ∀ x:List Tm×List Tm×FnV 24×Unit,((tsW x.1&&tsW x.2.1)&&decide (ZV x.1<N))=true->Ze (Tz N) 0 (Zb Gf (Zq (VV x.1 x.2.1))) Gc [] (Z7 c8u (encL x)):=by
 rintro⟨a,b,⟨⟩,⟨⟩⟩ h
 simp only[Bool.and_eq_true,decide_eq_true_eq]at h
 obtain⟨⟨wa,wb⟩,hd⟩:=h
 refine d0v N a b (Dz (fun e=>ZC (Wv fun h=>e (BJ h))) fun e=> ?_)
 exact(b3s N a b (Pj wa).1 (Pj wa).2 (Pj wb).2 hd e a.length 0 (by omega))
theorem b4r{n:Nd}{ks:List Tm}(h:tW (.mk n ks)=true):tsW ks=true:=by
 have h:KA (.mk n ks)<=1048576:=of_decide_eq_true h
 rw[KA]at h
 exact decide_eq_true (by omega)
theorem El{α:Type}{l:List α}(h:l.length<=1048576):Z5 l=true:=decide_eq_true (by omega)
theorem a0a{n:Nd}{ks:List Tm}(h:tW (.mk n ks)=true):n.sizes.all Z9=true:=List.all_eq_true.2 fun l hl=>b1t (Nz h l hl)
theorem b6n(N:Nat): ∀ x:Tm×Tm×Unit,((tW x.1&&tW x.2.1)&&decide (ZI x.1<N+1))=true->Ze (c3c N) 0 (Zb b5j (Zq (Gd x.1 x.2.1))) a7a [] (Z7 c8r (encL x)):=by
 rintro⟨⟨n,ks⟩,⟨m,ls⟩,⟨⟩⟩ h
 simp only[Bool.and_eq_true,decide_eq_true_eq]at h
 obtain⟨⟨hw,hv⟩,hd⟩:=h
 have hd:ZI (.mk n ks)<N+1:=hd
 rw[ZI]at hd
 have hn:=Fg hw
 rw[<- c8k]
 refine d2l N n ks m ls (a1v (fun k1=> ?_) fun k=>ZC (Wv fun h=>k (Yn.1 h).1.1))
 refine a1v (fun k2=> ?_) fun k=>ZC (Wv fun h=>k (by rw[(Yn.1 h).1.2.1]))
 refine a1v (fun k3=> ?_) fun k=>ZC (Wv fun h=>k (Yn.1 h).1.2.2.1)
 refine a1v (fun k4=> ?_) fun k=>ZC (Wv fun h=>k (by rw[(Yn.1 h).1.2.2.2.1]))
 refine⟨Zc (n.dims,m.dims,()) rfl (El hn.dims),Zd (n.dims,m.dims,()) rfl (VO (fun k5=> ?_) fun k=>ZC (Wv fun h=>of_decide_eq_false k (Yn.1 h).1.2.2.2.2.1))⟩
 refine⟨Zc (n.data,m.data,()) rfl (El hn.data),Zd (n.data,m.data,()) rfl (VO (fun k6=> ?_) fun k=>ZC (Wv fun h=>of_decide_eq_false k (Yn.1 h).1.2.2.2.2.2.1))⟩
 have hs:(Z5 n.sizes&&n.sizes.all Z9&&m.sizes.all Z9)=true:=by rw[El hn.sizes,a0a hw,a0a hv];rfl
 refine⟨Zc (α:=List Lin×List Lin×FnV 63×Unit) (n.sizes,m.sizes,⟨()⟩,()) rfl hs,Zd (α:=List Lin×List Lin×FnV 63×Unit) (n.sizes,m.sizes,⟨()⟩,()) rfl (VO (fun k7=> ?_) fun k=>ZC (Wv fun h=>of_decide_eq_false k (Yn.1 h).1.2.2.2.2.2.2.1))⟩
 refine⟨Zc (n.ranks,m.ranks,()) rfl (El hn.ranks),Zd (n.ranks,m.ranks,()) rfl (VO (fun k8=> ?_) fun k=>ZC (Wv fun h=>of_decide_eq_false k (Yn.1 h).1.2.2.2.2.2.2.2))⟩
 have hk:(tsW ks&&tsW ls&&decide (ZV ks<N))=true:=by rw[b4r hw,b4r hv,decide_eq_true (show ZV ks<N by omega)];rfl
 refine⟨Zc (α:=List Tm×List Tm×FnV 24×Unit) (ks,ls,⟨()⟩,()) rfl hk,Zd (α:=List Tm×List Tm×FnV 24×Unit) (ks,ls,⟨()⟩,()) rfl (ZC ?_)⟩
 show VV ks ls=Gd (.mk n ks) (.mk m ls)
 rw[Bool.eq_iff_iff,Yn]
 exact⟨fun h=>⟨⟨k1,stt k2,k3,stt k4,of_decide_eq_true k5,of_decide_eq_true k6,of_decide_eq_true k7,of_decide_eq_true k8⟩,h⟩,fun h=>h.2⟩
theorem c2a: ∀ x:Tm×Tm×Unit,(tW x.1&&tW x.2.1&&tW (Y7 x.1)&&tW (Y7 x.2.1))=true->Ze c4m 0 (Zb b0f (Zq (TF x.1 x.2.1))) b5w [] (Z7 c8g (encL x)):=by
 rintro⟨⟨n,ks⟩,⟨m,ls⟩,⟨⟩⟩ h
 simp only[Bool.and_eq_true]at h
 obtain⟨⟨⟨h1,h2⟩,h3⟩,h4⟩:=h
 rw[<- c8k]
 have e1:([ndC n ks]:List PV)=encL ((Tm.mk n ks,()):Tm×Unit):=by rw[Wo];rfl
 have e2:([ndC m ls]:List PV)=encL ((Tm.mk m ls,()):Tm×Unit):=by rw[Wo];rfl
 refine d2p n ks m ls ⟨Zc (.mk n ks,()) e1 h1,Zd (.mk n ks,()) e1 ⟨Zc (.mk m ls,()) e2 h2,Zd (.mk m ls,()) e2 ⟨Zc (Y7 (.mk n ks),Y7 (.mk m ls),()) rfl ?_,Zd (Y7 (.mk n ks),Y7 (.mk m ls),()) rfl (ZC rfl)⟩⟩⟩
 show(tW _&&tW _)=true
 rw[h3,h4];rfl
end Go.Pl
namespace Go.Pl
open Go.RowKit
open Enc (enc dec is)
open EncL (encL decL isL)
set_option maxRecDepth 100000
noncomputable def b1r:IC:=Ww Proofs.Tryz.f50
def b2t:List IRes:=[(.cell true 10 2)]
abbrev c6m:Nat:=8
noncomputable def c4t:Zz:=YF [(51,.pure (preT (fun _:Str×Unit=>true)) (Zi (fun x:Str×Unit=>vT x.1)))]
theorem d2b{G:PV->Prop}(s:List UInt8)(h : ∃ y0:Tm,AV.pv (Zi (fun(x:Str×Unit)=>vT x.1) [(.str s)])=AV.pv (enc y0)∧(∃ y1:Tm,AV.pv (Zi (fun(x:Str×Unit)=>vT x.1) [(.str [(118:UInt8),(49:UInt8)])])=AV.pv (enc y1)∧((List.all [enc y0,enc y1] fun(x:PV)=>List.length (PV.cells x)==10&&PV.cellsOk x)=true∧(G ((.agg [(.int .i64 6),(.int .i64 0),(.str [(97:UInt8),(100:UInt8),(100:UInt8)]),(.int .i64 0),(.str []),(.sl 0 true []),(.sl 0 true []),(.sl 0 true []),(.sl 0 true []),(.sl 10 false [enc y0,enc y1])])))))):Ze c4t 0 (Zb b2t G) b1r [] (Z7 8 [.str s]):=Ze.tp (dm [dv Tm] 8 0x215252) h
noncomputable def b0d:IC:=Ww Proofs.Tryz.f12
def b5d:List IRes:=[(.tmp 0)]
abbrev c5c:Nat:=39
noncomputable def c2z:Zz:=YF [(51,.pure (preT (fun _:Str×Unit=>true)) (Zi (fun x:Str×Unit=>vT x.1))),(16,.pure (preT (fun _:Str×Tm×Tm×Unit=>true)) (Zi (fun x:Str×Tm×Tm×Unit=>Dq (UN x.1 x.2.1 x.2.2.1)))),(50,.pure (preT (fun _:Str×Unit=>true)) (Zi (fun x:Str×Unit=>Dq (MX x.1)))),(22,.pure (preT (fun x:Tm×Unit=>tW x.1)) (Zi (fun x:Tm×Unit=>VB x.1))),(25,.pure (preT (fun x:Tm×Tm×Unit=>tW x.1&&tW x.2.1)) (Zi (fun x:Tm×Tm×Unit=>Gd x.1 x.2.1))),(30,.pure (preT (fun x:Tm×Unit=>tW x.1)) (Zi (fun x:Tm×Unit=>Y7 x.1))),(21,.pure (preT (fun x:Tm×Unit=>tW x.1)) (Zi (fun x:Tm×Unit=>Vg x.1))),(18,.pure (preT (fun x:Tm×Tm×Unit=>tW x.1&&tW x.2.1&&tW (Y7 x.1)&&tW (Y7 x.2.1))) (Zi (fun x:Tm×Tm×Unit=>TF x.1 x.2.1))),(32,.pure (preT (fun x:Tm×Unit=>tW x.1)) (Zi (fun x:Tm×Unit=>Yc x.1)))]
theorem d2h{G:PV->Prop}(h : ∃ y0:TS,AV.pv (Zi (fun(x:Str×Unit)=>Dq (MX x.1)) [(.str [(98:UInt8)])])=AV.pv (enc y0)∧(∃ y1:Tm,AV.pv (Zi (fun(x:Str×Unit)=>vT x.1) [(.str [(120:UInt8)])])=AV.pv (enc y1)∧(∃ y2:Tm,AV.pv (Zi (fun(x:Str×Unit)=>vT x.1) [(.str [(97:UInt8)])])=AV.pv (enc y2)∧((Go.Pl.preT (fun(x:Str×Tm×Tm×Unit)=>true) [(.str [(98:UInt8)]),enc y2,(eS y0)])=true∧(∃ y3:TS,AV.pv (Zi (fun(x:Str×Tm×Tm×Unit)=>Dq (UN x.1 x.2.1 x.2.2.1)) [(.str [(98:UInt8)]),enc y2,(eS y0)])=AV.pv (enc y3)∧((Go.Pl.preT (fun(x:Str×Tm×Tm×Unit)=>true) [(.str [(97:UInt8)]),enc y1,(eS y3)])=true∧(∃ y4:TS,AV.pv (Zi (fun(x:Str×Tm×Tm×Unit)=>Dq (UN x.1 x.2.1 x.2.2.1)) [(.str [(97:UInt8)]),enc y1,(eS y3)])=AV.pv (enc y4)∧(∃ y5:Tm,AV.pv (Zi (fun(x:Str×Unit)=>vT x.1) [(.str [(120:UInt8)])])=AV.pv (enc y5)∧(∃ y6:Tm,AV.pv (Zi (fun(x:Str×Unit)=>vT x.1) [(.str [(118:UInt8),(50:UInt8)])])=AV.pv (enc y6)∧(∃ y7:TS,AV.pv (Zi (fun(x:Str×Unit)=>Dq (MX x.1)) [(.str [(118:UInt8),(51:UInt8)])])=AV.pv (enc y7)∧((Go.Pl.preT (fun(x:Str×Tm×Tm×Unit)=>true) [(.str [(118:UInt8),(51:UInt8)]),enc y6,(eS y7)])=true∧(∃ y8:TS,AV.pv (Zi (fun(x:Str×Tm×Tm×Unit)=>Dq (UN x.1 x.2.1 x.2.2.1)) [(.str [(118:UInt8),(51:UInt8)]),enc y6,(eS y7)])=AV.pv (enc y8)∧((Go.Pl.preT (fun(x:Str×Tm×Tm×Unit)=>true) [(.str [(118:UInt8),(50:UInt8)]),enc y5,(eS y8)])=true∧(∃ y9:TS,AV.pv (Zi (fun(x:Str×Tm×Tm×Unit)=>Dq (UN x.1 x.2.1 x.2.2.1)) [(.str [(118:UInt8),(50:UInt8)]),enc y5,(eS y8)])=AV.pv (enc y9)∧((Go.Pl.preT (fun(x:Tm×Unit)=>tW x.1) [(eS y4)])=true∧(∃ y10:Bool,AV.pv (Zi (fun(x:Tm×Unit)=>VB x.1) [(eS y4)])=AV.pv (enc y10)∧(if (y10)=true then(Go.Pl.preT (fun(x:Tm×Unit)=>tW x.1) [(eS y4)])=true∧(∃ y11:Tm,AV.pv (Zi (fun(x:Tm×Unit)=>Y7 x.1) [(eS y4)])=AV.pv (enc y11)∧((Go.Pl.preT (fun(x:Tm×Tm×Unit)=>tW x.1&&tW x.2.1) [enc y11,(eS y9)])=true∧(∃ y12:Bool,AV.pv (Zi (fun(x:Tm×Tm×Unit)=>Gd x.1 x.2.1) [enc y11,(eS y9)])=AV.pv (enc y12)∧(if (y12)=true then(Go.Pl.preT (fun(x:Tm×Unit)=>tW x.1) [(eS y4)])=true∧(∃ y13:Int,AV.pv (Zi (fun(x:Tm×Unit)=>Vg x.1) [(eS y4)])=AV.pv (enc y13)∧(if (y13==7)=true then(Go.Pl.preT (fun(x:Tm×Tm×Unit)=>tW x.1&&tW x.2.1&&tW (Y7 x.1)&&tW (Y7 x.2.1)) [(eS y4),(eS y9)])=true∧(∃ y14:Bool,AV.pv (Zi (fun(x:Tm×Tm×Unit)=>TF x.1 x.2.1) [(eS y4),(eS y9)])=AV.pv (enc y14)∧(if (y14)=true then(Go.Pl.preT (fun(x:Tm×Unit)=>tW x.1) [(eS y4)])=true∧(∃ y15:List Str,AV.pv (Zi (fun(x:Tm×Unit)=>Yc x.1) [(eS y4)])=AV.pv (enc y15)∧(G ((.bool ((↑(List.length (List.map enc y15)):Int)==1)))))else(G ((.bool false)))))else(G ((.bool false)))))else(G ((.bool false)))))))else(G ((.bool false)))))))))))))))))))):Ze c2z 0 (Zb b5d G) b0d [] (Z7 39 []):=Ze.tp (dm [dv TS,dv Tm,dv Bool,dv Int,dv (List Str)] 111 0x2222222222222222202222222222220222222220222202222912008427122016422281202942712261204247151515262625151626252) h
end Go.Pl
namespace Go.Pl
open Go.RowKit
open Enc (enc dec is)
open EncL (encL decL isL)
theorem b9l: ∀ x:Str×Unit,true=true->Ze c4t 0 (Zb b2t (Zq (MX x.1))) b1r [] (Z7 c6m (encL x)):=by
 rintro⟨s,⟨⟩⟩ _
 refine d2b s.s (Zd (s,()) rfl (Zd (⟨[118,49]⟩,()) rfl ⟨?_,?_⟩))
 ·simp only[List.all_cons,List.all_nil,vT,Zx]
  rfl
 ·have h:is (List Tm) (.sl 10 false [enc (vT s),enc (vT ⟨[118,49]⟩)])=true:=Enc.is_enc [vT s,vT ⟨[118,49]⟩]
  have h2:(dec (.sl 10 false [enc (vT s),enc (vT ⟨[118,49]⟩)]):List Tm)=[vT s,vT ⟨[118,49]⟩]:=Enc.dec_enc [vT s,vT ⟨[118,49]⟩]
  refine⟨?_,?_⟩
  ·simp[h]
  ·rw[a8m _ _ _ _ _ _ _ _ _ _ h,h2]
   simp[MX,EE,d3w]
theorem c1s: ∀ x:Unit,true=true->Ze c2z 0 (Zb b5d (Zq true)) b0d [] (Z7 c5c (encL x)):=by
 rintro⟨⟩ _
 refine d2h (Zd (⟨[98]⟩,()) rfl (Zd (⟨[120]⟩,()) rfl (Zd (⟨[97]⟩,()) rfl ?_)))
 refine⟨Zc (⟨[98]⟩,vT ⟨[97]⟩,MX ⟨[98]⟩,()) (PG _ _ _) rfl,Zd (⟨[98]⟩,vT ⟨[97]⟩,MX ⟨[98]⟩,()) (PG _ _ _) ?_⟩
 refine⟨Zc (⟨[97]⟩,vT ⟨[120]⟩,UN ⟨[98]⟩ (vT ⟨[97]⟩) (MX ⟨[98]⟩),()) (PG _ _ _) rfl,Zd (⟨[97]⟩,vT ⟨[120]⟩,UN ⟨[98]⟩ (vT ⟨[97]⟩) (MX ⟨[98]⟩),()) (PG _ _ _) ?_⟩
 refine Zd (⟨[120]⟩,()) rfl (Zd (⟨[118,50]⟩,()) rfl (Zd (⟨[118,51]⟩,()) rfl ?_))
 refine⟨Zc (⟨[118,51]⟩,vT ⟨[118,50]⟩,MX ⟨[118,51]⟩,()) (PG _ _ _) rfl,Zd (⟨[118,51]⟩,vT ⟨[118,50]⟩,MX ⟨[118,51]⟩,()) (PG _ _ _) ?_⟩
 refine⟨Zc (⟨[118,50]⟩,vT ⟨[120]⟩,UN ⟨[118,51]⟩ (vT ⟨[118,50]⟩) (MX ⟨[118,51]⟩),()) (PG _ _ _) rfl,Zd (⟨[118,50]⟩,vT ⟨[120]⟩,UN ⟨[118,51]⟩ (vT ⟨[118,50]⟩) (MX ⟨[118,51]⟩),()) (PG _ _ _) ?_⟩
 refine⟨Zc (Kn,()) (Pq Kn) a7g,Zd (Kn,()) (Pq Kn) (Xg a9i ?_)⟩
 refine⟨Zc (Kn,()) (Pq Kn) a7g,Zd (Kn,()) (Pq Kn) ?_⟩
 refine⟨Zc (Y7 Kn,Rp,()) (d2u _ Rp) (by show(tW (Y7 Kn)&&tW Rp)=true;rw[RD,c4u];rfl),Zd (Y7 Kn,Rp,()) (d2u _ Rp) (Xg (by show Gd (Y7 Kn) Rp=true;rw[RD];exact c3v) ?_)⟩
 refine⟨Zc (Kn,()) (Pq Kn) a7g,Zd (Kn,()) (Pq Kn) (Xg (by show(Vg Kn==7)=true;unfold Vg;rw[b7c];rfl) ?_)⟩
 refine⟨Zc (Kn,Rp,()) (d2n Kn Rp) (by show(tW Kn&&tW Rp&&tW (Y7 Kn)&&tW (Y7 Rp))=true;rw[RD,a0f,a7g,c4u];rfl),Zd (Kn,Rp,()) (d2n Kn Rp) (Xg (by show Gd (Y7 Kn) (Y7 Rp)=true;rw[RD,a0f];exact c3v) ?_)⟩
 refine⟨Zc (Kn,()) (Pq Kn) a7g,Zd (Kn,()) (Pq Kn) (ZC ?_)⟩
 show(((List.map (enc:Str->PV) (Yc Kn)).length:Int)==1)=true
 rw[List.length_map,b4y];rfl
theorem nd1(n:Nd)(ks:List Tm):([ndC n ks]:List PV)=encL (Tm.mk n ks,()):=by rw[Wo];rfl
end Go.Pl
namespace Go.Pl
open Go.RowKit
open Enc (enc dec is)
open EncL (encL decL isL)
set_option maxRecDepth 100000
noncomputable def WF:IC:=Ww Proofs.Tryz.f8
def WB:List IRes:=[(.tmp 6)]
abbrev c9t:Nat:=113
noncomputable def Uq:Zz:=YF [(12,.pure (preT (fun _:Unit=>true)) (Zi (fun _:Unit=>true))),(13,.pure (preT (fun x:Tm×Int×Unit=>tW x.1)) (Zi (fun x:Tm×Int×Unit=>Ky x.1 x.2.1))),(16,.pure (preT (fun _:Str×Tm×Tm×Unit=>true)) (Zi (fun x:Str×Tm×Tm×Unit=>Dq (UN x.1 x.2.1 x.2.2.1)))),(20,.pure (preT (fun x:Tm×Unit=>tW x.1)) (Zi (fun x:Tm×Unit=>ZW x.1))),(36,.pure (preT (fun x:List Str×Str×Unit=>decide (x.1.length<=1048576))) (Zi (fun x:List Str×Str×Unit=>Wt x.1 x.2.1))),(32,.pure (preT (fun x:Tm×Unit=>tW x.1)) (Zi (fun x:Tm×Unit=>Yc x.1))),(19,.pure (preT (fun x:List Str×List Str×Unit=>decide (x.1.length<=1048576))) (Zi (fun x:List Str×List Str×Unit=>decide (x.1=x.2.1)))),(37,.pure (preT (fun x:Tm×Unit=>tW x.1)) (Zi (fun x:Tm×Unit=>Ym x.1))),(21,.pure (preT (fun x:Tm×Unit=>tW x.1)) (Zi (fun x:Tm×Unit=>Vg x.1))),(27,.pure (preT (fun x:Tm×Unit=>tW x.1)) (Zi (fun x:Tm×Unit=>KQ x.1)))]
theorem d3h{G:PV->Prop}(n:Nd)(ks:List Tm)(m:Nd)(ls:List Tm)(s:List UInt8)(h : ∃ y0:Bool,AV.pv (Zi (fun(x:Unit)=>true) [])=AV.pv (enc y0)∧(if (!y0)=true then G ((.bool false))else((Go.Pl.preT (fun(x:Tm×Int×Unit)=>tW x.1) [(ndC n ks),(.int .i64 20)])=true∧(∃ y1:Bool,AV.pv (Zi (fun(x:Tm×Int×Unit)=>Ky x.1 x.2.1) [(ndC n ks),(.int .i64 20)])=AV.pv (enc y1)∧(if (!y1)=true then G ((.bool true))else((Go.Pl.preT (fun(x:Tm×Int×Unit)=>tW x.1) [(ndC m ls),(.int .i64 20)])=true∧(∃ y2:Bool,AV.pv (Zi (fun(x:Tm×Int×Unit)=>Ky x.1 x.2.1) [(ndC m ls),(.int .i64 20)])=AV.pv (enc y2)∧(if (!y2)=true then G ((.bool true))else(if (decide ((↑(List.length s):Int)>20))=true then G ((.bool true))else((Go.Pl.preT (fun(x:Str×Tm×Tm×Unit)=>true) [(.str s),(ndC n ks),(ndC m ls)])=true∧(∃ y3:TS,AV.pv (Zi (fun(x:Str×Tm×Tm×Unit)=>Dq (UN x.1 x.2.1 x.2.2.1)) [(.str s),(ndC n ks),(ndC m ls)])=AV.pv (enc y3)∧((Go.Pl.preT (fun(x:Tm×Unit)=>tW x.1) (Am n ks))=true∧(∃ y4:List Str,AV.pv (Zi (fun(x:Tm×Unit)=>ZW x.1) (Am n ks))=AV.pv (enc y4)∧((Go.Pl.preT (fun(x:Tm×Unit)=>tW x.1) [(ndC m ls)])=true∧(∃ y5:List Str,AV.pv (Zi (fun(x:Tm×Unit)=>ZW x.1) [(ndC m ls)])=AV.pv (enc y5)∧(At Uq 0 (Zb WB G) WF 0 113 [(2,(.pv (.str s))),(3,(.ptr 0 0)),(4,(.ptr 1 0)),(7,(.ptr 2 0)),(8,(.pv (.sl 1 false (List.map enc y4)))),(9,(.pv (.sl 1 false (List.map enc y5)))),(10,(.pv (.int .i64 0)))] [(.obj (.box (Z0 n ks))),(.obj (.box (Z0 m ls))),(.obj (.box (bS y3)))])))))))))))))))):Ze Uq 0 (Zb WB G) WF [] (Z7 113 [.agg [enc n.kind,enc n.line,enc n.name,enc n.num,enc n.elem,enc n.dims,enc n.data,enc n.sizes,enc n.ranks,enc ks],.agg [enc m.kind,enc m.line,enc m.name,enc m.num,enc m.elem,enc m.dims,enc m.data,enc m.sizes,enc m.ranks,enc ls],.str s]):=Ze.tp (dm [dv Bool,dv TS,dv (List Str)] 53 0x717161000142222022220054225120222222220094510001452) h
theorem a6k{G:PV->Prop}(n:Nd)(ks:List Tm)(m:Nd)(ls:List Tm)(s:List UInt8)(i:Int)(o l:List Str)(x:TS)(h:if (decide (i<(↑(List.length (List.map enc l)):Int)))=true then(decide (0<=i)&&decide (Int.toNat i<List.length (List.map enc l))&&Enc.sz Str==1)=true∧(∃ y0:Str,AV.pv (PV.rptr (PV.cells (List.getD (List.map enc l) (Int.toNat i) default)))=AV.pv (PV.rptr (PV.cells ((enc) y0)))∧(if (!PV.asStr (List.getD (PV.cells (enc y0)) 0 default)==s)=true then(decide (0<=i)&&decide (Int.toNat i<List.length (List.map enc l))&&Enc.sz Str==1)=true∧(∃ y1:Str,AV.pv (PV.rptr (PV.cells (List.getD (List.map enc l) (Int.toNat i) default)))=AV.pv (PV.rptr (PV.cells ((enc) y1)))∧((Go.Pl.preT (fun(x:List Str×Str×Unit)=>decide (List.length x.1<=1048576)) [(.sl 1 false (List.map enc o)),(.str (PV.asStr (List.getD (PV.cells (enc y1)) 0 default)))])=true∧(∃ y2:List Str,AV.pv (Zi (fun(x:List Str×Str×Unit)=>Wt x.1 x.2.1) [(.sl 1 false (List.map enc o)),(.str (PV.asStr (List.getD (PV.cells (enc y1)) 0 default)))])=AV.pv (enc y2)∧(At Uq 0 (Zb WB G) WF 0 113 [(2,(.pv (.str s))),(3,(.ptr 0 0)),(4,(.ptr 1 0)),(7,(.ptr 2 0)),(8,(.pv (.sl 1 false (List.map enc y2)))),(9,(.pv (.sl 1 false (List.map enc l)))),(10,(.pv (.int .i64 (IntKind.wrap IntKind.i64 (i+1)))))] [(.obj (.box (Z0 n ks))),(.obj (.box (Z0 m ls))),(.obj (.box (bS x)))]))))else(At Uq 0 (Zb WB G) WF 0 113 [(2,(.pv (.str s))),(3,(.ptr 0 0)),(4,(.ptr 1 0)),(7,(.ptr 2 0)),(8,(.pv (.sl 1 false (List.map enc o)))),(9,(.pv (.sl 1 false (List.map enc l)))),(10,(.pv (.int .i64 (IntKind.wrap IntKind.i64 (i+1)))))] [(.obj (.box (Z0 n ks))),(.obj (.box (Z0 m ls))),(.obj (.box (bS x)))])))else((Go.Pl.preT (fun(x:Tm×Unit)=>tW x.1) (Am n ks))=true∧(∃ y3:List Str,AV.pv (Zi (fun(x:Tm×Unit)=>Yc x.1) (Am n ks))=AV.pv (enc y3)∧((Go.Pl.preT (fun(x:Tm×Unit)=>tW x.1) [(ndC m ls)])=true∧(∃ y4:List Str,AV.pv (Zi (fun(x:Tm×Unit)=>Yc x.1) [(ndC m ls)])=AV.pv (enc y4)∧(At Uq 0 (Zb WB G) WF 1 113 [(3,(.ptr 0 0)),(4,(.ptr 1 0)),(7,(.ptr 2 0)),(8,(.pv (.sl 1 false (List.map enc o)))),(11,(.pv (.sl 1 false (List.map enc y3)))),(12,(.pv (.sl 1 false (List.map enc y4)))),(13,(.pv (.int .i64 0)))] [(.obj (.box (Z0 n ks))),(.obj (.box (Z0 m ls))),(.obj (.box (bS x)))])))))):At Uq 0 (Zb WB G) WF 0 113 [(2,.pv (.str s)),(3,.ptr 0 0),(4,.ptr 1 0),(7,.ptr 2 0),(8,.pv (enc o)),(9,.pv (enc l)),(10,.pv (.int .i64 i))] [.obj (.box [.pv (enc n.kind),.pv (enc n.line),.pv (enc n.name),.pv (enc n.num),.pv (enc n.elem),.pv (enc n.dims),.pv (enc n.data),.pv (enc n.sizes),.pv (enc n.ranks),.pv (enc ks)]),.obj (.box [.pv (enc m.kind),.pv (enc m.line),.pv (enc m.name),.pv (enc m.num),.pv (enc m.elem),.pv (enc m.dims),.pv (enc m.data),.pv (enc m.sizes),.pv (enc m.ranks),.pv (enc ls)]),.obj (.box [.pv (enc x.n.kind),.pv (enc x.n.line),.pv (enc x.n.name),.pv (enc x.n.num),.pv (enc x.n.elem),.pv (enc x.n.dims),.pv (enc x.n.data),.pv (enc x.n.sizes),.pv (enc x.n.ranks),.pv (enc x.k)])]:=At.tp (dm [dr Str,dv (List Str)] 28 0x61610202612510074225101142) h
theorem b4u{G:PV->Prop}(n:Nd)(ks:List Tm)(m:Nd)(ls:List Tm)(s:List UInt8)(i:Int)(f o l:List Str)(x:TS)(h:if (decide (i<(↑(List.length (List.map enc l)):Int)))=true then(decide (0<=i)&&decide (Int.toNat i<List.length (List.map enc l))&&Enc.sz Str==1)=true∧(∃ y0:Str,AV.pv (PV.rptr (PV.cells (List.getD (List.map enc l) (Int.toNat i) default)))=AV.pv (PV.rptr (PV.cells ((enc) y0)))∧((Go.Pl.preT (fun(x:List Str×Str×Unit)=>decide (List.length x.1<=1048576)) [(.sl 1 false (List.map enc o)),(.str (PV.asStr (List.getD (PV.cells (enc y0)) 0 default)))])=true∧(∃ y1:List Str,AV.pv (Zi (fun(x:List Str×Str×Unit)=>Wt x.1 x.2.1) [(.sl 1 false (List.map enc o)),(.str (PV.asStr (List.getD (PV.cells (enc y0)) 0 default)))])=AV.pv (enc y1)∧(At Uq 0 (Zb WB G) WF 1 113 [(3,(.ptr 0 0)),(4,(.ptr 1 0)),(7,(.ptr 2 0)),(8,(.pv (.sl 1 false (List.map enc f)))),(11,(.pv (.sl 1 false (List.map enc y1)))),(12,(.pv (.sl 1 false (List.map enc l)))),(13,(.pv (.int .i64 (IntKind.wrap IntKind.i64 (i+1)))))] [(.obj (.box (Z0 n ks))),(.obj (.box (Z0 m ls))),(.obj (.box (bS x)))]))))else((Go.Pl.preT (fun(x:Tm×Unit)=>tW x.1) [(eS x)])=true∧(∃ y2:List Str,AV.pv (Zi (fun(x:Tm×Unit)=>ZW x.1) [(eS x)])=AV.pv (enc y2)∧((Go.Pl.preT (fun(x:List Str×List Str×Unit)=>decide (List.length x.1<=1048576)) [(.sl 1 false (List.map enc y2)),(.sl 1 false (List.map enc f))])=true∧(∃ y3:Bool,AV.pv (Zi (fun(x:List Str×List Str×Unit)=>decide (x.1=x.2.1)) [(.sl 1 false (List.map enc y2)),(.sl 1 false (List.map enc f))])=AV.pv (enc y3)∧(if (y3)=true then(Go.Pl.preT (fun(x:Tm×Unit)=>tW x.1) [(eS x)])=true∧(∃ y4:List Str,AV.pv (Zi (fun(x:Tm×Unit)=>Yc x.1) [(eS x)])=AV.pv (enc y4)∧((Go.Pl.preT (fun(x:List Str×List Str×Unit)=>decide (List.length x.1<=1048576)) [(.sl 1 false (List.map enc y4)),(.sl 1 false (List.map enc o))])=true∧(∃ y5:Bool,AV.pv (Zi (fun(x:List Str×List Str×Unit)=>decide (x.1=x.2.1)) [(.sl 1 false (List.map enc y4)),(.sl 1 false (List.map enc o))])=AV.pv (enc y5)∧(if (y5)=true then(Go.Pl.preT (fun(x:Tm×Unit)=>tW x.1) [(eS x)])=true∧(∃ y6:Int,AV.pv (Zi (fun(x:Tm×Unit)=>Ym x.1) [(eS x)])=AV.pv (enc y6)∧((Go.Pl.preT (fun(x:Tm×Unit)=>tW x.1) (Am n ks))=true∧(∃ y7:Int,AV.pv (Zi (fun(x:Tm×Unit)=>Ym x.1) (Am n ks))=AV.pv (enc y7)∧((Go.Pl.preT (fun(x:Tm×Unit)=>tW x.1) [(ndC m ls)])=true∧(∃ y8:Int,AV.pv (Zi (fun(x:Tm×Unit)=>Ym x.1) [(ndC m ls)])=AV.pv (enc y8)∧(if (y6==IntKind.wrap IntKind.i64 (y7+y8))=true then(Go.Pl.preT (fun(x:Tm×Unit)=>tW x.1) [(eS x)])=true∧(∃ y9:Int,AV.pv (Zi (fun(x:Tm×Unit)=>Vg x.1) [(eS x)])=AV.pv (enc y9)∧((Go.Pl.preT (fun(x:Tm×Unit)=>tW x.1) (Am n ks))=true∧(∃ y10:Int,AV.pv (Zi (fun(x:Tm×Unit)=>Vg x.1) (Am n ks))=AV.pv (enc y10)∧((Go.Pl.preT (fun(x:Tm×Unit)=>tW x.1) [(ndC m ls)])=true∧(∃ y11:Int,AV.pv (Zi (fun(x:Tm×Unit)=>Vg x.1) [(ndC m ls)])=AV.pv (enc y11)∧(if (y9==IntKind.wrap IntKind.i64 (IntKind.wrap IntKind.i64 (1+y10)+y11))=true then(Go.Pl.preT (fun(x:Tm×Unit)=>tW x.1) [(eS x)])=true∧(∃ y12:Int,AV.pv (Zi (fun(x:Tm×Unit)=>KQ x.1) [(eS x)])=AV.pv (enc y12)∧((Go.Pl.preT (fun(x:Tm×Unit)=>tW x.1) (Am n ks))=true∧(∃ y13:Int,AV.pv (Zi (fun(x:Tm×Unit)=>KQ x.1) (Am n ks))=AV.pv (enc y13)∧((Go.Pl.preT (fun(x:Tm×Unit)=>tW x.1) [(ndC m ls)])=true∧(∃ y14:Int,AV.pv (Zi (fun(x:Tm×Unit)=>KQ x.1) [(ndC m ls)])=AV.pv (enc y14)∧(G ((.bool (y12==IntKind.wrap IntKind.i64 (1+if true=true then if y14>y13 then y14 else y13 else if y14<y13 then y14 else y13))))))))))else(G ((.bool false)))))))))else(G ((.bool false)))))))))else(G ((.bool false)))))))else(G ((.bool false))))))))):At Uq 0 (Zb WB G) WF 1 113 [(3,.ptr 0 0),(4,.ptr 1 0),(7,.ptr 2 0),(8,.pv (enc f)),(11,.pv (enc o)),(12,.pv (enc l)),(13,.pv (.int .i64 i))] [.obj (.box [.pv (enc n.kind),.pv (enc n.line),.pv (enc n.name),.pv (enc n.num),.pv (enc n.elem),.pv (enc n.dims),.pv (enc n.data),.pv (enc n.sizes),.pv (enc n.ranks),.pv (enc ks)]),.obj (.box [.pv (enc m.kind),.pv (enc m.line),.pv (enc m.name),.pv (enc m.num),.pv (enc m.elem),.pv (enc m.dims),.pv (enc m.data),.pv (enc m.sizes),.pv (enc m.ranks),.pv (enc ls)]),.obj (.box [.pv (enc x.n.kind),.pv (enc x.n.line),.pv (enc x.n.name),.pv (enc x.n.num),.pv (enc x.n.elem),.pv (enc x.n.dims),.pv (enc x.n.data),.pv (enc x.n.sizes),.pv (enc x.n.ranks),.pv (enc x.k)])]:=At.tp (dm [dr Str,dv (List Str),dv Bool,dv Int] 186 0x2222222222222222222222222222222220222222222222222222222222222202222222222222222222022222222202222228122812281201242222281222281228120324222228122812281205a42712261208347161026125100742) h
end Go.Pl
namespace Go.Pl
open Go.RowKit
open Enc (enc dec is)
open EncL (encL decL isL)
end Go.Pl
namespace Go.Pl
open Go.RowKit
open Enc (enc dec is)
open EncL (encL decL isL)
set_option maxRecDepth 100000
def XL:IC:=(Vf [ZA 1 (.box 10 (.t 0)) 0,ZA 2 (.alloc (.agg [(.int .i64 0),(.int .i64 0),(.str []),(.int .i64 0),(.str []),(.sl 0 true []),(.sl 0 true []),(.sl 0 true []),(.sl 0 true []),(.sl 0 true [])])) 1] (.seq (.reg [ZA 5 (.faddr 4 (.t 1)) 0,ZA 6 (.faddr 0 (.t 5)) 0,ZA 7 (.load false [.str] (.t 6)) 0,ZA 8 (.faddr 4 (.t 1)) 0,ZA 9 (.faddr 1 (.t 8)) 0,ZA 10 (DZ [(.sl 1)] (.t 9)) 0,ZA 11 (c'' 93 [(.t 10)]) 0,ZA 12 (.faddr 4 (.t 1)) 2,ZA 13 (.faddr 2 (.t 12)) 2,ZA 14 (DZ [(.sl 1)] (.t 13)) 2,ZA 15 (c'' 93 [(.t 14)]) 2,ZA 16 (.build [(.str []),(.sl 0 true []),(.sl 0 true [])] [(0,(1,(.t 7))),(1,(1,(.t 11))),(2,(1,(.t 15)))]) 4,ZA 17 (.faddr 4 (.t 1)) 4,Ak (.store 3 (.t 17) (.t 16)) 4] (some [[],[0],[1,0],[],[3],[4,3],[5,4,3],[],[7],[8,7],[9,6,8,7,5,4,3],[2,6,10,1,0,5,4,3,9,8,7],[0,1,2,3,4,5,6,7,8,9,10,11],[12,11,10,0,1,2,3,4,5,6,7,8,9]])) (Vf [ZA 18 (.faddr 8 (.t 1)) 0,ZA 19 (DZ [(.sl 1)] (.t 18)) 0,ZA 20 (c'' 93 [(.t 19)]) 0,ZA 21 (.faddr 8 (.t 1)) 2,Ak (.store 1 (.t 21) (.t 20)) 2] (Vf [ZA 22 (.faddr 7 (.t 1)) 0,ZA 23 (DZ [(.sl 2)] (.t 22)) 0,ZA 24 (c'' 94 [(.t 23)]) 0,ZA 25 (.faddr 7 (.t 1)) 2,Ak (.store 1 (.t 25) (.t 24)) 2] (.seq (Vf [ZA 26 (.faddr 7 (.t 1)) 0,ZA 27 (DZ [(.sl 2)] (.t 26)) 0,ZA 28 (.len 1 (.t 27)) 0,ZA 29 (.mv (UT 0)) 0] (.block 0 (.loop [29,28,1,49,50,52,51,53,54,55,4,58,59,60,61,62,56,57,64,63,65,2,66] (Vf [ZA 30 (Hm .lss (.t 29) (.t 28)) 0] (.seq (.cond (.t 30) .skip (.exit 0)) (.seq (.block 1 (Vf [ZA 31 (X0 29) 0,ZA 3 (X0 31) 0] (.reg [ZA 32 (.faddr 7 (.t 1)) 0,ZA 33 (DZ [(.sl 2)] (.t 32)) 0,ZA 34 (X0 3) 0,ZA 35 (.faddr 7 (.t 1)) 0,ZA 36 (DZ [(.sl 2)] (.t 35)) 0,ZA 37 (X0 3) 0,ZA 38 (.iaddr 2 (.t 36) (.t 37)) 0,ZA 39 (.faddr 1 (.t 38)) 0,ZA 40 (DZ [(.sl 2)] (.t 39)) 0,ZA 41 (c'' 95 [(.t 40)]) 0,ZA 42 (.iaddr 2 (.t 33) (.t 34)) 2,ZA 43 (.faddr 1 (.t 42)) 2,Ak (.store 1 (.t 43) (.t 41)) 2] (some [[],[0],[],[],[3],[],[4,5,3],[6,4,5,3],[7,6,4,5,3],[8,7,6,4,5,3],[1,2,0,3,4,5,6,7,8,9],[10,0,1,2,3,4,5,6,7,8,9],[11,9,0,1,2,3,4,5,6,7,8,10]])))) (.reg [ZA 44 (Hm .add (.t 29) (UT 1)) 0,ZA 29 (X0 44) 0] none))))))) (Vf [ZA 45 (.faddr 9 (.t 1)) 0,ZA 46 (DZ [(.sl 10)] (.t 45)) 0,ZA 47 (c'' 96 [(.t 46)]) 0,ZA 48 (.faddr 9 (.t 1)) 2,Ak (.store 1 (.t 48) (.t 47)) 2] (.ext 0 [1,49,50,52,51,53,54,55,4,58,59,60,61,62,56,57,64,63,65,2,66])))))))
def U2:Zz:=YF [(93,.pure (preT (fun x:List Int×Unit=>decide (x.1.length<=2000000))) (Zi (fun x:List Int×Unit=>x.1))),(94,.own (Yg 2) (Xk 62 2)),(95,.pure (preT (fun x:List Coef×Unit=>decide (x.1.length<=2000000))) (Zi (fun x:List Coef×Unit=>x.1))),(96,.own (Yg 10) (Xk 28 10))]
theorem c7u{G:Zn->Prop}(RR:Nat->St->Prop)(n:Nd)(ks:List Tm)(h:(Go.Pl.preT (fun(x:List Int×Unit)=>decide (List.length x.1<=2000000)) [(.sl 1 false (List.map enc (Nd.dims n)))])=true∧(∃ y0:List Int,AV.pv (Zi (fun(x:List Int×Unit)=>x.1) [(.sl 1 false (List.map enc (Nd.dims n)))])=AV.pv (enc y0)∧((Go.Pl.preT (fun(x:List Int×Unit)=>decide (List.length x.1<=2000000)) [(.sl 1 false (List.map enc (Nd.data n)))])=true∧(∃ y1:List Int,AV.pv (Zi (fun(x:List Int×Unit)=>x.1) [(.sl 1 false (List.map enc (Nd.data n)))])=AV.pv (enc y1)∧((Go.Pl.preT (fun(x:List Int×Unit)=>decide (List.length x.1<=2000000)) [(.sl 1 false (List.map enc (Nd.ranks n)))])=true∧(∃ y2:List Int,AV.pv (Zi (fun(x:List Int×Unit)=>x.1) [(.sl 1 false (List.map enc (Nd.ranks n)))])=AV.pv (enc y2)∧((Yg 2 [(.pv (.sl 2 false (List.map enc (Nd.sizes n))))] [])=true∧(AtM U2 (WM RR) 0 (fun st=>G st.heap) XL 0 67 [(1,(.ptr 0 0)),(2,(.ptr 1 0)),(4,.undef),(28,(.pv (.int .i64 (↑(List.length (List.map enc (Nd.sizes n)) - 0):Int)))),(29,(.pv (.int .i64 0))),(49,.undef),(50,.undef),(51,.undef),(52,.undef),(53,.undef),(54,.undef),(55,.undef),(56,.undef),(57,.undef),(58,.undef),(59,.undef),(60,.undef),(61,.undef),(62,.undef),(63,.undef),(64,.undef),(65,.undef),(66,.undef)] [(.obj (.box [(.pv (.int .i64 (Nd.kind n))),(.pv (.int .i64 (Nd.line n))),(.pv (.str (Str.s (Nd.name n)))),(.pv (.int .i64 (Nd.num n))),(.pv (.str (Str.s (Nd.elem n)))),(.pv (.sl 1 false (List.map enc y0))),(.pv (.sl 1 false (List.map enc y1))),(.row 2 (List.length (List.map enc (Nd.sizes n))) 0 (List.length (List.map enc (Nd.sizes n)))),(.pv (.sl 1 false (List.map enc y2))),(.pv (.sl 10 false (List.map enc ks)))])),(.obj (.box [(.pv (.int .i64 0)),(.pv (.int .i64 0)),(.pv (.str [])),(.pv (.int .i64 0)),(.pv (.str [])),(.pv (.sl 0 true [])),(.pv (.sl 0 true [])),(.pv (.sl 0 true [])),(.pv (.sl 0 true [])),(.pv (.sl 0 true []))])),(.obj (.row false 62 2 (List.map enc (Nd.sizes n))))])))))))):Zv U2 (WM RR) 0 (fun st=>G st.heap) (.inl XL) [] (XY 67 [.pv (.agg [enc n.kind,enc n.line,enc n.name,enc n.num,enc n.elem,enc n.dims,enc n.data,enc n.sizes,enc n.ranks,enc ks])] []):=Zv.mh (dm [dv (List Int)] 10 0x31515151) h
theorem a1d{G:Zn->Prop}(RR:Nat->St->Prop)(n:Nd)(ks:List Tm)(m:Nat)(L:List Lin)(i:Int)(h:if (decide (i<(↑m:Int)))=true then(decide (0<=i)&&decide (0+Int.toNat i<m)&&List.length (List.map enc L)==m)=true∧((List.length (List.map enc L)==m&&decide (0+Int.toNat i<List.length (List.map enc L)))=true∧((decide (0+1+List.length [Sh.sl 2]<=List.length (PV.cells (List.getD (List.map enc L) (0+Int.toNat i) default)))&&Yp (PV.cells (List.getD (List.map enc L) (0+Int.toNat i) default)) (0+1) [Sh.sl 2])=true∧((Go.Pl.preT (fun(x:List Coef×Unit)=>decide (List.length x.1<=2000000)) [(.sl 2 (PV.asT (List.getD (PV.cells (List.getD (List.map enc L) (0+Int.toNat i) default)) (0+1) default)) (PV.asXs (List.getD (PV.cells (List.getD (List.map enc L) (0+Int.toNat i) default)) (0+1) default)))])=true∧(∃ y0:List Coef,AV.pv (Zi (fun(x:List Coef×Unit)=>x.1) [(.sl 2 (PV.asT (List.getD (PV.cells (List.getD (List.map enc L) (0+Int.toNat i) default)) (0+1) default)) (PV.asXs (List.getD (PV.cells (List.getD (List.map enc L) (0+Int.toNat i) default)) (0+1) default)))])=AV.pv (enc y0)∧((decide (0<=i)&&decide (0+Int.toNat i<m)&&List.length (List.map enc L)==m)=true∧((List.length (List.map enc L)==m&&decide (0+Int.toNat i<List.length (List.map enc L))&&List.length (PV.cells (enc y0))==1&&decide (0+1+1<=List.length (PV.cells (List.getD (List.map enc L) (0+Int.toNat i) default)))&&PV.cellsOk (enc y0))=true∧(AtM U2 (WM RR) 0 (fun st=>G st.heap) XL 0 67 [(1,(.ptr 0 0)),(2,(.ptr 1 0)),(4,.undef),(28,(.pv (.int .i64 (↑m:Int)))),(29,(.pv (.int .i64 (IntKind.wrap IntKind.i64 (i+1))))),(49,.undef),(50,.undef),(51,.undef),(52,.undef),(53,.undef),(54,.undef),(55,.undef),(56,.undef),(57,.undef),(58,.undef),(59,.undef),(60,.undef),(61,.undef),(62,.undef),(63,.undef),(64,.undef),(65,.undef),(66,.undef)] [(.obj (.box [(.pv (.int .i64 (Nd.kind n))),(.pv (.int .i64 (Nd.line n))),(.pv (.str (Str.s (Nd.name n)))),(.pv (.int .i64 (Nd.num n))),(.pv (.str (Str.s (Nd.elem n)))),(.pv (.sl 1 false (List.map enc (Nd.dims n)))),(.pv (.sl 1 false (List.map enc (Nd.data n)))),(.row 2 m 0 m),(.pv (.sl 1 false (List.map enc (Nd.ranks n)))),(.pv (.sl 10 false (List.map enc ks)))])),(.obj (.box [(.pv (.int .i64 0)),(.pv (.int .i64 0)),(.pv (.str [])),(.pv (.int .i64 0)),(.pv (.str [])),(.pv (.sl 0 true [])),(.pv (.sl 0 true [])),(.pv (.sl 0 true [])),(.pv (.sl 0 true [])),(.pv (.sl 0 true []))])),(.obj (.row false 62 2 (List.set (List.map enc L) (0+Int.toNat i) (PV.withCells (List.getD (List.map enc L) (0+Int.toNat i) default) (splice (PV.cells (List.getD (List.map enc L) (0+Int.toNat i) default)) (0+1) (PV.cells (enc y0)))))))])))))))else((Yg 10 [(.pv (.sl 10 false (List.map enc ks)))] [])=true∧((WM RR) 0 ⟨ZE 67 0 [(1,(.ptr 0 0)),(2,(.ptr 1 0)),(4,.undef),(49,.undef),(50,.undef),(51,.undef),(52,.undef),(53,.undef),(54,.undef),(55,.undef),(56,.undef),(57,.undef),(58,.undef),(59,.undef),(60,.undef),(61,.undef),(62,.undef),(63,.undef),(64,.undef),(65,.undef),(66,.undef)],[(.obj (.box [(.pv (.int .i64 (Nd.kind n))),(.pv (.int .i64 (Nd.line n))),(.pv (.str (Str.s (Nd.name n)))),(.pv (.int .i64 (Nd.num n))),(.pv (.str (Str.s (Nd.elem n)))),(.pv (.sl 1 false (List.map enc (Nd.dims n)))),(.pv (.sl 1 false (List.map enc (Nd.data n)))),(.row 2 m 0 m),(.pv (.sl 1 false (List.map enc (Nd.ranks n)))),(.row 3 (List.length (List.map enc ks)) 0 (List.length (List.map enc ks)))])),(.obj (.box [(.pv (.int .i64 0)),(.pv (.int .i64 0)),(.pv (.str [])),(.pv (.int .i64 0)),(.pv (.str [])),(.pv (.sl 0 true [])),(.pv (.sl 0 true [])),(.pv (.sl 0 true [])),(.pv (.sl 0 true [])),(.pv (.sl 0 true []))])),(.obj (.row false 62 2 (List.map enc L))),(.obj (.row false 28 10 (List.map enc ks)))]⟩ (fun x S'=>Un U2 (WM RR) 0 (fun st=>G st.heap) XL 0 x S')))):AtM U2 (WM RR) 0 (fun st=>G st.heap) XL 0 67 [(1,.ptr 0 0),(2,.ptr 1 0),(4,.undef),(28,.pv (.int .i64 m)),(29,.pv (.int .i64 i)),(49,.undef),(50,.undef),(51,.undef),(52,.undef),(53,.undef),(54,.undef),(55,.undef),(56,.undef),(57,.undef),(58,.undef),(59,.undef),(60,.undef),(61,.undef),(62,.undef),(63,.undef),(64,.undef),(65,.undef),(66,.undef)] [.obj (.box [.pv (enc n.kind),.pv (enc n.line),.pv (enc n.name),.pv (enc n.num),.pv (enc n.elem),.pv (enc n.dims),.pv (enc n.data),.row 2 m 0 m,.pv (enc n.ranks),.pv (enc ks)]),.obj (.box [.pv (.int .i64 0),.pv (.int .i64 0),.pv (.str []),.pv (.int .i64 0),.pv (.str []),.pv (.sl 0 true []),.pv (.sl 0 true []),.pv (.sl 0 true []),.pv (.sl 0 true []),.pv (.sl 0 true [])]),.obj (.row false 62 2 (L.map enc))]:=Zv.mh (dm [dv (List Coef)] 20 0x310213151113100b42) h
def Kl:IC:=XL
def Gp:Zz:=YF [(93,.pure (preT (fun x:List Int×Unit=>decide (x.1.length<=2000000))) (Zi (fun x:List Int×Unit=>x.1))),(94,.pure (preT (fun x:List Lin×Unit=>x.1.isEmpty)) (Zi (fun x:List Lin×Unit=>x.1))),(95,.pure (preT (fun x:List Coef×Unit=>decide (x.1.length<=2000000))) (Zi (fun x:List Coef×Unit=>x.1))),(96,.own (Yg 10) (Xk 28 10))]
theorem c7i{G:Zn->Prop}(RR:Nat->St->Prop)(n:Nd)(ks:List Tm)(h:(Go.Pl.preT (fun(x:List Int×Unit)=>decide (List.length x.1<=2000000)) [(.sl 1 false (List.map enc (Nd.dims n)))])=true∧(∃ y0:List Int,AV.pv (Zi (fun(x:List Int×Unit)=>x.1) [(.sl 1 false (List.map enc (Nd.dims n)))])=AV.pv (enc y0)∧((Go.Pl.preT (fun(x:List Int×Unit)=>decide (List.length x.1<=2000000)) [(.sl 1 false (List.map enc (Nd.data n)))])=true∧(∃ y1:List Int,AV.pv (Zi (fun(x:List Int×Unit)=>x.1) [(.sl 1 false (List.map enc (Nd.data n)))])=AV.pv (enc y1)∧((Go.Pl.preT (fun(x:List Int×Unit)=>decide (List.length x.1<=2000000)) [(.sl 1 false (List.map enc (Nd.ranks n)))])=true∧(∃ y2:List Int,AV.pv (Zi (fun(x:List Int×Unit)=>x.1) [(.sl 1 false (List.map enc (Nd.ranks n)))])=AV.pv (enc y2)∧((Go.Pl.preT (fun(x:List Lin×Unit)=>List.isEmpty x.1) [(.sl 2 false (List.map enc (Nd.sizes n)))])=true∧(∃ y3:List Lin,AV.pv (Zi (fun(x:List Lin×Unit)=>x.1) [(.sl 2 false (List.map enc (Nd.sizes n)))])=AV.pv (enc y3)∧(AtM Gp (WM RR) 0 (fun st=>G st.heap) Kl 0 67 [(1,(.ptr 0 0)),(2,(.ptr 1 0)),(4,.undef),(28,(.pv (.int .i64 (↑(List.length (List.map enc y3)):Int)))),(29,(.pv (.int .i64 0))),(49,.undef),(50,.undef),(51,.undef),(52,.undef),(53,.undef),(54,.undef),(55,.undef),(56,.undef),(57,.undef),(58,.undef),(59,.undef),(60,.undef),(61,.undef),(62,.undef),(63,.undef),(64,.undef),(65,.undef),(66,.undef)] [(.obj (.box [(.pv (.int .i64 (Nd.kind n))),(.pv (.int .i64 (Nd.line n))),(.pv (.str (Str.s (Nd.name n)))),(.pv (.int .i64 (Nd.num n))),(.pv (.str (Str.s (Nd.elem n)))),(.pv (.sl 1 false (List.map enc y0))),(.pv (.sl 1 false (List.map enc y1))),(.pv (.sl 2 false (List.map enc y3))),(.pv (.sl 1 false (List.map enc y2))),(.pv (.sl 10 false (List.map enc ks)))])),(.obj (.box [(.pv (.int .i64 0)),(.pv (.int .i64 0)),(.pv (.str [])),(.pv (.int .i64 0)),(.pv (.str [])),(.pv (.sl 0 true [])),(.pv (.sl 0 true [])),(.pv (.sl 0 true [])),(.pv (.sl 0 true [])),(.pv (.sl 0 true []))]))]))))))))):Zv Gp (WM RR) 0 (fun st=>G st.heap) (.inl Kl) [] (XY 67 [.pv (.agg [enc n.kind,enc n.line,enc n.name,enc n.num,enc n.elem,enc n.dims,enc n.data,enc n.sizes,enc n.ranks,enc ks])] []):=Zv.mh (dm [dv (List Int),dv (List Lin)] 10 0x61515151) h
-- BAD 1 in Em
theorem Em{G:Zn->Prop}(RR:Nat->St->Prop)(n:Nd)(ks:List Tm)(m i:Int)(h:if (decide (i<m))=true then(decide (0<=i)&&decide (Int.toNat i<List.length (List.map enc (Nd.sizes n)))&&Enc.sz Lin==2)=true∧(∃ y0:Lin,AV.pv (PV.rptr (PV.cells (List.getD (List.map enc (Nd.sizes n)) (Int.toNat i) default)))=AV.pv (PV.rptr (PV.cells ((enc) y0)))∧((Go.Pl.preT (fun(x:List Coef×Unit)=>decide (List.length x.1<=2000000)) [(.sl 2 false (PV.asXs (List.getD (List.drop 1 (PV.cells (enc y0))) 0 default)))])=true∧(∃ y1:List Coef,AV.pv (Zi (fun(x:List Coef×Unit)=>x.1) [(.sl 2 false (PV.asXs (List.getD (List.drop 1 (PV.cells (enc y0))) 0 default)))])=AV.pv (enc y1)∧((decide (0<=i)&&decide (Int.toNat i<List.length (List.map enc (Nd.sizes n)))&&Enc.sz Lin==2)=true∧(∃ y2:Lin,AV.pv (PV.rptr (PV.cells (List.getD (List.map enc (Nd.sizes n)) (Int.toNat i) default)))=AV.pv (PV.rptr (PV.cells ((enc) y2)))∧(False))))))else((Yg 10 [(.pv (.sl 10 false (List.map enc ks)))] [])=true∧((WM RR) 0 ⟨ZE 67 0 [(1,(.ptr 0 0)),(2,(.ptr 1 0)),(4,.undef),(49,.undef),(50,.undef),(51,.undef),(52,.undef),(53,.undef),(54,.undef),(55,.undef),(56,.undef),(57,.undef),(58,.undef),(59,.undef),(60,.undef),(61,.undef),(62,.undef),(63,.undef),(64,.undef),(65,.undef),(66,.undef)],[(.obj (.box [(.pv (.int .i64 (Nd.kind n))),(.pv (.int .i64 (Nd.line n))),(.pv (.str (Str.s (Nd.name n)))),(.pv (.int .i64 (Nd.num n))),(.pv (.str (Str.s (Nd.elem n)))),(.pv (.sl 1 false (List.map enc (Nd.dims n)))),(.pv (.sl 1 false (List.map enc (Nd.data n)))),(.pv (.sl 2 false (List.map enc (Nd.sizes n)))),(.pv (.sl 1 false (List.map enc (Nd.ranks n)))),(.row 2 (List.length (List.map enc ks)) 0 (List.length (List.map enc ks)))])),(.obj (.box [(.pv (.int .i64 0)),(.pv (.int .i64 0)),(.pv (.str [])),(.pv (.int .i64 0)),(.pv (.str [])),(.pv (.sl 0 true [])),(.pv (.sl 0 true [])),(.pv (.sl 0 true [])),(.pv (.sl 0 true [])),(.pv (.sl 0 true []))])),(.obj (.row false 28 10 (List.map enc ks)))]⟩ (fun x S'=>Un Gp (WM RR) 0 (fun st=>G st.heap) Kl 0 x S')))):AtM Gp (WM RR) 0 (fun st=>G st.heap) Kl 0 67 [(1,.ptr 0 0),(2,.ptr 1 0),(4,.undef),(28,.pv (.int .i64 m)),(29,.pv (.int .i64 i)),(49,.undef),(50,.undef),(51,.undef),(52,.undef),(53,.undef),(54,.undef),(55,.undef),(56,.undef),(57,.undef),(58,.undef),(59,.undef),(60,.undef),(61,.undef),(62,.undef),(63,.undef),(64,.undef),(65,.undef),(66,.undef)] [.obj (.box [.pv (enc n.kind),.pv (enc n.line),.pv (enc n.name),.pv (enc n.num),.pv (enc n.elem),.pv (enc n.dims),.pv (enc n.data),.pv (enc n.sizes),.pv (enc n.ranks),.pv (enc ks)]),.obj (.box [.pv (.int .i64 0),.pv (.int .i64 0),.pv (.str []),.pv (.int .i64 0),.pv (.str []),.pv (.sl 0 true []),.pv (.sl 0 true []),.pv (.sl 0 true []),.pv (.sl 0 true []),.pv (.sl 0 true [])])]:=Zv.mh (dm [dr Lin,dv (List Coef)] 17 0x310516125100842) h
def Vk:IC:=XL
def Qo:Zz:=YF [(93,.pure (preT (fun x:List Int×Unit=>decide (x.1.length<=2000000))) (Zi (fun x:List Int×Unit=>x.1))),(94,.own (Yg 2) (Xk 62 2)),(95,.pure (preT (fun x:List Coef×Unit=>decide (x.1.length<=2000000))) (Zi (fun x:List Coef×Unit=>x.1))),(96,.pure (preT (fun x:List Tm×Unit=>x.1.isEmpty)) (Zi (fun x:List Tm×Unit=>x.1)))]
theorem c8l{G:Zn->Prop}(RR:Nat->St->Prop)(n:Nd)(ks:List Tm)(h:(Go.Pl.preT (fun(x:List Int×Unit)=>decide (List.length x.1<=2000000)) [(.sl 1 false (List.map enc (Nd.dims n)))])=true∧(∃ y0:List Int,AV.pv (Zi (fun(x:List Int×Unit)=>x.1) [(.sl 1 false (List.map enc (Nd.dims n)))])=AV.pv (enc y0)∧((Go.Pl.preT (fun(x:List Int×Unit)=>decide (List.length x.1<=2000000)) [(.sl 1 false (List.map enc (Nd.data n)))])=true∧(∃ y1:List Int,AV.pv (Zi (fun(x:List Int×Unit)=>x.1) [(.sl 1 false (List.map enc (Nd.data n)))])=AV.pv (enc y1)∧((Go.Pl.preT (fun(x:List Int×Unit)=>decide (List.length x.1<=2000000)) [(.sl 1 false (List.map enc (Nd.ranks n)))])=true∧(∃ y2:List Int,AV.pv (Zi (fun(x:List Int×Unit)=>x.1) [(.sl 1 false (List.map enc (Nd.ranks n)))])=AV.pv (enc y2)∧((Yg 2 [(.pv (.sl 2 false (List.map enc (Nd.sizes n))))] [])=true∧(AtM Qo (WM RR) 0 (fun st=>G st.heap) Vk 0 67 [(1,(.ptr 0 0)),(2,(.ptr 1 0)),(4,.undef),(28,(.pv (.int .i64 (↑(List.length (List.map enc (Nd.sizes n)) - 0):Int)))),(29,(.pv (.int .i64 0))),(49,.undef),(50,.undef),(51,.undef),(52,.undef),(53,.undef),(54,.undef),(55,.undef),(56,.undef),(57,.undef),(58,.undef),(59,.undef),(60,.undef),(61,.undef),(62,.undef),(63,.undef),(64,.undef),(65,.undef),(66,.undef)] [(.obj (.box [(.pv (.int .i64 (Nd.kind n))),(.pv (.int .i64 (Nd.line n))),(.pv (.str (Str.s (Nd.name n)))),(.pv (.int .i64 (Nd.num n))),(.pv (.str (Str.s (Nd.elem n)))),(.pv (.sl 1 false (List.map enc y0))),(.pv (.sl 1 false (List.map enc y1))),(.row 2 (List.length (List.map enc (Nd.sizes n))) 0 (List.length (List.map enc (Nd.sizes n)))),(.pv (.sl 1 false (List.map enc y2))),(.pv (.sl 10 false (List.map enc ks)))])),(.obj (.box [(.pv (.int .i64 0)),(.pv (.int .i64 0)),(.pv (.str [])),(.pv (.int .i64 0)),(.pv (.str [])),(.pv (.sl 0 true [])),(.pv (.sl 0 true [])),(.pv (.sl 0 true [])),(.pv (.sl 0 true [])),(.pv (.sl 0 true []))])),(.obj (.row false 62 2 (List.map enc (Nd.sizes n))))])))))))):Zv Qo (WM RR) 0 (fun st=>G st.heap) (.inl Vk) [] (XY 67 [.pv (.agg [enc n.kind,enc n.line,enc n.name,enc n.num,enc n.elem,enc n.dims,enc n.data,enc n.sizes,enc n.ranks,enc ks])] []):=Zv.mh (dm [dv (List Int)] 10 0x31515151) h
theorem a0u{G:Zn->Prop}(RR:Nat->St->Prop)(n:Nd)(ks:List Tm)(m:Nat)(L:List Lin)(i:Int)(h:if (decide (i<(↑m:Int)))=true then(decide (0<=i)&&decide (0+Int.toNat i<m)&&List.length (List.map enc L)==m)=true∧((List.length (List.map enc L)==m&&decide (0+Int.toNat i<List.length (List.map enc L)))=true∧((decide (0+1+List.length [Sh.sl 2]<=List.length (PV.cells (List.getD (List.map enc L) (0+Int.toNat i) default)))&&Yp (PV.cells (List.getD (List.map enc L) (0+Int.toNat i) default)) (0+1) [Sh.sl 2])=true∧((Go.Pl.preT (fun(x:List Coef×Unit)=>decide (List.length x.1<=2000000)) [(.sl 2 (PV.asT (List.getD (PV.cells (List.getD (List.map enc L) (0+Int.toNat i) default)) (0+1) default)) (PV.asXs (List.getD (PV.cells (List.getD (List.map enc L) (0+Int.toNat i) default)) (0+1) default)))])=true∧(∃ y0:List Coef,AV.pv (Zi (fun(x:List Coef×Unit)=>x.1) [(.sl 2 (PV.asT (List.getD (PV.cells (List.getD (List.map enc L) (0+Int.toNat i) default)) (0+1) default)) (PV.asXs (List.getD (PV.cells (List.getD (List.map enc L) (0+Int.toNat i) default)) (0+1) default)))])=AV.pv (enc y0)∧((decide (0<=i)&&decide (0+Int.toNat i<m)&&List.length (List.map enc L)==m)=true∧((List.length (List.map enc L)==m&&decide (0+Int.toNat i<List.length (List.map enc L))&&List.length (PV.cells (enc y0))==1&&decide (0+1+1<=List.length (PV.cells (List.getD (List.map enc L) (0+Int.toNat i) default)))&&PV.cellsOk (enc y0))=true∧(AtM Qo (WM RR) 0 (fun st=>G st.heap) Vk 0 67 [(1,(.ptr 0 0)),(2,(.ptr 1 0)),(4,.undef),(28,(.pv (.int .i64 (↑m:Int)))),(29,(.pv (.int .i64 (IntKind.wrap IntKind.i64 (i+1))))),(49,.undef),(50,.undef),(51,.undef),(52,.undef),(53,.undef),(54,.undef),(55,.undef),(56,.undef),(57,.undef),(58,.undef),(59,.undef),(60,.undef),(61,.undef),(62,.undef),(63,.undef),(64,.undef),(65,.undef),(66,.undef)] [(.obj (.box [(.pv (.int .i64 (Nd.kind n))),(.pv (.int .i64 (Nd.line n))),(.pv (.str (Str.s (Nd.name n)))),(.pv (.int .i64 (Nd.num n))),(.pv (.str (Str.s (Nd.elem n)))),(.pv (.sl 1 false (List.map enc (Nd.dims n)))),(.pv (.sl 1 false (List.map enc (Nd.data n)))),(.row 2 m 0 m),(.pv (.sl 1 false (List.map enc (Nd.ranks n)))),(.pv (.sl 10 false (List.map enc ks)))])),(.obj (.box [(.pv (.int .i64 0)),(.pv (.int .i64 0)),(.pv (.str [])),(.pv (.int .i64 0)),(.pv (.str [])),(.pv (.sl 0 true [])),(.pv (.sl 0 true [])),(.pv (.sl 0 true [])),(.pv (.sl 0 true [])),(.pv (.sl 0 true []))])),(.obj (.row false 62 2 (List.set (List.map enc L) (0+Int.toNat i) (PV.withCells (List.getD (List.map enc L) (0+Int.toNat i) default) (splice (PV.cells (List.getD (List.map enc L) (0+Int.toNat i) default)) (0+1) (PV.cells (enc y0)))))))])))))))else((Go.Pl.preT (fun(x:List Tm×Unit)=>List.isEmpty x.1) [(.sl 10 false (List.map enc ks))])=true∧(∃ y1:List Tm,AV.pv (Zi (fun(x:List Tm×Unit)=>x.1) [(.sl 10 false (List.map enc ks))])=AV.pv (enc y1)∧((WM RR) 0 ⟨ZE 67 0 [(1,(.ptr 0 0)),(2,(.ptr 1 0)),(4,.undef),(49,.undef),(50,.undef),(51,.undef),(52,.undef),(53,.undef),(54,.undef),(55,.undef),(56,.undef),(57,.undef),(58,.undef),(59,.undef),(60,.undef),(61,.undef),(62,.undef),(63,.undef),(64,.undef),(65,.undef),(66,.undef)],[(.obj (.box [(.pv (.int .i64 (Nd.kind n))),(.pv (.int .i64 (Nd.line n))),(.pv (.str (Str.s (Nd.name n)))),(.pv (.int .i64 (Nd.num n))),(.pv (.str (Str.s (Nd.elem n)))),(.pv (.sl 1 false (List.map enc (Nd.dims n)))),(.pv (.sl 1 false (List.map enc (Nd.data n)))),(.row 2 m 0 m),(.pv (.sl 1 false (List.map enc (Nd.ranks n)))),(.pv (.sl 10 false (List.map enc y1)))])),(.obj (.box [(.pv (.int .i64 0)),(.pv (.int .i64 0)),(.pv (.str [])),(.pv (.int .i64 0)),(.pv (.str [])),(.pv (.sl 0 true [])),(.pv (.sl 0 true [])),(.pv (.sl 0 true [])),(.pv (.sl 0 true [])),(.pv (.sl 0 true []))])),(.obj (.row false 62 2 (List.map enc L)))]⟩ (fun x S'=>Un Qo (WM RR) 0 (fun st=>G st.heap) Vk 0 x S'))))):AtM Qo (WM RR) 0 (fun st=>G st.heap) Vk 0 67 [(1,.ptr 0 0),(2,.ptr 1 0),(4,.undef),(28,.pv (.int .i64 m)),(29,.pv (.int .i64 i)),(49,.undef),(50,.undef),(51,.undef),(52,.undef),(53,.undef),(54,.undef),(55,.undef),(56,.undef),(57,.undef),(58,.undef),(59,.undef),(60,.undef),(61,.undef),(62,.undef),(63,.undef),(64,.undef),(65,.undef),(66,.undef)] [.obj (.box [.pv (enc n.kind),.pv (enc n.line),.pv (enc n.name),.pv (enc n.num),.pv (enc n.elem),.pv (enc n.dims),.pv (enc n.data),.row 2 m 0 m,.pv (enc n.ranks),.pv (enc ks)]),.obj (.box [.pv (.int .i64 0),.pv (.int .i64 0),.pv (.str []),.pv (.int .i64 0),.pv (.str []),.pv (.sl 0 true []),.pv (.sl 0 true []),.pv (.sl 0 true []),.pv (.sl 0 true []),.pv (.sl 0 true [])]),.obj (.row false 62 2 (L.map enc))]:=Zv.mh (dm [dv (List Coef),dv (List Tm)] 20 0x610213151113100b42) h
def Ko:IC:=XL
def Hz:Zz:=YF [(93,.pure (preT (fun x:List Int×Unit=>decide (x.1.length<=2000000))) (Zi (fun x:List Int×Unit=>x.1))),(94,.pure (preT (fun x:List Lin×Unit=>x.1.isEmpty)) (Zi (fun x:List Lin×Unit=>x.1))),(95,.pure (preT (fun x:List Coef×Unit=>decide (x.1.length<=2000000))) (Zi (fun x:List Coef×Unit=>x.1))),(96,.pure (preT (fun x:List Tm×Unit=>x.1.isEmpty)) (Zi (fun x:List Tm×Unit=>x.1)))]
theorem c6w{G:Zn->Prop}(RR:Nat->St->Prop)(n:Nd)(ks:List Tm)(h:(Go.Pl.preT (fun(x:List Int×Unit)=>decide (List.length x.1<=2000000)) [(.sl 1 false (List.map enc (Nd.dims n)))])=true∧(∃ y0:List Int,AV.pv (Zi (fun(x:List Int×Unit)=>x.1) [(.sl 1 false (List.map enc (Nd.dims n)))])=AV.pv (enc y0)∧((Go.Pl.preT (fun(x:List Int×Unit)=>decide (List.length x.1<=2000000)) [(.sl 1 false (List.map enc (Nd.data n)))])=true∧(∃ y1:List Int,AV.pv (Zi (fun(x:List Int×Unit)=>x.1) [(.sl 1 false (List.map enc (Nd.data n)))])=AV.pv (enc y1)∧((Go.Pl.preT (fun(x:List Int×Unit)=>decide (List.length x.1<=2000000)) [(.sl 1 false (List.map enc (Nd.ranks n)))])=true∧(∃ y2:List Int,AV.pv (Zi (fun(x:List Int×Unit)=>x.1) [(.sl 1 false (List.map enc (Nd.ranks n)))])=AV.pv (enc y2)∧((Go.Pl.preT (fun(x:List Lin×Unit)=>List.isEmpty x.1) [(.sl 2 false (List.map enc (Nd.sizes n)))])=true∧(∃ y3:List Lin,AV.pv (Zi (fun(x:List Lin×Unit)=>x.1) [(.sl 2 false (List.map enc (Nd.sizes n)))])=AV.pv (enc y3)∧(AtM Hz (WM RR) 0 (fun st=>G st.heap) Ko 0 67 [(1,(.ptr 0 0)),(2,(.ptr 1 0)),(4,.undef),(28,(.pv (.int .i64 (↑(List.length (List.map enc y3)):Int)))),(29,(.pv (.int .i64 0))),(49,.undef),(50,.undef),(51,.undef),(52,.undef),(53,.undef),(54,.undef),(55,.undef),(56,.undef),(57,.undef),(58,.undef),(59,.undef),(60,.undef),(61,.undef),(62,.undef),(63,.undef),(64,.undef),(65,.undef),(66,.undef)] [(.obj (.box [(.pv (.int .i64 (Nd.kind n))),(.pv (.int .i64 (Nd.line n))),(.pv (.str (Str.s (Nd.name n)))),(.pv (.int .i64 (Nd.num n))),(.pv (.str (Str.s (Nd.elem n)))),(.pv (.sl 1 false (List.map enc y0))),(.pv (.sl 1 false (List.map enc y1))),(.pv (.sl 2 false (List.map enc y3))),(.pv (.sl 1 false (List.map enc y2))),(.pv (.sl 10 false (List.map enc ks)))])),(.obj (.box [(.pv (.int .i64 0)),(.pv (.int .i64 0)),(.pv (.str [])),(.pv (.int .i64 0)),(.pv (.str [])),(.pv (.sl 0 true [])),(.pv (.sl 0 true [])),(.pv (.sl 0 true [])),(.pv (.sl 0 true [])),(.pv (.sl 0 true []))]))]))))))))):Zv Hz (WM RR) 0 (fun st=>G st.heap) (.inl Ko) [] (XY 67 [.pv (.agg [enc n.kind,enc n.line,enc n.name,enc n.num,enc n.elem,enc n.dims,enc n.data,enc n.sizes,enc n.ranks,enc ks])] []):=Zv.mh (dm [dv (List Int),dv (List Lin)] 10 0x61515151) h
-- BAD 1 in EC
theorem EC{G:Zn->Prop}(RR:Nat->St->Prop)(n:Nd)(ks:List Tm)(m i:Int)(h:if (decide (i<m))=true then(decide (0<=i)&&decide (Int.toNat i<List.length (List.map enc (Nd.sizes n)))&&Enc.sz Lin==2)=true∧(∃ y0:Lin,AV.pv (PV.rptr (PV.cells (List.getD (List.map enc (Nd.sizes n)) (Int.toNat i) default)))=AV.pv (PV.rptr (PV.cells ((enc) y0)))∧((Go.Pl.preT (fun(x:List Coef×Unit)=>decide (List.length x.1<=2000000)) [(.sl 2 false (PV.asXs (List.getD (List.drop 1 (PV.cells (enc y0))) 0 default)))])=true∧(∃ y1:List Coef,AV.pv (Zi (fun(x:List Coef×Unit)=>x.1) [(.sl 2 false (PV.asXs (List.getD (List.drop 1 (PV.cells (enc y0))) 0 default)))])=AV.pv (enc y1)∧((decide (0<=i)&&decide (Int.toNat i<List.length (List.map enc (Nd.sizes n)))&&Enc.sz Lin==2)=true∧(∃ y2:Lin,AV.pv (PV.rptr (PV.cells (List.getD (List.map enc (Nd.sizes n)) (Int.toNat i) default)))=AV.pv (PV.rptr (PV.cells ((enc) y2)))∧(False))))))else((Go.Pl.preT (fun(x:List Tm×Unit)=>List.isEmpty x.1) [(.sl 10 false (List.map enc ks))])=true∧(∃ y3:List Tm,AV.pv (Zi (fun(x:List Tm×Unit)=>x.1) [(.sl 10 false (List.map enc ks))])=AV.pv (enc y3)∧((WM RR) 0 ⟨ZE 67 0 [(1,(.ptr 0 0)),(2,(.ptr 1 0)),(4,.undef),(49,.undef),(50,.undef),(51,.undef),(52,.undef),(53,.undef),(54,.undef),(55,.undef),(56,.undef),(57,.undef),(58,.undef),(59,.undef),(60,.undef),(61,.undef),(62,.undef),(63,.undef),(64,.undef),(65,.undef),(66,.undef)],[(.obj (.box [(.pv (.int .i64 (Nd.kind n))),(.pv (.int .i64 (Nd.line n))),(.pv (.str (Str.s (Nd.name n)))),(.pv (.int .i64 (Nd.num n))),(.pv (.str (Str.s (Nd.elem n)))),(.pv (.sl 1 false (List.map enc (Nd.dims n)))),(.pv (.sl 1 false (List.map enc (Nd.data n)))),(.pv (.sl 2 false (List.map enc (Nd.sizes n)))),(.pv (.sl 1 false (List.map enc (Nd.ranks n)))),(.pv (.sl 10 false (List.map enc y3)))])),(.obj (.box [(.pv (.int .i64 0)),(.pv (.int .i64 0)),(.pv (.str [])),(.pv (.int .i64 0)),(.pv (.str [])),(.pv (.sl 0 true [])),(.pv (.sl 0 true [])),(.pv (.sl 0 true [])),(.pv (.sl 0 true [])),(.pv (.sl 0 true []))]))]⟩ (fun x S'=>Un Hz (WM RR) 0 (fun st=>G st.heap) Ko 0 x S'))))):AtM Hz (WM RR) 0 (fun st=>G st.heap) Ko 0 67 [(1,.ptr 0 0),(2,.ptr 1 0),(4,.undef),(28,.pv (.int .i64 m)),(29,.pv (.int .i64 i)),(49,.undef),(50,.undef),(51,.undef),(52,.undef),(53,.undef),(54,.undef),(55,.undef),(56,.undef),(57,.undef),(58,.undef),(59,.undef),(60,.undef),(61,.undef),(62,.undef),(63,.undef),(64,.undef),(65,.undef),(66,.undef)] [.obj (.box [.pv (enc n.kind),.pv (enc n.line),.pv (enc n.name),.pv (enc n.num),.pv (enc n.elem),.pv (enc n.dims),.pv (enc n.data),.pv (enc n.sizes),.pv (enc n.ranks),.pv (enc ks)]),.obj (.box [.pv (.int .i64 0),.pv (.int .i64 0),.pv (.str []),.pv (.int .i64 0),.pv (.str []),.pv (.sl 0 true []),.pv (.sl 0 true []),.pv (.sl 0 true []),.pv (.sl 0 true []),.pv (.sl 0 true [])])]:=Zv.mh (dm [dr Lin,dv (List Coef),dv (List Tm)] 17 0x710516125100842) h
end Go.Pl
namespace Go.Pl
open Go.RowKit
open Enc (enc dec is)
open EncL (encL decL isL)
def d0w:List (Nat×AV):=[(1,.ptr 0 0),(2,.ptr 1 0),(4,.undef),(49,.undef),(50,.undef),(51,.undef),(52,.undef),(53,.undef),(54,.undef),(55,.undef),(56,.undef),(57,.undef),(58,.undef),(59,.undef),(60,.undef),(61,.undef),(62,.undef),(63,.undef),(64,.undef),(65,.undef),(66,.undef)]
def cpZ:List AV:=[.pv (.int .i64 0),.pv (.int .i64 0),.pv (.str []),.pv (.int .i64 0),.pv (.str []),.pv (.sl 0 true []),.pv (.sl 0 true []),.pv (.sl 0 true []),.pv (.sl 0 true []),.pv (.sl 0 true [])]
def a7p(n:Nd)(SZ:AV):List AV:=[.pv (enc n.kind),.pv (enc n.line),.pv (enc n.name),.pv (enc n.num),.pv (enc n.elem),.pv (enc n.dims),.pv (enc n.data),SZ,.pv (enc n.ranks)]
def cpR(n:Nd)(ks:List Tm)(m:Nat)(S:St):Prop:=m=0∧S.env=ZE 67 0 d0w∧ ∃ (SZ KD:AV) (b:Bool) (rest:Zn),S.heap = .obj (.box (a7p n SZ++[KD])):: .obj (.box cpZ)::rest ∧
 ((b=false∧SZ = .pv (enc n.sizes))∨(b=true∧SZ = .row 2 n.sizes.length 0 n.sizes.length∧S.heap[2]? = some (.obj (.row false 62 2 (n.sizes.map enc))))) ∧
 ((ks=[]∧KD = .pv (enc ks))∨(ks≠[]∧KD = .row (if b=true then 3 else 2) ks.length 0 ks.length∧S.heap[if b=true then 3 else 2]? = some (.obj (.row false 28 10 (ks.map enc)))))
theorem TM{α:Type}[Enc α]{l:List α}{s:Nat}(h:l≠[])(hl:l.length<=2000000):Yg s [(.pv (.sl s false (List.map enc l)))] []=true:=by
 simp[Yg,h,hl]
theorem b1i{RR:Nat->St->Prop}{n:Nd}{ks:List Tm}(hne:ks≠[])(hk:ks.length<=2000000)(hl:n.sizes.length<=2000000)(ht : ∀ l∈n.sizes,l.t.length<=2000000){m:Nat}(hm:m=n.sizes.length)(hR : ∀ S,cpR n ks 0 S->RR 0 S): ∀ (d i:Nat),d+i=n.sizes.length ->
  AtM U2 (WM RR) 0 (fun _=>False) XL 0 67 [(1,.ptr 0 0),(2,.ptr 1 0),(4,.undef),(28,.pv (.int .i64 m)),(29,.pv (.int .i64 i)),(49,.undef),(50,.undef),(51,.undef),(52,.undef),(53,.undef),(54,.undef),(55,.undef),(56,.undef),(57,.undef),(58,.undef),(59,.undef),(60,.undef),(61,.undef),(62,.undef),(63,.undef),(64,.undef),(65,.undef),(66,.undef)]
   [.obj (.box [.pv (enc n.kind),.pv (enc n.line),.pv (enc n.name),.pv (enc n.num),.pv (enc n.elem),.pv (enc n.dims),.pv (enc n.data),.row 2 m 0 m,.pv (enc n.ranks),.pv (enc ks)]),.obj (.box cpZ),.obj (.row false 62 2 (n.sizes.map enc))]:=by
 subst hm
 intro d
 induction d with
 | zero=>
  intro i hi
  refine a1d (G:=fun _=>False) RR n ks n.sizes.length n.sizes i (XV (Qd (by omega)) ⟨TM hne hk,hR _ ⟨rfl,rfl,_,_,true,_,rfl,.inr ⟨rfl,rfl,rfl⟩,.inr ⟨hne,by simp,rfl⟩⟩⟩)
 | succ d ih=>
  intro i hi
  have h1:i<n.sizes.length:=by omega
  refine a1d (G:=fun _=>False) RR n ks n.sizes.length n.sizes i (Xg (QI h1) ?_)
  have e:List.getD (List.map (enc:Lin->PV) n.sizes) (0+Int.toNat (i:Int)) default=enc n.sizes[i]:=by rw[Nat.zero_add];exact Jz enc h1
  have e2:(enc n.sizes[i]:PV) = .agg [.int .i64 n.sizes[i].k,.sl 2 false (n.sizes[i].t.map enc)]:=rfl
  have e3:List.set (n.sizes.map (enc:Lin->PV)) (0+Int.toNat (i:Int)) (.agg [.int .i64 n.sizes[i].k,.sl 2 false (n.sizes[i].t.map enc)])=n.sizes.map enc:=by
   rw[Nat.zero_add,Int.toNat_natCast,<- e2]
   apply List.ext_getElem?
   intro j
   rw[List.getElem?_set]
   split
   ·rename_i h;subst h;rw[if_pos (by simpa using h1),List.getElem?_map,List.getElem?_eq_getElem h1];rfl
   ·rfl
  have hc:=ht _ (List.getElem_mem h1)
  simp only[e,e2]
  refine⟨by simp[h1],by simp[h1],by simp[PV.cells,Yp,Sh.fit],Zc (n.sizes[i].t,()) rfl (decide_eq_true hc),Zd (n.sizes[i].t,()) rfl ⟨by simp[h1],?_,?_⟩⟩
  ·simp[h1,PV.cells,PV.cellsOk,enc]
  ·show AtM U2 (WM RR) 0 (fun _=>False) XL 0 67 _ [_,_,.obj (.row false 62 2 (List.set (n.sizes.map (enc:Lin->PV)) (0+Int.toNat (i:Int)) (.agg [.int .i64 n.sizes[i].k,.sl 2 false (n.sizes[i].t.map enc)])))]
   rw[e3,next (by omega)]
   exact ih (i+1) (by omega)
theorem b0v{RR:Nat->St->Prop}{n:Nd}(hl:n.sizes.length<=2000000)(ht : ∀ l∈n.sizes,l.t.length<=2000000){m:Nat}(hm:m=n.sizes.length)(hR : ∀ S,cpR n [] 0 S->RR 0 S): ∀ (d i:Nat),d+i=n.sizes.length ->
  AtM Qo (WM RR) 0 (fun _=>False) Vk 0 67 [(1,.ptr 0 0),(2,.ptr 1 0),(4,.undef),(28,.pv (.int .i64 m)),(29,.pv (.int .i64 i)),(49,.undef),(50,.undef),(51,.undef),(52,.undef),(53,.undef),(54,.undef),(55,.undef),(56,.undef),(57,.undef),(58,.undef),(59,.undef),(60,.undef),(61,.undef),(62,.undef),(63,.undef),(64,.undef),(65,.undef),(66,.undef)]
   [.obj (.box [.pv (enc n.kind),.pv (enc n.line),.pv (enc n.name),.pv (enc n.num),.pv (enc n.elem),.pv (enc n.dims),.pv (enc n.data),.row 2 m 0 m,.pv (enc n.ranks),.pv (enc ([]:List Tm))]),.obj (.box cpZ),.obj (.row false 62 2 (n.sizes.map enc))]:=by
 subst hm
 intro d
 induction d with
 | zero=>
  intro i hi
  refine a0u (G:=fun _=>False) RR n [] n.sizes.length n.sizes i (XV (Qd (by omega)) ⟨Zc (([]:List Tm),()) rfl rfl,Zd (([]:List Tm),()) rfl (hR _ ⟨rfl,rfl,_,_,true,_,rfl,.inr ⟨rfl,rfl,rfl⟩,.inl ⟨rfl,rfl⟩⟩)⟩)
 | succ d ih=>
  intro i hi
  have h1:i<n.sizes.length:=by omega
  refine a0u (G:=fun _=>False) RR n [] n.sizes.length n.sizes i (Xg (QI h1) ?_)
  have e:List.getD (List.map (enc:Lin->PV) n.sizes) (0+Int.toNat (i:Int)) default=enc n.sizes[i]:=by rw[Nat.zero_add];exact Jz enc h1
  have e2:(enc n.sizes[i]:PV) = .agg [.int .i64 n.sizes[i].k,.sl 2 false (n.sizes[i].t.map enc)]:=rfl
  have e3:List.set (n.sizes.map (enc:Lin->PV)) (0+Int.toNat (i:Int)) (.agg [.int .i64 n.sizes[i].k,.sl 2 false (n.sizes[i].t.map enc)])=n.sizes.map enc:=by
   rw[Nat.zero_add,Int.toNat_natCast,<- e2]
   apply List.ext_getElem?
   intro j
   rw[List.getElem?_set]
   split
   ·rename_i h;subst h;rw[if_pos (by simpa using h1),List.getElem?_map,List.getElem?_eq_getElem h1];rfl
   ·rfl
  have hc:=ht _ (List.getElem_mem h1)
  simp only[e,e2]
  refine⟨by simp[h1],by simp[h1],by simp[PV.cells,Yp,Sh.fit],Zc (n.sizes[i].t,()) rfl (decide_eq_true hc),Zd (n.sizes[i].t,()) rfl ⟨by simp[h1],?_,?_⟩⟩
  ·simp[h1,PV.cells,PV.cellsOk,enc]
  ·show AtM Qo (WM RR) 0 (fun _=>False) Vk 0 67 _ [_,_,.obj (.row false 62 2 (List.set (n.sizes.map (enc:Lin->PV)) (0+Int.toNat (i:Int)) (.agg [.int .i64 n.sizes[i].k,.sl 2 false (n.sizes[i].t.map enc)])))]
   rw[e3,next (by omega)]
   exact ih (i+1) (by omega)
abbrev OP(n:Nd)(ks:List Tm):St:=XY 67 [.pv (.agg [enc n.kind,enc n.line,enc n.name,enc n.num,enc n.elem,enc n.dims,enc n.data,enc n.sizes,enc n.ranks,enc ks])] []
theorem d2t{RR:Nat->St->Prop}{n:Nd}{ks:List Tm}(hw:tW (.mk n ks)=true)(hs:n.sizes≠[])(hne:ks≠[])(hR : ∀ S,cpR n ks 0 S->RR 0 S):Zv U2 (WM RR) 0 (fun _=>False) (.inl XL) [] (OP n ks):=by
 have hb:=Fg hw
 have hk:=(YO hw).1
 have h1:=hb.dims;have h2:=hb.data;have h3:=hb.ranks;have hsz:=hb.sizes
 refine c7u (G:=fun _=>False) RR n ks ⟨Zc (n.dims,()) rfl (decide_eq_true (show n.dims.length<=2000000 by omega)),Zd (n.dims,()) rfl ⟨Zc (n.data,()) rfl (decide_eq_true (show n.data.length<=2000000 by omega)),Zd (n.data,()) rfl
  ⟨Zc (n.ranks,()) rfl (decide_eq_true (show n.ranks.length<=2000000 by omega)),Zd (n.ranks,()) rfl ⟨TM hs (by omega),b1i hne (by omega) (by omega) (fun l hl=>by have:=hb.lens l hl;omega) (List.length_map _) hR n.sizes.length 0 (by omega)⟩⟩⟩⟩
theorem d3e{RR:Nat->St->Prop}{n:Nd}{ks:List Tm}(hw:tW (.mk n ks)=true)(hs:n.sizes≠[])(hz:ks=[])(hR : ∀ S,cpR n ks 0 S->RR 0 S):Zv Qo (WM RR) 0 (fun _=>False) (.inl Vk) [] (OP n ks):=by
 have hb:=Fg hw
 have hk:=(YO hw).1
 have h1:=hb.dims;have h2:=hb.data;have h3:=hb.ranks;have hsz:=hb.sizes
 subst hz
 refine c8l (G:=fun _=>False) RR n [] ⟨Zc (n.dims,()) rfl (decide_eq_true (show n.dims.length<=2000000 by omega)),Zd (n.dims,()) rfl ⟨Zc (n.data,()) rfl (decide_eq_true (show n.data.length<=2000000 by omega)),Zd (n.data,()) rfl
  ⟨Zc (n.ranks,()) rfl (decide_eq_true (show n.ranks.length<=2000000 by omega)),Zd (n.ranks,()) rfl ⟨TM hs (by omega),b0v (by omega) (fun l hl=>by have:=hb.lens l hl;omega) (List.length_map _) hR n.sizes.length 0 (by omega)⟩⟩⟩⟩
theorem d0t{RR:Nat->St->Prop}{n:Nd}{ks:List Tm}(hw:tW (.mk n ks)=true)(hs:n.sizes=[])(hne:ks≠[])(hR : ∀ S,cpR n ks 0 S->RR 0 S):Zv Gp (WM RR) 0 (fun _=>False) (.inl Kl) [] (OP n ks):=by
 have hb:=Fg hw
 have hk:=(YO hw).1
 have h1:=hb.dims;have h2:=hb.data;have h3:=hb.ranks;have hsz:=hb.sizes
 refine c7i (G:=fun _=>False) RR n ks ⟨Zc (n.dims,()) rfl (decide_eq_true (show n.dims.length<=2000000 by omega)),Zd (n.dims,()) rfl ⟨Zc (n.data,()) rfl (decide_eq_true (show n.data.length<=2000000 by omega)),Zd (n.data,()) rfl
  ⟨Zc (n.ranks,()) rfl (decide_eq_true (show n.ranks.length<=2000000 by omega)),Zd (n.ranks,()) rfl ⟨Zc (n.sizes,()) rfl (by rw[hs];rfl),Zd (n.sizes,()) rfl (Em (G:=fun _=>False) RR n ks (List.length (List.map (enc:Lin->PV) n.sizes)) 0 (XV (by rw[hs];decide) ⟨TM hne (by omega),hR _ ⟨rfl,rfl,_,_,false,_,rfl,.inl ⟨rfl,rfl⟩,.inr ⟨hne,by simp,rfl⟩⟩⟩))⟩⟩⟩⟩
theorem d3g{RR:Nat->St->Prop}{n:Nd}{ks:List Tm}(hw:tW (.mk n ks)=true)(hs:n.sizes=[])(hz:ks=[])(hR : ∀ S,cpR n ks 0 S->RR 0 S):Zv Hz (WM RR) 0 (fun _=>False) (.inl Ko) [] (OP n ks):=by
 have hb:=Fg hw
 have hk:=(YO hw).1
 have h1:=hb.dims;have h2:=hb.data;have h3:=hb.ranks;have hsz:=hb.sizes
 subst hz
 refine c6w (G:=fun _=>False) RR n [] ⟨Zc (n.dims,()) rfl (decide_eq_true (show n.dims.length<=2000000 by omega)),Zd (n.dims,()) rfl ⟨Zc (n.data,()) rfl (decide_eq_true (show n.data.length<=2000000 by omega)),Zd (n.data,()) rfl
  ⟨Zc (n.ranks,()) rfl (decide_eq_true (show n.ranks.length<=2000000 by omega)),Zd (n.ranks,()) rfl ⟨Zc (n.sizes,()) rfl (by rw[hs];rfl),Zd (n.sizes,()) rfl (EC (G:=fun _=>False) RR n [] (List.length (List.map (enc:Lin->PV) n.sizes)) 0 (XV (by rw[hs];decide) ⟨Zc (([]:List Tm),()) rfl rfl,Zd (([]:List Tm),()) rfl (hR _ ⟨rfl,rfl,_,_,false,_,rfl,.inl ⟨rfl,rfl⟩,.inl ⟨rfl,rfl⟩⟩)⟩))⟩⟩⟩⟩
end Go.Pl
namespace Go.Pl
open Go.RowKit
open Enc (enc dec is)
open EncL (encL decL isL)
set_option maxRecDepth 100000
def Ff:IC:=(Vf [ZA 1 (.box 10 (.t 0)) 0,ZA 2 (.alloc (.agg [(.int .i64 0),(.int .i64 0),(.str []),(.int .i64 0),(.str []),(.sl 0 true []),(.sl 0 true []),(.sl 0 true []),(.sl 0 true []),(.sl 0 true [])])) 1] (Vf [ZA 6 (.load true [(.int .i64),(.int .i64),.str,(.int .i64),.str,(.sl 1),(.sl 1),(.sl 2),(.sl 1),(.sl 10)] (.t 1)) 0,ZA 7 (c'' 20 [(.t 6)]) 0,ZA 3 (.alloc (.sl 0 true [])) 2,Ak (.store 1 (.t 3) (.t 7)) 3] (Vf [ZA 4 (.alloc (.int .i64 0)) 0,Ak (.store 1 (.t 4) (UT 0)) 1] (Vf [ZA 8 (.mkfn 67 [] [(.t 4),(.t 3)]) 0,ZA 5 (X0 8) 0] (.ext 0 [1,9,5,10,11,12,2,13])))))
def b0k:Zz:=YF [(20,.pure (preT (fun x:Tm×Unit=>tW x.1)) (Zi (fun x:Tm×Unit=>ZW x.1)))]
theorem d0x{G:Zn->Prop}(RR:Nat->St->Prop)(n:Nd)(ks:List Tm)(h:(Go.Pl.preT (fun(x:Tm×Unit)=>tW x.1) (Am n ks))=true∧(∃ y0:List Str,AV.pv (Zi (fun(x:Tm×Unit)=>ZW x.1) (Am n ks))=AV.pv (enc y0)∧((WM RR) 0 ⟨ZE 14 0 [(1,(.ptr 0 0)),(2,(.ptr 1 0)),(5,(.fn 67 [] [(.ptr 2 0),(.ptr 3 0)])),(9,.undef),(10,.undef),(11,.undef),(12,.undef),(13,.undef)],[(.obj (.box (Z0 n ks))),(.obj (.box [(.pv (.int .i64 0)),(.pv (.int .i64 0)),(.pv (.str [])),(.pv (.int .i64 0)),(.pv (.str [])),(.pv (.sl 0 true [])),(.pv (.sl 0 true [])),(.pv (.sl 0 true [])),(.pv (.sl 0 true [])),(.pv (.sl 0 true []))])),(.obj (.box [(.pv (.int .i64 0))])),(.obj (.box [(.pv (.sl 1 false (List.map enc y0)))]))]⟩ (fun x S'=>Un b0k (WM RR) 0 (fun st=>G st.heap) Ff 0 x S')))):Zv b0k (WM RR) 0 (fun st=>G st.heap) (.inl Ff) [] (XY 14 [.pv (.agg [enc n.kind,enc n.line,enc n.name,enc n.num,enc n.elem,enc n.dims,enc n.data,enc n.sizes,enc n.ranks,enc ks])] []):=Zv.mh (.req (.abs (List Str) (fun YY=>AV.pv (enc YY)) (.nil))) h
end Go.Pl
namespace Go.Pl
open Go.RowKit
open Enc (enc dec is)
open EncL (encL decL isL)
set_option maxRecDepth 100000
end Go.Pl
namespace Go.Pl
open Go.RowKit
open Enc (enc dec is)
open EncL (encL decL isL)
end Go.Pl
namespace Go.Pl
open Go.RowKit
open Enc (enc dec is)
open EncL (encL decL isL)
set_option maxRecDepth 100000
end Go.Pl
namespace Go.Pl
open Go.RowKit
open Enc (enc dec is)
open EncL (encL decL isL)
theorem Lu(l:List Str)(s:Str):(Wt l s).length<=l.length+1:=by
 induction l with
 | nil=>simp[Wt]
 | cons a r ih=>
  rw[Wt]
  split
  ·rw[List.length_cons,List.length_cons];omega
  ·split <;> simp
theorem c1t(o:List Str)(s:Str):([.sl 1 false (List.map enc o),.str s.s]:List PV)=encL (o,s,()):=rfl
theorem Ed(o l:List Str):([.sl 1 false (List.map enc o),.sl 1 false (List.map enc l)]:List PV)=encL (o,l,()):=rfl
section
variable (n m:Nd) (ks ls:List Tm) (s:List UInt8)
abbrev Ug(n m:Nd)(ks ls:List Tm)(s:List UInt8):Tm:=UN ⟨s⟩ (.mk n ks) (.mk m ls)
theorem c2v(hw:tW (Ug n m ks ls s)=true)(f o l:List Str)(hf:f=ZW (Ug n m ks ls s))(ho:o=Yc (Ug n m ks ls s))(i:Nat)(hi : ¬ i<l.length)(h1:tW (.mk n ks)=true)(h2:tW (.mk m ls)=true):
  At Uq 0 (Zb WB (Zq true)) WF 1 113 [(3,.ptr 0 0),(4,.ptr 1 0),(7,.ptr 2 0),(8,.pv (enc f)),(11,.pv (enc o)),(12,.pv (enc l)),(13,.pv (.int .i64 i))] [.obj (.box (Z0 n ks)),.obj (.box (Z0 m ls)),.obj (.box (bS (Dq (Ug n m ks ls s))))]:=by
 have hsz:=Vp hw
 have hfl:=Ai (Ug n m ks ls s)
 have hcl:=K6 (Ug n m ks ls s)
 have hs:Zl (Ug n m ks ls s)=1+Zl (.mk n ks)+Zl (.mk m ls):=Cz ⟨s⟩ (.mk n ks) (.mk m ls)
 have hd:ZI (Ug n m ks ls s)=1+max (ZI (.mk n ks)) (ZI (.mk m ls)):=a4o ⟨s⟩ (.mk n ks) (.mk m ls)
 have hc:Ym (Ug n m ks ls s)=Ym (.mk n ks)+Ym (.mk m ls):=FX ⟨s⟩ (.mk n ks) (.mk m ls)
 have hdl:ZI (Ug n m ks ls s)<=Zl (Ug n m ks ls s):=He _
 have hck : ∀ t:Tm,0<=Ym t∧Ym t<=Zl t:=fun t=>by
  unfold Ym
  have:=List.length_filter_le J3 (Yt t)
  rw[QP]at this
  omega
 have c1:=hck (.mk n ks)
 have c2:=hck (.mk m ls)
 refine b4u n ks m ls s i f o l (Dq (Ug n m ks ls s)) (XV (Wx hi) ?_)
 refine⟨Zc (Ug n m ks ls s,()) (Pq _) hw,Zd (Ug n m ks ls s,()) (Pq _) ⟨Zc (ZW (Ug n m ks ls s),f,()) (Ed _ _) (decide_eq_true (by show(ZW (Ug n m ks ls s)).length<=_;omega)),Zd (ZW (Ug n m ks ls s),f,()) (Ed _ _) (Xg (decide_eq_true hf.symm) ?_)⟩⟩
 refine⟨Zc (Ug n m ks ls s,()) (Pq _) hw,Zd (Ug n m ks ls s,()) (Pq _) ⟨Zc (Yc (Ug n m ks ls s),o,()) (Ed _ _) (decide_eq_true (by show(Yc (Ug n m ks ls s)).length<=_;omega)),Zd (Yc (Ug n m ks ls s),o,()) (Ed _ _) (Xg (decide_eq_true ho.symm) ?_)⟩⟩
 refine⟨Zc (Ug n m ks ls s,()) (Pq _) hw,Zd (Ug n m ks ls s,()) (Pq _) ⟨Zc (Tm.mk n ks,()) (YL n ks) h1,Zd (Tm.mk n ks,()) (YL n ks) ⟨Zc (Tm.mk m ls,()) (nd1 m ls) h2,Zd (Tm.mk m ls,()) (nd1 m ls) (Xg ?_ ?_)⟩⟩⟩
 ·show(Ym (Ug n m ks ls s)==IntKind.wrap IntKind.i64 (Ym (.mk n ks)+Ym (.mk m ls)))=true
  rw[K8 (by omega) (by omega),<- hc];simp
 refine⟨Zc (Ug n m ks ls s,()) (Pq _) hw,Zd (Ug n m ks ls s,()) (Pq _) ⟨Zc (Tm.mk n ks,()) (YL n ks) h1,Zd (Tm.mk n ks,()) (YL n ks) ⟨Zc (Tm.mk m ls,()) (nd1 m ls) h2,Zd (Tm.mk m ls,()) (nd1 m ls) (Xg ?_ ?_)⟩⟩⟩
 ·show(Vg (Ug n m ks ls s)==IntKind.wrap IntKind.i64 (IntKind.wrap IntKind.i64 (1+Vg (.mk n ks))+Vg (.mk m ls)))=true
  unfold Vg
  rw[K8 (n:=1+(Zl (.mk n ks):Int)) (by omega) (by omega),K8 (by omega) (by omega),hs]
  simp
 refine⟨Zc (Ug n m ks ls s,()) (Pq _) hw,Zd (Ug n m ks ls s,()) (Pq _) ⟨Zc (Tm.mk n ks,()) (YL n ks) h1,Zd (Tm.mk n ks,()) (YL n ks) ⟨Zc (Tm.mk m ls,()) (nd1 m ls) h2,Zd (Tm.mk m ls,()) (nd1 m ls) (ZC ?_)⟩⟩⟩
 show(KQ (Ug n m ks ls s)==IntKind.wrap IntKind.i64 (1+if KQ (.mk m ls)>KQ (.mk n ks)then KQ (.mk m ls)else KQ (.mk n ks)))=true
 unfold KQ
 have e:(if (ZI (.mk m ls):Int)>ZI (.mk n ks)then(ZI (.mk m ls):Int)else ZI (.mk n ks))=((max (ZI (.mk n ks)) (ZI (.mk m ls)):Nat):Int):=by split <;> omega
 rw[e,K8 (by omega) (by omega),hd]
 simp
theorem c9s(hw:tW (Ug n m ks ls s)=true)(f:List Str)(hf:f=ZW (Ug n m ks ls s))(h1:tW (.mk n ks)=true)(h2:tW (.mk m ls)=true): ∀ (d i:Nat) (o:List Str),d+i=(Yc (.mk m ls)).length->o.length<=Zl (.mk n ks)+i->((Yc (.mk m ls)).drop i).foldl Wt o=Yc (Ug n m ks ls s) ->
  At Uq 0 (Zb WB (Zq true)) WF 1 113 [(3,.ptr 0 0),(4,.ptr 1 0),(7,.ptr 2 0),(8,.pv (enc f)),(11,.pv (enc o)),(12,.pv (enc (Yc (.mk m ls)))),(13,.pv (.int .i64 i))] [.obj (.box (Z0 n ks)),.obj (.box (Z0 m ls)),.obj (.box (bS (Dq (Ug n m ks ls s))))]:=by
 have hsz:=Vp hw
 have hs:Zl (Ug n m ks ls s)=1+Zl (.mk n ks)+Zl (.mk m ls):=Cz ⟨s⟩ (.mk n ks) (.mk m ls)
 have hcl:=K6 (.mk m ls)
 intro d
 induction d with
 | zero=>
  intro i o hi hl hR
  rw[List.drop_eq_nil_of_le (by omega)]at hR
  exact c2v n m ks ls s hw f o _ hf hR i (by omega) h1 h2
 | succ d ih=>
  intro i o hi hl hR
  have hlt:i<(Yc (.mk m ls)).length:=by omega
  rw[List.drop_eq_getElem_cons hlt,List.foldl_cons]at hR
  refine b4u n ks m ls s i f o _ (Dq (Ug n m ks ls s)) (Xg (We hlt) ⟨ZN hlt rfl,Ye hlt ⟨Zc (o,(Yc (.mk m ls))[i],()) (c1t _ _) (decide_eq_true (by show o.length<=_;omega)),Zd (o,(Yc (.mk m ls))[i],()) (c1t _ _) ?_⟩⟩)
  rw[next (by omega)]
  exact ih (i+1) _ (by omega) (Nat.le_trans (Lu o (Yc (.mk m ls))[i]) (by omega)) hR
theorem c5n(hw:tW (Ug n m ks ls s)=true)(h1:tW (.mk n ks)=true)(h2:tW (.mk m ls)=true): ∀ (d i:Nat) (o:List Str),d+i=(ZW (.mk m ls)).length->o.length<=Zl (.mk n ks)+i->(((ZW (.mk m ls)).drop i).filter fun x=>decide (x≠⟨s⟩)).foldl Wt o=ZW (Ug n m ks ls s) ->
  At Uq 0 (Zb WB (Zq true)) WF 0 113 [(2,.pv (.str s)),(3,.ptr 0 0),(4,.ptr 1 0),(7,.ptr 2 0),(8,.pv (enc o)),(9,.pv (enc (ZW (.mk m ls)))),(10,.pv (.int .i64 i))] [.obj (.box (Z0 n ks)),.obj (.box (Z0 m ls)),.obj (.box (bS (Dq (Ug n m ks ls s))))]:=by
 have hsz:=Vp hw
 have hs:Zl (Ug n m ks ls s)=1+Zl (.mk n ks)+Zl (.mk m ls):=Cz ⟨s⟩ (.mk n ks) (.mk m ls)
 have hfl:=Ai (.mk m ls)
 have hc:=K6 (.mk n ks)
 intro d
 induction d with
 | zero=>
  intro i o hi hl hR
  rw[List.drop_eq_nil_of_le (by omega)]at hR
  refine a6k n ks m ls s i o _ (Dq (Ug n m ks ls s)) (XV (Wx (by omega)) ?_)
  refine⟨Zc (Tm.mk n ks,()) (YL n ks) h1,Zd (Tm.mk n ks,()) (YL n ks) ⟨Zc (Tm.mk m ls,()) (nd1 m ls) h2,Zd (Tm.mk m ls,()) (nd1 m ls) ?_⟩⟩
  exact c9s n m ks ls s hw o hR h1 h2 (Yc (.mk m ls)).length 0 (Yc (.mk n ks)) (Nat.add_zero _) hc (a4s ⟨s⟩ _ _)
 | succ d ih=>
  intro i o hi hl hR
  have hlt:i<(ZW (.mk m ls)).length:=by omega
  rw[List.drop_eq_getElem_cons hlt]at hR
  refine a6k n ks m ls s i o _ (Dq (Ug n m ks ls s)) (Xg (We hlt) ⟨ZN hlt rfl,Ye hlt (b6x (fun hne=> ?_) fun he=> ?_)⟩)
  ·have hne:(ZW (.mk m ls))[i].s≠s:=hne
   have hq:(ZW (.mk m ls))[i]≠(⟨s⟩:Str):=fun e=>hne (by rw[e])
   rw[List.filter_cons_of_pos (by simpa using hq),List.foldl_cons]at hR
   refine⟨ZN hlt rfl,Ye hlt ⟨Zc (o,(ZW (.mk m ls))[i],()) (c1t _ _) (decide_eq_true (by show o.length<=_;omega)),Zd (o,(ZW (.mk m ls))[i],()) (c1t _ _) ?_⟩⟩
   rw[next (by omega)]
   exact ih (i+1) _ (by omega) (Nat.le_trans (Lu o (ZW (.mk m ls))[i]) (by omega)) hR
  ·have he:(ZW (.mk m ls))[i].s=s:=he
   have hq:(ZW (.mk m ls))[i]=(⟨s⟩:Str):=stt he
   rw[List.filter_cons_of_neg (by simp[hq])]at hR
   rw[next (by omega)]
   exact ih (i+1) o (by omega) (by omega) hR
end
theorem b8c: ∀ x:Tm×Tm×Str×Unit,tW (UN x.2.2.1 x.1 x.2.1)=true->Ze Uq 0 (Zb WB (Zq true)) WF [] (Z7 c9t (encL x)):=by
 rintro⟨⟨n,ks⟩,⟨m,ls⟩,⟨s⟩,⟨⟩⟩ hw
 have hw:tW (UN ⟨s⟩ (.mk n ks) (.mk m ls))=true:=hw
 have hwl:KA (UN ⟨s⟩ (.mk n ks) (.mk m ls))<=1048576:=of_decide_eq_true hw
 rw[c4b]at hwl
 have h1:tW (.mk n ks)=true:=decide_eq_true (by omega)
 have h2:tW (.mk m ls)=true:=decide_eq_true (by omega)
 have e:(encL ((Tm.mk n ks,Tm.mk m ls,⟨s⟩,()):Tm×Tm×Str×Unit):List PV)=[ndC n ks,ndC m ls,.str s]:=by rw[Wo,Wo];rfl
 rw[e]
 have hf:=Ai (.mk n ks)
 refine d3h n ks m ls s (Zd () rfl (Qx (fun h=>nomatch h) fun _=> ?_))
 refine⟨Zc (Tm.mk n ks,(20:Int),()) (ndT n ks (20:Int)).symm h1,Zd (Tm.mk n ks,(20:Int),()) (ndT n ks (20:Int)).symm (Qx (fun _=>ZC rfl) fun _=> ?_)⟩
 refine⟨Zc (Tm.mk m ls,(20:Int),()) (ndT m ls (20:Int)).symm h2,Zd (Tm.mk m ls,(20:Int),()) (ndT m ls (20:Int)).symm (Qx (fun _=>ZC rfl) fun _=> ?_)⟩
 refine XZ (fun _=>ZC rfl) fun _=> ?_
 have e3:([.str s,ndC n ks,ndC m ls]:List PV)=encL ((⟨s⟩:Str),Tm.mk n ks,Tm.mk m ls,()):=by rw[Wo,Wo];rfl
 refine⟨Zc (⟨s⟩,Tm.mk n ks,Tm.mk m ls,()) e3 rfl,Zd (⟨s⟩,Tm.mk n ks,Tm.mk m ls,()) e3 ?_⟩
 refine⟨Zc (Tm.mk n ks,()) (YL n ks) h1,Zd (Tm.mk n ks,()) (YL n ks) ⟨Zc (Tm.mk m ls,()) (nd1 m ls) h2,Zd (Tm.mk m ls,()) (nd1 m ls) ?_⟩⟩
 exact c5n n m ks ls s hw h1 h2 (ZW (.mk m ls)).length 0 (ZW (.mk n ks)) (Nat.add_zero _) hf (a5v ⟨s⟩ _ _)
end Go.Pl
