/-
  Texts of mine that belong together (packed by pack.py), for every input: QQa, GQb, GPa, QPa, QQb, QQc, QUb, QUc, QUg, GUh, QUh, GUj, GTv, QTg, VwU, QTv, QUj, VwL, GTd, QTd, GWy, QWy, GVa, QVa, QCo, GL7, QL7, GL9, QL9, TyRa, GRa, QGc, TyZ0, TyCm, GUk, QUk, GUn, QUn, GUo, QUo, GUd, QUd, GUi, GUl, QUl, GUm, TyLi, GUs, QUs, QUu, VwI, VwJ, VwY, GUt, QUy, VwZ, GUz, QUz, VwH, GUu, VwK, QUw, TyRn, GUw, QUx, GUx3, QUx3.
-/
import Derived.Test.YtgdebdgkofkeeaaGreatDoorChecked
import Derived.Test.YtgdebdgkofkeeaaGreatDoorProg
import Derived.Test.YtgdebdgkofkeeaaGreatDoorKG2
import Derived.Test.YtgdebdgkofkeeaaGreatDoorKG3
import Derived.KernelRfl
import Derived.Lib.ItoaLen
import Derived.Lib.ItoaNum
set_option linter.unusedVariables false
set_option linter.unusedSimpArgs false
namespace Go.Pl
open Go.RowKit
open Enc (enc dec is)
open EncL (encL decL isL)
theorem O9: ∀ x:UInt8×Unit,(fun _:UInt8×Unit=>true) x=true->Zc BB 0 (Zb Dm (Zn (lowB x.1))) Gv [] (ZL a6x (encL x)):=by
 rintro⟨c,⟨⟩⟩ _
 refine b2t c (CP (fun h=>Zl ?_) fun h=>Zl ?_)
 ·have h:(97:Int)<=c.toNat:=by simpa using h
  have h1:(97:UInt8)<=c:=by rw[UInt8.le_iff_toNat_le];exact Int.ofNat_le.1 h
  unfold lowB
  rw[decide_eq_true h1,Bool.true_and]
  exact decide_eq_decide.2 ⟨fun h=>UInt8.le_iff_toNat_le.2 (Int.ofNat_le.1 h),fun h=>Int.ofNat_le.2 (UInt8.le_iff_toNat_le.1 h)⟩
 ·have h : ¬ (97:Int)<=c.toNat:=by simpa using h
  have h1 : ¬ (97:UInt8)<=c:=by rw[UInt8.le_iff_toNat_le];exact fun k=>h (Int.ofNat_le.2 k)
  unfold lowB
  rw[decide_eq_false h1]
  rfl
theorem EZ: ∀ x:UInt8×Unit,(fun _:UInt8×Unit=>true) x=true->Zc BF 0 (Zb Dp (Zn (digB x.1))) Du [] (ZL a5k (encL x)):=by
 rintro⟨c,⟨⟩⟩ _
 refine a9v c (CP (fun h=>Zl ?_) fun h=>Zl ?_)
 ·have h:(48:Int)<=c.toNat:=by simpa using h
  have h1:(48:UInt8)<=c:=by rw[UInt8.le_iff_toNat_le];exact Int.ofNat_le.1 h
  unfold digB
  rw[decide_eq_true h1,Bool.true_and]
  exact decide_eq_decide.2 ⟨fun h=>UInt8.le_iff_toNat_le.2 (Int.ofNat_le.1 h),fun h=>Int.ofNat_le.2 (UInt8.le_iff_toNat_le.1 h)⟩
 ·have h : ¬ (48:Int)<=c.toNat:=by simpa using h
  have h1 : ¬ (48:UInt8)<=c:=by rw[UInt8.le_iff_toNat_le];exact fun k=>h (Int.ofNat_le.2 k)
  unfold digB
  rw[decide_eq_false h1]
  rfl
theorem b4v: ∀ x:Str×Unit,(fun _:Str×Unit=>true) x=true->Zc a0b 0 (Zb PG (Zn (Uc.contains x.1.s))) CJ [] (ZL c4b (encL x)):=by
 rintro⟨⟨s⟩,⟨⟩⟩ _
 refine d2t s ?_
 iterate 14 (refine XA (fun h=>Zl (by subst h;rfl)) fun h=> ?_)
 refine Zl ?_
 show false=Uc.contains s
 rw[eq_comm,<- Bool.not_eq_true,List.contains_iff_mem]
 simp only[Uc,List.mem_cons,List.not_mem_nil,or_false,not_or]
 refine⟨?_,?_,?_,?_,?_,?_,?_,?_,?_,?_,?_,?_,?_,?_⟩ <;> assumption
theorem b3i{c:UInt8}{F:UInt8->Bool}{ps:List PV}{P:Bool->Prop}(e:ps=encL (c,()))(h:P (F c)):preT (fun x:UInt8×Unit=>true) ps=true∧ ∃ y:Bool,AV.pv (Zi (fun x:UInt8×Unit=>F x.1) ps)=AV.pv (enc y)∧P y:=⟨Ze (c,()) e rfl,Zf (c,()) e h⟩
theorem OD(s:List UInt8)(hl:s.length<=1048576)(h1:1<=s.length)(R:Bool): ∀ (d i:Nat),d+i=s.length->1<=i->R=((s.drop i).all FR&&(decide (s.length<=30)&& !Uc.contains s)) ->
  At VI 0 (Zb WM (Zn R)) WF 0 39 [(0,.pv (.str s)),(3,.pv (.int .i64 i))] []:=by
 intro d
 induction d with
 | zero=>
  intro i hi h0 hR
  rw[List.drop_eq_nil_of_le (by omega),List.all_nil,Bool.true_and]at hR
  refine Hq s i (Y6 (XV (by omega)) (Yl (decide_eq_true (by omega)) (YV (fun h=>Zf (⟨s⟩,()) rfl (Zl ?_)) fun h=>Zl ?_)))
  ·rw[hR,decide_eq_true (show s.length<=30 by omega)];rfl
  ·rw[hR,decide_eq_false (show ¬ s.length<=30 by omega)];rfl
 | succ d ih=>
  intro i hi h0 hR
  have hlt:i<s.length:=by omega
  have hix:(decide (0<=(i:Int))&&decide (Int.toNat (i:Int)<List.length s))=true:=by simp[hlt]
  rw[List.drop_eq_getElem_cons hlt,List.all_cons]at hR
  have k:=fun h=>ih (i+1) (by omega) (by omega) h
  refine Hq s i (Yl (Xb hlt) ⟨hix,b3i (Bb hlt) (Vh (fun hs=>Y6 (by simp;omega) ⟨hix,b3i (Bb hlt) (Vh (fun hd=>Zl ?_) fun hd=> ?_)⟩) fun hs=> ?_)⟩)
  ·rw[hR];unfold FR;rw[hs,hd];rfl
  ·rw[next (by omega)]
   exact k (by rw[hR];unfold FR;rw[hd];rfl)
  ·rw[next (by omega)]
   exact k (by rw[hR];unfold FR;rw[hs,Bool.or_true,Bool.true_and])
theorem a5m: ∀ x:Str×Unit,decide (x.1.s.length<=1048576)=true->Zc VI 0 (Zb WM (Zn (Yh x.1.s))) WF [] (ZL b1y (encL x)):=by
 rintro⟨⟨s⟩,⟨⟩⟩ h
 have hl:s.length<=1048576:=of_decide_eq_true h
 refine c5f s ?_
 show At VI 0 (Zb WM (Zn (Yh s))) WF 0 39 [(0,.pv (.str s)),(3,.pv (.int .i64 ((0:Nat):Int)))] []
 cases s with
 | nil=>exact Hq [] 0 (Y6 (by simp) (Y6 (by simp) (Zl rfl)))
 | cons c r=>
  have hlt:0<(c::r).length:=by simp
  have hix:(decide (0<=((0:Nat):Int))&&decide (Int.toNat ((0:Nat):Int)<List.length (c::r)))=true:=by simp
  refine Hq (c::r) (0:Nat) (Yl (Xb hlt) ⟨hix,b3i (Bb hlt) (Vh (fun hs=>Yl (by simp) (Zl ?_)) fun hs=> ?_)⟩)
  ·have hs:lowB c=false:=hs
   show false=(lowB c&&r.all FR&&decide (r.length<=29)&& !Uc.contains (c::r))
   rw[hs];rfl
  ·have hs:lowB c=true:=hs
   rw[next (by omega)]
   refine OD (c::r) hl (by simp) _ r.length 1 (by rw[List.length_cons]) (by omega) ?_
   show(lowB c&&r.all FR&&decide (r.length<=29)&& !Uc.contains (c::r))=(r.all FR&&(decide (r.length+1<=30)&& !Uc.contains (c::r)))
   rw[hs,Bool.true_and,Bool.and_assoc,show decide (r.length<=29)=decide (r.length+1<=30)from decide_eq_decide.2 (by omega)]
theorem LY{s:List UInt8}{P:Bool->Prop}(h0:s.length<=1048576)(h:P (Yh s)):preT (fun x:Str×Unit=>decide (x.1.s.length<=1048576)) [.str s]=true∧ ∃ y:Bool,AV.pv (Zi (fun x:Str×Unit=>Yh x.1.s) [.str s])=AV.pv (enc y)∧P y:=⟨Ze (⟨s⟩,()) rfl (decide_eq_true h0),Zf (⟨s⟩,()) rfl h⟩
theorem d6u{s:List UInt8}{P:Bool->Prop}(h0:s.length<=1048576)(h:P (fullI s)):preT (fun x:Str×Unit=>decide (x.1.s.length<=1048576)) [.str s]=true∧ ∃ y:Bool,AV.pv (Zi (fun x:Str×Unit=>fullI x.1.s) [.str s])=AV.pv (enc y)∧P y:=⟨Ze (⟨s⟩,()) rfl (decide_eq_true h0),Zf (⟨s⟩,()) rfl h⟩
theorem b5g{s:List UInt8}{P:Bool->Prop}(h0:s.length<=1048576)(h:P (Sd s)):preT (fun x:Str×Unit=>decide (x.1.s.length<=1048576)) [.str s]=true∧ ∃ y:Bool,AV.pv (Zi (fun x:Str×Unit=>Sd x.1.s) [.str s])=AV.pv (enc y)∧P y:=⟨Ze (⟨s⟩,()) rfl (decide_eq_true h0),Zf (⟨s⟩,()) rfl h⟩
theorem d8w{s:List UInt8}{i:Nat}(h:i<s.length)(ha : ∀ x∈s.take i,(x != 46)=true)(hb:s[i]=46):fullI s=(Yh (s.take i)&&Yh (s.drop (i+1))):=by
 have e:s=s.take i++s[i]::s.drop (i+1):=by rw[<- List.drop_eq_getElem_cons h,List.take_append_drop]
 have e1:(s.takeWhile fun c=>c != 46)=s.take i:=by
  have h2:((s.take i++s[i]::s.drop (i+1)).takeWhile fun c=>c != 46)=s.take i:=by
   rw[List.takeWhile_append_of_pos ha,hb,List.takeWhile_cons,if_neg (by decide),List.append_nil]
  rw[<- e]at h2
  exact h2
 have e2:(s.dropWhile fun c=>c != 46)=s[i]::s.drop (i+1):=by
  have h2:((s.take i++s[i]::s.drop (i+1)).dropWhile fun c=>c != 46)=s[i]::s.drop (i+1):=by
   rw[List.dropWhile_append_of_pos ha,hb,List.dropWhile_cons,if_neg (by decide)]
  rw[<- e]at h2
  exact h2
 unfold fullI
 rw[e1,e2]
theorem d8h{s:List UInt8}(ha : ∀ x∈s,(x != 46)=true):fullI s=false:=by
 have e2:(s.dropWhile fun c=>c != 46)=[]:=by
  have h2:((s++[]).dropWhile fun c=>c != 46)=[]:=by rw[List.dropWhile_append_of_pos ha];rfl
  rwa [List.append_nil]at h2
 unfold fullI
 rw[e2]
theorem O8(s:List UInt8)(hl:s.length<=1048576): ∀ (d i:Nat),d+i=s.length->(∀ x∈s.take i,(x != 46)=true) ->
  At U9 0 (Zb VW (Zn (fullI s))) VU 0 25 [(0,.pv (.str s)),(3,.pv (.int .i64 i))] []:=by
 intro d
 induction d with
 | zero=>
  intro i hi ha
  rw[List.take_of_length_le (by omega)]at ha
  exact Lc s i (Y6 (XV (by omega)) (Zl (d8h ha).symm))
 | succ d ih=>
  intro i hi ha
  have hlt:i<s.length:=by omega
  have hix:(decide (0<=(i:Int))&&decide (Int.toNat (i:Int)<List.length s))=true:=by simp[hlt]
  have hg:s.getD (Int.toNat (i:Int)) 0=s[i]:=by rw[Int.toNat_natCast,List.getD_eq_getElem?_getD,List.getElem?_eq_getElem hlt];rfl
  refine Lc s i (Yl (Xb hlt) ⟨hix,XA (fun h=> ?_) fun h=> ?_⟩)
  ·rw[hg]at h
   have hb:s[i]=46:=UInt8.toNat_inj.1 (by show s[i].toNat=46;omega)
   have e:=d8w hlt ha hb
   rw[Int.toNat_natCast,List.drop_zero,next (by omega),Int.toNat_natCast,List.take_of_length_le (Nat.le_refl s.length)]
   refine⟨by simp;omega,LY (s:=s.take i) (by rw[List.length_take];omega) (XW (fun h1=>⟨by simp;omega,LY (s:=s.drop (i+1)) (by rw[List.length_drop];omega) (Zl ?_)⟩) fun h1=>Zl ?_)⟩
   ·have h1:Yh (s.take i)=true:=h1
    rw[e,h1];rfl
   ·have h1:Yh (s.take i)=false:=h1
    rw[e,h1];rfl
  ·rw[hg]at h
   rw[next (by omega)]
   refine ih (i+1) (by omega) fun x hx=> ?_
   rw[U3 hlt,List.mem_append]at hx
   rcases hx with hx|hx
   ·exact ha x hx
   ·rw[List.mem_singleton]at hx
    subst hx
    have:s[i]≠46:=fun e=>h (by rw[e];rfl)
    simpa using this
theorem a8g: ∀ x:Str×Unit,decide (x.1.s.length<=1048576)=true->Zc U9 0 (Zb VW (Zn (fullI x.1.s))) VU [] (ZL b0n (encL x)):=by
 rintro⟨⟨s⟩,⟨⟩⟩ h
 exact c3v s (O8 s (of_decide_eq_true h) s.length 0 (by omega) (by simp))
theorem b7o: ∀ x:Str×Unit,decide (x.1.s.length<=1048576)=true->Zc E8 0 (Zb RN (Zn (Sd x.1.s))) RB [] (ZL c3c (encL x)):=by
 rintro⟨⟨s⟩,⟨⟩⟩ h
 have hl:s.length<=1048576:=of_decide_eq_true h
 refine d2v s (LY hl (XW (fun h1=>Zl ?_) fun h1=>d6u hl (Zl ?_)))
 ·have h1:Yh s=true:=h1
  show true=(Yh s||fullI s)
  rw[h1];rfl
 ·have h1:Yh s=false:=h1
  show fullI s=(Yh s||fullI s)
  rw[h1];rfl
theorem d8m{n:Nat}:((n:Int)==0)=decide (n=0):=by rw[Bool.eq_iff_iff];simp
theorem O4: ∀ x:Tm×Bool×Bool×Bool×Bool×Bool×Unit,nW x.1=true->Zc Bv 0 (Zb UI (Zn (ZY x.1.nd x.2.1 x.2.2.1 x.2.2.2.1 x.2.2.2.2.1 x.2.2.2.2.2.1))) G9 [] (ZL a7x (encL x)):=by
 rintro⟨⟨n,ks⟩,a,b,c,d,e,⟨⟩⟩ hw
 have hB:=SE hw
 have h1:=hB.dims
 have h2:=hB.data
 rw[<- Ng]
 have hb:ZY n a b c d e=((a||decide (n.name.s=[]))&&(b||decide (n.num=0))&&(c||(decide (n.elem.s=[])&&decide (n.dims.length+n.data.length=0)))&&(d||decide (n.sizes.length=0))&&(e||decide (n.ranks.length=0))):=rfl
 show Zc _ 0 (Zb UI (Zn (ZY n a b c d e))) _ _ _
 rw[hb]
 have hb:ZY n a b c d e=((a||decide (n.name.s=[]))&&(b||decide (n.num=0))&&(c||(decide (n.elem.s=[])&&decide (n.dims.length+n.data.length=0)))&&(d||decide (n.sizes.length=0))&&(e||decide (n.ranks.length=0))):=rfl
 show Zc _ 0 (Zb UI (Zn (ZY n a b c d e))) _ _ _
 rw[hb]
 refine b0t n ks a b c d e ?_
 simp only[List.length_map,M0 (show n.dims.length+n.data.length<=4611686018427387904 by omega),d8m]
 generalize decide (n.dims.length+n.data.length=0)=X
 generalize decide (n.sizes.length=0)=Y
 generalize decide (n.ranks.length=0)=Z
 clear hb h1 h2 hB hw
 repeat' (first|refine XA (fun _=> ?_) fun _=> ?_|refine XW (fun _=> ?_) fun _=> ?_|refine Zl ?_)
 all_goals simp_all
theorem a5l(l:List Lin)(hl:l.length<=1048576)(ho : ∀ x∈l,ZO x=true)(R:Bool): ∀ (d i:Nat),d+i=l.length->R=(l.drop i).all ZG ->
  At Jc 0 (Zb Qb (Zn R)) QA 0 16 [(0,.pv (enc l)),(3,.pv (.int .i64 i))] []:=by
 intro d
 induction d with
 | zero=>
  intro i hi hR
  rw[List.drop_eq_nil_of_le (by omega)]at hR
  exact a2u l i (Y6 (Vd (by omega)) (Zl hR.symm))
 | succ d ih=>
  intro i hi hR
  have hlt:i<l.length:=by omega
  rw[List.drop_eq_getElem_cons hlt,List.all_cons]at hR
  refine a2u l i (Yl (WO hlt) ⟨ZQ hlt rfl,Yf hlt ⟨Ze (l[i],()) rfl (ho _ (List.getElem_mem hlt)),Zf (l[i],()) rfl (Vh (fun h=>Zl ?_) fun h=> ?_)⟩⟩)
  ·have h:ZG l[i]=false:=h
   rw[hR,h];rfl
  ·have h:ZG l[i]=true:=h
   rw[next (by omega)]
   exact ih (i+1) (by omega) (by rw[hR,h];rfl)
theorem b3f: ∀ x:List Lin×Unit,(decide (x.1.length<=1048576)&&x.1.all ZO)=true->Zc Jc 0 (Zb Qb (Zn (x.1.all ZG))) QA [] (ZL c4q (encL x)):=by
 rintro⟨l,⟨⟩⟩ h
 simp only[Bool.and_eq_true,decide_eq_true_eq,List.all_eq_true]at h
 exact d1g l (a5l l h.1 h.2 _ l.length 0 (by omega) rfl)
theorem VC(n:Nd):Ay n=(decide (n.elem.s=[])&&decide (n.dims.length+n.data.length=0)):=by
 unfold Ay
 have e1:decide (n.elem=⟨[]⟩)=decide (n.elem.s=[]):=decide_eq_decide.2 ⟨fun h=>by rw[h],fun h=>by cases hn:n.elem;rw[hn]at h;simp only at h;rw[h]⟩
 rw[e1,Bool.and_assoc]
 congr 1
 cases n.dims <;> cases n.data <;> simp
theorem Qm(n:Nd):decide (n.name=⟨[]⟩)=decide (n.name.s=[]):=decide_eq_decide.2 ⟨fun h=>by rw[h],fun h=>by cases hn:n.name;rw[hn]at h;simp only at h;rw[h]⟩
theorem W9{α:Type}(l:List α):l.isEmpty=decide (l.length=0):=by cases l <;> simp
theorem Vx(n:Nd):CV n=(decide (n.sizes.length=0)&&decide (n.ranks.length=0)):=by unfold CV;rw[W9,W9]
def KQ(n:Nd):Bool:=(decide (n.name.s=UG)&&decide (n.num ≥ -2147483648)&&decide (n.num<=2147483647))||(decide (n.name.s=XO)&&(decide (n.num=0)||decide (n.num=1)))
theorem VF(n:Nd):Ju n=KQ n:=by
 unfold Ju KQ
 rw[show decide (n.num<=2147483647)=decide (n.num<2147483648)from decide_eq_decide.2 (by omega)]
 by_cases h:n.name.s=XO
 ·rw[if_pos h,h]
  simp[UG,XO]
 ·rw[if_neg h,decide_eq_false h]
  simp
theorem lQ1{n:Nd}(h1:n.name.s=[105,110,116])(h2:n.num ≥ -2147483648)(h3:n.num<=2147483647):KQ n=true:=by unfold KQ;rw[decide_eq_true (show n.name.s=UG from h1),decide_eq_true h2,decide_eq_true h3];rfl
theorem lQ2{n:Nd}(h1:n.name.s=[98,111,111,108])(h2:n.num=0):KQ n=true:=by unfold KQ;rw[decide_eq_true (show n.name.s=XO from h1),decide_eq_true h2];simp
theorem lQ3{n:Nd}(h1:n.name.s=[98,111,111,108])(h2:n.num=1):KQ n=true:=by unfold KQ;rw[decide_eq_true (show n.name.s=XO from h1),decide_eq_true h2];simp
theorem lQ0{n:Nd}(h1 : ¬ (n.name.s=[105,110,116]∧n.num ≥ -2147483648∧n.num<=2147483647))(h2:n.name.s=[98,111,111,108]->n.num≠0∧n.num≠1):KQ n=false:=by
 rw[<- Bool.not_eq_true]
 intro h
 unfold KQ at h
 simp only[Bool.or_eq_true,Bool.and_eq_true,decide_eq_true_eq]at h
 rcases h with h|h
 ·exact h1 ⟨h.1.1,h.1.2,h.2⟩
 ·have:=h2 h.1
  rcases h.2 with h|h
  ·exact this.1 h
  ·exact this.2 h
theorem kB1{n:Nd}{k:Nat}(h:n.kind=1):Xx n k=(decide (k=0)&&Yh n.name.s&&ZY n true false false false false):=by
 unfold Xx ZY
 simp only[h,VC,Qm,Vx,W9,VF,Bool.true_or,Bool.false_or,Bool.true_and,Bool.and_true,if_true,if_false,Int.reduceEq]
 ac_rfl
theorem kB2{n:Nd}{k:Nat}(h:n.kind=2):Xx n k=(decide (k=0)&&KQ n&&ZY n true true false false false):=by
 unfold Xx ZY
 simp only[h,VC,Qm,Vx,W9,VF,Bool.true_or,Bool.false_or,Bool.true_and,Bool.and_true,if_true,if_false,Int.reduceEq]
 ac_rfl
theorem kB3{n:Nd}{k:Nat}(h:n.kind=3):Xx n k=(decide (k=0)&&Cf (Cg n)&&ZY n false false true false false):=by
 unfold Xx ZY
 simp only[h,VC,Qm,Vx,W9,VF,Bool.true_or,Bool.false_or,Bool.true_and,Bool.and_true,if_true,if_false,Int.reduceEq]
 ac_rfl
theorem kB4{n:Nd}{k:Nat}(h:n.kind=4):Xx n k=(decide (k=0)&&decide (n.sizes.length=1)&&n.sizes.all ZG&&ZY n false false false true false):=by
 unfold Xx ZY
 simp only[h,VC,Qm,Vx,W9,VF,Bool.true_or,Bool.false_or,Bool.true_and,Bool.and_true,if_true,if_false,Int.reduceEq]
 ac_rfl
theorem kB5{n:Nd}{k:Nat}(h:n.kind=5):Xx n k=(decide (k=2)&&Yh n.name.s&&ZY n true false false false false):=by
 unfold Xx ZY
 simp only[h,VC,Qm,Vx,W9,VF,Bool.true_or,Bool.false_or,Bool.true_and,Bool.and_true,if_true,if_false,Int.reduceEq]
 ac_rfl
theorem kB6{n:Nd}{k:Nat}(h:n.kind=6):Xx n k=(XP n k&&ZY n true true false true true):=by
 unfold Xx ZY
 simp only[h,VC,Qm,Vx,W9,VF,Bool.true_or,Bool.false_or,Bool.true_and,Bool.and_true,if_true,if_false,Int.reduceEq]
 ac_rfl
theorem kB7{n:Nd}{k:Nat}(h:n.kind=7):Xx n k=(decide (1<=k)&&decide (k<=16)&&ZY n false false false false false):=by
 unfold Xx ZY
 simp only[h,VC,Qm,Vx,W9,VF,Bool.true_or,Bool.false_or,Bool.true_and,Bool.and_true,if_true,if_false,Int.reduceEq]
 ac_rfl
theorem kB8{n:Nd}{k:Nat}(h:n.kind=8):Xx n k=(decide (k=2)&&Sd n.name.s&&ZY n true false false false false):=by
 unfold Xx ZY
 simp only[h,VC,Qm,Vx,W9,VF,Bool.true_or,Bool.false_or,Bool.true_and,Bool.and_true,if_true,if_false,Int.reduceEq]
 ac_rfl
theorem kB9{n:Nd}{k:Nat}(h:n.kind=9):Xx n k=(decide (k=1)&&Sd n.name.s&&ZY n true false false false false):=by
 unfold Xx ZY
 simp only[h,VC,Qm,Vx,W9,VF,Bool.true_or,Bool.false_or,Bool.true_and,Bool.and_true,if_true,if_false,Int.reduceEq]
 ac_rfl
theorem kB0{n:Nd}{k:Nat}(h1:n.kind≠1)(h2:n.kind≠2)(h3:n.kind≠3)(h4:n.kind≠4)(h5:n.kind≠5)(h6:n.kind≠6)(h7:n.kind≠7)(h8:n.kind≠8)(h9:n.kind≠9):Xx n k=false:=by
 unfold Xx
 rw[if_neg h1,if_neg h2,if_neg h3,if_neg h4,if_neg h5,if_neg h6,if_neg h7,if_neg h8,if_neg h9]
theorem MW{α:Type}[Enc α]{l:List α}{c:Int}{P Q:Prop}(h1:(l.length:Int)=c->P)(h2:(l.length:Int)≠c->Q):if ((↑(List.length (List.map (enc:α->PV) l)):Int)==c)=true then P else Q:=by
 rw[List.length_map];exact XA h1 h2
theorem Hz{n:Nd}{ks:List Tm}{a b c d e:Bool}{P:Bool->Prop}(hw:nW (.mk n ks)=true)(h:P (ZY n a b c d e)):preT (fun x:Tm×Bool×Bool×Bool×Bool×Bool×Unit=>nW x.1) (Ql n ks a b c d e)=true∧ ∃ y:Bool,AV.pv (Zi (fun x:Tm×Bool×Bool×Bool×Bool×Bool×Unit=>ZY x.1.nd x.2.1 x.2.2.1 x.2.2.2.1 x.2.2.2.2.1 x.2.2.2.2.2.1) (Ql n ks a b c d e))=AV.pv (enc y)∧P y:=
 ⟨Ze (Tm.mk n ks,a,b,c,d,e,()) (Ng n ks a b c d e) hw,Zf (Tm.mk n ks,a,b,c,d,e,()) (Ng n ks a b c d e) h⟩
theorem b4z{l:List Lin}{P:Bool->Prop}(h0:l.length<=1048576)(h1 : ∀ x∈l,ZO x=true)(h:P (l.all ZG)):preT (fun x:List Lin×Unit=>decide (x.1.length<=1048576)&&x.1.all ZO) [.sl 2 false (l.map enc)]=true∧ ∃ y:Bool,AV.pv (Zi (fun x:List Lin×Unit=>x.1.all ZG) [.sl 2 false (l.map enc)])=AV.pv (enc y)∧P y:=
 ⟨Ze (l,()) rfl (by show(decide (l.length<=1048576)&&l.all ZO)=true;rw[decide_eq_true h0,List.all_eq_true.2 h1];rfl),Zf (l,()) rfl h⟩
theorem d6s{n:Nd}{P:Bool->Prop}(h0:Ci (Cg n)=true)(h:P (Cf (Cg n))):preT (fun x:Arr×Unit=>Ci x.1) [.agg [.str n.elem.s,.sl 1 false (n.dims.map enc),.sl 1 false (n.data.map enc)]]=true∧ ∃ y:Bool,AV.pv (Zi (fun x:Arr×Unit=>Cf x.1) [.agg [.str n.elem.s,.sl 1 false (n.dims.map enc),.sl 1 false (n.data.map enc)]])=AV.pv (enc y)∧P y:=
 ⟨Ze (Cg n,()) rfl h0,Zf (Cg n,()) rfl h⟩
theorem OT(n:Nd)(ks:List Tm)(hw:nW (.mk n ks)=true)(R:Bool): ∀ (d i:Nat),d+i=n.ranks.length->R=(Ux (n.ranks.drop i)&&Sd n.name.s&&ZY n true true false true true) ->
  At VE 0 (Zb X5 (Zn R)) Wy 0 221 [(1,.ptr 0 0),(5,.pv (.int .i64 i))] [.obj (.box (Ym n ks))]:=by
 have hB:=SE hw
 have hr:=hB.ranks
 have hnm:=hB.name
 intro d
 induction d with
 | zero=>
  intro i hi hR
  rw[List.drop_eq_nil_of_le (by omega)]at hR
  have hR:R=(Sd n.name.s&&ZY n true true false true true):=hR
  refine ME n ks i (Y6 (Vd (by omega)) (b5g hnm (XW (fun h=>Hz hw (Zl ?_)) fun h=>Zl ?_)))
  ·rw[hR,h];rfl
  ·rw[hR,h];rfl
 | succ d ih=>
  intro i hi hR
  have hlt:i<n.ranks.length:=by omega
  rw[List.drop_eq_getElem_cons hlt]at hR
  have hc:Ux (n.ranks[i]::n.ranks.drop (i+1))=((decide (0<=n.ranks[i])&&decide (n.ranks[i]<=6))&&Ux (n.ranks.drop (i+1))):=rfl
  rw[hc]at hR
  refine ME n ks i (Yl (WO hlt) ⟨ZQ hlt rfl,Yf hlt (YV (fun h=>Zl ?_) fun h=>⟨ZQ hlt rfl,Yf hlt (YV (fun h2=>Zl ?_) fun h2=> ?_)⟩)⟩)
  ·have h:n.ranks[i]<0:=h
   rw[hR,decide_eq_false (by omega)];rfl
  ·have h2:n.ranks[i]>6:=h2
   rw[hR,decide_eq_false (show ¬ n.ranks[i]<=6 by omega),Bool.and_false];rfl
  ·have h : ¬ n.ranks[i]<0:=h
   have h2 : ¬ n.ranks[i]>6:=h2
   rw[next (by omega)]
   exact ih (i+1) (by omega) (by rw[hR,decide_eq_true (by omega),decide_eq_true (show n.ranks[i]<=6 by omega)];rfl)
theorem a4s: ∀ x:Tm×Unit,nW x.1=true->Zc VE 0 (Zb X5 (Zn (Q5 x.1))) Wy [] (ZL b7y (encL x)):=by
 rintro⟨⟨n,ks⟩,⟨⟩⟩ hw
 have hB:=SE hw
 have hnm:=hB.name
 have hkl:=(MN hw).2
 have hlo : ∀ l∈n.sizes,ZO l=true:=fun l hl=>decide_eq_true (by have:=hB.lens l hl;omega)
 rw[<- YG]
 show Zc _ 0 (Zb X5 (Zn (VP n ks.length))) _ _ _
 refine b9n n ks (YV (fun h=>Zl ?_) fun h1=>YV (fun h=>Zl ?_) fun h2=> ?_)
 ·unfold VP;rw[decide_eq_false (by omega)];rfl
 ·unfold VP;rw[decide_eq_false (show ¬ n.line<=10000 by omega),Bool.and_false];rfl
 have hn:VP n ks.length=Xx n ks.length:=by unfold VP;rw[decide_eq_true (by omega),decide_eq_true (by omega)];rfl
 rw[hn]
 refine XA (fun hk=> ?_) fun k1=>XA (fun hk=> ?_) fun k2=>XA (fun hk=> ?_) fun k3=>XA (fun hk=> ?_) fun k4=>XA (fun hk=> ?_) fun k5=>XA (fun hk=> ?_) fun k6=>XA (fun hk=> ?_) fun k7=>XA (fun hk=> ?_) fun k8=>XA (fun hk=> ?_) fun k9=>Zl (kB0 k1 k2 k3 k4 k5 k6 k7 k8 k9).symm
 ·rw[kB1 hk]
  refine MW (fun h0=>LY hnm (XW (fun hx=>Hz hw (Zl ?_)) fun hx=>Zl ?_)) fun h0=>Zl ?_
  ·rw[hx,decide_eq_true (by omega)];rfl
  ·rw[hx,Bool.and_false];rfl
  ·rw[decide_eq_false (by omega)];rfl
 ·rw[kB2 hk]
  have leafT:KQ n=true->(ks.length:Int)=0->ZY n true true false false false=(decide (ks.length=0)&&KQ n&&ZY n true true false false false):=fun a b=>by rw[a,decide_eq_true (show ks.length=0 by omega)];rfl
  have leafF:KQ n=false->false=(decide (ks.length=0)&&KQ n&&ZY n true true false false false):=fun a=>by rw[a,Bool.and_false];rfl
  have leafK:(ks.length:Int)≠0->false=(decide (ks.length=0)&&KQ n&&ZY n true true false false false):=fun a=>by rw[decide_eq_false (show ¬ ks.length=0 by omega)];rfl
  repeat' (first|refine MW (fun _=> ?_) fun _=> ?_|refine XA (fun _=> ?_) fun _=> ?_|refine YV (fun _=> ?_) fun _=> ?_|refine Hz hw (Zl ?_)|refine Zl ?_)
  all_goals first
   | exact leafK ‹_›
   | exact leafT (lQ1 ‹_› ‹_› ‹_›) ‹_›
   | exact leafT (lQ2 ‹_› ‹_›) ‹_›
   | exact leafT (lQ3 ‹_› ‹_›) ‹_›
   | exact leafF (lQ0 (fun h=>by first|exact absurd h.1 ‹_› | exact absurd h.2.1 ‹_› | exact absurd h.2.2 ‹_›) (fun a=>by first|exact absurd a ‹_› | exact⟨‹_›,‹_›⟩))
 ·rw[kB3 hk]
  refine MW (fun h0=>d6s (a8r hw) (XW (fun hx=>Hz hw (Zl ?_)) fun hx=>Zl ?_)) fun h0=>Zl ?_
  ·rw[hx,decide_eq_true (by omega)];rfl
  ·rw[hx,Bool.and_false];rfl
  ·rw[decide_eq_false (by omega)];rfl
 ·rw[kB4 hk]
  refine MW (fun h0=>MW (fun h3=>b4z hB.sizes hlo (XW (fun hx=>Hz hw (Zl ?_)) fun hx=>Zl ?_)) fun h3=>Zl ?_) fun h0=>Zl ?_
  ·rw[hx,decide_eq_true (show ks.length=0 by omega),decide_eq_true (show n.sizes.length=1 by omega)];rfl
  ·rw[hx,Bool.and_false];rfl
  ·rw[decide_eq_false (show ¬ n.sizes.length=1 by omega),Bool.and_false];rfl
  ·rw[decide_eq_false (show ¬ ks.length=0 by omega)];rfl
 ·rw[kB5 hk]
  refine MW (fun h0=>LY hnm (XW (fun hx=>Hz hw (Zl ?_)) fun hx=>Zl ?_)) fun h0=>Zl ?_
  ·rw[hx,decide_eq_true (by omega)];rfl
  ·rw[hx,Bool.and_false];rfl
  ·rw[decide_eq_false (by omega)];rfl
 ·rw[kB6 hk]
  have hc:XP n ks.length=(decide (ks.length<=8)&&decide (n.sizes.length<=4)&&n.sizes.all ZG&&decide (0<=n.num)&&decide (n.num<=64)&&(n.ranks.isEmpty||decide (n.ranks.length=ks.length))&&(Ux n.ranks&&Sd n.name.s)):=by unfold XP;ac_rfl
  rw[hc]
  refine YV (fun h3=>Zl ?_) fun h3=>YV (fun h4=>Zl ?_) fun h4=>b4z hB.sizes hlo (Vh (fun hx=>Zl ?_) fun hx=>YV (fun h5=>Zl ?_) fun h5=>YV (fun h6=>Zl ?_) fun h6=> ?_)
  ·rw[List.length_map]at h3
   rw[decide_eq_false (show ¬ ks.length<=8 by omega)];simp
  ·rw[List.length_map]at h4
   rw[decide_eq_false (show ¬ n.sizes.length<=4 by omega)];simp
  ·rw[hx];simp
  ·rw[decide_eq_false (show ¬ 0<=n.num by omega)];simp
  ·rw[decide_eq_false (show ¬ n.num<=64 by omega)];simp
  ·rw[List.length_map]at h3 h4
   have go:(n.ranks.isEmpty||decide (n.ranks.length=ks.length))=true->At VE 0 (Zb X5 (Zn (decide (ks.length<=8)&&decide (n.sizes.length<=4)&&n.sizes.all ZG&&decide (0<=n.num)&&decide (n.num<=64)&&(n.ranks.isEmpty||decide (n.ranks.length=ks.length))&&(Ux n.ranks&&Sd n.name.s)&&ZY n true true false true true))) Wy 0 221 [(1,.ptr 0 0),(5,.pv (.int .i64 ((0:Nat):Int)))] [.obj (.box (Ym n ks))]:=fun he=>
    OT n ks hw _ n.ranks.length 0 (by omega) (by rw[he,hx,decide_eq_true (show ks.length<=8 by omega),decide_eq_true (show n.sizes.length<=4 by omega),decide_eq_true (show 0<=n.num by omega),decide_eq_true (show n.num<=64 by omega)];rfl)
   refine d3s (fun h7=>d3s (fun h8=>Zl ?_) fun h8=> ?_) fun h7=> ?_
   ·rw[List.length_map,List.length_map]at h8
    rw[List.length_map]at h7
    rw[W9,decide_eq_false (show ¬ n.ranks.length=0 by omega),decide_eq_false (show ¬ n.ranks.length=ks.length by omega)];simp
   ·rw[List.length_map,List.length_map]at h8
    exact go (by rw[decide_eq_true (show n.ranks.length=ks.length by omega),Bool.or_true])
   ·rw[List.length_map]at h7
    exact go (by rw[W9,decide_eq_true (show n.ranks.length=0 by omega),Bool.true_or])
 ·rw[kB7 hk]
  refine YV (fun h3=>YV (fun h4=>Hz hw (Zl ?_)) fun h4=>Zl ?_) fun h3=>Zl ?_
  ·rw[List.length_map]at h3 h4
   rw[decide_eq_true (show 1<=ks.length by omega),decide_eq_true (show ks.length<=16 by omega)];rfl
  ·rw[List.length_map]at h4
   rw[decide_eq_false (show ¬ ks.length<=16 by omega),Bool.and_false];rfl
  ·rw[List.length_map]at h3
   rw[decide_eq_false (show ¬ 1<=ks.length by omega)];rfl
 ·rw[kB8 hk]
  refine MW (fun h0=>b5g hnm (XW (fun hx=>Hz hw (Zl ?_)) fun hx=>Zl ?_)) fun h0=>Zl ?_
  ·rw[hx,decide_eq_true (by omega)];rfl
  ·rw[hx,Bool.and_false];rfl
  ·rw[decide_eq_false (by omega)];rfl
 ·rw[kB9 hk]
  refine MW (fun h0=>b5g hnm (XW (fun hx=>Hz hw (Zl ?_)) fun hx=>Zl ?_)) fun h0=>Zl ?_
  ·rw[hx,decide_eq_true (by omega)];rfl
  ·rw[hx,Bool.and_false];rfl
  ·rw[decide_eq_false (by omega)];rfl
theorem d3v{n:Nd}{ks:List Tm}{β:Type}[Enc β]{F:Tm->β}{P:β->Prop}(hw:nW (.mk n ks)=true)(h:P (F (.mk n ks))):preT (fun x:Tm×Unit=>nW x.1) (Rz n ks)=true∧ ∃ y:β,AV.pv (Zi (fun x:Tm×Unit=>F x.1) (Rz n ks))=AV.pv (enc y)∧P y:=
 ⟨Ze (Tm.mk n ks,()) (YG n ks) hw,Zf (Tm.mk n ks,()) (YG n ks) h⟩
theorem a6i(N:Nat)(n:Nd)(ks:List Tm)(hw:gW (.mk n ks)=true)(hd:ZZ ks<N)(R:Bool): ∀ (d i:Nat),d+i=ks.length->R=(VP n ks.length&&(ks.drop i).all QU) ->
  At (Jt N) 0 (Zb Qz (Zn R)) Qv 0 20 [(1,.ptr 0 0),(3,.pv (.int .i64 i))] [.obj (.box (Ym n ks))]:=by
 intro d
 induction d with
 | zero=>
  intro i hi hR
  rw[List.drop_eq_nil_of_le (by omega),List.all_nil,Bool.and_true]at hR
  refine a1a N n ks i (Y6 (Vd (by omega)) (d3v (Pi hw) (Zl ?_)))
  rw[hR];rfl
 | succ d ih=>
  intro i hi hR
  have hlt:i<ks.length:=by omega
  have hkl:=(MN (Pi hw)).2
  rw[List.drop_eq_getElem_cons hlt,List.all_cons]at hR
  refine a1a N n ks i (Yl (WO hlt) ⟨ZQ hlt rfl,Yf hlt ⟨Qn _,Ze (ks[i],()) (QR _) (AA hw hd (List.getElem_mem hlt)),Zf (ks[i],()) (QR _) (Vh (fun h=>Zl ?_) fun h=> ?_)⟩⟩)
  ·have h:QU ks[i]=false:=h
   rw[hR,h];simp
  ·have h:QU ks[i]=true:=h
   rw[next (by omega)]
   exact ih (i+1) (by omega) (by rw[hR,h];rfl)
theorem b1n(N:Nat): ∀ x:Tm×Unit,(gW x.1&&decide (ZH x.1<N+1))=true->Zc (Jt N) 0 (Zb Qz (Zn (QU x.1))) Qv [] (ZL c3h (encL x)):=by
 rintro⟨⟨n,ks⟩,⟨⟩⟩ h
 simp only[Bool.and_eq_true,decide_eq_true_eq]at h
 have hd:ZH (.mk n ks)<N+1:=h.2
 rw[ZH]at hd
 rw[<- YG]
 exact c8q N n ks (a6i N n ks h.1 (by omega) _ ks.length 0 (by omega) (by show QU (.mk n ks)=_;rw[QU,a6p];rfl))
set_option maxRecDepth 20000 in
theorem Em: ∀ x:Tm×Unit,gW x.1=true->Zc AX 0 (Zb KH (Zn (Y8 x.1))) Da [] (ZL a6g (encL x)):=by
 rintro⟨⟨n,ks⟩,⟨⟩⟩ hw
 have e0 : ∀ a b:Nat,(b:Int)=b->decide (a<=b)=decide ((a:Int)<=(b:Int)):=fun a b _=>decide_eq_decide.2 (by omega)
 have e1:decide (Zt (.mk n ks)<=400)=decide (((Zt (.mk n ks):Nat):Int)<=400):=e0 _ 400 rfl
 have e2:decide (ZH (.mk n ks)<=40)=decide (((ZH (.mk n ks):Nat):Int)<=40):=e0 _ 40 rfl
 have e:Y8 (.mk n ks)=(decide (((Zt (.mk n ks):Nat):Int)<=400)&&decide (((ZH (.mk n ks):Nat):Int)<=40)&&QU (.mk n ks)):=by
  unfold Y8 Xk
  rw[C9,e1,e2]
 rw[<- YG]
 show Zc _ 0 (Zb KH (Zn (Y8 (.mk n ks)))) _ _ _
 rw[e]
 refine b2h n ks ⟨Ze (Tm.mk n ks,()) (YG n ks) hw,Zf (Tm.mk n ks,()) (YG n ks) (YV (fun h1=>⟨Ze (Tm.mk n ks,()) (YG n ks) hw,Zf (Tm.mk n ks,()) (YG n ks) (YV (fun h2=>⟨Ze (Tm.mk n ks,()) (YG n ks) hw,Zf (Tm.mk n ks,()) (YG n ks) (Zl ?_)⟩) fun h2=>Zl ?_)⟩) fun h1=>Zl ?_)⟩
 ·have h1:((Zt (.mk n ks):Nat):Int)<=400:=h1
  have h2:((ZH (.mk n ks):Nat):Int)<=40:=h2
  rw[decide_eq_true h1,decide_eq_true h2];rfl
 ·have h2 : ¬ ((ZH (.mk n ks):Nat):Int)<=40:=h2
  rw[decide_eq_false h2,Bool.and_false];rfl
 ·have h1 : ¬ ((Zt (.mk n ks):Nat):Int)<=400:=h1
  rw[decide_eq_false h1];rfl
end Go.Pl
namespace Go.Pl
open Go.RowKit
open Enc (enc dec is)
open EncL (encL decL isL)
set_option maxRecDepth 100000
abbrev d3u(ps:List PV)(k:Bool->Prop):Prop:=ceP (fun(x:Str×Int×Unit)=>Xl (Prod.fst x) (Prod.fst (Prod.snd x))) ps k
abbrev c7s(ps:List PV)(k:List Int->Prop):Prop:=WN (fun(x:List Int×Unit)=>decide (List.length (Prod.fst x)<=2000000)) (fun(x:List Int×Unit)=>Prod.fst x) ps k
abbrev d6k(ps:List PV)(k:Arr×Int->Prop):Prop:=WN (fun(x:Str×List Int×List Int×Unit)=>decide (List.length (Prod.fst (Prod.snd x))<=2000000)&&decide (List.length (Prod.fst (Prod.snd (Prod.snd x)))<=2000000)) (fun(x:Str×List Int×List Int×Unit)=>QL (Prod.fst x) (Prod.fst (Prod.snd x)) (Prod.fst (Prod.snd (Prod.snd x)))) ps k
noncomputable def A7:IC:=XU Proofs.Tryz.f177
def BD:List IRes:=[(.tmp 2)]
abbrev b3v:Nat:=6
def PN:ZA:=Yn []
theorem b9b{G:PV->Prop}(l:List Int)(h:(List.isEmpty (List.map enc l)||Enc.sz Int==1)=true∧((List.length ([]:List PV)==0&&0==0&&decide ((0+List.length (List.map enc l))*8<=1099511627776)&&decide (0+List.length (List.map enc l)<=1099511627776))=true∧((List.length (([]:List PV)++List.map enc l)==0+List.length (List.map enc l))=true∧(G ((.sl 1 false (List.drop 0 (List.take (0+List.length (List.map enc l)) (([]:List PV)++List.map enc l))))))))):Zc PN 0 (Zb BD G) A7 [] (ZL 6 [enc l]):=Zc.tp (.lit (.req (.req (.req (.nil))))) h
noncomputable def RO:IC:=XU Proofs.Tryz.f176
def Ph:List IRes:=[(.tmp 4)]
abbrev c1n:Nat:=23
def OV:ZA:=Yn []
theorem d2x{G:PV->Prop}(e:List UInt8)(n:Int)(h:if (e==[(98:UInt8),(111:UInt8),(111:UInt8),(108:UInt8)])=true then if (n==0)=true then G ((.bool true))else(G ((.bool (n==1))))else(if (e==[(105:UInt8),(110:UInt8),(116:UInt8)])=true then if (decide (n ≥ (-2147483648:Int)))=true then G ((.bool (decide (n<=2147483647))))else(G ((.bool false)))else(G ((.bool false))))):Zc OV 0 (Zb Ph G) RO [] (ZL 23 [.str e,.int .i64 n]):=Zc.tp (dm [] 43 0x222220220222004422200e4202220220034200c42) h
noncomputable def Wu:IC:=XU Proofs.Tryz.f146
def WI:List IRes:=[(.cell true 3 6),(.tmp 7)]
abbrev N9:Nat:=52
def VG:ZA:=Yn [(175,.pure (preT (fun _:List Int×Unit=>true)) (Zi (fun x:List Int×Unit=>YD x.1))),(176,.pure (preT (fun _:Str×Int×Unit=>true)) (Zi (fun x:Str×Int×Unit=>Xl x.1 x.2.1))),(177,.pure (preT (fun x:List Int×Unit=>decide (x.1.length<=2000000))) (Zi (fun x:List Int×Unit=>x.1)))]
theorem c0z{G:PV->Prop}(e:List UInt8)(d x:List Int)(h:if (!e==[(105:UInt8),(110:UInt8),(116:UInt8)])=true then if (!e==[(98:UInt8),(111:UInt8),(111:UInt8),(108:UInt8)])=true then G ((.tup [(.agg [(.str []),(.sl 0 true []),(.sl 0 true [])]),(.int .i64 12)]))else((Go.Pl.preT (fun(x:List Int×Unit)=>true) [(.sl 1 false (List.map enc d))])=true∧(∃ y0:Int×Int,AV.pv (Zi (fun(x:List Int×Unit)=>YD x.1) [(.sl 1 false (List.map enc d))])=AV.pv (enc y0)∧(if (y0.2 != 0)=true then G ((.tup [(.agg [(.str []),(.sl 0 true []),(.sl 0 true [])]),(.int .i64 y0.2)]))else(if ((↑(List.length (List.map enc x)):Int) != y0.1)=true then G ((.tup [(.agg [(.str []),(.sl 0 true []),(.sl 0 true [])]),(.int .i64 1)]))else(At VG 0 (Zb WI G) Wu 0 52 [(0,(.pv (.str e))),(1,(.pv (.sl 1 false (List.map enc d)))),(2,(.pv (.sl 1 false (List.map enc x)))),(6,(.ptr 0 0)),(10,(.pv (.int .i64 0)))] [(.obj (.box [(.pv (.str [])),(.pv (.sl 0 true [])),(.pv (.sl 0 true []))]))])))))else((Go.Pl.preT (fun(x:List Int×Unit)=>true) [(.sl 1 false (List.map enc d))])=true∧(∃ y1:Int×Int,AV.pv (Zi (fun(x:List Int×Unit)=>YD x.1) [(.sl 1 false (List.map enc d))])=AV.pv (enc y1)∧(if (y1.2 != 0)=true then G ((.tup [(.agg [(.str []),(.sl 0 true []),(.sl 0 true [])]),(.int .i64 y1.2)]))else(if ((↑(List.length (List.map enc x)):Int) != y1.1)=true then G ((.tup [(.agg [(.str []),(.sl 0 true []),(.sl 0 true [])]),(.int .i64 1)]))else(At VG 0 (Zb WI G) Wu 0 52 [(0,(.pv (.str e))),(1,(.pv (.sl 1 false (List.map enc d)))),(2,(.pv (.sl 1 false (List.map enc x)))),(6,(.ptr 0 0)),(10,(.pv (.int .i64 0)))] [(.obj (.box [(.pv (.str [])),(.pv (.sl 0 true [])),(.pv (.sl 0 true []))]))])))))):Zc VG 0 (Zb WI G) Wu [] (ZL 52 [.str e,enc d,enc x]):=Zc.tp (dm [dv (Int×Int)] 47 0x142000142512220000142000142510001422201742) h
theorem FM{G:PV->Prop}(e:List UInt8)(d x:List Int)(i:Int)(h:if (decide (i<(↑(List.length (List.map enc x)):Int)))=true then(Hg x i 1 fun y0=>(d3u [(.str e),(.int .i64 (PV.asInt (List.getD (PV.cells (enc y0)) 0 default)))] fun y1=>(if (!y1)=true then G ((.tup [(.agg [(.str []),(.sl 0 true []),(.sl 0 true [])]),(.int .i64 2)]))else(At VG 0 (Zb WI G) Wu 0 52 [(0,(.pv (.str e))),(1,(.pv (.sl 1 false (List.map enc d)))),(2,(.pv (.sl 1 false (List.map enc x)))),(6,(.ptr 0 0)),(10,(.pv (.int .i64 (IntKind.wrap IntKind.i64 (i+1)))))] [(.obj (.box [(.pv (.str [])),(.pv (.sl 0 true [])),(.pv (.sl 0 true []))]))]))))else((c7s [(.sl 1 false (List.map enc d))] fun y2=>((c7s [(.sl 1 false (List.map enc x))] fun y3=>(G ((.tup [(.agg [(.str e),(.sl 1 false (List.map enc y2)),(.sl 1 false (List.map enc y3))]),(.int .i64 0)])))))))):At VG 0 (Zb WI G) Wu 0 52 [(0,.pv (.str e)),(1,.pv (enc d)),(2,.pv (enc x)),(6,.ptr 0 0),(10,.pv (.int .i64 i))] [.obj (.box [.pv (.str []),.pv (.sl 0 true []),.pv (.sl 0 true [])])]:=At.tp (dm [dr Int,dv Bool,dv (List Int)] 23 0x717102000146225100c42) h
noncomputable def RQ:IC:=XU Proofs.Tryz.f117
def P5:List IRes:=[(.tmp 2)]
abbrev c3e:Nat:=17
def Oc:ZA:=Yn [(146,.pure (preT (fun x:Str×List Int×List Int×Unit=>decide (x.2.1.length<=2000000)&&decide (x.2.2.1.length<=2000000))) (Zi (fun x:Str×List Int×List Int×Unit=>QL x.1 x.2.1 x.2.2.1)))]
theorem c8g{G:PV->Prop}(a:Arr)(h:(d6k [(.str (Str.s (Arr.e a))),(.sl 1 false (List.map enc (Arr.d a))),(.sl 1 false (List.map enc (Arr.x a)))] fun y0=>(G ((.bool (y0.2==0)))))):Zc Oc 0 (Zb P5 G) RQ [] (ZL 17 [enc a]):=Zc.tp (.req (.abs (Arr×Int) (fun YY=>AV.pv (enc YY)) (.lit (.nil)))) h
end Go.Pl
namespace Go.Pl
open Go.RowKit
open Enc (enc dec is)
open EncL (encL decL isL)
set_option maxRecDepth 100000
end Go.Pl
namespace Go.Pl
open Go.RowKit
open Enc (enc dec is)
open EncL (encL decL isL)
theorem a6n: ∀ x:List Int×Unit,decide (x.1.length<=2000000)=true->Zc PN 0 (Zb BD (Zn x.1)) A7 [] (ZL b3v (encL x)):=by
 rintro⟨l,⟨⟩⟩ h
 have hl:l.length<=2000000:=of_decide_eq_true h
 refine b9b l ⟨by simp[Enc.sz],by simp;omega,by simp,?_⟩
 rw[List.nil_append,List.drop_zero,List.take_of_length_le (by omega)]
 exact KL (x:=l) rfl
theorem b7k: ∀ a:Str×Int×Unit,true=true->Zc OV 0 (Zb Ph (Zn (Xl a.1 a.2.1))) RO [] (ZL c1n (encL a)):=by
 rintro⟨⟨e⟩,n,⟨⟩⟩ _
 refine d2x e n ?_
 simp only[beq_iff_eq,decide_eq_true_eq,Zn,a4b,Fa,true_and,Xl,UG,XO,ge_iff_le]
 by_cases h1:e=[105,110,116]
 ·subst h1
  rw[if_neg (by decide)]
  simp only[if_true]
  split <;> simp[*]
 ·by_cases h2:e=[98,111,111,108]
  ·subst h2
   simp only[if_true]
   split <;> simp[*]
  ·simp[h1,h2]
theorem Ev(e:List UInt8)(d x:List Int)(hd:d.length<=2000000)(hx:x.length<=2000000)(r:Arr×Int): ∀ (m k:Nat),m+k=x.length->r=(if (x.drop k).all (Xl ⟨e⟩)then(⟨⟨e⟩,d,x⟩,0)else(⟨⟨[]⟩,[],[]⟩,2)) ->
  At VG 0 (Zb WI (Zn r)) Wu 0 N9 [(0,.pv (.str e)),(1,.pv (enc d)),(2,.pv (enc x)),(6,.ptr 0 0),(10,.pv (.int .i64 k))] [.obj (.box [.pv (.str []),.pv (.sl 0 true []),.pv (.sl 0 true [])])]:=by
 intro m
 induction m with
 | zero=>
  intro k hk hr
  refine FM e d x k ?_
  rw[if_neg (by simp;omega)]
  rw[List.drop_of_length_le (by omega)]at hr
  subst hr
  refine⟨Ze (d,()) rfl (by simpa using hd),?_⟩
  refine Zf (d,()) rfl ?_
  refine⟨Ze (x,()) rfl (by simpa using hx),?_⟩
  refine Zf (x,()) rfl ?_
  exact⟨by simp,by simp⟩
 | succ m ih=>
  intro k hk hr
  have hlt:k<x.length:=by omega
  refine FM e d x k ?_
  rw[if_pos (by simp;omega)]
  refine⟨by simp[Enc.sz];omega,x[k],by rw[Q7 _ hlt],?_⟩
  refine Zf (⟨e⟩,x[k],()) rfl ?_
  rw[List.drop_eq_getElem_cons hlt,List.all_cons]at hr
  simp only[]
  cases h:Xl ⟨e⟩ x[k]with
  | true=>
   rw[if_neg (by simp),next (by omega)]
   rw[h,Bool.true_and]at hr
   exact ih (k+1) (by omega) hr
  | false=>
   rw[if_pos (by decide)]
   rw[h,Bool.false_and,if_neg (by simp)]at hr
   subst hr
   exact⟨by simp,by simp⟩
theorem a7g: ∀ a:Str×List Int×List Int×Unit,(decide (a.2.1.length<=2000000)&&decide (a.2.2.1.length<=2000000))=true->Zc VG 0 (Zb WI (Zn (QL a.1 a.2.1 a.2.2.1))) Wu [] (ZL N9 (encL a)):=by
 rintro⟨⟨e⟩,d,x,⟨⟩⟩ hp
 simp only[Bool.and_eq_true,decide_eq_true_eq]at hp
 refine c0z e d x ?_
 have hp1:=hp.1
 have hp2:=hp.2
 have hl:=fun(h0 : ¬ (e≠UG∧e≠XO)) (h1 : ¬ (YD d).2≠0) (h2 : ¬ (x.length:Int)≠(YD d).1)=>Ev e d x hp1 hp2 (QL ⟨e⟩ d x) x.length 0 (by omega) (by simp only[QL,h0,h1,h2,if_false,List.drop_zero])
 simp only[preT,Zi,Fw,a0p,Ti,LG,c5v,Ao,b3a,a1j,b3h,DY,List.isEmpty_iff,Bool.and_true,beq_self_eq_true,Bool.or_true,Bool.true_and,decide_eq_true_eq,AV.pv.injEq,b4m,exists_eq_left',true_and,Enc.sz,List.length_map,Bool.not_eq_true',beq_eq_false_iff_ne,bne_iff_ne]
 have key:(if ¬ (YD d).2=0 then Zn (QL ⟨e⟩ d x) ((.tup [(.agg [(.str []),(.sl 0 true []),(.sl 0 true [])]),(.int .i64 (YD d).2)]))else if ¬ (x.length:Int)=(YD d).1 then Zn (QL ⟨e⟩ d x) ((.tup [(.agg [(.str []),(.sl 0 true []),(.sl 0 true [])]),(.int .i64 1)]))else At VG 0 (Zb WI (Zn (QL ⟨e⟩ d x))) Wu 0 52 [(0,(.pv (.str e))),(1,(.pv (.sl 1 false (List.map enc d)))),(2,(.pv (.sl 1 false (List.map enc x)))),(6,(.ptr 0 0)),(10,(.pv (.int .i64 0)))] [(.obj (.box [(.pv (.str [])),(.pv (.sl 0 true [])),(.pv (.sl 0 true []))]))])∨(e≠UG∧e≠XO):=by
  by_cases h0:e≠UG∧e≠XO
  ·exact .inr h0
  ·refine .inl ?_
   split
   ·rename_i h1
    exact⟨by simp,by simp[QL,h0,h1]⟩
   ·rename_i h1
    split
    ·rename_i h2
     exact⟨by simp,by simp only[QL,ne_eq,h1,h2,not_false_eq_true,if_true,if_false];rw[if_neg h0];simp⟩
    ·rename_i h2
     exact hl h0 h1 h2
 by_cases h1:e=UG
 ·rw[if_neg (by simp[h1,UG])]
  exact key.resolve_right (by simp[h1])
 ·rw[if_pos (by simpa [UG]using h1)]
  by_cases h2:e=XO
  ·rw[if_neg (by simp[h2,XO])]
   exact key.resolve_right (by simp[h2])
  ·rw[if_pos (by simpa [XO]using h2)]
   exact⟨by simp,by simp[QL,h1,h2]⟩
theorem b7s: ∀ a:Arr×Unit,Ci a.1=true->Zc Oc 0 (Zb P5 (Zn (Cf a.1))) RQ [] (ZL c3e (encL a)):=by
 rintro⟨a,⟨⟩⟩ hp
 refine c8g a ⟨Ze (a.e,a.d,a.x,()) rfl hp,Zf (a.e,a.d,a.x,()) rfl ?_⟩
 exact⟨rfl,rfl⟩
theorem a7h{α:Type}[BEq α][LawfulBEq α]{x y:α}{P Q:Prop}(h1:x≠y->P)(h2:x=y->Q):if (x != y)=true then P else Q:=by by_cases h:x=y;rw[if_neg (by simpa using h)];exact h2 h;rw[if_pos (by simpa using h)];exact h1 h
theorem d5l{α:Type}[BEq α][LawfulBEq α]{x y:α}{P Q:Prop}(h1:x≠y->P)(h2:x=y->Q):if (!x==y)=true then P else Q:=by by_cases h:x=y;rw[if_neg (by simpa using h)];exact h2 h;rw[if_pos (by simpa using h)];exact h1 h
theorem AY{α β:Type}[Enc α][Enc β]{a:List α}{b:List β}{P Q:Prop}(h1:a.length≠b.length->P)(h2:a.length=b.length->Q):if ((↑(List.length (List.map (enc:α->PV) a)):Int) != (↑(List.length (List.map (enc:β->PV) b)):Int))=true then P else Q:=
 a7h (fun h=>h1 fun e=>h (by rw[List.length_map,List.length_map,e])) fun h=>h2 (by rw[List.length_map,List.length_map]at h;omega)
theorem CO{α:Type}[DecidableEq α]{x y:α}{a b:List α}(h:x≠y):decide (x::a=y::b)=false:=decide_eq_false fun e=>h (List.cons.inj e).1
theorem Aw{α:Type}[DecidableEq α]{x y:α}{a b:List α}(h:x=y):decide (x::a=y::b)=decide (a=b):=decide_eq_decide.2 ⟨fun e=>(List.cons.inj e).2,fun e=>by rw[h,e]⟩
theorem a9n{α:Type}[DecidableEq α]{a b:List α}(h:a.length≠b.length):decide (a=b)=false:=decide_eq_false fun e=>h (by rw[e])
theorem idf{x y:Int}(h:x≠y):x≠y:=h
theorem idt{x y:Int}(h:x=y):x=y:=h
theorem stt{x y:Str}(h:x.s=y.s):x=y:=by cases x;cases y;cases h;rfl
theorem b3j(a b:List Int)(hl:a.length<=1048576)(e:a.length=b.length)(R:Bool): ∀ (d i:Nat),d+i=a.length->R=decide (a.drop i=b.drop i) ->
  At Tp 0 (Zb Dn (Zn R)) GR 0 26 [(0,.pv (enc a)),(1,.pv (enc b)),(5,.pv (.int .i64 i))] []:=by
 intro d
 induction d with
 | zero=>
  intro i hi hR
  refine b0f a b i (Y6 (Vd (by omega)) (Zl ?_))
  rw[hR,List.drop_eq_nil_of_le (by omega),List.drop_eq_nil_of_le (by omega)];rfl
 | succ d ih=>
  intro i hi hR
  have h1:i<a.length:=by omega
  have h2:i<b.length:=by omega
  rw[List.drop_eq_getElem_cons h1,List.drop_eq_getElem_cons h2]at hR
  refine b0f a b i (Yl (WO h1) ⟨ZQ h1 rfl,Yf h1 ⟨ZQ h2 rfl,Yf h2 (a7h (fun h=>Zl ?_) fun h=> ?_)⟩⟩)
  ·rw[hR,CO (show a[i]≠b[i]from idf h)]
  ·rw[next (by omega)]
   exact ih (i+1) (by omega) (by rw[hR,Aw (show a[i]=b[i]from idt h)])
theorem b9d: ∀ x:List Int×List Int×Unit,decide (x.1.length<=1048576)=true->Zc Tp 0 (Zb Dn (Zn (decide (x.1=x.2.1)))) GR [] (ZL d1i (encL x)):=by
 rintro⟨a,b,⟨⟩⟩ h
 refine d4y a b (AY (fun k=>Zl (a9n k).symm) fun k=> ?_)
 exact b3j a b (of_decide_eq_true h) k _ a.length 0 (by omega) rfl
theorem b6o(a b:Lin)(hl:a.t.length<=1048576)(e:a.t.length=b.t.length)(R:Bool): ∀ (d i:Nat),d+i=a.t.length->R=decide (a.t.drop i=b.t.drop i) ->
  At Tu 0 (Zb Gt (Zn R)) GM 0 38 [(2,.ptr 0 0),(3,.ptr 1 0),(5,.pv (.int .i64 i))] [.obj (.box [.pv (enc a.k),.pv (enc a.t)]),.obj (.box [.pv (enc b.k),.pv (enc b.t)])]:=by
 intro d
 induction d with
 | zero=>
  intro i hi hR
  refine b8t a b i (Y6 (Vd (by omega)) (Zl ?_))
  rw[hR,List.drop_eq_nil_of_le (by omega),List.drop_eq_nil_of_le (by omega)];rfl
 | succ d ih=>
  intro i hi hR
  have h1:i<a.t.length:=by omega
  have h2:i<b.t.length:=by omega
  rw[List.drop_eq_getElem_cons h1,List.drop_eq_getElem_cons h2]at hR
  have hc:(PV.asStr (List.getD (PV.cells (enc a.t[i])) 0 default)==PV.asStr (List.getD (PV.cells (enc b.t[i])) 0 default)&&(PV.asInt (List.getD (PV.cells (enc a.t[i])) (0+1) default)==PV.asInt (List.getD (PV.cells (enc b.t[i])) (0+1) default)&&true))=decide (a.t[i]=b.t[i]):=by
   rw[co1,co1,co2,co2,Bool.and_true]
   rcases a.t[i]with ⟨⟨v⟩,c⟩
   rcases b.t[i]with ⟨⟨w⟩,c'⟩
   rw[Bool.eq_iff_iff]
   simp
  refine b8t a b i (Yl (WO h1) ⟨ZQ h1 rfl,Yf h1 ⟨ZQ h2 rfl,Yf h2 ?_⟩⟩)
  rw[hc]
  refine Vh (fun h=>Zl ?_) fun h=> ?_
  ·rw[hR,CO (of_decide_eq_false h)]
  ·rw[next (by omega)]
   exact ih (i+1) (by omega) (by rw[hR,Aw (of_decide_eq_true h)])
theorem c5i: ∀ x:Lin×Lin×Unit,decide (x.1.t.length<=1048576)=true->Zc Tu 0 (Zb Gt (Zn (decide (x.1=x.2.1)))) GM [] (ZL d2h (encL x)):=by
 rintro⟨a,b,⟨⟩⟩ h
 refine d5k a b (a7h (fun k=>Zl (decide_eq_false fun e=>k (by rw[show a=b from e])).symm) fun k0=>AY (fun k=>Zl (decide_eq_false fun e=>k (by rw[show a=b from e])).symm) fun k=> ?_)
 refine b6o a b (of_decide_eq_true h) k _ a.t.length 0 (by omega) (decide_eq_decide.2 ⟨fun e=>by rw[show a=b from e],fun e=> ?_⟩)
 cases a;cases b
 simp only[List.drop_zero]at e k0
 rw[k0,e]
theorem Yz{n m:Nd}{ks ls:List Tm}:DC (.mk n ks) (.mk m ls)=true ↔ (n.kind=m.kind∧n.name=m.name∧n.num=m.num∧n.elem=m.elem∧n.dims=m.dims∧n.data=m.data∧n.sizes=m.sizes∧n.ranks=m.ranks)∧Qw ks ls=true:=by
 rw[DC]
 unfold c5x
 simp only[Bool.and_eq_true,decide_eq_true_eq,and_assoc]
theorem Bc: ∀ {ks ls:List Tm},Qw ks ls=true->ks.length=ls.length
 | [],[],_=>rfl
 | [],_::_,h=>by simp[Qw]at h
 | _::_,[],h=>by simp[Qw]at h
 | k::ks,l::ls,h=>by
  rw[Qw,Bool.and_eq_true]at h
  rw[List.length_cons,List.length_cons,Bc h.2]
theorem WT{b:Bool}(h:b=true->False):false=b:=by cases b;rfl;exact(h rfl).elim
theorem b8u{a b:List Int}{P:Bool->Prop}(h:a.length<=1048576)(k:P (decide (a=b))):a2f [.sl 1 false (a.map enc),.sl 1 false (b.map enc)] P:=⟨Ze (a,b,()) rfl (decide_eq_true h),Zf (a,b,()) rfl k⟩
theorem b3k{N:Nat}{n:Nd}{ks:List Tm}(h:tW (.mk n ks)=true)(hd:ZZ ks<N){k l:Tm}(hk:k∈ks)(hl:tW l=true):(fun x:Tm×Tm×Unit=>(tW x.1&&tW x.2.1)&&decide (ZH x.1<N)) (k,l,())=true:=by
 have h:=a2a h hd hk
 simp only[Bool.and_eq_true]at h ⊢
 exact⟨⟨h.1,hl⟩,h.2⟩
theorem c4j(a b:Tm):[FT a,FT b]=encL (a,b,()):=by rw[a0c,a0c];rfl
theorem d2y(n m:Nd)(ks ls:List Tm):[ndC n ks,ndC m ls]=encL (Tm.mk n ks,Tm.mk m ls,()):=by rw[UC,UC];rfl
theorem b2o(N:Nat)(n m:Nd)(ks ls:List Tm)(hw:tW (.mk n ks)=true)(hv:tW (.mk m ls)=true)(hd:ZZ ks<N)(e:ks.length=ls.length)(R:Bool): ∀ (d i:Nat),d+i=ks.length->R=Qw (ks.drop i) (ls.drop i) ->
  At (K4 N) 0 (Zb Uz (Zn R)) UE 1 117 [(2,.ptr 0 0),(3,.ptr 1 0),(6,.pv (.int .i64 i))] [.obj (.box (Ym n ks)),.obj (.box (Ym m ls))]:=by
 intro d
 induction d with
 | zero=>
  intro i hi hR
  rw[List.drop_eq_nil_of_le (by omega),List.drop_eq_nil_of_le (by omega),Qw]at hR
  exact b2b N n ks m ls i (Y6 (Vd (by omega)) (Zl hR.symm))
 | succ d ih=>
  intro i hi hR
  have h1:i<ks.length:=by omega
  have h2:i<ls.length:=by omega
  have hkl:=(Xu hw).1
  rw[List.drop_eq_getElem_cons h1,List.drop_eq_getElem_cons h2,Qw]at hR
  refine b2b N n ks m ls i (Yl (WO h1) ⟨ZQ h1 rfl,Yf h1 ⟨Qn _,ZQ h2 rfl,Yf h2 ⟨Qn _,Ze (ks[i],ls[i],()) (c4j _ _) (b3k hw hd (List.getElem_mem h1) ((Xu hv).2 _ (List.getElem_mem h2))),Zf (ks[i],ls[i],()) (c4j _ _) (Vh (fun h=>Zl ?_) fun h=> ?_)⟩⟩⟩)
  ·have h:DC ks[i] ls[i]=false:=h
   rw[hR,h];rfl
  ·have h:DC ks[i] ls[i]=true:=h
   rw[next (by omega)]
   exact ih (i+1) (by omega) (by rw[hR,h];rfl)
theorem a7a(N:Nat)(n m:Nd)(ks ls:List Tm)(hw:tW (.mk n ks)=true)(hv:tW (.mk m ls)=true)(hd:ZZ ks<N)(e:ks.length=ls.length)(es:n.sizes.length=m.sizes.length)(R:Bool): ∀ (d i:Nat),d+i=n.sizes.length->R=(decide (n.sizes.drop i=m.sizes.drop i)&&Qw ks ls) ->
  At (K4 N) 0 (Zb Uz (Zn R)) UE 0 117 [(2,.ptr 0 0),(3,.ptr 1 0),(5,.pv (.int .i64 i))] [.obj (.box (Ym n ks)),.obj (.box (Ym m ls))]:=by
 intro d
 induction d with
 | zero=>
  intro i hi hR
  rw[List.drop_eq_nil_of_le (by omega),List.drop_eq_nil_of_le (by omega)]at hR
  exact b8a N n ks m ls i (Y6 (Vd (by omega)) (b2o N n m ks ls hw hv hd e R ks.length 0 (by omega) (by rw[hR];rfl)))
 | succ d ih=>
  intro i hi hR
  have h1:i<n.sizes.length:=by omega
  have h2:i<m.sizes.length:=by omega
  have hn:=ndB hw
  have hb:=hn.sizes
  rw[List.drop_eq_getElem_cons h1,List.drop_eq_getElem_cons h2]at hR
  refine b8a N n ks m ls i (Yl (WO h1) ⟨ZQ h1 rfl,Yf h1 ⟨ZQ h2 rfl,Yf h2 ⟨Ze (n.sizes[i],m.sizes[i],()) rfl (decide_eq_true (hn.lens _ (List.getElem_mem h1))),Zf (n.sizes[i],m.sizes[i],()) rfl (Vh (fun h=>Zl ?_) fun h=> ?_)⟩⟩⟩)
  ·rw[hR,CO (of_decide_eq_false h)];rfl
  ·rw[next (by omega)]
   exact ih (i+1) (by omega) (by rw[hR,Aw (of_decide_eq_true h)])
theorem c3t(N:Nat): ∀ x:Tm×Tm×Unit,((tW x.1&&tW x.2.1)&&decide (ZH x.1<N+1))=true->Zc (K4 N) 0 (Zb Uz (Zn (DC x.1 x.2.1))) UE [] (ZL c9z (encL x)):=by
 rintro⟨⟨n,ks⟩,⟨m,ls⟩,⟨⟩⟩ h
 simp only[Bool.and_eq_true,decide_eq_true_eq]at h
 obtain⟨⟨hw,hv⟩,hd⟩:=h
 have hd:ZH (.mk n ks)<N+1:=hd
 rw[ZH]at hd
 have hn:=ndB hw
 rw[<- d2y]
 refine d7w N n ks m ls ?_
 refine a7h (fun k=>Zl (WT fun h=>k (Yz.1 h).1.1)) fun k1=> ?_
 refine d5l (fun k=>Zl (WT fun h=>k (by rw[(Yz.1 h).1.2.1]))) fun k2=> ?_
 refine a7h (fun k=>Zl (WT fun h=>k (Yz.1 h).1.2.2.1)) fun k3=> ?_
 refine AY (fun k=>Zl (WT fun h=>k (by rw[(Yz.1 h).1.2.2.2.2.2.2.1]))) fun k4=> ?_
 refine AY (fun k=>Zl (WT fun h=>k (Bc (Yz.1 h).2))) fun k5=> ?_
 refine d5l (fun k=>Zl (WT fun h=>k (by rw[(Yz.1 h).1.2.2.2.1]))) fun k6=> ?_
 refine b8u hn.dims (Vh (fun k=>Zl (WT fun h=>of_decide_eq_false k (Yz.1 h).1.2.2.2.2.1)) fun k7=> ?_)
 refine b8u hn.data (Vh (fun k=>Zl (WT fun h=>of_decide_eq_false k (Yz.1 h).1.2.2.2.2.2.1)) fun k8=> ?_)
 refine b8u hn.ranks (Vh (fun k=>Zl (WT fun h=>of_decide_eq_false k (Yz.1 h).1.2.2.2.2.2.2.2)) fun k9=> ?_)
 refine a7a N n m ks ls hw hv (by omega) k5 k4 _ n.sizes.length 0 (by omega) ?_
 rw[Bool.eq_iff_iff]
 show DC (.mk n ks) (.mk m ls)=true ↔ _
 rw[Yz,Bool.and_eq_true,decide_eq_true_eq]
 exact⟨fun h=>⟨h.1.2.2.2.2.2.2.1,h.2⟩,fun h=>⟨⟨k1,stt k2,k3,stt k6,of_decide_eq_true k7,of_decide_eq_true k8,h.1,of_decide_eq_true k9⟩,h.2⟩⟩
theorem ndT(n:Nd)(ks:List Tm){α:Type}[Enc α](x:α):encL (Tm.mk n ks,x,())=[ndC n ks,enc x]:=by rw[UC];rfl
theorem d3e: ∀ x:Str×Unit,true=true->Zc d6r 0 (Zb c7b (Zn (vT x.1))) c6h [] (ZL d7x (encL x)):=by
 rintro⟨⟨s⟩,⟨⟩⟩ _
 exact d8i s ⟨by simp,by simp[vT,P6]⟩
def d4m(s:Str)(a b:Tm):Tm:=.mk {P6 with kind:=5,name:=s} [a,b]
theorem b5j: ∀ x:Str×Tm×Tm×Unit,true=true->Zc b5p 0 (Zb a2g (Zn (d4m x.1 x.2.1 x.2.2.1))) a3d [] (ZL c5k (encL x)):=by
 rintro⟨⟨s⟩,⟨n,ks⟩,⟨m,ls⟩,⟨⟩⟩ _
 rw[show encL ((⟨s⟩:Str),Tm.mk n ks,Tm.mk m ls,())=[.str s,ndC n ks,ndC m ls]from by rw[UC,UC];rfl]
 refine c8s s n ks m ls ?_
 rw[UC,UC]
 have h:is (List Tm) (.sl 10 false ([Tm.mk n ks,Tm.mk m ls].map enc))=true:=Enc.is_enc [Tm.mk n ks,Tm.mk m ls]
 have h2:(dec (.sl 10 false ([Tm.mk n ks,Tm.mk m ls].map enc)):List Tm)=[Tm.mk n ks,Tm.mk m ls]:=Enc.dec_enc [Tm.mk n ks,Tm.mk m ls]
 refine⟨?_,?_⟩
 ·have:is (List Tm) (.sl 10 false [enc (Tm.mk n ks),enc (Tm.mk m ls)])=true:=h
  simp[this]
 ·have h:is (List Tm) (.sl 10 false [enc (Tm.mk n ks),enc (Tm.mk m ls)])=true:=h
  have h2:(dec (.sl 10 false [enc (Tm.mk n ks),enc (Tm.mk m ls)]):List Tm)=[Tm.mk n ks,Tm.mk m ls]:=h2
  rw[a9l _ _ _ _ _ _ _ _ _ _ h,h2]
  simp[d4m,P6]
end Go.Pl
namespace Go.Pl
open Go.RowKit
open Enc (enc dec is)
open EncL (encL decL isL)
mutual
theorem Lm: ∀ {a b:List Str} (h : ∀ x,x∈a ↔ x∈b) (t:Tm),Wn a t=Wn b t
 | a,b,h,.mk n ks=>by
  rw[Wn,Wn,Ty h]
  simp only[h]
theorem Ty: ∀ {a b:List Str} (h : ∀ x,x∈a ↔ x∈b) (l:Bool) (s:Str) (i:Nat) (ks:List Tm),WQ a l s i ks=WQ b l s i ks
 | a,b,h,l,s,i,[]=>by rw[WQ,WQ]
 | a,b,h,l,s,i,k::ks=>by
  rw[WQ,WQ,Ty h l s (i+1) ks,Lm (a:=if (l&&decide (i=1))=true then s::a else a) (b:=if (l&&decide (i=1))=true then s::b else b) (fun x=>by split <;> simp[h]) k]
end
mutual
theorem Gc: ∀ (b:List Str) (t:Tm),(Wn b t).length<=Zt t
 | b,.mk n ks=>by
  have h:=Tf b (WP n ks.length) n.name 0 ks
  rw[Wn,Zt,List.length_append]
  split
  ·simp only[List.length_singleton];omega
  ·simp only[List.length_nil];omega
theorem Tf: ∀ (b:List Str) (l:Bool) (s:Str) (i:Nat) (ks:List Tm),(WQ b l s i ks).length<=Zr ks
 | b,l,s,i,[]=>by rw[WQ,Zr];simp
 | b,l,s,i,k::ks=>by
  have h1:=Gc (if (l&&decide (i=1))=true then s::b else b) k
  have h2:=Tf b l s (i+1) ks
  rw[WQ,Zr,List.length_append]
  omega
end
end Go.Pl
namespace Go.Pl
open Go.RowKit
open Enc (enc dec is)
open EncL (encL decL isL)
theorem Rc: ∀ (l o:List Str),(l.foldl Xi o).length<=o.length+l.length
 | [],o=>by simp
 | a::l,o=>by have:=Rc l (Xi o a);have:=J4 o a;rw[List.foldl_cons,List.length_cons];omega
theorem b5o{N:Nat}{t:Tm}{b g:List Str}(hw:tW t=true)(hd:ZH t<N)(h1:b.length+ZH t<=1048576)(h2:g.length+Zt t<=1048576):WG N [(.pv (FT t)),(.map 0),(.map 1)] [(.map (Z7 b)),(.map (Z7 g))]=true:=by
 rw[a0c]
 simp only[WG,Ut,Enc.dec_enc,hw,VZ,decide_eq_true hd,decide_eq_true h1,decide_eq_true h2,Bool.true_and,Bool.and_true,Bool.and_eq_true]
 exact⟨@decide_eq_true _ (_) trivial,@decide_eq_true _ (_) trivial⟩
theorem b8j(N:Nat)(n:Nd)(ks:List Tm)(b:List Str)(hw:tW (.mk n ks)=true)(hd:ZZ ks<N)(hb:b.length+ZZ ks+1<=1048576)(R:List Str): ∀ (d i:Nat) (g:List Str),d+i=ks.length->g.length+Zr (ks.drop i)<=1048576->R=(WQ b (WP n ks.length) n.name i (ks.drop i)).foldl Xi g ->
  At (VX N) 2 (Yc 2 Wj fun r=>r=(.tup [],[.map (Z7 b),.map (Z7 R)],[])) Wi 0 54 [(1,.map 0),(2,.map 1),(3,.ptr 2 0),(23,.pv (enc ks)),(24,.pv (.int .i64 (ks.map (enc:Tm->PV)).length)),(25,.pv (.int .i64 i))] [.obj (.map (Z7 b)),.obj (.map (Z7 g)),.obj (.box (Ym n ks))]:=by
 intro d
 induction d with
 | zero=>
  intro i g hi hg hR
  rw[List.drop_eq_nil_of_le (by omega),WQ]at hR
  exact b0z N n ks b g i (Y6 (Vd (by omega)) (by rw[hR];rfl))
 | succ d ih=>
  intro i g hi hg hR
  have h1:i<ks.length:=by omega
  have hkl:=(Xu hw).1
  have hwk:=(Xu hw).2 _ (List.getElem_mem h1)
  have hdk:=GA (List.getElem_mem h1)
  rw[List.drop_eq_getElem_cons h1,Zr]at hg
  rw[List.drop_eq_getElem_cons h1,WQ,List.foldl_append]at hR
  have go : ∀ bd:List Str,(Wn bd ks[i]=Wn (if (WP n ks.length&&decide (i=1))=true then n.name::b else b) ks[i])->At (VX N) 2 (Yc 2 Wj fun r=>r=(.tup [],[.map (Z7 b),.map (Z7 R)],[])) Wi 0 54 [(1,.map 0),(2,.map 1),(3,.ptr 2 0),(23,.pv (enc ks)),(24,.pv (.int .i64 (ks.map (enc:Tm->PV)).length)),(25,.pv (.int .i64 (IntKind.i64.wrap ((i:Int)+1))))] [.obj (.map (Z7 b)),.obj (.map (Z7 ((Wn bd ks[i]).foldl Xi g))),.obj (.box (Ym n ks))]:=fun bd e=>by
   rw[next (by omega),e]
   refine ih (i+1) _ (by omega) ?_ hR
   have l1:=Rc (Wn (if (WP n ks.length&&decide (i=1))=true then n.name::b else b) ks[i]) g
   have l2:=Gc (if (WP n ks.length&&decide (i=1))=true then n.name::b else b) ks[i]
   omega
  have plain:(WP n ks.length&&decide (i=1))=false->WG N [(.pv (FT ks[i])),(.map 0),(.map 1)] [(.map (Z7 b)),(.map (Z7 g))]=true∧At (VX N) 2 (Yc 2 Wj fun r=>r=(.tup [],[.map (Z7 b),.map (Z7 R)],[])) Wi 0 54 [(1,.map 0),(2,.map 1),(3,.ptr 2 0),(23,.pv (enc ks)),(24,.pv (.int .i64 (ks.map (enc:Tm->PV)).length)),(25,.pv (.int .i64 (IntKind.i64.wrap ((i:Int)+1))))] [.obj (.map (Z7 b)),.obj (.map (Z7 (List.foldl Xi (YW (Z7 g)) (Wn (YW (Z7 b)) (dec (agS ks[i])))))),.obj (.box (Ym n ks))]:=fun e=>
   ⟨b5o hwk (by omega) (by omega) (by omega),by rw[VZ,VZ,b1w,Enc.dec_enc];exact go b (by rw[e];rfl)⟩
  refine b0z N n ks b g i (Yl (WO h1) ⟨ZQ h1 rfl,Yf h1 ⟨Qn _,XA (fun k5=>XA (fun k2=>XA (fun k1=> ?_) fun k1=> ?_) fun k2=> ?_) fun k5=> ?_⟩⟩)
  ·have e2:ks.length=2:=by rw[List.length_map]at k2;omega
   have e1:i=1:=by omega
   have el:(WP n ks.length&&decide (i=1))=true:=by unfold WP;rw[decide_eq_true k5,decide_eq_true e2,decide_eq_true e1];rfl
   have hu:WA (enc n.name) (.bool true) (Z7 b)=Z7 (Xi b n.name):=(Gw b n.name).2
   have:=J4 b n.name
   refine⟨(Gw b n.name).1,?_⟩
   rw[hu,VZ,VZ,b1w,Enc.dec_enc]
   exact⟨b5o hwk (by omega) (by omega) (by omega),go (Xi b n.name) (Lm (fun x=>by rw[el];simp[AL,or_comm]) _)⟩
  ·exact plain (by rw[decide_eq_false (show ¬ i=1 by omega),Bool.and_false])
  ·exact plain (by unfold WP;rw[decide_eq_false (show ¬ ks.length=2 by rw[List.length_map]at k2;omega)];simp)
  ·exact plain (by unfold WP;rw[decide_eq_false k5];simp)
theorem c3l(b:List Str)(s:Str):VY (enc s) (Z7 b)=true∧YN (enc s) (PV.bool false) (Z7 b) = .bool (decide (s∈b)):=by
 have key:GN (enc s) (Z7 b)=some (if s∈b then some (PV.bool true)else none):=by
  induction b with
  | nil=>rfl
  | cons a b ih=>
   show(match QW (enc s) (PV.str a.s)with|some true=>some (some (PV.bool true))|some false=>GN (enc s) (Z7 b)|none=>none)=_
   have e:QW (enc s:PV) (PV.str a.s)=some (s.s==a.s):=rfl
   rw[e]
   by_cases h:s=a
   ·subst h;simp
   ·have:(s.s==a.s)=false:=by
     rw[beq_eq_false_iff_ne]
     intro e;apply h;cases a;cases s;simp at e;rw[e]
    rw[this]
    show GN (enc s) (Z7 b)=_
    rw[ih]
    simp[h]
 unfold VY YN
 rw[key]
 by_cases h:s∈b
 ·simp[h]
 ·simp[h]
theorem c5m(N:Nat): ∀ args os,WG (N+1) args os=true->Zc (VX N) os.length (Yc os.length Wj fun r=>r=GQ args os) Wi [] (Wq d1d args os):=by
 intro args os hp
 unfold WG at hp
 split at hp
 ·rename_i p es fs
  simp only[Bool.and_eq_true,decide_eq_true_eq]at hp
  obtain⟨h1,hw,h3,h4,h5,h6,h7⟩:=hp
  obtain⟨⟨n,ks⟩,rfl⟩:=PK h1
  rw[Enc.dec_enc]at hw h3 h6 h7
  generalize YW es=b at h4 h6
  generalize YW fs=g at h5 h7
  subst h4 h5
  rw[ZH]at h3 h6
  rw[Zt]at h7
  have key : ∀ g':List Str,g'.length+Zr ks<=1048576->(Wn b (.mk n ks)).foldl Xi g=(WQ b (WP n ks.length) n.name 0 ks).foldl Xi g'->At (VX N) 2 (Yc 2 Wj fun r=>r=(.tup [],[.map (Z7 b),.map (Z7 ((Wn b (.mk n ks)).foldl Xi g))],[])) Wi 0 54 [(1,.map 0),(2,.map 1),(3,.ptr 2 0),(23,.pv (enc ks)),(24,.pv (.int .i64 (ks.map (enc:Tm->PV)).length)),(25,.pv (.int .i64 0))] [.obj (.map (Z7 b)),.obj (.map (Z7 g')),.obj (.box (Ym n ks))]:=fun g' l e=>
   b8j N n ks b hw (by omega) (by omega) _ ks.length 0 g' (by omega) (by simpa using l) (by rw[e];rfl)
  have e:GQ [.pv (enc (Tm.mk n ks)),.map 0,.map 1] [.map (Z7 b),.map (Z7 g)]=(.tup [],[.map (Z7 b),.map (Z7 ((Wn b (.mk n ks)).foldl Xi g))],[]):=by
   simp only[GQ,Enc.dec_enc,VZ]
  rw[e,ZE]
  refine d6z N n ks b g (XA (fun k=> ?_) fun k=>key g (by omega) (by rw[Wn,if_neg (fun h=>k h.1)];rfl))
  obtain⟨l1,l2⟩:=c3l b n.name
  rw[l1,l2]
  refine⟨rfl,Vh (fun k2=> ?_) fun k2=> ?_⟩
  ·have k2:n.name ∉ b:=of_decide_eq_false k2
   have hu:WA (enc n.name) (.bool true) (Z7 g)=Z7 (Xi g n.name):=(Gw g n.name).2
   refine⟨(Gw g n.name).1,?_⟩
   rw[hu]
   refine key (Xi g n.name) (by have:=J4 g n.name;omega) ?_
   rw[Wn,if_pos ⟨k,k2⟩];rfl
  ·have k2:n.name∈b:=of_decide_eq_true k2
   exact key g (by omega) (by rw[Wn,if_neg (fun h=>h.2 k2)];rfl)
 ·cases hp
noncomputable def VH:List AV->List AObj->Bool
 | [.pv p,.map 0,.map 1],[.map es,.map fs]=>can Tm p&&(tW (dec p)&&(@decide (es=Z7 (YW es)) (Classical.propDecidable _)&&(@decide (fs=Z7 (YW fs)) (Classical.propDecidable _)&&(decide ((YW es).length+ZH (dec p:Tm)<=1048576)&&decide ((YW fs).length+Zt (dec p:Tm)<=1048576)))))
 | _,_=>false
def a8y:List AV->List AObj->Nat
 | [.pv p,_,_],_=>ZH (dec p:Tm)
 | _,_=>0
theorem d7c{N:Nat}{args:List AV}{os:List AObj}(h:(VH args os&&decide (a8y args os<N))=true):WG N args os=true:=by
 rw[Bool.and_eq_true]at h
 obtain⟨h1,h2⟩:=h
 unfold VH at h1
 split at h1
 ·simp only[Bool.and_eq_true]at h1
  obtain⟨q1,q2,q3,q4,q5,q6⟩:=h1
  simp only[WG,Bool.and_eq_true]
  exact⟨q1,q2,h2,q3,q4,q5,q6⟩
 ·cases h1
theorem d6a{N:Nat}{args:List AV}{os:List AObj}(h:WG N args os=true):(VH args os&&decide (a8y args os<N))=true:=by
 unfold WG at h
 split at h
 ·simp only[Bool.and_eq_true]at h
  obtain⟨q1,q2,q3,q4,q5,q6,q7⟩:=h
  rw[Bool.and_eq_true]
  refine⟨?_,q3⟩
  simp only[VH,Bool.and_eq_true]
  exact⟨q1,q2,q4,q5,q6,q7⟩
 ·cases h
theorem d2i{t:Tm}{b g:List Str}(hw:tW t=true)(h1:b.length+ZH t<=1048576)(h2:g.length+Zt t<=1048576):VH [(.pv (enc t)),(.map 0),(.map 1)] [(.map (Z7 b)),(.map (Z7 g))]=true:=by
 simp only[VH,Ut,Enc.dec_enc,hw,VZ,decide_eq_true h1,decide_eq_true h2,Bool.true_and,Bool.and_true,Bool.and_eq_true]
 exact⟨@decide_eq_true _ (_) trivial,@decide_eq_true _ (_) trivial⟩
end Go.Pl
namespace Go.Pl
open Go.RowKit
open Enc (enc dec is)
open EncL (encL decL isL)
set_option maxRecDepth 100000
noncomputable def b7a:IC:=XU Proofs.Tryz.f20
def b0m:List IRes:=[(.tmp 2)]
abbrev d1e:Nat:=12
noncomputable def c5t:ZA:=Yn [(55,.own VH GQ),(57,.own Qt (Kl 79)),(56,.own (Vm 79) Ui)]
theorem d4u{G:PV->Prop}(n:Nd)(ks:List Tm)(h:(VH [(.pv (.agg [(.int .i64 (Nd.kind n)),(.int .i64 (Nd.line n)),(.str (Str.s (Nd.name n))),(.int .i64 (Nd.num n)),(.str (Str.s (Nd.elem n))),(.sl 1 false (List.map enc (Nd.dims n))),(.sl 1 false (List.map enc (Nd.data n))),(.sl 2 false (List.map enc (Nd.sizes n))),(.sl 1 false (List.map enc (Nd.ranks n))),(.sl 10 false (List.map enc ks))])),(.map 0),(.map 1)] [(.map []),(.map [])])=true∧((Vm 79 [(.fn 79 [] [(.ptr 0 0)])] [(.box [(.map 1)]),(.map (Z7 (List.foldl Xi (YW []) (Wn (YW []) (dec (PV.agg [enc (Nd.kind n),enc (Nd.line n),enc (Nd.name n),enc (Nd.num n),enc (Nd.elem n),enc (Nd.dims n),enc (Nd.data n),enc (Nd.sizes n),enc (Nd.ranks n),enc ks]))))))])=true∧(G ((.sl 1 false (List.map PV.str (Xd (List.map Vw (Z7 (List.foldl Xi (YW []) (Wn (YW []) (dec (PV.agg [enc (Nd.kind n),enc (Nd.line n),enc (Nd.name n),enc (Nd.num n),enc (Nd.elem n),enc (Nd.dims n),enc (Nd.data n),enc (Nd.sizes n),enc (Nd.ranks n),enc ks]))))))))))))):Zc c5t 0 (Zb b0m G) b7a [] (ZL 12 [.agg [enc n.kind,enc n.line,enc n.name,enc n.num,enc n.elem,enc n.dims,enc n.data,enc n.sizes,enc n.ranks,enc ks]]):=Zc.tp (dm [] 8 0x313231) h
end Go.Pl
namespace Go.Pl
open Go.RowKit
open Enc (enc dec is)
open EncL (encL decL isL)
mutual
theorem b1d: ∀ (b:List Str) (t:Tm) (s:Str),s∈Wn b t->s.s.length<=Sc t
 | b,.mk n ks,s,h=>by
  rw[Wn]at h
  rw[Sc]
  rcases List.mem_append.1 h with h|h
  ·split at h
   ·have:s=n.name:=by simpa using h
    subst this
    unfold Eb;omega
   ·cases h
  ·have:=a1d b (WP n ks.length) n.name 0 ks s h;omega
theorem a1d: ∀ (b:List Str) (l:Bool) (x:Str) (i:Nat) (ks:List Tm) (s:Str),s∈WQ b l x i ks->s.s.length<=Qj ks
 | b,l,x,i,[],s,h=>by rw[WQ]at h;cases h
 | b,l,x,i,k::ks,s,h=>by
  rw[WQ]at h
  rw[Qj]
  rcases List.mem_append.1 h with h|h
  ·have:=b1d _ k s h;omega
  ·have:=a1d b l x (i+1) ks s h;omega
end
theorem b0h{l:List Str}(h1 : ∀ s∈l,s.s.length<=1048576)(h2:l.length<=1048576):KC (Z7 (WX l))=true:=by
 have h3:(Z7 (WX l)).all c7g=true:=by
  rw[List.all_eq_true]
  intro x hx
  obtain⟨s,hs,rfl⟩:=List.mem_map.1 hx
  rcases (Td l [] s).1 hs with h|h
  ·cases h
  ·exact decide_eq_true (h1 s h)
 have h4:((Z7 (WX l)).map Vw).Nodup:=by
  have e:(Z7 (WX l)).map Vw=(WX l).map (·.s):=by unfold Z7;rw[List.map_map];rfl
  rw[e]
  have:=QN l [] (by simp)
  refine List.Pairwise.map _ (fun a b hab=> ?_) this
  intro he;apply hab;cases a;cases b;simp at he;rw[he]
 have h5:(Z7 (WX l)).length<=1048576:=by
  have:=GV l []
  unfold Z7
  rw[List.length_map]
  have e:WX l=l.foldl Xi []:=rfl
  rw[e]
  simp at this
  omega
 unfold KC
 rw[h3,decide_eq_true h4,decide_eq_true h5];rfl
theorem NZ(l:List Str):(PV.sl 1 false (List.map PV.str (Xd (List.map Vw (Z7 (WX l))))))=enc (QO l):=by
 have e:(Z7 (WX l)).map Vw=(WX l).map (·.s):=by unfold Z7;rw[List.map_map];rfl
 rw[e]
 unfold QO
 show _=PV.sl 1 false (List.map enc (List.map Str.mk _))
 rw[List.map_map]
 rfl
theorem c3p: ∀ x:Tm×Unit,tW x.1=true->Zc c5t 0 (Zb b0m (Zn (Ww x.1))) b7a [] (ZL d1e (encL x)):=by
 rintro⟨⟨n,ks⟩,⟨⟩⟩ hw
 rw[show encL ((Tm.mk n ks,()):Tm×Unit)=[PV.agg [enc n.kind,enc n.line,enc n.name,enc n.num,enc n.elem,enc n.dims,enc n.data,enc n.sizes,enc n.ranks,enc ks]]from by
  show [enc (Tm.mk n ks)]=_
  rw[ZE]]
 have hw:tW (.mk n ks)=true:=hw
 refine d4u n ks ?_
 have hs:=Cu hw
 have hW:=of_decide_eq_true hw
 have hd:ZH (.mk n ks)<=1048576:=Nat.le_trans (CZ _) hs
 have e:(dec (PV.agg [enc (Nd.kind n),enc (Nd.line n),enc (Nd.name n),enc (Nd.num n),enc (Nd.elem n),enc (Nd.dims n),enc (Nd.data n),enc (Nd.sizes n),enc (Nd.ranks n),enc ks]):Tm) = .mk n ks:=by rw[<- ZE,Enc.dec_enc]
 rw[e]
 refine⟨?_,?_,?_⟩
 ·have:=d2i (t:=.mk n ks) (b:=[]) (g:=[]) hw (by simpa using hd) (by simpa using hs)
  rw[ZE]at this
  exact this
 ·show(79==79&&KC (Z7 (WX (Wn [] (.mk n ks)))))=true
  rw[b0h (fun s h=>by have:=b1d _ _ s h;omega) (by have:=Gc [] (.mk n ks);omega)]
  simp
 ·show Zn _ (PV.sl 1 false (List.map PV.str (Xd (List.map Vw (Z7 (WX (Wn [] (.mk n ks))))))))
  rw[NZ]
  exact KL rfl
end Go.Pl
namespace Go.Pl
open Go.RowKit
open Enc (enc dec is)
open EncL (encL decL isL)
set_option maxRecDepth 100000
noncomputable def Hm:IC:=icx U2 Proofs.Tryz.f21
def Kj:List IRes:=[(.tmp 2)]
abbrev c0d:Nat:=11
noncomputable def Qr:ZA:=Yn [(58,.own YA (Xz 80))]
theorem d2d{G:PV->Prop}(E:Xc)(n:Nd)(ks:List Tm)(h:(YA [(.pv (.agg [(.int .i64 (Nd.kind n)),(.int .i64 (Nd.line n)),(.str (Str.s (Nd.name n))),(.int .i64 (Nd.num n)),(.str (Str.s (Nd.elem n))),(.sl 1 false (List.map enc (Nd.dims n))),(.sl 1 false (List.map enc (Nd.data n))),(.sl 2 false (List.map enc (Nd.sizes n))),(.sl 1 false (List.map enc (Nd.ranks n))),(.sl 10 false (List.map enc ks))]))] [])=true∧(E 0 ⟨ZK 11 0 [(3,(.ptr 0 0)),(5,(.fn 80 [] [(.ptr 1 0)])),(8,.undef),(9,.undef)],[(.obj (.box [(.pv (.int .i64 0))])),(.obj (.box (Ym n ks)))]⟩ (fun x S'=>Kg Qr E 0 (Zb Kj G) Hm 0 x S'))):ZC Qr E 0 (Zb Kj G) (.inl Hm) [] (ZL 11 [.agg [enc n.kind,enc n.line,enc n.name,enc n.num,enc n.elem,enc n.dims,enc n.data,enc n.sizes,enc n.ranks,enc ks]]):=ZC.mp (.req (.keep (.nil))) h
theorem c1q{G:PV->Prop}(E:Xc)(n:Nd)(ks:List Tm)(c:Int)(h:G ((.int .i64 c))):Kg Qr E 0 (Zb Kj G) Hm 0 .normal ⟨ZK 11 0 [(3,.ptr 0 0)],[.obj (.box [.pv (.int .i64 c)])]⟩:=ZC.mp (.nil) h
def Hf:IC:=.skip
noncomputable def b2n:ZA:=Yn [(58,.own YA (Xz 80))]
theorem c3o{G:Zu->Prop}(E:Xc)(n:Nd)(ks:List Tm)(c:Int)(v:Int)(h:E 99 ⟨ZK 11 0 [(3,(.ptr 0 0))],[(.obj (.box [(.pv (.int .i64 c))]))]⟩ (fun x S'=>Kg b2n E 1 (fun st=>G st.heap) Hf 99 x S')):ZC b2n E 1 (fun st=>G st.heap) (.inl Hf) [.seq (.ext 99 [3])] ⟨ZK 11 0 [(3,.ptr 0 0),(6,.pv (.agg [enc n.kind,enc n.line,enc n.name,enc n.num,enc n.elem,enc n.dims,enc n.data,enc n.sizes,enc n.ranks,enc ks])),(7,.pv (.int .i64 v))],[.obj (.box [.pv (.int .i64 c)])]⟩:=ZC.mh (.nil) h
def H8:IC:=(.block 1 (.reg [Zw 8 (DF [(.int .i64)] (.t 3)) 0,Zw 9 (QQ .add (.t 8) (Wx 1)) 0,Rh (.store 1 (.t 3) (.t 9)) 0] none))
noncomputable def b2k:ZA:=Yn [(58,.own YA (Xz 80))]
theorem b9h{G:Zu->Prop}(E:Xc)(n:Nd)(ks:List Tm)(c:Int)(v:Int)(h:E 99 ⟨ZK 11 0 [],[(.obj (.box [(.pv (.int .i64 (IntKind.wrap IntKind.i64 (c+1))))]))]⟩ (fun x S'=>Kg b2k E 1 (fun st=>G st.heap) H8 99 x S')):ZC b2k E 1 (fun st=>G st.heap) (.inl H8) [.seq (.ext 99 [])] ⟨ZK 11 0 [(3,.ptr 0 0)],[.obj (.box [.pv (.int .i64 c)])]⟩:=ZC.mh (.lit (.nil)) h
noncomputable def J7:IC:=icx U2 Proofs.Tryz.f27
def Kn:List IRes:=[(.tmp 2)]
abbrev c3a:Nat:=14
noncomputable def QH:ZA:=Yn [(58,.own YA (Xz 80))]
theorem c9p{G:PV->Prop}(E:Xc)(n:Nd)(ks:List Tm)(h:(YA [(.pv (.agg [(.int .i64 (Nd.kind n)),(.int .i64 (Nd.line n)),(.str (Str.s (Nd.name n))),(.int .i64 (Nd.num n)),(.str (Str.s (Nd.elem n))),(.sl 1 false (List.map enc (Nd.dims n))),(.sl 1 false (List.map enc (Nd.data n))),(.sl 2 false (List.map enc (Nd.sizes n))),(.sl 1 false (List.map enc (Nd.ranks n))),(.sl 10 false (List.map enc ks))]))] [])=true∧(E 0 ⟨ZK 14 0 [(3,(.ptr 0 0)),(5,.undef),(7,(.fn 80 [] [(.ptr 1 0)])),(9,.undef),(10,.undef),(11,.undef),(12,.undef)],[(.obj (.box [(.pv (.int .i64 0))])),(.obj (.box (Ym n ks)))]⟩ (fun x S'=>Kg QH E 0 (Zb Kn G) J7 0 x S'))):ZC QH E 0 (Zb Kn G) (.inl J7) [] (ZL 14 [.agg [enc n.kind,enc n.line,enc n.name,enc n.num,enc n.elem,enc n.dims,enc n.data,enc n.sizes,enc n.ranks,enc ks]]):=ZC.mp (.req (.keep (.nil))) h
theorem b9g{G:PV->Prop}(E:Xc)(n:Nd)(ks:List Tm)(c:Int)(h:G ((.int .i64 c))):Kg QH E 0 (Zb Kn G) J7 0 .normal ⟨ZK 14 0 [(3,.ptr 0 0)],[.obj (.box [.pv (.int .i64 c)])]⟩:=ZC.mp (.nil) h
def JN:IC:=(.reg [Zw 5 (YX 9) 0] none)
noncomputable def b1x:ZA:=Yn [(58,.own YA (Xz 80))]
theorem c5d{G:Zu->Prop}(E:Xc)(n:Nd)(ks:List Tm)(c:Int)(v:Int)(h:E 99 ⟨ZK 14 0 [(3,(.ptr 0 0)),(5,(.pv (.int .i64 v)))],[(.obj (.box [(.pv (.int .i64 c))]))]⟩ (fun x S'=>Kg b1x E 1 (fun st=>G st.heap) JN 99 x S')):ZC b1x E 1 (fun st=>G st.heap) (.inl JN) [.seq (.ext 99 [3,5])] ⟨ZK 14 0 [(3,.ptr 0 0),(8,.pv (.agg [enc n.kind,enc n.line,enc n.name,enc n.num,enc n.elem,enc n.dims,enc n.data,enc n.sizes,enc n.ranks,enc ks])),(9,.pv (.int .i64 v))],[.obj (.box [.pv (.int .i64 c)])]⟩:=ZC.mh (.nil) h
def Ga:IC:=(.block 1 (.reg [Zw 10 (DF [(.int .i64)] (.t 3)) 0,Zw 11 (YX 5) 0,Zw 12 (.mm true (.t 10) (.t 11)) 0,Rh (.store 1 (.t 3) (.t 12)) 0] none))
noncomputable def b6m:ZA:=Yn [(58,.own YA (Xz 80))]
theorem b9s{G:Zu->Prop}(E:Xc)(n:Nd)(ks:List Tm)(c:Int)(v:Int)(h:E 99 ⟨ZK 14 0 [],[(.obj (.box [(.pv (.int .i64 (if true=true then if v>c then v else c else if v<c then v else c)))]))]⟩ (fun x S'=>Kg b6m E 1 (fun st=>G st.heap) Ga 99 x S')):ZC b6m E 1 (fun st=>G st.heap) (.inl Ga) [.seq (.ext 99 [])] ⟨ZK 14 0 [(3,.ptr 0 0),(5,.pv (.int .i64 v))],[.obj (.box [.pv (.int .i64 c)])]⟩:=ZC.mh (.nil) h
noncomputable def JL:IC:=icx U2 Proofs.Tryz.f32
def Km:List IRes:=[(.tmp 2)]
abbrev c1s:Nat:=29
noncomputable def Qe:ZA:=Yn [(58,.own YA (Xz 80)),(57,.own Qt (Kl 79)),(56,.own (Vm 79) Ui)]
theorem d2j{G:PV->Prop}(E:Xc)(n:Nd)(ks:List Tm)(h:(YA [(.pv (.agg [(.int .i64 (Nd.kind n)),(.int .i64 (Nd.line n)),(.str (Str.s (Nd.name n))),(.int .i64 (Nd.num n)),(.str (Str.s (Nd.elem n))),(.sl 1 false (List.map enc (Nd.dims n))),(.sl 1 false (List.map enc (Nd.data n))),(.sl 2 false (List.map enc (Nd.sizes n))),(.sl 1 false (List.map enc (Nd.ranks n))),(.sl 10 false (List.map enc ks))]))] [])=true∧(E 0 ⟨ZK 29 0 [(3,(.ptr 0 0)),(4,.undef),(7,(.fn 80 [] [(.ptr 1 0)])),(8,.undef),(10,.undef),(11,.undef),(12,.undef),(13,.undef),(14,.undef),(15,.undef),(16,.undef),(17,.undef),(18,.undef),(19,.undef),(20,.undef),(21,.undef),(22,.undef),(23,.undef),(24,.undef),(25,.undef)],[(.obj (.box [(.map 2)])),(.obj (.box (Ym n ks))),(.obj (.map []))]⟩ (fun x S'=>Kg Qe E 0 (Zb Km G) JL 0 x S'))):ZC Qe E 0 (Zb Km G) (.inl JL) [] (ZL 29 [.agg [enc n.kind,enc n.line,enc n.name,enc n.num,enc n.elem,enc n.dims,enc n.data,enc n.sizes,enc n.ranks,enc ks]]):=ZC.mp (.req (.keep (.nil))) h
theorem c3k{G:PV->Prop}(E:Xc)(n:Nd)(ks:List Tm)(m:List Str)(h:(Vm 79 [(.fn 79 [] [(.ptr 0 0)])] [(.box [(.map 1)]),(.map (Z7 m))])=true∧(G ((.sl 1 false (List.map PV.str (Xd (List.map Vw (Z7 m)))))))):Kg Qe E 0 (Zb Km G) JL 0 .normal ⟨ZK 29 0 [(3,.ptr 0 0)],[.obj (.box [.map 1]),.obj (.map (Z7 m))]⟩:=ZC.mp (.lit (.keep (.req (.keep (.nil))))) h
def JX:IC:=(.reg [Zw 4 (.alloc (.agg [(.int .i64 0),(.int .i64 0),(.str []),(.int .i64 0),(.str []),(.sl 0 true []),(.sl 0 true []),(.sl 0 true []),(.sl 0 true []),(.sl 0 true [])])) 0,Rh (.store 10 (.t 4) (.t 8)) 1] none)
noncomputable def b3g:ZA:=Yn [(58,.own YA (Xz 80)),(57,.own Qt (Kl 79)),(56,.own (Vm 79) Ui)]
theorem c4l{G:Zu->Prop}(E:Xc)(n:Nd)(ks:List Tm)(m:List Str)(v:Int)(h:E 99 ⟨ZK 29 0 [(3,(.ptr 0 0)),(4,(.ptr 2 0))],[(.obj (.box [(.map 1)])),(.obj (.map (Z7 m))),(.obj (.box (Ym n ks)))]⟩ (fun x S'=>Kg b3g E 2 (fun st=>G st.heap) JX 99 x S')):ZC b3g E 2 (fun st=>G st.heap) (.inl JX) [.seq (.ext 99 [3,4])] ⟨ZK 29 0 [(3,.ptr 0 0),(8,.pv (.agg [enc n.kind,enc n.line,enc n.name,enc n.num,enc n.elem,enc n.dims,enc n.data,enc n.sizes,enc n.ranks,enc ks])),(9,.pv (.int .i64 v))],[.obj (.box [.map 1]),.obj (.map (Z7 m))]⟩:=ZC.mh (.nil) h
def Uj:IC:=(.block 1 (XY [Zw 10 (.faddr 0 (.t 4)) 0,Zw 11 (DF [(.int .i64)] (.t 10)) 0,Zw 12 (QQ .eql (.t 11) (Wx 6)) 0,Zw 13 (YX 12) 0,AP 14 (.faddr 0 (.t 4)) 0 13,AP 15 (DF [(.int .i64)] (.t 14)) 0 13,AP 16 (QQ .eql (.t 15) (Wx 8)) 0 13,Zw 17 (.pick (.t 13) (.c (.bool true)) (.t 16)) 0,Zw 18 (YX 17) 0,AP 19 (.faddr 0 (.t 4)) 0 18,AP 20 (DF [(.int .i64)] (.t 19)) 0 18,AP 21 (QQ .eql (.t 20) (Wx 9)) 0 18,Zw 22 (.pick (.t 18) (.c (.bool true)) (.t 21)) 0] (.cond (.t 22) (.reg [Zw 23 (.load false [.any] (.t 3)) 0,Zw 24 (.faddr 2 (.t 4)) 0,Zw 25 (.load false [.str] (.t 24)) 0,Rh (.mapupd true (.t 23) (.t 25) (.c (.bool true))) 0] none) .skip)))
noncomputable def AO:ZA:=Yn [(58,.own YA (Xz 80)),(57,.own Qt (Kl 79)),(56,.own (Vm 79) Ui)]
theorem c0e{G:Zu->Prop}(E:Xc)(n:Nd)(ks:List Tm)(m:List Str)(v:Int)(h:if (Nd.kind n==6)=true then(Uh (enc (Nd.name n)) (PV.bool true) (Z7 m))=true∧(E 99 ⟨ZK 29 0 [],[(.obj (.box [(.map 1)])),(.obj (.map (WA (enc (Nd.name n)) (PV.bool true) (Z7 m)))),(.obj (.box (Ym n ks)))]⟩ (fun x S'=>Kg AO E 3 (fun st=>G st.heap) Uj 99 x S'))else(if (Nd.kind n==8)=true then(Uh (enc (Nd.name n)) (PV.bool true) (Z7 m))=true∧(E 99 ⟨ZK 29 0 [],[(.obj (.box [(.map 1)])),(.obj (.map (WA (enc (Nd.name n)) (PV.bool true) (Z7 m)))),(.obj (.box (Ym n ks)))]⟩ (fun x S'=>Kg AO E 3 (fun st=>G st.heap) Uj 99 x S'))else(if (Nd.kind n==9)=true then(Uh (enc (Nd.name n)) (PV.bool true) (Z7 m))=true∧(E 99 ⟨ZK 29 0 [],[(.obj (.box [(.map 1)])),(.obj (.map (WA (enc (Nd.name n)) (PV.bool true) (Z7 m)))),(.obj (.box (Ym n ks)))]⟩ (fun x S'=>Kg AO E 3 (fun st=>G st.heap) Uj 99 x S'))else(E 99 ⟨ZK 29 0 [],[(.obj (.box [(.map 1)])),(.obj (.map (Z7 m))),(.obj (.box (Ym n ks)))]⟩ (fun x S'=>Kg AO E 3 (fun st=>G st.heap) Uj 99 x S'))))):ZC AO E 3 (fun st=>G st.heap) (.inl Uj) [.seq (.ext 99 [])] ⟨ZK 29 0 [(3,.ptr 0 0),(4,.ptr 2 0)],[.obj (.box [.map 1]),.obj (.map (Z7 m)),.obj (.box [.pv (enc n.kind),.pv (enc n.line),.pv (enc n.name),.pv (enc n.num),.pv (enc n.elem),.pv (enc n.dims),.pv (enc n.data),.pv (enc n.sizes),.pv (enc n.ranks),.pv (enc ks)])]⟩:=ZC.mh (dm [] 41 0x10024222201222200642222012222222200a42) h
end Go.Pl
namespace Go.Pl
open Go.RowKit
open Enc (enc dec is)
open EncL (encL decL isL)
set_option maxRecDepth 100000
abbrev d6w(ps:List PV)(k:Bool->Prop):Prop:=WN (fun(x:Tm×Unit)=>nW (Prod.fst x)) (fun(x:Tm×Unit)=>Q5 (Prod.fst x)) ps k
noncomputable def RF:IC:=XU Proofs.Tryz.f58
def Np:List IRes:=[(.tmp 2)]
abbrev b9p:Nat:=4
def Oz:ZA:=Yn []
theorem d1w{G:AV×List AObj×List AObj->Prop}(n:Nd)(ks:List Tm)(h:G (((.fn 80 [] [(.ptr 0 0)]),([],[(.box [(.pv (.int .i64 (Nd.kind n))),(.pv (.int .i64 (Nd.line n))),(.pv (.str (Str.s (Nd.name n)))),(.pv (.int .i64 (Nd.num n))),(.pv (.str (Str.s (Nd.elem n)))),(.pv (.sl 1 false (List.map enc (Nd.dims n)))),(.pv (.sl 1 false (List.map enc (Nd.data n)))),(.pv (.sl 2 false (List.map enc (Nd.sizes n)))),(.pv (.sl 1 false (List.map enc (Nd.ranks n)))),(.pv (.sl 10 false (List.map enc ks)))])])))):Zc Oz 0 (Yc 0 Np G) RF [] (Wq 4 [.pv (.agg [enc n.kind,enc n.line,enc n.name,enc n.num,enc n.elem,enc n.dims,enc n.data,enc n.sizes,enc n.ranks,enc ks])] []):=Zc.to (.nil) h
noncomputable def Gz:IC:=icx U2 Proofs.Tryz.f22
def JE:List IRes:=[(.cell false 1 2)]
abbrev d2f:Nat:=23
noncomputable def KY:ZA:=Yn [(58,.own YA (Xz 80)),(59,.pure (preT (fun x:Tm×Unit=>nW x.1)) (Zi (fun x:Tm×Unit=>Q5 x.1)))]
theorem d4h{G:PV->Prop}(E:Xc)(n:Nd)(ks:List Tm)(h:(YA [(.pv (.agg [(.int .i64 (Nd.kind n)),(.int .i64 (Nd.line n)),(.str (Str.s (Nd.name n))),(.int .i64 (Nd.num n)),(.str (Str.s (Nd.elem n))),(.sl 1 false (List.map enc (Nd.dims n))),(.sl 1 false (List.map enc (Nd.data n))),(.sl 2 false (List.map enc (Nd.sizes n))),(.sl 1 false (List.map enc (Nd.ranks n))),(.sl 10 false (List.map enc ks))]))] [])=true∧(E 0 ⟨ZK 23 0 [(2,(.ptr 0 0)),(3,(.ptr 1 0)),(4,.undef),(5,.undef),(7,(.fn 80 [] [(.ptr 2 0)])),(8,.undef),(9,.undef),(10,.undef),(11,.undef),(12,.undef),(13,.undef),(14,.undef),(15,.undef),(16,.undef),(17,.undef),(18,.undef),(19,.undef),(20,.undef),(21,.undef),(22,.undef)],[(.obj (.box [(.pv (.bool false))])),(.obj (.box [(.pv (.int .i64 0))])),(.obj (.box [(.pv (.int .i64 (Nd.kind n))),(.pv (.int .i64 (Nd.line n))),(.pv (.str (Str.s (Nd.name n)))),(.pv (.int .i64 (Nd.num n))),(.pv (.str (Str.s (Nd.elem n)))),(.pv (.sl 1 false (List.map enc (Nd.dims n)))),(.pv (.sl 1 false (List.map enc (Nd.data n)))),(.pv (.sl 2 false (List.map enc (Nd.sizes n)))),(.pv (.sl 1 false (List.map enc (Nd.ranks n)))),(.pv (.sl 10 false (List.map enc ks)))]))]⟩ (fun x S'=>Kg KY E 0 (Zb JE G) Gz 0 x S'))):ZC KY E 0 (Zb JE G) (.inl Gz) [] (ZL 23 [.agg [enc n.kind,enc n.line,enc n.name,enc n.num,enc n.elem,enc n.dims,enc n.data,enc n.sizes,enc n.ranks,enc ks]]):=ZC.mp (.req (.keep (.nil))) h
theorem d0r{G:PV->Prop}(E:Xc)(n:Nd)(ks:List Tm)(c:Int)(h:G ((.bool true))):Kg KY E 0 (Zb JE G) Gz 0 .normal ⟨ZK 23 0 [(2,.ptr 0 0),(3,.ptr 1 0)],[.obj (.box [.pv (.bool false)]),.obj (.box [.pv (.int .i64 c)])]⟩:=ZC.mp (.nil) h
theorem c1i{G:PV->Prop}(E:Xc)(n:Nd)(ks:List Tm)(c:Int)(rest:List Slot)(h:G ((.bool false))):Kg KY E 0 (Zb JE G) Gz 0 .ret ⟨ZK 23 0 [(2,.ptr 0 0),(3,.ptr 1 0)],(.obj (.box [.pv (.bool false)]):: .obj (.box [.pv (.int .i64 c)])::rest)⟩:=ZC.mp (.nil) h
def BJ:IC:=(XY [Zw 4 (.alloc (.agg [(.int .i64 0),(.int .i64 0),(.str []),(.int .i64 0),(.str []),(.sl 0 true []),(.sl 0 true []),(.sl 0 true []),(.sl 0 true []),(.sl 0 true [])])) 0,Rh (.store 10 (.t 4) (.t 8)) 1] (.reg [Zw 5 (YX 9) 0] none))
noncomputable def c7w:ZA:=Yn [(58,.own YA (Xz 80)),(59,.pure (preT (fun x:Tm×Unit=>nW x.1)) (Zi (fun x:Tm×Unit=>Q5 x.1)))]
theorem d3f{G:Zu->Prop}(E:Xc)(n:Nd)(ks:List Tm)(c v:Int)(h:E 99 ⟨ZK 23 0 [(2,(.ptr 0 0)),(3,(.ptr 1 0)),(4,(.ptr 2 0)),(5,(.pv (.int .i64 v)))],[(.obj (.box [(.pv (.bool false))])),(.obj (.box [(.pv (.int .i64 c))])),(.obj (.box [(.pv (.int .i64 (Nd.kind n))),(.pv (.int .i64 (Nd.line n))),(.pv (.str (Str.s (Nd.name n)))),(.pv (.int .i64 (Nd.num n))),(.pv (.str (Str.s (Nd.elem n)))),(.pv (.sl 1 false (List.map enc (Nd.dims n)))),(.pv (.sl 1 false (List.map enc (Nd.data n)))),(.pv (.sl 2 false (List.map enc (Nd.sizes n)))),(.pv (.sl 1 false (List.map enc (Nd.ranks n)))),(.pv (.sl 10 false (List.map enc ks)))]))]⟩ (fun x S'=>Kg c7w E 2 (fun st=>G st.heap) BJ 99 x S')):ZC c7w E 2 (fun st=>G st.heap) (.inl BJ) [.seq (.ext 99 [2,3,4,5])] ⟨ZK 23 0 [(2,.ptr 0 0),(3,.ptr 1 0),(8,.pv (.agg [enc n.kind,enc n.line,enc n.name,enc n.num,enc n.elem,enc n.dims,enc n.data,enc n.sizes,enc n.ranks,enc ks])),(9,.pv (.int .i64 v))],[.obj (.box [.pv (.bool false)]),.obj (.box [.pv (.int .i64 c)])]⟩:=ZC.mh (.nil) h
def Bd:IC:=(.block 1 (XY [Zw 10 (DF [(.int .i64)] (.t 3)) 0,Zw 11 (QQ .add (.t 10) (Wx 1)) 0,Rh (.store 1 (.t 3) (.t 11)) 0] (XY [Zw 12 (DF [(.int .i64)] (.t 3)) 0,Zw 13 (QQ .gtr (.t 12) (Wx 400)) 0,Zw 14 (YX 13) 0,AP 15 (YX 5) 0 14,AP 16 (QQ .gtr (.t 15) (Wx 40)) 0 14,Zw 17 (.pick (.t 14) (.c (.bool true)) (.t 16)) 0,Zw 18 (YX 17) 0,AP 19 (.load true [(.int .i64),(.int .i64),.str,(.int .i64),.str,(.sl 1),(.sl 1),(.sl 2),(.sl 1),(.sl 10)] (.t 4)) 0 18,AP 20 (c'' 59 [(.t 19)]) 0 18,AP 21 (.un .not (.t 20)) 2 18,Zw 22 (.pick (.t 18) (.c (.bool true)) (.t 21)) 2] (.cond (.t 22) (XY [Rh (.store 1 (.t 2) (.c (.bool false))) 0] .ret) .skip))))
noncomputable def c6y:ZA:=Yn [(58,.own YA (Xz 80)),(59,.pure (preT (fun x:Tm×Unit=>nW x.1)) (Zi (fun x:Tm×Unit=>Q5 x.1)))]
theorem c8b{G:Zu->Prop}(E:Xc)(n:Nd)(ks:List Tm)(c v:Int)(h:if (decide (IntKind.wrap IntKind.i64 (c+1)>400))=true then G ([(.obj (.box [(.pv (.bool false))])),(.obj (.box [(.pv (.int .i64 (IntKind.wrap IntKind.i64 (c+1))))])),(.obj (.box [(.pv (.int .i64 (Nd.kind n))),(.pv (.int .i64 (Nd.line n))),(.pv (.str (Str.s (Nd.name n)))),(.pv (.int .i64 (Nd.num n))),(.pv (.str (Str.s (Nd.elem n)))),(.pv (.sl 1 false (List.map enc (Nd.dims n)))),(.pv (.sl 1 false (List.map enc (Nd.data n)))),(.pv (.sl 2 false (List.map enc (Nd.sizes n)))),(.pv (.sl 1 false (List.map enc (Nd.ranks n)))),(.pv (.sl 10 false (List.map enc ks)))])),.fresh,.fresh])else(if (decide (v>40))=true then G ([(.obj (.box [(.pv (.bool false))])),(.obj (.box [(.pv (.int .i64 (IntKind.wrap IntKind.i64 (c+1))))])),(.obj (.box [(.pv (.int .i64 (Nd.kind n))),(.pv (.int .i64 (Nd.line n))),(.pv (.str (Str.s (Nd.name n)))),(.pv (.int .i64 (Nd.num n))),(.pv (.str (Str.s (Nd.elem n)))),(.pv (.sl 1 false (List.map enc (Nd.dims n)))),(.pv (.sl 1 false (List.map enc (Nd.data n)))),(.pv (.sl 2 false (List.map enc (Nd.sizes n)))),(.pv (.sl 1 false (List.map enc (Nd.ranks n)))),(.pv (.sl 10 false (List.map enc ks)))])),.fresh,.fresh])else((d6w [(.agg [(.int .i64 (Nd.kind n)),(.int .i64 (Nd.line n)),(.str (Str.s (Nd.name n))),(.int .i64 (Nd.num n)),(.str (Str.s (Nd.elem n))),(.sl 1 false (List.map enc (Nd.dims n))),(.sl 1 false (List.map enc (Nd.data n))),(.sl 2 false (List.map enc (Nd.sizes n))),(.sl 1 false (List.map enc (Nd.ranks n))),(.sl 10 false (List.map enc ks))])] fun y0=>(if (!y0)=true then G ([(.obj (.box [(.pv (.bool false))])),(.obj (.box [(.pv (.int .i64 (IntKind.wrap IntKind.i64 (c+1))))])),(.obj (.box [(.pv (.int .i64 (Nd.kind n))),(.pv (.int .i64 (Nd.line n))),(.pv (.str (Str.s (Nd.name n)))),(.pv (.int .i64 (Nd.num n))),(.pv (.str (Str.s (Nd.elem n)))),(.pv (.sl 1 false (List.map enc (Nd.dims n)))),(.pv (.sl 1 false (List.map enc (Nd.data n)))),(.pv (.sl 2 false (List.map enc (Nd.sizes n)))),(.pv (.sl 1 false (List.map enc (Nd.ranks n)))),(.pv (.sl 10 false (List.map enc ks)))])),.fresh,.fresh])else(E 99 ⟨ZK 23 0 [],[(.obj (.box [(.pv (.bool false))])),(.obj (.box [(.pv (.int .i64 (IntKind.wrap IntKind.i64 (c+1))))])),(.obj (.box [(.pv (.int .i64 (Nd.kind n))),(.pv (.int .i64 (Nd.line n))),(.pv (.str (Str.s (Nd.name n)))),(.pv (.int .i64 (Nd.num n))),(.pv (.str (Str.s (Nd.elem n)))),(.pv (.sl 1 false (List.map enc (Nd.dims n)))),(.pv (.sl 1 false (List.map enc (Nd.data n)))),(.pv (.sl 2 false (List.map enc (Nd.sizes n)))),(.pv (.sl 1 false (List.map enc (Nd.ranks n)))),(.pv (.sl 10 false (List.map enc ks)))]))]⟩ (fun x S'=>Kg c6y E 3 (fun st=>G st.heap) Bd 99 x S'))))))):ZC c6y E 3 (fun st=>G st.heap) (.inl Bd) [.seq (.ext 99 [])] ⟨ZK 23 0 [(2,.ptr 0 0),(3,.ptr 1 0),(4,.ptr 2 0),(5,.pv (.int .i64 v))],[.obj (.box [.pv (.bool false)]),.obj (.box [.pv (.int .i64 c)]),.obj (.box [.pv (enc n.kind),.pv (enc n.line),.pv (enc n.name),.pv (enc n.num),.pv (enc n.elem),.pv (enc n.dims),.pv (enc n.data),.pv (enc n.sizes),.pv (enc n.ranks),.pv (enc ks)])]⟩:=ZC.mh (dm [dv Bool] 38 0x142251202222005422202222222008422) h
end Go.Pl
namespace Go.Pl
open Go.RowKit
open Enc (enc dec is)
open EncL (encL decL isL)
theorem b9t{s:Str}:(s=⟨[]⟩) ↔ s.s=[]:=by cases s;simp
theorem c0j(n:Nd):YJ n 0 0=CV n:=by
 unfold YJ CV
 cases n.sizes <;> cases n.ranks <;> simp <;> omega
theorem c3u(k:Nat):((k:Int)=1) ↔ k=1:=by omega
theorem c5r(k:Nat):((k:Int)=2) ↔ k=2:=by omega
theorem c1k(k:Nat):((1:Int)<=(k:Int)) ↔ 1<=k:=by omega
theorem b6w(k:Nat):((k:Int)<=16) ↔ k<=16:=by omega
theorem b0u(n:Nd):YJ n 1 0=(decide (n.sizes.length<=1)&&n.sizes.all ZG&&n.ranks.isEmpty):=by
 unfold YJ
 rw[show decide ((n.sizes.length:Int)<=1)=decide (n.sizes.length<=1)from decide_eq_decide.2 (by omega),show decide ((n.ranks.length:Int)<=0)=n.ranks.isEmpty by cases n.ranks <;> simp <;> omega,Bool.and_assoc,Bool.and_assoc,Bool.and_comm n.ranks.isEmpty]
set_option maxHeartbeats 2000000 in
theorem a6s: ∀ x:Tm×Unit,nW x.1=true->Zc PX 0 (Zb Ad (Zn (Q5 x.1))) FQ [] (ZL b6x (encL x)):=by
 rintro⟨⟨n,ks⟩,⟨⟩⟩ ht
 rw[<- WE]
 show Zc PX 0 (Zb Ad (Zn (VP n ks.length))) _ _ _
 have hnm:decide (n.name.s.length<=1048576)=true:=decide_eq_true (SE ht).name
 have har:Ci (Cg n)=true:=a8r ht
 have leaf : ∀ b:Bool,VP n ks.length=b->Zn (VP n ks.length) (.bool b):=fun b h=>Zl h.symm
 refine c1r n ks ?_
 refine YV (fun h1=>leaf _ ?_) fun h1=>YV (fun h2=>leaf _ ?_) fun h2=> ?_
 ·unfold VP;rw[decide_eq_false (by omega)];rfl
 ·unfold VP;rw[decide_eq_false (show ¬ n.line<=10000 by omega)];simp
 have hk:VP n ks.length=Xx n ks.length:=by
  unfold VP;rw[decide_eq_true (by omega),decide_eq_true (show n.line<=10000 by omega)];simp
 rw[hk]at leaf ⊢
 repeat' (first
  | refine XA (fun h=> ?_) (fun h=> ?_)
  | refine YV (fun h=> ?_) (fun h=> ?_)
  | refine XW (fun h=> ?_) (fun h=> ?_)
  | refine⟨Ze (n.name,()) rfl hnm,Zf (n.name,()) rfl ?_⟩
  | refine⟨Ze (.mk n ks,0,0,()) (VO n ks 0 0) ht,Zf (.mk n ks,0,0,()) (VO n ks 0 0) ?_⟩
  | refine⟨Ze (.mk n ks,1,0,()) (VO n ks 1 0) ht,Zf (.mk n ks,1,0,()) (VO n ks 1 0) ?_⟩
  | refine⟨Ze (.mk n ks,()) (WE n ks) ht,Zf (.mk n ks,()) (WE n ks) ?_⟩
  | refine⟨Ze (Cg n,()) rfl har,Zf (Cg n,()) rfl ?_⟩
  | refine leaf _ ?_)
 all_goals clear ht hnm har leaf hk
 all_goals (unfold Xx Ay;simp_all[b9t,Tm.nd,Tm.ks,c0j,Cg,c3u,c5r,c1k,b6w,b0u])
 intro hk
 omega
end Go.Pl
namespace Go.Proofs.YtgdebdgkofkeeaaGreatDoor
open Go.RowKit Go.Pl
open Enc (enc dec is)
open EncL (encL decL isL)
set_option maxRecDepth 100000
def ndC(n:Nd)(ks:List Tm):List PV:=[enc n.kind,enc n.line,enc n.name,enc n.num,enc n.elem,enc n.dims,enc n.data,enc n.sizes,enc n.ranks,enc ks]
abbrev wkT:ZA:=Yn []
def eW(L:List (Nat×AV)):List AV:=ZK 28 0 L
def wk0(n:Nd)(ks:List Tm)(lev:Int)(l:Nat):List (Nat×AV):=[(0,.pv (.agg (ndC n ks))),(1,.pv (.int .i64 lev)),(2,.yld l)]
def wk1(n:Nd)(ks:List Tm)(lev:Int)(l:Nat):List (Nat×AV):=wk0 n ks lev l++[(3,.ptr 0 0),(6,.pv (.bool false))]
def wk2(n:Nd)(ks:List Tm)(lev:Int)(l:Nat):List (Nat×AV):=wk1 n ks lev l++[(9,.yld l),(10,.pv (.agg (ndC n ks))),(11,.pv (.int .i64 lev))]
def wk3(n:Nd)(ks:List Tm)(lev:Int)(l:Nat)(b:Bool):List (Nat×AV):=wk2 n ks lev l++[(12,.pv (.bool b))]
def wk4(n:Nd)(ks:List Tm)(lev:Int)(l:Nat)(b:Bool):List (Nat×AV):=wk3 n ks lev l b++[(13,.pv (.bool (!b)))]
def wk5(n:Nd)(ks:List Tm)(lev:Int)(l:Nat):List (Nat×AV):=wk4 n ks lev l true++[(14,.ptr 0 9),(15,.pv (enc ks)),(16,.pv (.int .i64 (ks.map enc).length)),(17,.pv (.int .i64 0))]
def wl0(ks:List Tm)(lev:Int)(l:Nat)(i:Int):List (Nat×AV):=[(17,.pv (.int .i64 i)),(16,.pv (.int .i64 (ks.map enc).length)),(15,.pv (enc ks)),(1,.pv (.int .i64 lev)),(2,.yld l)]
def wl1(ks:List Tm)(lev:Int)(l:Nat)(i:Int):List (Nat×AV):=wl0 ks lev l i++[(18,.pv (.bool (decide (i<((ks.map enc).length:Int)))))]
def wl5(ks:List Tm)(lev:Int)(l:Nat)(i:Int)(n:Nd)(kk:List Tm):List (Nat×AV):=wl1 ks lev l i++[(19,.pv (.rptr (ndC n kk))),(20,.pv (.agg (ndC n kk))),(8,.ptr 0 0)]
def wl6(ks:List Tm)(lev:Int)(l:Nat)(i:Int)(n:Nd)(kk:List Tm):List (Nat×AV):=wl5 ks lev l i n kk++[(21,.pv (.agg (ndC n kk))),(22,.pv (.int .i64 lev)),(23,.pv (.int .i64 (IntKind.i64.wrap (lev+1)))),(24,.yld l)]
def wl7(ks:List Tm)(lev:Int)(l:Nat)(i:Int)(b:Bool):List (Nat×AV):=wl0 ks lev l i++[(25,.pv (.bool b))]
def wl8(ks:List Tm)(lev:Int)(l:Nat)(i:Int)(b:Bool):List (Nat×AV):=wl7 ks lev l i b++[(26,.pv (.bool (!b)))]
def wl9(ks:List Tm)(lev:Int)(l:Nat)(i:Int):List (Nat×AV):=[(27,.pv (.int .i64 (IntKind.i64.wrap (i+1)))),(17,.pv (.int .i64 (IntKind.i64.wrap (i+1)))),(16,.pv (.int .i64 (ks.map enc).length)),(15,.pv (enc ks)),(1,.pv (.int .i64 lev)),(2,.yld l)]
def bx(n:Nd)(ks:List Tm):Zu:=[.obj (.box ((ndC n ks).map .pv))]
theorem OO{T:ZA}{base d L sz:Nat}{env:List AV}{σ:Zu}{x i:IOp}{t:Bool}{xs:List PV}{n:Nat}{k:IntKind}{p:PV}{ps:List PI}(hx:ev env x = .pv (.sl sz t xs))(hi:ev env i = .pv (.int k (n:Int)))(hp:xs[n]? = some p):
  UX T base (⟨some d,.iaddr sz x i,L,none⟩::ps) ⟨env,σ⟩=UX T base ps ⟨env.set d (.pv (.rptr p.cells)),σ⟩:=by
 have hlt:n<xs.length:=(List.getElem?_eq_some_iff.1 hp).1
 have hg:xs[n]=p:=(List.getElem?_eq_some_iff.1 hp).2
 have h:(Y7 T (base+L) env (.iaddr sz x i)).run σ=some (.pv (.rptr p.cells),σ):=by
  simp only[Y7,YF,hx,hi]
  simp[HM.run,hlt,hg]
 show(HV T base ⟨some d,.iaddr sz x i,L,none⟩ ⟨env,σ⟩).bind (UX T base ps)=_
 simp only[HV,YM,h,Option.map_some,Option.bind_some,Z6]
set_option maxHeartbeats 1000000 in
theorem c9i: ∃ (o0 o1 o2 o3 o4 o5 o6 o7 o8 o9:Array Oper) (a1 b1 a6 b6:List Oper) (y c:Oper) (t1 t2:Array TypeId),
  Tryz.f81.body=some ((Code.region 0 o0 false).seq (((Code.region 1 o1 false).seq (Code.cond (.tmp 13) ((Code.region 2 o2 false).seq .ret) .skip)).seq (((Code.region 3 o3 false).seq (Code.block 0
   (Code.loop ((Code.region 4 o4 false).seq ((Code.cond (.tmp 18) .skip (.exit 0)).seq ((Code.block 1 ((Code.region 5 o5 false).seq ((Code.region 6 o6 false).seq (Code.cond (.tmp 26) ((Code.region 7 o7 false).seq .ret) .skip)))).seq (Code.region 8 o8 false))))))).seq ((Code.region 9 o9 false).seq .ret)))) ∧
  o1.toList=a1++y::b1∧y.op = .call {callee:=.value (.tmp 9),args:=#[.tmp 10,.tmp 11],argTypes:=t1}∧y.guard=none∧y.dst=some 12 ∧
  o6.toList=a6++c::b6∧c.op = .call {callee:=.value (.func 81),args:=#[.tmp 21,.tmp 23,.tmp 24],argTypes:=t2}∧c.guard=none∧c.dst=some 25 ∧
  (∀ n ks lev l,Qh Tryz.prog wkT o0 o0.toList ⟨eW (wk0 n ks lev l),[]⟩=some ⟨eW (wk1 n ks lev l),bx n ks⟩) ∧
  (∀ n ks lev l,Qh Tryz.prog wkT o1 a1 ⟨eW (wk1 n ks lev l),bx n ks⟩=some ⟨eW (wk2 n ks lev l),bx n ks⟩) ∧
  (∀ n ks lev l b,Qh Tryz.prog wkT o1 b1 ⟨eW (wk3 n ks lev l b),bx n ks⟩=some ⟨eW (wk4 n ks lev l b),bx n ks⟩) ∧
  (∀ L,Qh Tryz.prog wkT o2 o2.toList ⟨eW L,[]⟩=some ⟨(eW L).set 6 (.pv (.bool false)),[]⟩) ∧
  (∀ n ks lev l,Qh Tryz.prog wkT o3 o3.toList ⟨eW (wk4 n ks lev l true),bx n ks⟩=some ⟨eW (wk5 n ks lev l),bx n ks⟩) ∧
  (∀ ks lev l i,Qh Tryz.prog wkT o4 o4.toList ⟨eW (wl0 ks lev l i),[]⟩=some ⟨eW (wl1 ks lev l i),[]⟩) ∧
  (∀ ks lev l (i:Nat) n kk,ks[i]? = some (.mk n kk)->Qh Tryz.prog wkT o5 o5.toList ⟨eW (wl1 ks lev l i),[]⟩=some ⟨eW (wl5 ks lev l i n kk),bx n kk⟩) ∧
  (∀ ks lev l i n kk,Qh Tryz.prog wkT o6 a6 ⟨eW (wl5 ks lev l i n kk),bx n kk⟩=some ⟨eW (wl6 ks lev l i n kk),bx n kk⟩) ∧
  (∀ ks lev l i b,Qh Tryz.prog wkT o6 b6 ⟨eW (wl7 ks lev l i b),[]⟩=some ⟨eW (wl8 ks lev l i b),[]⟩) ∧
  (∀ L,Qh Tryz.prog wkT o7 o7.toList ⟨eW L,[]⟩=some ⟨(eW L).set 6 (.pv (.bool false)),[]⟩) ∧
  (∀ ks lev l i,Qh Tryz.prog wkT o8 o8.toList ⟨eW (wl0 ks lev l i),[]⟩=some ⟨eW (wl9 ks lev l i),[]⟩) ∧
  (∀ L,Qh Tryz.prog wkT o9 o9.toList ⟨eW L,[]⟩=some ⟨(eW L).set 6 (.pv (.bool true)),[]⟩):=by
 refine⟨_,_,_,_,_,_,_,_,_,_,[_,_,_],[_],[_,_,_,_],[_],_,_,_,_,rfl,rfl,rfl,rfl,rfl,rfl,rfl,rfl,rfl,?_,?_,?_,?_,?_,?_,?_,?_,?_,?_,?_,?_⟩
 ·intro n ks lev l;kernel_rfl
 ·intro n ks lev l;kernel_rfl
 ·intro n ks lev l b;kernel_rfl
 ·intro L;kernel_rfl
 ·intro n ks lev l;kernel_rfl
 ·intro ks lev l i;kernel_rfl
 ·intro ks lev l i n kk h
  unfold Qh
  refine(Option.bind_eq_some_iff).2 ⟨_,(show YT _ _ _ _=some [⟨some 19,.iaddr 10 (.t 15) (.t 17),0,none⟩,⟨some 20,.load true [.int .i64,.int .i64,.str,.int .i64,.str,.sl 1,.sl 1,.sl 2,.sl 1,.sl 10] (.t 19),0,none⟩,⟨some 8,.alloc (.agg [.int .i64 0,.int .i64 0,.str [],.int .i64 0,.str [],.sl 0 true [],.sl 0 true [],.sl 0 true [],.sl 0 true [],.sl 0 true []]),0,none⟩,⟨none,.store 10 (.t 8) (.t 20),1,none⟩] by kernel_rfl),?_⟩
  have hk:(ks.map (enc:Tm->PV))[i]? = some (.agg (ndC n kk)):=by
   rw[List.getElem?_map,h,Option.map_some,ZE];rfl
  refine(OO (t:=false) (xs:=ks.map enc) (k:=.i64) (n:=i) rfl rfl hk).trans ?_
  kernel_rfl
 ·intro ks lev l i n kk;kernel_rfl
 ·intro ks lev l i b;kernel_rfl
 ·intro L;kernel_rfl
 ·intro ks lev l i;kernel_rfl
 ·intro L;kernel_rfl
def encNd(x:Tm×Int):List PV:=[enc x.1,.int .i64 x.2]
def Ou(J:Nat->Zv->(Nat->Prop)->World->Prop)(Jx:Zv->(Nat->Prop)->World->Prop)(k:Nat)(Φ:Zv)(X:Nat->Prop)(W:World)(e:Ending)(W':World):Prop:=
 ∃ Φ',Φ.le Φ'∧(∀ b,X b->W'.heap[b]? = W.heap[b]?)∧((e = .returned (.bool true)∧J k Φ' X W')∨(e = .returned (.bool false)∧Jx Φ' X W'))
theorem QF(a b:List Tm):Zr (a++b)=Zr a+Zr b:=by rw[Jj,Jj,Jj,List.map_append,List.sum_append]
theorem L8(l:Nat)(a b:List Tm):Zy l (a++b)=Zy l a++Zy l b:=by rw[Qq,Qq,Qq,List.flatMap_append]
theorem EW{ks:List Tm}{k:Tm}(h:k∈ks):Zt k<=Zr ks:=by
 induction ks with
 | nil=>cases h
 | cons a ks ih=>
  rw[Zr]
  rcases List.mem_cons.1 h with rfl|h
  ·omega
  ·have:=ih h;omega
theorem a6e(t:Tm):1<=Zt t:=by cases t;rw[Zt];omega
theorem Oi(ks:List Tm):ks.length<=Zr ks:=by
 induction ks with
 | nil=>simp
 | cons a ks ih=>have:=a6e a;rw[Zr,List.length_cons];omega
theorem JV(n:Nd)(ks:List Tm):OZ (bx n ks):=by
 intro l o h ty sz xs e
 subst e
 match l,h with
 | 0,h=>cases h
 | l+1,h=>simp[bx]at h
theorem UU:OZ []:=by
 intro l o h
 simp at h
theorem Qi{Φ:Zv}{W:World}{a:Act}{env:List AV}(hg:GlobOK Φ)(hp:Ye Φ W)(he:YE (fun _ _=>none) Φ a.tmps env)(hd:a.defers=[]):XI (ZU (fun _ _=>none) Φ [] W) ⟨env,[]⟩ a W:=⟨_,Φ,WU hg hp,he,hd⟩
theorem WV{μ':Mu}{Φ Φ':Zv}{σ':Zu}{W W':World}{X:Nat->Prop}(j1:Go.Pl.Good (ZU (fun _ _=>none) Φ [] W) μ' Φ' σ' W')(hs:OZ σ')(hx : ∀ b,X b->b<W.heap.size∧Φ b=none):
  Go.Pl.Steps X X Φ Φ' W W'∧(∀ b,X b->W'.heap[b]? = W.heap[b]?):=by
 obtain⟨h1,h2,h3⟩:=Tg j1 hs hx
 exact⟨h1.drop fun b h=>.inl h,h2⟩
theorem Qk{μ:Mu}{Φ:Zv}{a:Act}{env:List AV}{x:Operand}{y:IOp}{b:Bool}(h:YE μ Φ a.tmps env)(hx:ZV x=some y)(he:ev env y = .pv (.bool b)):a.eval x = .bool b:=by
 have:=ZF h hx
 rw[he]at this
 generalize a.eval x=v at this ⊢
 cases ZR this
 rfl
theorem c9t{μ:Mu}{Φ:Zv}{a:Act}{env:List AV}{x:Operand}{y:IOp}{k:IntKind}{n:Int}(h:YE μ Φ a.tmps env)(hx:ZV x=some y)(he:ev env y = .pv (.int k n)):a.eval x = .int k n:=by
 have:=ZF h hx
 rw[he]at this
 generalize a.eval x=v at this ⊢
 cases ZR this
 rfl
theorem Oo{μ:Mu}{Φ:Zv}{a:Act}{env:List AV}{x:Operand}{y:IOp}{l:Nat}(h:YE μ Φ a.tmps env)(hx:ZV x=some y)(he:ev env y = .yld l):a.eval x = .func (.yield l) #[] #[]:=by
 have:=ZF h hx
 rw[he]at this
 generalize a.eval x=v at this ⊢
 cases this
 rfl
theorem a2r{μ:Mu}{Φ:Zv}{a:Act}{env:List AV}{x:Operand}{y:IOp}{p:PV}(h:YE μ Φ a.tmps env)(hx:ZV x=some y)(he:ev env y = .pv p):RP Φ (a.eval x) p:=by
 have:=ZF h hx
 rw[he]at this
 exact ZR this
theorem d0t{id:Nat}{ops:Array Oper}{b:Bool}{Q:Yt}{a:Act}{w:World}{Φ:Zv}{X:Nat->Prop}{J:Zv->(Nat->Prop)->World->Prop}(hJ:JOK J)(hj:J Φ X w)(hd:a.defers=[])(hsz:a.tmps.size=28)
  (h : ∀ L,Qh Tryz.prog wkT ops ops.toList ⟨eW L,[]⟩=some ⟨(eW L).set 6 (.pv (.bool b)),[]⟩)
  (hQ : ∀ (a':Act) w' Φ',a'.defers=[]->a'.tmps.getD 6 undef = .bool b->Φ.le Φ'->(∀ b,X b->w'.heap[b]? = w.heap[b]?)->J Φ' X w'->Q .ret a' w'):((Code.region id ops false).seq .ret).wpIn (Yp none) 4 Tryz.prog Q a w:=by
 refine wpIn_seq (Dr Zd (h []) (Qi (hJ.glob hj) (hJ.phi hj) (Rs (L:=[]) (n:=28) hsz (fun p hp=>by cases hp)) hd) ?_)
 rintro a' w' ⟨μ',Φ',hg,he,hd'⟩
 refine wpIn_ret ?_
 obtain⟨s1,s2⟩:=WV hg UU (fun b hb=>hJ.out hj hb)
 exact hQ a' w' Φ' hd' (Qk (x:=.tmp 6) (y:=.t 6) he rfl (by cases b <;> kernel_rfl)) hg.Φle s2 (hJ.step hj s1)
theorem d4s{Φ:Zv}{v:Value}{n:Nd}{ks:List Tm}{lev:Nat}{l:Nat}(hv:RP Φ v (.agg (ndC n ks))):YE (fun _ _=>none) Φ (#[v,.int .i64 lev,.func (.yield l) #[] #[]]++Array.replicate 25 undef) (eW (wk0 n ks lev l)):=by
 refine Rs (by simp) ?_
 intro q hq u hu
 simp only[wk0,List.mem_cons,List.not_mem_nil,or_false]at hq
 rcases hq with rfl|rfl|rfl
 ·simp[Array.getElem?_append]at hu
  subst hu
  exact .pv _ _ hv
 ·simp[Array.getElem?_append]at hu
  subst hu
  exact .pv _ _ (.int _ _)
 ·simp[Array.getElem?_append]at hu
  subst hu
  exact .yld l
theorem OM{μ:Mu}{Φ:Zv}{t:Array Value}{L:List (Nat×AV)}(h:YE μ Φ t (eW L)):t.size=28:=(BZ (n:=28) h).1
set_option maxHeartbeats 4000000 in
theorem c5j{l:Nat}{J:Nat->Zv->(Nat->Prop)->World->Prop}{Jx:Zv->(Nat->Prop)->World->Prop}{xs:List (Tm×Int)}(hJok : ∀ k,JOK (J k))(hJxok:JOK Jx)(hY:a3v Tryz.prog l encNd xs J Jx):
  ∀ (m:Nat) (t:Tm),SizeOf.sizeOf t<m-> ∀ (lev k:Nat) (Φ:Zv) (X:Nat->Prop) (W:World) (v:Value),J k Φ X W->RP Φ v (enc t)->(∀ i x,(Zq lev t)[i]? = some x->xs[k+i]? = some x)->lev+Zt t<=4611686018427387904 ->
   Calls Tryz.prog 81 #[v,.int .i64 lev,.func (.yield l) #[] #[]] W (Ou J Jx (k+Zt t) Φ X W):=by
 intro m
 induction m with
 | zero=>intro t h;omega
 | succ m ih=>
  intro t ht lev k Φ X W v hj hv hx hlev
  obtain⟨n,ks⟩:=t
  obtain⟨o0,o1,o2,o3,o4,o5,o6,o7,o8,o9,a1,b1,a6,b6,y,c,t1,t2,hbody,e1,y1,y2,y3,e6,c1,c2,c3,h0,h1,h1b,h2,h3,h4,h5,h6,h6b,h7,h8,h9⟩:=c9i
  rw[ZE]at hv
  refine callsIn_wide.1 (callsIn_of_wp (F:=Fence.wide) (n:=4) Tryz.func81 hbody trivial ?_ rfl)
  have hE0:YE (fun _ _=>none) Φ (#[v,.int .i64 lev,.func (.yield l) #[] #[]]++Array.replicate 25 undef) (eW (wk0 n ks lev l)):=d4s hv
  have hX0 : ∀ b,X b->b<W.heap.size∧Φ b=none:=fun b hb=>(hJok k).out hj hb
  refine wpIn_seq (Dr (nn:=4) Zd (h0 n ks lev l) (Qi ((hJok k).glob hj) ((hJok k).phi hj) hE0 rfl) ?_)
  intro a w hr
  refine wpIn_seq (wpIn_seq (wpIn_region_list ?_))
  rw[e1]
  refine JD Zd (fun o ho=>by rw[e1];simp[ho]) (h1 n ks lev l) hr ?_
  rintro a2 w2 ⟨μ2,Φ2,hg2,he2,hd2⟩
  obtain⟨s2,k2,n2⟩:=Tg hg2 (JV n ks) hX0
  have hj2:=(hJok k).step hj s2
  have hx0:xs[k]? = some (.mk n ks,(lev:Int)):=hx 0 _ (by rw[Zq];rfl)
  have r10:RP Φ2 (a2.eval (.tmp 10)) (enc (Tm.mk n ks)):=by
   rw[ZE]
   exact a2r he2 (y:=.t 10) rfl (by kernel_rfl)
  have r11:RP Φ2 (a2.eval (.tmp 11)) (.int .i64 lev):=a2r he2 (y:=.t 11) rfl (by kernel_rfl)
  have hvs:Xy Φ2 (#[a2.eval (.tmp 10),a2.eval (.tmp 11)]:Array Value).toList (encNd (.mk n ks,(lev:Int))):=a9b r10 (a9b r11 a1o)
  refine b4x y1 y2 y3 (Oo he2 (y:=.t 9) rfl (by kernel_rfl)) (vs:=#[a2.eval (.tmp 10),a2.eval (.tmp 11)]) (by simp) (hY 3 k _ Φ2 _ w2 _ hx0 hj2 hvs) ?_
  rintro e w3 ⟨Φ3,hle3,hkeep3,hres⟩
  -- both answers
  have both : ∀ (b:Bool) (JJ:Zv->(Nat->Prop)->World->Prop),JOK JJ->JJ Φ3 (fun b=>X b∨GJ μ2 (bx n ks) b) w3-> 
    XI (ZU μ2 Φ3 (bx n ks) w3) ⟨eW (wk3 n ks lev l b),bx n ks⟩ (a2.put (some 12) (.bool b)) w3:=by
   intro b JJ hJJ hjj
   refine⟨μ2,Φ3,hg2.moved (hJJ.glob hjj) hle3 (hJJ.phi hjj) (fun q hq=>hkeep3 q (.inr hq)) (fun q hq=>(hJJ.out hjj (.inr hq)).2) (JV n ks),?_,by rw[XG];exact hd2⟩
   have:=Qy (d:=some 12) (he2.mono (.refl _) hle3) (.pv _ _ (.bool b))
   exact this
  have fin : ∀ (b:Bool) (a':Act) (w':World) (Φ':Zv),a'.defers=[]->a'.tmps.getD 6 undef = .bool b->(Ou J Jx (k+Zt (.mk n ks)) Φ X W (.returned (.bool b)) w')->bodyPost Tryz.prog Tryz.f81 (Ou J Jx (k+Zt (.mk n ks)) Φ X W) .ret a' w':=by
   intro b a' w' Φ' hd h6 hp
   refine bodyPost_ret (results_tmp rfl _ _ _) hd ?_
   rw[h6]
   exact hp
  rcases hres with ⟨rfl,hj3⟩|⟨rfl,hj3⟩
  ·refine⟨_,rfl,?_⟩
   rw[<- List.append_nil b1]
   refine JD Zd (fun o ho=>by rw[e1];simp[ho]) (h1b n ks lev l true) (both true _ (hJok _) hj3) ?_
   intro a4 w4 hr4
   have he4:=hr4
   obtain⟨μ4,Φ4,hg4,he4,hd4⟩:=he4
   refine wpIn_cond (t:=false) (Qk (x:=.tmp 13) (y:=.t 13) he4 rfl (by kernel_rfl)) (wpIn_skip ?_)
   refine wpIn_seq (wpIn_seq (Dr (nn:=4) Zd (h3 n ks lev l) hr4 ?_))
   rintro a5 w5 ⟨μ5,Φ5,hg5,he5,hd5⟩
   have hX3 : ∀ b,X b->b<w3.heap.size∧Φ3 b=none:=fun b hb=>(hJok _).out hj3 (.inl hb)
   obtain⟨s5,k5⟩:=GI hg5 (JV n ks) hX3 n2
   have hj5:=(hJok _).step hj3 (s5.drop (Y:=X) fun b h=>.inl h)
   have hk5 : ∀ b,X b->w5.heap[b]? = W.heap[b]? :=fun b hb=>(k5 b hb).trans ((hkeep3 b (.inl hb)).trans (k2 b hb))
   have hle5:Φ.le Φ5:=hg2.Φle.trans (hle3.trans hg5.Φle)
   have he5':YE (fun _ _=>none) Φ5 a5.tmps (eW (wl0 ks lev l 0)):=c5o (n:=28) he5 (.refl _) (by
    intro p hp
    simp only[wl0,List.mem_cons,List.not_mem_nil,or_false]at hp
    rcases hp with rfl|rfl|rfl|rfl|rfl <;> exact⟨by simp,rfl,rfl⟩)
   clear both hr4 hg4 he4 hd4 hE0 hr hg2 he2 hd2 r10 r11 hvs
   refine wpIn_block (wpIn_loop_ghost (fun(z:Nat) (a:Act) (w:World)=> ∃ (i:Nat) (Φ':Zv),z=ks.length - i∧i<=ks.length∧Φ.le Φ'∧(∀ b,X b->w.heap[b]? = W.heap[b]?)∧J (k+1+Zr (ks.take i)) Φ' X w∧YE (fun _ _=>none) Φ' a.tmps (eW (wl0 ks lev l i))∧a.defers=[]) _
    ⟨0,Φ5,rfl,Nat.zero_le _,hle5,hk5,hj5,he5',hd5⟩ ?_)
   clear hj5 hk5 hle5 he5' hd5 s5 k5 hg5 he5
   rintro z a w ⟨i,Φi,rfl,hi,hle,hk,hj,he,hd⟩
   have hXi : ∀ b,X b->b<w.heap.size∧Φi b=none:=fun b hb=>(hJok _).out hj hb
   refine wpIn_seq (Dr (nn:=4) Zd (h4 ks lev l i) (Qi ((hJok _).glob hj) ((hJok _).phi hj) he hd) ?_)
   intro a7 w7 hr7
   have hr7':=hr7
   obtain⟨μ7,Φ7,hg7,he7,hd7⟩:=hr7'
   by_cases hlt:i<ks.length
   ·have hb:decide ((i:Int)<((ks.map (enc:Tm->PV)).length:Int))=true:=by simpa using hlt
    refine wpIn_seq (wpIn_cond (t:=true) (Qk (x:=.tmp 18) (y:=.t 18) he7 rfl (by rw[<- hb];kernel_rfl)) (wpIn_skip ?_))
    obtain⟨kn,kk,hkk⟩ : ∃ kn kk,ks[i]? = some (.mk kn kk):=by
     cases hki:ks[i]with
     | mk kn kk=>exact⟨kn,kk,by rw[List.getElem?_eq_getElem hlt,hki]⟩
    refine wpIn_seq (wpIn_block (wpIn_seq (Dr (nn:=4) Zd (h5 ks lev l i kn kk hkk) hr7 ?_)))
    intro a8 w8 hr8
    refine wpIn_seq (wpIn_region_list ?_)
    rw[e6]
    refine JD Zd (fun o ho=>by rw[e6];simp[ho]) (h6 ks lev l i kn kk) hr8 ?_
    rintro a9 w9 ⟨μ9,Φ9,hg9,he9,hd9⟩
    obtain⟨s9,k9⟩:=WV hg9 (JV kn kk) hXi
    have hj9:=(hJok _).step hj s9
    have hmem:Tm.mk kn kk∈ks:=List.mem_of_getElem? hkk
    have hsz:=EN (n:=n) hmem
    have hdm:=EW hmem
    have hdp:Zt (.mk n ks)=Zr ks+1:=by rw[Zt]
    have hkl:=Oi ks
    have hcut:ks=ks.take i++(.mk kn kk)::ks.drop (i+1):=by
     have h:=List.getElem?_eq_some_iff.1 hkk
     obtain⟨h1,h2⟩:=h
     rw[<- h2,List.getElem_cons_drop,List.take_append_drop]
    have r21:RP Φ9 (a9.eval (.tmp 21)) (enc (Tm.mk kn kk)):=by
     rw[ZE]
     exact a2r he9 (y:=.t 21) rfl (by kernel_rfl)
    have e23:a9.eval (.tmp 23) = .int .i64 ((lev+1:Nat):Int):=by
     have:=c9t (x:=.tmp 23) (y:=.t 23) he9 rfl (by kernel_rfl:_=AV.pv (.int .i64 (IntKind.i64.wrap ((lev:Int)+1))))
     rw[this,next (by omega)]
    have e24:a9.eval (.tmp 24) = .func (.yield l) #[] #[]:=Oo he9 (y:=.t 24) rfl (by kernel_rfl)
    have hxk : ∀ j x,(Zq (lev+1) (.mk kn kk))[j]? = some x->xs[k+1+Zr (ks.take i)+j]? = some x:=by
     intro j x hjx
     have:(Zq lev (.mk n ks))[1+Zr (ks.take i)+j]? = some x:=by
      rw[Zq,show 1+Zr (ks.take i)+j=(Zr (ks.take i)+j)+1 by omega,List.getElem?_cons_succ,hcut,L8,Zy,<- hcut,<- Ja (lev+1) (ks.take i),
       List.getElem?_append_right (by omega),Nat.add_sub_cancel_left,List.getElem?_append_left (List.getElem?_eq_some_iff.1 hjx).1,hjx]
     have:=hx _ _ this
     rw[<- this]
     congr 1
     omega
    have hcall:=ih (.mk kn kk) (by omega) (lev+1) (k+1+Zr (ks.take i)) Φ9 X w9 _ hj9 r21 hxk (by omega)
    refine Lr c1 c2 c3 Tryz.func81 rfl (by kernel_rfl) (vs:=#[a9.eval (.tmp 21),.int .i64 ((lev+1:Nat):Int),.func (.yield l) #[] #[]]) (by simp only[List.map_toArray,List.map_cons,List.map_nil,e23,e24]) hcall ?_
    rintro e w10 ⟨Φ10,hle10,hkeep10,hres⟩
    have hks : ∀ b,X b->w10.heap[b]? = W.heap[b]? :=fun b hb=>(hkeep10 b hb).trans ((k9 b hb).trans (hk b hb))
    have he10 : ∀ b,YE (fun _ _=>none) Φ10 (a9.put (some 25) (.bool b)).tmps (eW (wl7 ks lev l i b)):=by
     intro b
     have h:=Qy (d:=some 25) (he9.mono (.refl _) hle10) (.pv _ _ (.bool b))
     refine c5o (n:=28) (L:=wl6 ks lev l i kn kk++[(25,.pv (.bool b))]) h (.refl _) ?_
     intro p hp
     simp only[wl7,wl0,List.mem_cons,List.mem_append,List.not_mem_nil,or_false]at hp
     rcases hp with (rfl|rfl|rfl|rfl|rfl)|rfl <;> exact⟨by simp,rfl,rfl⟩
    have hsz10:ks.take (i+1)=ks.take i++[.mk kn kk]:=by rw[List.take_add_one,hkk];rfl
    rcases hres with ⟨rfl,hj10⟩|⟨rfl,hj10⟩
    ·refine⟨_,rfl,?_⟩
     rw[<- List.append_nil b6]
     refine JD Zd (fun o ho=>by rw[e6];simp[ho]) (h6b ks lev l i true) (Qi ((hJok _).glob hj10) ((hJok _).phi hj10) (he10 true) (by rw[XG];exact hd9)) ?_
     intro a11 w11 hr11
     obtain⟨μ11,Φ11,hg11,he11,hd11⟩:=hr11
     obtain⟨s11,k11⟩:=WV hg11 UU (fun b hb=>(hJok _).out hj10 hb)
     have hj11:=(hJok _).step hj10 s11
     refine wpIn_cond (t:=false) (Qk (x:=.tmp 26) (y:=.t 26) he11 rfl (by kernel_rfl)) (wpIn_skip ?_)
     have he11':YE (fun _ _=>none) Φ11 a11.tmps (eW (wl0 ks lev l i)):=c5o (n:=28) he11 (.refl _) (by
      intro p hp
      simp only[wl0,List.mem_cons,List.not_mem_nil,or_false]at hp
      rcases hp with rfl|rfl|rfl|rfl|rfl <;> exact⟨by simp,rfl,rfl⟩)
     refine Dr (nn:=4) Zd (h8 ks lev l i) (Qi ((hJok _).glob hj11) ((hJok _).phi hj11) he11' hd11) ?_
     rintro a12 w12 ⟨μ12,Φ12,hg12,he12,hd12⟩
     obtain⟨s12,k12⟩:=WV hg12 UU (fun b hb=>(hJok _).out hj11 hb)
     have hj12:=(hJok _).step hj11 s12
     refine⟨ks.length - (i+1),by omega,i+1,Φ12,rfl,hlt,hle.trans (hg9.Φle.trans (hle10.trans (hg11.Φle.trans hg12.Φle))),fun b hb=>(k12 b hb).trans ((k11 b hb).trans (hks b hb)),?_,?_,hd12⟩
     ·rw[hsz10,QF,Zr,Zr,Nat.add_zero,<- Nat.add_assoc]
      exact hj12
     ·refine c5o (n:=28) he12 (.refl _) ?_
      intro p hp
      simp only[wl0,List.mem_cons,List.not_mem_nil,or_false]at hp
      rcases hp with rfl|rfl|rfl|rfl|rfl
      ·exact⟨by simp,by rw[<- next (show i<9223372036854775807 by omega)];rfl,rfl⟩
      all_goals exact⟨by simp,rfl,rfl⟩
    ·refine⟨_,rfl,?_⟩
     rw[<- List.append_nil b6]
     refine JD Zd (fun o ho=>by rw[e6];simp[ho]) (h6b ks lev l i false) (Qi (hJxok.glob hj10) (hJxok.phi hj10) (he10 false) (by rw[XG];exact hd9)) ?_
     rintro a11 w11 ⟨μ11,Φ11,hg11,he11,hd11⟩
     obtain⟨s11,k11⟩:=WV hg11 UU (fun b hb=>hJxok.out hj10 hb)
     have hj11:=hJxok.step hj10 s11
     refine wpIn_cond (t:=true) (Qk (x:=.tmp 26) (y:=.t 26) he11 rfl (by kernel_rfl)) ?_
     refine d0t hJxok hj11 hd11 (OM he11) h7 ?_
     intro a' w' Φ' hd' h6' hle' hk' hj'
     refine fin false a' w' Φ' hd' h6' ⟨Φ',?_,fun b hb=>(hk' b hb).trans ((k11 b hb).trans (hks b hb)),.inr ⟨rfl,hj'⟩⟩
     exact hle.trans (hg9.Φle.trans (hle10.trans (hg11.Φle.trans hle')))
   ·have hb:decide ((i:Int)<((ks.map (enc:Tm->PV)).length:Int))=false:=by simpa using hlt
    refine wpIn_seq (wpIn_cond (t:=false) (Qk (x:=.tmp 18) (y:=.t 18) he7 rfl (by rw[<- hb];kernel_rfl)) (wpIn_exit ?_))
    obtain⟨s7,k7⟩:=WV hg7 UU hXi
    have hj7:=(hJok _).step hj s7
    have hii:i=ks.length:=by omega
    subst hii
    rw[List.take_length]at hj7
    show((Code.region 9 o9 false).seq .ret).wpIn _ _ _ _ _ _
    refine d0t (hJok _) hj7 hd7 (OM he7) h9 ?_
    intro a' w' Φ' hd' h6' hle' hk' hj'
    refine fin true a' w' Φ' hd' h6' ⟨Φ',hle.trans (hg7.Φle.trans hle'),fun b hb=>(hk' b hb).trans ((k7 b hb).trans (hk b hb)),.inl ⟨rfl,?_⟩⟩
    rw[Zt,show k+(Zr ks+1)=k+1+Zr ks by omega]
    exact hj'
  ·refine⟨_,rfl,?_⟩
   rw[<- List.append_nil b1]
   refine JD Zd (fun o ho=>by rw[e1];simp[ho]) (h1b n ks lev l false) (both false _ hJxok hj3) ?_
   rintro a4 w4 ⟨μ4,Φ4,hg4,he4,hd4⟩
   refine wpIn_cond (t:=true) (Qk (x:=.tmp 13) (y:=.t 13) he4 rfl (by kernel_rfl)) ?_
   obtain⟨s4,k4⟩:=GI hg4 (JV n ks) (fun b hb=>hJxok.out hj3 (.inl hb)) n2
   have hj4:=hJxok.step hj3 (s4.drop (Y:=X) fun b h=>.inl h)
   refine d0t hJxok hj4 hd4 (OM he4) h2 ?_
   intro a' w' Φ' hd' h6' hle' hk' hj'
   exact fin false a' w' Φ' hd' h6' ⟨Φ',hg2.Φle.trans (hle3.trans (hg4.Φle.trans hle')),fun b hb=>(hk' b hb).trans ((k4 b hb).trans ((hkeep3 b (.inl hb)).trans (k2 b hb))),.inr ⟨rfl,hj'⟩⟩
def d4f(pss:List (List PV)):Tm:=match pss with
 | [ps]=>dec (.agg ps)
 | _=>.mk P6 []
noncomputable def pre_ndI(pss:List (List PV)):Bool:=match pss with
 | [ps]=>can Tm (.agg ps)&&decide (Zt (dec (.agg ps))<=1048576)
 | _=>false
def F_ndI(pss:List (List PV)):List (Tm×Int):=Zq 1 (d4f pss)
theorem tmOf_nd(n:Nd)(ks:List Tm):d4f [ndC n ks] = .mk n ks:=by
 show dec (PV.agg (ndC n ks))=_
 rw[show(PV.agg (ndC n ks))=enc (Tm.mk n ks)from(ZE n ks).symm,Enc.dec_enc]
theorem pre_nd{n:Nd}{ks:List Tm}(h:Zt (.mk n ks)<=1048576):pre_ndI [ndC n ks]=true:=by
 show(can Tm (.agg (ndC n ks))&&decide (Zt (dec (PV.agg (ndC n ks)))<=1048576))=true
 rw[show(PV.agg (ndC n ks))=enc (Tm.mk n ks)from(ZE n ks).symm,Enc.dec_enc,Ut,Bool.true_and]
 exact decide_eq_true h
theorem c9s: ∃ (o:Array Oper) (a:List Oper) (c:Oper) (t:Array TypeId),Tryz.f80.body=some (.region 0 o false)∧o.toList=a++[c] ∧
  c.op = .call {callee:=.value (.func 81),args:=#[.tmp 3,.const (.int .i64 1),.tmp 4],argTypes:=t}∧c.guard=none∧c.dst=some 5 ∧
  ∀ n ks l,Qh Tryz.prog wkT o a ⟨ZK 6 0 [(0,.yld l),(1,.pv (.rptr (ndC n ks)))],[]⟩=some ⟨ZK 6 0 [(0,.yld l),(1,.pv (.rptr (ndC n ks))),(3,.pv (.agg (ndC n ks))),(4,.yld l)],[]⟩:=by
 refine⟨_,[_,_],_,_,rfl,rfl,rfl,rfl,rfl,?_⟩
 intro n ks l
 kernel_rfl
set_option maxHeartbeats 1000000 in
theorem JO:a9g Tryz.prog 80 encNd pre_ndI F_ndI:=by
 refine⟨⟨_,Tryz.func80,rfl,rfl⟩,?_⟩
 intro pss hpre Φ0 lb l J Jx W hcaps hJok hJxok hY h0
 unfold pre_ndI at hpre
 split at hpre
 ·rename_i ps
  simp only[Bool.and_eq_true,decide_eq_true_eq]at hpre
  obtain⟨hc,hsz⟩:=hpre
  obtain⟨t,ht⟩:=PK hc
  obtain⟨n,ks⟩:=t
  rw[ht,Enc.dec_enc]at hsz
  rw[ZE]at ht
  obtain rfl:ps=ndC n ks:=by injection ht
  have hF:F_ndI [ndC n ks]=Zq 1 (.mk n ks):=by unfold F_ndI;rw[tmOf_nd]
  rw[hF]at hY ⊢
  obtain⟨lb⟩:=lb
  match lb,hcaps.1 with
  | [p1],_=>
   obtain⟨B1,c1,rfl,g1,r1,o1⟩:=hcaps.2 0 p1 _ rfl rfl
   have k1:=a4l g1 r1 o1
   obtain⟨o,a,c,t,hbody,e1,c1,c2,c3,hgo⟩:=c9s
   refine callsIn_wide.1 (callsIn_of_wp (F:=Fence.wide) (n:=4) Tryz.func80 hbody trivial ?_ rfl)
   have hE:YE (fun _ _=>none) Φ0 ((#[Value.func (.yield l) #[] #[]]++ #[Value.pointer (some ⟨B1,0,none⟩)])++Array.replicate 4 undef) (ZK 6 0 [(0,.yld l),(1,.pv (.rptr (ndC n ks)))]):=by
    refine Rs (by simp) ?_
    intro q hq u hu
    simp only[List.mem_cons,List.not_mem_nil,or_false]at hq
    rcases hq with rfl|rfl
    ·simp[Array.getElem?_append]at hu
     subst hu
     exact .yld l
    ·simp[Array.getElem?_append]at hu
     subst hu
     exact .pv _ _ k1
   refine wpIn_region_list ?_
   rw[e1]
   refine JD (nn:=4) Zd (fun x hx=>by rw[e1];simp[hx]) (hgo n ks l) (Qi ((hJok 0).glob h0) ((hJok 0).phi h0) hE rfl) ?_
   rintro a2 w2 ⟨μ2,Φ2,hg2,he2,hd2⟩
   obtain⟨s2,k2⟩:=WV (X:=fun _=>False) hg2 UU (fun b hb=>hb.elim)
   have hj2:=(hJok _).step h0 s2
   have r3:RP Φ2 (a2.eval (.tmp 3)) (enc (Tm.mk n ks)):=by
    rw[ZE]
    exact a2r he2 (y:=.t 3) rfl (by kernel_rfl)
   have e4:a2.eval (.tmp 4) = .func (.yield l) #[] #[]:=Oo he2 (y:=.t 4) rfl (by kernel_rfl)
   have hcall:=c5j hJok hJxok hY (SizeOf.sizeOf (Tm.mk n ks)+1) (.mk n ks) (Nat.lt_succ_self _) 1 0 Φ2 _ w2 _ hj2 r3 (fun i x h=>by rw[Nat.zero_add];exact h) (by omega)
   refine Lr c1 c2 c3 Tryz.func81 rfl (by kernel_rfl) (vs:=#[a2.eval (.tmp 3),.int .i64 ((1:Nat):Int),.func (.yield l) #[] #[]]) (by simp only[List.map_toArray,List.map_cons,List.map_nil,e4];rfl) hcall ?_
   rintro e w3 ⟨Φ3,hle3,hkeep3,hres⟩
   have fin : ∀ v,(∃ Φ' X',J (Zq 1 (.mk n ks)).length Φ' X' w3∨Jx Φ' X' w3)->wpListIn (Yp none) 4 Tryz.prog o (bodyPost Tryz.prog Tryz.f80 fun e W'=>(∃ v,e = .returned v)∧ ∃ Φ' X',(J (Zq 1 (.mk n ks)).length Φ' X' W'∨Jx Φ' X' W')) [] (a2.put (some 5) v) w3:=by
    intro v hv
    exact⟨by rw[XG];exact hd2,_,results_none rfl _ _ _,⟨_,rfl⟩,hv⟩
   rcases hres with ⟨rfl,hj3⟩|⟨rfl,hj3⟩
   ·refine⟨_,rfl,fin _ ⟨Φ3,fun _=>False,.inl ?_⟩⟩
    rw[Wo,<- Nat.zero_add (Zt _)]
    exact hj3
   ·exact⟨_,rfl,fin _ ⟨Φ3,_,.inr hj3⟩⟩
 ·cases hpre
end Go.Proofs.YtgdebdgkofkeeaaGreatDoor
namespace Go.Pl
open Go.RowKit
open Enc (enc dec is)
open EncL (encL decL isL)
open Go.Proofs.YtgdebdgkofkeeaaGreatDoor (encNd pre_ndI F_ndI tmOf_nd pre_nd)
theorem b6r: ∀ args os,YA args os=true->Zc Oz os.length (Yc os.length Np fun r=>r=Xz 80 args os) RF [] (Wq b9p args os):=by
 intro args os h
 unfold YA at h
 split at h
 ·obtain⟨⟨n,ks⟩,rfl⟩:=PK h
  rw[ZE]
  exact d1w n ks rfl
 ·cases h
def tvI(t:Tm)(k:Nat)(σ:Zu):Prop:=(∀ j p,j<k->(Zq 1 t)[j]? = some p->okN j p=true)∧k<=400∧σ=[.obj (.box [.pv (.bool false)]),.obj (.box [.pv (.int .i64 k)])]
def tvX(t:Tm)(σ:Zu):Prop:=Y8 t=false∧ ∃ (c:Int) (r:List Slot),σ = .obj (.box [.pv (.bool false)]):: .obj (.box [.pv (.int .i64 c)])::r
def tvE:Xc:=fun n st q=>n=0∧BN KY 0 (.t 7) 80 [8,9] BJ Bd encNd pre_ndI F_ndI st q
def tvM(t:Tm)(k:Nat)(x:Tm×Int)(st:St):Prop:=(∀ j p,j<k->(Zq 1 t)[j]? = some p->okN j p=true)∧k<=400 ∧
 st=⟨ZK 23 0 [(2,.ptr 0 0),(3,.ptr 1 0),(4,.ptr 2 0),(5,.pv (.int .i64 x.2))],[.obj (.box [.pv (.bool false)]),.obj (.box [.pv (.int .i64 k)]),.obj (.box ((Go.Proofs.YtgdebdgkofkeeaaGreatDoor.ndC x.1.nd x.1.ks).map .pv))]⟩
theorem c3n: ∀ x:Tm×Unit,gW x.1=true->Ur KY tvE 0 (Zb JE (Zn (Y8 x.1))) Gz [] (ZL d2f (encL x)):=by
 rintro⟨t,⟨⟩⟩ ht
 have ht:gW t=true:=ht
 obtain⟨n,ks⟩:=t
 rw[<- WE]
 show Ur KY tvE 0 (Zb JE (Zn (Y8 (.mk n ks)))) _ _ _
 have hsz:Zt (.mk n ks)<=1048576:=KE ht
 have hF:F_ndI [Go.Proofs.YtgdebdgkofkeeaaGreatDoor.ndC n ks]=Zq 1 (.mk n ks):=by unfold F_ndI;rw[tmOf_nd]
 refine d4h tvE n ks ⟨?_,rfl,[2],[Go.Proofs.YtgdebdgkofkeeaaGreatDoor.ndC n ks],[2,3],[2,3,4,5],[],⟨ZK 23 0 [(2,.ptr 0 0),(3,.ptr 1 0)],[.obj (.box [.pv (.bool false)]),.obj (.box [.pv (.int .i64 0)])]⟩,tvI (.mk n ks),tvX (.mk n ks),tvM (.mk n ks),
  rfl,by simp,rfl,?_,by kernel_rfl,pre_nd hsz,⟨fun j p hj=>by omega,by omega,rfl⟩,?_,?_,?_,?_⟩
 ·show can Tm (PV.agg (Go.Proofs.YtgdebdgkofkeeaaGreatDoor.ndC n ks))=true
  rw[show(PV.agg (Go.Proofs.YtgdebdgkofkeeaaGreatDoor.ndC n ks))=enc (Tm.mk n ks)from(ZE n ks).symm,Ut]
 ·intro j l ps hl hps
  match j with
  | 0=>cases hl;cases hps;rfl
  | j+1=>simp at hl
 ·rintro k ⟨⟨xn,xk⟩,v⟩ σ hx ⟨hall,hk,rfl⟩
  have e:Jm [8,9] ((encNd (.mk xn xk,v)).map .pv) (ZK 23 0 [(2,.ptr 0 0),(3,.ptr 1 0)])=ZK 23 0 [(2,.ptr 0 0),(3,.ptr 1 0),(8,.pv (.agg (Go.Proofs.YtgdebdgkofkeeaaGreatDoor.ndC xn xk))),(9,.pv (.int .i64 v))]:=by
   show Jm [8,9] (([enc (Tm.mk xn xk),.int .i64 v]).map .pv) _=_
   rw[ZE]
   kernel_rfl
  rw[e]
  exact d3f (G:=fun _=>False) _ xn xk k v ⟨rfl,hall,hk,rfl⟩
 ·rintro k ⟨⟨xn,xk⟩,v⟩ st hx ⟨hall,hk,rfl⟩
  rw[hF]at hx
  have hno:=fun h=>b7m (.mk n ks) hx h
  have hnd:nW (.mk xn xk)=true:=c1y (p:=(.mk xn xk,v)) ht (List.mem_of_getElem? hx)
  have hw:IntKind.i64.wrap ((k:Int)+1)=((k+1:Nat):Int):=next (by omega)
  refine c8b (G:=tvX (.mk n ks)) _ xn xk k v ?_
  rw[hw]
  have bad:okN k (.mk xn xk,v)=false-> ∀ r,tvX (.mk n ks) (.obj (.box [.pv (.bool false)]):: .obj (.box [.pv (.int .i64 ((k+1:Nat):Int))])::r):=fun h r=>⟨hno h,_,r,rfl⟩
  refine YV (fun h1=>bad ?_ _) fun h1=>YV (fun h2=>bad ?_ _) fun h2=>⟨Ze (.mk xn xk,()) (WE xn xk) hnd,Zf (.mk xn xk,()) (WE xn xk) (Vh (fun h3=>bad ?_ _) fun h3=>⟨rfl,⟨ZK 23 0 [(2,.ptr 0 0),(3,.ptr 1 0)],[.obj (.box [.pv (.bool false)]),.obj (.box [.pv (.int .i64 ((k+1:Nat):Int))])]⟩,by kernel_rfl,rfl,?_,?_,rfl⟩)⟩
  ·unfold okN;rw[decide_eq_false (show ¬ k<400 by omega)];rfl
  ·unfold okN;rw[decide_eq_false (show ¬ v<=40 by omega),Bool.and_false];rfl
  ·have h3:Q5 (.mk xn xk)=false:=h3
   unfold okN;rw[h3,Bool.and_false]
  ·have h3:Q5 (.mk xn xk)=true:=h3
   intro j p hj hp
   rw[Nat.lt_succ_iff_lt_or_eq]at hj
   rcases hj with hj|rfl
   ·exact hall j p hj hp
   ·rw[hx]at hp
    cases hp
    unfold okN
    rw[h3,decide_eq_true (show j<400 by omega),decide_eq_true (show v<=40 by omega)];rfl
  ·omega
 ·rintro σ ⟨hall,hk,rfl⟩
  refine d0r tvE n ks _ (Zl (a4w _ fun j p hp=>hall j p ?_ hp).symm)
  rw[hF]
  exact(List.getElem?_eq_some_iff.1 hp).1
 ·rintro σ ⟨hv,c,r,rfl⟩
  exact c1i tvE n ks c r (Zl hv.symm)
end Go.Pl
namespace Go.Pl
open Go.RowKit
open Enc (enc dec is)
open EncL (encL decL isL)
open Go.Proofs.YtgdebdgkofkeeaaGreatDoor (encNd pre_ndI F_ndI tmOf_nd pre_nd)
abbrev Jf(n:Nd)(ks:List Tm):List PV:=Go.Proofs.YtgdebdgkofkeeaaGreatDoor.ndC n ks
def V8(t:Tm):Int:=Zt t
def c2h(t:Tm)(k:Nat)(σ:Zu):Prop:=σ=[.obj (.box [.pv (.int .i64 (((Zq 1 t).take k).length:Int))])]
def d5b(t:Tm)(k:Nat)(x:Tm×Int)(st:St):Prop:=st=⟨ZK 11 0 [(3,.ptr 0 0)],[.obj (.box [.pv (.int .i64 (((Zq 1 t).take k).length:Int))])]⟩
def a6b:Xc:=fun n st q=>n=0∧BN Qr 0 (.t 5) 80 [6,7] Hf H8 encNd pre_ndI F_ndI st q
theorem c4w: ∀ x:Tm×Unit,gW x.1=true->Ur Qr a6b 0 (Zb Kj (Zn (V8 x.1))) Hm [] (ZL c0d (encL x)):=by
 rintro⟨t,⟨⟩⟩ ht
 have ht:gW t=true:=ht
 obtain⟨n,ks⟩:=t
 rw[<- WE]
 show Ur Qr a6b 0 (Zb Kj (Zn (V8 (.mk n ks)))) _ _ _
 have hsz:Zt (.mk n ks)<=1048576:=KE ht
 have hlen:(Zq 1 (.mk n ks)).length=Zt (.mk n ks):=Wo _ _
 have hF:F_ndI [Jf n ks]=Zq 1 (.mk n ks):=by unfold F_ndI;rw[tmOf_nd]
 refine d2d a6b n ks ⟨?_,rfl,[1],[Jf n ks],[3],[3],[],⟨ZK 11 0 [(3,.ptr 0 0)],[.obj (.box [.pv (.int .i64 0)])]⟩,c2h (.mk n ks),fun _=>False,d5b (.mk n ks),rfl,by simp,rfl,?_,by kernel_rfl,pre_nd hsz,rfl,?_,?_,?_,?_⟩
 ·show can Tm (PV.agg (Jf n ks))=true
  rw[show(PV.agg (Jf n ks))=enc (Tm.mk n ks)from(ZE n ks).symm,Ut]
 ·intro j l ps hl hps
  match j with
  | 0=>cases hl;cases hps;rfl
  | j+1=>simp at hl
 ·rintro k ⟨⟨xn,xk⟩,v⟩ σ hx hi
  unfold c2h at hi
  subst hi
  have e:Jm [6,7] ((encNd (.mk xn xk,v)).map .pv) (ZK 11 0 [(3,.ptr 0 0)])=ZK 11 0 [(3,.ptr 0 0),(6,.pv (.agg (Jf xn xk))),(7,.pv (.int .i64 v))]:=by
   show Jm [6,7] (([enc (Tm.mk xn xk),.int .i64 v]).map .pv) _=_
   rw[ZE]
   kernel_rfl
  rw[e]
  exact c3o (G:=fun _=>False) _ xn xk _ v ⟨rfl,rfl⟩
 ·rintro k ⟨⟨xn,xk⟩,v⟩ st hx hst
  unfold d5b at hst
  subst hst
  rw[hF]at hx
  have hk:k<Zt (.mk n ks):=by rw[<- hlen];exact(List.getElem?_eq_some_iff.1 hx).1
  have ek:(Zq 1 (.mk n ks)).take (k+1)=(Zq 1 (.mk n ks)).take k++[(.mk xn xk,v)]:=by rw[List.take_add_one,hx];rfl
  refine b9h (G:=fun _=>False) _ xn xk _ v ⟨rfl,_,rfl,rfl,?_⟩
  unfold c2h
  rw[ek,List.length_append,next (by rw[List.length_take];omega)]
  rfl
 ·rintro σ hi
  unfold c2h at hi
  subst hi
  rw[hF,List.take_length]
  exact c1q a6b n ks _ (Uv (by unfold V8;rw[hlen]))
 ·exact fun σ h=>h.elim
def c1p(l:List Int):Int:=l.foldl (fun c v=>if v>c then v else c) 0
def BC(t:Tm):Int:=ZH t
def mxF(c v:Int):Int:=if v>c then v else c
mutual
theorem MJ: ∀ (t:Tm) (l:Nat) (c:Int),((Zq l t).map (·.2)).foldl mxF c=max c ((l:Int)+ZH t - 1)
 | .mk n ks,l,c=>by
  rw[Zq,List.map_cons,List.foldl_cons,Tw ks (l+1) (mxF c l) (by unfold mxF;split <;> omega),ZH]
  unfold mxF
  split <;> omega
theorem Tw: ∀ (ks:List Tm) (l:Nat) (c:Int),(l:Int) - 1<=c->((Zy l ks).map (·.2)).foldl mxF c=max c ((l:Int)+ZZ ks - 1)
 | [],l,c,h=>by rw[Zy,ZZ];simp;omega
 | k::ks,l,c,h=>by
  rw[Zy,List.map_append,List.foldl_append,MJ k l c,Tw ks l _ (by omega),ZZ]
  omega
end
theorem c0n(t:Tm):c1p ((Zq 1 t).map (·.2))=BC t:=by
 have h:=MJ t 1 0
 have hp:1<=ZH t:=by cases t;rw[ZH];omega
 show((Zq 1 t).map (·.2)).foldl mxF 0=_
 rw[h]
 unfold BC
 omega
def c0x(t:Tm)(k:Nat)(σ:Zu):Prop:=σ=[.obj (.box [.pv (.int .i64 (c1p (((Zq 1 t).take k).map (·.2))))])]
def d4i(t:Tm)(k:Nat)(x:Tm×Int)(st:St):Prop:=st=⟨ZK 14 0 [(3,.ptr 0 0),(5,.pv (.int .i64 x.2))],[.obj (.box [.pv (.int .i64 (c1p (((Zq 1 t).take k).map (·.2))))])]⟩
def a8a:Xc:=fun n st q=>n=0∧BN QH 0 (.t 7) 80 [8,9] JN Ga encNd pre_ndI F_ndI st q
theorem b9r: ∀ x:Tm×Unit,gW x.1=true->Ur QH a8a 0 (Zb Kn (Zn (BC x.1))) J7 [] (ZL c3a (encL x)):=by
 rintro⟨t,⟨⟩⟩ ht
 have ht:gW t=true:=ht
 obtain⟨n,ks⟩:=t
 rw[<- WE]
 show Ur QH a8a 0 (Zb Kn (Zn (BC (.mk n ks)))) _ _ _
 have hsz:Zt (.mk n ks)<=1048576:=KE ht
 have hlen:(Zq 1 (.mk n ks)).length=Zt (.mk n ks):=Wo _ _
 have hF:F_ndI [Jf n ks]=Zq 1 (.mk n ks):=by unfold F_ndI;rw[tmOf_nd]
 refine c9p a8a n ks ⟨?_,rfl,[1],[Jf n ks],[3],[3,5],[],⟨ZK 14 0 [(3,.ptr 0 0)],[.obj (.box [.pv (.int .i64 0)])]⟩,c0x (.mk n ks),fun _=>False,d4i (.mk n ks),rfl,by simp,rfl,?_,by kernel_rfl,pre_nd hsz,rfl,?_,?_,?_,?_⟩
 ·show can Tm (PV.agg (Jf n ks))=true
  rw[show(PV.agg (Jf n ks))=enc (Tm.mk n ks)from(ZE n ks).symm,Ut]
 ·intro j l ps hl hps
  match j with
  | 0=>cases hl;cases hps;rfl
  | j+1=>simp at hl
 ·rintro k ⟨⟨xn,xk⟩,v⟩ σ hx hi
  unfold c0x at hi
  subst hi
  have e:Jm [8,9] ((encNd (.mk xn xk,v)).map .pv) (ZK 14 0 [(3,.ptr 0 0)])=ZK 14 0 [(3,.ptr 0 0),(8,.pv (.agg (Jf xn xk))),(9,.pv (.int .i64 v))]:=by
   show Jm [8,9] (([enc (Tm.mk xn xk),.int .i64 v]).map .pv) _=_
   rw[ZE]
   kernel_rfl
  rw[e]
  exact c5d (G:=fun _=>False) _ xn xk _ v ⟨rfl,rfl⟩
 ·rintro k ⟨⟨xn,xk⟩,v⟩ st hx hst
  unfold d4i at hst
  subst hst
  rw[hF]at hx
  have hk:k<Zt (.mk n ks):=by rw[<- hlen];exact(List.getElem?_eq_some_iff.1 hx).1
  have ek:(Zq 1 (.mk n ks)).take (k+1)=(Zq 1 (.mk n ks)).take k++[(.mk xn xk,v)]:=by rw[List.take_add_one,hx];rfl
  refine b9s (G:=fun _=>False) _ xn xk _ v ⟨rfl,_,rfl,rfl,?_⟩
  unfold c0x c1p
  rw[ek,List.map_append,List.foldl_append]
  rfl
 ·rintro σ hi
  unfold c0x at hi
  subst hi
  rw[hF,List.take_length]
  exact b9g a8a n ks _ (Uv (c0n _))
 ·exact fun σ h=>h.elim
theorem c4o{t:Tm}(h:tW t=true): ∀ s∈(Xk t).flatMap Vr,s.s.length<=1048576:=by
 intro s hs
 obtain⟨p,hp,hs⟩:=List.mem_flatMap.1 hs
 unfold Xk at hp
 obtain⟨q,hq,rfl⟩:=List.mem_map.1 hp
 have hw:=Mw h hq
 unfold Vr at hs
 split at hs
 ·have:s=q.1.nd.name:=by simpa using hs
  subst this
  obtain⟨⟨n,ks⟩,l⟩:=q
  exact(ndB hw).name
 ·cases hs
theorem Fg{α β:Type}(f:α->List β)(hf : ∀ x,(f x).length<=1): ∀ l:List α,(l.flatMap f).length<=l.length
 | []=>by simp
 | a::l=>by have:=hf a;have:=Fg f hf l;rw[List.flatMap_cons,List.length_append,List.length_cons];omega
theorem a5r(t:Tm):((Xk t).flatMap Vr).length<=Zt t:=by
 have:=Fg Vr (fun x=>by unfold Vr;split <;> simp) (Xk t)
 rw[J2]at this
 exact this
def Ob(t:Tm)(k:Nat)(σ:Zu):Prop:=σ=[.obj (.box [.map 1]),.obj (.map (Z7 (WX ((((Zq 1 t).take k).map (·.1)).flatMap Vr))))]
def d3w(t:Tm)(k:Nat)(x:Tm×Int)(st:St):Prop:=st=⟨ZK 29 0 [(3,.ptr 0 0),(4,.ptr 2 0)],[.obj (.box [.map 1]),.obj (.map (Z7 (WX ((((Zq 1 t).take k).map (·.1)).flatMap Vr)))),.obj (.box (Ym x.1.nd x.1.ks))]⟩
def a7z:Xc:=fun n st q=>n=0∧BN Qe 0 (.t 7) 80 [8,9] JX Uj encNd pre_ndI F_ndI st q
theorem c0h: ∀ x:Tm×Unit,tW x.1=true->Ur Qe a7z 0 (Zb Km (Zn (K8 x.1))) JL [] (ZL c1s (encL x)):=by
 rintro⟨t,⟨⟩⟩ ht
 have ht:tW t=true:=ht
 obtain⟨n,ks⟩:=t
 rw[<- WE]
 show Ur Qe a7z 0 (Zb Km (Zn (K8 (.mk n ks)))) _ _ _
 have hsz:Zt (.mk n ks)<=1048576:=Nat.le_trans (Hl _) (of_decide_eq_true ht)
 have hlen:(Zq 1 (.mk n ks)).length=Zt (.mk n ks):=Wo _ _
 have hF:F_ndI [Jf n ks]=Zq 1 (.mk n ks):=by unfold F_ndI;rw[tmOf_nd]
 refine d2j a7z n ks ⟨?_,rfl,[1],[Jf n ks],[3],[3,4],[],⟨ZK 29 0 [(3,.ptr 0 0)],[.obj (.box [.map 1]),.obj (.map (Z7 []))]⟩,Ob (.mk n ks),fun _=>False,d3w (.mk n ks),rfl,by simp,rfl,?_,by kernel_rfl,pre_nd hsz,rfl,?_,?_,?_,?_⟩
 ·show can Tm (PV.agg (Jf n ks))=true
  rw[show(PV.agg (Jf n ks))=enc (Tm.mk n ks)from(ZE n ks).symm,Ut]
 ·intro j l ps hl hps
  match j with
  | 0=>cases hl;cases hps;rfl
  | j+1=>simp at hl
 ·rintro k ⟨⟨xn,xk⟩,v⟩ σ hx hi
  unfold Ob at hi
  subst hi
  have e:Jm [8,9] ((encNd (.mk xn xk,v)).map .pv) (ZK 29 0 [(3,.ptr 0 0)])=ZK 29 0 [(3,.ptr 0 0),(8,.pv (.agg (Jf xn xk))),(9,.pv (.int .i64 v))]:=by
   show Jm [8,9] (([enc (Tm.mk xn xk),.int .i64 v]).map .pv) _=_
   rw[ZE]
   kernel_rfl
  rw[e]
  exact c4l (G:=fun _=>False) _ xn xk _ v ⟨rfl,rfl⟩
 ·rintro k ⟨⟨xn,xk⟩,v⟩ st hx hst
  unfold d3w at hst
  subst hst
  rw[hF]at hx
  have hk:k<Zt (.mk n ks):=by rw[<- hlen];exact(List.getElem?_eq_some_iff.1 hx).1
  have ek:(Zq 1 (.mk n ks)).take (k+1)=(Zq 1 (.mk n ks)).take k++[(.mk xn xk,v)]:=by rw[List.take_add_one,hx];rfl
  have yes:(xn.kind=6∨xn.kind=8∨xn.kind=9)->Uh (enc xn.name) (PV.bool true) (Z7 (WX (((Zq 1 (.mk n ks)).take k).map (·.1) |>.flatMap Vr)))=true∧Ob (.mk n ks) (k+1) [.obj (.box [.map 1]),.obj (.map (WA (enc xn.name) (PV.bool true) (Z7 (WX (((Zq 1 (.mk n ks)).take k).map (·.1) |>.flatMap Vr)))))]:=fun h=>by
   refine⟨(Gw _ xn.name).1,?_⟩
   unfold Ob
   rw[show WA (enc xn.name) (PV.bool true) (Z7 (WX (((Zq 1 (.mk n ks)).take k).map (·.1) |>.flatMap Vr)))=_ from(Gw _ xn.name).2,ek,List.map_append,List.flatMap_append]
   unfold WX
   rw[List.foldl_append,List.map_cons,List.map_nil,List.flatMap_cons,List.flatMap_nil]
   rw[show Vr (.mk xn xk)=[xn.name]from if_pos h]
   rfl
  have no : ¬ (xn.kind=6∨xn.kind=8∨xn.kind=9)->Ob (.mk n ks) (k+1) [.obj (.box [.map 1]),.obj (.map (Z7 (WX (((Zq 1 (.mk n ks)).take k).map (·.1) |>.flatMap Vr))))]:=fun h=>by
   unfold Ob
   rw[ek,List.map_append,List.flatMap_append,List.map_cons,List.map_nil,List.flatMap_cons,List.flatMap_nil,show Vr (.mk xn xk)=[]from if_neg h]
   simp
  refine c0e (G:=fun _=>False) _ xn xk _ v (XA (fun h1=>⟨(yes (.inl h1)).1,rfl,_,rfl,rfl,(yes (.inl h1)).2⟩) fun h1=>XA (fun h2=>⟨(yes (.inr (.inl h2))).1,rfl,_,rfl,rfl,(yes (.inr (.inl h2))).2⟩) fun h2=>XA (fun h3=>⟨(yes (.inr (.inr h3))).1,rfl,_,rfl,rfl,(yes (.inr (.inr h3))).2⟩) fun h3=>⟨rfl,_,rfl,rfl,no (by rintro(h|h|h);exact h1 h;exact h2 h;exact h3 h)⟩)
 ·rintro σ hi
  unfold Ob at hi
  subst hi
  rw[hF,List.take_length]
  refine c3k a7z n ks _ ⟨?_,?_⟩
  ·show(79==79&&KC (Z7 (WX ((Xk (.mk n ks)).flatMap Vr))))=true
   rw[b0h (c4o ht) (by have:=a5r (.mk n ks);omega)]
   simp
  ·show Zn _ (PV.sl 1 false (List.map PV.str (Xd (List.map Vw (Z7 (WX ((Xk (.mk n ks)).flatMap Vr)))))))
   rw[NZ]
   exact KL rfl
 ·exact fun σ h=>h.elim
end Go.Pl
namespace Go.Pl
open Go.RowKit
end Go.Pl
namespace Go.Pl
open Go.RowKit
open Enc (enc dec is)
open EncL (encL decL isL)
set_option maxRecDepth 100000
noncomputable def E5:IC:=XU Proofs.Tryz.f57
def F3:List IRes:=[(.tmp 2)]
abbrev d1x:Nat:=4
def b8x:ZA:=Yn []
theorem d3o{G:AV×List AObj×List AObj->Prop}(es:List (PV×PV))(h:G (((.fn 79 [] [(.ptr 1 0)]),([(.map es)],[(.box [(.map 0)])])))):Zc b8x 1 (Yc 1 F3 G) E5 [] (Wq 4 [.map 0] [.map es]):=Zc.to (.nil) h
end Go.Pl
namespace Go.Pl
open Go.RowKit
open Enc (enc dec is)
open EncL (encL decL isL)
open Go.Proofs.YtgdebdgkofkeeaaGreatDoor (encNd pre_ndI F_ndI tmOf_nd pre_nd)
theorem c2x: ∀ args os,Qt args os=true->Zc b8x os.length (Yc os.length F3 fun r=>r=Kl 79 args os) E5 [] (Wq d1x args os):=by
 intro args os h
 unfold Qt at h
 split at h
 ·exact d3o _ rfl
 ·cases h
end Go.Pl
namespace Go.Pl
open Go.RowKit
open Enc (enc dec is)
open EncL (encL decL isL)
set_option maxRecDepth 100000
abbrev d4x(ps:List PV)(k:Arr×Int->Prop):Prop:=WN (fun(x:Str×List Int×List Int×Unit)=>decide (List.length (Prod.fst (Prod.snd x))<=2000000)&&decide (List.length (Prod.fst (Prod.snd (Prod.snd x)))<=2000000)) (fun(x:Str×List Int×List Int×Unit)=>QL (Prod.fst x) (Prod.fst (Prod.snd x)) (Prod.fst (Prod.snd (Prod.snd x)))) ps k
noncomputable def a8o:IC:=XU Proofs.Tryz.f173
def b6q:List IRes:=[(.tmp 4)]
abbrev c9u:Nat:=22
def c7y:ZA:=Yn []
theorem d5c{G:PV->Prop}(e:List UInt8)(n:Int)(h:if (e==[(105:UInt8),(110:UInt8),(116:UInt8)])=true then if (decide (n ≥ (-2147483648:Int)))=true then G ((.bool (decide (n<=2147483647))))else(G ((.bool false)))else(if (e==[(98:UInt8),(111:UInt8),(111:UInt8),(108:UInt8)])=true then if (n==0)=true then G ((.bool true))else(G ((.bool (n==1))))else(G ((.bool false))))):Zc c7y 0 (Zb b6q G) a8o [] (ZL 22 [.str e,.int .i64 n]):=Zc.tp (dm [] 36 0x2220220034200c4202202220044200c42) h
noncomputable def Ep:IC:=XU Proofs.Tryz.f172
def OU:List IRes:=[(.tmp 3)]
abbrev c9v:Nat:=8
def b8d:ZA:=Yn [(173,.pure (preT (fun _:Str×Int×Unit=>true)) (Zi (fun x:Str×Int×Unit=>Xl x.1 x.2.1)))]
theorem d6g{G:AV×List AObj×List AObj->Prop}(e:List UInt8)(n:Int)(h : ∃ y0:Bool,AV.pv (Zi (fun(x:Str×Int×Unit)=>Xl x.1 x.2.1) [(.str e),(.int .i64 n)])=AV.pv (enc y0)∧(G (((.pv (.bool !y0)),([(.box [(.pv (.str e))])],[]))))):Zc b8d 1 (Yc 1 OU G) Ep [] (Wq 8 [.pv (.int .i64 n),.ptr 0 0] [.box [.pv (.str e)]]):=Zc.to (.lit (.abs (Bool) (fun YY=>AV.pv (enc YY)) (.nil))) h
noncomputable def Jo:IC:=JC
def Ji:List IRes:=[(.tmp 4)]
abbrev b7z:Nat:=19
def CR:ZA:=Yn [(172,.own CK PM)]
theorem d4k{G:AV×List AObj×List AObj->Prop}(e:List UInt8)(l:List Int)(t:Bool)(h:At CR 1 (Yc 1 Ji G) Jo 0 19 [(0,(.pv (.sl 1 t (List.map enc l)))),(1,(.fn 172 [] [(.ptr 0 0)])),(7,(.pv (.int .i64 (↑(List.length (List.map enc l)):Int)))),(8,(.pv (.int .i64 0)))] [(.obj (.box [(.pv (.str e))]))]):Zc CR 1 (Yc 1 Ji G) Jo [] (Wq 19 [.pv (.sl 1 t (l.map enc)),.fn 172 [] [.ptr 0 0]] [.box [.pv (.str e)]]):=Zc.to (.nil) h
theorem b8c{G:AV×List AObj×List AObj->Prop}(e:List UInt8)(l:List Int)(t:Bool)(i:Int)(h:if (decide (i<(↑(List.length l):Int)))=true then(decide (0<=i)&&decide (Int.toNat i<List.length (List.map enc l))&&1==1)=true∧(∃ y0:Int,AV.pv (PV.rptr (PV.cells (List.getD (List.map enc l) (Int.toNat i) default)))=AV.pv (PV.rptr (PV.cells ((enc) y0)))∧(if (!Xl (Str.mk e) (PV.asInt (List.getD (PV.cells (enc y0)) 0 default)))=true then G (((.pv (.int .i64 i)),([(.box [(.pv (.str e))])],[])))else(At CR 1 (Yc 1 Ji G) Jo 0 19 [(0,(.pv (.sl 1 t (List.map enc l)))),(1,(.fn 172 [] [(.ptr 0 0)])),(7,(.pv (.int .i64 (↑(List.length l):Int)))),(8,(.pv (.int .i64 (IntKind.wrap IntKind.i64 (i+1)))))] [(.obj (.box [(.pv (.str e))]))])))else(G (((.pv (.int .i64 (-1))),([(.box [(.pv (.str e))])],[]))))):At CR 1 (Yc 1 Ji G) Jo 0 19 [(0,.pv (.sl 1 t (l.map enc))),(1,.fn 172 [] [.ptr 0 0]),(7,.pv (.int .i64 l.length)),(8,.pv (.int .i64 i))] [.obj (.box [.pv (.str e)])]:=At.to (dm [dr Int] 19 0x2000143225100c42) h
noncomputable def EH:IC:=Ex
def OC:List IRes:=[(.tmp 4)]
abbrev d0s:Nat:=9
def b0x:ZA:=Yn [(144,.own WK Cv)]
theorem d7s{G:AV×List AObj×List AObj->Prop}(e:List UInt8)(l:List Int)(t:Bool)(h:(WK [(.pv (.sl 1 t (List.map enc l))),(.fn 172 [] [(.ptr 0 0)])] [(.box [(.pv (.str e))])])=true∧(G (((.pv (.bool (decide (UD (Str.mk e) (List.map dec (List.map enc l)) 0 ≥ 0)))),([(.box [(.pv (.str e))])],[]))))):Zc b0x 1 (Yc 1 OC G) EH [] (Wq 9 [.pv (.sl 1 t (l.map enc)),.fn 172 [] [.ptr 0 0]] [.box [.pv (.str e)]]):=Zc.to (.req (.keep (.lit (.nil)))) h
noncomputable def D7:IC:=XU Proofs.Tryz.f143
def DN:List IRes:=[(.tmp 4)]
abbrev M4:Nat:=9
def Bz:ZA:=Yn [(113,.own WK PP)]
theorem Ew{G:PV->Prop}(e:List UInt8)(l:List Int)(h:(WK [(.pv (.sl 1 false (List.map enc l))),(.fn 172 [] [(.ptr 0 0)])] [(.box [(.pv (.str e))])])=true∧(G ((.bool (!decide (0<=UD (Str.mk e) (List.map dec (List.map enc l)) 0)))))):Zc Bz 0 (Zb DN G) D7 [] (ZL 9 [.str e,enc l]):=Zc.tp (.req (.keep (.nil))) h
noncomputable def a1k:IC:=XU Proofs.Tryz.f112
def a2m:List IRes:=[(.cell true 3 6),(.tmp 7)]
abbrev c2k:Nat:=45
def b0b:ZA:=Yn [(142,.pure (preT (fun _:List Int×Unit=>true)) (Zi (fun x:List Int×Unit=>YD x.1))),(143,.pure (preT (fun x:Str×List Int×Unit=>decide (x.2.1.length<=2000000))) (Zi (fun x:Str×List Int×Unit=>x.2.1.all (Xl x.1)))),(93,.pure (preT (fun x:List Int×Unit=>decide (x.1.length<=2000000))) (Zi (fun x:List Int×Unit=>x.1)))]
theorem d2e{G:PV->Prop}(e:List UInt8)(d x:List Int)(h:if (!e==[(105:UInt8),(110:UInt8),(116:UInt8)])=true then if (!e==[(98:UInt8),(111:UInt8),(111:UInt8),(108:UInt8)])=true then G ((.tup [(.agg [(.str []),(.sl 0 true []),(.sl 0 true [])]),(.int .i64 12)]))else((Go.Pl.preT (fun(x:List Int×Unit)=>true) [(.sl 1 false (List.map enc d))])=true∧(∃ y0:Int×Int,AV.pv (Zi (fun(x:List Int×Unit)=>YD x.1) [(.sl 1 false (List.map enc d))])=AV.pv (enc y0)∧(if (y0.2 != 0)=true then G ((.tup [(.agg [(.str []),(.sl 0 true []),(.sl 0 true [])]),(.int .i64 y0.2)]))else(if ((↑(List.length (List.map enc x)):Int) != y0.1)=true then G ((.tup [(.agg [(.str []),(.sl 0 true []),(.sl 0 true [])]),(.int .i64 1)]))else((Go.Pl.preT (fun(x:Str×List Int×Unit)=>decide (List.length x.2.1<=2000000)) [(.str e),(.sl 1 false (List.map enc x))])=true∧(∃ y1:Bool,AV.pv (Zi (fun(x:Str×List Int×Unit)=>List.all x.2.1 (Xl x.1)) [(.str e),(.sl 1 false (List.map enc x))])=AV.pv (enc y1)∧(if (!y1)=true then G ((.tup [(.agg [(.str []),(.sl 0 true []),(.sl 0 true [])]),(.int .i64 2)]))else((Go.Pl.preT (fun(x:List Int×Unit)=>decide (List.length x.1<=2000000)) [(.sl 1 false (List.map enc d))])=true∧(∃ y2:List Int,AV.pv (Zi (fun(x:List Int×Unit)=>x.1) [(.sl 1 false (List.map enc d))])=AV.pv (enc y2)∧((Go.Pl.preT (fun(x:List Int×Unit)=>decide (List.length x.1<=2000000)) [(.sl 1 false (List.map enc x))])=true∧(∃ y3:List Int,AV.pv (Zi (fun(x:List Int×Unit)=>x.1) [(.sl 1 false (List.map enc x))])=AV.pv (enc y3)∧(G ((.tup [(.agg [(.str e),(.sl 1 false (List.map enc y2)),(.sl 1 false (List.map enc y3))]),(.int .i64 0)]))))))))))))))else((Go.Pl.preT (fun(x:List Int×Unit)=>true) [(.sl 1 false (List.map enc d))])=true∧(∃ y4:Int×Int,AV.pv (Zi (fun(x:List Int×Unit)=>YD x.1) [(.sl 1 false (List.map enc d))])=AV.pv (enc y4)∧(if (y4.2 != 0)=true then G ((.tup [(.agg [(.str []),(.sl 0 true []),(.sl 0 true [])]),(.int .i64 y4.2)]))else(if ((↑(List.length (List.map enc x)):Int) != y4.1)=true then G ((.tup [(.agg [(.str []),(.sl 0 true []),(.sl 0 true [])]),(.int .i64 1)]))else((Go.Pl.preT (fun(x:Str×List Int×Unit)=>decide (List.length x.2.1<=2000000)) [(.str e),(.sl 1 false (List.map enc x))])=true∧(∃ y5:Bool,AV.pv (Zi (fun(x:Str×List Int×Unit)=>List.all x.2.1 (Xl x.1)) [(.str e),(.sl 1 false (List.map enc x))])=AV.pv (enc y5)∧(if (!y5)=true then G ((.tup [(.agg [(.str []),(.sl 0 true []),(.sl 0 true [])]),(.int .i64 2)]))else((Go.Pl.preT (fun(x:List Int×Unit)=>decide (List.length x.1<=2000000)) [(.sl 1 false (List.map enc d))])=true∧(∃ y6:List Int,AV.pv (Zi (fun(x:List Int×Unit)=>x.1) [(.sl 1 false (List.map enc d))])=AV.pv (enc y6)∧((Go.Pl.preT (fun(x:List Int×Unit)=>decide (List.length x.1<=2000000)) [(.sl 1 false (List.map enc x))])=true∧(∃ y7:List Int,AV.pv (Zi (fun(x:List Int×Unit)=>x.1) [(.sl 1 false (List.map enc x))])=AV.pv (enc y7)∧(G ((.tup [(.agg [(.str e),(.sl 1 false (List.map enc y6)),(.sl 1 false (List.map enc y7))]),(.int .i64 0)]))))))))))))))):Zc b0b 0 (Zb a2m G) a1k [] (ZL 45 [.str e,enc d,enc x]):=Zc.tp (dm [dv (Int×Int),dv Bool,dv (List Int)] 69 0x7171000146100014200014251222071710001461000142000142510001422202242) h
noncomputable def b5k:IC:=XU Proofs.Tryz.f85
def b3t:List IRes:=[(.tmp 2)]
abbrev d0f:Nat:=17
def c5z:ZA:=Yn [(112,.pure (preT (fun x:Str×List Int×List Int×Unit=>decide (x.2.1.length<=2000000)&&decide (x.2.2.1.length<=2000000))) (Zi (fun x:Str×List Int×List Int×Unit=>QL x.1 x.2.1 x.2.2.1)))]
theorem d5p{G:PV->Prop}(a:Arr)(h:(d4x [(.str (Str.s (Arr.e a))),(.sl 1 false (List.map enc (Arr.d a))),(.sl 1 false (List.map enc (Arr.x a)))] fun y0=>(G ((.bool (y0.2==0)))))):Zc c5z 0 (Zb b3t G) b5k [] (ZL 17 [enc a]):=Zc.tp (.req (.abs (Arr×Int) (fun YY=>AV.pv (enc YY)) (.lit (.nil)))) h
end Go.Pl
namespace Go.Pl
open Go.RowKit
open Enc (enc dec is)
open EncL (encL decL isL)
theorem c2y: ∀ a:Str×Int×Unit,true=true->Zc c7y 0 (Zb b6q (Zn (Xl a.1 a.2.1))) a8o [] (ZL c9u (encL a)):=by
 rintro⟨⟨e⟩,n,⟨⟩⟩ _
 refine d5c e n ?_
 simp only[beq_iff_eq,decide_eq_true_eq,Zn,a4b,Fa,true_and,Xl,UG,XO,ge_iff_le]
 split
 ·split <;> simp[*]
 ·split
  ·split <;> simp[*]
  ·simp[*]
theorem c2w: ∀ args os,CK args os=true->Zc b8d os.length (Yc os.length OU fun r=>r=PM args os) Ep [] (Wq c9v args os):=by
 intro args os hp
 unfold CK at hp
 split at hp
 ·rename_i n e
  refine d6g e n ?_
  exact Zf (⟨e⟩,n,()) rfl rfl
 ·cases hp
theorem Bj(e:Str): ∀ (l:List Int) (k:Nat),decide (0<=UD e l k) = !l.all (Xl e)
 | [],k=>by simp[UD]
 | n::l,k=>by
  simp only[UD,List.all_cons]
  by_cases h:Xl e n=true
  ·simp only[h,if_true,Bool.true_and];exact Bj e l (k+1)
  ·simp only[Bool.not_eq_true]at h;simp[h]
theorem b1f(e:List UInt8)(l:List Int)(t:Bool)(hl:l.length<=2000000)(r:AV×List AObj×List AObj): ∀ (m k:Nat),m+k=l.length->r=(.pv (.int .i64 (UD ⟨e⟩ (l.drop k) k)),[.box [.pv (.str e)]],[]) ->
  At CR 1 (Yc 1 Ji fun x=>x=r) Jo 0 b7z [(0,.pv (.sl 1 t (l.map enc))),(1,.fn 172 [] [.ptr 0 0]),(7,.pv (.int .i64 l.length)),(8,.pv (.int .i64 k))] [.obj (.box [.pv (.str e)])]:=by
 intro m
 induction m with
 | zero=>
  intro k hk hr
  refine b8c e l t k ?_
  rw[if_neg (by simp;omega),hr,List.drop_of_length_le (by omega)]
  rfl
 | succ m ih=>
  intro k hk hr
  have hlt:k<l.length:=by omega
  refine b8c e l t k ?_
  rw[if_pos (by simp;omega)]
  refine⟨by simp;omega,l[k],by rw[Q7 _ hlt],?_⟩
  rw[List.drop_eq_getElem_cons hlt,UD]at hr
  show if (!Xl ⟨e⟩ l[k])=true then _ else _
  cases h:Xl ⟨e⟩ l[k]with
  | true=>
   rw[if_neg (by simp),next (by omega)]
   rw[h,if_pos rfl]at hr
   exact ih (k+1) (by omega) hr
  | false=>
   rw[if_pos (by decide)]
   rw[h,if_neg (by simp)]at hr
   exact hr.symm
theorem c0y: ∀ args os,WK args os=true->Zc CR os.length (Yc os.length Ji fun r=>r=Cv args os) Jo [] (Wq b7z args os):=by
 intro args os hp
 unfold WK at hp
 split at hp
 ·rename_i t xs e
  simp only[Bool.and_eq_true,decide_eq_true_eq]at hp
  rw[a2h hp.1]
  have hl:(xs.map (dec:PV->Int)).length<=2000000:=by simpa using hp.2
  generalize xs.map (dec:PV->Int)=l at hl ⊢
  refine d4k e l t ?_
  rw[List.length_map]
  refine b1f e l t hl _ l.length 0 (by omega) ?_
  simp[Cv]
 ·cases hp
theorem c1x: ∀ args os,WK args os=true->Zc b0x os.length (Yc os.length OC fun r=>r=PP args os) EH [] (Wq d0s args os):=by
 intro args os hp
 have hp':=hp
 unfold WK at hp
 split at hp
 ·rename_i t xs e
  simp only[Bool.and_eq_true,decide_eq_true_eq]at hp
  rw[a2h hp.1]at hp' ⊢
  exact d7s e _ t ⟨hp',rfl⟩
 ·cases hp
theorem Nh: ∀ a:Str×List Int×Unit,decide (a.2.1.length<=2000000)=true->Zc Bz 0 (Zb DN (Zn (a.2.1.all (Xl a.1)))) D7 [] (ZL M4 (encL a)):=by
 rintro⟨⟨e⟩,l,⟨⟩⟩ hp
 refine Ew e l ⟨?_,rfl,?_⟩
 ·simpa [WK]using hp
 ·simp[Bj]
theorem b7d: ∀ a:Str×List Int×List Int×Unit,(decide (a.2.1.length<=2000000)&&decide (a.2.2.1.length<=2000000))=true->Zc b0b 0 (Zb a2m (Zn (QL a.1 a.2.1 a.2.2.1))) a1k [] (ZL c2k (encL a)):=by
 rintro⟨⟨e⟩,d,x,⟨⟩⟩ hp
 simp only[Bool.and_eq_true,decide_eq_true_eq]at hp
 refine d2e e d x ?_
 have hp1:=hp.1
 have hp2:=hp.2
 simp only[preT,Zi,Fw,a0p,Ti,LG,c5v,Ao,b3a,a1j,b3h,DY,List.isEmpty_iff,Bool.and_true,beq_self_eq_true,Bool.or_true,Bool.true_and,decide_eq_true_eq,AV.pv.injEq,b4m,exists_eq_left',hp1,hp2,true_and,Enc.sz,List.length_map,Zn,c8k,d1v,c9a,c0f,b9f,c4g,List.all_nil,List.isEmpty_nil,Bool.true_or,List.map_nil,Bool.not_eq_true',beq_eq_false_iff_ne,bne_iff_ne,QL,UG,XO]
 by_cases h1:e=[105,110,116]
 ·simp only[h1,ne_eq,not_true,if_false,false_and]
  split
  ·rfl
  ·split
   ·rfl
   ·split
    ·simp_all
    ·simp_all
 ·simp only[h1,ne_eq,not_false_eq_true,if_true,true_and]
  split
  ·rfl
  ·split
   ·rfl
   ·split
    ·rfl
    ·split
     ·simp_all
     ·simp_all
theorem c2o: ∀ a:Arr×Unit,Ci a.1=true->Zc c5z 0 (Zb b3t (Zn (Cf a.1))) b5k [] (ZL d0f (encL a)):=by
 rintro⟨a,⟨⟩⟩ hp
 refine d5p a ⟨Ze (a.e,a.d,a.x,()) rfl hp,Zf (a.e,a.d,a.x,()) rfl ?_⟩
 exact⟨rfl,rfl⟩
end Go.Pl
namespace Go.Pl
open Go.RowKit
set_option maxRecDepth 100000
def Z9:IC:=(XY [Zw 2 (.mv (Wx 0)) 0,Zw 3 (.mv (Wx 0)) 0] (.seq (XY [Zw 8 (YX 0) 0,Zw 9 (.len 1 (.t 8)) 0,Zw 10 (QQ .gtr (.t 9) (Wx 6)) 0] (.cond (.t 10) (XY [Zw 2 (.mv (Wx 0)) 0,Zw 3 (.mv (Wx 13)) 0] .ret) .skip)) (XY [Zw 4 (f'' false) 0] (.seq (XY [Zw 5 (.mv (Wx 0)) 0] (.block 0 (.loop [5,0,4] (.seq (XY [Zw 11 (YX 5) 0,Zw 12 (YX 0) 0,Zw 13 (.len 1 (.t 12)) 0,Zw 14 (QQ .lss (.t 11) (.t 13)) 0] (.cond (.t 14) .skip (.exit 0))) (.seq (.block 1 (.seq (XY [Zw 17 (YX 0) 0,Zw 18 (YX 5) 0,Zw 19 (.iaddr 1 (.t 17) (.t 18)) 0,Zw 20 (DF [(.int .i64)] (.t 19)) 0,Zw 21 (QQ .lss (.t 20) (Wx 0)) 0,Zw 22 (YX 21) 0,AP 23 (YX 0) 0 22,AP 24 (YX 5) 0 22,AP 25 (.iaddr 1 (.t 23) (.t 24)) 0 22,AP 26 (DF [(.int .i64)] (.t 25)) 0 22,AP 27 (QQ .gtr (.t 26) (Wx 4096)) 0 22,Zw 28 (.pick (.t 22) (.c (.bool true)) (.t 27)) 0] (.cond (.t 28) (XY [Zw 2 (.mv (Wx 0)) 0,Zw 3 (.mv (Wx 2)) 0] .ret) .skip)) (.reg [Zw 29 (YX 4) 0,Zw 30 (YX 29) 0,AP 31 (YX 0) 0 30,AP 32 (YX 5) 0 30,AP 33 (.iaddr 1 (.t 31) (.t 32)) 0 30,AP 34 (DF [(.int .i64)] (.t 33)) 0 30,AP 35 (QQ .eql (.t 34) (Wx 0)) 0 30,Zw 36 (.pick (.t 30) (.c (.bool true)) (.t 35)) 0,Zw 4 (YX 36) 0] none))) (.reg [Zw 15 (YX 5) 0,Zw 16 (QQ .add (.t 15) (Wx 1)) 0,Zw 5 (YX 16) 0] none)))))) (.seq (XY [Zw 37 (YX 4) 0] (.cond (.t 37) (XY [Zw 2 (.mv (Wx 0)) 0,Zw 3 (.mv (Wx 0)) 0] .ret) .skip)) (XY [Zw 6 (.mv (Wx 1)) 0] (.seq (XY [Zw 7 (.mv (Wx 0)) 0] (.block 2 (.loop [7,0,6] (.seq (XY [Zw 38 (YX 7) 0,Zw 39 (YX 0) 0,Zw 40 (.len 1 (.t 39)) 0,Zw 41 (QQ .lss (.t 38) (.t 40)) 0] (.cond (.t 41) .skip (.exit 2))) (.seq (.block 3 (XY [Zw 44 (YX 6) 0,Zw 45 (YX 0) 0,Zw 46 (YX 7) 0,Zw 47 (.iaddr 1 (.t 45) (.t 46)) 0,Zw 48 (DF [(.int .i64)] (.t 47)) 0,Zw 49 (QQ .mul (.t 44) (.t 48)) 0,Zw 6 (YX 49) 0] (XY [Zw 50 (YX 6) 0,Zw 51 (QQ .gtr (.t 50) (Wx 4096)) 0] (.cond (.t 51) (XY [Zw 2 (.mv (Wx 0)) 0,Zw 3 (.mv (Wx 3)) 0] .ret) .skip)))) (.reg [Zw 42 (YX 7) 0,Zw 43 (QQ .add (.t 42) (Wx 1)) 0,Zw 7 (YX 43) 0] none)))))) (XY [Zw 52 (YX 6) 0,Zw 2 (YX 52) 0,Zw 3 (.mv (Wx 0)) 0] .ret))))))))
def Yb:List IRes:=[(.tmp 2),(.tmp 3)]
def Yo:ZA:=Yn []
theorem a7f{r:PV}(ns:List Int)(t:Bool)(h0:(decide ((↑(Zk ns).length:Int)>6))=true)(hr:(.tup [(.int .i64 0),(.int .i64 13)])=r):Zc Yo 0 (fun st=>fin st Yb=some r) Z9 [] (ZL 53 [.sl 1 t (Zk ns)]):=Zc.w (.lit (.ans true (.nil))) (And.intro h0 hr) (by kernel_rfl)
theorem a5t{r:PV}(ns:List Int)(t:Bool)(h0:(decide ((↑(Zk ns).length:Int)>6))=false)(hn:At Yo 0 (fun st=>fin st Yb=some r) Z9 0 53 [(0,(.pv (.sl 1 t (Zk ns)))),(4,(.pv (.bool false))),(5,(.pv (.int .i64 0)))] []):Zc Yo 0 (fun st=>fin st Yb=some r) Z9 [] (ZL 53 [.sl 1 t (Zk ns)]):=Zc.w (.lit (.ans false (.nil))) (And.intro h0 hn) (by kernel_rfl)
theorem ET{r:PV}(ns:List Int)(t:Bool)(i:Int)(z:Bool)(h0:(decide (i<(↑(Zk ns).length:Int)))=true)(h1:(decide (0<=i)&&decide (i.toNat<(Zk ns).length)&&1==1)=true)(h2:(decide (0+[Sh.int .i64].length<=((Zk ns).getD i.toNat default).cells.length)&&Yg ((Zk ns).getD i.toNat default).cells 0 [Sh.int .i64])=true)(h3:(decide ((((Zk ns).getD i.toNat default).cells.getD 0 default).asInt<0))=true)(hr:(.tup [(.int .i64 0),(.int .i64 2)])=r):At Yo 0 (fun st=>fin st Yb=some r) Z9 0 53 [(0,.pv (.sl 1 t (Zk ns))),(4,.pv (.bool z)),(5,.pv (.int .i64 i))] []:=At.w (.lit (.ans true (.req (.req (.lit (.ans true (.lit (.lit (.lit (.lit (.lit (.lit (.nil))))))))))))) (And.intro h0 (And.intro h1 (And.intro h2 (And.intro h3 hr)))) (by kernel_rfl)
theorem OY{r:PV}(ns:List Int)(t:Bool)(i:Int)(z:Bool)(h0:(decide (i<(↑(Zk ns).length:Int)))=true)(h1:(decide (0<=i)&&decide (i.toNat<(Zk ns).length)&&1==1)=true)(h2:(decide (0+[Sh.int .i64].length<=((Zk ns).getD i.toNat default).cells.length)&&Yg ((Zk ns).getD i.toNat default).cells 0 [Sh.int .i64])=true)(h3:(decide ((((Zk ns).getD i.toNat default).cells.getD 0 default).asInt<0))=false)(h4:(decide ((((Zk ns).getD i.toNat default).cells.getD 0 default).asInt>4096))=true)(hr:(.tup [(.int .i64 0),(.int .i64 2)])=r):At Yo 0 (fun st=>fin st Yb=some r) Z9 0 53 [(0,.pv (.sl 1 t (Zk ns))),(4,.pv (.bool z)),(5,.pv (.int .i64 i))] []:=At.w (.lit (.ans true (.req (.req (.lit (.ans false (.lit (.lit (.req (.lit (.req (.lit (.lit (.lit (.ans true (.nil)))))))))))))))) (And.intro h0 (And.intro h1 (And.intro h2 (And.intro h3 (And.intro h1 (And.intro h2 (And.intro h4 hr))))))) (by kernel_rfl)
theorem EX{r:PV}(ns:List Int)(t:Bool)(i:Int)(z:Bool)(h0:(decide (i<(↑(Zk ns).length:Int)))=true)(h1:(decide (0<=i)&&decide (i.toNat<(Zk ns).length)&&1==1)=true)(h2:(decide (0+[Sh.int .i64].length<=((Zk ns).getD i.toNat default).cells.length)&&Yg ((Zk ns).getD i.toNat default).cells 0 [Sh.int .i64])=true)(h3:(decide ((((Zk ns).getD i.toNat default).cells.getD 0 default).asInt<0))=false)(h4:(decide ((((Zk ns).getD i.toNat default).cells.getD 0 default).asInt>4096))=false)(h5:(z)=true)(hn:At Yo 0 (fun st=>fin st Yb=some r) Z9 0 53 [(0,(.pv (.sl 1 t (Zk ns)))),(4,(.pv (.bool true))),(5,(.pv (.int .i64 (IntKind.i64.wrap (i+1)))))] []):At Yo 0 (fun st=>fin st Yb=some r) Z9 0 53 [(0,.pv (.sl 1 t (Zk ns))),(4,.pv (.bool z)),(5,.pv (.int .i64 i))] []:=At.w (.lit (.ans true (.req (.req (.lit (.ans false (.lit (.lit (.req (.lit (.req (.lit (.lit (.lit (.ans false (.ans true (.lit (.lit (.lit (.lit (.lit (.lit (.nil))))))))))))))))))))))) (And.intro h0 (And.intro h1 (And.intro h2 (And.intro h3 (And.intro h1 (And.intro h2 (And.intro h4 (And.intro h5 hn)))))))) (by kernel_rfl)
theorem EF{r:PV}(ns:List Int)(t:Bool)(i:Int)(z:Bool)(h0:(decide (i<(↑(Zk ns).length:Int)))=true)(h1:(decide (0<=i)&&decide (i.toNat<(Zk ns).length)&&1==1)=true)(h2:(decide (0+[Sh.int .i64].length<=((Zk ns).getD i.toNat default).cells.length)&&Yg ((Zk ns).getD i.toNat default).cells 0 [Sh.int .i64])=true)(h3:(decide ((((Zk ns).getD i.toNat default).cells.getD 0 default).asInt<0))=false)(h4:(decide ((((Zk ns).getD i.toNat default).cells.getD 0 default).asInt>4096))=false)(h5:(z)=false)(hn:At Yo 0 (fun st=>fin st Yb=some r) Z9 0 53 [(0,(.pv (.sl 1 t (Zk ns)))),(4,(.pv (.bool ((((Zk ns).getD i.toNat default).cells.getD 0 default).asInt==0)))),(5,(.pv (.int .i64 (IntKind.i64.wrap (i+1)))))] []):At Yo 0 (fun st=>fin st Yb=some r) Z9 0 53 [(0,.pv (.sl 1 t (Zk ns))),(4,.pv (.bool z)),(5,.pv (.int .i64 i))] []:=At.w (.lit (.ans true (.req (.req (.lit (.ans false (.lit (.lit (.req (.lit (.req (.lit (.lit (.lit (.ans false (.ans false (.lit (.lit (.req (.lit (.req (.lit (.lit (.lit (.lit (.nil)))))))))))))))))))))))))) (And.intro h0 (And.intro h1 (And.intro h2 (And.intro h3 (And.intro h1 (And.intro h2 (And.intro h4 (And.intro h5 (And.intro h1 (And.intro h2 hn)))))))))) (by kernel_rfl)
theorem EU{r:PV}(ns:List Int)(t:Bool)(i:Int)(z:Bool)(h0:(decide (i<(↑(Zk ns).length:Int)))=false)(h1:(z)=true)(hr:(.tup [(.int .i64 0),(.int .i64 0)])=r):At Yo 0 (fun st=>fin st Yb=some r) Z9 0 53 [(0,.pv (.sl 1 t (Zk ns))),(4,.pv (.bool z)),(5,.pv (.int .i64 i))] []:=At.w (.lit (.ans false (.ans true (.nil)))) (And.intro h0 (And.intro h1 hr)) (by kernel_rfl)
theorem Ox{r:PV}(ns:List Int)(t:Bool)(i:Int)(z:Bool)(h0:(decide (i<(↑(Zk ns).length:Int)))=false)(h1:(z)=false)(hn:At Yo 0 (fun st=>fin st Yb=some r) Z9 1 53 [(0,(.pv (.sl 1 t (Zk ns)))),(6,(.pv (.int .i64 1))),(7,(.pv (.int .i64 0)))] []):At Yo 0 (fun st=>fin st Yb=some r) Z9 0 53 [(0,.pv (.sl 1 t (Zk ns))),(4,.pv (.bool z)),(5,.pv (.int .i64 i))] []:=At.w (.lit (.ans false (.ans false (.nil)))) (And.intro h0 (And.intro h1 hn)) (by kernel_rfl)
theorem Eg{r:PV}(ns:List Int)(t:Bool)(i n:Int)(h0:(decide (i<(↑(Zk ns).length:Int)))=true)(h1:(decide (0<=i)&&decide (i.toNat<(Zk ns).length)&&1==1)=true)(h2:(decide (0+[Sh.int .i64].length<=((Zk ns).getD i.toNat default).cells.length)&&Yg ((Zk ns).getD i.toNat default).cells 0 [Sh.int .i64])=true)(h3:(decide (IntKind.i64.wrap (n*(((Zk ns).getD i.toNat default).cells.getD 0 default).asInt)>4096))=true)(hr:(.tup [(.int .i64 0),(.int .i64 3)])=r):At Yo 0 (fun st=>fin st Yb=some r) Z9 1 53 [(0,.pv (.sl 1 t (Zk ns))),(6,.pv (.int .i64 n)),(7,.pv (.int .i64 i))] []:=At.w (.lit (.ans true (.req (.req (.lit (.lit (.ans true (.nil)))))))) (And.intro h0 (And.intro h1 (And.intro h2 (And.intro h3 hr)))) (by kernel_rfl)
theorem Ot{r:PV}(ns:List Int)(t:Bool)(i n:Int)(h0:(decide (i<(↑(Zk ns).length:Int)))=true)(h1:(decide (0<=i)&&decide (i.toNat<(Zk ns).length)&&1==1)=true)(h2:(decide (0+[Sh.int .i64].length<=((Zk ns).getD i.toNat default).cells.length)&&Yg ((Zk ns).getD i.toNat default).cells 0 [Sh.int .i64])=true)(h3:(decide (IntKind.i64.wrap (n*(((Zk ns).getD i.toNat default).cells.getD 0 default).asInt)>4096))=false)(hn:At Yo 0 (fun st=>fin st Yb=some r) Z9 1 53 [(0,(.pv (.sl 1 t (Zk ns)))),(6,(.pv (.int .i64 (IntKind.i64.wrap (n*(((Zk ns).getD i.toNat default).cells.getD 0 default).asInt))))),(7,(.pv (.int .i64 (IntKind.i64.wrap (i+1)))))] []):At Yo 0 (fun st=>fin st Yb=some r) Z9 1 53 [(0,.pv (.sl 1 t (Zk ns))),(6,.pv (.int .i64 n)),(7,.pv (.int .i64 i))] []:=At.w (.lit (.ans true (.req (.req (.lit (.lit (.ans false (.lit (.nil))))))))) (And.intro h0 (And.intro h1 (And.intro h2 (And.intro h3 hn)))) (by kernel_rfl)
theorem EO{r:PV}(ns:List Int)(t:Bool)(i n:Int)(h0:(decide (i<(↑(Zk ns).length:Int)))=false)(hr:(.tup [(.int .i64 n),(.int .i64 0)])=r):At Yo 0 (fun st=>fin st Yb=some r) Z9 1 53 [(0,.pv (.sl 1 t (Zk ns))),(6,.pv (.int .i64 n)),(7,.pv (.int .i64 i))] []:=At.w (.lit (.ans false (.nil))) (And.intro h0 hr) (by kernel_rfl)
def Wz:IC:=(XY [Zw 4 (.mv (Wx 0)) 0] (.seq (XY [Zw 6 (YX 0) 0,Zw 7 (.len 1 (.t 6)) 0,Zw 8 (.mv (Wx 0)) 0] (.block 0 (.loop [8,7,1,0] (XY [Zw 9 (QQ .lss (.t 8) (.t 7)) 0] (.seq (.cond (.t 9) .skip (.exit 0)) (.seq (.block 1 (XY [Zw 10 (YX 8) 0,Zw 5 (YX 10) 0] (XY [Zw 11 (YX 1) 0,Zw 12 (YX 0) 0,Zw 13 (YX 5) 0,Zw 14 (.iaddr 1 (.t 12) (.t 13)) 0,Zw 15 (DF [(.int .i64)] (.t 14)) 0,Zw 16 (QQ .eql (.t 11) (.t 15)) 0] (.cond (.t 16) (XY [Zw 17 (YX 5) 0,Zw 4 (YX 17) 0] .ret) .skip)))) (.reg [Zw 18 (QQ .add (.t 8) (Wx 1)) 0,Zw 8 (YX 18) 0] none))))))) (XY [Zw 4 (.mv (.c (.int .i64 (-1)))) 0] .ret)))
def WL:List IRes:=[(.tmp 4)]
def Vv:ZA:=Yn []
theorem a4k{r:PV}(ns:List Int)(t:Bool)(v:Int)(hn:At Vv 0 (fun st=>fin st WL=some r) Wz 0 19 [(0,(.pv (.sl 1 t (Zk ns)))),(1,(.pv (.int .i64 v))),(7,(.pv (.int .i64 (↑(Zk ns).length:Int)))),(8,(.pv (.int .i64 0)))] []):Zc Vv 0 (fun st=>fin st WL=some r) Wz [] (ZL 19 [.sl 1 t (Zk ns),.int .i64 v]):=Zc.w (.nil) hn (by kernel_rfl)
theorem Od{r:PV}(ns:List Int)(t:Bool)(v:Int)(i:Int)(h0:(decide (i<(↑(Zk ns).length:Int)))=true)(h1:(decide (0<=i)&&decide (i.toNat<(Zk ns).length)&&1==1)=true)(h2:(decide (0+[Sh.int .i64].length<=((Zk ns).getD i.toNat default).cells.length)&&Yg ((Zk ns).getD i.toNat default).cells 0 [Sh.int .i64])=true)(h3:(v==(((Zk ns).getD i.toNat default).cells.getD 0 default).asInt)=true)(hr:(.int .i64 i)=r):At Vv 0 (fun st=>fin st WL=some r) Wz 0 19 [(0,.pv (.sl 1 t (Zk ns))),(1,.pv (.int .i64 v)),(7,.pv (.int .i64 (Zk ns).length)),(8,.pv (.int .i64 i))] []:=At.w (.lit (.ans true (.req (.req (.lit (.ans true (.nil))))))) (And.intro h0 (And.intro h1 (And.intro h2 (And.intro h3 hr)))) (by kernel_rfl)
theorem Oj{r:PV}(ns:List Int)(t:Bool)(v:Int)(i:Int)(h0:(decide (i<(↑(Zk ns).length:Int)))=true)(h1:(decide (0<=i)&&decide (i.toNat<(Zk ns).length)&&1==1)=true)(h2:(decide (0+[Sh.int .i64].length<=((Zk ns).getD i.toNat default).cells.length)&&Yg ((Zk ns).getD i.toNat default).cells 0 [Sh.int .i64])=true)(h3:(v==(((Zk ns).getD i.toNat default).cells.getD 0 default).asInt)=false)(hn:At Vv 0 (fun st=>fin st WL=some r) Wz 0 19 [(0,(.pv (.sl 1 t (Zk ns)))),(1,(.pv (.int .i64 v))),(7,(.pv (.int .i64 (↑(Zk ns).length:Int)))),(8,(.pv (.int .i64 (IntKind.i64.wrap (i+1)))))] []):At Vv 0 (fun st=>fin st WL=some r) Wz 0 19 [(0,.pv (.sl 1 t (Zk ns))),(1,.pv (.int .i64 v)),(7,.pv (.int .i64 (Zk ns).length)),(8,.pv (.int .i64 i))] []:=At.w (.lit (.ans true (.req (.req (.lit (.ans false (.lit (.nil)))))))) (And.intro h0 (And.intro h1 (And.intro h2 (And.intro h3 hn)))) (by kernel_rfl)
theorem Ol{r:PV}(ns:List Int)(t:Bool)(v:Int)(i:Int)(h0:(decide (i<(↑(Zk ns).length:Int)))=false)(hr:(.int .i64 (-1))=r):At Vv 0 (fun st=>fin st WL=some r) Wz 0 19 [(0,.pv (.sl 1 t (Zk ns))),(1,.pv (.int .i64 v)),(7,.pv (.int .i64 (Zk ns).length)),(8,.pv (.int .i64 i))] []:=At.w (.lit (.ans false (.nil))) (And.intro h0 hr) (by kernel_rfl)
end Go.Pl
namespace Go.Pl
open Go.RowKit
theorem FB{r:PV}(ns:List Int)(t:Bool)(h6:ns.length<=6)(ha:ns.all Ub=true): ∀ (m k:Nat) (n:Int),m+k=ns.length->0<=n->n<=4096 ->
  r=(match DZ n (ns.drop k)with|some n=>.tup [.int .i64 n,.int .i64 0]|none=>.tup [.int .i64 0,.int .i64 3]) ->
  At Yo 0 (fun st=>fin st Yb=some r) Z9 1 53 [(0,.pv (.sl 1 t (Zk ns))),(6,.pv (.int .i64 n)),(7,.pv (.int .i64 k))] []:=by
 intro m
 induction m with
 | zero=>
  intro k n hk h0 h1 hr
  have:ns.drop k=[]:=List.drop_of_length_le (by omega)
  rw[this]at hr
  exact EO ns t k n (by simp;omega) hr.symm
 | succ m ih=>
  intro k n hk h0 h1 hr
  have hlt:k<ns.length:=by omega
  have hd:0<=ns[k]∧ns[k]<=4096:=by
   have:=List.all_eq_true.1 ha _ (List.getElem_mem hlt)
   simpa [Ub]using this
  have hp:0<=n*ns[k]∧n*ns[k]<=4096*4096:=⟨Int.mul_nonneg h0 hd.1,Int.mul_le_mul h1 hd.2 hd.1 (by omega)⟩
  have hw:IntKind.i64.wrap (n*ns[k])=n*ns[k]:=Aq (by omega) (by omega)
  rw[List.drop_eq_getElem_cons hlt,DZ]at hr
  have e:=QT hlt
  by_cases hb:4096<n*ns[k]
  ·simp only[hb,decide_true,cond_true]at hr
   refine Eg ns t k n (by simp;omega) (by simp;omega) (by rw[e];rfl) ?_ hr.symm
   rw[e]
   simpa [PV.cells,PV.asInt,hw]using hb
  ·simp only[hb,decide_false,cond_false]at hr
   refine Ot ns t k n (by simp;omega) (by simp;omega) (by rw[e];rfl) ?_ ?_
   ·rw[e]
    simpa [PV.cells,PV.asInt,hw]using Int.not_lt.1 hb
   ·rw[e,next (by omega)]
    simp only[PV.cells,List.getD_cons_zero,PV.asInt,hw]
    exact ih (k+1) (n*ns[k]) (by omega) hp.1 (by omega) hr
theorem Ml(ns:List Int)(t:Bool)(h6:ns.length<=6): ∀ (m k:Nat) (z:Bool),m+k=ns.length->(∀ j (hj:j<ns.length),j<k->Ub ns[j]=true)->z=(ns.take k).any (· == 0) ->
  At Yo 0 (fun st=>fin st Yb=some (Yw [.sl 1 t (Zk ns)])) Z9 0 53 [(0,.pv (.sl 1 t (Zk ns))),(4,.pv (.bool z)),(5,.pv (.int .i64 k))] []:=by
 intro m
 induction m with
 | zero=>
  intro k z hk hd hz
  have ha:ns.all Ub=true:=by
   rw[List.all_eq_true]
   intro x hx
   obtain⟨j,hj,rfl⟩:=List.getElem_of_mem hx
   exact hd j hj (by omega)
  rw[List.take_of_length_le (by omega)]at hz
  cases z with
  | true=>
   refine EU ns t k _ (by simp;omega) rfl ?_
   simp[Yw,YD,YH,ha,<- hz,Nat.not_lt.2 h6]
  | false=>
   refine Ox ns t k _ (by simp;omega) rfl ?_
   refine FB ns t h6 ha ns.length 0 1 (by omega) (by omega) (by omega) ?_
   simp only[Yw,YD,YH,ha,<- hz,Nat.not_lt.2 h6,decide_false,cond_false,cond_true,List.drop_zero]
   cases DZ 1 ns <;> rfl
 | succ m ih=>
  intro k z hk hd hz
  have hlt:k<ns.length:=by omega
  have e:=QT hlt
  have hbad:Ub ns[k]=false->Yw [.sl 1 t (Zk ns)] = .tup [.int .i64 0,.int .i64 2]:=by
   intro hb
   have ha:ns.all Ub=false:=by
    rw[List.all_eq_false]
    exact⟨_,List.getElem_mem hlt,by simp[hb]⟩
   simp[Yw,YD,YH,ha,Nat.not_lt.2 h6]
  have hn:(ns.take (k+1)).any (· == 0)=(z||ns[k]==0):=by
   rw[List.take_succ_eq_append_getElem hlt,List.any_append,hz];simp
  have hd':Ub ns[k]=true-> ∀ j (hj:j<ns.length),j<k+1->Ub ns[j]=true:=by
   intro hb j hj hjk
   by_cases he:j=k
   ·subst he;exact hb
   ·exact hd j hj (by omega)
  by_cases h1:ns[k]<0
  ·refine ET ns t k z (by simp;omega) (by simp;omega) (by rw[e];rfl) (by rw[e];simpa [PV.cells,PV.asInt]using h1) (hbad ?_).symm
   simp[Ub];omega
  ·by_cases h2:4096<ns[k]
   ·refine OY ns t k z (by simp;omega) (by simp;omega) (by rw[e];rfl) (by rw[e];simpa [PV.cells,PV.asInt]using h1) (by rw[e];simpa [PV.cells,PV.asInt]using h2) (hbad ?_).symm
    simp[Ub];omega
   ·have hb:Ub ns[k]=true:=by simp[Ub];omega
    cases z with
    | true=>
     refine EX ns t k true (by simp;omega) (by simp;omega) (by rw[e];rfl) (by rw[e];simpa [PV.cells,PV.asInt]using h1) (by rw[e];simpa [PV.cells,PV.asInt]using h2) rfl ?_
     rw[next (by omega)]
     exact ih (k+1) true (by omega) (hd' hb) (by rw[hn];rfl)
    | false=>
     refine EF ns t k false (by simp;omega) (by simp;omega) (by rw[e];rfl) (by rw[e];simpa [PV.cells,PV.asInt]using h1) (by rw[e];simpa [PV.cells,PV.asInt]using h2) rfl ?_
     rw[next (by omega),e]
     exact ih (k+1) _ (by omega) (hd' hb) (by rw[hn];rfl)
theorem a7k: ∀ ps,U5 ps=true->Zc Yo 0 (fun st=>fin st Yb=some (Yw ps)) Z9 [] (ZL 53 ps):=by
 intro ps hp
 unfold U5 at hp
 split at hp
 ·rename_i t xs
  obtain⟨ns,rfl⟩:=CG hp
  by_cases h6:6<ns.length
  ·refine a7f ns t (by simp;omega) ?_
   simp[Yw,YD,YH,h6]
  ·refine a5t ns t (by simp;omega) ?_
   exact Ml ns t (by omega) ns.length 0 false (by omega) (fun j hj h=>by omega) (by simp)
 ·cases hp
def OI(v:Int):List Int->Nat->Int
 | [],_=> -1
 | n::r,i=>bif v==n then i else OI v r (i+1)
theorem b2s{v:Int}: ∀ {l:List Int} {i:Nat},decide (0<=OI v l i)=l.any (· == v):=by
 intro l
 induction l with
 | nil=>intro i;rfl
 | cons n r ih=>
  intro i
  simp only[OI,List.any_cons]
  by_cases h:v=n
  ·subst h;simp
  ·have h1:(v==n)=false:=by simpa using h
   have h2:(n==v)=false:=by simp;omega
   simp only[h1,h2,cond_false,Bool.false_or]
   exact ih
def Kw:List PV->PV
 | [.sl _ _ xs,.int _ v]=>.int .i64 (OI v (xs.map PV.asInt) 0)
 | _=>.nilp
theorem EC(ns:List Int)(t:Bool)(v:Int)(hl:ns.length<=1099511627776){r:PV}: ∀ (m k:Nat),m+k=ns.length->r = .int .i64 (OI v (ns.drop k) k) ->
  At Vv 0 (fun st=>fin st WL=some r) Wz 0 19 [(0,.pv (.sl 1 t (Zk ns))),(1,.pv (.int .i64 v)),(7,.pv (.int .i64 (Zk ns).length)),(8,.pv (.int .i64 k))] []:=by
 intro m
 induction m with
 | zero=>
  intro k hk hr
  rw[List.drop_of_length_le (by omega)]at hr
  exact Ol ns t v k (by simp;omega) hr.symm
 | succ m ih=>
  intro k hk hr
  have hlt:k<ns.length:=by omega
  have e:=QT hlt
  rw[List.drop_eq_getElem_cons hlt,OI]at hr
  cases hb:v==ns[k]with
  | true=>
   rw[hb,cond_true]at hr
   exact Od ns t v k (by simp;omega) (by simp;omega) (by rw[e];rfl) (by rw[e];exact hb) hr.symm
  | false=>
   rw[hb,cond_false]at hr
   refine Oj ns t v k (by simp;omega) (by simp;omega) (by rw[e];rfl) (by rw[e];exact hb) ?_
   rw[next (by omega)]
   exact ih (k+1) (by omega) hr
theorem a4g: ∀ ps,Z4 ps=true->Zc Vv 0 (fun st=>fin st WL=some (Kw ps)) Wz [] (ZL 19 ps):=by
 intro ps hp
 unfold Z4 at hp
 split at hp
 ·rename_i t xs v
  simp only[Bool.and_eq_true,decide_eq_true_eq]at hp
  obtain⟨ns,rfl⟩:=CG hp.1
  refine a4k ns t v ?_
  exact EC ns t v (by have:=hp.2;rwa [DK]at this) ns.length 0 (by omega) (by simp[Kw])
 ·cases hp
def PV.ns(p:PV):List Int:=p.asXs.map PV.asInt
def QX:IC:=(XY [Zw 4 (f'' false) 0] (XY [Zw 5 (YX 0) 0,Zw 6 (YX 1) 0,Zw 7 (c'' 193 [(.t 5),(.t 6)]) 0,Zw 8 (QQ .geq (.t 7) (Wx 0)) 2,Zw 4 (YX 8) 2] .ret))
def Q8:List IRes:=[(.tmp 4)]
abbrev MX:Nat:=9
def K6:ZA:=Yn [(193,.pure Z4 Kw)]
theorem Ry{r:PV}(ns:List Int)(t:Bool)(v:Int)(h0:(Z4 [(.sl 1 t (Zk ns)),(.int .i64 v)])=true)(hr:(.bool (decide (OI v (List.map PV.asInt (Zk ns)) 0 ≥ 0)))=r):Zc K6 0 (fun st=>fin st Q8=some r) QX [] (ZL 9 [.sl 1 t (Zk ns),.int .i64 v]):=Zc.w (.req (.lit (.nil))) (And.intro h0 hr) (by kernel_rfl)
theorem Pj: ∀ ps,Z4 ps=true->Zc K6 0 (fun st=>fin st Q8=some (Vy ps)) QX [] (ZL MX ps):=by
 intro ps hp
 have hp':=hp
 unfold Z4 at hp
 split at hp
 ·rename_i t xs v
  simp only[Bool.and_eq_true,decide_eq_true_eq]at hp
  obtain⟨ns,rfl⟩:=CG hp.1
  refine Ry ns t v hp' ?_
  have:=b2s (v:=v) (l:=ns) (i:=0)
  simp only[YH,Vy,BS,ge_iff_le]
  rw[<- this]
 ·cases hp
end Go.Pl
namespace Go.Pl
open Go.RowKit
open Enc (enc dec is)
open EncL (encL decL isL)
set_option maxRecDepth 100000
end Go.Pl
namespace Go.Pl
open Go.RowKit
open Enc (enc dec is)
open EncL (encL decL isL)
theorem b0v{s:List UInt8}{i:Nat}(h:i<s.length):List.getD (Zz s) (Int.toNat (i:Int)) default = .int .u8 (s[i].toNat:Int):=by
 simp[Zz,List.getD,h]
theorem GD(s:List UInt8):(Zz s).length=s.length:=by simp[Zz]
def Le(c:UInt8):Bool:=lowB c||digB c
theorem a3h{c:UInt8}:lowB c=true ↔ 97<=c.toNat∧c.toNat<=122:=by
 simp only[lowB,Bool.and_eq_true,decide_eq_true_eq,UInt8.le_iff_toNat_le]
 have e1:(97:UInt8).toNat=97:=rfl
 have e2:(122:UInt8).toNat=122:=rfl
 rw[e1,e2]
theorem Tc{c:UInt8}(h : ¬ (97<=c.toNat∧c.toNat<=122)):lowB c=false:=by
 cases e:lowB c
 ·rfl
 ·exact absurd (a3h.1 e) h
theorem Rb{c:UInt8}(h : ¬ (48<=c.toNat∧c.toNat<=57)):digB c=false:=by
 cases e:digB c
 ·rfl
 ·exact absurd (Vf.1 e) h
def WS(s:List UInt8)(i:Nat):Bool:=(match i with|0=>(match s with|[]=>true|c::r=>lowB c&&r.all Le)|i+1=>(s.drop (i+1)).all Le)&&(!(s==[]))&&decide (s.length<=30)
theorem a6c{s:List UInt8}{i:Nat}(h:i<s.length)(hb:lowB s[i]=true∨(i≠0∧digB s[i]=true)):WS s i=WS s (i+1):=by
 cases i with
 | zero=>
  cases s with
  | nil=>simp at h
  | cons c r=>
   rcases hb with hb|hb
   ·have hb:lowB c=true:=hb
    simp[WS,hb]
   ·exact absurd rfl hb.1
 | succ i=>
  unfold WS
  simp only
  rw[List.drop_eq_getElem_cons h,List.all_cons]
  have:Le s[i+1]=true:=by
   rcases hb with hb|hb
   ·simp[Le,hb]
   ·simp[Le,hb.2]
  rw[this,Bool.true_and]
theorem a6u{s:List UInt8}{i:Nat}(h:i<s.length)(hb:lowB s[i]=false∧(i=0∨digB s[i]=false)):WS s i=false:=by
 cases i with
 | zero=>
  cases s with
  | nil=>simp at h
  | cons c r=>
   have hb:lowB c=false:=hb.1
   simp[WS,hb]
 | succ i=>
  unfold WS
  simp only
  rw[List.drop_eq_getElem_cons h,List.all_cons]
  have:Le s[i+1]=false:=by
   rcases hb.2 with h0|h0
   ·cases h0
   ·simp[Le,hb.1,h0]
  rw[this];simp
theorem a5i{s:List UInt8}(h:[95].isPrefixOf s=false):YR ⟨s⟩=WS s 0:=by
 cases s with
 | nil=>rfl
 | cons c r=>
  have hc : ¬ c=95:=by intro e;subst e;simp at h
  have e:decide ((c::r).length<=30)=decide (r.length<=29):=decide_eq_decide.2 (by simp)
  unfold WS
  rw[e]
  simp only[YR,if_neg hc]
  show _=(lowB c&&r.all Le&& !((c::r)==[])&&_)
  have e2:((c::r)==[])=false:=rfl
  rw[e2]
  simp only[Bool.not_false,Bool.and_true]
  rfl
theorem Oe(s:Str): -9223372036854775808<=(Y1 s).1∧((Y1 s).1<=9223372036854775807):=by
 unfold Y1
 split
 ·rename_i v hv;exact Lib.atoiAll_bounds hv
 ·have:=Lib.atoiSat_bounds s.s
  exact⟨by show _<=Lib.atoiSat s.s;omega,by show Lib.atoiSat s.s<=_;omega⟩
 ·exact⟨by show(-9223372036854775808:Int)<=0;omega,by show(0:Int)<=_;omega⟩
end Go.Pl
namespace Go.Pl
open Go.RowKit
open Enc (enc dec is)
open EncL (encL decL isL)
set_option maxRecDepth 100000
abbrev c6z(ps:List PV)(k:Int->Prop):Prop:=ceP (fun(x:Int×Int×Unit)=>Jb (Prod.fst x) (Prod.fst (Prod.snd x))) ps k
abbrev d6e(ps:List PV)(k:Int->Prop):Prop:=ceP (fun(x:Coef×Coef×Unit)=>Dk (Prod.fst x) (Prod.fst (Prod.snd x))) ps k
abbrev d4e(ps:List PV)(k:Int->Prop):Prop:=WN (fun(x:List Coef×List Coef×FnV 121×Unit)=>decide (List.length (Prod.fst x)<=9223372036854775807)&&decide (List.length (Prod.fst (Prod.snd x))<=9223372036854775807)) (fun(x:List Coef×List Coef×FnV 121×Unit)=>X0 (Prod.fst x) (Prod.fst (Prod.snd x))) ps k
abbrev d5n(ps:List PV)(k:Int->Prop):Prop:=WN (fun(x:Lin×Lin×Unit)=>ZO (Prod.fst x)&&ZO (Prod.fst (Prod.snd x))) (fun(x:Lin×Lin×Unit)=>VR (Prod.fst x) (Prod.fst (Prod.snd x))) ps k
noncomputable def Rk:IC:=XU Proofs.Tryz.f123
def G5:List IRes:=[(.tmp 4)]
abbrev a7r:Nat:=13
def BH:ZA:=Yn []
theorem b4i{G:PV->Prop}(a b:Int)(h:if (decide (a<b))=true then G ((.int .i64 (-1)))else(if (decide (a>b))=true then G ((.int .i64 1))else(G ((.int .i64 0))))):Zc BH 0 (Zb G5 G) Rk [] (ZL 13 [enc a,enc b]):=Zc.tp (dm [] 14 0x142000142) h
noncomputable def Ma:IC:=XU Proofs.Tryz.f121
def AJ:List IRes:=[(.tmp 4)]
abbrev b5i:Nat:=19
def Pq:ZA:=Yn [(122,.pure (preT (fun _:Str×Str×Unit=>true)) (Zi (fun x:Str×Str×Unit=>Lib.compareBytes x.1.s x.2.1.s))),(123,.pure (preT (fun _:Int×Int×Unit=>true)) (Zi (fun x:Int×Int×Unit=>Jb x.1 x.2.1)))]
theorem c5a{G:PV->Prop}(x y:Coef)(h : ∃ y0:Int,AV.pv (Zi (fun(x:Str×Str×Unit)=>Lib.compareBytes (Str.s x.1) (Str.s x.2.1)) [(.str (Str.s x.v)),(.str (Str.s y.v))])=AV.pv (enc y0)∧(if (y0 != 0)=true then G ((.int .i64 y0))else(c6z [(.int .i64 x.c),(.int .i64 y.c)] fun y1=>(G ((.int .i64 y1)))))):Zc Pq 0 (Zb AJ G) Ma [] (ZL 19 [enc x,enc y]):=Zc.tp (dm [dv Int] 12 0x5200014252) h
noncomputable def U4:IC:=XU Proofs.Tryz.f120
def UQ:List IRes:=[(.tmp 6)]
abbrev b2v:Nat:=39
def Kh:ZA:=Yn [(121,.pure (preT (fun _:Coef×Coef×Unit=>true)) (Zi (fun x:Coef×Coef×Unit=>Dk x.1 x.2.1)))]
theorem c3q{G:PV->Prop}(a b:List Coef)(h:At Kh 0 (Zb UQ G) U4 0 39 [(0,(.pv (.sl 2 false (List.map enc a)))),(1,(.pv (.sl 2 false (List.map enc b)))),(2,(.pv (.fn 121))),(11,(.pv (.sl 2 false (List.map enc a)))),(12,(.pv (.int .i64 (↑(List.length (List.map enc a)):Int)))),(13,(.pv (.int .i64 0)))] []):Zc Kh 0 (Zb UQ G) U4 [] (ZL 39 [enc a,enc b,.fn 121]):=Zc.tp (.nil) h
theorem Lu{G:PV->Prop}(a b:List Coef)(i:Int)(h:if (decide (i<(↑(List.length a):Int)))=true then(Hg a i 2 fun y0=>(if (decide (i ≥ (↑(List.length (List.map enc b)):Int)))=true then G ((.int .i64 1))else((Hg b i 2 fun y1=>(d6e [(.agg [(.str (PV.asStr (List.getD (PV.cells (enc y0)) 0 default))),(.int .i64 (PV.asInt (List.getD (PV.cells (enc y0)) (0+1) default)))]),(.agg [(.str (PV.asStr (List.getD (PV.cells (enc y1)) 0 default))),(.int .i64 (PV.asInt (List.getD (PV.cells (enc y1)) (0+1) default)))])] fun y2=>(if (y2 != 0)=true then G ((.int .i64 y2))else(At Kh 0 (Zb UQ G) U4 0 39 [(0,(.pv (.sl 2 false (List.map enc a)))),(1,(.pv (.sl 2 false (List.map enc b)))),(2,(.pv (.fn 121))),(11,(.pv (.sl 2 false (List.map enc a)))),(12,(.pv (.int .i64 (↑(List.length a):Int)))),(13,(.pv (.int .i64 (IntKind.wrap IntKind.i64 (i+1)))))] [])))))))else(if (decide ((↑(List.length (List.map enc a)):Int)<(↑(List.length (List.map enc b)):Int)))=true then G ((.int .i64 (-1)))else(G ((.int .i64 0))))):At Kh 0 (Zb UQ G) U4 0 39 [(0,.pv (enc a)),(1,.pv (enc b)),(2,.pv (.fn 121)),(11,.pv (enc a)),(12,.pv (.int .i64 a.length)),(13,.pv (.int .i64 i))] []:=At.tp (dm [dr Coef,dv Int] 35 0x142020001426225100014225101642) h
noncomputable def a1u:IC:=XU Proofs.Tryz.f89
def Po:List IRes:=[(.tmp 4)]
abbrev b9x:Nat:=19
def En:ZA:=Yn [(120,.pure (preT (fun x:List Coef×List Coef×FnV 121×Unit=>decide (x.1.length<=9223372036854775807)&&decide (x.2.1.length<=9223372036854775807))) (Zi (fun x:List Coef×List Coef×FnV 121×Unit=>X0 x.1 x.2.1))),(123,.pure (preT (fun _:Int×Int×Unit=>true)) (Zi (fun x:Int×Int×Unit=>Jb x.1 x.2.1)))]
theorem c8i{G:PV->Prop}(a b:Lin)(h:(d4e [(.sl 2 false (List.map enc a.t)),(.sl 2 false (List.map enc b.t)),(.fn 121)] fun y0=>(if (y0 != 0)=true then G ((.int .i64 y0))else(c6z [(.int .i64 a.k),(.int .i64 b.k)] fun y1=>(G ((.int .i64 y1))))))):Zc En 0 (Zb Po G) a1u [] (ZL 19 [enc a,enc b]):=Zc.tp (dm [dv Int] 12 0x5200014251) h
noncomputable def b7v:IC:=XU Proofs.Tryz.f63
def b2j:List IRes:=[(.tmp 4)]
abbrev c8u:Nat:=9
def c6c:ZA:=Yn [(89,.pure (preT (fun x:Lin×Lin×Unit=>ZO x.1&&ZO x.2.1)) (Zi (fun x:Lin×Lin×Unit=>VR x.1 x.2.1)))]
theorem d6p{G:PV->Prop}(a b:Lin)(h:(d5n [(.agg [(.int .i64 a.k),(.sl 2 false (List.map enc a.t))]),(.agg [(.int .i64 b.k),(.sl 2 false (List.map enc b.t))])] fun y0=>(G ((.bool (y0==0)))))):Zc c6c 0 (Zb b2j G) b7v [] (ZL 9 [enc a,enc b]):=Zc.tp (.req (.abs (Int) (fun YY=>AV.pv (enc YY)) (.lit (.nil)))) h
end Go.Pl
namespace Go.Pl
open Go.RowKit
open Enc (enc dec is)
open EncL (encL decL isL)
theorem EY: ∀ a:Int×Int×Unit,true=true->Zc BH 0 (Zb G5 (Zn (Jb a.1 a.2.1))) Rk [] (ZL a7r (encL a)):=by
 rintro⟨a,b,⟨⟩⟩ -
 show Zc BH 0 (Zb G5 (Zn (Jb a b))) _ _ _
 refine b4i a b (YV (fun h=> ?_) fun h=>YV (fun k=> ?_) fun k=> ?_)
 ·exact Uv (by simp[Jb,h])
 ·exact Uv (by simp[Jb,h,k])
 ·exact Uv (by simp[Jb,h,k])
theorem a7i: ∀ a:Coef×Coef×Unit,true=true->Zc Pq 0 (Zb AJ (Zn (Dk a.1 a.2.1))) Ma [] (ZL b5i (encL a)):=by
 rintro⟨x,y,⟨⟩⟩ -
 show Zc Pq 0 (Zb AJ (Zn (Dk x y))) _ _ _
 unfold Dk
 refine c5a x y (Zf (x.v,y.v,()) rfl (CP (fun h=> ?_) fun h=>Zf (x.c,y.c,()) rfl ?_))
 ·have h:Lib.compareBytes x.v.s y.v.s≠0:=by simpa using h
  rw[if_pos h]
  exact Uv rfl
 ·have h : ¬ Lib.compareBytes x.v.s y.v.s≠0:=by simpa using h
  rw[if_neg h]
  exact Uv rfl
theorem Fs(t:Coef):(PV.agg [.str (PV.asStr (List.getD (PV.cells (enc t)) 0 default)),.int .i64 (PV.asInt (List.getD (PV.cells (enc t)) (0+1) default))])=enc t:=rfl
theorem Ej(a b:List Coef)(ha:a.length<=9223372036854775807): ∀ (m i:Nat),m+i=a.length->i<=b.length ->
  At Kh 0 (Zb UQ (Zn (X0 (a.drop i) (b.drop i)))) U4 0 39 [(0,.pv (enc a)),(1,.pv (enc b)),(2,.pv (.fn 121)),(11,.pv (enc a)),(12,.pv (.int .i64 a.length)),(13,.pv (.int .i64 i))] []:=by
 intro m
 induction m with
 | zero=>
  intro i hi hb
  have ea:a.drop i=[]:=List.drop_of_length_le (by omega)
  rw[ea]
  refine Lu a b i (Y6 (XV (by omega)) (YV (fun h=> ?_) fun h=> ?_))
  ·have h:a.length<b.length:=by simpa using h
   have:b.drop i=b[i]::b.drop (i+1):=List.drop_eq_getElem_cons (by omega)
   rw[this]
   exact Uv (by rw[X0])
  ·have h : ¬ a.length<b.length:=by simpa using h
   have:b.drop i=[]:=List.drop_of_length_le (by omega)
   rw[this]
   exact Uv (by rw[X0])
 | succ m ih=>
  intro i hi hb
  have hlt:i<a.length:=by omega
  have ea:a.drop i=a[i]::a.drop (i+1):=List.drop_eq_getElem_cons hlt
  rw[ea]
  refine Lu a b i (Yl (Xb hlt) ⟨ZQ hlt rfl,Yf hlt (YV (fun h=> ?_) fun h=> ?_)⟩)
  ·have h:b.length<=i:=by
    have:(i:Int) ≥ ((List.map (enc:Coef->PV) b).length:Int):=h
    rw[List.length_map]at this
    omega
   have:b.drop i=[]:=List.drop_of_length_le h
   rw[this]
   exact Uv (by rw[X0])
  ·have h:i<b.length:=by
    have : ¬ (i:Int) ≥ ((List.map (enc:Coef->PV) b).length:Int):=h
    rw[List.length_map]at this
    omega
   have eb:b.drop i=b[i]::b.drop (i+1):=List.drop_eq_getElem_cons h
   rw[eb]
   refine⟨ZQ h rfl,Yf h ?_⟩
   rw[Fs,Fs]
   refine Zf (a[i],b[i],()) rfl (CP (fun hc=> ?_) fun hc=> ?_)
   ·have hc:Dk a[i] b[i]≠0:=by simpa using hc
    exact Uv (by rw[X0,if_pos hc])
   ·have hc : ¬ Dk a[i] b[i]≠0:=by simpa using hc
    have e:X0 (a[i]::a.drop (i+1)) (b[i]::b.drop (i+1))=X0 (a.drop (i+1)) (b.drop (i+1)):=by rw[X0,if_neg hc]
    rw[e,next (by omega)]
    exact ih (i+1) (by omega) (by omega)
theorem a5x: ∀ a:List Coef×List Coef×FnV 121×Unit,(decide (a.1.length<=9223372036854775807)&&decide (a.2.1.length<=9223372036854775807))=true->Zc Kh 0 (Zb UQ (Zn (X0 a.1 a.2.1))) U4 [] (ZL b2v (encL a)):=by
 rintro⟨a,b,g,⟨⟩⟩ h
 simp only[Bool.and_eq_true,decide_eq_true_eq]at h
 refine c3q a b ?_
 rw[List.length_map]
 exact Ej a b h.1 a.length 0 (by omega) (by omega)
theorem b8o: ∀ a:Lin×Lin×Unit,(ZO a.1&&ZO a.2.1)=true->Zc En 0 (Zb Po (Zn (VR a.1 a.2.1))) a1u [] (ZL b9x (encL a)):=by
 rintro⟨a,b,⟨⟩⟩ h
 show Zc En 0 (Zb Po (Zn (VR a b))) _ _ _
 unfold VR
 refine c8i a b ⟨Ze (a.t,b.t,({}:FnV 121),()) rfl h,Zf (a.t,b.t,({}:FnV 121),()) rfl (CP (fun hc=> ?_) fun hc=>Zf (a.k,b.k,()) rfl ?_)⟩
 ·have hc:X0 a.t b.t≠0:=by simpa using hc
  rw[if_pos hc]
  exact Uv rfl
 ·have hc : ¬ X0 a.t b.t≠0:=by simpa using hc
  rw[if_neg hc]
  exact Uv rfl
theorem c1t: ∀ a:Lin×Lin×Unit,(ZO a.1&&ZO a.2.1)=true->Zc c6c 0 (Zb b2j (Zn (VR a.1 a.2.1==0))) b7v [] (ZL c8u (encL a)):=by
 rintro⟨a,b,⟨⟩⟩ h
 exact d6p a b ⟨Ze (a,b,()) rfl h,Zf (a,b,()) rfl (Zl rfl)⟩
structure BoxT where
 v:List Str
 m:Int
 deriving DecidableEq
instance:Enc BoxT where
 sz:=2
 enc x:=.agg [enc x.v,enc x.m]
 dec | .agg [a,b]=>⟨dec a,dec b⟩|_=>⟨[],0⟩
 is | .agg [a,b]=>is (List Str) a&&is Int b|_=>false
 is_enc v:=by simp
 dec_enc v:=by simp
 sub p h:=by
  cases p with
  | agg xs=>
   match xs,h with
   | [a,b],h=>
    simp only[Bool.and_eq_true]at h
    exact .agg (.cons (Enc.sub a h.1).2 (.cons (Enc.sub b h.2).2 .nil))
  | _=>cases h
@[simp] theorem d8f (a b : PV) : is BoxT (.agg [a, b]) = (is (List Str) a && is Int b) := rfl
@[simp] theorem d3n (a b : PV) : (dec (.agg [a, b]) : BoxT) = ⟨dec a, dec b⟩ := rfl
structure Mono where
 c:Int
 v:List Str
 deriving DecidableEq
instance:Enc Mono where
 sz:=2
 enc x:=.agg [enc x.c,enc x.v]
 dec | .agg [a,b]=>⟨dec a,dec b⟩|_=>⟨0,[]⟩
 is | .agg [a,b]=>is Int a&&is (List Str) b|_=>false
 is_enc v:=by simp
 dec_enc v:=by simp
 sub p h:=by
  cases p with
  | agg xs=>
   match xs,h with
   | [a,b],h=>
    simp only[Bool.and_eq_true]at h
    exact .agg (.cons (Enc.sub a h.1).2 (.cons (Enc.sub b h.2).2 .nil))
  | _=>cases h
@[simp] theorem d8c (a b : PV) : is Mono (.agg [a, b]) = (is Int a && is (List Str) b) := rfl
@[simp] theorem d6c (a b : PV) : (dec (.agg [a, b]) : Mono) = ⟨dec a, dec b⟩ := rfl
structure NilS where
 deriving DecidableEq
instance:Enc NilS where
 sz:=1
 enc _:=.sl 0 true []
 dec _:=⟨⟩
 is | .sl 0 true []=>true|_=>false
 is_enc _:=rfl
 dec_enc _:=rfl
 sub p h:=by
  cases p with
  | sl s t xs=>
   cases xs with
   | nil=>cases s with
    | zero=>cases t with
     | true=>exact .refl _
     | false=>cases h
    | succ s=>cases h
   | cons x xs=>cases s <;> cases t <;> cases h
  | _=>cases h
end Go.Pl
namespace Go.Pl
open Go.RowKit
open Enc (enc dec is)
open EncL (encL decL isL)
set_option maxRecDepth 100000
abbrev d4c(ps:List PV)(k:Int×Er->Prop):Prop:=WN (fun(x:Str×Unit)=>decide (List.length (Str.s (Prod.fst x))<=281474976710656)) (fun(x:Str×Unit)=>Y1 (Prod.fst x)) ps k
abbrev d5z(ps:List PV)(k:Str->Prop):Prop:=WN (fun(x:Int×Unit)=>decide ((-9223372036854775808:Int)<=Prod.fst x)&&decide (Prod.fst x<=9223372036854775807)) (fun(x:Int×Unit)=>V7 (Prod.fst x)) ps k
-- IMPOSSIBLE
noncomputable def Y3:IC:=XU Proofs.Tryz.f140
def Y2:List IRes:=[(.tmp 2)]
abbrev a4z:Nat:=67
def XF:ZA:=Yn [(169,.pure (preT (fun _:Str×Str×Unit=>true)) (Zi (fun x:Str×Str×Unit=>x.2.1.s.isPrefixOf x.1.s))),(170,.pure (preT (fun x:Str×Unit=>decide (x.1.s.length<=281474976710656))) (Zi (fun x:Str×Unit=>Y1 x.1))),(68,.pure (preT (fun x:Int×Unit=>decide (-9223372036854775808<=x.1)&&decide (x.1<=9223372036854775807))) (Zi (fun x:Int×Unit=>V7 x.1)))]
theorem b7l{G:PV->Prop}(s:List UInt8)(h : ∃ y0:Bool,AV.pv (Zi (fun(x:Str×Str×Unit)=>List.isPrefixOf (Str.s x.2.1) (Str.s x.1)) [(.str s),(.str [(95:UInt8)])])=AV.pv (enc y0)∧(if (y0)=true then(decide (0<=1)&&true&&decide (Int.toNat 1<=List.length s)&&decide (List.length s<=List.length s))=true∧((d4c [(.str (List.drop (Int.toNat 1) (List.take (List.length s) s)))] fun y1=>((Nw (enc y1.2)&&Prod.fst (true,PV.bool (QS (enc y1.2))))=true∧(if (QS (enc y1.2))=true then if (decide (y1.1>0))=true then if (decide ((↑(List.length s):Int)<=10))=true then(d5z [(.int .i64 y1.1)] fun y2=>((decide (0<=1)&&true&&decide (Int.toNat 1<=List.length s)&&decide (List.length s<=List.length s))=true∧(G ((.bool (Str.s y2==List.drop (Int.toNat 1) (List.take (List.length s) s)))))))else(G ((.bool false)))else(G ((.bool false)))else(G ((.bool false)))))))else(At XF 0 (Zb Y2 G) Y3 0 67 [(0,(.pv (.str s))),(34,(.pv (.sl 1 false (Zz s)))),(35,(.pv (.int .i64 (↑(List.length (Zz s)):Int)))),(36,(.pv (.int .i64 0)))] []))):Zc XF 0 (Zb Y2 G) Y3 [] (ZL 67 [.str s]):=Zc.tp (dm [dv Bool,dv (Int×Er),dv Str] 70 0x2222222222220222222222022222022212271200a4222201842220294161103e452) h
theorem TJ{G:PV->Prop}(s:List UInt8)(i:Int)(h:if (decide (i<(↑(List.length (Zz s)):Int)))=true then(decide (0<=i)&&decide (Int.toNat i<List.length (Zz s))&&1==1)=true∧((decide (0+List.length [Sh.int IntKind.u8]<=List.length (PV.cells (List.getD (Zz s) (Int.toNat i) default)))&&Yg (PV.cells (List.getD (Zz s) (Int.toNat i) default)) 0 [Sh.int IntKind.u8])=true∧(if (decide (PV.asInt (List.getD (PV.cells (List.getD (Zz s) (Int.toNat i) default)) 0 default)<97))=true then if (i==0)=true then G ((.bool false))else(if (decide (PV.asInt (List.getD (PV.cells (List.getD (Zz s) (Int.toNat i) default)) 0 default)<48))=true then G ((.bool false))else(if (decide (PV.asInt (List.getD (PV.cells (List.getD (Zz s) (Int.toNat i) default)) 0 default)>57))=true then G ((.bool false))else(At XF 0 (Zb Y2 G) Y3 0 67 [(0,(.pv (.str s))),(34,(.pv (.sl 1 false (Zz s)))),(35,(.pv (.int .i64 (↑(List.length (Zz s)):Int)))),(36,(.pv (.int .i64 (IntKind.wrap IntKind.i64 (i+1)))))] [])))else(if (decide (PV.asInt (List.getD (PV.cells (List.getD (Zz s) (Int.toNat i) default)) 0 default)>122))=true then if (i==0)=true then G ((.bool false))else(if (decide (PV.asInt (List.getD (PV.cells (List.getD (Zz s) (Int.toNat i) default)) 0 default)<48))=true then G ((.bool false))else(if (decide (PV.asInt (List.getD (PV.cells (List.getD (Zz s) (Int.toNat i) default)) 0 default)>57))=true then G ((.bool false))else(At XF 0 (Zb Y2 G) Y3 0 67 [(0,(.pv (.str s))),(34,(.pv (.sl 1 false (Zz s)))),(35,(.pv (.int .i64 (↑(List.length (Zz s)):Int)))),(36,(.pv (.int .i64 (IntKind.wrap IntKind.i64 (i+1)))))] [])))else(At XF 0 (Zb Y2 G) Y3 0 67 [(0,(.pv (.str s))),(34,(.pv (.sl 1 false (Zz s)))),(35,(.pv (.int .i64 (↑(List.length (Zz s)):Int)))),(36,(.pv (.int .i64 (IntKind.wrap IntKind.i64 (i+1)))))] []))))else(if (!s==[])=true then G ((.bool (decide ((↑(List.length s):Int)<=30))))else(G ((.bool false))))):At XF 0 (Zb Y2 G) Y3 0 67 [(0,.pv (.str s)),(34,.pv (.sl 1 false (Zz s))),(35,.pv (.int .i64 (Zz s).length)),(36,.pv (.int .i64 i))] []:=At.tp (dm [] 137 0x22202222005420222222220200014222220222220064222220222222222200b422202d42220200014222220222220064222220222222222200b42222220304213107542) h
end Go.Pl
namespace Go.Pl
open Go.RowKit
open Enc (enc dec is)
open EncL (encL decL isL)
theorem Fq(s:List UInt8)(hs:s.length<=281474976710656): ∀ (m i:Nat),m+i=s.length->At XF 0 (Zb Y2 (Zn (WS s i))) Y3 0 67 [(0,.pv (.str s)),(34,.pv (.sl 1 false (Zz s))),(35,.pv (.int .i64 (Zz s).length)),(36,.pv (.int .i64 i))] []:=by
 intro m
 induction m with
 | zero=>
  intro i hi
  have e:WS s i=(!(s==[])&&decide (s.length<=30)):=by
   unfold WS
   cases i with
   | zero=>cases s with
    | nil=>rfl
    | cons c r=>simp at hi
   | succ i=>simp only;rw[List.drop_of_length_le (show s.length<=i+1 by omega)];simp
  rw[e]
  refine TJ s i (Y6 (XV (by rw[GD];omega)) (XW (fun h=>Zl ?_) fun h=>Zl ?_))
  ·rw[h,Bool.true_and];exact decide_eq_decide.2 (by omega)
  ·rw[h,Bool.false_and]
 | succ m ih=>
  intro i hi
  have hlt:i<s.length:=by omega
  have h:=ih (i+1) (by omega)
  refine TJ s i ?_
  rw[b0v hlt,next (by omega)]
  have stop:(lowB s[i]=false∧(i=0∨digB s[i]=false))->Zn (WS s i) (.bool false):=fun hb=>Zl (a6u hlt hb).symm
  have go:(lowB s[i]=true∨(i≠0∧digB s[i]=true))->At XF 0 (Zb Y2 (Zn (WS s i))) Y3 0 67 [(0,.pv (.str s)),(34,.pv (.sl 1 false (Zz s))),(35,.pv (.int .i64 (Zz s).length)),(36,.pv (.int .i64 ((i+1:Nat):Int)))] []:=fun hb=>by rw[a6c hlt hb];exact h
  have rest:lowB s[i]=false->(if ((i:Int)==0)=true then Zn (WS s i) (.bool false)else if decide ((s[i].toNat:Int)<48)=true then Zn (WS s i) (.bool false)else if decide ((s[i].toNat:Int)>57)=true then Zn (WS s i) (.bool false)else At XF 0 (Zb Y2 (Zn (WS s i))) Y3 0 67 [(0,.pv (.str s)),(34,.pv (.sl 1 false (Zz s))),(35,.pv (.int .i64 (Zz s).length)),(36,.pv (.int .i64 ((i+1:Nat):Int)))] []):=by
   intro hl
   refine XA (fun h0=>stop ⟨hl,.inl (by omega)⟩) fun h0=>YV (fun h1=>stop ⟨hl,.inr (Rb (by omega))⟩) fun h1=>YV (fun h2=>stop ⟨hl,.inr (Rb (by omega))⟩) fun h2=>go (.inr ⟨by omega,Vf.2 (by omega)⟩)
  refine Yl (Xb (by rw[GD];exact hlt)) ⟨by rw[GD];simp[hlt],by rfl,?_⟩
  refine YV (fun h1=>rest (Tc ?_)) fun h1=>YV (fun h2=>rest (Tc ?_)) fun h2=>go (.inl (a3h.2 ?_))
  ·have h1:(s[i].toNat:Int)<97:=h1
   omega
  ·have h2:(s[i].toNat:Int)>122:=h2
   omega
  ·have h1 : ¬ (s[i].toNat:Int)<97:=h1
   have h2 : ¬ (s[i].toNat:Int)>122:=h2
   omega
theorem Ov: ∀ a:Str×Unit,decide (a.1.s.length<=281474976710656)=true->Zc XF 0 (Zb Y2 (Zn (YR a.1))) Y3 [] (ZL a4z (encL a)):=by
 rintro⟨⟨s⟩,⟨⟩⟩ hl
 have hl:s.length<=281474976710656:=by simpa using hl
 refine b7l s (Zf (⟨s⟩,⟨[95]⟩,()) rfl (XW (fun h=> ?_) fun h=> ?_))
 ·have h:[95].isPrefixOf s=true:=h
  obtain⟨r,rfl⟩ : ∃ r,s=95::r:=by
   cases s with
   | nil=>simp at h
   | cons c r=>
    have:95=c:=by simpa using h
    exact⟨r,by rw[this]⟩
  have e1:List.drop (Int.toNat 1) (List.take (List.length (95::r)) (95::r))=r:=by rw[List.take_of_length_le (Nat.le_refl _)];rfl
  simp only[e1]
  refine⟨by simp,Ze (⟨r⟩,()) rfl (by simp at hl ⊢;omega),Zf (⟨r⟩,()) rfl ⟨by show(Nw (enc (Y1 ⟨r⟩).2)&&true)=true;rw[d3j];rfl,?_⟩⟩
  show if QS (enc (Y1 ⟨r⟩).2)=true then(if decide ((Y1 ⟨r⟩).1>0)=true then(if _ then _ else Zn (YR ⟨95::r⟩) _)else Zn (YR ⟨95::r⟩) _)else Zn (YR ⟨95::r⟩) _
  rw[b6z]
  by_cases h9:r.length<=9
  ·rw[<- c3g r h9,decide_eq_true h9,Bool.and_true]
   refine XW (fun h1=>XW (fun h2=>Yl (by simp;omega) ⟨Ze ((Y1 ⟨r⟩).1,()) rfl (by have:=Oe ⟨r⟩;simp;omega),Zf ((Y1 ⟨r⟩).1,()) rfl ⟨by simp,Zl ?_⟩⟩) fun h2=>Zl ?_) fun h1=>Zl ?_
   ·rw[h1,h2];simp only[Bool.true_and,Bool.and_true];rfl
   ·rw[h2];simp
   ·rw[h1];simp
  ·rw[decide_eq_false h9,Bool.and_false]
   refine XW (fun h1=>XW (fun h2=>Y6 (by simp;omega) (Zl rfl)) fun h2=>Zl rfl) fun h1=>Zl rfl
 ·have h:[95].isPrefixOf s=false:=h
  show At XF 0 (Zb Y2 (Zn (YR ⟨s⟩))) Y3 0 67 _ _
  rw[a5i h]
  exact Fq s hl s.length 0 (by omega)
end Go.Pl
namespace Go.Pl
end Go.Pl
namespace Go.Pl.Cm
open Go.RowKit
open Enc (enc dec is)
open EncL (encL decL isL)
structure CmpOK {α:Type} (f:α->α->Int):Prop where
 anti : ∀ a b,f b a = - f a b
 zero : ∀ a b,f a b=0 ↔ a=b
 trans : ∀ a b c,f a b<=0->f b c<=0->f a c<=0
 rng : ∀ a b,-1<=f a b∧f a b<=1
theorem CmpOK.strict{α:Type}{f:α->α->Int}(h:CmpOK f){a b c:α}(h1:f a b<0)(h2:f b c<=0):f a c<0:=by
 have h3:=h.trans a b c (by omega) h2
 by_cases h0:f a c=0
 ·obtain rfl:=(h.zero a c).1 h0
  have:=h.anti a b
  omega
 ·omega
def Wl{α:Type}(f:α->α->Int):List α->List α->Int
 | [],[]=>0
 | [],_::_=> -1
 | _::_,[]=>1
 | x::l,y::m=>if f x y≠0 then f x y else Wl f l m
theorem SQ{α:Type}{f:α->α->Int}(h:CmpOK f): ∀ a b,Wl f b a = - Wl f a b
 | [],[]=>rfl
 | [],_::_=>rfl
 | _::_,[]=>rfl
 | x::l,y::m=>by
  have h1:=h.anti x y
  rw[Wl,Wl,h1,SQ h l m]
  by_cases h0:f x y=0
  ·rw[if_neg (by omega),if_neg (by omega)]
  ·rw[if_pos (by omega),if_pos (by omega)]
theorem Ri{α:Type}{f:α->α->Int}(h:CmpOK f): ∀ a b,Wl f a b=0 ↔ a=b
 | [],[]=>by simp[Wl]
 | [],_::_=>by simp[Wl]
 | _::_,[]=>by simp[Wl]
 | x::l,y::m=>by
  rw[Wl,List.cons.injEq,<- h.zero x y,<- Ri h l m]
  by_cases h0:f x y=0
  ·rw[if_neg (by omega)];omega
  ·rw[if_pos (by omega)];omega
theorem Lv{α:Type}{f:α->α->Int}(h:CmpOK f): ∀ a b,-1<=Wl f a b∧Wl f a b<=1
 | [],[]=>by simp[Wl]
 | [],_::_=>by simp[Wl]
 | _::_,[]=>by simp[Wl]
 | x::l,y::m=>by
  rw[Wl]
  split
  ·exact h.rng x y
  ·exact Lv h l m
theorem BI{α:Type}{f:α->α->Int}(h:CmpOK f): ∀ a b c,Wl f a b<=0->Wl f b c<=0->Wl f a c<=0
 | [],_,[],_,_=>by simp[Wl]
 | [],_,_::_,_,_=>by simp[Wl]
 | _::_,[],_,h1,_=>by simp[Wl]at h1
 | _::_,_::_,[],_,h2=>by simp[Wl]at h2
 | x::l,y::m,z::n,h1,h2=>by
  rw[Wl]at h1 h2 ⊢
  by_cases a:f x y=0
  ·obtain rfl:=(h.zero x y).1 a
   rw[if_neg (by omega)]at h1
   by_cases b:f x z=0
   ·rw[if_neg (by omega)]at h2 ⊢
    exact BI h l m n h1 h2
   ·rw[if_pos b]at h2 ⊢
    exact h2
  ·rw[if_pos a]at h1
   by_cases b:f y z=0
   ·obtain rfl:=(h.zero y z).1 b
    rw[if_pos a]
    exact h1
   ·rw[if_pos b]at h2
    have:=h.strict (show f x y<0 by omega) h2
    rw[if_pos (by omega)]
    omega
theorem a0q{α:Type}{f:α->α->Int}(h:CmpOK f):CmpOK (Wl f):=⟨SQ h,Ri h,BI h,Lv h⟩
theorem a0l{α β γ:Type}{f:β->β->Int}{g:γ->γ->Int}(p:α->β)(q:α->γ)(hpq : ∀ a b,p a=p b->q a=q b->a=b)(hf:CmpOK f)(hg:CmpOK g):CmpOK fun a b:α=>if f (p a) (p b)≠0 then f (p a) (p b)else g (q a) (q b):=by
 refine⟨fun a b=> ?_,fun a b=> ?_,fun a b c h1 h2=> ?_,fun a b=> ?_⟩
 ·have h1:=hf.anti (p a) (p b)
  have h2:=hg.anti (q a) (q b)
  try simp only
  by_cases h0:f (p a) (p b)=0
  ·rw[if_neg (by omega),if_neg (by omega),h2]
  ·rw[if_pos (by omega),if_pos h0,h1]
 ·try simp only
  by_cases h0:f (p a) (p b)=0
  ·rw[if_neg (by omega),hg.zero]
   exact⟨fun h=>hpq a b ((hf.zero _ _).1 h0) h,fun h=>by rw[h]⟩
  ·rw[if_pos h0]
   exact⟨fun h=>absurd h h0,fun h=>absurd ((hf.zero _ _).2 (by rw[h])) h0⟩
 ·try simp only at h1 h2 ⊢
  by_cases x:f (p a) (p b)=0
  ·have e:=(hf.zero _ _).1 x
   rw[if_neg (by omega)]at h1
   rw[e]
   by_cases y:f (p b) (p c)=0
   ·rw[if_neg (by omega)]at h2 ⊢
    exact hg.trans _ _ _ h1 h2
   ·rw[if_pos y]at h2 ⊢
    exact h2
  ·rw[if_pos x]at h1
   by_cases y:f (p b) (p c)=0
   ·have e:=(hf.zero _ _).1 y
    rw[<- e,if_pos x]
    exact h1
   ·rw[if_pos y]at h2
    have:=hf.strict (show f (p a) (p b)<0 by omega) h2
    rw[if_pos (by omega)]
    omega
 ·try simp only
  split
  ·exact hf.rng _ _
  ·exact hg.rng _ _
theorem KI:CmpOK Jb:=by
 refine⟨fun a b=> ?_,fun a b=> ?_,fun a b c=> ?_,fun a b=> ?_⟩ <;> unfold Jb <;> (repeat' split) <;> omega
def a7l(a b:UInt8):Int:=if a<b then -1 else if b<a then 1 else 0
theorem Qf(a b:UInt8):a7l a b=Jb a.toNat b.toNat:=by
 unfold a7l Jb
 simp only[UInt8.lt_iff_toNat_lt]
 repeat' split
 all_goals omega
theorem c3w:CmpOK a7l:=by
 refine⟨fun a b=> ?_,fun a b=> ?_,fun a b c=> ?_,fun a b=> ?_⟩
 ·rw[Qf,Qf];exact KI.anti _ _
 ·rw[Qf,KI.zero]
  exact⟨fun h=>UInt8.toNat_inj.1 (by omega),fun h=>by rw[h]⟩
 ·rw[Qf,Qf,Qf];exact KI.trans _ _ _
 ·rw[Qf];exact KI.rng _ _
theorem LA: ∀ a b:List UInt8,Lib.compareBytes a b=Wl a7l a b
 | [],[]=>rfl
 | [],_::_=>rfl
 | _::_,[]=>rfl
 | x::l,y::m=>by
  rw[Lib.compareBytes,Wl,LA l m]
  unfold a7l
  by_cases h1:x<y
  ·simp[h1]
  ·by_cases h2:y<x
   ·simp[h1,h2]
   ·simp[h1,h2]
theorem a8t:CmpOK Lib.compareBytes:=by
 have:Lib.compareBytes=Wl a7l:=by funext a b;exact LA a b
 rw[this]
 exact a0q c3w
theorem c1z:CmpOK Dk:=a0l (fun x:Coef=>x.v.s) (fun x:Coef=>x.c) (fun a b h1 h2=>by
 obtain⟨⟨s⟩,c⟩:=a
 obtain⟨⟨s'⟩,c'⟩:=b
 simp only at h1 h2
 rw[h1,h2]) a8t KI
theorem FI: ∀ a b:List Coef,X0 a b=Wl Dk a b
 | [],[]=>rfl
 | [],_::_=>rfl
 | _::_,[]=>rfl
 | x::l,y::m=>by rw[X0,Wl,FI l m]
theorem b5m:CmpOK X0:=by
 have:X0=Wl Dk:=by funext a b;exact FI a b
 rw[this]
 exact a0q c1z
theorem a6h:CmpOK VR:=a0l (fun x:Lin=>x.t) (fun x:Lin=>x.k) (fun a b h1 h2=>by
 obtain⟨k,t⟩:=a
 obtain⟨k',t'⟩:=b
 simp only at h1 h2
 rw[h1,h2]) b5m KI
theorem cmpLin_dec(a b:Lin):(VR a b==0)=decide (a=b):=by
 have:=a6h.zero a b
 by_cases h:a=b
 ·rw[this.2 h,decide_eq_true h];rfl
 ·rw[decide_eq_false h]
  exact beq_eq_false_iff_ne.2 fun e=>h (this.1 e)
end Go.Pl.Cm
namespace Go.Pl
open Go.RowKit
open Enc (enc dec is)
open EncL (encL decL isL)
set_option maxRecDepth 100000
noncomputable def Dt:IC:=XU Proofs.Tryz.f61
def Dc:List IRes:=[(.tmp 4)]
abbrev d2a:Nat:=26
noncomputable def TB:ZA:=Yn []
theorem d3r{G:PV->Prop}(a b:List Int)(h:if ((↑(List.length (List.map enc a)):Int) != (↑(List.length (List.map enc b)):Int))=true then G ((.bool false))else(At TB 0 (Zb Dc G) Dt 0 26 [(0,(.pv (.sl 1 false (List.map enc a)))),(1,(.pv (.sl 1 false (List.map enc b)))),(12,(.pv (.int .i64 (↑(List.length (List.map enc a)):Int)))),(13,(.pv (.int .i64 0)))] [])):Zc TB 0 (Zb Dc G) Dt [] (ZL 26 [enc a,enc b]):=Zc.tp (dm [] 8 0x142) h
theorem b2d{G:PV->Prop}(a b:List Int)(i:Int)(h:if (decide (i<(↑(List.length (List.map enc a)):Int)))=true then(decide (0<=i)&&decide (Int.toNat i<List.length (List.map enc a))&&Enc.sz Int==1)=true∧(∃ y0:Int,AV.pv (PV.rptr (PV.cells (List.getD (List.map enc a) (Int.toNat i) default)))=AV.pv (PV.rptr (PV.cells ((enc) y0)))∧((decide (0<=i)&&decide (Int.toNat i<List.length (List.map enc b))&&Enc.sz Int==1)=true∧(∃ y1:Int,AV.pv (PV.rptr (PV.cells (List.getD (List.map enc b) (Int.toNat i) default)))=AV.pv (PV.rptr (PV.cells ((enc) y1)))∧(if (PV.asInt (List.getD (PV.cells (enc y0)) 0 default) != PV.asInt (List.getD (PV.cells (enc y1)) 0 default))=true then G ((.bool false))else(At TB 0 (Zb Dc G) Dt 0 26 [(0,(.pv (.sl 1 false (List.map enc a)))),(1,(.pv (.sl 1 false (List.map enc b)))),(12,(.pv (.int .i64 (↑(List.length (List.map enc a)):Int)))),(13,(.pv (.int .i64 (IntKind.wrap IntKind.i64 (i+1)))))] [])))))else(G ((.bool true)))):At TB 0 (Zb Dc G) Dt 0 26 [(13,.pv (.int .i64 i)),(12,.pv (.int .i64 (a.map (enc:Int->PV)).length)),(0,.pv (enc a)),(1,.pv (enc b))] []:=At.tp (dm [dr Int] 21 0x200014225125100e42) h
noncomputable def G8:IC:=XU Proofs.Tryz.f62
def Gp:List IRes:=[(.tmp 6)]
abbrev c9k:Nat:=32
noncomputable def TM:ZA:=Yn [(63,.pure (preT (fun x:Lin×Lin×Unit=>ZO x.1&&ZO x.2.1)) (Zi (fun x:Lin×Lin×Unit=>decide (x.1=x.2.1))))]
theorem d4j{G:PV->Prop}(a b:List Lin)(h:if ((↑(List.length (List.map enc a)):Int) != (↑(List.length (List.map enc b)):Int))=true then G ((.bool false))else(At TM 0 (Zb Gp G) G8 0 32 [(1,(.pv (.sl 2 false (List.map enc b)))),(2,(.pv (.fn 63))),(15,(.pv (.sl 2 false (List.map enc a)))),(16,(.pv (.int .i64 (↑(List.length (List.map enc a)):Int)))),(17,(.pv (.int .i64 0)))] [])):Zc TM 0 (Zb Gp G) G8 [] (ZL 32 [enc a,enc b,.fn 63]):=Zc.tp (dm [] 8 0x142) h
theorem b3e{G:PV->Prop}(a b:List Lin)(i:Int)(h:if (decide (i<(↑(List.length (List.map enc a)):Int)))=true then(decide (0<=i)&&decide (Int.toNat i<List.length (List.map enc a))&&Enc.sz Lin==2)=true∧(∃ y0:Lin,AV.pv (PV.rptr (PV.cells (List.getD (List.map enc a) (Int.toNat i) default)))=AV.pv (PV.rptr (PV.cells ((enc) y0)))∧((decide (0<=i)&&decide (Int.toNat i<List.length (List.map enc b))&&Enc.sz Lin==2)=true∧(∃ y1:Lin,AV.pv (PV.rptr (PV.cells (List.getD (List.map enc b) (Int.toNat i) default)))=AV.pv (PV.rptr (PV.cells ((enc) y1)))∧((Go.Pl.preT (fun(x:Lin×Lin×Unit)=>ZO x.1&&ZO x.2.1) [(.agg [(.int .i64 (PV.asInt (List.getD (PV.cells (enc y0)) 0 default))),(.sl 2 false (PV.asXs (List.getD (PV.cells (enc y0)) (0+1) default)))]),(.agg [(.int .i64 (PV.asInt (List.getD (PV.cells (enc y1)) 0 default))),(.sl 2 false (PV.asXs (List.getD (PV.cells (enc y1)) (0+1) default)))])])=true∧(∃ y2:Bool,AV.pv (Zi (fun(x:Lin×Lin×Unit)=>decide (x.1=x.2.1)) [(.agg [(.int .i64 (PV.asInt (List.getD (PV.cells (enc y0)) 0 default))),(.sl 2 false (PV.asXs (List.getD (PV.cells (enc y0)) (0+1) default)))]),(.agg [(.int .i64 (PV.asInt (List.getD (PV.cells (enc y1)) 0 default))),(.sl 2 false (PV.asXs (List.getD (PV.cells (enc y1)) (0+1) default)))])])=AV.pv (enc y2)∧(if (!y2)=true then G ((.bool false))else(At TM 0 (Zb Gp G) G8 0 32 [(1,(.pv (.sl 2 false (List.map enc b)))),(2,(.pv (.fn 63))),(15,(.pv (.sl 2 false (List.map enc a)))),(16,(.pv (.int .i64 (↑(List.length (List.map enc a)):Int)))),(17,(.pv (.int .i64 (IntKind.wrap IntKind.i64 (i+1)))))] [])))))))else(G ((.bool true)))):At TM 0 (Zb Gp G) G8 0 32 [(17,.pv (.int .i64 i)),(16,.pv (.int .i64 (a.map (enc:Lin->PV)).length)),(15,.pv (enc a)),(1,.pv (enc b)),(2,.pv (.fn 63))] []:=At.tp (dm [dr Lin,dv Bool] 22 0x2000146125125100f42) h
noncomputable def Dl:IC:=XU Proofs.Tryz.f64
def Gd:List IRes:=[(.tmp 6)]
abbrev d2p:Nat:=32
noncomputable def SV(N:Nat):ZA:=Yn [(24,.pure (preT (fun x:Tm×Tm×Unit=>(tW x.1&&tW x.2.1)&&decide (ZH x.1<N))) (Zi (fun x:Tm×Tm×Unit=>DC x.1 x.2.1)))]
theorem d4p{G:PV->Prop}(N:Nat)(a b:List Tm)(h:if ((↑(List.length (List.map enc a)):Int) != (↑(List.length (List.map enc b)):Int))=true then G ((.bool false))else(At (SV N) 0 (Zb Gd G) Dl 0 32 [(1,(.pv (.sl 10 false (List.map enc b)))),(2,(.pv (.fn 24))),(15,(.pv (.sl 10 false (List.map enc a)))),(16,(.pv (.int .i64 (↑(List.length (List.map enc a)):Int)))),(17,(.pv (.int .i64 0)))] [])):Zc (SV N) 0 (Zb Gd G) Dl [] (ZL 32 [enc a,enc b,.fn 24]):=Zc.tp (dm [] 8 0x142) h
theorem a9u{G:PV->Prop}(N:Nat)(a b:List Tm)(i:Int)(h:if (decide (i<(↑(List.length (List.map enc a)):Int)))=true then(decide (0<=i)&&decide (Int.toNat i<List.length (List.map enc a))&&Enc.sz Tm==10)=true∧(∃ y0:Tm,AV.pv (PV.rptr (PV.cells (List.getD (List.map enc a) (Int.toNat i) default)))=AV.pv (PV.rptr (PV.cells ((enc) y0)))∧(shT y0=true∧((decide (0<=i)&&decide (Int.toNat i<List.length (List.map enc b))&&Enc.sz Tm==10)=true∧(∃ y1:Tm,AV.pv (PV.rptr (PV.cells (List.getD (List.map enc b) (Int.toNat i) default)))=AV.pv (PV.rptr (PV.cells ((enc) y1)))∧(shT y1=true∧((Go.Pl.preT (fun(x:Tm×Tm×Unit)=>tW x.1&&tW x.2.1&&decide (ZH x.1<N)) [FT y0,FT y1])=true∧(∃ y2:Bool,AV.pv (Zi (fun(x:Tm×Tm×Unit)=>DC x.1 x.2.1) [FT y0,FT y1])=AV.pv (enc y2)∧(if (!y2)=true then G ((.bool false))else(At (SV N) 0 (Zb Gd G) Dl 0 32 [(1,(.pv (.sl 10 false (List.map enc b)))),(2,(.pv (.fn 24))),(15,(.pv (.sl 10 false (List.map enc a)))),(16,(.pv (.int .i64 (↑(List.length (List.map enc a)):Int)))),(17,(.pv (.int .i64 (IntKind.wrap IntKind.i64 (i+1)))))] [])))))))))else(G ((.bool true)))):At (SV N) 0 (Zb Gd G) Dl 0 32 [(17,.pv (.int .i64 i)),(16,.pv (.int .i64 (a.map (enc:Tm->PV)).length)),(15,.pv (enc a)),(1,.pv (enc b)),(2,.pv (.fn 24))] []:=At.tp (dm [dr Tm,dv Bool] 22 0x2000146115115100f42) h
noncomputable def b0j:IC:=XU Proofs.Tryz.f24
def b0s:List IRes:=[(.tmp 4)]
abbrev c9c:Nat:=72
noncomputable def c7i(N:Nat):ZA:=Yn [(61,.pure (preT (fun x:List Int×List Int×Unit=>Yq x.1)) (Zi (fun x:List Int×List Int×Unit=>decide (x.1=x.2.1)))),(62,.pure (preT (fun x:List Lin×List Lin×FnV 63×Unit=>Yq x.1&&x.1.all ZO&&x.2.1.all ZO)) (Zi (fun x:List Lin×List Lin×FnV 63×Unit=>decide (x.1=x.2.1)))),(64,.pure (preT (fun x:List Tm×List Tm×FnV 24×Unit=>(tsW x.1&&tsW x.2.1)&&decide (ZZ x.1<N))) (Zi (fun x:List Tm×List Tm×FnV 24×Unit=>Qw x.1 x.2.1)))]
theorem d7b{G:PV->Prop}(N:Nat)(n:Nd)(ks:List Tm)(m:Nd)(ls:List Tm)(h:if (Nd.kind n==Nd.kind m)=true then if (Str.s (Nd.name n)==Str.s (Nd.name m))=true then if (Nd.num n==Nd.num m)=true then if (Str.s (Nd.elem n)==Str.s (Nd.elem m))=true then(Go.Pl.preT (fun(x:List Int×List Int×Unit)=>Yq x.1) [(.sl 1 false (List.map enc (Nd.dims n))),(.sl 1 false (List.map enc (Nd.dims m)))])=true∧(∃ y0:Bool,AV.pv (Zi (fun(x:List Int×List Int×Unit)=>decide (x.1=x.2.1)) [(.sl 1 false (List.map enc (Nd.dims n))),(.sl 1 false (List.map enc (Nd.dims m)))])=AV.pv (enc y0)∧(if (y0)=true then(Go.Pl.preT (fun(x:List Int×List Int×Unit)=>Yq x.1) [(.sl 1 false (List.map enc (Nd.data n))),(.sl 1 false (List.map enc (Nd.data m)))])=true∧(∃ y1:Bool,AV.pv (Zi (fun(x:List Int×List Int×Unit)=>decide (x.1=x.2.1)) [(.sl 1 false (List.map enc (Nd.data n))),(.sl 1 false (List.map enc (Nd.data m)))])=AV.pv (enc y1)∧(if (y1)=true then(Go.Pl.preT (fun(x:List Lin×List Lin×FnV 63×Unit)=>Yq x.1&&List.all x.1 ZO&&List.all x.2.1 ZO) [(.sl 2 false (List.map enc (Nd.sizes n))),(.sl 2 false (List.map enc (Nd.sizes m))),(.fn 63)])=true∧(∃ y2:Bool,AV.pv (Zi (fun(x:List Lin×List Lin×FnV 63×Unit)=>decide (x.1=x.2.1)) [(.sl 2 false (List.map enc (Nd.sizes n))),(.sl 2 false (List.map enc (Nd.sizes m))),(.fn 63)])=AV.pv (enc y2)∧(if (y2)=true then(Go.Pl.preT (fun(x:List Int×List Int×Unit)=>Yq x.1) [(.sl 1 false (List.map enc (Nd.ranks n))),(.sl 1 false (List.map enc (Nd.ranks m)))])=true∧(∃ y3:Bool,AV.pv (Zi (fun(x:List Int×List Int×Unit)=>decide (x.1=x.2.1)) [(.sl 1 false (List.map enc (Nd.ranks n))),(.sl 1 false (List.map enc (Nd.ranks m)))])=AV.pv (enc y3)∧(if (y3)=true then(Go.Pl.preT (fun(x:List Tm×List Tm×FnV 24×Unit)=>tsW x.1&&tsW x.2.1&&decide (ZZ x.1<N)) [(.sl 10 false (List.map enc ks)),(.sl 10 false (List.map enc ls)),(.fn 24)])=true∧(∃ y4:Bool,AV.pv (Zi (fun(x:List Tm×List Tm×FnV 24×Unit)=>Qw x.1 x.2.1) [(.sl 10 false (List.map enc ks)),(.sl 10 false (List.map enc ls)),(.fn 24)])=AV.pv (enc y4)∧(G ((.bool y4))))else(G ((.bool false)))))else(G ((.bool false)))))else(G ((.bool false)))))else(G ((.bool false)))))else(G ((.bool false)))else(G ((.bool false)))else(G ((.bool false)))else(G ((.bool false)))):Zc (c7i N) 0 (Zb b0s G) b0j [] (ZL 72 [.agg [enc n.kind,enc n.line,enc n.name,enc n.num,enc n.elem,enc n.dims,enc n.data,enc n.sizes,enc n.ranks,enc ks],.agg [enc m.kind,enc m.line,enc m.name,enc m.num,enc m.elem,enc m.dims,enc m.data,enc m.sizes,enc m.ranks,enc ls]]):=Zc.tp (dm [dv Bool] 334 0x22222222222222222222222222222222222222222222222222222022222222222222222222222222222222222222222222222022222222222222222222222222222222222222222022222222222222222222222222222222202222222222222222222222222022222222222222222022222222222022222025122220084251222201942512222030425122222204f42512222220764222222220a442222220d8422222211242) h
noncomputable def b4l:IC:=XU Proofs.Tryz.f18
def b8s:List IRes:=[(.tmp 4)]
abbrev d1k:Nat:=10
noncomputable def c7m:ZA:=Yn [(30,.pure (preT (fun x:Tm×Unit=>tW x.1)) (Zi (fun x:Tm×Unit=>Xm x.1))),(24,.pure (preT (fun x:Tm×Tm×Unit=>tW x.1&&tW x.2.1)) (Zi (fun x:Tm×Tm×Unit=>DC x.1 x.2.1)))]
theorem d5t{G:PV->Prop}(n:Nd)(ks:List Tm)(m:Nd)(ls:List Tm)(h:(Go.Pl.preT (fun(x:Tm×Unit)=>tW x.1) (Rz n ks))=true∧(∃ y0:Tm,AV.pv (Zi (fun(x:Tm×Unit)=>Xm x.1) (Rz n ks))=AV.pv (enc y0)∧((Go.Pl.preT (fun(x:Tm×Unit)=>tW x.1) [(.agg [(.int .i64 (Nd.kind m)),(.int .i64 (Nd.line m)),(.str (Str.s (Nd.name m))),(.int .i64 (Nd.num m)),(.str (Str.s (Nd.elem m))),(.sl 1 false (List.map enc (Nd.dims m))),(.sl 1 false (List.map enc (Nd.data m))),(.sl 2 false (List.map enc (Nd.sizes m))),(.sl 1 false (List.map enc (Nd.ranks m))),(.sl 10 false (List.map enc ls))])])=true∧(∃ y1:Tm,AV.pv (Zi (fun(x:Tm×Unit)=>Xm x.1) [(.agg [(.int .i64 (Nd.kind m)),(.int .i64 (Nd.line m)),(.str (Str.s (Nd.name m))),(.int .i64 (Nd.num m)),(.str (Str.s (Nd.elem m))),(.sl 1 false (List.map enc (Nd.dims m))),(.sl 1 false (List.map enc (Nd.data m))),(.sl 2 false (List.map enc (Nd.sizes m))),(.sl 1 false (List.map enc (Nd.ranks m))),(.sl 10 false (List.map enc ls))])])=AV.pv (enc y1)∧((Go.Pl.preT (fun(x:Tm×Tm×Unit)=>tW x.1&&tW x.2.1) [enc y0,enc y1])=true∧(∃ y2:Bool,AV.pv (Zi (fun(x:Tm×Tm×Unit)=>DC x.1 x.2.1) [enc y0,enc y1])=AV.pv (enc y2)∧(G ((.bool y2))))))))):Zc c7m 0 (Zb b8s G) b4l [] (ZL 10 [.agg [enc n.kind,enc n.line,enc n.name,enc n.num,enc n.elem,enc n.dims,enc n.data,enc n.sizes,enc n.ranks,enc ks],.agg [enc m.kind,enc m.line,enc m.name,enc m.num,enc m.elem,enc m.dims,enc m.data,enc m.sizes,enc m.ranks,enc ls]]):=Zc.tp (dm [dv Tm,dv Bool] 8 0x615151) h
end Go.Pl
namespace Go.Pl
open Go.RowKit
open Enc (enc dec is)
open EncL (encL decL isL)
theorem a1e{α:Type}[BEq α][LawfulBEq α]{x y:α}{P Q:Prop}(h1:x=y->P)(h2:x≠y->Q):if (x==y)=true then P else Q:=by by_cases h:x=y;rw[if_pos (by simpa using h)];exact h1 h;rw[if_neg (by simpa using h)];exact h2 h
theorem b0p{l:Lin}(h:Vz l=true):ZO l=true:=by unfold Vz at h;rw[Bool.and_eq_true]at h;exact h.1
theorem F7{ks:List Tm}{k:Tm}(h:k∈ks):ZH k<=ZZ ks:=by
 induction ks with
 | nil=>cases h
 | cons a l ih=>
  rw[ZZ]
  rcases List.mem_cons.1 h with rfl|h
  ·omega
  ·have:=ih h;omega
theorem b3p(a b:List Int)(ha:a.length<=9223372036854775807)(hab:a.length=b.length): ∀ (k i:Nat),k+i=a.length ->
  At TB 0 (Zb Dc (Zn (decide (a.drop i=b.drop i)))) Dt 0 26 [(0,.pv (enc a)),(1,.pv (enc b)),(12,.pv (.int .i64 (a.map (enc:Int->PV)).length)),(13,.pv (.int .i64 i))] []:=by
 intro k
 induction k with
 | zero=>
  intro i hi
  rw[List.drop_of_length_le (by omega),List.drop_of_length_le (by omega)]
  exact b2d a b i (Y6 (Vd (by omega)) (Zl rfl))
 | succ k ih=>
  intro i hi
  have hlt:i<a.length:=by omega
  have hlt2:i<b.length:=by omega
  have h:=ih (i+1) (by omega)
  refine b2d a b i (Yl (WO hlt) ⟨ZQ hlt rfl,Yf hlt ⟨ZQ hlt2 rfl,Yf hlt2 ?_⟩⟩)
  show if (a[i] != b[i])=true then _ else _
  refine a7h (fun e=>Zl ?_) fun e=> ?_
  ·rw[List.drop_eq_getElem_cons hlt,List.drop_eq_getElem_cons hlt2,CO e]
  ·rw[next (by omega),List.drop_eq_getElem_cons hlt,List.drop_eq_getElem_cons hlt2,Aw e]
   exact h
theorem c0v: ∀ x:List Int×List Int×Unit,Yq x.1=true->Zc TB 0 (Zb Dc (Zn (decide (x.1=x.2.1)))) Dt [] (ZL d2a (encL x)):=by
 rintro⟨a,b,⟨⟩⟩ h
 have h:=of_decide_eq_true h
 refine d3r a b (AY (fun e=>Zl (a9n e).symm) fun e=> ?_)
 exact(b3p a b h e a.length 0 (by omega))
theorem a8l(a b:List Lin)(ha:a.length<=9223372036854775807)(wa:a.all ZO=true)(wb:b.all ZO=true)(hab:a.length=b.length): ∀ (k i:Nat),k+i=a.length ->
  At TM 0 (Zb Gp (Zn (decide (a.drop i=b.drop i)))) G8 0 32 [(1,.pv (enc b)),(2,.pv (.fn 63)),(15,.pv (enc a)),(16,.pv (.int .i64 (a.map (enc:Lin->PV)).length)),(17,.pv (.int .i64 i))] []:=by
 intro k
 induction k with
 | zero=>
  intro i hi
  rw[List.drop_of_length_le (by omega),List.drop_of_length_le (by omega)]
  exact b3e a b i (Y6 (Vd (by omega)) (Zl rfl))
 | succ k ih=>
  intro i hi
  have h1:i<a.length:=by omega
  have h2:i<b.length:=by omega
  have h:=ih (i+1) (by omega)
  have ga:ZO a[i]=true:=List.all_eq_true.1 wa _ (List.getElem_mem h1)
  have gb:ZO b[i]=true:=List.all_eq_true.1 wb _ (List.getElem_mem h2)
  refine b3e a b i (Yl (WO h1) ⟨ZQ h1 rfl,Yf h1 ⟨ZQ h2 rfl,Yf h2 ⟨Ze (a[i],b[i],()) rfl (by show(ZO _&&ZO _)=true;rw[ga,gb];rfl),Zf (a[i],b[i],()) rfl (Vh (fun e=>Zl ?_) fun e=> ?_)⟩⟩⟩)
  ·rw[List.drop_eq_getElem_cons h1,List.drop_eq_getElem_cons h2,CO (of_decide_eq_false e)]
  ·rw[next (by omega),List.drop_eq_getElem_cons h1,List.drop_eq_getElem_cons h2,Aw (of_decide_eq_true e)]
   exact h
theorem c0g: ∀ x:List Lin×List Lin×FnV 63×Unit,(Yq x.1&&x.1.all ZO&&x.2.1.all ZO)=true->Zc TM 0 (Zb Gp (Zn (decide (x.1=x.2.1)))) G8 [] (ZL c9k (encL x)):=by
 rintro⟨a,b,⟨⟩,⟨⟩⟩ h
 simp only[Bool.and_eq_true]at h
 obtain⟨⟨h,wa⟩,wb⟩:=h
 have h:=of_decide_eq_true h
 refine d4j a b (AY (fun e=>Zl (a9n e).symm) fun e=> ?_)
 exact(a8l a b h wa wb e a.length 0 (by omega))
theorem Ni{ts:List Tm}(h:tsW ts=true):ts.length<=1048576∧ ∀ k∈ts,tW k=true:=by
 have h:Qj ts<=1048576:=of_decide_eq_true h
 exact⟨by have:=Bg ts;omega,fun k hk=>decide_eq_true (Nat.le_trans (Ny hk) h)⟩
theorem b1g(N:Nat)(a b:List Tm)(ha:a.length<=1048576)(wa : ∀ k∈a,tW k=true)(wb : ∀ k∈b,tW k=true)(hd:ZZ a<N)(hab:a.length=b.length): ∀ (k i:Nat),k+i=a.length ->
  At (SV N) 0 (Zb Gd (Zn (Qw (a.drop i) (b.drop i)))) Dl 0 32 [(1,.pv (enc b)),(2,.pv (.fn 24)),(15,.pv (enc a)),(16,.pv (.int .i64 (a.map (enc:Tm->PV)).length)),(17,.pv (.int .i64 i))] []:=by
 intro k
 induction k with
 | zero=>
  intro i hi
  rw[List.drop_of_length_le (by omega),List.drop_of_length_le (by omega)]
  exact a9u N a b i (Y6 (Vd (by omega)) (Zl rfl))
 | succ k ih=>
  intro i hi
  have h1:i<a.length:=by omega
  have h2:i<b.length:=by omega
  have h:=ih (i+1) (by omega)
  have hk:=F7 (List.getElem_mem h1)
  refine a9u N a b i (Yl (WO h1) ⟨ZQ h1 rfl,Yf h1 ⟨Qn _,ZQ h2 rfl,Yf h2 ⟨Qn _,Ze (a[i],b[i],()) (c4j _ _) (by
   show(tW _&&tW _&&decide _)=true
   rw[wa _ (List.getElem_mem h1),wb _ (List.getElem_mem h2),decide_eq_true (show ZH a[i]<N by omega)];rfl),Zf (a[i],b[i],()) (c4j _ _) (Vh (fun e=>Zl ?_) fun e=> ?_)⟩⟩⟩)
  ·have e:DC a[i] b[i]=false:=e
   rw[List.drop_eq_getElem_cons h1,List.drop_eq_getElem_cons h2,Qw,e];rfl
  ·have e:DC a[i] b[i]=true:=e
   rw[next (by omega),List.drop_eq_getElem_cons h1,List.drop_eq_getElem_cons h2,Qw,e,Bool.true_and]
   exact h
theorem c0r(N:Nat): ∀ x:List Tm×List Tm×FnV 24×Unit,((tsW x.1&&tsW x.2.1)&&decide (ZZ x.1<N))=true->Zc (SV N) 0 (Zb Gd (Zn (Qw x.1 x.2.1))) Dl [] (ZL d2p (encL x)):=by
 rintro⟨a,b,⟨⟩,⟨⟩⟩ h
 simp only[Bool.and_eq_true,decide_eq_true_eq]at h
 obtain⟨⟨wa,wb⟩,hd⟩:=h
 refine d4p N a b (AY (fun e=>Zl (WT fun h=>e (Bc h))) fun e=> ?_)
 exact(b1g N a b (Ni wa).1 (Ni wa).2 (Ni wb).2 hd e a.length 0 (by omega))
theorem b7f{n:Nd}{ks:List Tm}(h:tW (.mk n ks)=true):tsW ks=true:=by
 have h:Sc (.mk n ks)<=1048576:=of_decide_eq_true h
 rw[Sc]at h
 exact decide_eq_true (by omega)
theorem a0v{α:Type}{l:List α}(h:l.length<=1048576):Yq l=true:=decide_eq_true (by omega)
theorem a0m{n:Nd}{ks:List Tm}(h:tW (.mk n ks)=true):n.sizes.all ZO=true:=List.all_eq_true.2 fun l hl=>b0p (b1b h l hl)
theorem c1d(N:Nat): ∀ x:Tm×Tm×Unit,((tW x.1&&tW x.2.1)&&decide (ZH x.1<N+1))=true->Zc (c7i N) 0 (Zb b0s (Zn (DC x.1 x.2.1))) b0j [] (ZL c9c (encL x)):=by
 rintro⟨⟨n,ks⟩,⟨m,ls⟩,⟨⟩⟩ h
 simp only[Bool.and_eq_true,decide_eq_true_eq]at h
 obtain⟨⟨hw,hv⟩,hd⟩:=h
 have hd:ZH (.mk n ks)<N+1:=hd
 rw[ZH]at hd
 have hn:=ndB hw
 rw[<- d2y]
 refine d7b N n ks m ls (a1e (fun k1=> ?_) fun k=>Zl (WT fun h=>k (Yz.1 h).1.1))
 refine a1e (fun k2=> ?_) fun k=>Zl (WT fun h=>k (by rw[(Yz.1 h).1.2.1]))
 refine a1e (fun k3=> ?_) fun k=>Zl (WT fun h=>k (Yz.1 h).1.2.2.1)
 refine a1e (fun k4=> ?_) fun k=>Zl (WT fun h=>k (by rw[(Yz.1 h).1.2.2.2.1]))
 refine⟨Ze (n.dims,m.dims,()) rfl (a0v hn.dims),Zf (n.dims,m.dims,()) rfl (XW (fun k5=> ?_) fun k=>Zl (WT fun h=>of_decide_eq_false k (Yz.1 h).1.2.2.2.2.1))⟩
 refine⟨Ze (n.data,m.data,()) rfl (a0v hn.data),Zf (n.data,m.data,()) rfl (XW (fun k6=> ?_) fun k=>Zl (WT fun h=>of_decide_eq_false k (Yz.1 h).1.2.2.2.2.2.1))⟩
 have hs:(Yq n.sizes&&n.sizes.all ZO&&m.sizes.all ZO)=true:=by rw[a0v hn.sizes,a0m hw,a0m hv];rfl
 refine⟨Ze (α:=List Lin×List Lin×FnV 63×Unit) (n.sizes,m.sizes,⟨()⟩,()) rfl hs,Zf (α:=List Lin×List Lin×FnV 63×Unit) (n.sizes,m.sizes,⟨()⟩,()) rfl (XW (fun k7=> ?_) fun k=>Zl (WT fun h=>of_decide_eq_false k (Yz.1 h).1.2.2.2.2.2.2.1))⟩
 refine⟨Ze (n.ranks,m.ranks,()) rfl (a0v hn.ranks),Zf (n.ranks,m.ranks,()) rfl (XW (fun k8=> ?_) fun k=>Zl (WT fun h=>of_decide_eq_false k (Yz.1 h).1.2.2.2.2.2.2.2))⟩
 have hk:(tsW ks&&tsW ls&&decide (ZZ ks<N))=true:=by rw[b7f hw,b7f hv,decide_eq_true (show ZZ ks<N by omega)];rfl
 refine⟨Ze (α:=List Tm×List Tm×FnV 24×Unit) (ks,ls,⟨()⟩,()) rfl hk,Zf (α:=List Tm×List Tm×FnV 24×Unit) (ks,ls,⟨()⟩,()) rfl (Zl ?_)⟩
 show Qw ks ls=DC (.mk n ks) (.mk m ls)
 rw[Bool.eq_iff_iff,Yz]
 exact⟨fun h=>⟨⟨k1,stt k2,k3,stt k4,of_decide_eq_true k5,of_decide_eq_true k6,of_decide_eq_true k7,of_decide_eq_true k8⟩,h⟩,fun h=>h.2⟩
theorem c1v: ∀ x:Tm×Tm×Unit,(tW x.1&&tW x.2.1&&tW (Xm x.1)&&tW (Xm x.2.1))=true->Zc c7m 0 (Zb b8s (Zn (Rv x.1 x.2.1))) b4l [] (ZL d1k (encL x)):=by
 rintro⟨⟨n,ks⟩,⟨m,ls⟩,⟨⟩⟩ h
 simp only[Bool.and_eq_true]at h
 obtain⟨⟨⟨h1,h2⟩,h3⟩,h4⟩:=h
 rw[<- d2y]
 have e1:([ndC n ks]:List PV)=encL ((Tm.mk n ks,()):Tm×Unit):=by rw[UC];rfl
 have e2:([ndC m ls]:List PV)=encL ((Tm.mk m ls,()):Tm×Unit):=by rw[UC];rfl
 refine d5t n ks m ls ⟨Ze (.mk n ks,()) e1 h1,Zf (.mk n ks,()) e1 ⟨Ze (.mk m ls,()) e2 h2,Zf (.mk m ls,()) e2 ⟨Ze (Xm (.mk n ks),Xm (.mk m ls),()) rfl ?_,Zf (Xm (.mk n ks),Xm (.mk m ls),()) rfl (Zl rfl)⟩⟩⟩
 show(tW _&&tW _)=true
 rw[h3,h4];rfl
end Go.Pl
namespace Go.Pl
open Go.RowKit
open Enc (enc dec is)
open EncL (encL decL isL)
set_option maxRecDepth 100000
noncomputable def b4r:IC:=XU Proofs.Tryz.f50
def b1p:List IRes:=[(.cell true 10 2)]
abbrev d0g:Nat:=8
noncomputable def c7x:ZA:=Yn [(51,.pure (preT (fun _:Str×Unit=>true)) (Zi (fun x:Str×Unit=>vT x.1)))]
theorem d5r{G:PV->Prop}(s:List UInt8)(h : ∃ y0:Tm,AV.pv (Zi (fun(x:Str×Unit)=>vT x.1) [(.str s)])=AV.pv (enc y0)∧(∃ y1:Tm,AV.pv (Zi (fun(x:Str×Unit)=>vT x.1) [(.str [(118:UInt8),(49:UInt8)])])=AV.pv (enc y1)∧((List.all [enc y0,enc y1] fun(x:PV)=>List.length (PV.cells x)==10&&PV.cellsOk x)=true∧(G ((.agg [(.int .i64 6),(.int .i64 0),(.str [(97:UInt8),(100:UInt8),(100:UInt8)]),(.int .i64 0),(.str []),(.sl 0 true []),(.sl 0 true []),(.sl 0 true []),(.sl 0 true []),(.sl 10 false [enc y0,enc y1])])))))):Zc c7x 0 (Zb b1p G) b4r [] (ZL 8 [.str s]):=Zc.tp (dm [dv Tm] 8 0x215252) h
noncomputable def b3z:IC:=XU Proofs.Tryz.f12
def b2g:List IRes:=[(.tmp 0)]
abbrev c8v:Nat:=39
noncomputable def c6p:ZA:=Yn [(51,.pure (preT (fun _:Str×Unit=>true)) (Zi (fun x:Str×Unit=>vT x.1))),(16,.pure (preT (fun _:Str×Tm×Tm×Unit=>true)) (Zi (fun x:Str×Tm×Tm×Unit=>Sa (FZ x.1 x.2.1 x.2.2.1)))),(50,.pure (preT (fun _:Str×Unit=>true)) (Zi (fun x:Str×Unit=>Sa (NP x.1)))),(22,.pure (preT (fun x:Tm×Unit=>tW x.1)) (Zi (fun x:Tm×Unit=>Y8 x.1))),(25,.pure (preT (fun x:Tm×Tm×Unit=>tW x.1&&tW x.2.1)) (Zi (fun x:Tm×Tm×Unit=>DC x.1 x.2.1))),(30,.pure (preT (fun x:Tm×Unit=>tW x.1)) (Zi (fun x:Tm×Unit=>Xm x.1))),(21,.pure (preT (fun x:Tm×Unit=>tW x.1)) (Zi (fun x:Tm×Unit=>V8 x.1))),(18,.pure (preT (fun x:Tm×Tm×Unit=>tW x.1&&tW x.2.1&&tW (Xm x.1)&&tW (Xm x.2.1))) (Zi (fun x:Tm×Tm×Unit=>Rv x.1 x.2.1))),(32,.pure (preT (fun x:Tm×Unit=>tW x.1)) (Zi (fun x:Tm×Unit=>K8 x.1)))]
theorem d5o{G:PV->Prop}(h : ∃ y0:TS,AV.pv (Zi (fun(x:Str×Unit)=>Sa (NP x.1)) [(.str [(98:UInt8)])])=AV.pv (enc y0)∧(∃ y1:Tm,AV.pv (Zi (fun(x:Str×Unit)=>vT x.1) [(.str [(120:UInt8)])])=AV.pv (enc y1)∧(∃ y2:Tm,AV.pv (Zi (fun(x:Str×Unit)=>vT x.1) [(.str [(97:UInt8)])])=AV.pv (enc y2)∧((Go.Pl.preT (fun(x:Str×Tm×Tm×Unit)=>true) [(.str [(98:UInt8)]),enc y2,(eS y0)])=true∧(∃ y3:TS,AV.pv (Zi (fun(x:Str×Tm×Tm×Unit)=>Sa (FZ x.1 x.2.1 x.2.2.1)) [(.str [(98:UInt8)]),enc y2,(eS y0)])=AV.pv (enc y3)∧((Go.Pl.preT (fun(x:Str×Tm×Tm×Unit)=>true) [(.str [(97:UInt8)]),enc y1,(eS y3)])=true∧(∃ y4:TS,AV.pv (Zi (fun(x:Str×Tm×Tm×Unit)=>Sa (FZ x.1 x.2.1 x.2.2.1)) [(.str [(97:UInt8)]),enc y1,(eS y3)])=AV.pv (enc y4)∧(∃ y5:Tm,AV.pv (Zi (fun(x:Str×Unit)=>vT x.1) [(.str [(120:UInt8)])])=AV.pv (enc y5)∧(∃ y6:Tm,AV.pv (Zi (fun(x:Str×Unit)=>vT x.1) [(.str [(118:UInt8),(50:UInt8)])])=AV.pv (enc y6)∧(∃ y7:TS,AV.pv (Zi (fun(x:Str×Unit)=>Sa (NP x.1)) [(.str [(118:UInt8),(51:UInt8)])])=AV.pv (enc y7)∧((Go.Pl.preT (fun(x:Str×Tm×Tm×Unit)=>true) [(.str [(118:UInt8),(51:UInt8)]),enc y6,(eS y7)])=true∧(∃ y8:TS,AV.pv (Zi (fun(x:Str×Tm×Tm×Unit)=>Sa (FZ x.1 x.2.1 x.2.2.1)) [(.str [(118:UInt8),(51:UInt8)]),enc y6,(eS y7)])=AV.pv (enc y8)∧((Go.Pl.preT (fun(x:Str×Tm×Tm×Unit)=>true) [(.str [(118:UInt8),(50:UInt8)]),enc y5,(eS y8)])=true∧(∃ y9:TS,AV.pv (Zi (fun(x:Str×Tm×Tm×Unit)=>Sa (FZ x.1 x.2.1 x.2.2.1)) [(.str [(118:UInt8),(50:UInt8)]),enc y5,(eS y8)])=AV.pv (enc y9)∧((Go.Pl.preT (fun(x:Tm×Unit)=>tW x.1) [(eS y4)])=true∧(∃ y10:Bool,AV.pv (Zi (fun(x:Tm×Unit)=>Y8 x.1) [(eS y4)])=AV.pv (enc y10)∧(if (y10)=true then(Go.Pl.preT (fun(x:Tm×Unit)=>tW x.1) [(eS y4)])=true∧(∃ y11:Tm,AV.pv (Zi (fun(x:Tm×Unit)=>Xm x.1) [(eS y4)])=AV.pv (enc y11)∧((Go.Pl.preT (fun(x:Tm×Tm×Unit)=>tW x.1&&tW x.2.1) [enc y11,(eS y9)])=true∧(∃ y12:Bool,AV.pv (Zi (fun(x:Tm×Tm×Unit)=>DC x.1 x.2.1) [enc y11,(eS y9)])=AV.pv (enc y12)∧(if (y12)=true then(Go.Pl.preT (fun(x:Tm×Unit)=>tW x.1) [(eS y4)])=true∧(∃ y13:Int,AV.pv (Zi (fun(x:Tm×Unit)=>V8 x.1) [(eS y4)])=AV.pv (enc y13)∧(if (y13==7)=true then(Go.Pl.preT (fun(x:Tm×Tm×Unit)=>tW x.1&&tW x.2.1&&tW (Xm x.1)&&tW (Xm x.2.1)) [(eS y4),(eS y9)])=true∧(∃ y14:Bool,AV.pv (Zi (fun(x:Tm×Tm×Unit)=>Rv x.1 x.2.1) [(eS y4),(eS y9)])=AV.pv (enc y14)∧(if (y14)=true then(Go.Pl.preT (fun(x:Tm×Unit)=>tW x.1) [(eS y4)])=true∧(∃ y15:List Str,AV.pv (Zi (fun(x:Tm×Unit)=>K8 x.1) [(eS y4)])=AV.pv (enc y15)∧(G ((.bool ((↑(List.length (List.map enc y15)):Int)==1)))))else(G ((.bool false)))))else(G ((.bool false)))))else(G ((.bool false)))))))else(G ((.bool false)))))))))))))))))))):Zc c6p 0 (Zb b2g G) b3z [] (ZL 39 []):=Zc.tp (dm [dv TS,dv Tm,dv Bool,dv Int,dv (List Str)] 111 0x2222222222222222202222222222220222222220222202222912008427122016422281202942712261204247151515262625151626252) h
end Go.Pl
namespace Go.Pl
open Go.RowKit
open Enc (enc dec is)
open EncL (encL decL isL)
theorem c4z: ∀ x:Str×Unit,true=true->Zc c7x 0 (Zb b1p (Zn (NP x.1))) b4r [] (ZL d0g (encL x)):=by
 rintro⟨s,⟨⟩⟩ _
 refine d5r s.s (Zf (s,()) rfl (Zf (⟨[118,49]⟩,()) rfl ⟨?_,?_⟩))
 ·simp only[List.all_cons,List.all_nil,vT,ZE]
  rfl
 ·have h:is (List Tm) (.sl 10 false [enc (vT s),enc (vT ⟨[118,49]⟩)])=true:=Enc.is_enc [vT s,vT ⟨[118,49]⟩]
  have h2:(dec (.sl 10 false [enc (vT s),enc (vT ⟨[118,49]⟩)]):List Tm)=[vT s,vT ⟨[118,49]⟩]:=Enc.dec_enc [vT s,vT ⟨[118,49]⟩]
  refine⟨?_,?_⟩
  ·simp[h]
  ·rw[a9l _ _ _ _ _ _ _ _ _ _ h,h2]
   simp[NP,P6,c9o]
theorem c2d: ∀ x:Unit,true=true->Zc c6p 0 (Zb b2g (Zn true)) b3z [] (ZL c8v (encL x)):=by
 rintro⟨⟩ _
 refine d5o (Zf (⟨[98]⟩,()) rfl (Zf (⟨[120]⟩,()) rfl (Zf (⟨[97]⟩,()) rfl ?_)))
 refine⟨Ze (⟨[98]⟩,vT ⟨[97]⟩,NP ⟨[98]⟩,()) (NW _ _ _) rfl,Zf (⟨[98]⟩,vT ⟨[97]⟩,NP ⟨[98]⟩,()) (NW _ _ _) ?_⟩
 refine⟨Ze (⟨[97]⟩,vT ⟨[120]⟩,FZ ⟨[98]⟩ (vT ⟨[97]⟩) (NP ⟨[98]⟩),()) (NW _ _ _) rfl,Zf (⟨[97]⟩,vT ⟨[120]⟩,FZ ⟨[98]⟩ (vT ⟨[97]⟩) (NP ⟨[98]⟩),()) (NW _ _ _) ?_⟩
 refine Zf (⟨[120]⟩,()) rfl (Zf (⟨[118,50]⟩,()) rfl (Zf (⟨[118,51]⟩,()) rfl ?_))
 refine⟨Ze (⟨[118,51]⟩,vT ⟨[118,50]⟩,NP ⟨[118,51]⟩,()) (NW _ _ _) rfl,Zf (⟨[118,51]⟩,vT ⟨[118,50]⟩,NP ⟨[118,51]⟩,()) (NW _ _ _) ?_⟩
 refine⟨Ze (⟨[118,50]⟩,vT ⟨[120]⟩,FZ ⟨[118,51]⟩ (vT ⟨[118,50]⟩) (NP ⟨[118,51]⟩),()) (NW _ _ _) rfl,Zf (⟨[118,50]⟩,vT ⟨[120]⟩,FZ ⟨[118,51]⟩ (vT ⟨[118,50]⟩) (NP ⟨[118,51]⟩),()) (NW _ _ _) ?_⟩
 refine⟨Ze (Kz,()) (a1S Kz) b2r,Zf (Kz,()) (a1S Kz) (Yl a9h ?_)⟩
 refine⟨Ze (Kz,()) (a1S Kz) b2r,Zf (Kz,()) (a1S Kz) ?_⟩
 refine⟨Ze (Xm Kz,R5,()) (d6f _ R5) (by show(tW (Xm Kz)&&tW R5)=true;rw[Pz,c6r];rfl),Zf (Xm Kz,R5,()) (d6f _ R5) (Yl (by show DC (Xm Kz) R5=true;rw[Pz];exact c7j) ?_)⟩
 refine⟨Ze (Kz,()) (a1S Kz) b2r,Zf (Kz,()) (a1S Kz) (Yl (by show(V8 Kz==7)=true;unfold V8;rw[c1b];rfl) ?_)⟩
 refine⟨Ze (Kz,R5,()) (d4r Kz R5) (by show(tW Kz&&tW R5&&tW (Xm Kz)&&tW (Xm R5))=true;rw[Pz,a1v,b2r,c6r];rfl),Zf (Kz,R5,()) (d4r Kz R5) (Yl (by show DC (Xm Kz) (Xm R5)=true;rw[Pz,a1v];exact c7j) ?_)⟩
 refine⟨Ze (Kz,()) (a1S Kz) b2r,Zf (Kz,()) (a1S Kz) (Zl ?_)⟩
 show(((List.map (enc:Str->PV) (K8 Kz)).length:Int)==1)=true
 rw[List.length_map,b4p];rfl
end Go.Pl
namespace Go.Pl
open Go.RowKit
open Enc (enc dec is)
open EncL (encL decL isL)
set_option maxRecDepth 100000
end Go.Pl
namespace Go.Pl
open Go.RowKit
open Enc (enc dec is)
open EncL (encL decL isL)
end Go.Pl
namespace Go.Pl
open Go.RowKit
open Enc (enc dec is)
open EncL (encL decL isL)
set_option maxRecDepth 100000
def Wd:IC:=(XY [Zw 1 (.box 10 (.t 0)) 0,Zw 2 (.alloc (.agg [(.int .i64 0),(.int .i64 0),(.str []),(.int .i64 0),(.str []),(.sl 0 true []),(.sl 0 true []),(.sl 0 true []),(.sl 0 true []),(.sl 0 true [])])) 1] (.seq (.reg [Zw 5 (.faddr 4 (.t 1)) 0,Zw 6 (.faddr 0 (.t 5)) 0,Zw 7 (.load false [.str] (.t 6)) 0,Zw 8 (.faddr 4 (.t 1)) 0,Zw 9 (.faddr 1 (.t 8)) 0,Zw 10 (DF [(.sl 1)] (.t 9)) 0,Zw 11 (c'' 93 [(.t 10)]) 0,Zw 12 (.faddr 4 (.t 1)) 2,Zw 13 (.faddr 2 (.t 12)) 2,Zw 14 (DF [(.sl 1)] (.t 13)) 2,Zw 15 (c'' 93 [(.t 14)]) 2,Zw 16 (.build [(.str []),(.sl 0 true []),(.sl 0 true [])] [(0,(1,(.t 7))),(1,(1,(.t 11))),(2,(1,(.t 15)))]) 4,Zw 17 (.faddr 4 (.t 1)) 4,Rh (.store 3 (.t 17) (.t 16)) 4] (some [[],[0],[1,0],[],[3],[4,3],[5,4,3],[],[7],[8,7],[9,6,8,7,5,4,3],[2,6,10,1,0,5,4,3,9,8,7],[0,1,2,3,4,5,6,7,8,9,10,11],[12,11,10,0,1,2,3,4,5,6,7,8,9]])) (XY [Zw 18 (.faddr 8 (.t 1)) 0,Zw 19 (DF [(.sl 1)] (.t 18)) 0,Zw 20 (c'' 93 [(.t 19)]) 0,Zw 21 (.faddr 8 (.t 1)) 2,Rh (.store 1 (.t 21) (.t 20)) 2] (XY [Zw 22 (.faddr 7 (.t 1)) 0,Zw 23 (DF [(.sl 2)] (.t 22)) 0,Zw 24 (c'' 94 [(.t 23)]) 0,Zw 25 (.faddr 7 (.t 1)) 2,Rh (.store 1 (.t 25) (.t 24)) 2] (.seq (XY [Zw 26 (.faddr 7 (.t 1)) 0,Zw 27 (DF [(.sl 2)] (.t 26)) 0,Zw 28 (.len 1 (.t 27)) 0,Zw 29 (.mv (Wx 0)) 0] (.block 0 (.loop [29,28,1,49,50,52,51,53,54,55,4,58,59,60,61,62,56,57,64,63,65,2,66] (XY [Zw 30 (QQ .lss (.t 29) (.t 28)) 0] (.seq (.cond (.t 30) .skip (.exit 0)) (.seq (.block 1 (XY [Zw 31 (YX 29) 0,Zw 3 (YX 31) 0] (.reg [Zw 32 (.faddr 7 (.t 1)) 0,Zw 33 (DF [(.sl 2)] (.t 32)) 0,Zw 34 (YX 3) 0,Zw 35 (.faddr 7 (.t 1)) 0,Zw 36 (DF [(.sl 2)] (.t 35)) 0,Zw 37 (YX 3) 0,Zw 38 (.iaddr 2 (.t 36) (.t 37)) 0,Zw 39 (.faddr 1 (.t 38)) 0,Zw 40 (DF [(.sl 2)] (.t 39)) 0,Zw 41 (c'' 95 [(.t 40)]) 0,Zw 42 (.iaddr 2 (.t 33) (.t 34)) 2,Zw 43 (.faddr 1 (.t 42)) 2,Rh (.store 1 (.t 43) (.t 41)) 2] (some [[],[0],[],[],[3],[],[4,5,3],[6,4,5,3],[7,6,4,5,3],[8,7,6,4,5,3],[1,2,0,3,4,5,6,7,8,9],[10,0,1,2,3,4,5,6,7,8,9],[11,9,0,1,2,3,4,5,6,7,8,10]])))) (.reg [Zw 44 (QQ .add (.t 29) (Wx 1)) 0,Zw 29 (YX 44) 0] none))))))) (XY [Zw 45 (.faddr 9 (.t 1)) 0,Zw 46 (DF [(.sl 10)] (.t 45)) 0,Zw 47 (c'' 96 [(.t 46)]) 0,Zw 48 (.faddr 9 (.t 1)) 2,Rh (.store 1 (.t 48) (.t 47)) 2] (.ext 0 [1,49,50,52,51,53,54,55,4,58,59,60,61,62,56,57,64,63,65,2,66])))))))
def QC:ZA:=Yn [(93,.pure (preT (fun x:List Int×Unit=>decide (x.1.length<=2000000))) (Zi (fun x:List Int×Unit=>x.1))),(94,.own (Yd 2) (XD 62 2)),(95,.pure (preT (fun x:List Coef×Unit=>decide (x.1.length<=2000000))) (Zi (fun x:List Coef×Unit=>x.1))),(96,.own (Yd 10) (XD 28 10))]
theorem c8a{G:Zu->Prop}(RR:Nat->St->Prop)(n:Nd)(ks:List Tm)(h:(Go.Pl.preT (fun(x:List Int×Unit)=>decide (List.length x.1<=2000000)) [(.sl 1 false (List.map enc (Nd.dims n)))])=true∧(∃ y0:List Int,AV.pv (Zi (fun(x:List Int×Unit)=>x.1) [(.sl 1 false (List.map enc (Nd.dims n)))])=AV.pv (enc y0)∧((Go.Pl.preT (fun(x:List Int×Unit)=>decide (List.length x.1<=2000000)) [(.sl 1 false (List.map enc (Nd.data n)))])=true∧(∃ y1:List Int,AV.pv (Zi (fun(x:List Int×Unit)=>x.1) [(.sl 1 false (List.map enc (Nd.data n)))])=AV.pv (enc y1)∧((Go.Pl.preT (fun(x:List Int×Unit)=>decide (List.length x.1<=2000000)) [(.sl 1 false (List.map enc (Nd.ranks n)))])=true∧(∃ y2:List Int,AV.pv (Zi (fun(x:List Int×Unit)=>x.1) [(.sl 1 false (List.map enc (Nd.ranks n)))])=AV.pv (enc y2)∧((Yd 2 [(.pv (.sl 2 false (List.map enc (Nd.sizes n))))] [])=true∧(AtM QC (Vb RR) 0 (fun st=>G st.heap) Wd 0 67 [(1,(.ptr 0 0)),(2,(.ptr 1 0)),(4,.undef),(28,(.pv (.int .i64 (↑(List.length (List.map enc (Nd.sizes n)) - 0):Int)))),(29,(.pv (.int .i64 0))),(49,.undef),(50,.undef),(51,.undef),(52,.undef),(53,.undef),(54,.undef),(55,.undef),(56,.undef),(57,.undef),(58,.undef),(59,.undef),(60,.undef),(61,.undef),(62,.undef),(63,.undef),(64,.undef),(65,.undef),(66,.undef)] [(.obj (.box [(.pv (.int .i64 (Nd.kind n))),(.pv (.int .i64 (Nd.line n))),(.pv (.str (Str.s (Nd.name n)))),(.pv (.int .i64 (Nd.num n))),(.pv (.str (Str.s (Nd.elem n)))),(.pv (.sl 1 false (List.map enc y0))),(.pv (.sl 1 false (List.map enc y1))),(.row 2 (List.length (List.map enc (Nd.sizes n))) 0 (List.length (List.map enc (Nd.sizes n)))),(.pv (.sl 1 false (List.map enc y2))),(.pv (.sl 10 false (List.map enc ks)))])),(.obj (.box [(.pv (.int .i64 0)),(.pv (.int .i64 0)),(.pv (.str [])),(.pv (.int .i64 0)),(.pv (.str [])),(.pv (.sl 0 true [])),(.pv (.sl 0 true [])),(.pv (.sl 0 true [])),(.pv (.sl 0 true [])),(.pv (.sl 0 true []))])),(.obj (.row false 62 2 (List.map enc (Nd.sizes n))))])))))))):ZC QC (Vb RR) 0 (fun st=>G st.heap) (.inl Wd) [] (Wq 67 [.pv (.agg [enc n.kind,enc n.line,enc n.name,enc n.num,enc n.elem,enc n.dims,enc n.data,enc n.sizes,enc n.ranks,enc ks])] []):=ZC.mh (dm [dv (List Int)] 10 0x31515151) h
theorem a2d{G:Zu->Prop}(RR:Nat->St->Prop)(n:Nd)(ks:List Tm)(m:Nat)(L:List Lin)(i:Int)(h:if (decide (i<(↑m:Int)))=true then(decide (0<=i)&&decide (0+Int.toNat i<m)&&List.length (List.map enc L)==m)=true∧((List.length (List.map enc L)==m&&decide (0+Int.toNat i<List.length (List.map enc L)))=true∧((decide (0+1+List.length [Sh.sl 2]<=List.length (PV.cells (List.getD (List.map enc L) (0+Int.toNat i) default)))&&Yg (PV.cells (List.getD (List.map enc L) (0+Int.toNat i) default)) (0+1) [Sh.sl 2])=true∧((Go.Pl.preT (fun(x:List Coef×Unit)=>decide (List.length x.1<=2000000)) [(.sl 2 (PV.asT (List.getD (PV.cells (List.getD (List.map enc L) (0+Int.toNat i) default)) (0+1) default)) (PV.asXs (List.getD (PV.cells (List.getD (List.map enc L) (0+Int.toNat i) default)) (0+1) default)))])=true∧(∃ y0:List Coef,AV.pv (Zi (fun(x:List Coef×Unit)=>x.1) [(.sl 2 (PV.asT (List.getD (PV.cells (List.getD (List.map enc L) (0+Int.toNat i) default)) (0+1) default)) (PV.asXs (List.getD (PV.cells (List.getD (List.map enc L) (0+Int.toNat i) default)) (0+1) default)))])=AV.pv (enc y0)∧((decide (0<=i)&&decide (0+Int.toNat i<m)&&List.length (List.map enc L)==m)=true∧((List.length (List.map enc L)==m&&decide (0+Int.toNat i<List.length (List.map enc L))&&List.length (PV.cells (enc y0))==1&&decide (0+1+1<=List.length (PV.cells (List.getD (List.map enc L) (0+Int.toNat i) default)))&&PV.cellsOk (enc y0))=true∧(AtM QC (Vb RR) 0 (fun st=>G st.heap) Wd 0 67 [(1,(.ptr 0 0)),(2,(.ptr 1 0)),(4,.undef),(28,(.pv (.int .i64 (↑m:Int)))),(29,(.pv (.int .i64 (IntKind.wrap IntKind.i64 (i+1))))),(49,.undef),(50,.undef),(51,.undef),(52,.undef),(53,.undef),(54,.undef),(55,.undef),(56,.undef),(57,.undef),(58,.undef),(59,.undef),(60,.undef),(61,.undef),(62,.undef),(63,.undef),(64,.undef),(65,.undef),(66,.undef)] [(.obj (.box [(.pv (.int .i64 (Nd.kind n))),(.pv (.int .i64 (Nd.line n))),(.pv (.str (Str.s (Nd.name n)))),(.pv (.int .i64 (Nd.num n))),(.pv (.str (Str.s (Nd.elem n)))),(.pv (.sl 1 false (List.map enc (Nd.dims n)))),(.pv (.sl 1 false (List.map enc (Nd.data n)))),(.row 2 m 0 m),(.pv (.sl 1 false (List.map enc (Nd.ranks n)))),(.pv (.sl 10 false (List.map enc ks)))])),(.obj (.box [(.pv (.int .i64 0)),(.pv (.int .i64 0)),(.pv (.str [])),(.pv (.int .i64 0)),(.pv (.str [])),(.pv (.sl 0 true [])),(.pv (.sl 0 true [])),(.pv (.sl 0 true [])),(.pv (.sl 0 true [])),(.pv (.sl 0 true []))])),(.obj (.row false 62 2 (List.set (List.map enc L) (0+Int.toNat i) (PV.withCells (List.getD (List.map enc L) (0+Int.toNat i) default) (splice (PV.cells (List.getD (List.map enc L) (0+Int.toNat i) default)) (0+1) (PV.cells (enc y0)))))))])))))))else((Yd 10 [(.pv (.sl 10 false (List.map enc ks)))] [])=true∧((Vb RR) 0 ⟨ZK 67 0 [(1,(.ptr 0 0)),(2,(.ptr 1 0)),(4,.undef),(49,.undef),(50,.undef),(51,.undef),(52,.undef),(53,.undef),(54,.undef),(55,.undef),(56,.undef),(57,.undef),(58,.undef),(59,.undef),(60,.undef),(61,.undef),(62,.undef),(63,.undef),(64,.undef),(65,.undef),(66,.undef)],[(.obj (.box [(.pv (.int .i64 (Nd.kind n))),(.pv (.int .i64 (Nd.line n))),(.pv (.str (Str.s (Nd.name n)))),(.pv (.int .i64 (Nd.num n))),(.pv (.str (Str.s (Nd.elem n)))),(.pv (.sl 1 false (List.map enc (Nd.dims n)))),(.pv (.sl 1 false (List.map enc (Nd.data n)))),(.row 2 m 0 m),(.pv (.sl 1 false (List.map enc (Nd.ranks n)))),(.row 3 (List.length (List.map enc ks)) 0 (List.length (List.map enc ks)))])),(.obj (.box [(.pv (.int .i64 0)),(.pv (.int .i64 0)),(.pv (.str [])),(.pv (.int .i64 0)),(.pv (.str [])),(.pv (.sl 0 true [])),(.pv (.sl 0 true [])),(.pv (.sl 0 true [])),(.pv (.sl 0 true [])),(.pv (.sl 0 true []))])),(.obj (.row false 62 2 (List.map enc L))),(.obj (.row false 28 10 (List.map enc ks)))]⟩ (fun x S'=>Kg QC (Vb RR) 0 (fun st=>G st.heap) Wd 0 x S')))):AtM QC (Vb RR) 0 (fun st=>G st.heap) Wd 0 67 [(1,.ptr 0 0),(2,.ptr 1 0),(4,.undef),(28,.pv (.int .i64 m)),(29,.pv (.int .i64 i)),(49,.undef),(50,.undef),(51,.undef),(52,.undef),(53,.undef),(54,.undef),(55,.undef),(56,.undef),(57,.undef),(58,.undef),(59,.undef),(60,.undef),(61,.undef),(62,.undef),(63,.undef),(64,.undef),(65,.undef),(66,.undef)] [.obj (.box [.pv (enc n.kind),.pv (enc n.line),.pv (enc n.name),.pv (enc n.num),.pv (enc n.elem),.pv (enc n.dims),.pv (enc n.data),.row 2 m 0 m,.pv (enc n.ranks),.pv (enc ks)]),.obj (.box [.pv (.int .i64 0),.pv (.int .i64 0),.pv (.str []),.pv (.int .i64 0),.pv (.str []),.pv (.sl 0 true []),.pv (.sl 0 true []),.pv (.sl 0 true []),.pv (.sl 0 true []),.pv (.sl 0 true [])]),.obj (.row false 62 2 (L.map enc))]:=ZC.mh (dm [dv (List Coef)] 20 0x310213151113100b42) h
def KN:IC:=Wd
def Gr:ZA:=Yn [(93,.pure (preT (fun x:List Int×Unit=>decide (x.1.length<=2000000))) (Zi (fun x:List Int×Unit=>x.1))),(94,.pure (preT (fun x:List Lin×Unit=>x.1.isEmpty)) (Zi (fun x:List Lin×Unit=>x.1))),(95,.pure (preT (fun x:List Coef×Unit=>decide (x.1.length<=2000000))) (Zi (fun x:List Coef×Unit=>x.1))),(96,.own (Yd 10) (XD 28 10))]
theorem d0y{G:Zu->Prop}(RR:Nat->St->Prop)(n:Nd)(ks:List Tm)(h:(Go.Pl.preT (fun(x:List Int×Unit)=>decide (List.length x.1<=2000000)) [(.sl 1 false (List.map enc (Nd.dims n)))])=true∧(∃ y0:List Int,AV.pv (Zi (fun(x:List Int×Unit)=>x.1) [(.sl 1 false (List.map enc (Nd.dims n)))])=AV.pv (enc y0)∧((Go.Pl.preT (fun(x:List Int×Unit)=>decide (List.length x.1<=2000000)) [(.sl 1 false (List.map enc (Nd.data n)))])=true∧(∃ y1:List Int,AV.pv (Zi (fun(x:List Int×Unit)=>x.1) [(.sl 1 false (List.map enc (Nd.data n)))])=AV.pv (enc y1)∧((Go.Pl.preT (fun(x:List Int×Unit)=>decide (List.length x.1<=2000000)) [(.sl 1 false (List.map enc (Nd.ranks n)))])=true∧(∃ y2:List Int,AV.pv (Zi (fun(x:List Int×Unit)=>x.1) [(.sl 1 false (List.map enc (Nd.ranks n)))])=AV.pv (enc y2)∧((Go.Pl.preT (fun(x:List Lin×Unit)=>List.isEmpty x.1) [(.sl 2 false (List.map enc (Nd.sizes n)))])=true∧(∃ y3:List Lin,AV.pv (Zi (fun(x:List Lin×Unit)=>x.1) [(.sl 2 false (List.map enc (Nd.sizes n)))])=AV.pv (enc y3)∧(AtM Gr (Vb RR) 0 (fun st=>G st.heap) KN 0 67 [(1,(.ptr 0 0)),(2,(.ptr 1 0)),(4,.undef),(28,(.pv (.int .i64 (↑(List.length (List.map enc y3)):Int)))),(29,(.pv (.int .i64 0))),(49,.undef),(50,.undef),(51,.undef),(52,.undef),(53,.undef),(54,.undef),(55,.undef),(56,.undef),(57,.undef),(58,.undef),(59,.undef),(60,.undef),(61,.undef),(62,.undef),(63,.undef),(64,.undef),(65,.undef),(66,.undef)] [(.obj (.box [(.pv (.int .i64 (Nd.kind n))),(.pv (.int .i64 (Nd.line n))),(.pv (.str (Str.s (Nd.name n)))),(.pv (.int .i64 (Nd.num n))),(.pv (.str (Str.s (Nd.elem n)))),(.pv (.sl 1 false (List.map enc y0))),(.pv (.sl 1 false (List.map enc y1))),(.pv (.sl 2 false (List.map enc y3))),(.pv (.sl 1 false (List.map enc y2))),(.pv (.sl 10 false (List.map enc ks)))])),(.obj (.box [(.pv (.int .i64 0)),(.pv (.int .i64 0)),(.pv (.str [])),(.pv (.int .i64 0)),(.pv (.str [])),(.pv (.sl 0 true [])),(.pv (.sl 0 true [])),(.pv (.sl 0 true [])),(.pv (.sl 0 true [])),(.pv (.sl 0 true []))]))]))))))))):ZC Gr (Vb RR) 0 (fun st=>G st.heap) (.inl KN) [] (Wq 67 [.pv (.agg [enc n.kind,enc n.line,enc n.name,enc n.num,enc n.elem,enc n.dims,enc n.data,enc n.sizes,enc n.ranks,enc ks])] []):=ZC.mh (dm [dv (List Int),dv (List Lin)] 10 0x61515151) h
-- BAD 1 in a3c
theorem a3c{G:Zu->Prop}(RR:Nat->St->Prop)(n:Nd)(ks:List Tm)(m i:Int)(h:if (decide (i<m))=true then(decide (0<=i)&&decide (Int.toNat i<List.length (List.map enc (Nd.sizes n)))&&Enc.sz Lin==2)=true∧(∃ y0:Lin,AV.pv (PV.rptr (PV.cells (List.getD (List.map enc (Nd.sizes n)) (Int.toNat i) default)))=AV.pv (PV.rptr (PV.cells ((enc) y0)))∧((Go.Pl.preT (fun(x:List Coef×Unit)=>decide (List.length x.1<=2000000)) [(.sl 2 false (PV.asXs (List.getD (List.drop 1 (PV.cells (enc y0))) 0 default)))])=true∧(∃ y1:List Coef,AV.pv (Zi (fun(x:List Coef×Unit)=>x.1) [(.sl 2 false (PV.asXs (List.getD (List.drop 1 (PV.cells (enc y0))) 0 default)))])=AV.pv (enc y1)∧((decide (0<=i)&&decide (Int.toNat i<List.length (List.map enc (Nd.sizes n)))&&Enc.sz Lin==2)=true∧(∃ y2:Lin,AV.pv (PV.rptr (PV.cells (List.getD (List.map enc (Nd.sizes n)) (Int.toNat i) default)))=AV.pv (PV.rptr (PV.cells ((enc) y2)))∧(False))))))else((Yd 10 [(.pv (.sl 10 false (List.map enc ks)))] [])=true∧((Vb RR) 0 ⟨ZK 67 0 [(1,(.ptr 0 0)),(2,(.ptr 1 0)),(4,.undef),(49,.undef),(50,.undef),(51,.undef),(52,.undef),(53,.undef),(54,.undef),(55,.undef),(56,.undef),(57,.undef),(58,.undef),(59,.undef),(60,.undef),(61,.undef),(62,.undef),(63,.undef),(64,.undef),(65,.undef),(66,.undef)],[(.obj (.box [(.pv (.int .i64 (Nd.kind n))),(.pv (.int .i64 (Nd.line n))),(.pv (.str (Str.s (Nd.name n)))),(.pv (.int .i64 (Nd.num n))),(.pv (.str (Str.s (Nd.elem n)))),(.pv (.sl 1 false (List.map enc (Nd.dims n)))),(.pv (.sl 1 false (List.map enc (Nd.data n)))),(.pv (.sl 2 false (List.map enc (Nd.sizes n)))),(.pv (.sl 1 false (List.map enc (Nd.ranks n)))),(.row 2 (List.length (List.map enc ks)) 0 (List.length (List.map enc ks)))])),(.obj (.box [(.pv (.int .i64 0)),(.pv (.int .i64 0)),(.pv (.str [])),(.pv (.int .i64 0)),(.pv (.str [])),(.pv (.sl 0 true [])),(.pv (.sl 0 true [])),(.pv (.sl 0 true [])),(.pv (.sl 0 true [])),(.pv (.sl 0 true []))])),(.obj (.row false 28 10 (List.map enc ks)))]⟩ (fun x S'=>Kg Gr (Vb RR) 0 (fun st=>G st.heap) KN 0 x S')))):AtM Gr (Vb RR) 0 (fun st=>G st.heap) KN 0 67 [(1,.ptr 0 0),(2,.ptr 1 0),(4,.undef),(28,.pv (.int .i64 m)),(29,.pv (.int .i64 i)),(49,.undef),(50,.undef),(51,.undef),(52,.undef),(53,.undef),(54,.undef),(55,.undef),(56,.undef),(57,.undef),(58,.undef),(59,.undef),(60,.undef),(61,.undef),(62,.undef),(63,.undef),(64,.undef),(65,.undef),(66,.undef)] [.obj (.box [.pv (enc n.kind),.pv (enc n.line),.pv (enc n.name),.pv (enc n.num),.pv (enc n.elem),.pv (enc n.dims),.pv (enc n.data),.pv (enc n.sizes),.pv (enc n.ranks),.pv (enc ks)]),.obj (.box [.pv (.int .i64 0),.pv (.int .i64 0),.pv (.str []),.pv (.int .i64 0),.pv (.str []),.pv (.sl 0 true []),.pv (.sl 0 true []),.pv (.sl 0 true []),.pv (.sl 0 true []),.pv (.sl 0 true [])])]:=ZC.mh (dm [dr Lin,dv (List Coef)] 17 0x310516125100842) h
def Vt:IC:=Wd
def Qg:ZA:=Yn [(93,.pure (preT (fun x:List Int×Unit=>decide (x.1.length<=2000000))) (Zi (fun x:List Int×Unit=>x.1))),(94,.own (Yd 2) (XD 62 2)),(95,.pure (preT (fun x:List Coef×Unit=>decide (x.1.length<=2000000))) (Zi (fun x:List Coef×Unit=>x.1))),(96,.pure (preT (fun x:List Tm×Unit=>x.1.isEmpty)) (Zi (fun x:List Tm×Unit=>x.1)))]
theorem d0h{G:Zu->Prop}(RR:Nat->St->Prop)(n:Nd)(ks:List Tm)(h:(Go.Pl.preT (fun(x:List Int×Unit)=>decide (List.length x.1<=2000000)) [(.sl 1 false (List.map enc (Nd.dims n)))])=true∧(∃ y0:List Int,AV.pv (Zi (fun(x:List Int×Unit)=>x.1) [(.sl 1 false (List.map enc (Nd.dims n)))])=AV.pv (enc y0)∧((Go.Pl.preT (fun(x:List Int×Unit)=>decide (List.length x.1<=2000000)) [(.sl 1 false (List.map enc (Nd.data n)))])=true∧(∃ y1:List Int,AV.pv (Zi (fun(x:List Int×Unit)=>x.1) [(.sl 1 false (List.map enc (Nd.data n)))])=AV.pv (enc y1)∧((Go.Pl.preT (fun(x:List Int×Unit)=>decide (List.length x.1<=2000000)) [(.sl 1 false (List.map enc (Nd.ranks n)))])=true∧(∃ y2:List Int,AV.pv (Zi (fun(x:List Int×Unit)=>x.1) [(.sl 1 false (List.map enc (Nd.ranks n)))])=AV.pv (enc y2)∧((Yd 2 [(.pv (.sl 2 false (List.map enc (Nd.sizes n))))] [])=true∧(AtM Qg (Vb RR) 0 (fun st=>G st.heap) Vt 0 67 [(1,(.ptr 0 0)),(2,(.ptr 1 0)),(4,.undef),(28,(.pv (.int .i64 (↑(List.length (List.map enc (Nd.sizes n)) - 0):Int)))),(29,(.pv (.int .i64 0))),(49,.undef),(50,.undef),(51,.undef),(52,.undef),(53,.undef),(54,.undef),(55,.undef),(56,.undef),(57,.undef),(58,.undef),(59,.undef),(60,.undef),(61,.undef),(62,.undef),(63,.undef),(64,.undef),(65,.undef),(66,.undef)] [(.obj (.box [(.pv (.int .i64 (Nd.kind n))),(.pv (.int .i64 (Nd.line n))),(.pv (.str (Str.s (Nd.name n)))),(.pv (.int .i64 (Nd.num n))),(.pv (.str (Str.s (Nd.elem n)))),(.pv (.sl 1 false (List.map enc y0))),(.pv (.sl 1 false (List.map enc y1))),(.row 2 (List.length (List.map enc (Nd.sizes n))) 0 (List.length (List.map enc (Nd.sizes n)))),(.pv (.sl 1 false (List.map enc y2))),(.pv (.sl 10 false (List.map enc ks)))])),(.obj (.box [(.pv (.int .i64 0)),(.pv (.int .i64 0)),(.pv (.str [])),(.pv (.int .i64 0)),(.pv (.str [])),(.pv (.sl 0 true [])),(.pv (.sl 0 true [])),(.pv (.sl 0 true [])),(.pv (.sl 0 true [])),(.pv (.sl 0 true []))])),(.obj (.row false 62 2 (List.map enc (Nd.sizes n))))])))))))):ZC Qg (Vb RR) 0 (fun st=>G st.heap) (.inl Vt) [] (Wq 67 [.pv (.agg [enc n.kind,enc n.line,enc n.name,enc n.num,enc n.elem,enc n.dims,enc n.data,enc n.sizes,enc n.ranks,enc ks])] []):=ZC.mh (dm [dv (List Int)] 10 0x31515151) h
theorem a3u{G:Zu->Prop}(RR:Nat->St->Prop)(n:Nd)(ks:List Tm)(m:Nat)(L:List Lin)(i:Int)(h:if (decide (i<(↑m:Int)))=true then(decide (0<=i)&&decide (0+Int.toNat i<m)&&List.length (List.map enc L)==m)=true∧((List.length (List.map enc L)==m&&decide (0+Int.toNat i<List.length (List.map enc L)))=true∧((decide (0+1+List.length [Sh.sl 2]<=List.length (PV.cells (List.getD (List.map enc L) (0+Int.toNat i) default)))&&Yg (PV.cells (List.getD (List.map enc L) (0+Int.toNat i) default)) (0+1) [Sh.sl 2])=true∧((Go.Pl.preT (fun(x:List Coef×Unit)=>decide (List.length x.1<=2000000)) [(.sl 2 (PV.asT (List.getD (PV.cells (List.getD (List.map enc L) (0+Int.toNat i) default)) (0+1) default)) (PV.asXs (List.getD (PV.cells (List.getD (List.map enc L) (0+Int.toNat i) default)) (0+1) default)))])=true∧(∃ y0:List Coef,AV.pv (Zi (fun(x:List Coef×Unit)=>x.1) [(.sl 2 (PV.asT (List.getD (PV.cells (List.getD (List.map enc L) (0+Int.toNat i) default)) (0+1) default)) (PV.asXs (List.getD (PV.cells (List.getD (List.map enc L) (0+Int.toNat i) default)) (0+1) default)))])=AV.pv (enc y0)∧((decide (0<=i)&&decide (0+Int.toNat i<m)&&List.length (List.map enc L)==m)=true∧((List.length (List.map enc L)==m&&decide (0+Int.toNat i<List.length (List.map enc L))&&List.length (PV.cells (enc y0))==1&&decide (0+1+1<=List.length (PV.cells (List.getD (List.map enc L) (0+Int.toNat i) default)))&&PV.cellsOk (enc y0))=true∧(AtM Qg (Vb RR) 0 (fun st=>G st.heap) Vt 0 67 [(1,(.ptr 0 0)),(2,(.ptr 1 0)),(4,.undef),(28,(.pv (.int .i64 (↑m:Int)))),(29,(.pv (.int .i64 (IntKind.wrap IntKind.i64 (i+1))))),(49,.undef),(50,.undef),(51,.undef),(52,.undef),(53,.undef),(54,.undef),(55,.undef),(56,.undef),(57,.undef),(58,.undef),(59,.undef),(60,.undef),(61,.undef),(62,.undef),(63,.undef),(64,.undef),(65,.undef),(66,.undef)] [(.obj (.box [(.pv (.int .i64 (Nd.kind n))),(.pv (.int .i64 (Nd.line n))),(.pv (.str (Str.s (Nd.name n)))),(.pv (.int .i64 (Nd.num n))),(.pv (.str (Str.s (Nd.elem n)))),(.pv (.sl 1 false (List.map enc (Nd.dims n)))),(.pv (.sl 1 false (List.map enc (Nd.data n)))),(.row 2 m 0 m),(.pv (.sl 1 false (List.map enc (Nd.ranks n)))),(.pv (.sl 10 false (List.map enc ks)))])),(.obj (.box [(.pv (.int .i64 0)),(.pv (.int .i64 0)),(.pv (.str [])),(.pv (.int .i64 0)),(.pv (.str [])),(.pv (.sl 0 true [])),(.pv (.sl 0 true [])),(.pv (.sl 0 true [])),(.pv (.sl 0 true [])),(.pv (.sl 0 true []))])),(.obj (.row false 62 2 (List.set (List.map enc L) (0+Int.toNat i) (PV.withCells (List.getD (List.map enc L) (0+Int.toNat i) default) (splice (PV.cells (List.getD (List.map enc L) (0+Int.toNat i) default)) (0+1) (PV.cells (enc y0)))))))])))))))else((Go.Pl.preT (fun(x:List Tm×Unit)=>List.isEmpty x.1) [(.sl 10 false (List.map enc ks))])=true∧(∃ y1:List Tm,AV.pv (Zi (fun(x:List Tm×Unit)=>x.1) [(.sl 10 false (List.map enc ks))])=AV.pv (enc y1)∧((Vb RR) 0 ⟨ZK 67 0 [(1,(.ptr 0 0)),(2,(.ptr 1 0)),(4,.undef),(49,.undef),(50,.undef),(51,.undef),(52,.undef),(53,.undef),(54,.undef),(55,.undef),(56,.undef),(57,.undef),(58,.undef),(59,.undef),(60,.undef),(61,.undef),(62,.undef),(63,.undef),(64,.undef),(65,.undef),(66,.undef)],[(.obj (.box [(.pv (.int .i64 (Nd.kind n))),(.pv (.int .i64 (Nd.line n))),(.pv (.str (Str.s (Nd.name n)))),(.pv (.int .i64 (Nd.num n))),(.pv (.str (Str.s (Nd.elem n)))),(.pv (.sl 1 false (List.map enc (Nd.dims n)))),(.pv (.sl 1 false (List.map enc (Nd.data n)))),(.row 2 m 0 m),(.pv (.sl 1 false (List.map enc (Nd.ranks n)))),(.pv (.sl 10 false (List.map enc y1)))])),(.obj (.box [(.pv (.int .i64 0)),(.pv (.int .i64 0)),(.pv (.str [])),(.pv (.int .i64 0)),(.pv (.str [])),(.pv (.sl 0 true [])),(.pv (.sl 0 true [])),(.pv (.sl 0 true [])),(.pv (.sl 0 true [])),(.pv (.sl 0 true []))])),(.obj (.row false 62 2 (List.map enc L)))]⟩ (fun x S'=>Kg Qg (Vb RR) 0 (fun st=>G st.heap) Vt 0 x S'))))):AtM Qg (Vb RR) 0 (fun st=>G st.heap) Vt 0 67 [(1,.ptr 0 0),(2,.ptr 1 0),(4,.undef),(28,.pv (.int .i64 m)),(29,.pv (.int .i64 i)),(49,.undef),(50,.undef),(51,.undef),(52,.undef),(53,.undef),(54,.undef),(55,.undef),(56,.undef),(57,.undef),(58,.undef),(59,.undef),(60,.undef),(61,.undef),(62,.undef),(63,.undef),(64,.undef),(65,.undef),(66,.undef)] [.obj (.box [.pv (enc n.kind),.pv (enc n.line),.pv (enc n.name),.pv (enc n.num),.pv (enc n.elem),.pv (enc n.dims),.pv (enc n.data),.row 2 m 0 m,.pv (enc n.ranks),.pv (enc ks)]),.obj (.box [.pv (.int .i64 0),.pv (.int .i64 0),.pv (.str []),.pv (.int .i64 0),.pv (.str []),.pv (.sl 0 true []),.pv (.sl 0 true []),.pv (.sl 0 true []),.pv (.sl 0 true []),.pv (.sl 0 true [])]),.obj (.row false 62 2 (L.map enc))]:=ZC.mh (dm [dv (List Coef),dv (List Tm)] 20 0x610213151113100b42) h
def KJ:IC:=Wd
def Dw:ZA:=Yn [(93,.pure (preT (fun x:List Int×Unit=>decide (x.1.length<=2000000))) (Zi (fun x:List Int×Unit=>x.1))),(94,.pure (preT (fun x:List Lin×Unit=>x.1.isEmpty)) (Zi (fun x:List Lin×Unit=>x.1))),(95,.pure (preT (fun x:List Coef×Unit=>decide (x.1.length<=2000000))) (Zi (fun x:List Coef×Unit=>x.1))),(96,.pure (preT (fun x:List Tm×Unit=>x.1.isEmpty)) (Zi (fun x:List Tm×Unit=>x.1)))]
theorem c9h{G:Zu->Prop}(RR:Nat->St->Prop)(n:Nd)(ks:List Tm)(h:(Go.Pl.preT (fun(x:List Int×Unit)=>decide (List.length x.1<=2000000)) [(.sl 1 false (List.map enc (Nd.dims n)))])=true∧(∃ y0:List Int,AV.pv (Zi (fun(x:List Int×Unit)=>x.1) [(.sl 1 false (List.map enc (Nd.dims n)))])=AV.pv (enc y0)∧((Go.Pl.preT (fun(x:List Int×Unit)=>decide (List.length x.1<=2000000)) [(.sl 1 false (List.map enc (Nd.data n)))])=true∧(∃ y1:List Int,AV.pv (Zi (fun(x:List Int×Unit)=>x.1) [(.sl 1 false (List.map enc (Nd.data n)))])=AV.pv (enc y1)∧((Go.Pl.preT (fun(x:List Int×Unit)=>decide (List.length x.1<=2000000)) [(.sl 1 false (List.map enc (Nd.ranks n)))])=true∧(∃ y2:List Int,AV.pv (Zi (fun(x:List Int×Unit)=>x.1) [(.sl 1 false (List.map enc (Nd.ranks n)))])=AV.pv (enc y2)∧((Go.Pl.preT (fun(x:List Lin×Unit)=>List.isEmpty x.1) [(.sl 2 false (List.map enc (Nd.sizes n)))])=true∧(∃ y3:List Lin,AV.pv (Zi (fun(x:List Lin×Unit)=>x.1) [(.sl 2 false (List.map enc (Nd.sizes n)))])=AV.pv (enc y3)∧(AtM Dw (Vb RR) 0 (fun st=>G st.heap) KJ 0 67 [(1,(.ptr 0 0)),(2,(.ptr 1 0)),(4,.undef),(28,(.pv (.int .i64 (↑(List.length (List.map enc y3)):Int)))),(29,(.pv (.int .i64 0))),(49,.undef),(50,.undef),(51,.undef),(52,.undef),(53,.undef),(54,.undef),(55,.undef),(56,.undef),(57,.undef),(58,.undef),(59,.undef),(60,.undef),(61,.undef),(62,.undef),(63,.undef),(64,.undef),(65,.undef),(66,.undef)] [(.obj (.box [(.pv (.int .i64 (Nd.kind n))),(.pv (.int .i64 (Nd.line n))),(.pv (.str (Str.s (Nd.name n)))),(.pv (.int .i64 (Nd.num n))),(.pv (.str (Str.s (Nd.elem n)))),(.pv (.sl 1 false (List.map enc y0))),(.pv (.sl 1 false (List.map enc y1))),(.pv (.sl 2 false (List.map enc y3))),(.pv (.sl 1 false (List.map enc y2))),(.pv (.sl 10 false (List.map enc ks)))])),(.obj (.box [(.pv (.int .i64 0)),(.pv (.int .i64 0)),(.pv (.str [])),(.pv (.int .i64 0)),(.pv (.str [])),(.pv (.sl 0 true [])),(.pv (.sl 0 true [])),(.pv (.sl 0 true [])),(.pv (.sl 0 true [])),(.pv (.sl 0 true []))]))]))))))))):ZC Dw (Vb RR) 0 (fun st=>G st.heap) (.inl KJ) [] (Wq 67 [.pv (.agg [enc n.kind,enc n.line,enc n.name,enc n.num,enc n.elem,enc n.dims,enc n.data,enc n.sizes,enc n.ranks,enc ks])] []):=ZC.mh (dm [dv (List Int),dv (List Lin)] 10 0x61515151) h
-- BAD 1 in a0k
theorem a0k{G:Zu->Prop}(RR:Nat->St->Prop)(n:Nd)(ks:List Tm)(m i:Int)(h:if (decide (i<m))=true then(decide (0<=i)&&decide (Int.toNat i<List.length (List.map enc (Nd.sizes n)))&&Enc.sz Lin==2)=true∧(∃ y0:Lin,AV.pv (PV.rptr (PV.cells (List.getD (List.map enc (Nd.sizes n)) (Int.toNat i) default)))=AV.pv (PV.rptr (PV.cells ((enc) y0)))∧((Go.Pl.preT (fun(x:List Coef×Unit)=>decide (List.length x.1<=2000000)) [(.sl 2 false (PV.asXs (List.getD (List.drop 1 (PV.cells (enc y0))) 0 default)))])=true∧(∃ y1:List Coef,AV.pv (Zi (fun(x:List Coef×Unit)=>x.1) [(.sl 2 false (PV.asXs (List.getD (List.drop 1 (PV.cells (enc y0))) 0 default)))])=AV.pv (enc y1)∧((decide (0<=i)&&decide (Int.toNat i<List.length (List.map enc (Nd.sizes n)))&&Enc.sz Lin==2)=true∧(∃ y2:Lin,AV.pv (PV.rptr (PV.cells (List.getD (List.map enc (Nd.sizes n)) (Int.toNat i) default)))=AV.pv (PV.rptr (PV.cells ((enc) y2)))∧(False))))))else((Go.Pl.preT (fun(x:List Tm×Unit)=>List.isEmpty x.1) [(.sl 10 false (List.map enc ks))])=true∧(∃ y3:List Tm,AV.pv (Zi (fun(x:List Tm×Unit)=>x.1) [(.sl 10 false (List.map enc ks))])=AV.pv (enc y3)∧((Vb RR) 0 ⟨ZK 67 0 [(1,(.ptr 0 0)),(2,(.ptr 1 0)),(4,.undef),(49,.undef),(50,.undef),(51,.undef),(52,.undef),(53,.undef),(54,.undef),(55,.undef),(56,.undef),(57,.undef),(58,.undef),(59,.undef),(60,.undef),(61,.undef),(62,.undef),(63,.undef),(64,.undef),(65,.undef),(66,.undef)],[(.obj (.box [(.pv (.int .i64 (Nd.kind n))),(.pv (.int .i64 (Nd.line n))),(.pv (.str (Str.s (Nd.name n)))),(.pv (.int .i64 (Nd.num n))),(.pv (.str (Str.s (Nd.elem n)))),(.pv (.sl 1 false (List.map enc (Nd.dims n)))),(.pv (.sl 1 false (List.map enc (Nd.data n)))),(.pv (.sl 2 false (List.map enc (Nd.sizes n)))),(.pv (.sl 1 false (List.map enc (Nd.ranks n)))),(.pv (.sl 10 false (List.map enc y3)))])),(.obj (.box [(.pv (.int .i64 0)),(.pv (.int .i64 0)),(.pv (.str [])),(.pv (.int .i64 0)),(.pv (.str [])),(.pv (.sl 0 true [])),(.pv (.sl 0 true [])),(.pv (.sl 0 true [])),(.pv (.sl 0 true [])),(.pv (.sl 0 true []))]))]⟩ (fun x S'=>Kg Dw (Vb RR) 0 (fun st=>G st.heap) KJ 0 x S'))))):AtM Dw (Vb RR) 0 (fun st=>G st.heap) KJ 0 67 [(1,.ptr 0 0),(2,.ptr 1 0),(4,.undef),(28,.pv (.int .i64 m)),(29,.pv (.int .i64 i)),(49,.undef),(50,.undef),(51,.undef),(52,.undef),(53,.undef),(54,.undef),(55,.undef),(56,.undef),(57,.undef),(58,.undef),(59,.undef),(60,.undef),(61,.undef),(62,.undef),(63,.undef),(64,.undef),(65,.undef),(66,.undef)] [.obj (.box [.pv (enc n.kind),.pv (enc n.line),.pv (enc n.name),.pv (enc n.num),.pv (enc n.elem),.pv (enc n.dims),.pv (enc n.data),.pv (enc n.sizes),.pv (enc n.ranks),.pv (enc ks)]),.obj (.box [.pv (.int .i64 0),.pv (.int .i64 0),.pv (.str []),.pv (.int .i64 0),.pv (.str []),.pv (.sl 0 true []),.pv (.sl 0 true []),.pv (.sl 0 true []),.pv (.sl 0 true []),.pv (.sl 0 true [])])]:=ZC.mh (dm [dr Lin,dv (List Coef),dv (List Tm)] 17 0x710516125100842) h
end Go.Pl
namespace Go.Pl
open Go.RowKit
open Enc (enc dec is)
open EncL (encL decL isL)
def d3m:List (Nat×AV):=[(1,.ptr 0 0),(2,.ptr 1 0),(4,.undef),(49,.undef),(50,.undef),(51,.undef),(52,.undef),(53,.undef),(54,.undef),(55,.undef),(56,.undef),(57,.undef),(58,.undef),(59,.undef),(60,.undef),(61,.undef),(62,.undef),(63,.undef),(64,.undef),(65,.undef),(66,.undef)]
def cpZ:List AV:=[.pv (.int .i64 0),.pv (.int .i64 0),.pv (.str []),.pv (.int .i64 0),.pv (.str []),.pv (.sl 0 true []),.pv (.sl 0 true []),.pv (.sl 0 true []),.pv (.sl 0 true []),.pv (.sl 0 true [])]
def b6v(n:Nd)(SZ:AV):List AV:=[.pv (enc n.kind),.pv (enc n.line),.pv (enc n.name),.pv (enc n.num),.pv (enc n.elem),.pv (enc n.dims),.pv (enc n.data),SZ,.pv (enc n.ranks)]
def cpR(n:Nd)(ks:List Tm)(m:Nat)(S:St):Prop:=m=0∧S.env=ZK 67 0 d3m∧ ∃ (SZ KD:AV) (b:Bool) (rest:Zu),S.heap = .obj (.box (b6v n SZ++[KD])):: .obj (.box cpZ)::rest ∧
 ((b=false∧SZ = .pv (enc n.sizes))∨(b=true∧SZ = .row 2 n.sizes.length 0 n.sizes.length∧S.heap[2]? = some (.obj (.row false 62 2 (n.sizes.map enc))))) ∧
 ((ks=[]∧KD = .pv (enc ks))∨(ks≠[]∧KD = .row (if b=true then 3 else 2) ks.length 0 ks.length∧S.heap[if b=true then 3 else 2]? = some (.obj (.row false 28 10 (ks.map enc)))))
theorem RH{α:Type}[Enc α]{l:List α}{s:Nat}(h:l≠[])(hl:l.length<=2000000):Yd s [(.pv (.sl s false (List.map enc l)))] []=true:=by
 simp[Yd,h,hl]
theorem b4u{RR:Nat->St->Prop}{n:Nd}{ks:List Tm}(hne:ks≠[])(hk:ks.length<=2000000)(hl:n.sizes.length<=2000000)(ht : ∀ l∈n.sizes,l.t.length<=2000000){m:Nat}(hm:m=n.sizes.length)(hR : ∀ S,cpR n ks 0 S->RR 0 S): ∀ (d i:Nat),d+i=n.sizes.length ->
  AtM QC (Vb RR) 0 (fun _=>False) Wd 0 67 [(1,.ptr 0 0),(2,.ptr 1 0),(4,.undef),(28,.pv (.int .i64 m)),(29,.pv (.int .i64 i)),(49,.undef),(50,.undef),(51,.undef),(52,.undef),(53,.undef),(54,.undef),(55,.undef),(56,.undef),(57,.undef),(58,.undef),(59,.undef),(60,.undef),(61,.undef),(62,.undef),(63,.undef),(64,.undef),(65,.undef),(66,.undef)]
   [.obj (.box [.pv (enc n.kind),.pv (enc n.line),.pv (enc n.name),.pv (enc n.num),.pv (enc n.elem),.pv (enc n.dims),.pv (enc n.data),.row 2 m 0 m,.pv (enc n.ranks),.pv (enc ks)]),.obj (.box cpZ),.obj (.row false 62 2 (n.sizes.map enc))]:=by
 subst hm
 intro d
 induction d with
 | zero=>
  intro i hi
  refine a2d (G:=fun _=>False) RR n ks n.sizes.length n.sizes i (Y6 (XV (by omega)) ⟨RH hne hk,hR _ ⟨rfl,rfl,_,_,true,_,rfl,.inr ⟨rfl,rfl,rfl⟩,.inr ⟨hne,by simp,rfl⟩⟩⟩)
 | succ d ih=>
  intro i hi
  have h1:i<n.sizes.length:=by omega
  refine a2d (G:=fun _=>False) RR n ks n.sizes.length n.sizes i (Yl (Xb h1) ?_)
  have e:List.getD (List.map (enc:Lin->PV) n.sizes) (0+Int.toNat (i:Int)) default=enc n.sizes[i]:=by rw[Nat.zero_add];exact Q7 enc h1
  have e2:(enc n.sizes[i]:PV) = .agg [.int .i64 n.sizes[i].k,.sl 2 false (n.sizes[i].t.map enc)]:=rfl
  have e3:List.set (n.sizes.map (enc:Lin->PV)) (0+Int.toNat (i:Int)) (.agg [.int .i64 n.sizes[i].k,.sl 2 false (n.sizes[i].t.map enc)])=n.sizes.map enc:=by
   rw[Nat.zero_add,Int.toNat_natCast,<- e2]
   apply List.ext_getElem?
   intro j
   rw[List.getElem?_set]
   split
   ·rename_i h;subst h;rw[if_pos (by simpa using h1),List.getElem?_map,List.getElem?_eq_getElem h1];rfl
   ·rfl
  have hc:=ht _ (List.getElem_mem h1)
  simp only[e,e2]
  refine⟨by simp[h1],by simp[h1],by simp[PV.cells,Yg,Sh.fit],Ze (n.sizes[i].t,()) rfl (decide_eq_true hc),Zf (n.sizes[i].t,()) rfl ⟨by simp[h1],?_,?_⟩⟩
  ·simp[h1,PV.cells,PV.cellsOk,enc]
  ·show AtM QC (Vb RR) 0 (fun _=>False) Wd 0 67 _ [_,_,.obj (.row false 62 2 (List.set (n.sizes.map (enc:Lin->PV)) (0+Int.toNat (i:Int)) (.agg [.int .i64 n.sizes[i].k,.sl 2 false (n.sizes[i].t.map enc)])))]
   rw[e3,next (by omega)]
   exact ih (i+1) (by omega)
theorem b7r{RR:Nat->St->Prop}{n:Nd}(hl:n.sizes.length<=2000000)(ht : ∀ l∈n.sizes,l.t.length<=2000000){m:Nat}(hm:m=n.sizes.length)(hR : ∀ S,cpR n [] 0 S->RR 0 S): ∀ (d i:Nat),d+i=n.sizes.length ->
  AtM Qg (Vb RR) 0 (fun _=>False) Vt 0 67 [(1,.ptr 0 0),(2,.ptr 1 0),(4,.undef),(28,.pv (.int .i64 m)),(29,.pv (.int .i64 i)),(49,.undef),(50,.undef),(51,.undef),(52,.undef),(53,.undef),(54,.undef),(55,.undef),(56,.undef),(57,.undef),(58,.undef),(59,.undef),(60,.undef),(61,.undef),(62,.undef),(63,.undef),(64,.undef),(65,.undef),(66,.undef)]
   [.obj (.box [.pv (enc n.kind),.pv (enc n.line),.pv (enc n.name),.pv (enc n.num),.pv (enc n.elem),.pv (enc n.dims),.pv (enc n.data),.row 2 m 0 m,.pv (enc n.ranks),.pv (enc ([]:List Tm))]),.obj (.box cpZ),.obj (.row false 62 2 (n.sizes.map enc))]:=by
 subst hm
 intro d
 induction d with
 | zero=>
  intro i hi
  refine a3u (G:=fun _=>False) RR n [] n.sizes.length n.sizes i (Y6 (XV (by omega)) ⟨Ze (([]:List Tm),()) rfl rfl,Zf (([]:List Tm),()) rfl (hR _ ⟨rfl,rfl,_,_,true,_,rfl,.inr ⟨rfl,rfl,rfl⟩,.inl ⟨rfl,rfl⟩⟩)⟩)
 | succ d ih=>
  intro i hi
  have h1:i<n.sizes.length:=by omega
  refine a3u (G:=fun _=>False) RR n [] n.sizes.length n.sizes i (Yl (Xb h1) ?_)
  have e:List.getD (List.map (enc:Lin->PV) n.sizes) (0+Int.toNat (i:Int)) default=enc n.sizes[i]:=by rw[Nat.zero_add];exact Q7 enc h1
  have e2:(enc n.sizes[i]:PV) = .agg [.int .i64 n.sizes[i].k,.sl 2 false (n.sizes[i].t.map enc)]:=rfl
  have e3:List.set (n.sizes.map (enc:Lin->PV)) (0+Int.toNat (i:Int)) (.agg [.int .i64 n.sizes[i].k,.sl 2 false (n.sizes[i].t.map enc)])=n.sizes.map enc:=by
   rw[Nat.zero_add,Int.toNat_natCast,<- e2]
   apply List.ext_getElem?
   intro j
   rw[List.getElem?_set]
   split
   ·rename_i h;subst h;rw[if_pos (by simpa using h1),List.getElem?_map,List.getElem?_eq_getElem h1];rfl
   ·rfl
  have hc:=ht _ (List.getElem_mem h1)
  simp only[e,e2]
  refine⟨by simp[h1],by simp[h1],by simp[PV.cells,Yg,Sh.fit],Ze (n.sizes[i].t,()) rfl (decide_eq_true hc),Zf (n.sizes[i].t,()) rfl ⟨by simp[h1],?_,?_⟩⟩
  ·simp[h1,PV.cells,PV.cellsOk,enc]
  ·show AtM Qg (Vb RR) 0 (fun _=>False) Vt 0 67 _ [_,_,.obj (.row false 62 2 (List.set (n.sizes.map (enc:Lin->PV)) (0+Int.toNat (i:Int)) (.agg [.int .i64 n.sizes[i].k,.sl 2 false (n.sizes[i].t.map enc)])))]
   rw[e3,next (by omega)]
   exact ih (i+1) (by omega)
abbrev Ei(n:Nd)(ks:List Tm):St:=Wq 67 [.pv (.agg [enc n.kind,enc n.line,enc n.name,enc n.num,enc n.elem,enc n.dims,enc n.data,enc n.sizes,enc n.ranks,enc ks])] []
theorem d7g{RR:Nat->St->Prop}{n:Nd}{ks:List Tm}(hw:tW (.mk n ks)=true)(hs:n.sizes≠[])(hne:ks≠[])(hR : ∀ S,cpR n ks 0 S->RR 0 S):ZC QC (Vb RR) 0 (fun _=>False) (.inl Wd) [] (Ei n ks):=by
 have hb:=ndB hw
 have hk:=(Xu hw).1
 have h1:=hb.dims;have h2:=hb.data;have h3:=hb.ranks;have hsz:=hb.sizes
 refine c8a (G:=fun _=>False) RR n ks ⟨Ze (n.dims,()) rfl (decide_eq_true (show n.dims.length<=2000000 by omega)),Zf (n.dims,()) rfl ⟨Ze (n.data,()) rfl (decide_eq_true (show n.data.length<=2000000 by omega)),Zf (n.data,()) rfl
  ⟨Ze (n.ranks,()) rfl (decide_eq_true (show n.ranks.length<=2000000 by omega)),Zf (n.ranks,()) rfl ⟨RH hs (by omega),b4u hne (by omega) (by omega) (fun l hl=>by have:=hb.lens l hl;omega) (List.length_map _) hR n.sizes.length 0 (by omega)⟩⟩⟩⟩
theorem d7j{RR:Nat->St->Prop}{n:Nd}{ks:List Tm}(hw:tW (.mk n ks)=true)(hs:n.sizes≠[])(hz:ks=[])(hR : ∀ S,cpR n ks 0 S->RR 0 S):ZC Qg (Vb RR) 0 (fun _=>False) (.inl Vt) [] (Ei n ks):=by
 have hb:=ndB hw
 have hk:=(Xu hw).1
 have h1:=hb.dims;have h2:=hb.data;have h3:=hb.ranks;have hsz:=hb.sizes
 subst hz
 refine d0h (G:=fun _=>False) RR n [] ⟨Ze (n.dims,()) rfl (decide_eq_true (show n.dims.length<=2000000 by omega)),Zf (n.dims,()) rfl ⟨Ze (n.data,()) rfl (decide_eq_true (show n.data.length<=2000000 by omega)),Zf (n.data,()) rfl
  ⟨Ze (n.ranks,()) rfl (decide_eq_true (show n.ranks.length<=2000000 by omega)),Zf (n.ranks,()) rfl ⟨RH hs (by omega),b7r (by omega) (fun l hl=>by have:=hb.lens l hl;omega) (List.length_map _) hR n.sizes.length 0 (by omega)⟩⟩⟩⟩
theorem d7m{RR:Nat->St->Prop}{n:Nd}{ks:List Tm}(hw:tW (.mk n ks)=true)(hs:n.sizes=[])(hne:ks≠[])(hR : ∀ S,cpR n ks 0 S->RR 0 S):ZC Gr (Vb RR) 0 (fun _=>False) (.inl KN) [] (Ei n ks):=by
 have hb:=ndB hw
 have hk:=(Xu hw).1
 have h1:=hb.dims;have h2:=hb.data;have h3:=hb.ranks;have hsz:=hb.sizes
 refine d0y (G:=fun _=>False) RR n ks ⟨Ze (n.dims,()) rfl (decide_eq_true (show n.dims.length<=2000000 by omega)),Zf (n.dims,()) rfl ⟨Ze (n.data,()) rfl (decide_eq_true (show n.data.length<=2000000 by omega)),Zf (n.data,()) rfl
  ⟨Ze (n.ranks,()) rfl (decide_eq_true (show n.ranks.length<=2000000 by omega)),Zf (n.ranks,()) rfl ⟨Ze (n.sizes,()) rfl (by rw[hs];rfl),Zf (n.sizes,()) rfl (a3c (G:=fun _=>False) RR n ks (List.length (List.map (enc:Lin->PV) n.sizes)) 0 (Y6 (by rw[hs];decide) ⟨RH hne (by omega),hR _ ⟨rfl,rfl,_,_,false,_,rfl,.inl ⟨rfl,rfl⟩,.inr ⟨hne,by simp,rfl⟩⟩⟩))⟩⟩⟩⟩
theorem d4v{RR:Nat->St->Prop}{n:Nd}{ks:List Tm}(hw:tW (.mk n ks)=true)(hs:n.sizes=[])(hz:ks=[])(hR : ∀ S,cpR n ks 0 S->RR 0 S):ZC Dw (Vb RR) 0 (fun _=>False) (.inl KJ) [] (Ei n ks):=by
 have hb:=ndB hw
 have hk:=(Xu hw).1
 have h1:=hb.dims;have h2:=hb.data;have h3:=hb.ranks;have hsz:=hb.sizes
 subst hz
 refine c9h (G:=fun _=>False) RR n [] ⟨Ze (n.dims,()) rfl (decide_eq_true (show n.dims.length<=2000000 by omega)),Zf (n.dims,()) rfl ⟨Ze (n.data,()) rfl (decide_eq_true (show n.data.length<=2000000 by omega)),Zf (n.data,()) rfl
  ⟨Ze (n.ranks,()) rfl (decide_eq_true (show n.ranks.length<=2000000 by omega)),Zf (n.ranks,()) rfl ⟨Ze (n.sizes,()) rfl (by rw[hs];rfl),Zf (n.sizes,()) rfl (a0k (G:=fun _=>False) RR n [] (List.length (List.map (enc:Lin->PV) n.sizes)) 0 (Y6 (by rw[hs];decide) ⟨Ze (([]:List Tm),()) rfl rfl,Zf (([]:List Tm),()) rfl (hR _ ⟨rfl,rfl,_,_,false,_,rfl,.inl ⟨rfl,rfl⟩,.inl ⟨rfl,rfl⟩⟩)⟩))⟩⟩⟩⟩
end Go.Pl
namespace Go.Pl
open Go.RowKit
open Enc (enc dec is)
open EncL (encL decL isL)
set_option maxRecDepth 100000
def EI:IC:=(XY [Zw 1 (.box 10 (.t 0)) 0,Zw 2 (.alloc (.agg [(.int .i64 0),(.int .i64 0),(.str []),(.int .i64 0),(.str []),(.sl 0 true []),(.sl 0 true []),(.sl 0 true []),(.sl 0 true []),(.sl 0 true [])])) 1] (XY [Zw 6 (.load true [(.int .i64),(.int .i64),.str,(.int .i64),.str,(.sl 1),(.sl 1),(.sl 2),(.sl 1),(.sl 10)] (.t 1)) 0,Zw 7 (c'' 20 [(.t 6)]) 0,Zw 3 (.alloc (.sl 0 true [])) 2,Rh (.store 1 (.t 3) (.t 7)) 3] (XY [Zw 4 (.alloc (.int .i64 0)) 0,Rh (.store 1 (.t 4) (Wx 0)) 1] (XY [Zw 8 (.mkfn 67 [] [(.t 4),(.t 3)]) 0,Zw 5 (YX 8) 0] (.ext 0 [1,9,5,10,11,12,2,13])))))
def b0l:ZA:=Yn [(20,.pure (preT (fun x:Tm×Unit=>tW x.1)) (Zi (fun x:Tm×Unit=>Ww x.1)))]
theorem d5q{G:Zu->Prop}(RR:Nat->St->Prop)(n:Nd)(ks:List Tm)(h:(Go.Pl.preT (fun(x:Tm×Unit)=>tW x.1) (Rz n ks))=true∧(∃ y0:List Str,AV.pv (Zi (fun(x:Tm×Unit)=>Ww x.1) (Rz n ks))=AV.pv (enc y0)∧((Vb RR) 0 ⟨ZK 14 0 [(1,(.ptr 0 0)),(2,(.ptr 1 0)),(5,(.fn 67 [] [(.ptr 2 0),(.ptr 3 0)])),(9,.undef),(10,.undef),(11,.undef),(12,.undef),(13,.undef)],[(.obj (.box (Ym n ks))),(.obj (.box [(.pv (.int .i64 0)),(.pv (.int .i64 0)),(.pv (.str [])),(.pv (.int .i64 0)),(.pv (.str [])),(.pv (.sl 0 true [])),(.pv (.sl 0 true [])),(.pv (.sl 0 true [])),(.pv (.sl 0 true [])),(.pv (.sl 0 true []))])),(.obj (.box [(.pv (.int .i64 0))])),(.obj (.box [(.pv (.sl 1 false (List.map enc y0)))]))]⟩ (fun x S'=>Kg b0l (Vb RR) 0 (fun st=>G st.heap) EI 0 x S')))):ZC b0l (Vb RR) 0 (fun st=>G st.heap) (.inl EI) [] (Wq 14 [.pv (.agg [enc n.kind,enc n.line,enc n.name,enc n.num,enc n.elem,enc n.dims,enc n.data,enc n.sizes,enc n.ranks,enc ks])] []):=ZC.mh (.req (.abs (List Str) (fun YY=>AV.pv (enc YY)) (.nil))) h
end Go.Pl
namespace Go.Pl
open Go.RowKit
open Enc (enc dec is)
open EncL (encL decL isL)
set_option maxRecDepth 100000
end Go.Pl
namespace Go.Pl
open Go.RowKit
open Enc (enc dec is)
open EncL (encL decL isL)
end Go.Pl
namespace Go.Pl
open Go.RowKit
open Enc (enc dec is)
open EncL (encL decL isL)
set_option maxRecDepth 100000
end Go.Pl
namespace Go.Pl
open Go.RowKit
open Enc (enc dec is)
end Go.Pl
namespace Go.Pl
open Go.RowKit
open Enc (enc dec is)
open EncL (encL decL isL)
set_option maxRecDepth 100000
end Go.Pl
namespace Go.Pl
open Go.RowKit
open Enc (enc dec is)
open EncL (encL decL isL)
open Go.Proofs.YtgdebdgkofkeeaaGreatDoor (encNd pre_ndI F_ndI tmOf_nd pre_nd)
end Go.Pl
namespace Go.Pl
open Go.RowKit
open Enc (enc dec is)
open EncL (encL decL isL)
section
variable (n m:Nd) (ks ls:List Tm) (s:List UInt8)
end
end Go.Pl
namespace Go.Pl
open Go.RowKit
open Enc (enc dec is)
end Go.Pl
namespace Go.Pl
open Go.RowKit
end Go.Pl
namespace Go.Pl
open Go.RowKit
open Enc (enc dec is)
open EncL (encL decL isL)
set_option maxRecDepth 100000
end Go.Pl
namespace Go.Pl
open Go.RowKit
open Enc (enc dec is)
open EncL (encL decL isL)
theorem b5z{t:Tm}{k:Int}(h:Q4 t k=true):(Zt t:Int)<=k:=by
 unfold Q4 at h
 simp only[Bool.and_eq_true,decide_eq_true_eq]at h
 exact h.1.2
end Go.Pl
namespace Go.Pl
open Go.RowKit
end Go.Pl
namespace Go.Pl
open Go.RowKit
open Enc (enc dec is)
open EncL (encL decL isL)
set_option maxRecDepth 100000
end Go.Pl
namespace Go.Pl
open Go.RowKit
open Enc (enc dec is)
open EncL (encL decL isL)
section
variable (N:Nat) (n:Nd) (ks:List Tm) (f g a:List Str)
end
end Go.Pl
namespace Go.Pl
open Go.RowKit
end Go.Pl
namespace Go.Pl
open Go.RowKit
open Enc (enc dec is)
open EncL (encL decL isL)
set_option maxRecDepth 100000
end Go.Pl
namespace Go.Pl
open Go.RowKit
end Go.Pl
namespace Go.Pl
open Go.RowKit
open Enc (enc dec is)
open EncL (encL decL isL)
structure RnT where
 nm:Str
 n:Nd
 k:List Tm
instance:Enc RnT where
 sz:=11
 enc x:=.agg [enc x.nm,enc x.n.kind,enc x.n.line,enc x.n.name,enc x.n.num,enc x.n.elem,enc x.n.dims,enc x.n.data,enc x.n.sizes,enc x.n.ranks,enc x.k]
 dec | .agg [z,a,b,c,d,e,f,g,h,i,k]=>⟨dec z,⟨dec a,dec b,dec c,dec d,dec e,dec f,dec g,dec h,dec i⟩,dec k⟩|_=>⟨⟨[]⟩,P6,[]⟩
 is | .agg [z,a,b,c,d,e,f,g,h,i,k]=>is Str z&&is Int a&&is Int b&&is Str c&&is Int d&&is Str e&&is (List Int) f&&is (List Int) g&&is (List Lin) h&&is (List Int) i&&is (List Tm) k|_=>false
 is_enc v:=by simp
 dec_enc v:=by simp
 sub p h:=by
  cases p with
  | agg xs=>
   match xs,h with
   | [z,a,b,c,d,e,f,g,h',i,k],h=>
    simp only[Bool.and_eq_true]at h
    obtain⟨⟨⟨⟨⟨⟨⟨⟨⟨⟨h0,h1⟩,h2⟩,h3⟩,h4⟩,h5⟩,h6⟩,h7⟩,h8⟩,h9⟩,h10⟩:=h
    exact .agg (.cons (Enc.sub z h0).2 (.cons (Enc.sub a h1).2 (.cons (Enc.sub b h2).2 (.cons (Enc.sub c h3).2 (.cons (Enc.sub d h4).2 (.cons (Enc.sub e h5).2 (.cons (Enc.sub f h6).2 (.cons (Enc.sub g h7).2 (.cons (Enc.sub h' h8).2 (.cons (Enc.sub i h9).2 (.cons (Enc.sub k h10).2 .nil)))))))))))
  | _=>cases h
end Go.Pl
namespace Go.Pl
open Go.RowKit
open Enc (enc dec is)
open EncL (encL decL isL)
set_option maxRecDepth 100000
end Go.Pl
namespace Go.Pl
open Go.RowKit
open Enc (enc dec is)
open EncL (encL decL isL)
section
variable (n m p:Nd) (ks ls us:List Tm) (s:List UInt8)
end
end Go.Pl
namespace Go.Pl
open Go.RowKit
open Enc (enc dec is)
open EncL (encL decL isL)
set_option maxRecDepth 100000
abbrev d3d(ps:List PV)(k:Bool->Prop):Prop:=WN (fun(x:Tm×Int×Unit)=>tW (Prod.fst x)) (fun(x:Tm×Int×Unit)=>Q4 (Prod.fst x) (Prod.fst (Prod.snd x))) ps k
abbrev Vo(ps:List PV)(k:Bool->Prop):Prop:=WN (fun(x:Tm×Unit)=>gW (Prod.fst x)) (fun(x:Tm×Unit)=>Y8 (Prod.fst x)) ps k
abbrev GK(ps:List PV)(k:Int->Prop):Prop:=WN (fun(x:Tm×Unit)=>gW (Prod.fst x)) (fun(x:Tm×Unit)=>V8 (Prod.fst x)) ps k
abbrev GY(ps:List PV)(k:Int->Prop):Prop:=WN (fun(x:Tm×Unit)=>gW (Prod.fst x)) (fun(x:Tm×Unit)=>(↑(Zt (Prod.fst x)):Int)) ps k
abbrev Gi(ps:List PV)(k:Int->Prop):Prop:=WN (fun(x:Tm×Unit)=>gW (Prod.fst x)) (fun(x:Tm×Unit)=>BC (Prod.fst x)) ps k
abbrev Gh(ps:List PV)(k:Int->Prop):Prop:=WN (fun(x:Tm×Unit)=>gW (Prod.fst x)) (fun(x:Tm×Unit)=>(↑(ZH (Prod.fst x)):Int)) ps k
def DI(q:PV):PV:=(.agg [(.int .i64 9),(.int .i64 0),(.str [97,100,100]),(.int .i64 0),(.str []),(.sl 0 true []),(.sl 0 true []),(.sl 0 true []),(.sl 0 true []),(.sl 10 false [q])])
noncomputable def Yx:IC:=XU Proofs.Tryz.f5
def YB:List IRes:=[(.tmp 6)]
abbrev c9x:Nat:=60
noncomputable def Xv:ZA:=Yn [(12,.pure (preT (fun _:Unit=>true)) (Zi (fun _:Unit=>true))),(13,.pure (preT (fun x:Tm×Int×Unit=>tW x.1)) (Zi (fun x:Tm×Int×Unit=>Q4 x.1 x.2.1))),(22,.pure (preT (fun x:Tm×Unit=>gW x.1)) (Zi (fun x:Tm×Unit=>Y8 x.1))),(23,.pure (preT (fun x:Tm×Unit=>gW x.1)) (Zi (fun x:Tm×Unit=>Y8 x.1))),(21,.pure (preT (fun x:Tm×Unit=>gW x.1)) (Zi (fun x:Tm×Unit=>V8 x.1))),(26,.pure (preT (fun x:Tm×Unit=>gW x.1)) (Zi (fun x:Tm×Unit=>(Zt x.1:Int)))),(27,.pure (preT (fun x:Tm×Unit=>gW x.1)) (Zi (fun x:Tm×Unit=>BC x.1))),(28,.pure (preT (fun x:Tm×Unit=>gW x.1)) (Zi (fun x:Tm×Unit=>(ZH x.1:Int))))]
theorem d5s{G:PV->Prop}(n:Nd)(ks:List Tm)(a b:UInt8)(h : ∃ y0:Bool,AV.pv (Zi (fun(x:Unit)=>true) [])=AV.pv (enc y0)∧(if (!y0)=true then G ((.bool false))else((d3d [(ndC n ks),(.int .i64 12)] fun y1=>(if (!y1)=true then G ((.bool true))else(At Xv 0 (Zb YB G) Yx 0 60 [(1,(.pv (.int IntKind.u8 (↑(UInt8.toNat a):Int)))),(2,(.pv (.int IntKind.u8 (↑(UInt8.toNat b):Int)))),(3,(.ptr 0 0)),(7,(.pv (.int .i64 0)))] [(.obj (.box (Ym n ks)))])))))):Zc Xv 0 (Zb YB G) Yx [] (ZL 60 [.agg [enc n.kind,enc n.line,enc n.name,enc n.num,enc n.elem,enc n.dims,enc n.data,enc n.sizes,enc n.ranks,enc ks],enc a,enc b]):=Zc.tp (dm [dv Bool] 16 0x14510001452) h
theorem a2x{G:PV->Prop}(n:Nd)(ks:List Tm)(a b:UInt8)(x:TS)(i:Int)(h:if (decide (i<Int.tmod (IntKind.wrap IntKind.i64 (↑(UInt8.toNat a):Int)) 46))=true then At Xv 0 (Zb YB G) Yx 0 60 [(1,(.pv (.int IntKind.u8 (↑(UInt8.toNat a):Int)))),(2,(.pv (.int IntKind.u8 (↑(UInt8.toNat b):Int)))),(3,(.ptr 0 0)),(7,(.pv (.int .i64 (IntKind.wrap IntKind.i64 (i+1)))))] [(.obj (.box [(.pv (.int .i64 9)),(.pv (.int .i64 0)),(.pv (.str [(97:UInt8),(100:UInt8),(100:UInt8)])),(.pv (.int .i64 0)),(.pv (.str [])),(.pv (.sl 0 true [])),(.pv (.sl 0 true [])),(.pv (.sl 0 true [])),(.pv (.sl 0 true [])),(.row 1 1 0 1)])),(.obj (.row false 28 10 [(eS x)]))]else(At Xv 0 (Zb YB G) Yx 1 60 [(2,(.pv (.int IntKind.u8 (↑(UInt8.toNat b):Int)))),(3,(.ptr 0 0)),(8,(.pv (.sl 0 true []))),(9,(.pv (.int .i64 0)))] [(.obj (.box (bS x)))])):At Xv 0 (Zb YB G) Yx 0 60 [(1,.pv (.int .u8 (a.toNat:Int))),(2,.pv (.int .u8 (b.toNat:Int))),(3,.ptr 0 0),(7,.pv (.int .i64 i))] [.obj (.box [.pv (enc x.n.kind),.pv (enc x.n.line),.pv (enc x.n.name),.pv (enc x.n.num),.pv (enc x.n.elem),.pv (enc x.n.dims),.pv (enc x.n.data),.pv (enc x.n.sizes),.pv (enc x.n.ranks),.pv (enc x.k)])]:=At.tp (dm [] 11 0x22003422) h
theorem a3n{G:PV->Prop}(n:Nd)(ks:List Tm)(a b:UInt8)(q:PV)(i:Int)(h:if (decide (i<Int.tmod (IntKind.wrap IntKind.i64 (↑(UInt8.toNat a):Int)) 46))=true then At Xv 0 (Zb YB G) Yx 0 60 [(1,(.pv (.int IntKind.u8 (↑(UInt8.toNat a):Int)))),(2,(.pv (.int IntKind.u8 (↑(UInt8.toNat b):Int)))),(3,(.ptr 0 0)),(7,(.pv (.int .i64 (IntKind.wrap IntKind.i64 (i+1)))))] [(.obj (.box [(.pv (.int .i64 9)),(.pv (.int .i64 0)),(.pv (.str [(97:UInt8),(100:UInt8),(100:UInt8)])),(.pv (.int .i64 0)),(.pv (.str [])),(.pv (.sl 0 true [])),(.pv (.sl 0 true [])),(.pv (.sl 0 true [])),(.pv (.sl 0 true [])),(.row 1 1 0 1)])),(.obj (.row false 28 10 [(DI q)]))]else(At Xv 0 (Zb YB G) Yx 1 60 [(2,(.pv (.int IntKind.u8 (↑(UInt8.toNat b):Int)))),(3,(.ptr 0 0)),(8,(.pv (.sl 0 true []))),(9,(.pv (.int .i64 0)))] [(.obj (.box [(.pv (.int .i64 9)),(.pv (.int .i64 0)),(.pv (.str [(97:UInt8),(100:UInt8),(100:UInt8)])),(.pv (.int .i64 0)),(.pv (.str [])),(.pv (.sl 0 true [])),(.pv (.sl 0 true [])),(.pv (.sl 0 true [])),(.pv (.sl 0 true [])),(.row 1 1 0 1)])),(.obj (.row false 28 10 [q]))])):At Xv 0 (Zb YB G) Yx 0 60 [(1,.pv (.int .u8 (a.toNat:Int))),(2,.pv (.int .u8 (b.toNat:Int))),(3,.ptr 0 0),(7,.pv (.int .i64 i))] [.obj (.box [.pv (.int .i64 9),.pv (.int .i64 0),.pv (.str [97,100,100]),.pv (.int .i64 0),.pv (.str []),.pv (.sl 0 true []),.pv (.sl 0 true []),.pv (.sl 0 true []),.pv (.sl 0 true []),.row 1 1 0 1]),.obj (.row false 28 10 [q])]:=At.tp (dm [] 12 0x222004422) h
theorem a1p{G:PV->Prop}(n:Nd)(ks:List Tm)(a b:UInt8)(x:TS)(i:Int)(h:if (decide (i<Int.tmod (IntKind.wrap IntKind.i64 (↑(UInt8.toNat b):Int)) 17))=true then At Xv 0 (Zb YB G) Yx 1 60 [(2,(.pv (.int IntKind.u8 (↑(UInt8.toNat b):Int)))),(3,(.ptr 0 0)),(8,(.row 1 1 0 1)),(9,(.pv (.int .i64 (IntKind.wrap IntKind.i64 (i+1)))))] [(.obj (.box (bS x))),(.obj (.row false 28 10 [(eS x)]))]else((Vo [(eS x)] fun y0=>((Vo [(eS x)] fun y1=>(if (y0==y1)=true then(GK [(eS x)] fun y2=>((GY [(eS x)] fun y3=>(if (y2==y3)=true then(Gi [(eS x)] fun y4=>((Gh [(eS x)] fun y5=>(G ((.bool (y4==y5)))))))else(G ((.bool false)))))))else(G ((.bool false))))))))):At Xv 0 (Zb YB G) Yx 1 60 [(2,.pv (.int .u8 (b.toNat:Int))),(3,.ptr 0 0),(8,.pv (.sl 0 true [])),(9,.pv (.int .i64 i))] [.obj (.box [.pv (enc x.n.kind),.pv (enc x.n.line),.pv (enc x.n.name),.pv (enc x.n.num),.pv (enc x.n.elem),.pv (enc x.n.dims),.pv (enc x.n.data),.pv (enc x.n.sizes),.pv (enc x.n.ranks),.pv (enc x.k)])]:=At.tp (dm [dv Bool,dv Int] 68 0x222222222220222220222612261200b4222612261201f425151220222222007422) h
theorem a3q{G:PV->Prop}(n:Nd)(ks:List Tm)(a b:UInt8)(q:PV)(i:Int)(h:if (decide (i<Int.tmod (IntKind.wrap IntKind.i64 (↑(UInt8.toNat b):Int)) 17))=true then At Xv 0 (Zb YB G) Yx 1 60 [(2,(.pv (.int IntKind.u8 (↑(UInt8.toNat b):Int)))),(3,(.ptr 0 0)),(8,(.row 1 1 0 1)),(9,(.pv (.int .i64 (IntKind.wrap IntKind.i64 (i+1)))))] [(.obj (.box [(.pv (.int .i64 9)),(.pv (.int .i64 0)),(.pv (.str [(97:UInt8),(100:UInt8),(100:UInt8)])),(.pv (.int .i64 0)),(.pv (.str [])),(.pv (.sl 0 true [])),(.pv (.sl 0 true [])),(.pv (.sl 0 true [])),(.pv (.sl 0 true [])),(.row 2 1 0 1)])),(.obj (.row false 28 10 [(DI q)])),(.obj (.row true 28 10 [q]))]else((Vo [(DI q)] fun y0=>((Vo [(DI q)] fun y1=>(if (y0==y1)=true then(GK [(DI q)] fun y2=>((GY [(DI q)] fun y3=>(if (y2==y3)=true then(Gi [(DI q)] fun y4=>((Gh [(DI q)] fun y5=>(G ((.bool (y4==y5)))))))else(G ((.bool false)))))))else(G ((.bool false))))))))):At Xv 0 (Zb YB G) Yx 1 60 [(2,.pv (.int .u8 (b.toNat:Int))),(3,.ptr 0 0),(8,.pv (.sl 0 true [])),(9,.pv (.int .i64 i))] [.obj (.box [.pv (.int .i64 9),.pv (.int .i64 0),.pv (.str [97,100,100]),.pv (.int .i64 0),.pv (.str []),.pv (.sl 0 true []),.pv (.sl 0 true []),.pv (.sl 0 true []),.pv (.sl 0 true []),.row 1 1 0 1]),.obj (.row false 28 10 [q])]:=At.tp (dm [dv Bool,dv Int] 75 0x22222222222022222022261222612200d4222612226122023425125122202222222008422) h
theorem a0x{G:PV->Prop}(n:Nd)(ks:List Tm)(a b:UInt8)(x:TS)(o:List PV)(L:Nat)(i:Int)(h:if (decide (i<Int.tmod (IntKind.wrap IntKind.i64 (↑(UInt8.toNat b):Int)) 17))=true then(List.length o==L&&L==L&&decide ((L+List.length (List.drop 0 (List.take 1 [PV.agg [enc (Nd.kind (TS.n x)),enc (Nd.line (TS.n x)),enc (Nd.name (TS.n x)),enc (Nd.num (TS.n x)),enc (Nd.elem (TS.n x)),enc (Nd.dims (TS.n x)),enc (Nd.data (TS.n x)),enc (Nd.sizes (TS.n x)),enc (Nd.ranks (TS.n x)),enc (TS.k x)]])))*176<=1099511627776)&&decide (L+List.length (List.drop 0 (List.take 1 [PV.agg [enc (Nd.kind (TS.n x)),enc (Nd.line (TS.n x)),enc (Nd.name (TS.n x)),enc (Nd.num (TS.n x)),enc (Nd.elem (TS.n x)),enc (Nd.dims (TS.n x)),enc (Nd.data (TS.n x)),enc (Nd.sizes (TS.n x)),enc (Nd.ranks (TS.n x)),enc (TS.k x)]]))<=1099511627776))=true∧(At Xv 0 (Zb YB G) Yx 1 60 [(2,(.pv (.int IntKind.u8 (↑(UInt8.toNat b):Int)))),(3,(.ptr 0 0)),(8,(.row 1 (L+List.length (List.drop 0 (List.take 1 [PV.agg [enc (Nd.kind (TS.n x)),enc (Nd.line (TS.n x)),enc (Nd.name (TS.n x)),enc (Nd.num (TS.n x)),enc (Nd.elem (TS.n x)),enc (Nd.dims (TS.n x)),enc (Nd.data (TS.n x)),enc (Nd.sizes (TS.n x)),enc (Nd.ranks (TS.n x)),enc (TS.k x)]]))) 0 (L+List.length (List.drop 0 (List.take 1 [PV.agg [enc (Nd.kind (TS.n x)),enc (Nd.line (TS.n x)),enc (Nd.name (TS.n x)),enc (Nd.num (TS.n x)),enc (Nd.elem (TS.n x)),enc (Nd.dims (TS.n x)),enc (Nd.data (TS.n x)),enc (Nd.sizes (TS.n x)),enc (Nd.ranks (TS.n x)),enc (TS.k x)]]))))),(9,(.pv (.int .i64 (IntKind.wrap IntKind.i64 (i+1)))))] [(.obj (.box (bS x))),(.obj (.row false 28 10 (o++List.drop 0 (List.take 1 [PV.agg [enc (Nd.kind (TS.n x)),enc (Nd.line (TS.n x)),enc (Nd.name (TS.n x)),enc (Nd.num (TS.n x)),enc (Nd.elem (TS.n x)),enc (Nd.dims (TS.n x)),enc (Nd.data (TS.n x)),enc (Nd.sizes (TS.n x)),enc (Nd.ranks (TS.n x)),enc (TS.k x)]]))))])else(if (decide ((↑(L - 0):Int)>0))=true then(List.length o==L)=true∧((Vo [(.agg [(.int .i64 7),(.int .i64 0),(.str []),(.int .i64 0),(.str []),(.sl 0 true []),(.sl 0 true []),(.sl 0 true []),(.sl 0 true []),(.sl 10 false (List.drop 0 (List.take L o)))])] fun y0=>((List.length o==L)=true∧((Vo [(.agg [(.int .i64 7),(.int .i64 0),(.str []),(.int .i64 0),(.str []),(.sl 0 true []),(.sl 0 true []),(.sl 0 true []),(.sl 0 true []),(.sl 10 false (List.drop 0 (List.take L o)))])] fun y1=>(if (y0==y1)=true then(List.length o==L)=true∧((GK [(.agg [(.int .i64 7),(.int .i64 0),(.str []),(.int .i64 0),(.str []),(.sl 0 true []),(.sl 0 true []),(.sl 0 true []),(.sl 0 true []),(.sl 10 false (List.drop 0 (List.take L o)))])] fun y2=>((List.length o==L)=true∧((GY [(.agg [(.int .i64 7),(.int .i64 0),(.str []),(.int .i64 0),(.str []),(.sl 0 true []),(.sl 0 true []),(.sl 0 true []),(.sl 0 true []),(.sl 10 false (List.drop 0 (List.take L o)))])] fun y3=>(if (y2==y3)=true then(List.length o==L)=true∧((Gi [(.agg [(.int .i64 7),(.int .i64 0),(.str []),(.int .i64 0),(.str []),(.sl 0 true []),(.sl 0 true []),(.sl 0 true []),(.sl 0 true []),(.sl 10 false (List.drop 0 (List.take L o)))])] fun y4=>((List.length o==L)=true∧((Gh [(.agg [(.int .i64 7),(.int .i64 0),(.str []),(.int .i64 0),(.str []),(.sl 0 true []),(.sl 0 true []),(.sl 0 true []),(.sl 0 true []),(.sl 10 false (List.drop 0 (List.take L o)))])] fun y5=>(G ((.bool (y4==y5)))))))))else(G ((.bool false)))))))))else(G ((.bool false)))))))))else((Vo [(eS x)] fun y6=>((Vo [(eS x)] fun y7=>(if (y6==y7)=true then(GK [(eS x)] fun y8=>((GY [(eS x)] fun y9=>(if (y8==y9)=true then(Gi [(eS x)] fun y10=>((Gh [(eS x)] fun y11=>(G ((.bool (y10==y11)))))))else(G ((.bool false)))))))else(G ((.bool false)))))))))):At Xv 0 (Zb YB G) Yx 1 60 [(2,.pv (.int .u8 (b.toNat:Int))),(3,.ptr 0 0),(8,.row 1 L 0 L),(9,.pv (.int .i64 i))] [.obj (.box [.pv (enc x.n.kind),.pv (enc x.n.line),.pv (enc x.n.name),.pv (enc x.n.num),.pv (enc x.n.elem),.pv (enc x.n.dims),.pv (enc x.n.data),.pv (enc x.n.sizes),.pv (enc x.n.ranks),.pv (enc x.k)]),.obj (.row false 28 10 o)]:=At.tp (dm [dv Bool,dv Int] 127 0x222222222220222220222612261200b4222612261201f425151022222222222022222022261122611200d42226112261120234251151103a4202122005422) h
theorem a3r{G:PV->Prop}(n:Nd)(ks:List Tm)(a b:UInt8)(q:PV)(o:List PV)(L:Nat)(i:Int)(h:if (decide (i<Int.tmod (IntKind.wrap IntKind.i64 (↑(UInt8.toNat b):Int)) 17))=true then(List.length o==L&&L==L&&decide ((L+List.length (List.drop 0 (List.take 1 [PV.agg [PV.int .i64 9,PV.int .i64 0,PV.str [(97:UInt8),(100:UInt8),(100:UInt8)],PV.int .i64 0,PV.str [],PV.sl 0 true [],PV.sl 0 true [],PV.sl 0 true [],PV.sl 0 true [],PV.sl 10 false (List.drop 0 (List.take 1 [q]))]])))*176<=1099511627776)&&decide (L+List.length (List.drop 0 (List.take 1 [PV.agg [PV.int .i64 9,PV.int .i64 0,PV.str [(97:UInt8),(100:UInt8),(100:UInt8)],PV.int .i64 0,PV.str [],PV.sl 0 true [],PV.sl 0 true [],PV.sl 0 true [],PV.sl 0 true [],PV.sl 10 false (List.drop 0 (List.take 1 [q]))]]))<=1099511627776))=true∧(At Xv 0 (Zb YB G) Yx 1 60 [(2,(.pv (.int IntKind.u8 (↑(UInt8.toNat b):Int)))),(3,(.ptr 0 0)),(8,(.row 1 (L+List.length (List.drop 0 (List.take 1 [PV.agg [PV.int .i64 9,PV.int .i64 0,PV.str [(97:UInt8),(100:UInt8),(100:UInt8)],PV.int .i64 0,PV.str [],PV.sl 0 true [],PV.sl 0 true [],PV.sl 0 true [],PV.sl 0 true [],PV.sl 10 false (List.drop 0 (List.take 1 [q]))]]))) 0 (L+List.length (List.drop 0 (List.take 1 [PV.agg [PV.int .i64 9,PV.int .i64 0,PV.str [(97:UInt8),(100:UInt8),(100:UInt8)],PV.int .i64 0,PV.str [],PV.sl 0 true [],PV.sl 0 true [],PV.sl 0 true [],PV.sl 0 true [],PV.sl 10 false (List.drop 0 (List.take 1 [q]))]]))))),(9,(.pv (.int .i64 (IntKind.wrap IntKind.i64 (i+1)))))] [(.obj (.box [(.pv (.int .i64 9)),(.pv (.int .i64 0)),(.pv (.str [(97:UInt8),(100:UInt8),(100:UInt8)])),(.pv (.int .i64 0)),(.pv (.str [])),(.pv (.sl 0 true [])),(.pv (.sl 0 true [])),(.pv (.sl 0 true [])),(.pv (.sl 0 true [])),(.row 2 1 0 1)])),(.obj (.row false 28 10 (o++List.drop 0 (List.take 1 [PV.agg [PV.int .i64 9,PV.int .i64 0,PV.str [(97:UInt8),(100:UInt8),(100:UInt8)],PV.int .i64 0,PV.str [],PV.sl 0 true [],PV.sl 0 true [],PV.sl 0 true [],PV.sl 0 true [],PV.sl 10 false (List.drop 0 (List.take 1 [q]))]])))),(.obj (.row true 28 10 [q]))])else(if (decide ((↑(L - 0):Int)>0))=true then(List.length o==L)=true∧((Vo [(.agg [(.int .i64 7),(.int .i64 0),(.str []),(.int .i64 0),(.str []),(.sl 0 true []),(.sl 0 true []),(.sl 0 true []),(.sl 0 true []),(.sl 10 false (List.drop 0 (List.take L o)))])] fun y0=>((List.length o==L)=true∧((Vo [(.agg [(.int .i64 7),(.int .i64 0),(.str []),(.int .i64 0),(.str []),(.sl 0 true []),(.sl 0 true []),(.sl 0 true []),(.sl 0 true []),(.sl 10 false (List.drop 0 (List.take L o)))])] fun y1=>(if (y0==y1)=true then(List.length o==L)=true∧((GK [(.agg [(.int .i64 7),(.int .i64 0),(.str []),(.int .i64 0),(.str []),(.sl 0 true []),(.sl 0 true []),(.sl 0 true []),(.sl 0 true []),(.sl 10 false (List.drop 0 (List.take L o)))])] fun y2=>((List.length o==L)=true∧((GY [(.agg [(.int .i64 7),(.int .i64 0),(.str []),(.int .i64 0),(.str []),(.sl 0 true []),(.sl 0 true []),(.sl 0 true []),(.sl 0 true []),(.sl 10 false (List.drop 0 (List.take L o)))])] fun y3=>(if (y2==y3)=true then(List.length o==L)=true∧((Gi [(.agg [(.int .i64 7),(.int .i64 0),(.str []),(.int .i64 0),(.str []),(.sl 0 true []),(.sl 0 true []),(.sl 0 true []),(.sl 0 true []),(.sl 10 false (List.drop 0 (List.take L o)))])] fun y4=>((List.length o==L)=true∧((Gh [(.agg [(.int .i64 7),(.int .i64 0),(.str []),(.int .i64 0),(.str []),(.sl 0 true []),(.sl 0 true []),(.sl 0 true []),(.sl 0 true []),(.sl 10 false (List.drop 0 (List.take L o)))])] fun y5=>(G ((.bool (y4==y5)))))))))else(G ((.bool false)))))))))else(G ((.bool false)))))))))else((Vo [(DI q)] fun y6=>((Vo [(DI q)] fun y7=>(if (y6==y7)=true then(GK [(DI q)] fun y8=>((GY [(DI q)] fun y9=>(if (y8==y9)=true then(Gi [(DI q)] fun y10=>((Gh [(DI q)] fun y11=>(G ((.bool (y10==y11)))))))else(G ((.bool false)))))))else(G ((.bool false)))))))))):At Xv 0 (Zb YB G) Yx 1 60 [(2,.pv (.int .u8 (b.toNat:Int))),(3,.ptr 0 0),(8,.row 1 L 0 L),(9,.pv (.int .i64 i))] [.obj (.box [.pv (.int .i64 9),.pv (.int .i64 0),.pv (.str [97,100,100]),.pv (.int .i64 0),.pv (.str []),.pv (.sl 0 true []),.pv (.sl 0 true []),.pv (.sl 0 true []),.pv (.sl 0 true []),.row 2 1 0 1]),.obj (.row false 28 10 o),.obj (.row true 28 10 [q])]:=At.tp (dm [dv Bool,dv Int] 134 0x22222222222022222022261222612200d422261222612202342512512022222222222022222022261122611200d42226112261120234251151103a42021222006422) h
end Go.Pl
namespace Go.Pl
open Go.RowKit
open Enc (enc dec is)
open EncL (encL decL isL)
def Ue(p:PV)(t:Tm):Prop:=tmI p=true∧tmD p=t
theorem Yy{p:PV}{t:Tm}(h:Ue p t)(hw:gW t=true):preT (fun x:Tm×Unit=>gW x.1) [p]=true:=c4v (t,()) (by show(tmI p&&true)=true;rw[h.1];rfl) (by show(tmD p,())=_;rw[h.2]) hw
theorem Xw{β:Type}[Enc β]{F:Tm×Unit->β}{P:β->Prop}{p:PV}{t:Tm}(h:Ue p t)(k:P (F (t,()))): ∃ y,AV.pv (Zi F [p])=AV.pv (enc y)∧P y:=b4s (t,()) (by show(tmD p,())=_;rw[h.2]) k
theorem OP(t:Tm):Ue (enc t) t:=⟨b3n t,b6c t⟩
theorem c6b(k:Int)(s:List UInt8)(qs:List PV)(ts:List Tm)(h1:Jh qs=true)(h2:Ht qs=ts):Ue (.agg [.int .i64 k,.int .i64 0,.str s,.int .i64 0,.str [],.sl 0 true [],.sl 0 true [],.sl 0 true [],.sl 0 true [],.sl 10 false qs]) (.mk {P6 with kind:=k,name:=⟨s⟩} ts):=by
 refine⟨?_,?_⟩
 ·rw[tmI,h1]
  simp
 ·rw[tmD,h2]
  rfl
theorem F4{p:PV}{t:Tm}(h:Ue p t): ∀ n:Nat,Jh (List.replicate n p)=true∧Ht (List.replicate n p)=List.replicate n t
 | 0=>⟨by simp[Jh],by simp[Ht]⟩
 | n+1=>by
  obtain⟨h1,h2⟩:=F4 h n
  rw[List.replicate_succ,List.replicate_succ,Jh,Ht,h1,h2,h.1,h.2]
  exact⟨rfl,rfl⟩
def scT(t:Tm):Tm:=.mk {P6 with kind:=9,name:=c9o} [t]
def pkT(ts:List Tm):Tm:=.mk {P6 with kind:=7} ts
theorem b8l{p:PV}{t:Tm}(h:Ue p t):Ue (DI p) (scT t):=c6b 9 [97,100,100] [p] [t] (by rw[Jh,Jh,h.1];rfl) (by rw[Ht,Ht,h.2])
theorem c5y{p:PV}{t:Tm}(h:Ue p t)(n:Nat):Ue (.agg [(.int .i64 7),(.int .i64 0),(.str []),(.int .i64 0),(.str []),(.sl 0 true []),(.sl 0 true []),(.sl 0 true []),(.sl 0 true []),(.sl 10 false (List.replicate n p))]) (pkT (List.replicate n t)):=c6b 7 [] _ _ (F4 h n).1 (F4 h n).2
theorem GL(a:UInt8)(k:Nat)(hk:0<k):Int.tmod (IntKind.i64.wrap (a.toNat:Int)) (k:Int)=((a.toNat % k:Nat):Int):=by
 have h:=a.toNat_lt
 rw[Aq (by omega) (by omega)]
 rfl
theorem c8d(x:TS)(k:Nat):List.replicate k (eS x)++List.drop 0 (List.take 1 [PV.agg [enc (Nd.kind (TS.n x)),enc (Nd.line (TS.n x)),enc (Nd.name (TS.n x)),enc (Nd.num (TS.n x)),enc (Nd.elem (TS.n x)),enc (Nd.dims (TS.n x)),enc (Nd.data (TS.n x)),enc (Nd.sizes (TS.n x)),enc (Nd.ranks (TS.n x)),enc (TS.k x)]])=List.replicate (k+1) (eS x):=List.replicate_succ'.symm
theorem b9z(q:PV)(k:Nat):List.replicate k (DI q)++List.drop 0 (List.take 1 [PV.agg [PV.int .i64 9,PV.int .i64 0,PV.str [(97:UInt8),(100:UInt8),(100:UInt8)],PV.int .i64 0,PV.str [],PV.sl 0 true [],PV.sl 0 true [],PV.sl 0 true [],PV.sl 0 true [],PV.sl 10 false (List.drop 0 (List.take 1 [q]))]])=List.replicate (k+1) (DI q):=List.replicate_succ'.symm
theorem d0q(n:Nd)(ks:List Tm)(a b:UInt8)(x:TS)(hw:gW (pkT (List.replicate (b.toNat % 17) x.t))=true): ∀ d i:Nat,d+i=b.toNat % 17->1<=i ->
  At Xv 0 (Zb YB (Zn true)) Yx 1 60 [(2,.pv (.int .u8 (b.toNat:Int))),(3,.ptr 0 0),(8,.row 1 i 0 i),(9,.pv (.int .i64 i))] [.obj (.box (bS x)),.obj (.row false 28 10 (List.replicate i (eS x)))]:=by
 have hb:b.toNat % 17<17:=Nat.mod_lt _ (by omega)
 have hm:=GL b 17 (by omega)
 intro d
 induction d with
 | zero=>
  intro i hi h1
  have hL:(List.replicate i (eS x)).length=i:=List.length_replicate
  have hg:=c5y (n:=i) (p:=eS x) (t:=x.t) (by rw[b3c];exact OP _)
  have e:i=b.toNat % 17:=by omega
  rw[<- e]at hw
  have ed:List.drop 0 (List.take i (List.replicate i (eS x)))=List.replicate i (eS x):=by rw[List.drop_zero,List.take_of_length_le (by omega)]
  refine a0x n ks a b x (List.replicate i (eS x)) i i (Y6 ?_ (Yl (by simp;omega) ?_))
  ·rw[show Int.tmod (IntKind.wrap IntKind.i64 (b.toNat:Int)) 17=((b.toNat % 17:Nat):Int)from hm]
   exact XV (by omega)
  rw[ed]
  exact⟨by simp[hL],Yy hg hw,Xw hg ⟨by simp[hL],Yy hg hw,Xw hg (Yl (by simp) ⟨by simp[hL],Yy hg hw,Xw hg ⟨by simp[hL],Yy hg hw,Xw hg (Yl (by simp[V8]) ⟨by simp[hL],Yy hg hw,Xw hg ⟨by simp[hL],Yy hg hw,Xw hg (Zl (by simp[BC]))⟩⟩)⟩⟩)⟩⟩
 | succ d ih=>
  intro i hi h1
  refine a0x n ks a b x (List.replicate i (eS x)) i i (Yl ?_ ⟨by simp;omega,?_⟩)
  ·rw[show Int.tmod (IntKind.wrap IntKind.i64 (b.toNat:Int)) 17=((b.toNat % 17:Nat):Int)from hm]
   exact Xb (by omega)
  rw[c8d,next (by omega)]
  exact ih (i+1) (by omega) (by omega)
theorem d0k(n:Nd)(ks:List Tm)(a b:UInt8)(q:PV)(t:Tm)(hq:Ue q t)(hw:gW (pkT (List.replicate (b.toNat % 17) (scT t)))=true): ∀ d i:Nat,d+i=b.toNat % 17->1<=i ->
  At Xv 0 (Zb YB (Zn true)) Yx 1 60 [(2,.pv (.int .u8 (b.toNat:Int))),(3,.ptr 0 0),(8,.row 1 i 0 i),(9,.pv (.int .i64 i))] [.obj (.box [.pv (.int .i64 9),.pv (.int .i64 0),.pv (.str [97,100,100]),.pv (.int .i64 0),.pv (.str []),.pv (.sl 0 true []),.pv (.sl 0 true []),.pv (.sl 0 true []),.pv (.sl 0 true []),.row 2 1 0 1]),.obj (.row false 28 10 (List.replicate i (DI q))),.obj (.row true 28 10 [q])]:=by
 have hb:b.toNat % 17<17:=Nat.mod_lt _ (by omega)
 have hm:=GL b 17 (by omega)
 intro d
 induction d with
 | zero=>
  intro i hi h1
  have hL:(List.replicate i (DI q)).length=i:=List.length_replicate
  have hg:=c5y (n:=i) (p:=DI q) (t:=(scT t)) (b8l hq)
  have e:i=b.toNat % 17:=by omega
  rw[<- e]at hw
  have ed:List.drop 0 (List.take i (List.replicate i (DI q)))=List.replicate i (DI q):=by rw[List.drop_zero,List.take_of_length_le (by omega)]
  refine a3r n ks a b q (List.replicate i (DI q)) i i (Y6 ?_ (Yl (by simp;omega) ?_))
  ·rw[show Int.tmod (IntKind.wrap IntKind.i64 (b.toNat:Int)) 17=((b.toNat % 17:Nat):Int)from hm]
   exact XV (by omega)
  rw[ed]
  exact⟨by simp[hL],Yy hg hw,Xw hg ⟨by simp[hL],Yy hg hw,Xw hg (Yl (by simp) ⟨by simp[hL],Yy hg hw,Xw hg ⟨by simp[hL],Yy hg hw,Xw hg (Yl (by simp[V8]) ⟨by simp[hL],Yy hg hw,Xw hg ⟨by simp[hL],Yy hg hw,Xw hg (Zl (by simp[BC]))⟩⟩)⟩⟩)⟩⟩
 | succ d ih=>
  intro i hi h1
  refine a3r n ks a b q (List.replicate i (DI q)) i i (Yl ?_ ⟨by simp;omega,?_⟩)
  ·rw[show Int.tmod (IntKind.wrap IntKind.i64 (b.toNat:Int)) 17=((b.toNat % 17:Nat):Int)from hm]
   exact Xb (by omega)
  rw[b9z,next (by omega)]
  exact ih (i+1) (by omega) (by omega)
theorem d2k(n:Nd)(ks:List Tm)(a b:UInt8)(x:TS)(h0:gW x.t=true)(hw:gW (pkT (List.replicate (b.toNat % 17) x.t))=true):
  At Xv 0 (Zb YB (Zn true)) Yx 1 60 [(2,.pv (.int .u8 (b.toNat:Int))),(3,.ptr 0 0),(8,.pv (.sl 0 true [])),(9,.pv (.int .i64 0))] [.obj (.box (bS x))]:=by
 have hm:=GL b 17 (by omega)
 by_cases hb:b.toNat % 17=0
 ·have hg:Ue (eS x) x.t:=by rw[b3c];exact OP _
  have hw:=h0
  refine a1p n ks a b x 0 (Y6 ?_ ?_)
  ·rw[show Int.tmod (IntKind.wrap IntKind.i64 (b.toNat:Int)) 17=((b.toNat % 17:Nat):Int)from hm,hb];decide
  exact⟨Yy hg hw,Xw hg ⟨Yy hg hw,Xw hg (Yl (by simp) ⟨Yy hg hw,Xw hg ⟨Yy hg hw,Xw hg (Yl (by simp[V8]) ⟨Yy hg hw,Xw hg ⟨Yy hg hw,Xw hg (Zl (by simp[BC]))⟩⟩)⟩⟩)⟩⟩
 ·refine a1p n ks a b x 0 (Yl ?_ ?_)
  ·rw[show Int.tmod (IntKind.wrap IntKind.i64 (b.toNat:Int)) 17=((b.toNat % 17:Nat):Int)from hm]
   exact Xb (i:=0) (by omega)
  exact d0q n ks a b x hw (b.toNat % 17 - 1) 1 (by omega) (by omega)
theorem d1c(n:Nd)(ks:List Tm)(a b:UInt8)(q:PV)(t:Tm)(hq:Ue q t)(h0:gW (scT t)=true)(hw:gW (pkT (List.replicate (b.toNat % 17) (scT t)))=true):
  At Xv 0 (Zb YB (Zn true)) Yx 1 60 [(2,.pv (.int .u8 (b.toNat:Int))),(3,.ptr 0 0),(8,.pv (.sl 0 true [])),(9,.pv (.int .i64 0))] [.obj (.box [.pv (.int .i64 9),.pv (.int .i64 0),.pv (.str [97,100,100]),.pv (.int .i64 0),.pv (.str []),.pv (.sl 0 true []),.pv (.sl 0 true []),.pv (.sl 0 true []),.pv (.sl 0 true []),.row 1 1 0 1]),.obj (.row false 28 10 [q])]:=by
 have hm:=GL b 17 (by omega)
 by_cases hb:b.toNat % 17=0
 ·have hg:Ue (DI q) (scT t):=b8l hq
  have hw:=h0
  refine a3q n ks a b q 0 (Y6 ?_ ?_)
  ·rw[show Int.tmod (IntKind.wrap IntKind.i64 (b.toNat:Int)) 17=((b.toNat % 17:Nat):Int)from hm,hb];decide
  exact⟨Yy hg hw,Xw hg ⟨Yy hg hw,Xw hg (Yl (by simp) ⟨Yy hg hw,Xw hg ⟨Yy hg hw,Xw hg (Yl (by simp[V8]) ⟨Yy hg hw,Xw hg ⟨Yy hg hw,Xw hg (Zl (by simp[BC]))⟩⟩)⟩⟩)⟩⟩
 ·refine a3q n ks a b q 0 (Yl ?_ ?_)
  ·rw[show Int.tmod (IntKind.wrap IntKind.i64 (b.toNat:Int)) 17=((b.toNat % 17:Nat):Int)from hm]
   exact Xb (i:=0) (by omega)
  exact d0k n ks a b q t hq hw (b.toNat % 17 - 1) 1 (by omega) (by omega)
def grW(t:Tm)(k:Nat):Prop:=16*(Zt t+k)+1<=1048576∧ ∀ x∈(Zq 1 t).map (·.1),nW x=true
theorem Jz{l:Nat}: ∀ {ks:List Tm} {x:Tm},x∈(Zy l ks).map (·.1)-> ∃ k∈ks,x∈(Zq 1 k).map (·.1)
 | [],x,h=>by simp[Zy]at h
 | a::ks,x,h=>by
  rw[Zy,List.map_append,List.mem_append]at h
  rcases h with h|h
  ·exact⟨a,by simp,by rw[TW 1 l];exact h⟩
  ·obtain⟨k,hk,hx⟩:=Jz h
   exact⟨k,List.mem_cons_of_mem _ hk,hx⟩
theorem BL(t:Tm): ∀ n:Nat,Zr (List.replicate n t)=n*Zt t
 | 0=>by simp[Zr]
 | n+1=>by rw[List.replicate_succ,Zr,BL t n,Nat.add_mul];omega
theorem d4d{n:Nd}{ks:List Tm}(h1:Zr ks+1<=1048576)(h2:nW (.mk n ks)=true)(h3 : ∀ k∈ks,∀ x∈(Zq 1 k).map (·.1),nW x=true):gW (.mk n ks)=true:=by
 unfold gW
 rw[Zt,decide_eq_true (show Zr ks+1<=1048576 from h1),Bool.true_and,List.all_eq_true]
 intro x hx
 rw[Zq,List.map_cons]at hx
 rcases List.mem_cons.1 hx with rfl|hx
 ·exact h2
 ·obtain⟨k,hk,hx⟩:=Jz hx
  exact h3 k hk x hx
theorem PO{t:Tm}(h:grW t 0)(b:UInt8):gW t=true∧gW (pkT (List.replicate (b.toNat % 17) t))=true:=by
 obtain⟨h1,h2⟩:=h
 have hb:b.toNat % 17<17:=Nat.mod_lt _ (by omega)
 refine⟨?_,d4d ?_ ?_ fun k hk=> ?_⟩
 ·unfold gW
  rw[decide_eq_true (show Zt t<=1048576 by omega),Bool.true_and,List.all_eq_true]
  exact h2
 ·rw[BL]
  have:=Nat.mul_le_mul_right (Zt t) (show b.toNat % 17<=16 by omega)
  omega
 ·unfold nW
  rw[decide_eq_true (show Eb (Tm.nd (.mk {P6 with kind:=7} (List.replicate (b.toNat % 17) t)))<=1048576 by show Eb {P6 with kind:=7}<=_;decide),decide_eq_true (show(Tm.ks (.mk {P6 with kind:=7} (List.replicate (b.toNat % 17) t))).length<=1048576 by show(List.replicate (b.toNat % 17) t).length<=_;rw[List.length_replicate];omega)]
  rfl
 ·obtain rfl:=List.eq_of_mem_replicate hk
  exact h2
theorem b2x{t:Tm}{k:Nat}(h:grW t (k+1)):grW (scT t) k:=by
 obtain⟨h1,h2⟩:=h
 refine⟨?_,fun x hx=> ?_⟩
 ·unfold scT
  rw[Zt,Zr,Zr]
  omega
 ·unfold scT at hx
  rw[Zq,List.map_cons]at hx
  rcases List.mem_cons.1 hx with rfl|hx
  ·rfl
  ·obtain⟨k,hk,hx'⟩:=Jz hx
   have hk:k=t:=by simpa using hk
   rw[hk]at hx'
   exact h2 x hx'
theorem Oh{t:Tm}{k j:Nat}(h:grW t k)(hj:j<=k):grW t j:=⟨by have:=h.1;omega,h.2⟩
theorem c9q(n:Nd)(ks:List Tm)(a b:UInt8): ∀ (d i:Nat) (q:PV) (t:Tm),Ue q t->grW (scT t) d->d+i=a.toNat % 46 ->
  At Xv 0 (Zb YB (Zn true)) Yx 0 60 [(1,.pv (.int .u8 (a.toNat:Int))),(2,.pv (.int .u8 (b.toNat:Int))),(3,.ptr 0 0),(7,.pv (.int .i64 i))] [.obj (.box [.pv (.int .i64 9),.pv (.int .i64 0),.pv (.str [97,100,100]),.pv (.int .i64 0),.pv (.str []),.pv (.sl 0 true []),.pv (.sl 0 true []),.pv (.sl 0 true []),.pv (.sl 0 true []),.row 1 1 0 1]),.obj (.row false 28 10 [q])]:=by
 have ha:a.toNat % 46<46:=Nat.mod_lt _ (by omega)
 have hm:=GL a 46 (by omega)
 intro d
 induction d with
 | zero=>
  intro i q t hq hw hi
  refine a3n n ks a b q i (Y6 ?_ ?_)
  ·rw[show Int.tmod (IntKind.wrap IntKind.i64 (a.toNat:Int)) 46=((a.toNat % 46:Nat):Int)from hm]
   exact XV (by omega)
  exact d1c n ks a b q t hq (PO hw b).1 (PO hw b).2
 | succ d ih=>
  intro i q t hq hw hi
  refine a3n n ks a b q i (Yl ?_ ?_)
  ·rw[show Int.tmod (IntKind.wrap IntKind.i64 (a.toNat:Int)) 46=((a.toNat % 46:Nat):Int)from hm]
   exact Xb (by omega)
  rw[next (by omega)]
  exact ih (i+1) (DI q) (scT t) (b8l hq) (b2x hw) (by omega)
theorem c4t: ∀ x:Tm×UInt8×UInt8×Unit,tW x.1=true->Zc Xv 0 (Zb YB (Zn true)) Yx [] (ZL c9x (encL x)):=by
 rintro⟨⟨n,ks⟩,a,b,⟨⟩⟩ hw
 have t1:tW (.mk n ks)=true:=hw
 have ha:a.toNat % 46<46:=Nat.mod_lt _ (by omega)
 have hm:=GL a 46 (by omega)
 have e:(encL ((Tm.mk n ks,a,b,()):Tm×UInt8×UInt8×Unit):List PV)=[ndC n ks,enc a,enc b]:=by rw[UC];rfl
 rw[e]
 refine d5s n ks a b (Zf () rfl (Vh (fun h=>nomatch h) fun _=> ?_))
 refine⟨Ze (Tm.mk n ks,(12:Int),()) (ndT n ks (12:Int)).symm t1,Zf (Tm.mk n ks,(12:Int),()) (ndT n ks (12:Int)).symm (Vh (fun _=>Zl rfl) fun hf=> ?_)⟩
 have hs:=b5z (t:=.mk n ks) (k:=12) hf
 have hG:grW (.mk n ks) 46:=⟨by omega,Nf (SN t1)⟩
 have t1:gW (.mk n ks)=true:=SN t1
 show At Xv 0 (Zb YB (Zn true)) Yx 0 60 [(1,.pv (.int .u8 (a.toNat:Int))),(2,.pv (.int .u8 (b.toNat:Int))),(3,.ptr 0 0),(7,.pv (.int .i64 0))] [.obj (.box (bS (Sa (.mk n ks))))]
 by_cases h0:a.toNat % 46=0
 ·refine a2x n ks a b (Sa (.mk n ks)) 0 (Y6 ?_ ?_)
  ·rw[show Int.tmod (IntKind.wrap IntKind.i64 (a.toNat:Int)) 46=((a.toNat % 46:Nat):Int)from hm,h0];decide
  exact d2k n ks a b (Sa (.mk n ks)) t1 (PO (t:=.mk n ks) (Oh hG (Nat.zero_le _)) b).2
 ·refine a2x n ks a b (Sa (.mk n ks)) 0 (Yl ?_ ?_)
  ·rw[show Int.tmod (IntKind.wrap IntKind.i64 (a.toNat:Int)) 46=((a.toNat % 46:Nat):Int)from hm]
   exact Xb (i:=0) (by omega)
  refine c9q n ks a b (a.toNat % 46 - 1) 1 (eS (Sa (.mk n ks))) (.mk n ks) (by rw[TI];exact OP _) (Oh (b2x (Oh hG (show 45+1<=46 by omega))) (by omega)) (by omega)
end Go.Pl
