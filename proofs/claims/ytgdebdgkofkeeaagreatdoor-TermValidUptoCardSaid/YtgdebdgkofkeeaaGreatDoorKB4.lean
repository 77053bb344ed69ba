/-
  Texts of mine that belong together (packed by pack.py), for every input: QPz, QQa, GQb, GPa, QPa, QQb, QQc, QUb, QUc, QUg, GUh, QUh, GUj, GTv, QTg, VwU, QTv, QUj, VwL, GTd, QTd, GWy, QWy, GVa, QVa, QCo, GL7, QL7, GL9, QL9, TyRa, GRa, QGc, TyZ0, TyCm, GUk, QUk, GUn, QUn, GUo, QUo, GUd, QUd, GUi, GUl, QUl, GUm, TyLi, GUs, QUs, QUu, VwI, VwJ, VwY, GUt, QUy, VwZ.
-/
import Derived.Test.YtgdebdgkofkeeaaGreatDoorChecked
import Derived.Test.YtgdebdgkofkeeaaGreatDoorProg
import Derived.Test.YtgdebdgkofkeeaaGreatDoorKB2
import Derived.Test.YtgdebdgkofkeeaaGreatDoorKB3
import Derived.KernelRfl
import Derived.Lib.ItoaLen
import Derived.Lib.ItoaNum
set_option linter.unusedVariables false
set_option linter.unusedSimpArgs false
namespace Go.Pl
open Go.RowKit
open Enc (enc dec is)
open EncL (encL decL isL)
theorem Gp{N:Nat}{n:Nd}{ks:List Tm}(h:tW (.mk n ks)=true)(hd:ZL ks<N){k:Tm}(hk:k∈ks):(fun x:Tm×Unit=>tW x.1&&decide (Zu x.1<N)) (k,())=true:=by
 show(tW k&&decide (Zu k<N))=true
 rw[(Ym h).2 k hk,decide_eq_true (Nat.lt_of_le_of_lt (Qh hk) hd)];rfl
theorem LG{a b:Nat}(h:a+b<=4611686018427387904):IntKind.i64.wrap ((a:Int)+(b:Int))=((a+b:Nat):Int):=by rw[IntKind.wrap_i64];omega
theorem a5p(N:Nat)(n:Nd)(ks:List Tm)(hw:tW (.mk n ks)=true)(hd:ZL ks<N): ∀ (d i:Nat),d+i=ks.length ->
  At (GZ N) 0 (Zb KN (Zm ((Zu (.mk n ks):Nat):Int))) KL 0 22 [(1,.ptr 0 0),(3,.pv (.int .i64 (ZL (ks.take i):Nat))),(4,.pv (.int .i64 i))] [.obj (.box (ZY n ks))]:=by
 intro d
 induction d with
 | zero=>
  intro i hi
  rw[List.take_of_length_le (by omega)]
  refine a1p N n ks _ i (YW (X6 (by omega)) (UJ ?_))
  have:=Q9 (.mk n ks)
  have:=Ur hw
  rw[Zu]at *
  exact next (by omega)
 | succ d ih=>
  intro i hi
  have hlt:i<ks.length:=by omega
  refine a1p N n ks _ i (YB (XJ hlt) ⟨ZB hlt rfl,ZQ hlt ⟨We _,Ze (ks[i],()) (Ku _) (Gp hw hd (List.getElem_mem hlt)),Zd (ks[i],()) (Ku _) ?_⟩⟩)
  rw[next (by have:=(Ym hw).1;omega)]
  have h:=ih (i+1) (by omega)
  rw[VU hlt,a7v]at h
  have e:(if true=true then if ((Zu ks[i]:Nat):Int)>((ZL (ks.take i):Nat):Int)then((Zu ks[i]:Nat):Int)else((ZL (ks.take i):Nat):Int)else if ((Zu ks[i]:Nat):Int)<((ZL (ks.take i):Nat):Int)then((Zu ks[i]:Nat):Int)else((ZL (ks.take i):Nat):Int))=((max (ZL (ks.take i)) (Zu ks[i]):Nat):Int):=by
   rw[if_pos rfl]
   split <;> omega
  have h2:_:=h
  rw[<- e]at h2
  exact h2
theorem b7x(N:Nat): ∀ x:Tm×Unit,(tW x.1&&decide (Zu x.1<N+1))=true->Zc (GZ N) 0 (Zb KN (Zm ((Zu x.1:Nat):Int))) KL [] (ZJ c5t (encL x)):=by
 rintro⟨⟨n,ks⟩,⟨⟩⟩ h
 simp only[Bool.and_eq_true,decide_eq_true_eq]at h
 have hd:Zu (.mk n ks)<N+1:=h.2
 rw[Zu]at hd
 rw[<- Yc]
 exact d3k N n ks (a5p N n ks h.1 (by omega) ks.length 0 (by omega))
theorem Ot(N:Nat)(n:Nd)(ks:List Tm)(hw:tW (.mk n ks)=true)(hd:ZL ks<N): ∀ (d i:Nat),d+i=ks.length ->
  At (Je N) 0 (Zb Qe (Zm ((Zk (.mk n ks):Nat):Int))) Qf 0 21 [(1,.ptr 0 0),(3,.pv (.int .i64 (Zq (ks.take i)+1:Nat))),(4,.pv (.int .i64 i))] [.obj (.box (ZY n ks))]:=by
 intro d
 induction d with
 | zero=>
  intro i hi
  rw[List.take_of_length_le (by omega)]
  exact Fh N n ks _ i (YW (X6 (by omega)) (UJ (by rw[Zk])))
 | succ d ih=>
  intro i hi
  have hlt:i<ks.length:=by omega
  refine Fh N n ks _ i (YB (XJ hlt) ⟨ZB hlt rfl,ZQ hlt ⟨We _,Ze (ks[i],()) (Ku _) (Gp hw hd (List.getElem_mem hlt)),Zd (ks[i],()) (Ku _) ?_⟩⟩)
  have hs:=Ur hw
  rw[Zk]at hs
  have ht:=D9 ks (i+1)
  have h:=ih (i+1) (by omega)
  rw[VU hlt,Qw]at h ht
  rw[next (by have:=(Ym hw).1;omega)]
  have e:IntKind.wrap IntKind.i64 (((Zq (ks.take i)+1:Nat):Int)+((Zk ks[i]:Nat):Int))=((Zq (ks.take i)+Zk ks[i]+1:Nat):Int):=by rw[LG (by omega)];congr 1;omega
  have h2:_:=h
  rw[<- e]at h2
  exact h2
theorem a5m(N:Nat): ∀ x:Tm×Unit,(tW x.1&&decide (Zu x.1<N+1))=true->Zc (Je N) 0 (Zb Qe (Zm ((Zk x.1:Nat):Int))) Qf [] (ZJ c0h (encL x)):=by
 rintro⟨⟨n,ks⟩,⟨⟩⟩ h
 simp only[Bool.and_eq_true,decide_eq_true_eq]at h
 have hd:Zu (.mk n ks)<N+1:=h.2
 rw[Zu]at hd
 rw[<- Yc]
 exact c1o N n ks (Ot N n ks h.1 (by omega) ks.length 0 (by omega))
def Um(n:Nd)(ks:List Tm)(i:Nat):List Tm:=.mk n ks::(ks.take i).flatMap Xq
theorem b6y(n:Nd)(ks:List Tm)(i:Nat):(Um n ks i).length=Zq (ks.take i)+1:=by unfold Um;rw[List.length_cons,RF]
theorem a9p(N:Nat)(n:Nd)(ks:List Tm)(hw:tW (.mk n ks)=true)(hd:ZL ks<N): ∀ (d i:Nat),d+i=ks.length ->
  At (G9 N) 0 (Zb Jg (Zm (Xq (.mk n ks)))) KJ 0 23 [(1,.ptr 0 0),(3,.row 1 (Um n ks i).length 0 (Um n ks i).length),(4,.pv (.int .i64 i))] [.obj (.box (ZY n ks)),.obj (.row false 28 10 ((Um n ks i).map enc))]:=by
 intro d
 induction d with
 | zero=>
  intro i hi
  refine a4d N n ks _ i (Um n ks i) (YW (X6 (by omega)) ⟨by simp,?_⟩)
  rw[List.drop_zero,List.take_of_length_le (by simp)]
  refine Xm (x:=Um n ks i) ?_
  unfold Um
  rw[List.take_of_length_le (by omega),c2f]
 | succ d ih=>
  intro i hi
  have hlt:i<ks.length:=by omega
  have hs:=Ur hw
  rw[Zk]at hs
  have ht:=D9 ks (i+1)
  rw[VU hlt,Qw]at ht
  have hl:(List.map (enc:Tm->PV) (Xq ks[i])).length=Zk ks[i]:=by rw[List.length_map,Ho]
  have hk:=b6y n ks i
  refine a4d N n ks _ i (Um n ks i) (YB (XJ hlt) ⟨ZB hlt rfl,ZQ hlt ⟨We _,Ze (ks[i],()) (Ku _) (Gp hw hd (List.getElem_mem hlt)),Zd (ks[i],()) (Ku _) ⟨?_,?_,?_⟩⟩⟩)
  ·show((List.map (enc:Tm->PV) (Xq ks[i])).isEmpty||Enc.sz Tm==10)=true
   rw[show(Enc.sz Tm==10)=true from rfl,Bool.or_true]
  ·show(List.length (List.map (enc:Tm->PV) (Um n ks i))==(Um n ks i).length&&(Um n ks i).length==(Um n ks i).length&&decide (((Um n ks i).length+(List.map (enc:Tm->PV) (Xq ks[i])).length)*176<=1099511627776)&&decide ((Um n ks i).length+(List.map (enc:Tm->PV) (Xq ks[i])).length<=1099511627776))=true
   rw[List.length_map,hl,decide_eq_true (by omega),decide_eq_true (by omega)];simp
  ·rw[next (by have:=(Ym hw).1;omega)]
   have h:=ih (i+1) (by omega)
   have e:Um n ks (i+1)=Um n ks i++Xq ks[i]:=by unfold Um;rw[VU hlt,List.flatMap_append,List.flatMap_cons,List.flatMap_nil,List.append_nil];rfl
   rw[e,List.map_append,List.length_append,<- show(List.map (enc:Tm->PV) (Xq ks[i])).length=(Xq ks[i]).length from List.length_map _]at h
   exact h
theorem b8y(N:Nat): ∀ x:Tm×Unit,(tW x.1&&decide (Zu x.1<N+1))=true->Zc (G9 N) 0 (Zb Jg (Zm (Xq x.1))) KJ [] (ZJ c5r (encL x)):=by
 rintro⟨⟨n,ks⟩,⟨⟩⟩ h
 simp only[Bool.and_eq_true,decide_eq_true_eq]at h
 have hd:Zu (.mk n ks)<N+1:=h.2
 rw[Zu]at hd
 rw[<- Yc]
 refine d0u N n ks ?_
 have:=a9p N n ks h.1 (by omega) ks.length 0 (by omega)
 rw[show Um n ks 0=[.mk n ks]from rfl]at this
 rw[Yc]
 exact this
theorem zs2(t:Tm):(decide (0+List.length [Sh.str]<=List.length (List.drop 2 (PV.cells (enc t))))&&Yk (List.drop 2 (PV.cells (enc t))) 0 [Sh.str])=true:=by obtain⟨n,ks⟩:=t;rw[ZF];rfl
theorem zv2(t:Tm):PV.asStr (List.getD (List.drop 2 (PV.cells (enc t))) 0 default)=t.nd.name.s:=by obtain⟨n,ks⟩:=t;rw[ZF];rfl
theorem e1w(t:Tm):(decide (0+List.length [Sh.sl 1]<=List.length (List.drop 2 (List.drop 4 (PV.cells (enc t)))))&&Yk (List.drop 2 (List.drop 4 (PV.cells (enc t)))) 0 [Sh.sl 1])=true:=by obtain⟨n,ks⟩:=t;rw[ZF];rfl
theorem e1i(t:Tm):PV.asXs (List.getD (List.drop 2 (List.drop 4 (PV.cells (enc t)))) 0 default)=t.nd.data.map enc:=by obtain⟨n,ks⟩:=t;rw[ZF];rfl
theorem e1e(t:Tm):(decide (0+List.length [Sh.sl 1]<=List.length (List.drop 1 (List.drop 4 (PV.cells (enc t)))))&&Yk (List.drop 1 (List.drop 4 (PV.cells (enc t)))) 0 [Sh.sl 1])=true:=by obtain⟨n,ks⟩:=t;rw[ZF];rfl
theorem e1q(t:Tm):PV.asXs (List.getD (List.drop 1 (List.drop 4 (PV.cells (enc t)))) 0 default)=t.nd.dims.map enc:=by obtain⟨n,ks⟩:=t;rw[ZF];rfl
theorem zs7(t:Tm):(decide (0+List.length [Sh.sl 2]<=List.length (List.drop 7 (PV.cells (enc t))))&&Yk (List.drop 7 (PV.cells (enc t))) 0 [Sh.sl 2])=true:=by obtain⟨n,ks⟩:=t;rw[ZF];rfl
theorem zv7(t:Tm):PV.asXs (List.getD (List.drop 7 (PV.cells (enc t))) 0 default)=t.nd.sizes.map enc:=by obtain⟨n,ks⟩:=t;rw[ZF];rfl
theorem zs8(t:Tm):(decide (0+List.length [Sh.sl 1]<=List.length (List.drop 8 (PV.cells (enc t))))&&Yk (List.drop 8 (PV.cells (enc t))) 0 [Sh.sl 1])=true:=by obtain⟨n,ks⟩:=t;rw[ZF];rfl
theorem zv8(t:Tm):PV.asXs (List.getD (List.drop 8 (PV.cells (enc t))) 0 default)=t.nd.ranks.map enc:=by obtain⟨n,ks⟩:=t;rw[ZF];rfl
theorem e1o(l:Lin):(decide (0+List.length [Sh.sl 2]<=List.length (List.drop 1 (PV.cells (enc l))))&&Yk (List.drop 1 (PV.cells (enc l))) 0 [Sh.sl 2])=true:=rfl
theorem e1u(l:Lin):PV.asXs (List.getD (List.drop 1 (PV.cells (enc l))) 0 default)=l.t.map enc:=rfl
theorem c5a(n:Nd)(ks:List Tm)(m:Int)(o:List Tm)(G:PV->Prop){i:Nat}(hlt:i<o.length)(hs:o[i].nd.sizes.length<=1048576)(hf:(o[i].nd.sizes.all fun l=>decide (l.t.length<=6))=false->G (.bool false))
  (hk:(o[i].nd.sizes.all fun l=>decide (l.t.length<=6))=true->At Vx 0 (Zb Wu G) WP 0 91 [(5,.pv (enc o)),(6,.pv (.int .i64 (IntKind.i64.wrap ((i:Int)+1))))] []) : ∀ (d j:Nat),d+j=o[i].nd.sizes.length->(∀ q (hq:q<o[i].nd.sizes.length),q<j->(o[i].nd.sizes[q]).t.length<=6) ->
  At Vx 0 (Zb Wu G) WP 1 91 [(5,.pv (enc o)),(6,.pv (.int .i64 i)),(7,.pv (.int .i64 j))] []:=by
 intro d
 induction d with
 | zero=>
  intro j hj hq
  refine a4l n ks m i j o ⟨ZB hlt rfl,ZQ hlt ⟨zs7 _,?_⟩⟩
  rw[zv7,List.length_map]
  refine YW (Vk (by omega)) (hk ?_)
  rw[List.all_eq_true]
  intro l hl
  obtain⟨q,hq2,rfl⟩:=List.getElem_of_mem hl
  exact decide_eq_true (hq q hq2 (by omega))
 | succ d ih=>
  intro j hj hq
  have hjl:j<o[i].nd.sizes.length:=by omega
  have eg:List.getD (o[i].nd.sizes.map (enc:Lin->PV)) (Int.toNat (j:Int)) default=enc o[i].nd.sizes[j]:=by rw[Int.toNat_natCast];simp[List.getD,hjl]
  refine a4l n ks m i j o ⟨ZB hlt rfl,ZQ hlt ⟨zs7 _,?_⟩⟩
  rw[zv7]
  refine YB (XJ hjl) ⟨ZB hlt rfl,ZQ hlt ⟨zs7 _,?_⟩⟩
  rw[zv7,eg,e1u]
  refine⟨by rw[List.length_map];simp;omega,e1o _,Y3 (fun h=> ?_) fun h=> ?_⟩
  ·refine hf ?_
   rw[List.length_map]at h
   rw[List.all_eq_false]
   exact⟨_,List.getElem_mem hjl,by simp;omega⟩
  ·rw[List.length_map]at h
   rw[next (by omega)]
   refine ih (j+1) (by omega) fun q hq2 hqj=> ?_
   by_cases e:q=j
   ·subst e;omega
   ·exact hq q hq2 (by omega)
theorem c7o{t x:Tm}(h:tW t=true)(hx:x∈Xq t):tW x=true:=by
 unfold Xq at hx
 obtain⟨p,hp,rfl⟩:=List.mem_map.1 hx
 exact BB h hp
theorem Ke{t:Tm}(h : ¬ (t.nd.name.s.length<=40∧t.nd.data.length<=30∧t.nd.dims.length<=8∧t.nd.sizes.length<=6∧t.nd.ranks.length<=10)):AY t=false:=by
 rw[Bool.eq_false_iff]
 intro k
 unfold AY at k
 simp only[Bool.and_eq_true,decide_eq_true_eq]at k
 exact h ⟨k.1.1.1.1.1,k.1.1.1.1.2,k.1.1.1.2,k.1.1.2,k.1.2⟩
theorem b8u{t:Tm}(h1:t.nd.name.s.length<=40)(h2:t.nd.data.length<=30)(h3:t.nd.dims.length<=8)(h4:t.nd.sizes.length<=6)(h5:t.nd.ranks.length<=10):AY t=t.nd.sizes.all fun l=>decide (l.t.length<=6):=by
 unfold AY
 rw[decide_eq_true h1,decide_eq_true h2,decide_eq_true h3,decide_eq_true h4,decide_eq_true h5];simp
theorem a7s(n:Nd)(ks:List Tm)(m:Int)(o:List Tm)(hw : ∀ x∈o,tW x=true)(hl:o.length<=1048576)(G:PV->Prop)(hG:G (.bool (o.all AY))): ∀ (d i:Nat),d+i=o.length->(∀ q (hq:q<o.length),q<i->AY o[q]=true) ->
  At Vx 0 (Zb Wu G) WP 0 91 [(5,.pv (enc o)),(6,.pv (.int .i64 i))] []:=by
 intro d
 induction d with
 | zero=>
  intro i hi hq
  have e:o.all AY=true:=by
   rw[List.all_eq_true]
   intro x hx
   obtain⟨q,hq2,rfl⟩:=List.getElem_of_mem hx
   exact hq q hq2 (by omega)
  rw[e]at hG
  exact a2h n ks m i o (YW (X6 (by omega)) hG)
 | succ d ih=>
  intro i hi hq
  have hlt:i<o.length:=by omega
  have hno:AY o[i]=false->G (.bool false):=fun h=>by
   have e:o.all AY=false:=by rw[List.all_eq_false];exact⟨_,List.getElem_mem hlt,by rw[h];simp⟩
   rw[e]at hG
   exact hG
  refine a2h n ks m i o (YB (XJ hlt) ⟨ZB hlt rfl,ZQ hlt ⟨zs2 _,?_⟩⟩)
  rw[zv2]
  refine Y3 (fun h=>hno (Ke fun k=>by omega)) fun h1=>⟨ZB hlt rfl,ZQ hlt ⟨e1w _,?_⟩⟩
  rw[e1i,List.length_map]
  refine Y3 (fun h=>hno (Ke fun k=>by omega)) fun h2=>⟨ZB hlt rfl,ZQ hlt ⟨e1e _,?_⟩⟩
  rw[e1q,List.length_map]
  refine Y3 (fun h=>hno (Ke fun k=>by omega)) fun h3=>⟨ZB hlt rfl,ZQ hlt ⟨zs7 _,?_⟩⟩
  rw[zv7,List.length_map]
  refine Y3 (fun h=>hno (Ke fun k=>by omega)) fun h4=>⟨ZB hlt rfl,ZQ hlt ⟨zs8 _,?_⟩⟩
  rw[zv8,List.length_map]
  refine Y3 (fun h=>hno (Ke fun k=>by omega)) fun h5=> ?_
  have ef:=b8u (t:=o[i]) (by omega) (by omega) (by omega) (by omega) (by omega)
  refine c5a n ks m o G hlt (by omega) (fun h=>hno (by rw[ef];exact h)) (fun h=> ?_) o[i].nd.sizes.length 0 (by omega) fun q hq hq2=>by omega
  rw[next (by omega)]
  refine ih (i+1) (by omega) fun q hq2 hqi=> ?_
  by_cases e:q=i
  ·subst e;rw[ef];exact h
  ·exact hq q hq2 (by omega)
theorem b2w: ∀ x:Tm×Int×Unit,tW x.1=true->Zc Vx 0 (Zb Wu (Zm (KI x.1 x.2.1))) WP [] (ZJ c2g (encL x)):=by
 rintro⟨⟨n,ks⟩,m,⟨⟩⟩ h
 have h:tW (.mk n ks)=true:=h
 have ea:Hg n ks++[.int .i64 m]=encL ((.mk n ks,m,()):Tm×Int×Unit):=by rw[Yc];rfl
 rw[<- ea]
 show Zc Vx 0 (Zb Wu (Zm (KI (.mk n ks) m))) _ _ _
 refine d1d n ks m ⟨Ze (.mk n ks,()) (Yc n ks) h,Zd (.mk n ks,()) (Yc n ks) (Y3 (fun h1=>Zp ?_) fun h1=>⟨Ze (.mk n ks,()) (Yc n ks) h,Zd (.mk n ks,()) (Yc n ks) (Y3 (fun h2=>Zp ?_) fun h2=>⟨Ze (.mk n ks,()) (Yc n ks) h,Zd (.mk n ks,()) (Yc n ks) ?_⟩)⟩)⟩
 ·have h1:((Zu (.mk n ks):Nat):Int)>12:=h1
  unfold KI
  rw[decide_eq_false (by omega)];rfl
 ·have h2:((Zk (.mk n ks):Nat):Int)>m:=h2
  unfold KI
  rw[decide_eq_false (show ¬ ((Zk (.mk n ks):Nat):Int)<=m by omega),Bool.and_false];rfl
 ·have h1 : ¬ ((Zu (.mk n ks):Nat):Int)>12:=h1
  have h2 : ¬ ((Zk (.mk n ks):Nat):Int)>m:=h2
  have e:KI (.mk n ks) m=(Xq (.mk n ks)).all AY:=by
   unfold KI
   rw[decide_eq_true (by omega),decide_eq_true (show((Zk (.mk n ks):Nat):Int)<=m by omega)];simp
  refine a7s n ks m (Xq (.mk n ks)) (fun x hx=>c7o h hx) (by rw[Ho];exact Ur h) _ (Zp e.symm) (Xq (.mk n ks)).length 0 (by omega) fun q hq hq2=>by omega
theorem EX: ∀ x:UInt8×Unit,(fun _:UInt8×Unit=>true) x=true->Zc Aa 0 (Zb DK (Zm (lowB x.1))) Dv [] (ZJ a5h (encL x)):=by
 rintro⟨c,⟨⟩⟩ _
 refine b3u c (CF (fun h=>Zp ?_) fun h=>Zp ?_)
 ·have h:(97:Int)<=c.toNat:=by simpa using h
  have h1:(97:UInt8)<=c:=by rw[UInt8.le_iff_toNat_le];exact Int.ofNat_le.1 h
  unfold lowB
  rw[decide_eq_true h1,Bool.true_and]
  exact decide_eq_decide.2 ⟨fun h=>UInt8.le_iff_toNat_le.2 (Int.ofNat_le.1 h),fun h=>Int.ofNat_le.2 (UInt8.le_iff_toNat_le.1 h)⟩
 ·have h : ¬ (97:Int)<=c.toNat:=by simpa using h
  have h1 : ¬ (97:UInt8)<=c:=by rw[UInt8.le_iff_toNat_le];exact fun k=>h (Int.ofNat_le.2 k)
  unfold lowB
  rw[decide_eq_false h1]
  rfl
theorem O3: ∀ x:UInt8×Unit,(fun _:UInt8×Unit=>true) x=true->Zc Sl 0 (Zb GK (Zm (digB x.1))) DY [] (ZJ a6n (encL x)):=by
 rintro⟨c,⟨⟩⟩ _
 refine b2j c (CF (fun h=>Zp ?_) fun h=>Zp ?_)
 ·have h:(48:Int)<=c.toNat:=by simpa using h
  have h1:(48:UInt8)<=c:=by rw[UInt8.le_iff_toNat_le];exact Int.ofNat_le.1 h
  unfold digB
  rw[decide_eq_true h1,Bool.true_and]
  exact decide_eq_decide.2 ⟨fun h=>UInt8.le_iff_toNat_le.2 (Int.ofNat_le.1 h),fun h=>Int.ofNat_le.2 (UInt8.le_iff_toNat_le.1 h)⟩
 ·have h : ¬ (48:Int)<=c.toNat:=by simpa using h
  have h1 : ¬ (48:UInt8)<=c:=by rw[UInt8.le_iff_toNat_le];exact fun k=>h (Int.ofNat_le.2 k)
  unfold digB
  rw[decide_eq_false h1]
  rfl
theorem b4k: ∀ x:Str×Unit,(fun _:Str×Unit=>true) x=true->Zc OD 0 (Zb Pd (Zm (Uo.contains x.1.s))) CZ [] (ZJ c3q (encL x)):=by
 rintro⟨⟨s⟩,⟨⟩⟩ _
 refine d3v s ?_
 iterate 14 (refine YO (fun h=>Zp (by subst h;rfl)) fun h=> ?_)
 refine Zp ?_
 show false=Uo.contains s
 rw[eq_comm,<- Bool.not_eq_true,List.contains_iff_mem]
 simp only[Uo,List.mem_cons,List.not_mem_nil,or_false,not_or]
 refine⟨?_,?_,?_,?_,?_,?_,?_,?_,?_,?_,?_,?_,?_,?_⟩ <;> assumption
theorem c0u{c:UInt8}{F:UInt8->Bool}{ps:List PV}{P:Bool->Prop}(e:ps=encL (c,()))(h:P (F c)):preT (fun x:UInt8×Unit=>true) ps=true∧ ∃ y:Bool,AV.pv (Zi (fun x:UInt8×Unit=>F x.1) ps)=AV.pv (enc y)∧P y:=⟨Ze (c,()) e rfl,Zd (c,()) e h⟩
theorem Ey(s:List UInt8)(hl:s.length<=1048576)(h1:1<=s.length)(R:Bool): ∀ (d i:Nat),d+i=s.length->1<=i->R=((s.drop i).all Ob&&(decide (s.length<=30)&& !Uo.contains s)) ->
  At VC 0 (Zb WG (Zm R)) WI 0 39 [(0,.pv (.str s)),(3,.pv (.int .i64 i))] []:=by
 intro d
 induction d with
 | zero=>
  intro i hi h0 hR
  rw[List.drop_eq_nil_of_le (by omega),List.all_nil,Bool.true_and]at hR
  refine GH s i (YW (Vk (by omega)) (YB (decide_eq_true (by omega)) (Y3 (fun h=>Zd (⟨s⟩,()) rfl (Zp ?_)) fun h=>Zp ?_)))
  ·rw[hR,decide_eq_true (show s.length<=30 by omega)];rfl
  ·rw[hR,decide_eq_false (show ¬ s.length<=30 by omega)];rfl
 | succ d ih=>
  intro i hi h0 hR
  have hlt:i<s.length:=by omega
  have hix:(decide (0<=(i:Int))&&decide (Int.toNat (i:Int)<List.length s))=true:=by simp[hlt]
  rw[List.drop_eq_getElem_cons hlt,List.all_cons]at hR
  have k:=fun h=>ih (i+1) (by omega) (by omega) h
  refine GH s i (YB (Vf hlt) ⟨hix,c0u (Au hlt) (W9 (fun hs=>YW (by simp;omega) ⟨hix,c0u (Au hlt) (W9 (fun hd=>Zp ?_) fun hd=> ?_)⟩) fun hs=> ?_)⟩)
  ·rw[hR];unfold Ob;rw[hs,hd];rfl
  ·rw[next (by omega)]
   exact k (by rw[hR];unfold Ob;rw[hd];rfl)
  ·rw[next (by omega)]
   exact k (by rw[hR];unfold Ob;rw[hs,Bool.or_true,Bool.true_and])
theorem a6u: ∀ x:Str×Unit,decide (x.1.s.length<=1048576)=true->Zc VC 0 (Zb WG (Zm (Yp x.1.s))) WI [] (ZJ b4q (encL x)):=by
 rintro⟨⟨s⟩,⟨⟩⟩ h
 have hl:s.length<=1048576:=of_decide_eq_true h
 refine c6t s ?_
 show At VC 0 (Zb WG (Zm (Yp s))) WI 0 39 [(0,.pv (.str s)),(3,.pv (.int .i64 ((0:Nat):Int)))] []
 cases s with
 | nil=>exact GH [] 0 (YW (by simp) (YW (by simp) (Zp rfl)))
 | cons c r=>
  have hlt:0<(c::r).length:=by simp
  have hix:(decide (0<=((0:Nat):Int))&&decide (Int.toNat ((0:Nat):Int)<List.length (c::r)))=true:=by simp
  refine GH (c::r) (0:Nat) (YB (Vf hlt) ⟨hix,c0u (Au hlt) (W9 (fun hs=>YB (by simp) (Zp ?_)) fun hs=> ?_)⟩)
  ·have hs:lowB c=false:=hs
   show false=(lowB c&&r.all Ob&&decide (r.length<=29)&& !Uo.contains (c::r))
   rw[hs];rfl
  ·have hs:lowB c=true:=hs
   rw[next (by omega)]
   refine Ey (c::r) hl (by simp) _ r.length 1 (by rw[List.length_cons]) (by omega) ?_
   show(lowB c&&r.all Ob&&decide (r.length<=29)&& !Uo.contains (c::r))=(r.all Ob&&(decide (r.length+1<=30)&& !Uo.contains (c::r)))
   rw[hs,Bool.true_and,Bool.and_assoc,show decide (r.length<=29)=decide (r.length+1<=30)from decide_eq_decide.2 (by omega)]
theorem MP{s:List UInt8}{P:Bool->Prop}(h0:s.length<=1048576)(h:P (Yp s)):preT (fun x:Str×Unit=>decide (x.1.s.length<=1048576)) [.str s]=true∧ ∃ y:Bool,AV.pv (Zi (fun x:Str×Unit=>Yp x.1.s) [.str s])=AV.pv (enc y)∧P y:=⟨Ze (⟨s⟩,()) rfl (decide_eq_true h0),Zd (⟨s⟩,()) rfl h⟩
theorem d8i{s:List UInt8}{P:Bool->Prop}(h0:s.length<=1048576)(h:P (fullI s)):preT (fun x:Str×Unit=>decide (x.1.s.length<=1048576)) [.str s]=true∧ ∃ y:Bool,AV.pv (Zi (fun x:Str×Unit=>fullI x.1.s) [.str s])=AV.pv (enc y)∧P y:=⟨Ze (⟨s⟩,()) rfl (decide_eq_true h0),Zd (⟨s⟩,()) rfl h⟩
theorem b8t{s:List UInt8}{P:Bool->Prop}(h0:s.length<=1048576)(h:P (SA s)):preT (fun x:Str×Unit=>decide (x.1.s.length<=1048576)) [.str s]=true∧ ∃ y:Bool,AV.pv (Zi (fun x:Str×Unit=>SA x.1.s) [.str s])=AV.pv (enc y)∧P y:=⟨Ze (⟨s⟩,()) rfl (decide_eq_true h0),Zd (⟨s⟩,()) rfl h⟩
theorem e1n{s:List UInt8}{i:Nat}(h:i<s.length)(ha : ∀ x∈s.take i,(x != 46)=true)(hb:s[i]=46):fullI s=(Yp (s.take i)&&Yp (s.drop (i+1))):=by
 have e:s=s.take i++s[i]::s.drop (i+1):=by rw[<- List.drop_eq_getElem_cons h,List.take_append_drop]
 have e1:(s.takeWhile fun c=>c != 46)=s.take i:=by
  have h2:((s.take i++s[i]::s.drop (i+1)).takeWhile fun c=>c != 46)=s.take i:=by
   rw[List.takeWhile_append_of_pos ha,hb,List.takeWhile_cons,if_neg (by decide),List.append_nil]
  rw[<- e]at h2
  exact h2
 have e2:(s.dropWhile fun c=>c != 46)=s[i]::s.drop (i+1):=by
  have h2:((s.take i++s[i]::s.drop (i+1)).dropWhile fun c=>c != 46)=s[i]::s.drop (i+1):=by
   rw[List.dropWhile_append_of_pos ha,hb,List.dropWhile_cons,if_neg (by decide)]
  rw[<- e]at h2
  exact h2
 unfold fullI
 rw[e1,e2]
theorem e1s{s:List UInt8}(ha : ∀ x∈s,(x != 46)=true):fullI s=false:=by
 have e2:(s.dropWhile fun c=>c != 46)=[]:=by
  have h2:((s++[]).dropWhile fun c=>c != 46)=[]:=by rw[List.dropWhile_append_of_pos ha];rfl
  rwa [List.append_nil]at h2
 unfold fullI
 rw[e2]
theorem Om(s:List UInt8)(hl:s.length<=1048576): ∀ (d i:Nat),d+i=s.length->(∀ x∈s.take i,(x != 46)=true) ->
  At Qs 0 (Zb VZ (Zm (fullI s))) V4 0 25 [(0,.pv (.str s)),(3,.pv (.int .i64 i))] []:=by
 intro d
 induction d with
 | zero=>
  intro i hi ha
  rw[List.take_of_length_le (by omega)]at ha
  exact M4 s i (YW (Vk (by omega)) (Zp (e1s ha).symm))
 | succ d ih=>
  intro i hi ha
  have hlt:i<s.length:=by omega
  have hix:(decide (0<=(i:Int))&&decide (Int.toNat (i:Int)<List.length s))=true:=by simp[hlt]
  have hg:s.getD (Int.toNat (i:Int)) 0=s[i]:=by rw[Int.toNat_natCast,List.getD_eq_getElem?_getD,List.getElem?_eq_getElem hlt];rfl
  refine M4 s i (YB (Vf hlt) ⟨hix,YO (fun h=> ?_) fun h=> ?_⟩)
  ·rw[hg]at h
   have hb:s[i]=46:=UInt8.toNat_inj.1 (by show s[i].toNat=46;omega)
   have e:=e1n hlt ha hb
   rw[Int.toNat_natCast,List.drop_zero,next (by omega),Int.toNat_natCast,List.take_of_length_le (Nat.le_refl s.length)]
   refine⟨by simp;omega,MP (s:=s.take i) (by rw[List.length_take];omega) (XM (fun h1=>⟨by simp;omega,MP (s:=s.drop (i+1)) (by rw[List.length_drop];omega) (Zp ?_)⟩) fun h1=>Zp ?_)⟩
   ·have h1:Yp (s.take i)=true:=h1
    rw[e,h1];rfl
   ·have h1:Yp (s.take i)=false:=h1
    rw[e,h1];rfl
  ·rw[hg]at h
   rw[next (by omega)]
   refine ih (i+1) (by omega) fun x hx=> ?_
   rw[VU hlt,List.mem_append]at hx
   rcases hx with hx|hx
   ·exact ha x hx
   ·rw[List.mem_singleton]at hx
    subst hx
    have:s[i]≠46:=fun e=>h (by rw[e];rfl)
    simpa using this
theorem a5r: ∀ x:Str×Unit,decide (x.1.s.length<=1048576)=true->Zc Qs 0 (Zb VZ (Zm (fullI x.1.s))) V4 [] (ZJ b0d (encL x)):=by
 rintro⟨⟨s⟩,⟨⟩⟩ h
 exact c5j s (Om s (of_decide_eq_true h) s.length 0 (by omega) (by simp))
theorem b0l: ∀ x:Str×Unit,decide (x.1.s.length<=1048576)=true->Zc Og 0 (Zb Ns (Zm (SA x.1.s))) PT [] (ZJ c1v (encL x)):=by
 rintro⟨⟨s⟩,⟨⟩⟩ h
 have hl:s.length<=1048576:=of_decide_eq_true h
 refine d5l s (MP hl (XM (fun h1=>Zp ?_) fun h1=>d8i hl (Zp ?_)))
 ·have h1:Yp s=true:=h1
  show true=(Yp s||fullI s)
  rw[h1];rfl
 ·have h1:Yp s=false:=h1
  show fullI s=(Yp s||fullI s)
  rw[h1];rfl
theorem e2f{n:Nat}:((n:Int)==0)=decide (n=0):=by rw[Bool.eq_iff_iff];simp
theorem EW: ∀ x:Tm×Bool×Bool×Bool×Bool×Bool×Unit,tW x.1=true->Zc Sn 0 (Zb Qj (Zm (Z6 x.1.nd x.2.1 x.2.2.1 x.2.2.2.1 x.2.2.2.2.1 x.2.2.2.2.2.1))) DN [] (ZJ a5j (encL x)):=by
 rintro⟨⟨n,ks⟩,a,b,c,d,e,⟨⟩⟩ hw
 have hB:=NC hw
 have h1:=hB.dims
 have h2:=hB.data
 rw[<- Pi]
 have hb:Z6 n a b c d e=((a||decide (n.name.s=[]))&&(b||decide (n.num=0))&&(c||(decide (n.elem.s=[])&&decide (n.dims.length+n.data.length=0)))&&(d||decide (n.sizes.length=0))&&(e||decide (n.ranks.length=0))):=rfl
 show Zc _ 0 (Zb Qj (Zm (Z6 n a b c d e))) _ _ _
 rw[hb]
 have hb:Z6 n a b c d e=((a||decide (n.name.s=[]))&&(b||decide (n.num=0))&&(c||(decide (n.elem.s=[])&&decide (n.dims.length+n.data.length=0)))&&(d||decide (n.sizes.length=0))&&(e||decide (n.ranks.length=0))):=rfl
 show Zc _ 0 (Zb Qj (Zm (Z6 n a b c d e))) _ _ _
 rw[hb]
 refine b1f n ks a b c d e ?_
 simp only[List.length_map,LG (show n.dims.length+n.data.length<=4611686018427387904 by omega),e2f]
 generalize decide (n.dims.length+n.data.length=0)=X
 generalize decide (n.sizes.length=0)=Y
 generalize decide (n.ranks.length=0)=Z
 clear hb h1 h2 hB hw
 repeat' (first|refine YO (fun _=> ?_) fun _=> ?_|refine XM (fun _=> ?_) fun _=> ?_|refine Zp ?_)
 all_goals simp_all
theorem a7y(l:List Lin)(hl:l.length<=1048576)(ho : ∀ x∈l,ZR x=true)(R:Bool): ∀ (d i:Nat),d+i=l.length->R=(l.drop i).all ZH ->
  At JA 0 (Zb QD (Zm R)) QS 0 16 [(0,.pv (enc l)),(3,.pv (.int .i64 i))] []:=by
 intro d
 induction d with
 | zero=>
  intro i hi hR
  rw[List.drop_eq_nil_of_le (by omega)]at hR
  exact a4k l i (YW (X6 (by omega)) (Zp hR.symm))
 | succ d ih=>
  intro i hi hR
  have hlt:i<l.length:=by omega
  rw[List.drop_eq_getElem_cons hlt,List.all_cons]at hR
  refine a4k l i (YB (XJ hlt) ⟨ZB hlt rfl,ZQ hlt ⟨Ze (l[i],()) rfl (ho _ (List.getElem_mem hlt)),Zd (l[i],()) rfl (W9 (fun h=>Zp ?_) fun h=> ?_)⟩⟩)
  ·have h:ZH l[i]=false:=h
   rw[hR,h];rfl
  ·have h:ZH l[i]=true:=h
   rw[next (by omega)]
   exact ih (i+1) (by omega) (by rw[hR,h];rfl)
theorem b3i: ∀ x:List Lin×Unit,(decide (x.1.length<=1048576)&&x.1.all ZR)=true->Zc JA 0 (Zb QD (Zm (x.1.all ZH))) QS [] (ZJ c2w (encL x)):=by
 rintro⟨l,⟨⟩⟩ h
 simp only[Bool.and_eq_true,decide_eq_true_eq,List.all_eq_true]at h
 exact d0g l (a7y l h.1 h.2 _ l.length 0 (by omega) rfl)
theorem VP(n:Nd):Su n=(decide (n.elem.s=[])&&decide (n.dims.length+n.data.length=0)):=by
 unfold Su
 have e1:decide (n.elem=⟨[]⟩)=decide (n.elem.s=[]):=decide_eq_decide.2 ⟨fun h=>by rw[h],fun h=>by cases hn:n.elem;rw[hn]at h;simp only at h;rw[h]⟩
 rw[e1,Bool.and_assoc]
 congr 1
 cases n.dims <;> cases n.data <;> simp
theorem QQ(n:Nd):decide (n.name=⟨[]⟩)=decide (n.name.s=[]):=decide_eq_decide.2 ⟨fun h=>by rw[h],fun h=>by cases hn:n.name;rw[hn]at h;simp only at h;rw[h]⟩
theorem Ve{α:Type}(l:List α):l.isEmpty=decide (l.length=0):=by cases l <;> simp
theorem VN(n:Nd):BJ n=(decide (n.sizes.length=0)&&decide (n.ranks.length=0)):=by unfold BJ;rw[Ve,Ve]
def Jk(n:Nd):Bool:=(decide (n.name.s=UY)&&decide (n.num ≥ -2147483648)&&decide (n.num<=2147483647))||(decide (n.name.s=X8)&&(decide (n.num=0)||decide (n.num=1)))
theorem VL(n:Nd):J6 n=Jk n:=by
 unfold J6 Jk
 rw[show decide (n.num<=2147483647)=decide (n.num<2147483648)from decide_eq_decide.2 (by omega)]
 by_cases h:n.name.s=X8
 ·rw[if_pos h,h]
  simp[UY,X8]
 ·rw[if_neg h,decide_eq_false h]
  simp
theorem lQ1{n:Nd}(h1:n.name.s=[105,110,116])(h2:n.num ≥ -2147483648)(h3:n.num<=2147483647):Jk n=true:=by unfold Jk;rw[decide_eq_true (show n.name.s=UY from h1),decide_eq_true h2,decide_eq_true h3];rfl
theorem lQ2{n:Nd}(h1:n.name.s=[98,111,111,108])(h2:n.num=0):Jk n=true:=by unfold Jk;rw[decide_eq_true (show n.name.s=X8 from h1),decide_eq_true h2];simp
theorem lQ3{n:Nd}(h1:n.name.s=[98,111,111,108])(h2:n.num=1):Jk n=true:=by unfold Jk;rw[decide_eq_true (show n.name.s=X8 from h1),decide_eq_true h2];simp
theorem lQ0{n:Nd}(h1 : ¬ (n.name.s=[105,110,116]∧n.num ≥ -2147483648∧n.num<=2147483647))(h2:n.name.s=[98,111,111,108]->n.num≠0∧n.num≠1):Jk n=false:=by
 rw[<- Bool.not_eq_true]
 intro h
 unfold Jk at h
 simp only[Bool.or_eq_true,Bool.and_eq_true,decide_eq_true_eq]at h
 rcases h with h|h
 ·exact h1 ⟨h.1.1,h.1.2,h.2⟩
 ·have:=h2 h.1
  rcases h.2 with h|h
  ·exact this.1 h
  ·exact this.2 h
theorem kB1{n:Nd}{k:Nat}(h:n.kind=1):XK n k=(decide (k=0)&&Yp n.name.s&&Z6 n true false false false false):=by
 unfold XK Z6
 simp only[h,VP,QQ,VN,Ve,VL,Bool.true_or,Bool.false_or,Bool.true_and,Bool.and_true,if_true,if_false,Int.reduceEq]
 ac_rfl
theorem kB2{n:Nd}{k:Nat}(h:n.kind=2):XK n k=(decide (k=0)&&Jk n&&Z6 n true true false false false):=by
 unfold XK Z6
 simp only[h,VP,QQ,VN,Ve,VL,Bool.true_or,Bool.false_or,Bool.true_and,Bool.and_true,if_true,if_false,Int.reduceEq]
 ac_rfl
theorem kB3{n:Nd}{k:Nat}(h:n.kind=3):XK n k=(decide (k=0)&&CQ (CP n)&&Z6 n false false true false false):=by
 unfold XK Z6
 simp only[h,VP,QQ,VN,Ve,VL,Bool.true_or,Bool.false_or,Bool.true_and,Bool.and_true,if_true,if_false,Int.reduceEq]
 ac_rfl
theorem kB4{n:Nd}{k:Nat}(h:n.kind=4):XK n k=(decide (k=0)&&decide (n.sizes.length=1)&&n.sizes.all ZH&&Z6 n false false false true false):=by
 unfold XK Z6
 simp only[h,VP,QQ,VN,Ve,VL,Bool.true_or,Bool.false_or,Bool.true_and,Bool.and_true,if_true,if_false,Int.reduceEq]
 ac_rfl
theorem kB5{n:Nd}{k:Nat}(h:n.kind=5):XK n k=(decide (k=2)&&Yp n.name.s&&Z6 n true false false false false):=by
 unfold XK Z6
 simp only[h,VP,QQ,VN,Ve,VL,Bool.true_or,Bool.false_or,Bool.true_and,Bool.and_true,if_true,if_false,Int.reduceEq]
 ac_rfl
theorem kB6{n:Nd}{k:Nat}(h:n.kind=6):XK n k=(X9 n k&&Z6 n true true false true true):=by
 unfold XK Z6
 simp only[h,VP,QQ,VN,Ve,VL,Bool.true_or,Bool.false_or,Bool.true_and,Bool.and_true,if_true,if_false,Int.reduceEq]
 ac_rfl
theorem kB7{n:Nd}{k:Nat}(h:n.kind=7):XK n k=(decide (1<=k)&&decide (k<=16)&&Z6 n false false false false false):=by
 unfold XK Z6
 simp only[h,VP,QQ,VN,Ve,VL,Bool.true_or,Bool.false_or,Bool.true_and,Bool.and_true,if_true,if_false,Int.reduceEq]
 ac_rfl
theorem kB8{n:Nd}{k:Nat}(h:n.kind=8):XK n k=(decide (k=2)&&SA n.name.s&&Z6 n true false false false false):=by
 unfold XK Z6
 simp only[h,VP,QQ,VN,Ve,VL,Bool.true_or,Bool.false_or,Bool.true_and,Bool.and_true,if_true,if_false,Int.reduceEq]
 ac_rfl
theorem kB9{n:Nd}{k:Nat}(h:n.kind=9):XK n k=(decide (k=1)&&SA n.name.s&&Z6 n true false false false false):=by
 unfold XK Z6
 simp only[h,VP,QQ,VN,Ve,VL,Bool.true_or,Bool.false_or,Bool.true_and,Bool.and_true,if_true,if_false,Int.reduceEq]
 ac_rfl
theorem kB0{n:Nd}{k:Nat}(h1:n.kind≠1)(h2:n.kind≠2)(h3:n.kind≠3)(h4:n.kind≠4)(h5:n.kind≠5)(h6:n.kind≠6)(h7:n.kind≠7)(h8:n.kind≠8)(h9:n.kind≠9):XK n k=false:=by
 unfold XK
 rw[if_neg h1,if_neg h2,if_neg h3,if_neg h4,if_neg h5,if_neg h6,if_neg h7,if_neg h8,if_neg h9]
theorem NQ{α:Type}[Enc α]{l:List α}{c:Int}{P Q:Prop}(h1:(l.length:Int)=c->P)(h2:(l.length:Int)≠c->Q):if ((↑(List.length (List.map (enc:α->PV) l)):Int)==c)=true then P else Q:=by
 rw[List.length_map];exact YO h1 h2
theorem HV{n:Nd}{ks:List Tm}{a b c d e:Bool}{P:Bool->Prop}(hw:tW (.mk n ks)=true)(h:P (Z6 n a b c d e)):preT (fun x:Tm×Bool×Bool×Bool×Bool×Bool×Unit=>tW x.1) (QJ n ks a b c d e)=true∧ ∃ y:Bool,AV.pv (Zi (fun x:Tm×Bool×Bool×Bool×Bool×Bool×Unit=>Z6 x.1.nd x.2.1 x.2.2.1 x.2.2.2.1 x.2.2.2.2.1 x.2.2.2.2.2.1) (QJ n ks a b c d e))=AV.pv (enc y)∧P y:=
 ⟨Ze (Tm.mk n ks,a,b,c,d,e,()) (Pi n ks a b c d e) hw,Zd (Tm.mk n ks,a,b,c,d,e,()) (Pi n ks a b c d e) h⟩
theorem b2e{l:List Lin}{P:Bool->Prop}(h0:l.length<=1048576)(h1 : ∀ x∈l,ZR x=true)(h:P (l.all ZH)):preT (fun x:List Lin×Unit=>decide (x.1.length<=1048576)&&x.1.all ZR) [.sl 2 false (l.map enc)]=true∧ ∃ y:Bool,AV.pv (Zi (fun x:List Lin×Unit=>x.1.all ZH) [.sl 2 false (l.map enc)])=AV.pv (enc y)∧P y:=
 ⟨Ze (l,()) rfl (by show(decide (l.length<=1048576)&&l.all ZR)=true;rw[decide_eq_true h0,List.all_eq_true.2 h1];rfl),Zd (l,()) rfl h⟩
theorem d8f{n:Nd}{P:Bool->Prop}(h0:CE (CP n)=true)(h:P (CQ (CP n))):preT (fun x:Arr×Unit=>CE x.1) [.agg [.str n.elem.s,.sl 1 false (n.dims.map enc),.sl 1 false (n.data.map enc)]]=true∧ ∃ y:Bool,AV.pv (Zi (fun x:Arr×Unit=>CQ x.1) [.agg [.str n.elem.s,.sl 1 false (n.dims.map enc),.sl 1 false (n.data.map enc)]])=AV.pv (enc y)∧P y:=
 ⟨Ze (CP n,()) rfl h0,Zd (CP n,()) rfl h⟩
theorem a0p(n:Nd)(ks:List Tm)(hw:tW (.mk n ks)=true)(R:Bool): ∀ (d i:Nat),d+i=n.ranks.length->R=(UL (n.ranks.drop i)&&SA n.name.s&&Z6 n true true false true true) ->
  At VK 0 (Zb Wi (Zm R)) WW 0 221 [(1,.ptr 0 0),(5,.pv (.int .i64 i))] [.obj (.box (ZY n ks))]:=by
 have hB:=NC hw
 have hr:=hB.ranks
 have hnm:=hB.name
 intro d
 induction d with
 | zero=>
  intro i hi hR
  rw[List.drop_eq_nil_of_le (by omega)]at hR
  have hR:R=(SA n.name.s&&Z6 n true true false true true):=hR
  refine FT n ks i (YW (X6 (by omega)) (b8t hnm (XM (fun h=>HV hw (Zp ?_)) fun h=>Zp ?_)))
  ·rw[hR,h];rfl
  ·rw[hR,h];rfl
 | succ d ih=>
  intro i hi hR
  have hlt:i<n.ranks.length:=by omega
  rw[List.drop_eq_getElem_cons hlt]at hR
  have hc:UL (n.ranks[i]::n.ranks.drop (i+1))=((decide (0<=n.ranks[i])&&decide (n.ranks[i]<=6))&&UL (n.ranks.drop (i+1))):=rfl
  rw[hc]at hR
  refine FT n ks i (YB (XJ hlt) ⟨ZB hlt rfl,ZQ hlt (Y3 (fun h=>Zp ?_) fun h=>⟨ZB hlt rfl,ZQ hlt (Y3 (fun h2=>Zp ?_) fun h2=> ?_)⟩)⟩)
  ·have h:n.ranks[i]<0:=h
   rw[hR,decide_eq_false (by omega)];rfl
  ·have h2:n.ranks[i]>6:=h2
   rw[hR,decide_eq_false (show ¬ n.ranks[i]<=6 by omega),Bool.and_false];rfl
  ·have h : ¬ n.ranks[i]<0:=h
   have h2 : ¬ n.ranks[i]>6:=h2
   rw[next (by omega)]
   exact ih (i+1) (by omega) (by rw[hR,decide_eq_true (by omega),decide_eq_true (show n.ranks[i]<=6 by omega)];rfl)
theorem a9k: ∀ x:Tm×Unit,tW x.1=true->Zc VK 0 (Zb Wi (Zm (Ka x.1))) WW [] (ZJ b9s (encL x)):=by
 rintro⟨⟨n,ks⟩,⟨⟩⟩ hw
 have hB:=NC hw
 have hnm:=hB.name
 have hkl:=(Ym hw).1
 have hlo : ∀ l∈n.sizes,ZR l=true:=fun l hl=>decide_eq_true (by have:=hB.lens l hl;omega)
 rw[<- Yc]
 show Zc _ 0 (Zb Wi (Zm (V8 n ks.length))) _ _ _
 refine c3c n ks (Y3 (fun h=>Zp ?_) fun h1=>Y3 (fun h=>Zp ?_) fun h2=> ?_)
 ·unfold V8;rw[decide_eq_false (by omega)];rfl
 ·unfold V8;rw[decide_eq_false (show ¬ n.line<=10000 by omega),Bool.and_false];rfl
 have hn:V8 n ks.length=XK n ks.length:=by unfold V8;rw[decide_eq_true (by omega),decide_eq_true (by omega)];rfl
 rw[hn]
 refine YO (fun hk=> ?_) fun k1=>YO (fun hk=> ?_) fun k2=>YO (fun hk=> ?_) fun k3=>YO (fun hk=> ?_) fun k4=>YO (fun hk=> ?_) fun k5=>YO (fun hk=> ?_) fun k6=>YO (fun hk=> ?_) fun k7=>YO (fun hk=> ?_) fun k8=>YO (fun hk=> ?_) fun k9=>Zp (kB0 k1 k2 k3 k4 k5 k6 k7 k8 k9).symm
 ·rw[kB1 hk]
  refine NQ (fun h0=>MP hnm (XM (fun hx=>HV hw (Zp ?_)) fun hx=>Zp ?_)) fun h0=>Zp ?_
  ·rw[hx,decide_eq_true (by omega)];rfl
  ·rw[hx,Bool.and_false];rfl
  ·rw[decide_eq_false (by omega)];rfl
 ·rw[kB2 hk]
  have leafT:Jk n=true->(ks.length:Int)=0->Z6 n true true false false false=(decide (ks.length=0)&&Jk n&&Z6 n true true false false false):=fun a b=>by rw[a,decide_eq_true (show ks.length=0 by omega)];rfl
  have leafF:Jk n=false->false=(decide (ks.length=0)&&Jk n&&Z6 n true true false false false):=fun a=>by rw[a,Bool.and_false];rfl
  have leafK:(ks.length:Int)≠0->false=(decide (ks.length=0)&&Jk n&&Z6 n true true false false false):=fun a=>by rw[decide_eq_false (show ¬ ks.length=0 by omega)];rfl
  repeat' (first|refine NQ (fun _=> ?_) fun _=> ?_|refine YO (fun _=> ?_) fun _=> ?_|refine Y3 (fun _=> ?_) fun _=> ?_|refine HV hw (Zp ?_)|refine Zp ?_)
  all_goals first
   | exact leafK ‹_›
   | exact leafT (lQ1 ‹_› ‹_› ‹_›) ‹_›
   | exact leafT (lQ2 ‹_› ‹_›) ‹_›
   | exact leafT (lQ3 ‹_› ‹_›) ‹_›
   | exact leafF (lQ0 (fun h=>by first|exact absurd h.1 ‹_› | exact absurd h.2.1 ‹_› | exact absurd h.2.2 ‹_›) (fun a=>by first|exact absurd a ‹_› | exact⟨‹_›,‹_›⟩))
 ·rw[kB3 hk]
  refine NQ (fun h0=>d8f (c0k hw) (XM (fun hx=>HV hw (Zp ?_)) fun hx=>Zp ?_)) fun h0=>Zp ?_
  ·rw[hx,decide_eq_true (by omega)];rfl
  ·rw[hx,Bool.and_false];rfl
  ·rw[decide_eq_false (by omega)];rfl
 ·rw[kB4 hk]
  refine NQ (fun h0=>NQ (fun h3=>b2e hB.sizes hlo (XM (fun hx=>HV hw (Zp ?_)) fun hx=>Zp ?_)) fun h3=>Zp ?_) fun h0=>Zp ?_
  ·rw[hx,decide_eq_true (show ks.length=0 by omega),decide_eq_true (show n.sizes.length=1 by omega)];rfl
  ·rw[hx,Bool.and_false];rfl
  ·rw[decide_eq_false (show ¬ n.sizes.length=1 by omega),Bool.and_false];rfl
  ·rw[decide_eq_false (show ¬ ks.length=0 by omega)];rfl
 ·rw[kB5 hk]
  refine NQ (fun h0=>MP hnm (XM (fun hx=>HV hw (Zp ?_)) fun hx=>Zp ?_)) fun h0=>Zp ?_
  ·rw[hx,decide_eq_true (by omega)];rfl
  ·rw[hx,Bool.and_false];rfl
  ·rw[decide_eq_false (by omega)];rfl
 ·rw[kB6 hk]
  have hc:X9 n ks.length=(decide (ks.length<=8)&&decide (n.sizes.length<=4)&&n.sizes.all ZH&&decide (0<=n.num)&&decide (n.num<=64)&&(n.ranks.isEmpty||decide (n.ranks.length=ks.length))&&(UL n.ranks&&SA n.name.s)):=by unfold X9;ac_rfl
  rw[hc]
  refine Y3 (fun h3=>Zp ?_) fun h3=>Y3 (fun h4=>Zp ?_) fun h4=>b2e hB.sizes hlo (W9 (fun hx=>Zp ?_) fun hx=>Y3 (fun h5=>Zp ?_) fun h5=>Y3 (fun h6=>Zp ?_) fun h6=> ?_)
  ·rw[List.length_map]at h3
   rw[decide_eq_false (show ¬ ks.length<=8 by omega)];simp
  ·rw[List.length_map]at h4
   rw[decide_eq_false (show ¬ n.sizes.length<=4 by omega)];simp
  ·rw[hx];simp
  ·rw[decide_eq_false (show ¬ 0<=n.num by omega)];simp
  ·rw[decide_eq_false (show ¬ n.num<=64 by omega)];simp
  ·rw[List.length_map]at h3 h4
   have go:(n.ranks.isEmpty||decide (n.ranks.length=ks.length))=true->At VK 0 (Zb Wi (Zm (decide (ks.length<=8)&&decide (n.sizes.length<=4)&&n.sizes.all ZH&&decide (0<=n.num)&&decide (n.num<=64)&&(n.ranks.isEmpty||decide (n.ranks.length=ks.length))&&(UL n.ranks&&SA n.name.s)&&Z6 n true true false true true))) WW 0 221 [(1,.ptr 0 0),(5,.pv (.int .i64 ((0:Nat):Int)))] [.obj (.box (ZY n ks))]:=fun he=>
    a0p n ks hw _ n.ranks.length 0 (by omega) (by rw[he,hx,decide_eq_true (show ks.length<=8 by omega),decide_eq_true (show n.sizes.length<=4 by omega),decide_eq_true (show 0<=n.num by omega),decide_eq_true (show n.num<=64 by omega)];rfl)
   refine d8n (fun h7=>d8n (fun h8=>Zp ?_) fun h8=> ?_) fun h7=> ?_
   ·rw[List.length_map,List.length_map]at h8
    rw[List.length_map]at h7
    rw[Ve,decide_eq_false (show ¬ n.ranks.length=0 by omega),decide_eq_false (show ¬ n.ranks.length=ks.length by omega)];simp
   ·rw[List.length_map,List.length_map]at h8
    exact go (by rw[decide_eq_true (show n.ranks.length=ks.length by omega),Bool.or_true])
   ·rw[List.length_map]at h7
    exact go (by rw[Ve,decide_eq_true (show n.ranks.length=0 by omega),Bool.true_or])
 ·rw[kB7 hk]
  refine Y3 (fun h3=>Y3 (fun h4=>HV hw (Zp ?_)) fun h4=>Zp ?_) fun h3=>Zp ?_
  ·rw[List.length_map]at h3 h4
   rw[decide_eq_true (show 1<=ks.length by omega),decide_eq_true (show ks.length<=16 by omega)];rfl
  ·rw[List.length_map]at h4
   rw[decide_eq_false (show ¬ ks.length<=16 by omega),Bool.and_false];rfl
  ·rw[List.length_map]at h3
   rw[decide_eq_false (show ¬ 1<=ks.length by omega)];rfl
 ·rw[kB8 hk]
  refine NQ (fun h0=>b8t hnm (XM (fun hx=>HV hw (Zp ?_)) fun hx=>Zp ?_)) fun h0=>Zp ?_
  ·rw[hx,decide_eq_true (by omega)];rfl
  ·rw[hx,Bool.and_false];rfl
  ·rw[decide_eq_false (by omega)];rfl
 ·rw[kB9 hk]
  refine NQ (fun h0=>b8t hnm (XM (fun hx=>HV hw (Zp ?_)) fun hx=>Zp ?_)) fun h0=>Zp ?_
  ·rw[hx,decide_eq_true (by omega)];rfl
  ·rw[hx,Bool.and_false];rfl
  ·rw[decide_eq_false (by omega)];rfl
theorem c9p{n:Nd}{ks:List Tm}{β:Type}[Enc β]{F:Tm->β}{P:β->Prop}(hw:tW (.mk n ks)=true)(h:P (F (.mk n ks))):preT (fun x:Tm×Unit=>tW x.1) (Hg n ks)=true∧ ∃ y:β,AV.pv (Zi (fun x:Tm×Unit=>F x.1) (Hg n ks))=AV.pv (enc y)∧P y:=
 ⟨Ze (Tm.mk n ks,()) (Yc n ks) hw,Zd (Tm.mk n ks,()) (Yc n ks) h⟩
theorem a8z(N:Nat)(n:Nd)(ks:List Tm)(hw:tW (.mk n ks)=true)(hd:ZL ks<N)(R:Bool): ∀ (d i:Nat),d+i=ks.length->R=(V8 n ks.length&&(ks.drop i).all Ki) ->
  At (Jz N) 0 (Zb Qm (Zm R)) QH 0 20 [(1,.ptr 0 0),(3,.pv (.int .i64 i))] [.obj (.box (ZY n ks))]:=by
 intro d
 induction d with
 | zero=>
  intro i hi hR
  rw[List.drop_eq_nil_of_le (by omega),List.all_nil,Bool.and_true]at hR
  refine a4n N n ks i (YW (X6 (by omega)) (c9p hw (Zp ?_)))
  rw[hR];rfl
 | succ d ih=>
  intro i hi hR
  have hlt:i<ks.length:=by omega
  have hkl:=(Ym hw).1
  rw[List.drop_eq_getElem_cons hlt,List.all_cons]at hR
  refine a4n N n ks i (YB (XJ hlt) ⟨ZB hlt rfl,ZQ hlt ⟨We _,Ze (ks[i],()) (Ku _) (Gp hw hd (List.getElem_mem hlt)),Zd (ks[i],()) (Ku _) (W9 (fun h=>Zp ?_) fun h=> ?_)⟩⟩)
  ·have h:Ki ks[i]=false:=h
   rw[hR,h];simp
  ·have h:Ki ks[i]=true:=h
   rw[next (by omega)]
   exact ih (i+1) (by omega) (by rw[hR,h];rfl)
theorem b6a(N:Nat): ∀ x:Tm×Unit,(tW x.1&&decide (Zu x.1<N+1))=true->Zc (Jz N) 0 (Zb Qm (Zm (Ki x.1))) QH [] (ZJ c5z (encL x)):=by
 rintro⟨⟨n,ks⟩,⟨⟩⟩ h
 simp only[Bool.and_eq_true,decide_eq_true_eq]at h
 have hd:Zu (.mk n ks)<N+1:=h.2
 rw[Zu]at hd
 rw[<- Yc]
 exact d4v N n ks (a8z N n ks h.1 (by omega) _ ks.length 0 (by omega) (by show Ki (.mk n ks)=_;rw[Ki,a8i];rfl))
set_option maxRecDepth 20000 in
theorem En: ∀ x:Tm×Unit,tW x.1=true->Zc BS 0 (Zb Jc (Zm (Xn x.1))) GY [] (ZJ a9c (encL x)):=by
 rintro⟨⟨n,ks⟩,⟨⟩⟩ hw
 have e0 : ∀ a b:Nat,(b:Int)=b->decide (a<=b)=decide ((a:Int)<=(b:Int)):=fun a b _=>decide_eq_decide.2 (by omega)
 have e1:decide (Zk (.mk n ks)<=400)=decide (((Zk (.mk n ks):Nat):Int)<=400):=e0 _ 400 rfl
 have e2:decide (Zu (.mk n ks)<=40)=decide (((Zu (.mk n ks):Nat):Int)<=40):=e0 _ 40 rfl
 have e:Xn (.mk n ks)=(decide (((Zk (.mk n ks):Nat):Int)<=400)&&decide (((Zu (.mk n ks):Nat):Int)<=40)&&Ki (.mk n ks)):=by
  unfold Xn Xq
  rw[Ar,e1,e2]
 rw[<- Yc]
 show Zc _ 0 (Zb Jc (Zm (Xn (.mk n ks)))) _ _ _
 rw[e]
 refine b2z n ks ⟨Ze (Tm.mk n ks,()) (Yc n ks) hw,Zd (Tm.mk n ks,()) (Yc n ks) (Y3 (fun h1=>⟨Ze (Tm.mk n ks,()) (Yc n ks) hw,Zd (Tm.mk n ks,()) (Yc n ks) (Y3 (fun h2=>c9p hw (Zp ?_)) fun h2=>Zp ?_)⟩) fun h1=>Zp ?_)⟩
 ·have h1:((Zk (.mk n ks):Nat):Int)<=400:=h1
  have h2:((Zu (.mk n ks):Nat):Int)<=40:=h2
  rw[decide_eq_true h1,decide_eq_true h2];rfl
 ·have h2 : ¬ ((Zu (.mk n ks):Nat):Int)<=40:=h2
  rw[decide_eq_false h2,Bool.and_false];rfl
 ·have h1 : ¬ ((Zk (.mk n ks):Nat):Int)<=400:=h1
  rw[decide_eq_false h1];rfl
end Go.Pl
namespace Go.Pl
open Go.RowKit
open Enc (enc dec is)
open EncL (encL decL isL)
set_option maxRecDepth 100000
abbrev d6k(ps:List PV)(k:Bool->Prop):Prop:=ceP (fun(x:Str×Int×Unit)=>Xt (Prod.fst x) (Prod.fst (Prod.snd x))) ps k
abbrev c8p(ps:List PV)(k:List Int->Prop):Prop:=XT (fun(x:List Int×Unit)=>decide (List.length (Prod.fst x)<=2000000)) (fun(x:List Int×Unit)=>Prod.fst x) ps k
abbrev d8a(ps:List PV)(k:Arr×Int->Prop):Prop:=XT (fun(x:Str×List Int×List Int×Unit)=>decide (List.length (Prod.fst (Prod.snd x))<=2000000)&&decide (List.length (Prod.fst (Prod.snd (Prod.snd x)))<=2000000)) (fun(x:Str×List Int×List Int×Unit)=>Q6 (Prod.fst x) (Prod.fst (Prod.snd x)) (Prod.fst (Prod.snd (Prod.snd x)))) ps k
noncomputable def Aw:IC:=Xy Proofs.Tryz.f177
def AX:List IRes:=[(.tmp 2)]
abbrev b8x:Nat:=6
def PL:Zz:=Yr []
theorem c5s{G:PV->Prop}(l:List Int)(h:(List.isEmpty (List.map enc l)||Enc.sz Int==1)=true∧((List.length ([]:List PV)==0&&0==0&&decide ((0+List.length (List.map enc l))*8<=1099511627776)&&decide (0+List.length (List.map enc l)<=1099511627776))=true∧((List.length (([]:List PV)++List.map enc l)==0+List.length (List.map enc l))=true∧(G ((.sl 1 false (List.drop 0 (List.take (0+List.length (List.map enc l)) (([]:List PV)++List.map enc l))))))))):Zc PL 0 (Zb AX G) Aw [] (ZJ 6 [enc l]):=Zc.tp (.lit (.req (.req (.req (.nil))))) h
noncomputable def Ng:IC:=Xy Proofs.Tryz.f176
def Nc:List IRes:=[(.tmp 4)]
abbrev c2c:Nat:=23
def OU:Zz:=Yr []
theorem d0n{G:PV->Prop}(e:List UInt8)(n:Int)(h:if (e==[(98:UInt8),(111:UInt8),(111:UInt8),(108:UInt8)])=true then if (n==0)=true then G ((.bool true))else(G ((.bool (n==1))))else(if (e==[(105:UInt8),(110:UInt8),(116:UInt8)])=true then if (decide (n ≥ (-2147483648:Int)))=true then G ((.bool (decide (n<=2147483647))))else(G ((.bool false)))else(G ((.bool false))))):Zc OU 0 (Zb Nc G) Ng [] (ZJ 23 [.str e,.int .i64 n]):=Zc.tp (dm [] 43 0x222220220222004422200e4202220220034200c42) h
noncomputable def WZ:IC:=Xy Proofs.Tryz.f146
def WV:List IRes:=[(.cell true 3 6),(.tmp 7)]
abbrev ME:Nat:=52
def VG:Zz:=Yr [(175,.pure (preT (fun _:List Int×Unit=>true)) (Zi (fun x:List Int×Unit=>YL x.1))),(176,.pure (preT (fun _:Str×Int×Unit=>true)) (Zi (fun x:Str×Int×Unit=>Xt x.1 x.2.1))),(177,.pure (preT (fun x:List Int×Unit=>decide (x.1.length<=2000000))) (Zi (fun x:List Int×Unit=>x.1)))]
theorem c7j{G:PV->Prop}(e:List UInt8)(d x:List Int)(h:if (!e==[(105:UInt8),(110:UInt8),(116:UInt8)])=true then if (!e==[(98:UInt8),(111:UInt8),(111:UInt8),(108:UInt8)])=true then G ((.tup [(.agg [(.str []),(.sl 0 true []),(.sl 0 true [])]),(.int .i64 12)]))else((Go.Pl.preT (fun(x:List Int×Unit)=>true) [(.sl 1 false (List.map enc d))])=true∧(∃ y0:Int×Int,AV.pv (Zi (fun(x:List Int×Unit)=>YL x.1) [(.sl 1 false (List.map enc d))])=AV.pv (enc y0)∧(if (y0.2 != 0)=true then G ((.tup [(.agg [(.str []),(.sl 0 true []),(.sl 0 true [])]),(.int .i64 y0.2)]))else(if ((↑(List.length (List.map enc x)):Int) != y0.1)=true then G ((.tup [(.agg [(.str []),(.sl 0 true []),(.sl 0 true [])]),(.int .i64 1)]))else(At VG 0 (Zb WV G) WZ 0 52 [(0,(.pv (.str e))),(1,(.pv (.sl 1 false (List.map enc d)))),(2,(.pv (.sl 1 false (List.map enc x)))),(6,(.ptr 0 0)),(10,(.pv (.int .i64 0)))] [(.obj (.box [(.pv (.str [])),(.pv (.sl 0 true [])),(.pv (.sl 0 true []))]))])))))else((Go.Pl.preT (fun(x:List Int×Unit)=>true) [(.sl 1 false (List.map enc d))])=true∧(∃ y1:Int×Int,AV.pv (Zi (fun(x:List Int×Unit)=>YL x.1) [(.sl 1 false (List.map enc d))])=AV.pv (enc y1)∧(if (y1.2 != 0)=true then G ((.tup [(.agg [(.str []),(.sl 0 true []),(.sl 0 true [])]),(.int .i64 y1.2)]))else(if ((↑(List.length (List.map enc x)):Int) != y1.1)=true then G ((.tup [(.agg [(.str []),(.sl 0 true []),(.sl 0 true [])]),(.int .i64 1)]))else(At VG 0 (Zb WV G) WZ 0 52 [(0,(.pv (.str e))),(1,(.pv (.sl 1 false (List.map enc d)))),(2,(.pv (.sl 1 false (List.map enc x)))),(6,(.ptr 0 0)),(10,(.pv (.int .i64 0)))] [(.obj (.box [(.pv (.str [])),(.pv (.sl 0 true [])),(.pv (.sl 0 true []))]))])))))):Zc VG 0 (Zb WV G) WZ [] (ZJ 52 [.str e,enc d,enc x]):=Zc.tp (dm [dv (Int×Int)] 47 0x142000142512220000142000142510001422201742) h
theorem Fa{G:PV->Prop}(e:List UInt8)(d x:List Int)(i:Int)(h:if (decide (i<(↑(List.length (List.map enc x)):Int)))=true then(Ul x i 1 fun y0=>(d6k [(.str e),(.int .i64 (PV.asInt (List.getD (PV.cells (enc y0)) 0 default)))] fun y1=>(if (!y1)=true then G ((.tup [(.agg [(.str []),(.sl 0 true []),(.sl 0 true [])]),(.int .i64 2)]))else(At VG 0 (Zb WV G) WZ 0 52 [(0,(.pv (.str e))),(1,(.pv (.sl 1 false (List.map enc d)))),(2,(.pv (.sl 1 false (List.map enc x)))),(6,(.ptr 0 0)),(10,(.pv (.int .i64 (IntKind.wrap IntKind.i64 (i+1)))))] [(.obj (.box [(.pv (.str [])),(.pv (.sl 0 true [])),(.pv (.sl 0 true []))]))]))))else((c8p [(.sl 1 false (List.map enc d))] fun y2=>((c8p [(.sl 1 false (List.map enc x))] fun y3=>(G ((.tup [(.agg [(.str e),(.sl 1 false (List.map enc y2)),(.sl 1 false (List.map enc y3))]),(.int .i64 0)])))))))):At VG 0 (Zb WV G) WZ 0 52 [(0,.pv (.str e)),(1,.pv (enc d)),(2,.pv (enc x)),(6,.ptr 0 0),(10,.pv (.int .i64 i))] [.obj (.box [.pv (.str []),.pv (.sl 0 true []),.pv (.sl 0 true [])])]:=At.tp (dm [dr Int,dv Bool,dv (List Int)] 23 0x717102000146225100c42) h
noncomputable def Nz:IC:=Xy Proofs.Tryz.f117
def R7:List IRes:=[(.tmp 2)]
abbrev c6u:Nat:=17
def EE:Zz:=Yr [(146,.pure (preT (fun x:Str×List Int×List Int×Unit=>decide (x.2.1.length<=2000000)&&decide (x.2.2.1.length<=2000000))) (Zi (fun x:Str×List Int×List Int×Unit=>Q6 x.1 x.2.1 x.2.2.1)))]
theorem d3e{G:PV->Prop}(a:Arr)(h:(d8a [(.str (Str.s (Arr.e a))),(.sl 1 false (List.map enc (Arr.d a))),(.sl 1 false (List.map enc (Arr.x a)))] fun y0=>(G ((.bool (y0.2==0)))))):Zc EE 0 (Zb R7 G) Nz [] (ZJ 17 [enc a]):=Zc.tp (.req (.abs (Arr×Int) (fun YY=>AV.pv (enc YY)) (.lit (.nil)))) h
end Go.Pl
namespace Go.Pl
open Go.RowKit
open Enc (enc dec is)
open EncL (encL decL isL)
set_option maxRecDepth 100000
end Go.Pl
namespace Go.Pl
open Go.RowKit
open Enc (enc dec is)
open EncL (encL decL isL)
theorem a5v: ∀ x:List Int×Unit,decide (x.1.length<=2000000)=true->Zc PL 0 (Zb AX (Zm x.1)) Aw [] (ZJ b8x (encL x)):=by
 rintro⟨l,⟨⟩⟩ h
 have hl:l.length<=2000000:=of_decide_eq_true h
 refine c5s l ⟨by simp[Enc.sz],by simp;omega,by simp,?_⟩
 rw[List.nil_append,List.drop_zero,List.take_of_length_le (by omega)]
 exact Xm (x:=l) rfl
theorem b9o: ∀ a:Str×Int×Unit,true=true->Zc OU 0 (Zb Nc (Zm (Xt a.1 a.2.1))) Ng [] (ZJ c2c (encL a)):=by
 rintro⟨⟨e⟩,n,⟨⟩⟩ _
 refine d0n e n ?_
 simp only[beq_iff_eq,decide_eq_true_eq,Zm,a2k,La,true_and,Xt,UY,X8,ge_iff_le]
 by_cases h1:e=[105,110,116]
 ·subst h1
  rw[if_neg (by decide)]
  simp only[if_true]
  split <;> simp[*]
 ·by_cases h2:e=[98,111,111,108]
  ·subst h2
   simp only[if_true]
   split <;> simp[*]
  ·simp[h1,h2]
theorem a0m(e:List UInt8)(d x:List Int)(hd:d.length<=2000000)(hx:x.length<=2000000)(r:Arr×Int): ∀ (m k:Nat),m+k=x.length->r=(if (x.drop k).all (Xt ⟨e⟩)then(⟨⟨e⟩,d,x⟩,0)else(⟨⟨[]⟩,[],[]⟩,2)) ->
  At VG 0 (Zb WV (Zm r)) WZ 0 ME [(0,.pv (.str e)),(1,.pv (enc d)),(2,.pv (enc x)),(6,.ptr 0 0),(10,.pv (.int .i64 k))] [.obj (.box [.pv (.str []),.pv (.sl 0 true []),.pv (.sl 0 true [])])]:=by
 intro m
 induction m with
 | zero=>
  intro k hk hr
  refine Fa e d x k ?_
  rw[if_neg (by simp;omega)]
  rw[List.drop_of_length_le (by omega)]at hr
  subst hr
  refine⟨Ze (d,()) rfl (by simpa using hd),?_⟩
  refine Zd (d,()) rfl ?_
  refine⟨Ze (x,()) rfl (by simpa using hx),?_⟩
  refine Zd (x,()) rfl ?_
  exact⟨by simp,by simp⟩
 | succ m ih=>
  intro k hk hr
  have hlt:k<x.length:=by omega
  refine Fa e d x k ?_
  rw[if_pos (by simp;omega)]
  refine⟨by simp[Enc.sz];omega,x[k],by rw[Kq _ hlt],?_⟩
  refine Zd (⟨e⟩,x[k],()) rfl ?_
  rw[List.drop_eq_getElem_cons hlt,List.all_cons]at hr
  simp only[]
  cases h:Xt ⟨e⟩ x[k]with
  | true=>
   rw[if_neg (by simp),next (by omega)]
   rw[h,Bool.true_and]at hr
   exact ih (k+1) (by omega) hr
  | false=>
   rw[if_pos (by decide)]
   rw[h,Bool.false_and,if_neg (by simp)]at hr
   subst hr
   exact⟨by simp,by simp⟩
theorem a8t: ∀ a:Str×List Int×List Int×Unit,(decide (a.2.1.length<=2000000)&&decide (a.2.2.1.length<=2000000))=true->Zc VG 0 (Zb WV (Zm (Q6 a.1 a.2.1 a.2.2.1))) WZ [] (ZJ ME (encL a)):=by
 rintro⟨⟨e⟩,d,x,⟨⟩⟩ hp
 simp only[Bool.and_eq_true,decide_eq_true_eq]at hp
 refine c7j e d x ?_
 have hp1:=hp.1
 have hp2:=hp.2
 have hl:=fun(h0 : ¬ (e≠UY∧e≠X8)) (h1 : ¬ (YL d).2≠0) (h2 : ¬ (x.length:Int)≠(YL d).1)=>a0m e d x hp1 hp2 (Q6 ⟨e⟩ d x) x.length 0 (by omega) (by simp only[Q6,h0,h1,h2,if_false,List.drop_zero])
 simp only[preT,Zi,Ai,RZ,Dh,Bz,c8c,Bf,b9a,a3f,a9z,Cr,List.isEmpty_iff,Bool.and_true,beq_self_eq_true,Bool.or_true,Bool.true_and,decide_eq_true_eq,AV.pv.injEq,a9t,exists_eq_left',true_and,Enc.sz,List.length_map,Bool.not_eq_true',beq_eq_false_iff_ne,bne_iff_ne]
 have key:(if ¬ (YL d).2=0 then Zm (Q6 ⟨e⟩ d x) ((.tup [(.agg [(.str []),(.sl 0 true []),(.sl 0 true [])]),(.int .i64 (YL d).2)]))else if ¬ (x.length:Int)=(YL d).1 then Zm (Q6 ⟨e⟩ d x) ((.tup [(.agg [(.str []),(.sl 0 true []),(.sl 0 true [])]),(.int .i64 1)]))else At VG 0 (Zb WV (Zm (Q6 ⟨e⟩ d x))) WZ 0 52 [(0,(.pv (.str e))),(1,(.pv (.sl 1 false (List.map enc d)))),(2,(.pv (.sl 1 false (List.map enc x)))),(6,(.ptr 0 0)),(10,(.pv (.int .i64 0)))] [(.obj (.box [(.pv (.str [])),(.pv (.sl 0 true [])),(.pv (.sl 0 true []))]))])∨(e≠UY∧e≠X8):=by
  by_cases h0:e≠UY∧e≠X8
  ·exact .inr h0
  ·refine .inl ?_
   split
   ·rename_i h1
    exact⟨by simp,by simp[Q6,h0,h1]⟩
   ·rename_i h1
    split
    ·rename_i h2
     exact⟨by simp,by simp only[Q6,ne_eq,h1,h2,not_false_eq_true,if_true,if_false];rw[if_neg h0];simp⟩
    ·rename_i h2
     exact hl h0 h1 h2
 by_cases h1:e=UY
 ·rw[if_neg (by simp[h1,UY])]
  exact key.resolve_right (by simp[h1])
 ·rw[if_pos (by simpa [UY]using h1)]
  by_cases h2:e=X8
  ·rw[if_neg (by simp[h2,X8])]
   exact key.resolve_right (by simp[h2])
  ·rw[if_pos (by simpa [X8]using h2)]
   exact⟨by simp,by simp[Q6,h1,h2]⟩
theorem b6t: ∀ a:Arr×Unit,CE a.1=true->Zc EE 0 (Zb R7 (Zm (CQ a.1))) Nz [] (ZJ c6u (encL a)):=by
 rintro⟨a,⟨⟩⟩ hp
 refine d3e a ⟨Ze (a.e,a.d,a.x,()) rfl hp,Zd (a.e,a.d,a.x,()) rfl ?_⟩
 exact⟨rfl,rfl⟩
theorem a1m(m:Nat):IntKind.wrap .u8 (IntKind.wrap .i64 (48+Int.tmod (m:Int) 10))=((48+m % 10:Nat):Int):=by
 have e2:Int.tmod (m:Int) 10=((m % 10:Nat):Int):=by rw[Int.tmod_eq_emod_of_nonneg (by omega)];omega
 rw[e2,QO (by omega) (by omega)]
 simp[IntKind.wrap,IntKind.bits,IntKind.signed]
 omega
theorem d6m(m:Nat):(List.length [PV.int IntKind.u8 (IntKind.wrap .u8 (IntKind.wrap .i64 (48+Int.tmod (m:Int) 10)))]==1&&List.all [PV.int IntKind.u8 (IntKind.wrap .u8 (IntKind.wrap .i64 (48+Int.tmod (m:Int) 10)))] PX&&1==1)=true:=by
 rw[a1m]
 simp only[List.length_cons,List.length_nil,List.all_cons,List.all_nil,PX,Bool.and_true,beq_self_eq_true,Bool.true_and,Bool.and_eq_true,decide_eq_true_eq,Nat.zero_add]
 omega
theorem d9d(m:Nat):XY (List.drop 0 (List.take 1 [PV.int IntKind.u8 (IntKind.wrap .u8 (IntKind.wrap .i64 (48+Int.tmod (m:Int) 10)))]))=[UInt8.ofNat (48+m % 10)]:=by
 rw[a1m];rfl
theorem d5b(m:Nat):Int.tdiv (m:Int) 10=((m / 10:Nat):Int):=by rw[Int.tdiv_eq_ediv_of_nonneg (by omega)];omega
theorem Fj(l:List Str)(s:Str):(XG l s).length<=l.length+1:=by
 induction l with
 | nil=>simp[XG]
 | cons a r ih=>
  rw[XG]
  split
  ·rw[List.length_cons,List.length_cons];omega
  ·split <;> simp
theorem a4p(l:List Str)(s:List UInt8)(i:Nat)(h:i<=l.length):(PV.sl 1 false (List.drop 0 (List.take (0+List.length (List.drop 0 (List.take (Int.toNat (i:Int)) (List.map (enc:Str->PV) l)))+List.length (List.drop 0 (List.take 1 [PV.str s]))+List.length (List.drop (Int.toNat (i:Int)) (List.take (List.length (List.map (enc:Str->PV) l)) (List.map (enc:Str->PV) l)))) (([]:List PV)++List.drop 0 (List.take (Int.toNat (i:Int)) (List.map (enc:Str->PV) l))++List.drop 0 (List.take 1 [PV.str s])++List.drop (Int.toNat (i:Int)) (List.take (List.length (List.map (enc:Str->PV) l)) (List.map (enc:Str->PV) l))))))=enc (l.take i++(⟨s⟩:Str)::l.drop i):=by
 have e:(([]:List PV)++List.drop 0 (List.take (Int.toNat (i:Int)) (List.map (enc:Str->PV) l))++List.drop 0 (List.take 1 [PV.str s])++List.drop (Int.toNat (i:Int)) (List.take (List.length (List.map (enc:Str->PV) l)) (List.map (enc:Str->PV) l)))=(l.take i++(⟨s⟩:Str)::l.drop i).map enc:=by
  rw[Int.toNat_natCast,List.nil_append,List.drop_zero,List.take_length,List.map_append,List.map_cons,List.map_take,List.map_drop,List.append_assoc]
  rfl
 rw[e,List.drop_zero,List.take_of_length_le]
 ·rfl
 ·rw[<- e];simp only[List.length_append,List.length_nil];omega
theorem a8l(l:List Str)(s:List UInt8)(hl:l.length<=1048576): ∀ (d i:Nat),d+i=l.length->XG l ⟨s⟩=l.take i++XG (l.drop i) ⟨s⟩ ->
  At JX 0 (Zb QY (Zm (XG l ⟨s⟩))) QP 0 45 [(0,.pv (enc l)),(1,.pv (.str s)),(5,.pv (.int .i64 i))] []:=by
 intro d
 induction d with
 | zero=>
  intro i hi hR
  have hn : ¬ i<l.length:=by omega
  refine a3m l s i (YW (X6 hn) (YW (X6 hn) ⟨by first|(simp[Enc.sz];done)|(simp[Enc.sz];omega),by first|(simp[Enc.sz];done)|(simp[Enc.sz];omega),by first|(simp[Enc.sz];done)|(simp[Enc.sz];omega),by first|(simp[Enc.sz];done)|(simp[Enc.sz];omega),by first|(simp[Enc.sz];done)|(simp[Enc.sz];omega),by first|(simp[Enc.sz];done)|(simp[Enc.sz];omega),by first|(simp[Enc.sz];done)|(simp[Enc.sz];omega),by first|(simp[Enc.sz];done)|(simp[Enc.sz];omega),?_⟩))
  rw[a4p l s i (by omega)]
  refine Xm ?_
  rw[hR,List.drop_eq_nil_of_le (show l.length<=i by omega)]
  rfl
 | succ d ih=>
  intro i hi hR
  have hlt:i<l.length:=by omega
  have hR2:=hR
  rw[List.drop_eq_getElem_cons hlt,XG]at hR2
  have hil:i<=l.length:=by omega
  refine a3m l s i (YB (XJ hlt) ⟨ZB hlt rfl,ZQ hlt (CF (fun hb=> ?_) fun hb=>YB (XJ hlt) ⟨ZB hlt rfl,ZQ hlt (YO (fun he=> ?_) fun he=>⟨by first|(simp[Enc.sz];done)|(simp[Enc.sz];omega),by first|(simp[Enc.sz];done)|(simp[Enc.sz];omega),by first|(simp[Enc.sz];done)|(simp[Enc.sz];omega),by first|(simp[Enc.sz];done)|(simp[Enc.sz];omega),by first|(simp[Enc.sz];done)|(simp[Enc.sz];omega),by first|(simp[Enc.sz];done)|(simp[Enc.sz];omega),by first|(simp[Enc.sz];done)|(simp[Enc.sz];omega),by first|(simp[Enc.sz];done)|(simp[Enc.sz];omega),?_⟩)⟩)⟩)
  ·have hb:Op.bytesLess l[i].s s=true:=hb
   rw[XX]at hb
   rw[if_pos (of_decide_eq_true hb)]at hR2
   rw[next (by omega)]
   refine ih (i+1) (by omega) ?_
   rw[hR2,VU hlt,List.append_assoc];rfl
  ·have hb : ¬ Op.bytesLess l[i].s s=true:=hb
   rw[XX]at hb
   have he:l[i].s=s:=he
   have he2:l[i]=⟨s⟩:=by rw[<- he]
   rw[if_neg (fun h=>hb (decide_eq_true h)),if_pos he2]at hR2
   refine Xm ?_
   rw[hR2,<- List.drop_eq_getElem_cons hlt,List.take_append_drop]
  ·have hb : ¬ Op.bytesLess l[i].s s=true:=hb
   rw[XX]at hb
   have he:l[i].s≠s:=he
   have he2 : ¬ l[i]=⟨s⟩:=fun h=>he (by rw[h])
   rw[if_neg (fun h=>hb (decide_eq_true h)),if_neg he2]at hR2
   rw[a4p l s i hil]
   refine Xm ?_
   rw[hR2,List.drop_eq_getElem_cons hlt]
theorem b0r: ∀ x:List Str×Str×Unit,decide (x.1.length<=1048576)=true->Zc JX 0 (Zb QY (Zm (XG x.1 x.2.1))) QP [] (ZJ c1f (encL x)):=by
 rintro⟨l,⟨s⟩,⟨⟩⟩ h
 exact d0m l s (a8l l s (of_decide_eq_true h) l.length 0 (by omega) (by simp))
theorem T9: ∀ (l m:List Str),(l.foldl XG m).length<=m.length+l.length
 | [],m=>by simp
 | s::l,m=>by
  have h:=T9 l (XG m s)
  have h2:=Fj m s
  rw[List.foldl_cons,List.length_cons]
  omega
theorem a9h{α:Type}[BEq α][LawfulBEq α]{x y:α}{P Q:Prop}(h1:x≠y->P)(h2:x=y->Q):if (x != y)=true then P else Q:=by by_cases h:x=y;rw[if_neg (by simpa using h)];exact h2 h;rw[if_pos (by simpa using h)];exact h1 h
theorem d7n{α:Type}[BEq α][LawfulBEq α]{x y:α}{P Q:Prop}(h1:x≠y->P)(h2:x=y->Q):if (!x==y)=true then P else Q:=by by_cases h:x=y;rw[if_neg (by simpa using h)];exact h2 h;rw[if_pos (by simpa using h)];exact h1 h
theorem BX{α β:Type}[Enc α][Enc β]{a:List α}{b:List β}{P Q:Prop}(h1:a.length≠b.length->P)(h2:a.length=b.length->Q):if ((↑(List.length (List.map (enc:α->PV) a)):Int) != (↑(List.length (List.map (enc:β->PV) b)):Int))=true then P else Q:=
 a9h (fun h=>h1 fun e=>h (by rw[List.length_map,List.length_map,e])) fun h=>h2 (by rw[List.length_map,List.length_map]at h;omega)
theorem Bj{α:Type}[DecidableEq α]{x y:α}{a b:List α}(h:x≠y):decide (x::a=y::b)=false:=decide_eq_false fun e=>h (List.cons.inj e).1
theorem Ab{α:Type}[DecidableEq α]{x y:α}{a b:List α}(h:x=y):decide (x::a=y::b)=decide (a=b):=decide_eq_decide.2 ⟨fun e=>(List.cons.inj e).2,fun e=>by rw[h,e]⟩
theorem b7c{α:Type}[DecidableEq α]{a b:List α}(h:a.length≠b.length):decide (a=b)=false:=decide_eq_false fun e=>h (by rw[e])
theorem idf{x y:Int}(h:x≠y):x≠y:=h
theorem idt{x y:Int}(h:x=y):x=y:=h
theorem stt{x y:Str}(h:x.s=y.s):x=y:=by cases x;cases y;cases h;rfl
theorem b1a(a b:List Int)(hl:a.length<=1048576)(e:a.length=b.length)(R:Bool): ∀ (d i:Nat),d+i=a.length->R=decide (a.drop i=b.drop i) ->
  At Tg 0 (Zb Db (Zm R)) GU 0 26 [(0,.pv (enc a)),(1,.pv (enc b)),(5,.pv (.int .i64 i))] []:=by
 intro d
 induction d with
 | zero=>
  intro i hi hR
  refine b2u a b i (YW (X6 (by omega)) (Zp ?_))
  rw[hR,List.drop_eq_nil_of_le (by omega),List.drop_eq_nil_of_le (by omega)];rfl
 | succ d ih=>
  intro i hi hR
  have h1:i<a.length:=by omega
  have h2:i<b.length:=by omega
  rw[List.drop_eq_getElem_cons h1,List.drop_eq_getElem_cons h2]at hR
  refine b2u a b i (YB (XJ h1) ⟨ZB h1 rfl,ZQ h1 ⟨ZB h2 rfl,ZQ h2 (a9h (fun h=>Zp ?_) fun h=> ?_)⟩⟩)
  ·rw[hR,Bj (show a[i]≠b[i]from idf h)]
  ·rw[next (by omega)]
   exact ih (i+1) (by omega) (by rw[hR,Ab (show a[i]=b[i]from idt h)])
theorem c1s: ∀ x:List Int×List Int×Unit,decide (x.1.length<=1048576)=true->Zc Tg 0 (Zb Db (Zm (decide (x.1=x.2.1)))) GU [] (ZJ d3c (encL x)):=by
 rintro⟨a,b,⟨⟩⟩ h
 refine e0d a b (BX (fun k=>Zp (b7c k).symm) fun k=> ?_)
 exact b1a a b (of_decide_eq_true h) k _ a.length 0 (by omega) rfl
theorem b4p(a b:Lin)(hl:a.t.length<=1048576)(e:a.t.length=b.t.length)(R:Bool): ∀ (d i:Nat),d+i=a.t.length->R=decide (a.t.drop i=b.t.drop i) ->
  At TB 0 (Zb Dx (Zm R)) Dc 0 38 [(2,.ptr 0 0),(3,.ptr 1 0),(5,.pv (.int .i64 i))] [.obj (.box [.pv (enc a.k),.pv (enc a.t)]),.obj (.box [.pv (enc b.k),.pv (enc b.t)])]:=by
 intro d
 induction d with
 | zero=>
  intro i hi hR
  refine b0t a b i (YW (X6 (by omega)) (Zp ?_))
  rw[hR,List.drop_eq_nil_of_le (by omega),List.drop_eq_nil_of_le (by omega)];rfl
 | succ d ih=>
  intro i hi hR
  have h1:i<a.t.length:=by omega
  have h2:i<b.t.length:=by omega
  rw[List.drop_eq_getElem_cons h1,List.drop_eq_getElem_cons h2]at hR
  have hc:(PV.asStr (List.getD (PV.cells (enc a.t[i])) 0 default)==PV.asStr (List.getD (PV.cells (enc b.t[i])) 0 default)&&(PV.asInt (List.getD (PV.cells (enc a.t[i])) (0+1) default)==PV.asInt (List.getD (PV.cells (enc b.t[i])) (0+1) default)&&true))=decide (a.t[i]=b.t[i]):=by
   rw[co1,co1,co2,co2,Bool.and_true]
   rcases a.t[i]with ⟨⟨v⟩,c⟩
   rcases b.t[i]with ⟨⟨w⟩,c'⟩
   rw[Bool.eq_iff_iff]
   simp
  refine b0t a b i (YB (XJ h1) ⟨ZB h1 rfl,ZQ h1 ⟨ZB h2 rfl,ZQ h2 ?_⟩⟩)
  rw[hc]
  refine W9 (fun h=>Zp ?_) fun h=> ?_
  ·rw[hR,Bj (of_decide_eq_false h)]
  ·rw[next (by omega)]
   exact ih (i+1) (by omega) (by rw[hR,Ab (of_decide_eq_true h)])
theorem c0y: ∀ x:Lin×Lin×Unit,decide (x.1.t.length<=1048576)=true->Zc TB 0 (Zb Dx (Zm (decide (x.1=x.2.1)))) Dc [] (ZJ d3b (encL x)):=by
 rintro⟨a,b,⟨⟩⟩ h
 refine d8x a b (a9h (fun k=>Zp (decide_eq_false fun e=>k (by rw[show a=b from e])).symm) fun k0=>BX (fun k=>Zp (decide_eq_false fun e=>k (by rw[show a=b from e])).symm) fun k=> ?_)
 refine b4p a b (of_decide_eq_true h) k _ a.t.length 0 (by omega) (decide_eq_decide.2 ⟨fun e=>by rw[show a=b from e],fun e=> ?_⟩)
 cases a;cases b
 simp only[List.drop_zero]at e k0
 rw[k0,e]
theorem a6b(l:List Str)(s:List UInt8)(hl:l.length<=1048576)(R:Bool): ∀ (d i:Nat),d+i=l.length->R=decide ((⟨s⟩:Str)∈l.drop i) ->
  At JL 0 (Zb QW (Zm R)) QL 0 18 [(0,.pv (enc l)),(1,.pv (.str s)),(5,.pv (.int .i64 i))] []:=by
 intro d
 induction d with
 | zero=>
  intro i hi hR
  refine a1q l s i (YW (X6 (by omega)) (Zp ?_))
  rw[hR,List.drop_eq_nil_of_le (by omega)];rfl
 | succ d ih=>
  intro i hi hR
  have h1:i<l.length:=by omega
  rw[List.drop_eq_getElem_cons h1]at hR
  refine a1q l s i (YB (XJ h1) ⟨ZB h1 rfl,ZQ h1 (YO (fun h=>Zp ?_) fun h=> ?_)⟩)
  ·rw[hR];exact(decide_eq_true (List.mem_cons.2 (.inl (stt (x:=⟨s⟩) (y:=l[i]) (Eq.symm h))))).symm
  ·rw[next (by omega)]
   refine ih (i+1) (by omega) (by rw[hR];exact decide_eq_decide.2 ⟨fun k=>(List.mem_cons.1 k).resolve_left fun e=>h (by rw[<- e];rfl),fun k=>List.mem_cons.2 (.inr k)⟩)
theorem b2i: ∀ x:List Str×Str×Unit,decide (x.1.length<=1048576)=true->Zc JL 0 (Zb QW (Zm (decide (x.2.1∈x.1)))) QL [] (ZJ c5h (encL x)):=by
 rintro⟨l,⟨s⟩,⟨⟩⟩ h
 exact d4k l s (a6b l s (of_decide_eq_true h) _ l.length 0 (by omega) rfl)
theorem YI{n m:Nd}{ks ls:List Tm}:K5 (.mk n ks) (.mk m ls)=true ↔ (n.kind=m.kind∧n.name=m.name∧n.num=m.num∧n.elem=m.elem∧n.dims=m.dims∧n.data=m.data∧n.sizes=m.sizes∧n.ranks=m.ranks)∧UO ks ls=true:=by
 rw[K5]
 unfold b8r
 simp only[Bool.and_eq_true,decide_eq_true_eq,and_assoc]
theorem AQ: ∀ {ks ls:List Tm},UO ks ls=true->ks.length=ls.length
 | [],[],_=>rfl
 | [],_::_,h=>by simp[UO]at h
 | _::_,[],h=>by simp[UO]at h
 | k::ks,l::ls,h=>by
  rw[UO,Bool.and_eq_true]at h
  rw[List.length_cons,List.length_cons,AQ h.2]
theorem Va{b:Bool}(h:b=true->False):false=b:=by cases b;rfl;exact(h rfl).elim
theorem b5x{a b:List Int}{P:Bool->Prop}(h:a.length<=1048576)(k:P (decide (a=b))):a1l [.sl 1 false (a.map enc),.sl 1 false (b.map enc)] P:=⟨Ze (a,b,()) rfl (decide_eq_true h),Zd (a,b,()) rfl k⟩
theorem b4h{N:Nat}{n:Nd}{ks:List Tm}(h:tW (.mk n ks)=true)(hd:ZL ks<N){k l:Tm}(hk:k∈ks)(hl:tW l=true):(fun x:Tm×Tm×Unit=>(tW x.1&&tW x.2.1)&&decide (Zu x.1<N)) (k,l,())=true:=by
 have h:=Gp h hd hk
 simp only[Bool.and_eq_true]at h ⊢
 exact⟨⟨h.1,hl⟩,h.2⟩
theorem c6s(a b:Tm):[JC a,JC b]=encL (a,b,()):=by rw[Be,Be];rfl
theorem d5h(n m:Nd)(ks ls:List Tm):[ndC n ks,ndC m ls]=encL (Tm.mk n ks,Tm.mk m ls,()):=by rw[XD,XD];rfl
theorem a9w(N:Nat)(n m:Nd)(ks ls:List Tm)(hw:tW (.mk n ks)=true)(hv:tW (.mk m ls)=true)(hd:ZL ks<N)(e:ks.length=ls.length)(R:Bool): ∀ (d i:Nat),d+i=ks.length->R=UO (ks.drop i) (ls.drop i) ->
  At (Jm N) 0 (Zb UR (Zm R)) UN 1 117 [(2,.ptr 0 0),(3,.ptr 1 0),(6,.pv (.int .i64 i))] [.obj (.box (ZY n ks)),.obj (.box (ZY m ls))]:=by
 intro d
 induction d with
 | zero=>
  intro i hi hR
  rw[List.drop_eq_nil_of_le (by omega),List.drop_eq_nil_of_le (by omega),UO]at hR
  exact b5p N n ks m ls i (YW (X6 (by omega)) (Zp hR.symm))
 | succ d ih=>
  intro i hi hR
  have h1:i<ks.length:=by omega
  have h2:i<ls.length:=by omega
  have hkl:=(Ym hw).1
  rw[List.drop_eq_getElem_cons h1,List.drop_eq_getElem_cons h2,UO]at hR
  refine b5p N n ks m ls i (YB (XJ h1) ⟨ZB h1 rfl,ZQ h1 ⟨We _,ZB h2 rfl,ZQ h2 ⟨We _,Ze (ks[i],ls[i],()) (c6s _ _) (b4h hw hd (List.getElem_mem h1) ((Ym hv).2 _ (List.getElem_mem h2))),Zd (ks[i],ls[i],()) (c6s _ _) (W9 (fun h=>Zp ?_) fun h=> ?_)⟩⟩⟩)
  ·have h:K5 ks[i] ls[i]=false:=h
   rw[hR,h];rfl
  ·have h:K5 ks[i] ls[i]=true:=h
   rw[next (by omega)]
   exact ih (i+1) (by omega) (by rw[hR,h];rfl)
theorem a8s(N:Nat)(n m:Nd)(ks ls:List Tm)(hw:tW (.mk n ks)=true)(hv:tW (.mk m ls)=true)(hd:ZL ks<N)(e:ks.length=ls.length)(es:n.sizes.length=m.sizes.length)(R:Bool): ∀ (d i:Nat),d+i=n.sizes.length->R=(decide (n.sizes.drop i=m.sizes.drop i)&&UO ks ls) ->
  At (Jm N) 0 (Zb UR (Zm R)) UN 0 117 [(2,.ptr 0 0),(3,.ptr 1 0),(5,.pv (.int .i64 i))] [.obj (.box (ZY n ks)),.obj (.box (ZY m ls))]:=by
 intro d
 induction d with
 | zero=>
  intro i hi hR
  rw[List.drop_eq_nil_of_le (by omega),List.drop_eq_nil_of_le (by omega)]at hR
  exact b6b N n ks m ls i (YW (X6 (by omega)) (a9w N n m ks ls hw hv hd e R ks.length 0 (by omega) (by rw[hR];rfl)))
 | succ d ih=>
  intro i hi hR
  have h1:i<n.sizes.length:=by omega
  have h2:i<m.sizes.length:=by omega
  have hn:=NC hw
  have hb:=hn.sizes
  rw[List.drop_eq_getElem_cons h1,List.drop_eq_getElem_cons h2]at hR
  refine b6b N n ks m ls i (YB (XJ h1) ⟨ZB h1 rfl,ZQ h1 ⟨ZB h2 rfl,ZQ h2 ⟨Ze (n.sizes[i],m.sizes[i],()) rfl (decide_eq_true (hn.lens _ (List.getElem_mem h1))),Zd (n.sizes[i],m.sizes[i],()) rfl (W9 (fun h=>Zp ?_) fun h=> ?_)⟩⟩⟩)
  ·rw[hR,Bj (of_decide_eq_false h)];rfl
  ·rw[next (by omega)]
   exact ih (i+1) (by omega) (by rw[hR,Ab (of_decide_eq_true h)])
theorem c2s(N:Nat): ∀ x:Tm×Tm×Unit,((tW x.1&&tW x.2.1)&&decide (Zu x.1<N+1))=true->Zc (Jm N) 0 (Zb UR (Zm (K5 x.1 x.2.1))) UN [] (ZJ d0c (encL x)):=by
 rintro⟨⟨n,ks⟩,⟨m,ls⟩,⟨⟩⟩ h
 simp only[Bool.and_eq_true,decide_eq_true_eq]at h
 obtain⟨⟨hw,hv⟩,hd⟩:=h
 have hd:Zu (.mk n ks)<N+1:=hd
 rw[Zu]at hd
 have hn:=NC hw
 rw[<- d5h]
 refine d6d N n ks m ls ?_
 refine a9h (fun k=>Zp (Va fun h=>k (YI.1 h).1.1)) fun k1=> ?_
 refine d7n (fun k=>Zp (Va fun h=>k (by rw[(YI.1 h).1.2.1]))) fun k2=> ?_
 refine a9h (fun k=>Zp (Va fun h=>k (YI.1 h).1.2.2.1)) fun k3=> ?_
 refine BX (fun k=>Zp (Va fun h=>k (by rw[(YI.1 h).1.2.2.2.2.2.2.1]))) fun k4=> ?_
 refine BX (fun k=>Zp (Va fun h=>k (AQ (YI.1 h).2))) fun k5=> ?_
 refine d7n (fun k=>Zp (Va fun h=>k (by rw[(YI.1 h).1.2.2.2.1]))) fun k6=> ?_
 refine b5x hn.dims (W9 (fun k=>Zp (Va fun h=>of_decide_eq_false k (YI.1 h).1.2.2.2.2.1)) fun k7=> ?_)
 refine b5x hn.data (W9 (fun k=>Zp (Va fun h=>of_decide_eq_false k (YI.1 h).1.2.2.2.2.2.1)) fun k8=> ?_)
 refine b5x hn.ranks (W9 (fun k=>Zp (Va fun h=>of_decide_eq_false k (YI.1 h).1.2.2.2.2.2.2.2)) fun k9=> ?_)
 refine a8s N n m ks ls hw hv (by omega) k5 k4 _ n.sizes.length 0 (by omega) ?_
 rw[Bool.eq_iff_iff]
 show K5 (.mk n ks) (.mk m ls)=true ↔ _
 rw[YI,Bool.and_eq_true,decide_eq_true_eq]
 exact⟨fun h=>⟨h.1.2.2.2.2.2.2.1,h.2⟩,fun h=>⟨⟨k1,stt k2,k3,stt k6,of_decide_eq_true k7,of_decide_eq_true k8,h.1,of_decide_eq_true k9⟩,h.2⟩⟩
theorem ndT(n:Nd)(ks:List Tm){α:Type}[Enc α](x:α):encL (Tm.mk n ks,x,())=[ndC n ks,enc x]:=by rw[XD];rfl
def nmP(n:Nat):Str:=⟨118::(if n=0 then []else Lib.decDigits n)⟩
theorem a8r(n0:Int)(R:Str): ∀ (d m:Nat) (o:List UInt8),m<10 ^ d->m<=9223372036854775807->o.length+d<=100->R=⟨118::((if m=0 then []else Lib.decDigits m)++o)⟩ ->
  At KA 0 (Zb Uq (Zm R)) Uw 0 18 [(0,.pv (.int .i64 (m:Nat))),(3,.pv (.str o))] []:=by
 intro d
 induction d with
 | zero=>
  intro m o hm hb ho hR
  have hm:m=0:=by simpa using hm
  subst hm
  refine a1v n0 _ o (YW (by simp) ⟨decide_eq_true (by show 1+o.length<=_;omega),?_⟩)
  refine Xm (x:=(⟨118::o⟩:Str)) ?_
  rw[hR];rfl
 | succ d ih=>
  intro m o hm hb ho hR
  refine a1v n0 _ o (Y3 (fun h=> ?_) fun h=> ?_)
  ·have hm0:m≠0:=by omega
   refine⟨d6m m,?_⟩
   rw[d9d,d5b]
   refine⟨decide_eq_true (by show 1+o.length<=_;omega),?_⟩
   have k:=ih (m / 10) ([UInt8.ofNat (48+m % 10)]++o) (by rw[Nat.pow_succ]at hm;omega) (by omega) (by rw[List.length_append];show 1+_+_<=_;omega) (by
    rw[hR,if_neg hm0,<- List.append_assoc]
    congr 3
    by_cases h10:m<10
    ·rw[if_pos (by omega),KQ h10,Nat.mod_eq_of_lt h10];rfl
    ·rw[if_neg (by omega),R8 h10])
   rw[QO (by omega) (by omega)]
   exact k
  ·have hm0:m=0:=by omega
   refine⟨decide_eq_true (by show 1+o.length<=_;omega),?_⟩
   refine Xm (x:=(⟨118::o⟩:Str)) ?_
   rw[hR,hm0];rfl
theorem b6n: ∀ x:Int×Unit,decide (0<=x.1∧x.1<=9223372036854775807)=true->Zc KA 0 (Zb Uq (Zm (nmP x.1.toNat))) Uw [] (ZJ a1g (encL x)):=by
 rintro⟨n,⟨⟩⟩ h
 have h:=of_decide_eq_true h
 obtain⟨m,rfl⟩ : ∃ m:Nat,n=m:=⟨n.toNat,by have:=h.1;simp only at this;omega⟩
 have h2:(m:Int)<=9223372036854775807:=h.2
 exact d1x m (a8r m _ 20 m [] (by omega) (by omega) (by simp) (by show nmP (Int.toNat (m:Int))=_;rw[Int.toNat_natCast];unfold nmP;rw[List.append_nil]))
theorem d2h: ∀ x:Str×Unit,true=true->Zc e0h 0 (Zb c9c (Zm (vT x.1))) c9u [] (ZJ e0l (encL x)):=by
 rintro⟨⟨s⟩,⟨⟩⟩ _
 exact e1m s ⟨by simp,by simp[vT,nd0]⟩
def d5v(s:Str)(a b:Tm):Tm:=.mk {nd0 with kind:=5,name:=s} [a,b]
theorem b6u: ∀ x:Str×Tm×Tm×Unit,true=true->Zc b9f 0 (Zb a4s (Zm (d5v x.1 x.2.1 x.2.2.1))) a2m [] (ZJ c2z (encL x)):=by
 rintro⟨⟨s⟩,⟨n,ks⟩,⟨m,ls⟩,⟨⟩⟩ _
 rw[show encL ((⟨s⟩:Str),Tm.mk n ks,Tm.mk m ls,())=[.str s,ndC n ks,ndC m ls]from by rw[XD,XD];rfl]
 refine d0q s n ks m ls ?_
 rw[XD,XD]
 have h:is (List Tm) (.sl 10 false ([Tm.mk n ks,Tm.mk m ls].map enc))=true:=Enc.is_enc [Tm.mk n ks,Tm.mk m ls]
 have h2:(dec (.sl 10 false ([Tm.mk n ks,Tm.mk m ls].map enc)):List Tm)=[Tm.mk n ks,Tm.mk m ls]:=Enc.dec_enc [Tm.mk n ks,Tm.mk m ls]
 refine⟨?_,?_⟩
 ·have:is (List Tm) (.sl 10 false [enc (Tm.mk n ks),enc (Tm.mk m ls)])=true:=h
  simp[this]
 ·have h:is (List Tm) (.sl 10 false [enc (Tm.mk n ks),enc (Tm.mk m ls)])=true:=h
  have h2:(dec (.sl 10 false [enc (Tm.mk n ks),enc (Tm.mk m ls)]):List Tm)=[Tm.mk n ks,Tm.mk m ls]:=h2
  rw[c0n _ _ _ _ _ _ _ _ _ _ h,h2]
  simp[d5v,nd0]
end Go.Pl
namespace Go.Pl
open Go.RowKit
open Enc (enc dec is)
open EncL (encL decL isL)
mutual
theorem Bi: ∀ {a b:List Str} (h : ∀ x,x∈a ↔ x∈b) (t:Tm),YH a t=YH b t
 | a,b,h,.mk n ks=>by
  rw[YH,YH,TD h]
  simp only[h]
theorem TD: ∀ {a b:List Str} (h : ∀ x,x∈a ↔ x∈b) (l:Bool) (s:Str) (i:Nat) (ks:List Tm),Xx a l s i ks=Xx b l s i ks
 | a,b,h,l,s,i,[]=>by rw[Xx,Xx]
 | a,b,h,l,s,i,k::ks=>by
  rw[Xx,Xx,TD h l s (i+1) ks,Bi (a:=if (l&&decide (i=1))=true then s::a else a) (b:=if (l&&decide (i=1))=true then s::b else b) (fun x=>by split <;> simp[h]) k]
end
mutual
theorem U0: ∀ (b:List Str) (t:Tm),(YH b t).length<=Zk t
 | b,.mk n ks=>by
  have h:=TE b (Yq n ks.length) n.name 0 ks
  rw[YH,Zk,List.length_append]
  split
  ·simp only[List.length_singleton];omega
  ·simp only[List.length_nil];omega
theorem TE: ∀ (b:List Str) (l:Bool) (s:Str) (i:Nat) (ks:List Tm),(Xx b l s i ks).length<=Zq ks
 | b,l,s,i,[]=>by rw[Xx,Zq];simp
 | b,l,s,i,k::ks=>by
  have h1:=U0 (if (l&&decide (i=1))=true then s::b else b) k
  have h2:=TE b l s (i+1) ks
  rw[Xx,Zq,List.length_append]
  omega
end
theorem fr3(o:List Str)(t:Tm)(b:List Str):[enc o,JC t,enc b]=encL (o,t,b,()):=by rw[Be];rfl
theorem a4i{N:Nat}{o:List Str}{t:Tm}{b:List Str}{ps:List PV}{K:List Str->Prop}(e:ps=encL (o,t,b,()))(hw:tW t=true)(h1:o.length+Zk t<=1048576)(h2:b.length+Zu t<=1048576)(h3:Zu t<N)(h:K ((YH b t).foldl XG o)):TF N ps K:=
 ⟨Ze (o,t,b,()) e (by simp only[hw,decide_eq_true h1,decide_eq_true h2,decide_eq_true h3];rfl),Zd (o,t,b,()) e h⟩
theorem b9k(b:List Str)(s:Str):(PV.sl 1 false (List.drop 0 (List.take (0+List.length (List.map (enc:Str->PV) b)+List.length (List.drop 0 (List.take 1 [enc s]))) (([]:List PV)++List.map enc b++List.drop 0 (List.take 1 [enc s])))))=enc (b++[s]):=by
 show _=PV.sl 1 false (List.map enc (b++[s]))
 rw[List.take_of_length_le (by simp)]
 simp
theorem b8w(N:Nat)(n:Nd)(ks:List Tm)(b:List Str)(hw:tW (.mk n ks)=true)(hd:ZL ks<N)(hb:b.length+ZL ks+1<=1048576)(R:List Str): ∀ (d i:Nat) (o:List Str),d+i=ks.length->o.length+Zq (ks.drop i)<=1048576->R=(Xx b (Yq n ks.length) n.name i (ks.drop i)).foldl XG o ->
  At (Ue N) 0 (Zb Ww (Zm R)) Wz 0 60 [(0,.pv (enc o)),(2,.pv (enc b)),(4,.ptr 0 0),(7,.pv (.int .i64 i))] [.obj (.box (ZY n ks))]:=by
 intro d
 induction d with
 | zero=>
  intro i o hi ho hR
  rw[List.drop_eq_nil_of_le (by omega),Xx]at hR
  exact b1q N o n ks b i (YW (X6 (by omega)) (by rw[hR];exact Xm rfl))
 | succ d ih=>
  intro i o hi ho hR
  have h1:i<ks.length:=by omega
  have hkl:=(Ym hw).1
  have hwk:=(Ym hw).2 _ (List.getElem_mem h1)
  have hdk:=Qh (List.getElem_mem h1)
  rw[List.drop_eq_getElem_cons h1,Zq]at ho
  rw[List.drop_eq_getElem_cons h1,Xx,List.foldl_append]at hR
  have go : ∀ bd:List Str,(YH bd ks[i]=YH (if (Yq n ks.length&&decide (i=1))=true then n.name::b else b) ks[i])->At (Ue N) 0 (Zb Ww (Zm R)) Wz 0 60 [(0,.pv (enc ((YH bd ks[i]).foldl XG o))),(2,.pv (enc b)),(4,.ptr 0 0),(7,.pv (.int .i64 (IntKind.i64.wrap ((i:Int)+1))))] [.obj (.box (ZY n ks))]:=fun bd e=>by
   rw[next (by omega),e]
   refine ih (i+1) _ (by omega) ?_ hR
   have l1:=T9 (YH (if (Yq n ks.length&&decide (i=1))=true then n.name::b else b) ks[i]) o
   have l2:=U0 (if (Yq n ks.length&&decide (i=1))=true then n.name::b else b) ks[i]
   omega
  have plain:(Yq n ks.length&&decide (i=1))=false->(Sy ks[i]=true∧TF N [enc o,JC ks[i],enc b] fun y=>At (Ue N) 0 (Zb Ww (Zm R)) Wz 0 60 [(0,.pv (enc y)),(2,.pv (enc b)),(4,.ptr 0 0),(7,.pv (.int .i64 (IntKind.i64.wrap ((i:Int)+1))))] [.obj (.box (ZY n ks))]):=fun e=>
   ⟨We _,a4i (fr3 _ _ _) hwk (by omega) (by omega) (by omega) (go b (by rw[e];rfl))⟩
  refine b1q N o n ks b i (YB (XJ h1) (YO (fun k5=>YO (fun k2=>YO (fun k1=> ?_) fun k1=> ?_) fun k2=> ?_) fun k5=> ?_))
  ·have e2:ks.length=2:=by rw[List.length_map]at k2;omega
   have e1:i=1:=by omega
   have el:(Yq n ks.length&&decide (i=1))=true:=by unfold Yq;rw[decide_eq_true k5,decide_eq_true e2,decide_eq_true e1];rfl
   have lb:b.length<=1048576:=by omega
   refine⟨by simp[show Enc.sz Str=1 from rfl],by simp;omega,by simp;omega,ZB h1 rfl,ZQ h1 ⟨We _,by simp,?_⟩⟩
   rw[b9k]
   exact a4i (fr3 _ _ _) hwk (by omega) (by rw[List.length_append,List.length_singleton];omega) (by omega) (go (b++[n.name]) (Bi (fun x=>by rw[el];simp[or_comm]) _))
  ·exact⟨ZB h1 rfl,ZQ h1 (plain (by rw[decide_eq_false (show ¬ i=1 by omega),Bool.and_false]))⟩
  ·exact⟨ZB h1 rfl,ZQ h1 (plain (by unfold Yq;rw[decide_eq_false (show ¬ ks.length=2 by rw[List.length_map]at k2;omega)];simp))⟩
  ·exact⟨ZB h1 rfl,ZQ h1 (plain (by unfold Yq;rw[decide_eq_false k5];simp))⟩
theorem c4u(N:Nat): ∀ x:List Str×Tm×List Str×Unit,((tW x.2.1&&decide (x.1.length+Zk x.2.1<=1048576)&&decide (x.2.2.1.length+Zu x.2.1<=1048576))&&decide (Zu x.2.1<N+1))=true->Zc (Ue N) 0 (Zb Ww (Zm ((YH x.2.2.1 x.2.1).foldl XG x.1))) Wz [] (ZJ d0w (encL x)):=by
 rintro⟨o,⟨n,ks⟩,b,⟨⟩⟩ h
 simp only[Bool.and_eq_true,decide_eq_true_eq]at h
 obtain⟨⟨⟨hw,h1⟩,h2⟩,h3⟩:=h
 have h1:o.length+Zk (.mk n ks)<=1048576:=h1
 have h2:b.length+Zu (.mk n ks)<=1048576:=h2
 have h3:Zu (.mk n ks)<N+1:=h3
 rw[Zk]at h1
 rw[Zu]at h2 h3
 rw[show encL (o,Tm.mk n ks,b,())=[enc o,ndC n ks,enc b]from by rw[XD];rfl]
 have key : ∀ o':List Str,o'.length+Zq ks<=1048576->(YH b (.mk n ks)).foldl XG o=(Xx b (Yq n ks.length) n.name 0 ks).foldl XG o'->At (Ue N) 0 (Zb Ww (Zm ((YH b (.mk n ks)).foldl XG o))) Wz 0 60 [(0,.pv (enc o')),(2,.pv (enc b)),(4,.ptr 0 0),(7,.pv (.int .i64 0))] [.obj (.box (ZY n ks))]:=fun o' l e=>
  b8w N n ks b hw (by omega) (by omega) _ ks.length 0 o' (by omega) (by simpa using l) (by rw[e];rfl)
 refine d7d N o n ks b (YO (fun k=> ?_) fun k=>key o (by omega) (by rw[YH,if_neg (fun h=>k h.1)];rfl))
 refine⟨Ze (b,n.name,()) rfl (decide_eq_true (by show b.length<=1048576;omega)),Zd (b,n.name,()) rfl (W9 (fun k2=> ?_) fun k2=> ?_)⟩
 ·have k2:n.name ∉ b:=of_decide_eq_false k2
  refine⟨Ze (o,n.name,()) rfl (decide_eq_true (by show o.length<=1048576;omega)),Zd (o,n.name,()) rfl (key (XG o n.name) (by have:=Fj o n.name;omega) ?_)⟩
  rw[YH,if_pos ⟨k,k2⟩];rfl
 ·have k2:n.name∈b:=of_decide_eq_true k2
  exact key o (by omega) (by rw[YH,if_neg (fun h=>h.2 k2)];rfl)
end Go.Pl
namespace Go.Pl
open Go.RowKit
open Enc (enc dec is)
open EncL (encL decL isL)
theorem Rq: ∀ (l o:List Str),(l.foldl Xi o).length<=o.length+l.length
 | [],o=>by simp
 | a::l,o=>by have:=Rq l (Xi o a);have:=H8 o a;rw[List.foldl_cons,List.length_cons];omega
theorem b0k{N:Nat}{t:Tm}{b g:List Str}(hw:tW t=true)(hd:Zu t<N)(h1:b.length+Zu t<=1048576)(h2:g.length+Zk t<=1048576):WY N [(.pv (JC t)),(.map 0),(.map 1)] [(.map (Yf b)),(.map (Yf g))]=true:=by
 rw[Be]
 simp only[WY,Us,Enc.dec_enc,hw,Uj,decide_eq_true hd,decide_eq_true h1,decide_eq_true h2,Bool.true_and,Bool.and_true,Bool.and_eq_true]
 exact⟨@decide_eq_true _ (_) trivial,@decide_eq_true _ (_) trivial⟩
theorem b7b(N:Nat)(n:Nd)(ks:List Tm)(b:List Str)(hw:tW (.mk n ks)=true)(hd:ZL ks<N)(hb:b.length+ZL ks+1<=1048576)(R:List Str): ∀ (d i:Nat) (g:List Str),d+i=ks.length->g.length+Zq (ks.drop i)<=1048576->R=(Xx b (Yq n ks.length) n.name i (ks.drop i)).foldl Xi g ->
  At (Ub N) 2 (Yj 2 Wx fun r=>r=(.tup [],[.map (Yf b),.map (Yf R)],[])) WA 0 54 [(1,.map 0),(2,.map 1),(3,.ptr 2 0),(23,.pv (enc ks)),(24,.pv (.int .i64 (ks.map (enc:Tm->PV)).length)),(25,.pv (.int .i64 i))] [.obj (.map (Yf b)),.obj (.map (Yf g)),.obj (.box (ZY n ks))]:=by
 intro d
 induction d with
 | zero=>
  intro i g hi hg hR
  rw[List.drop_eq_nil_of_le (by omega),Xx]at hR
  exact b3z N n ks b g i (YW (X6 (by omega)) (by rw[hR];rfl))
 | succ d ih=>
  intro i g hi hg hR
  have h1:i<ks.length:=by omega
  have hkl:=(Ym hw).1
  have hwk:=(Ym hw).2 _ (List.getElem_mem h1)
  have hdk:=Qh (List.getElem_mem h1)
  rw[List.drop_eq_getElem_cons h1,Zq]at hg
  rw[List.drop_eq_getElem_cons h1,Xx,List.foldl_append]at hR
  have go : ∀ bd:List Str,(YH bd ks[i]=YH (if (Yq n ks.length&&decide (i=1))=true then n.name::b else b) ks[i])->At (Ub N) 2 (Yj 2 Wx fun r=>r=(.tup [],[.map (Yf b),.map (Yf R)],[])) WA 0 54 [(1,.map 0),(2,.map 1),(3,.ptr 2 0),(23,.pv (enc ks)),(24,.pv (.int .i64 (ks.map (enc:Tm->PV)).length)),(25,.pv (.int .i64 (IntKind.i64.wrap ((i:Int)+1))))] [.obj (.map (Yf b)),.obj (.map (Yf ((YH bd ks[i]).foldl Xi g))),.obj (.box (ZY n ks))]:=fun bd e=>by
   rw[next (by omega),e]
   refine ih (i+1) _ (by omega) ?_ hR
   have l1:=Rq (YH (if (Yq n ks.length&&decide (i=1))=true then n.name::b else b) ks[i]) g
   have l2:=U0 (if (Yq n ks.length&&decide (i=1))=true then n.name::b else b) ks[i]
   omega
  have plain:(Yq n ks.length&&decide (i=1))=false->WY N [(.pv (JC ks[i])),(.map 0),(.map 1)] [(.map (Yf b)),(.map (Yf g))]=true∧At (Ub N) 2 (Yj 2 Wx fun r=>r=(.tup [],[.map (Yf b),.map (Yf R)],[])) WA 0 54 [(1,.map 0),(2,.map 1),(3,.ptr 2 0),(23,.pv (enc ks)),(24,.pv (.int .i64 (ks.map (enc:Tm->PV)).length)),(25,.pv (.int .i64 (IntKind.i64.wrap ((i:Int)+1))))] [.obj (.map (Yf b)),.obj (.map (Yf (List.foldl Xi (Y8 (Yf g)) (YH (Y8 (Yf b)) (dec (agS ks[i])))))),.obj (.box (ZY n ks))]:=fun e=>
   ⟨b0k hwk (by omega) (by omega) (by omega),by rw[Uj,Uj,b6c,Enc.dec_enc];exact go b (by rw[e];rfl)⟩
  refine b3z N n ks b g i (YB (XJ h1) ⟨ZB h1 rfl,ZQ h1 ⟨We _,YO (fun k5=>YO (fun k2=>YO (fun k1=> ?_) fun k1=> ?_) fun k2=> ?_) fun k5=> ?_⟩⟩)
  ·have e2:ks.length=2:=by rw[List.length_map]at k2;omega
   have e1:i=1:=by omega
   have el:(Yq n ks.length&&decide (i=1))=true:=by unfold Yq;rw[decide_eq_true k5,decide_eq_true e2,decide_eq_true e1];rfl
   have hu:WS (enc n.name) (.bool true) (Yf b)=Yf (Xi b n.name):=(DW b n.name).2
   have:=H8 b n.name
   refine⟨(DW b n.name).1,?_⟩
   rw[hu,Uj,Uj,b6c,Enc.dec_enc]
   exact⟨b0k hwk (by omega) (by omega) (by omega),go (Xi b n.name) (Bi (fun x=>by rw[el];simp[BO,or_comm]) _)⟩
  ·exact plain (by rw[decide_eq_false (show ¬ i=1 by omega),Bool.and_false])
  ·exact plain (by unfold Yq;rw[decide_eq_false (show ¬ ks.length=2 by rw[List.length_map]at k2;omega)];simp)
  ·exact plain (by unfold Yq;rw[decide_eq_false k5];simp)
theorem c3r(b:List Str)(s:Str):VX (enc s) (Yf b)=true∧YZ (enc s) (PV.bool false) (Yf b) = .bool (decide (s∈b)):=by
 have key:GL (enc s) (Yf b)=some (if s∈b then some (PV.bool true)else none):=by
  induction b with
  | nil=>rfl
  | cons a b ih=>
   show(match Q8 (enc s) (PV.str a.s)with|some true=>some (some (PV.bool true))|some false=>GL (enc s) (Yf b)|none=>none)=_
   have e:Q8 (enc s:PV) (PV.str a.s)=some (s.s==a.s):=rfl
   rw[e]
   by_cases h:s=a
   ·subst h;simp
   ·have:(s.s==a.s)=false:=by
     rw[beq_eq_false_iff_ne]
     intro e;apply h;cases a;cases s;simp at e;rw[e]
    rw[this]
    show GL (enc s) (Yf b)=_
    rw[ih]
    simp[h]
 unfold VX YZ
 rw[key]
 by_cases h:s∈b
 ·simp[h]
 ·simp[h]
theorem c4o(N:Nat): ∀ args os,WY (N+1) args os=true->Zc (Ub N) os.length (Yj os.length Wx fun r=>r=Dp args os) WA [] (WF d4u args os):=by
 intro args os hp
 unfold WY at hp
 split at hp
 ·rename_i p es fs
  simp only[Bool.and_eq_true,decide_eq_true_eq]at hp
  obtain⟨h1,hw,h3,h4,h5,h6,h7⟩:=hp
  obtain⟨⟨n,ks⟩,rfl⟩:=PW h1
  rw[Enc.dec_enc]at hw h3 h6 h7
  generalize Y8 es=b at h4 h6
  generalize Y8 fs=g at h5 h7
  subst h4 h5
  rw[Zu]at h3 h6
  rw[Zk]at h7
  have key : ∀ g':List Str,g'.length+Zq ks<=1048576->(YH b (.mk n ks)).foldl Xi g=(Xx b (Yq n ks.length) n.name 0 ks).foldl Xi g'->At (Ub N) 2 (Yj 2 Wx fun r=>r=(.tup [],[.map (Yf b),.map (Yf ((YH b (.mk n ks)).foldl Xi g))],[])) WA 0 54 [(1,.map 0),(2,.map 1),(3,.ptr 2 0),(23,.pv (enc ks)),(24,.pv (.int .i64 (ks.map (enc:Tm->PV)).length)),(25,.pv (.int .i64 0))] [.obj (.map (Yf b)),.obj (.map (Yf g')),.obj (.box (ZY n ks))]:=fun g' l e=>
   b7b N n ks b hw (by omega) (by omega) _ ks.length 0 g' (by omega) (by simpa using l) (by rw[e];rfl)
  have e:Dp [.pv (enc (Tm.mk n ks)),.map 0,.map 1] [.map (Yf b),.map (Yf g)]=(.tup [],[.map (Yf b),.map (Yf ((YH b (.mk n ks)).foldl Xi g))],[]):=by
   simp only[Dp,Enc.dec_enc,Uj]
  rw[e,ZF]
  refine d8b N n ks b g (YO (fun k=> ?_) fun k=>key g (by omega) (by rw[YH,if_neg (fun h=>k h.1)];rfl))
  obtain⟨l1,l2⟩:=c3r b n.name
  rw[l1,l2]
  refine⟨rfl,W9 (fun k2=> ?_) fun k2=> ?_⟩
  ·have k2:n.name ∉ b:=of_decide_eq_false k2
   have hu:WS (enc n.name) (.bool true) (Yf g)=Yf (Xi g n.name):=(DW g n.name).2
   refine⟨(DW g n.name).1,?_⟩
   rw[hu]
   refine key (Xi g n.name) (by have:=H8 g n.name;omega) ?_
   rw[YH,if_pos ⟨k,k2⟩];rfl
  ·have k2:n.name∈b:=of_decide_eq_true k2
   exact key g (by omega) (by rw[YH,if_neg (fun h=>h.2 k2)];rfl)
 ·cases hp
noncomputable def VI:List AV->List AObj->Bool
 | [.pv p,.map 0,.map 1],[.map es,.map fs]=>can Tm p&&(tW (dec p)&&(@decide (es=Yf (Y8 es)) (Classical.propDecidable _)&&(@decide (fs=Yf (Y8 fs)) (Classical.propDecidable _)&&(decide ((Y8 es).length+Zu (dec p:Tm)<=1048576)&&decide ((Y8 fs).length+Zk (dec p:Tm)<=1048576)))))
 | _,_=>false
def b6f:List AV->List AObj->Nat
 | [.pv p,_,_],_=>Zu (dec p:Tm)
 | _,_=>0
theorem e0c{N:Nat}{args:List AV}{os:List AObj}(h:(VI args os&&decide (b6f args os<N))=true):WY N args os=true:=by
 rw[Bool.and_eq_true]at h
 obtain⟨h1,h2⟩:=h
 unfold VI at h1
 split at h1
 ·simp only[Bool.and_eq_true]at h1
  obtain⟨q1,q2,q3,q4,q5,q6⟩:=h1
  simp only[WY,Bool.and_eq_true]
  exact⟨q1,q2,h2,q3,q4,q5,q6⟩
 ·cases h1
theorem d7u{N:Nat}{args:List AV}{os:List AObj}(h:WY N args os=true):(VI args os&&decide (b6f args os<N))=true:=by
 unfold WY at h
 split at h
 ·simp only[Bool.and_eq_true]at h
  obtain⟨q1,q2,q3,q4,q5,q6,q7⟩:=h
  rw[Bool.and_eq_true]
  refine⟨?_,q3⟩
  simp only[VI,Bool.and_eq_true]
  exact⟨q1,q2,q4,q5,q6,q7⟩
 ·cases h
theorem d4q{t:Tm}{b g:List Str}(hw:tW t=true)(h1:b.length+Zu t<=1048576)(h2:g.length+Zk t<=1048576):VI [(.pv (enc t)),(.map 0),(.map 1)] [(.map (Yf b)),(.map (Yf g))]=true:=by
 simp only[VI,Us,Enc.dec_enc,hw,Uj,decide_eq_true h1,decide_eq_true h2,Bool.true_and,Bool.and_true,Bool.and_eq_true]
 exact⟨@decide_eq_true _ (_) trivial,@decide_eq_true _ (_) trivial⟩
end Go.Pl
namespace Go.Pl
open Go.RowKit
open Enc (enc dec is)
open EncL (encL decL isL)
set_option maxRecDepth 100000
noncomputable def b2s:IC:=Xy Proofs.Tryz.f20
def b9d:List IRes:=[(.tmp 2)]
abbrev d3y:Nat:=12
noncomputable def c8l:Zz:=Yr [(55,.own VI Dp),(57,.own QE (KP 79)),(56,.own (Vt 79) UB)]
theorem e0i{G:PV->Prop}(n:Nd)(ks:List Tm)(h:(VI [(.pv (.agg [(.int .i64 (Nd.kind n)),(.int .i64 (Nd.line n)),(.str (Str.s (Nd.name n))),(.int .i64 (Nd.num n)),(.str (Str.s (Nd.elem n))),(.sl 1 false (List.map enc (Nd.dims n))),(.sl 1 false (List.map enc (Nd.data n))),(.sl 2 false (List.map enc (Nd.sizes n))),(.sl 1 false (List.map enc (Nd.ranks n))),(.sl 10 false (List.map enc ks))])),(.map 0),(.map 1)] [(.map []),(.map [])])=true∧((Vt 79 [(.fn 79 [] [(.ptr 0 0)])] [(.box [(.map 1)]),(.map (Yf (List.foldl Xi (Y8 []) (YH (Y8 []) (dec (PV.agg [enc (Nd.kind n),enc (Nd.line n),enc (Nd.name n),enc (Nd.num n),enc (Nd.elem n),enc (Nd.dims n),enc (Nd.data n),enc (Nd.sizes n),enc (Nd.ranks n),enc ks]))))))])=true∧(G ((.sl 1 false (List.map PV.str (Y6 (List.map VM (Yf (List.foldl Xi (Y8 []) (YH (Y8 []) (dec (PV.agg [enc (Nd.kind n),enc (Nd.line n),enc (Nd.name n),enc (Nd.num n),enc (Nd.elem n),enc (Nd.dims n),enc (Nd.data n),enc (Nd.sizes n),enc (Nd.ranks n),enc ks]))))))))))))):Zc c8l 0 (Zb b9d G) b2s [] (ZJ 12 [.agg [enc n.kind,enc n.line,enc n.name,enc n.num,enc n.elem,enc n.dims,enc n.data,enc n.sizes,enc n.ranks,enc ks]]):=Zc.tp (dm [] 8 0x313231) h
end Go.Pl
namespace Go.Pl
open Go.RowKit
open Enc (enc dec is)
open EncL (encL decL isL)
mutual
theorem b4j: ∀ (b:List Str) (t:Tm) (s:Str),s∈YH b t->s.s.length<=QM t
 | b,.mk n ks,s,h=>by
  rw[YH]at h
  rw[QM]
  rcases List.mem_append.1 h with h|h
  ·split at h
   ·have:s=n.name:=by simpa using h
    subst this
    unfold wNd;omega
   ·cases h
  ·have:=a2l b (Yq n ks.length) n.name 0 ks s h;omega
theorem a2l: ∀ (b:List Str) (l:Bool) (x:Str) (i:Nat) (ks:List Tm) (s:Str),s∈Xx b l x i ks->s.s.length<=VO ks
 | b,l,x,i,[],s,h=>by rw[Xx]at h;cases h
 | b,l,x,i,k::ks,s,h=>by
  rw[Xx]at h
  rw[VO]
  rcases List.mem_append.1 h with h|h
  ·have:=b4j _ k s h;omega
  ·have:=a2l b l x (i+1) ks s h;omega
end
theorem b9e{l:List Str}(h1 : ∀ s∈l,s.s.length<=1048576)(h2:l.length<=1048576):Jb (Yf (WN l))=true:=by
 have h3:(Yf (WN l)).all c7v=true:=by
  rw[List.all_eq_true]
  intro x hx
  obtain⟨s,hs,rfl⟩:=List.mem_map.1 hx
  rcases (Re l [] s).1 hs with h|h
  ·cases h
  ·exact decide_eq_true (h1 s h)
 have h4:((Yf (WN l)).map VM).Nodup:=by
  have e:(Yf (WN l)).map VM=(WN l).map (·.s):=by unfold Yf;rw[List.map_map];rfl
  rw[e]
  have:=Kn l [] (by simp)
  refine List.Pairwise.map _ (fun a b hab=> ?_) this
  intro he;apply hab;cases a;cases b;simp at he;rw[he]
 have h5:(Yf (WN l)).length<=1048576:=by
  have:=Qk l []
  unfold Yf
  rw[List.length_map]
  have e:WN l=l.foldl Xi []:=rfl
  rw[e]
  simp at this
  omega
 unfold Jb
 rw[h3,decide_eq_true h4,decide_eq_true h5];rfl
theorem FE(l:List Str):(PV.sl 1 false (List.map PV.str (Y6 (List.map VM (Yf (WN l))))))=enc (Uc l):=by
 have e:(Yf (WN l)).map VM=(WN l).map (·.s):=by unfold Yf;rw[List.map_map];rfl
 rw[e]
 unfold Uc
 show _=PV.sl 1 false (List.map enc (List.map Str.mk _))
 rw[List.map_map]
 rfl
theorem c1j: ∀ x:Tm×Unit,tW x.1=true->Zc c8l 0 (Zb b9d (Zm (Ye x.1))) b2s [] (ZJ d3y (encL x)):=by
 rintro⟨⟨n,ks⟩,⟨⟩⟩ hw
 rw[show encL ((Tm.mk n ks,()):Tm×Unit)=[PV.agg [enc n.kind,enc n.line,enc n.name,enc n.num,enc n.elem,enc n.dims,enc n.data,enc n.sizes,enc n.ranks,enc ks]]from by
  show [enc (Tm.mk n ks)]=_
  rw[ZF]]
 have hw:tW (.mk n ks)=true:=hw
 refine e0i n ks ?_
 have hs:=Ur hw
 have hW:=of_decide_eq_true hw
 have hd:Zu (.mk n ks)<=1048576:=Nat.le_trans (Q9 _) hs
 have e:(dec (PV.agg [enc (Nd.kind n),enc (Nd.line n),enc (Nd.name n),enc (Nd.num n),enc (Nd.elem n),enc (Nd.dims n),enc (Nd.data n),enc (Nd.sizes n),enc (Nd.ranks n),enc ks]):Tm) = .mk n ks:=by rw[<- ZF,Enc.dec_enc]
 rw[e]
 refine⟨?_,?_,?_⟩
 ·have:=d4q (t:=.mk n ks) (b:=[]) (g:=[]) hw (by simpa using hd) (by simpa using hs)
  rw[ZF]at this
  exact this
 ·show(79==79&&Jb (Yf (WN (YH [] (.mk n ks)))))=true
  rw[b9e (fun s h=>by have:=b4j _ _ s h;omega) (by have:=U0 [] (.mk n ks);omega)]
  simp
 ·show Zm _ (PV.sl 1 false (List.map PV.str (Y6 (List.map VM (Yf (WN (YH [] (.mk n ks))))))))
  rw[FE]
  exact Xm rfl
end Go.Pl
namespace Go.Pl
open Go.RowKit
open Enc (enc dec is)
open EncL (encL decL isL)
set_option maxRecDepth 100000
noncomputable def Hl:IC:=icx Qc Proofs.Tryz.f21
def K9:List IRes:=[(.tmp 2)]
abbrev c1e:Nat:=11
noncomputable def QN:Zz:=Yr [(58,.own YJ (XH 80))]
theorem d1c{G:PV->Prop}(E:Xo)(n:Nd)(ks:List Tm)(h:(YJ [(.pv (.agg [(.int .i64 (Nd.kind n)),(.int .i64 (Nd.line n)),(.str (Str.s (Nd.name n))),(.int .i64 (Nd.num n)),(.str (Str.s (Nd.elem n))),(.sl 1 false (List.map enc (Nd.dims n))),(.sl 1 false (List.map enc (Nd.data n))),(.sl 2 false (List.map enc (Nd.sizes n))),(.sl 1 false (List.map enc (Nd.ranks n))),(.sl 10 false (List.map enc ks))]))] [])=true∧(E 0 ⟨ZN 11 0 [(3,(.ptr 0 0)),(5,(.fn 80 [] [(.ptr 1 0)])),(8,.undef),(9,.undef)],[(.obj (.box [(.pv (.int .i64 0))])),(.obj (.box (ZY n ks)))]⟩ (fun x S'=>KO QN E 0 (Zb K9 G) Hl 0 x S'))):ZE QN E 0 (Zb K9 G) (.inl Hl) [] (ZJ 11 [.agg [enc n.kind,enc n.line,enc n.name,enc n.num,enc n.elem,enc n.dims,enc n.data,enc n.sizes,enc n.ranks,enc ks]]):=ZE.mp (.req (.keep (.nil))) h
theorem c3t{G:PV->Prop}(E:Xo)(n:Nd)(ks:List Tm)(c:Int)(h:G ((.int .i64 c))):KO QN E 0 (Zb K9 G) Hl 0 .normal ⟨ZN 11 0 [(3,.ptr 0 0)],[.obj (.box [.pv (.int .i64 c)])]⟩:=ZE.mp (.nil) h
def Hy:IC:=.skip
noncomputable def b6z:Zz:=Yr [(58,.own YJ (XH 80))]
theorem c6z{G:Zt->Prop}(E:Xo)(n:Nd)(ks:List Tm)(c:Int)(v:Int)(h:E 99 ⟨ZN 11 0 [(3,(.ptr 0 0))],[(.obj (.box [(.pv (.int .i64 c))]))]⟩ (fun x S'=>KO b6z E 1 (fun st=>G st.heap) Hy 99 x S')):ZE b6z E 1 (fun st=>G st.heap) (.inl Hy) [.seq (.ext 99 [3])] ⟨ZN 11 0 [(3,.ptr 0 0),(6,.pv (.agg [enc n.kind,enc n.line,enc n.name,enc n.num,enc n.elem,enc n.dims,enc n.data,enc n.sizes,enc n.ranks,enc ks])),(7,.pv (.int .i64 v))],[.obj (.box [.pv (.int .i64 c)])]⟩:=ZE.mh (.nil) h
def Hr:IC:=(.block 1 (.reg [Zx 8 (D7 [(.int .i64)] (.t 3)) 0,Zx 9 (Kw .add (.t 8) (WL 1)) 0,Tz (.store 1 (.t 3) (.t 9)) 0] none))
noncomputable def b0j:Zz:=Yr [(58,.own YJ (XH 80))]
theorem c5g{G:Zt->Prop}(E:Xo)(n:Nd)(ks:List Tm)(c:Int)(v:Int)(h:E 99 ⟨ZN 11 0 [],[(.obj (.box [(.pv (.int .i64 (IntKind.wrap IntKind.i64 (c+1))))]))]⟩ (fun x S'=>KO b0j E 1 (fun st=>G st.heap) Hr 99 x S')):ZE b0j E 1 (fun st=>G st.heap) (.inl Hr) [.seq (.ext 99 [])] ⟨ZN 11 0 [(3,.ptr 0 0)],[.obj (.box [.pv (.int .i64 c)])]⟩:=ZE.mh (.lit (.nil)) h
noncomputable def He:IC:=icx Qc Proofs.Tryz.f27
def KU:List IRes:=[(.tmp 2)]
abbrev c2k:Nat:=14
noncomputable def QR:Zz:=Yr [(58,.own YJ (XH 80))]
theorem d4z{G:PV->Prop}(E:Xo)(n:Nd)(ks:List Tm)(h:(YJ [(.pv (.agg [(.int .i64 (Nd.kind n)),(.int .i64 (Nd.line n)),(.str (Str.s (Nd.name n))),(.int .i64 (Nd.num n)),(.str (Str.s (Nd.elem n))),(.sl 1 false (List.map enc (Nd.dims n))),(.sl 1 false (List.map enc (Nd.data n))),(.sl 2 false (List.map enc (Nd.sizes n))),(.sl 1 false (List.map enc (Nd.ranks n))),(.sl 10 false (List.map enc ks))]))] [])=true∧(E 0 ⟨ZN 14 0 [(3,(.ptr 0 0)),(5,.undef),(7,(.fn 80 [] [(.ptr 1 0)])),(9,.undef),(10,.undef),(11,.undef),(12,.undef)],[(.obj (.box [(.pv (.int .i64 0))])),(.obj (.box (ZY n ks)))]⟩ (fun x S'=>KO QR E 0 (Zb KU G) He 0 x S'))):ZE QR E 0 (Zb KU G) (.inl He) [] (ZJ 14 [.agg [enc n.kind,enc n.line,enc n.name,enc n.num,enc n.elem,enc n.dims,enc n.data,enc n.sizes,enc n.ranks,enc ks]]):=ZE.mp (.req (.keep (.nil))) h
theorem c5f{G:PV->Prop}(E:Xo)(n:Nd)(ks:List Tm)(c:Int)(h:G ((.int .i64 c))):KO QR E 0 (Zb KU G) He 0 .normal ⟨ZN 14 0 [(3,.ptr 0 0)],[.obj (.box [.pv (.int .i64 c)])]⟩:=ZE.mp (.nil) h
def Gd:IC:=(.reg [Zx 5 (Y9 9) 0] none)
noncomputable def b4r:Zz:=Yr [(58,.own YJ (XH 80))]
theorem c2l{G:Zt->Prop}(E:Xo)(n:Nd)(ks:List Tm)(c:Int)(v:Int)(h:E 99 ⟨ZN 14 0 [(3,(.ptr 0 0)),(5,(.pv (.int .i64 v)))],[(.obj (.box [(.pv (.int .i64 c))]))]⟩ (fun x S'=>KO b4r E 1 (fun st=>G st.heap) Gd 99 x S')):ZE b4r E 1 (fun st=>G st.heap) (.inl Gd) [.seq (.ext 99 [3,5])] ⟨ZN 14 0 [(3,.ptr 0 0),(8,.pv (.agg [enc n.kind,enc n.line,enc n.name,enc n.num,enc n.elem,enc n.dims,enc n.data,enc n.sizes,enc n.ranks,enc ks])),(9,.pv (.int .i64 v))],[.obj (.box [.pv (.int .i64 c)])]⟩:=ZE.mh (.nil) h
def Gh:IC:=(.block 1 (.reg [Zx 10 (D7 [(.int .i64)] (.t 3)) 0,Zx 11 (Y9 5) 0,Zx 12 (.mm true (.t 10) (.t 11)) 0,Tz (.store 1 (.t 3) (.t 12)) 0] none))
noncomputable def b2t:Zz:=Yr [(58,.own YJ (XH 80))]
theorem c6m{G:Zt->Prop}(E:Xo)(n:Nd)(ks:List Tm)(c:Int)(v:Int)(h:E 99 ⟨ZN 14 0 [],[(.obj (.box [(.pv (.int .i64 (if true=true then if v>c then v else c else if v<c then v else c)))]))]⟩ (fun x S'=>KO b2t E 1 (fun st=>G st.heap) Gh 99 x S')):ZE b2t E 1 (fun st=>G st.heap) (.inl Gh) [.seq (.ext 99 [])] ⟨ZN 14 0 [(3,.ptr 0 0),(5,.pv (.int .i64 v))],[.obj (.box [.pv (.int .i64 c)])]⟩:=ZE.mh (.nil) h
noncomputable def GG:IC:=icx Qc Proofs.Tryz.f32
def K4:List IRes:=[(.tmp 2)]
abbrev c1z:Nat:=29
noncomputable def QV:Zz:=Yr [(58,.own YJ (XH 80)),(57,.own QE (KP 79)),(56,.own (Vt 79) UB)]
theorem d3m{G:PV->Prop}(E:Xo)(n:Nd)(ks:List Tm)(h:(YJ [(.pv (.agg [(.int .i64 (Nd.kind n)),(.int .i64 (Nd.line n)),(.str (Str.s (Nd.name n))),(.int .i64 (Nd.num n)),(.str (Str.s (Nd.elem n))),(.sl 1 false (List.map enc (Nd.dims n))),(.sl 1 false (List.map enc (Nd.data n))),(.sl 2 false (List.map enc (Nd.sizes n))),(.sl 1 false (List.map enc (Nd.ranks n))),(.sl 10 false (List.map enc ks))]))] [])=true∧(E 0 ⟨ZN 29 0 [(3,(.ptr 0 0)),(4,.undef),(7,(.fn 80 [] [(.ptr 1 0)])),(8,.undef),(10,.undef),(11,.undef),(12,.undef),(13,.undef),(14,.undef),(15,.undef),(16,.undef),(17,.undef),(18,.undef),(19,.undef),(20,.undef),(21,.undef),(22,.undef),(23,.undef),(24,.undef),(25,.undef)],[(.obj (.box [(.map 2)])),(.obj (.box (ZY n ks))),(.obj (.map []))]⟩ (fun x S'=>KO QV E 0 (Zb K4 G) GG 0 x S'))):ZE QV E 0 (Zb K4 G) (.inl GG) [] (ZJ 29 [.agg [enc n.kind,enc n.line,enc n.name,enc n.num,enc n.elem,enc n.dims,enc n.data,enc n.sizes,enc n.ranks,enc ks]]):=ZE.mp (.req (.keep (.nil))) h
theorem c4g{G:PV->Prop}(E:Xo)(n:Nd)(ks:List Tm)(m:List Str)(h:(Vt 79 [(.fn 79 [] [(.ptr 0 0)])] [(.box [(.map 1)]),(.map (Yf m))])=true∧(G ((.sl 1 false (List.map PV.str (Y6 (List.map VM (Yf m)))))))):KO QV E 0 (Zb K4 G) GG 0 .normal ⟨ZN 29 0 [(3,.ptr 0 0)],[.obj (.box [.map 1]),.obj (.map (Yf m))]⟩:=ZE.mp (.lit (.keep (.req (.keep (.nil))))) h
def Hw:IC:=(.reg [Zx 4 (.alloc (.agg [(.int .i64 0),(.int .i64 0),(.str []),(.int .i64 0),(.str []),(.sl 0 true []),(.sl 0 true []),(.sl 0 true []),(.sl 0 true []),(.sl 0 true [])])) 0,Tz (.store 10 (.t 4) (.t 8)) 1] none)
noncomputable def b5g:Zz:=Yr [(58,.own YJ (XH 80)),(57,.own QE (KP 79)),(56,.own (Vt 79) UB)]
theorem c6c{G:Zt->Prop}(E:Xo)(n:Nd)(ks:List Tm)(m:List Str)(v:Int)(h:E 99 ⟨ZN 29 0 [(3,(.ptr 0 0)),(4,(.ptr 2 0))],[(.obj (.box [(.map 1)])),(.obj (.map (Yf m))),(.obj (.box (ZY n ks)))]⟩ (fun x S'=>KO b5g E 2 (fun st=>G st.heap) Hw 99 x S')):ZE b5g E 2 (fun st=>G st.heap) (.inl Hw) [.seq (.ext 99 [3,4])] ⟨ZN 29 0 [(3,.ptr 0 0),(8,.pv (.agg [enc n.kind,enc n.line,enc n.name,enc n.num,enc n.elem,enc n.dims,enc n.data,enc n.sizes,enc n.ranks,enc ks])),(9,.pv (.int .i64 v))],[.obj (.box [.map 1]),.obj (.map (Yf m))]⟩:=ZE.mh (.nil) h
def UH:IC:=(.block 1 (Wh [Zx 10 (.faddr 0 (.t 4)) 0,Zx 11 (D7 [(.int .i64)] (.t 10)) 0,Zx 12 (Kw .eql (.t 11) (WL 6)) 0,Zx 13 (Y9 12) 0,Sa 14 (.faddr 0 (.t 4)) 0 13,Sa 15 (D7 [(.int .i64)] (.t 14)) 0 13,Sa 16 (Kw .eql (.t 15) (WL 8)) 0 13,Zx 17 (.pick (.t 13) (.c (.bool true)) (.t 16)) 0,Zx 18 (Y9 17) 0,Sa 19 (.faddr 0 (.t 4)) 0 18,Sa 20 (D7 [(.int .i64)] (.t 19)) 0 18,Sa 21 (Kw .eql (.t 20) (WL 9)) 0 18,Zx 22 (.pick (.t 18) (.c (.bool true)) (.t 21)) 0] (.cond (.t 22) (.reg [Zx 23 (.load false [.any] (.t 3)) 0,Zx 24 (.faddr 2 (.t 4)) 0,Zx 25 (.load false [.str] (.t 24)) 0,Tz (.mapupd true (.t 23) (.t 25) (.c (.bool true))) 0] none) .skip)))
noncomputable def Bl:Zz:=Yr [(58,.own YJ (XH 80)),(57,.own QE (KP 79)),(56,.own (Vt 79) UB)]
theorem c3w{G:Zt->Prop}(E:Xo)(n:Nd)(ks:List Tm)(m:List Str)(v:Int)(h:if (Nd.kind n==6)=true then(Ux (enc (Nd.name n)) (PV.bool true) (Yf m))=true∧(E 99 ⟨ZN 29 0 [],[(.obj (.box [(.map 1)])),(.obj (.map (WS (enc (Nd.name n)) (PV.bool true) (Yf m)))),(.obj (.box (ZY n ks)))]⟩ (fun x S'=>KO Bl E 3 (fun st=>G st.heap) UH 99 x S'))else(if (Nd.kind n==8)=true then(Ux (enc (Nd.name n)) (PV.bool true) (Yf m))=true∧(E 99 ⟨ZN 29 0 [],[(.obj (.box [(.map 1)])),(.obj (.map (WS (enc (Nd.name n)) (PV.bool true) (Yf m)))),(.obj (.box (ZY n ks)))]⟩ (fun x S'=>KO Bl E 3 (fun st=>G st.heap) UH 99 x S'))else(if (Nd.kind n==9)=true then(Ux (enc (Nd.name n)) (PV.bool true) (Yf m))=true∧(E 99 ⟨ZN 29 0 [],[(.obj (.box [(.map 1)])),(.obj (.map (WS (enc (Nd.name n)) (PV.bool true) (Yf m)))),(.obj (.box (ZY n ks)))]⟩ (fun x S'=>KO Bl E 3 (fun st=>G st.heap) UH 99 x S'))else(E 99 ⟨ZN 29 0 [],[(.obj (.box [(.map 1)])),(.obj (.map (Yf m))),(.obj (.box (ZY n ks)))]⟩ (fun x S'=>KO Bl E 3 (fun st=>G st.heap) UH 99 x S'))))):ZE Bl E 3 (fun st=>G st.heap) (.inl UH) [.seq (.ext 99 [])] ⟨ZN 29 0 [(3,.ptr 0 0),(4,.ptr 2 0)],[.obj (.box [.map 1]),.obj (.map (Yf m)),.obj (.box [.pv (enc n.kind),.pv (enc n.line),.pv (enc n.name),.pv (enc n.num),.pv (enc n.elem),.pv (enc n.dims),.pv (enc n.data),.pv (enc n.sizes),.pv (enc n.ranks),.pv (enc ks)])]⟩:=ZE.mh (dm [] 41 0x10024222201222200642222012222222200a42) h
end Go.Pl
namespace Go.Pl
open Go.RowKit
open Enc (enc dec is)
open EncL (encL decL isL)
set_option maxRecDepth 100000
abbrev d6t(ps:List PV)(k:Bool->Prop):Prop:=XT (fun(x:Tm×Unit)=>tW (Prod.fst x)) (fun(x:Tm×Unit)=>Ka (Prod.fst x)) ps k
noncomputable def Pn:IC:=Xy Proofs.Tryz.f58
def Nt:List IRes:=[(.tmp 2)]
abbrev c3x:Nat:=4
def EM:Zz:=Yr []
theorem d2u{G:AV×List AObj×List AObj->Prop}(n:Nd)(ks:List Tm)(h:G (((.fn 80 [] [(.ptr 0 0)]),([],[(.box [(.pv (.int .i64 (Nd.kind n))),(.pv (.int .i64 (Nd.line n))),(.pv (.str (Str.s (Nd.name n)))),(.pv (.int .i64 (Nd.num n))),(.pv (.str (Str.s (Nd.elem n)))),(.pv (.sl 1 false (List.map enc (Nd.dims n)))),(.pv (.sl 1 false (List.map enc (Nd.data n)))),(.pv (.sl 2 false (List.map enc (Nd.sizes n)))),(.pv (.sl 1 false (List.map enc (Nd.ranks n)))),(.pv (.sl 10 false (List.map enc ks)))])])))):Zc EM 0 (Yj 0 Nt G) Pn [] (WF 4 [.pv (.agg [enc n.kind,enc n.line,enc n.name,enc n.num,enc n.elem,enc n.dims,enc n.data,enc n.sizes,enc n.ranks,enc ks])] []):=Zc.to (.nil) h
noncomputable def Dl:IC:=icx Qc Proofs.Tryz.f22
def Ju:List IRes:=[(.cell false 1 2)]
abbrev d1p:Nat:=23
noncomputable def Jn:Zz:=Yr [(58,.own YJ (XH 80)),(59,.pure (preT (fun x:Tm×Unit=>tW x.1)) (Zi (fun x:Tm×Unit=>Ka x.1)))]
theorem d9f{G:PV->Prop}(E:Xo)(n:Nd)(ks:List Tm)(h:(YJ [(.pv (.agg [(.int .i64 (Nd.kind n)),(.int .i64 (Nd.line n)),(.str (Str.s (Nd.name n))),(.int .i64 (Nd.num n)),(.str (Str.s (Nd.elem n))),(.sl 1 false (List.map enc (Nd.dims n))),(.sl 1 false (List.map enc (Nd.data n))),(.sl 2 false (List.map enc (Nd.sizes n))),(.sl 1 false (List.map enc (Nd.ranks n))),(.sl 10 false (List.map enc ks))]))] [])=true∧(E 0 ⟨ZN 23 0 [(2,(.ptr 0 0)),(3,(.ptr 1 0)),(4,.undef),(5,.undef),(7,(.fn 80 [] [(.ptr 2 0)])),(8,.undef),(9,.undef),(10,.undef),(11,.undef),(12,.undef),(13,.undef),(14,.undef),(15,.undef),(16,.undef),(17,.undef),(18,.undef),(19,.undef),(20,.undef),(21,.undef),(22,.undef)],[(.obj (.box [(.pv (.bool false))])),(.obj (.box [(.pv (.int .i64 0))])),(.obj (.box [(.pv (.int .i64 (Nd.kind n))),(.pv (.int .i64 (Nd.line n))),(.pv (.str (Str.s (Nd.name n)))),(.pv (.int .i64 (Nd.num n))),(.pv (.str (Str.s (Nd.elem n)))),(.pv (.sl 1 false (List.map enc (Nd.dims n)))),(.pv (.sl 1 false (List.map enc (Nd.data n)))),(.pv (.sl 2 false (List.map enc (Nd.sizes n)))),(.pv (.sl 1 false (List.map enc (Nd.ranks n)))),(.pv (.sl 10 false (List.map enc ks)))]))]⟩ (fun x S'=>KO Jn E 0 (Zb Ju G) Dl 0 x S'))):ZE Jn E 0 (Zb Ju G) (.inl Dl) [] (ZJ 23 [.agg [enc n.kind,enc n.line,enc n.name,enc n.num,enc n.elem,enc n.dims,enc n.data,enc n.sizes,enc n.ranks,enc ks]]):=ZE.mp (.req (.keep (.nil))) h
theorem d1j{G:PV->Prop}(E:Xo)(n:Nd)(ks:List Tm)(c:Int)(h:G ((.bool true))):KO Jn E 0 (Zb Ju G) Dl 0 .normal ⟨ZN 23 0 [(2,.ptr 0 0),(3,.ptr 1 0)],[.obj (.box [.pv (.bool false)]),.obj (.box [.pv (.int .i64 c)])]⟩:=ZE.mp (.nil) h
theorem c6w{G:PV->Prop}(E:Xo)(n:Nd)(ks:List Tm)(c:Int)(rest:List Slot)(h:G ((.bool false))):KO Jn E 0 (Zb Ju G) Dl 0 .ret ⟨ZN 23 0 [(2,.ptr 0 0),(3,.ptr 1 0)],(.obj (.box [.pv (.bool false)]):: .obj (.box [.pv (.int .i64 c)])::rest)⟩:=ZE.mp (.nil) h
def Bg:IC:=(Wh [Zx 4 (.alloc (.agg [(.int .i64 0),(.int .i64 0),(.str []),(.int .i64 0),(.str []),(.sl 0 true []),(.sl 0 true []),(.sl 0 true []),(.sl 0 true []),(.sl 0 true [])])) 0,Tz (.store 10 (.t 4) (.t 8)) 1] (.reg [Zx 5 (Y9 9) 0] none))
noncomputable def c7z:Zz:=Yr [(58,.own YJ (XH 80)),(59,.pure (preT (fun x:Tm×Unit=>tW x.1)) (Zi (fun x:Tm×Unit=>Ka x.1)))]
theorem d4a{G:Zt->Prop}(E:Xo)(n:Nd)(ks:List Tm)(c v:Int)(h:E 99 ⟨ZN 23 0 [(2,(.ptr 0 0)),(3,(.ptr 1 0)),(4,(.ptr 2 0)),(5,(.pv (.int .i64 v)))],[(.obj (.box [(.pv (.bool false))])),(.obj (.box [(.pv (.int .i64 c))])),(.obj (.box [(.pv (.int .i64 (Nd.kind n))),(.pv (.int .i64 (Nd.line n))),(.pv (.str (Str.s (Nd.name n)))),(.pv (.int .i64 (Nd.num n))),(.pv (.str (Str.s (Nd.elem n)))),(.pv (.sl 1 false (List.map enc (Nd.dims n)))),(.pv (.sl 1 false (List.map enc (Nd.data n)))),(.pv (.sl 2 false (List.map enc (Nd.sizes n)))),(.pv (.sl 1 false (List.map enc (Nd.ranks n)))),(.pv (.sl 10 false (List.map enc ks)))]))]⟩ (fun x S'=>KO c7z E 2 (fun st=>G st.heap) Bg 99 x S')):ZE c7z E 2 (fun st=>G st.heap) (.inl Bg) [.seq (.ext 99 [2,3,4,5])] ⟨ZN 23 0 [(2,.ptr 0 0),(3,.ptr 1 0),(8,.pv (.agg [enc n.kind,enc n.line,enc n.name,enc n.num,enc n.elem,enc n.dims,enc n.data,enc n.sizes,enc n.ranks,enc ks])),(9,.pv (.int .i64 v))],[.obj (.box [.pv (.bool false)]),.obj (.box [.pv (.int .i64 c)])]⟩:=ZE.mh (.nil) h
def Sv:IC:=(.block 1 (Wh [Zx 10 (D7 [(.int .i64)] (.t 3)) 0,Zx 11 (Kw .add (.t 10) (WL 1)) 0,Tz (.store 1 (.t 3) (.t 11)) 0] (Wh [Zx 12 (D7 [(.int .i64)] (.t 3)) 0,Zx 13 (Kw .gtr (.t 12) (WL 400)) 0,Zx 14 (Y9 13) 0,Sa 15 (Y9 5) 0 14,Sa 16 (Kw .gtr (.t 15) (WL 40)) 0 14,Zx 17 (.pick (.t 14) (.c (.bool true)) (.t 16)) 0,Zx 18 (Y9 17) 0,Sa 19 (.load true [(.int .i64),(.int .i64),.str,(.int .i64),.str,(.sl 1),(.sl 1),(.sl 2),(.sl 1),(.sl 10)] (.t 4)) 0 18,Sa 20 (c'' 59 [(.t 19)]) 0 18,Sa 21 (.un .not (.t 20)) 2 18,Zx 22 (.pick (.t 18) (.c (.bool true)) (.t 21)) 2] (.cond (.t 22) (Wh [Tz (.store 1 (.t 2) (.c (.bool false))) 0] .ret) .skip))))
noncomputable def c9v:Zz:=Yr [(58,.own YJ (XH 80)),(59,.pure (preT (fun x:Tm×Unit=>tW x.1)) (Zi (fun x:Tm×Unit=>Ka x.1)))]
theorem d5e{G:Zt->Prop}(E:Xo)(n:Nd)(ks:List Tm)(c v:Int)(h:if (decide (IntKind.wrap IntKind.i64 (c+1)>400))=true then G ([(.obj (.box [(.pv (.bool false))])),(.obj (.box [(.pv (.int .i64 (IntKind.wrap IntKind.i64 (c+1))))])),(.obj (.box [(.pv (.int .i64 (Nd.kind n))),(.pv (.int .i64 (Nd.line n))),(.pv (.str (Str.s (Nd.name n)))),(.pv (.int .i64 (Nd.num n))),(.pv (.str (Str.s (Nd.elem n)))),(.pv (.sl 1 false (List.map enc (Nd.dims n)))),(.pv (.sl 1 false (List.map enc (Nd.data n)))),(.pv (.sl 2 false (List.map enc (Nd.sizes n)))),(.pv (.sl 1 false (List.map enc (Nd.ranks n)))),(.pv (.sl 10 false (List.map enc ks)))])),.fresh,.fresh])else(if (decide (v>40))=true then G ([(.obj (.box [(.pv (.bool false))])),(.obj (.box [(.pv (.int .i64 (IntKind.wrap IntKind.i64 (c+1))))])),(.obj (.box [(.pv (.int .i64 (Nd.kind n))),(.pv (.int .i64 (Nd.line n))),(.pv (.str (Str.s (Nd.name n)))),(.pv (.int .i64 (Nd.num n))),(.pv (.str (Str.s (Nd.elem n)))),(.pv (.sl 1 false (List.map enc (Nd.dims n)))),(.pv (.sl 1 false (List.map enc (Nd.data n)))),(.pv (.sl 2 false (List.map enc (Nd.sizes n)))),(.pv (.sl 1 false (List.map enc (Nd.ranks n)))),(.pv (.sl 10 false (List.map enc ks)))])),.fresh,.fresh])else((d6t [(.agg [(.int .i64 (Nd.kind n)),(.int .i64 (Nd.line n)),(.str (Str.s (Nd.name n))),(.int .i64 (Nd.num n)),(.str (Str.s (Nd.elem n))),(.sl 1 false (List.map enc (Nd.dims n))),(.sl 1 false (List.map enc (Nd.data n))),(.sl 2 false (List.map enc (Nd.sizes n))),(.sl 1 false (List.map enc (Nd.ranks n))),(.sl 10 false (List.map enc ks))])] fun y0=>(if (!y0)=true then G ([(.obj (.box [(.pv (.bool false))])),(.obj (.box [(.pv (.int .i64 (IntKind.wrap IntKind.i64 (c+1))))])),(.obj (.box [(.pv (.int .i64 (Nd.kind n))),(.pv (.int .i64 (Nd.line n))),(.pv (.str (Str.s (Nd.name n)))),(.pv (.int .i64 (Nd.num n))),(.pv (.str (Str.s (Nd.elem n)))),(.pv (.sl 1 false (List.map enc (Nd.dims n)))),(.pv (.sl 1 false (List.map enc (Nd.data n)))),(.pv (.sl 2 false (List.map enc (Nd.sizes n)))),(.pv (.sl 1 false (List.map enc (Nd.ranks n)))),(.pv (.sl 10 false (List.map enc ks)))])),.fresh,.fresh])else(E 99 ⟨ZN 23 0 [],[(.obj (.box [(.pv (.bool false))])),(.obj (.box [(.pv (.int .i64 (IntKind.wrap IntKind.i64 (c+1))))])),(.obj (.box [(.pv (.int .i64 (Nd.kind n))),(.pv (.int .i64 (Nd.line n))),(.pv (.str (Str.s (Nd.name n)))),(.pv (.int .i64 (Nd.num n))),(.pv (.str (Str.s (Nd.elem n)))),(.pv (.sl 1 false (List.map enc (Nd.dims n)))),(.pv (.sl 1 false (List.map enc (Nd.data n)))),(.pv (.sl 2 false (List.map enc (Nd.sizes n)))),(.pv (.sl 1 false (List.map enc (Nd.ranks n)))),(.pv (.sl 10 false (List.map enc ks)))]))]⟩ (fun x S'=>KO c9v E 3 (fun st=>G st.heap) Sv 99 x S'))))))):ZE c9v E 3 (fun st=>G st.heap) (.inl Sv) [.seq (.ext 99 [])] ⟨ZN 23 0 [(2,.ptr 0 0),(3,.ptr 1 0),(4,.ptr 2 0),(5,.pv (.int .i64 v))],[.obj (.box [.pv (.bool false)]),.obj (.box [.pv (.int .i64 c)]),.obj (.box [.pv (enc n.kind),.pv (enc n.line),.pv (enc n.name),.pv (enc n.num),.pv (enc n.elem),.pv (enc n.dims),.pv (enc n.data),.pv (enc n.sizes),.pv (enc n.ranks),.pv (enc ks)])]⟩:=ZE.mh (dm [dv Bool] 38 0x142251202222005422202222222008422) h
end Go.Pl
namespace Go.Pl
open Go.RowKit
open Enc (enc dec is)
open EncL (encL decL isL)
theorem c3i{s:Str}:(s=⟨[]⟩) ↔ s.s=[]:=by cases s;simp
theorem c6y(n:Nd):YQ n 0 0=BJ n:=by
 unfold YQ BJ
 cases n.sizes <;> cases n.ranks <;> simp <;> omega
theorem c7i(k:Nat):((k:Int)=1) ↔ k=1:=by omega
theorem c5x(k:Nat):((k:Int)=2) ↔ k=2:=by omega
theorem c5y(k:Nat):((1:Int)<=(k:Int)) ↔ 1<=k:=by omega
theorem b8s(k:Nat):((k:Int)<=16) ↔ k<=16:=by omega
theorem b3r(n:Nd):YQ n 1 0=(decide (n.sizes.length<=1)&&n.sizes.all ZH&&n.ranks.isEmpty):=by
 unfold YQ
 rw[show decide ((n.sizes.length:Int)<=1)=decide (n.sizes.length<=1)from decide_eq_decide.2 (by omega),show decide ((n.ranks.length:Int)<=0)=n.ranks.isEmpty by cases n.ranks <;> simp <;> omega,Bool.and_assoc,Bool.and_assoc,Bool.and_comm n.ranks.isEmpty]
set_option maxHeartbeats 2000000 in
theorem a9n: ∀ x:Tm×Unit,tW x.1=true->Zc Pv 0 (Zb BF (Zm (Ka x.1))) LA [] (ZJ b6l (encL x)):=by
 rintro⟨⟨n,ks⟩,⟨⟩⟩ ht
 rw[<- WX]
 show Zc Pv 0 (Zb BF (Zm (V8 n ks.length))) _ _ _
 have hnm:decide (n.name.s.length<=1048576)=true:=decide_eq_true (NC ht).name
 have har:CE (CP n)=true:=c0k ht
 have leaf : ∀ b:Bool,V8 n ks.length=b->Zm (V8 n ks.length) (.bool b):=fun b h=>Zp h.symm
 refine c3u n ks ?_
 refine Y3 (fun h1=>leaf _ ?_) fun h1=>Y3 (fun h2=>leaf _ ?_) fun h2=> ?_
 ·unfold V8;rw[decide_eq_false (by omega)];rfl
 ·unfold V8;rw[decide_eq_false (show ¬ n.line<=10000 by omega)];simp
 have hk:V8 n ks.length=XK n ks.length:=by
  unfold V8;rw[decide_eq_true (by omega),decide_eq_true (show n.line<=10000 by omega)];simp
 rw[hk]at leaf ⊢
 repeat' (first
  | refine YO (fun h=> ?_) (fun h=> ?_)
  | refine Y3 (fun h=> ?_) (fun h=> ?_)
  | refine XM (fun h=> ?_) (fun h=> ?_)
  | refine⟨Ze (n.name,()) rfl hnm,Zd (n.name,()) rfl ?_⟩
  | refine⟨Ze (.mk n ks,0,0,()) (Ui n ks 0 0) ht,Zd (.mk n ks,0,0,()) (Ui n ks 0 0) ?_⟩
  | refine⟨Ze (.mk n ks,1,0,()) (Ui n ks 1 0) ht,Zd (.mk n ks,1,0,()) (Ui n ks 1 0) ?_⟩
  | refine⟨Ze (.mk n ks,()) (WX n ks) ht,Zd (.mk n ks,()) (WX n ks) ?_⟩
  | refine⟨Ze (CP n,()) rfl har,Zd (CP n,()) rfl ?_⟩
  | refine leaf _ ?_)
 all_goals clear ht hnm har leaf hk
 all_goals (unfold XK Su;simp_all[c3i,Tm.nd,Tm.ks,c6y,CP,c7i,c5x,c5y,b8s,b3r])
 intro hk
 omega
end Go.Pl
namespace Go.Proofs.YtgdebdgkofkeeaaGreatDoor
open Go.RowKit Go.Pl
open Enc (enc dec is)
open EncL (encL decL isL)
set_option maxRecDepth 100000
def ndC(n:Nd)(ks:List Tm):List PV:=[enc n.kind,enc n.line,enc n.name,enc n.num,enc n.elem,enc n.dims,enc n.data,enc n.sizes,enc n.ranks,enc ks]
abbrev wkT:Zz:=Yr []
def eW(L:List (Nat×AV)):List AV:=ZN 28 0 L
def wk0(n:Nd)(ks:List Tm)(lev:Int)(l:Nat):List (Nat×AV):=[(0,.pv (.agg (ndC n ks))),(1,.pv (.int .i64 lev)),(2,.yld l)]
def wk1(n:Nd)(ks:List Tm)(lev:Int)(l:Nat):List (Nat×AV):=wk0 n ks lev l++[(3,.ptr 0 0),(6,.pv (.bool false))]
def wk2(n:Nd)(ks:List Tm)(lev:Int)(l:Nat):List (Nat×AV):=wk1 n ks lev l++[(9,.yld l),(10,.pv (.agg (ndC n ks))),(11,.pv (.int .i64 lev))]
def wk3(n:Nd)(ks:List Tm)(lev:Int)(l:Nat)(b:Bool):List (Nat×AV):=wk2 n ks lev l++[(12,.pv (.bool b))]
def wk4(n:Nd)(ks:List Tm)(lev:Int)(l:Nat)(b:Bool):List (Nat×AV):=wk3 n ks lev l b++[(13,.pv (.bool (!b)))]
def wk5(n:Nd)(ks:List Tm)(lev:Int)(l:Nat):List (Nat×AV):=wk4 n ks lev l true++[(14,.ptr 0 9),(15,.pv (enc ks)),(16,.pv (.int .i64 (ks.map enc).length)),(17,.pv (.int .i64 0))]
def wl0(ks:List Tm)(lev:Int)(l:Nat)(i:Int):List (Nat×AV):=[(17,.pv (.int .i64 i)),(16,.pv (.int .i64 (ks.map enc).length)),(15,.pv (enc ks)),(1,.pv (.int .i64 lev)),(2,.yld l)]
def wl1(ks:List Tm)(lev:Int)(l:Nat)(i:Int):List (Nat×AV):=wl0 ks lev l i++[(18,.pv (.bool (decide (i<((ks.map enc).length:Int)))))]
def wl5(ks:List Tm)(lev:Int)(l:Nat)(i:Int)(n:Nd)(kk:List Tm):List (Nat×AV):=wl1 ks lev l i++[(19,.pv (.rptr (ndC n kk))),(20,.pv (.agg (ndC n kk))),(8,.ptr 0 0)]
def wl6(ks:List Tm)(lev:Int)(l:Nat)(i:Int)(n:Nd)(kk:List Tm):List (Nat×AV):=wl5 ks lev l i n kk++[(21,.pv (.agg (ndC n kk))),(22,.pv (.int .i64 lev)),(23,.pv (.int .i64 (IntKind.i64.wrap (lev+1)))),(24,.yld l)]
def wl7(ks:List Tm)(lev:Int)(l:Nat)(i:Int)(b:Bool):List (Nat×AV):=wl0 ks lev l i++[(25,.pv (.bool b))]
def wl8(ks:List Tm)(lev:Int)(l:Nat)(i:Int)(b:Bool):List (Nat×AV):=wl7 ks lev l i b++[(26,.pv (.bool (!b)))]
def wl9(ks:List Tm)(lev:Int)(l:Nat)(i:Int):List (Nat×AV):=[(27,.pv (.int .i64 (IntKind.i64.wrap (i+1)))),(17,.pv (.int .i64 (IntKind.i64.wrap (i+1)))),(16,.pv (.int .i64 (ks.map enc).length)),(15,.pv (enc ks)),(1,.pv (.int .i64 lev)),(2,.yld l)]
def bx(n:Nd)(ks:List Tm):Zt:=[.obj (.box ((ndC n ks).map .pv))]
theorem ER{T:Zz}{base d L sz:Nat}{env:List AV}{σ:Zt}{x i:IOp}{t:Bool}{xs:List PV}{n:Nat}{k:IntKind}{p:PV}{ps:List PI}(hx:ev env x = .pv (.sl sz t xs))(hi:ev env i = .pv (.int k (n:Int)))(hp:xs[n]? = some p):
  UV T base (⟨some d,.iaddr sz x i,L,none⟩::ps) ⟨env,σ⟩=UV T base ps ⟨env.set d (.pv (.rptr p.cells)),σ⟩:=by
 have hlt:n<xs.length:=(List.getElem?_eq_some_iff.1 hp).1
 have hg:xs[n]=p:=(List.getElem?_eq_some_iff.1 hp).2
 have h:(Xg T (base+L) env (.iaddr sz x i)).run σ=some (.pv (.rptr p.cells),σ):=by
  simp only[Xg,YM,hx,hi]
  simp[HM.run,hlt,hg]
 show(H5 T base ⟨some d,.iaddr sz x i,L,none⟩ ⟨env,σ⟩).bind (UV T base ps)=_
 simp only[H5,YX,h,Option.map_some,Option.bind_some,Yb]
set_option maxHeartbeats 1000000 in
theorem d5a: ∃ (o0 o1 o2 o3 o4 o5 o6 o7 o8 o9:Array Oper) (a1 b1 a6 b6:List Oper) (y c:Oper) (t1 t2:Array TypeId),
  Tryz.f81.body=some ((Code.region 0 o0 false).seq (((Code.region 1 o1 false).seq (Code.cond (.tmp 13) ((Code.region 2 o2 false).seq .ret) .skip)).seq (((Code.region 3 o3 false).seq (Code.block 0
   (Code.loop ((Code.region 4 o4 false).seq ((Code.cond (.tmp 18) .skip (.exit 0)).seq ((Code.block 1 ((Code.region 5 o5 false).seq ((Code.region 6 o6 false).seq (Code.cond (.tmp 26) ((Code.region 7 o7 false).seq .ret) .skip)))).seq (Code.region 8 o8 false))))))).seq ((Code.region 9 o9 false).seq .ret)))) ∧
  o1.toList=a1++y::b1∧y.op = .call {callee:=.value (.tmp 9),args:=#[.tmp 10,.tmp 11],argTypes:=t1}∧y.guard=none∧y.dst=some 12 ∧
  o6.toList=a6++c::b6∧c.op = .call {callee:=.value (.func 81),args:=#[.tmp 21,.tmp 23,.tmp 24],argTypes:=t2}∧c.guard=none∧c.dst=some 25 ∧
  (∀ n ks lev l,Qr Tryz.prog wkT o0 o0.toList ⟨eW (wk0 n ks lev l),[]⟩=some ⟨eW (wk1 n ks lev l),bx n ks⟩) ∧
  (∀ n ks lev l,Qr Tryz.prog wkT o1 a1 ⟨eW (wk1 n ks lev l),bx n ks⟩=some ⟨eW (wk2 n ks lev l),bx n ks⟩) ∧
  (∀ n ks lev l b,Qr Tryz.prog wkT o1 b1 ⟨eW (wk3 n ks lev l b),bx n ks⟩=some ⟨eW (wk4 n ks lev l b),bx n ks⟩) ∧
  (∀ L,Qr Tryz.prog wkT o2 o2.toList ⟨eW L,[]⟩=some ⟨(eW L).set 6 (.pv (.bool false)),[]⟩) ∧
  (∀ n ks lev l,Qr Tryz.prog wkT o3 o3.toList ⟨eW (wk4 n ks lev l true),bx n ks⟩=some ⟨eW (wk5 n ks lev l),bx n ks⟩) ∧
  (∀ ks lev l i,Qr Tryz.prog wkT o4 o4.toList ⟨eW (wl0 ks lev l i),[]⟩=some ⟨eW (wl1 ks lev l i),[]⟩) ∧
  (∀ ks lev l (i:Nat) n kk,ks[i]? = some (.mk n kk)->Qr Tryz.prog wkT o5 o5.toList ⟨eW (wl1 ks lev l i),[]⟩=some ⟨eW (wl5 ks lev l i n kk),bx n kk⟩) ∧
  (∀ ks lev l i n kk,Qr Tryz.prog wkT o6 a6 ⟨eW (wl5 ks lev l i n kk),bx n kk⟩=some ⟨eW (wl6 ks lev l i n kk),bx n kk⟩) ∧
  (∀ ks lev l i b,Qr Tryz.prog wkT o6 b6 ⟨eW (wl7 ks lev l i b),[]⟩=some ⟨eW (wl8 ks lev l i b),[]⟩) ∧
  (∀ L,Qr Tryz.prog wkT o7 o7.toList ⟨eW L,[]⟩=some ⟨(eW L).set 6 (.pv (.bool false)),[]⟩) ∧
  (∀ ks lev l i,Qr Tryz.prog wkT o8 o8.toList ⟨eW (wl0 ks lev l i),[]⟩=some ⟨eW (wl9 ks lev l i),[]⟩) ∧
  (∀ L,Qr Tryz.prog wkT o9 o9.toList ⟨eW L,[]⟩=some ⟨(eW L).set 6 (.pv (.bool true)),[]⟩):=by
 refine⟨_,_,_,_,_,_,_,_,_,_,[_,_,_],[_],[_,_,_,_],[_],_,_,_,_,rfl,rfl,rfl,rfl,rfl,rfl,rfl,rfl,rfl,?_,?_,?_,?_,?_,?_,?_,?_,?_,?_,?_,?_⟩
 ·intro n ks lev l;kernel_rfl
 ·intro n ks lev l;kernel_rfl
 ·intro n ks lev l b;kernel_rfl
 ·intro L;kernel_rfl
 ·intro n ks lev l;kernel_rfl
 ·intro ks lev l i;kernel_rfl
 ·intro ks lev l i n kk h
  unfold Qr
  refine(Option.bind_eq_some_iff).2 ⟨_,(show Y1 _ _ _ _=some [⟨some 19,.iaddr 10 (.t 15) (.t 17),0,none⟩,⟨some 20,.load true [.int .i64,.int .i64,.str,.int .i64,.str,.sl 1,.sl 1,.sl 2,.sl 1,.sl 10] (.t 19),0,none⟩,⟨some 8,.alloc (.agg [.int .i64 0,.int .i64 0,.str [],.int .i64 0,.str [],.sl 0 true [],.sl 0 true [],.sl 0 true [],.sl 0 true [],.sl 0 true []]),0,none⟩,⟨none,.store 10 (.t 8) (.t 20),1,none⟩] by kernel_rfl),?_⟩
  have hk:(ks.map (enc:Tm->PV))[i]? = some (.agg (ndC n kk)):=by
   rw[List.getElem?_map,h,Option.map_some,ZF];rfl
  refine(ER (t:=false) (xs:=ks.map enc) (k:=.i64) (n:=i) rfl rfl hk).trans ?_
  kernel_rfl
 ·intro ks lev l i n kk;kernel_rfl
 ·intro ks lev l i b;kernel_rfl
 ·intro L;kernel_rfl
 ·intro ks lev l i;kernel_rfl
 ·intro L;kernel_rfl
def encNd(x:Tm×Int):List PV:=[enc x.1,.int .i64 x.2]
def a0d(J:Nat->Zv->(Nat->Prop)->World->Prop)(Jx:Zv->(Nat->Prop)->World->Prop)(k:Nat)(Φ:Zv)(X:Nat->Prop)(W:World)(e:Ending)(W':World):Prop:=
 ∃ Φ',Φ.le Φ'∧(∀ b,X b->W'.heap[b]? = W.heap[b]?)∧((e = .returned (.bool true)∧J k Φ' X W')∨(e = .returned (.bool false)∧Jx Φ' X W'))
theorem Qw(a b:List Tm):Zq (a++b)=Zq a+Zq b:=by rw[Jw,Jw,Jw,List.map_append,List.sum_append]
theorem MX(l:Nat)(a b:List Tm):ZK l (a++b)=ZK l a++ZK l b:=by rw[QB,QB,QB,List.flatMap_append]
theorem Oe{ks:List Tm}{k:Tm}(h:k∈ks):Zk k<=Zq ks:=by
 induction ks with
 | nil=>cases h
 | cons a ks ih=>
  rw[Zq]
  rcases List.mem_cons.1 h with rfl|h
  ·omega
  ·have:=ih h;omega
theorem a7f(t:Tm):1<=Zk t:=by cases t;rw[Zk];omega
theorem Oi(ks:List Tm):ks.length<=Zq ks:=by
 induction ks with
 | nil=>simp
 | cons a ks ih=>have:=a7f a;rw[Zq,List.length_cons];omega
theorem GJ(n:Nd)(ks:List Tm):OY (bx n ks):=by
 intro l o h ty sz xs e
 subst e
 match l,h with
 | 0,h=>cases h
 | l+1,h=>simp[bx]at h
theorem Qg:OY []:=by
 intro l o h
 simp at h
theorem Qv{Φ:Zv}{W:World}{a:Act}{env:List AV}(hg:GlobOK Φ)(hp:Yn Φ W)(he:YN (fun _ _=>none) Φ a.tmps env)(hd:a.defers=[]):XU (ZV (fun _ _=>none) Φ [] W) ⟨env,[]⟩ a W:=⟨_,Φ,Vg hg hp,he,hd⟩
theorem Vi{μ':Mu}{Φ Φ':Zv}{σ':Zt}{W W':World}{X:Nat->Prop}(j1:Go.Pl.Good (ZV (fun _ _=>none) Φ [] W) μ' Φ' σ' W')(hs:OY σ')(hx : ∀ b,X b->b<W.heap.size∧Φ b=none):
  Go.Pl.Steps X X Φ Φ' W W'∧(∀ b,X b->W'.heap[b]? = W.heap[b]?):=by
 obtain⟨h1,h2,h3⟩:=TC j1 hs hx
 exact⟨h1.drop fun b h=>.inl h,h2⟩
theorem Qx{μ:Mu}{Φ:Zv}{a:Act}{env:List AV}{x:Operand}{y:IOp}{b:Bool}(h:YN μ Φ a.tmps env)(hx:ZX x=some y)(he:ev env y = .pv (.bool b)):a.eval x = .bool b:=by
 have:=ZG h hx
 rw[he]at this
 generalize a.eval x=v at this ⊢
 cases ZU this
 rfl
theorem d4j{μ:Mu}{Φ:Zv}{a:Act}{env:List AV}{x:Operand}{y:IOp}{k:IntKind}{n:Int}(h:YN μ Φ a.tmps env)(hx:ZX x=some y)(he:ev env y = .pv (.int k n)):a.eval x = .int k n:=by
 have:=ZG h hx
 rw[he]at this
 generalize a.eval x=v at this ⊢
 cases ZU this
 rfl
theorem OX{μ:Mu}{Φ:Zv}{a:Act}{env:List AV}{x:Operand}{y:IOp}{l:Nat}(h:YN μ Φ a.tmps env)(hx:ZX x=some y)(he:ev env y = .yld l):a.eval x = .func (.yield l) #[] #[]:=by
 have:=ZG h hx
 rw[he]at this
 generalize a.eval x=v at this ⊢
 cases this
 rfl
theorem a4f{μ:Mu}{Φ:Zv}{a:Act}{env:List AV}{x:Operand}{y:IOp}{p:PV}(h:YN μ Φ a.tmps env)(hx:ZX x=some y)(he:ev env y = .pv p):RP Φ (a.eval x) p:=by
 have:=ZG h hx
 rw[he]at this
 exact ZU this
theorem d3f{id:Nat}{ops:Array Oper}{b:Bool}{Q:YF}{a:Act}{w:World}{Φ:Zv}{X:Nat->Prop}{J:Zv->(Nat->Prop)->World->Prop}(hJ:JOK J)(hj:J Φ X w)(hd:a.defers=[])(hsz:a.tmps.size=28)
  (h : ∀ L,Qr Tryz.prog wkT ops ops.toList ⟨eW L,[]⟩=some ⟨(eW L).set 6 (.pv (.bool b)),[]⟩)
  (hQ : ∀ (a':Act) w' Φ',a'.defers=[]->a'.tmps.getD 6 undef = .bool b->Φ.le Φ'->(∀ b,X b->w'.heap[b]? = w.heap[b]?)->J Φ' X w'->Q .ret a' w'):((Code.region id ops false).seq .ret).wpIn (Yx none) 4 Tryz.prog Q a w:=by
 refine wpIn_seq (Dq Zf (h []) (Qv (hJ.glob hj) (hJ.phi hj) (Pw (L:=[]) (n:=28) hsz (fun p hp=>by cases hp)) hd) ?_)
 rintro a' w' ⟨μ',Φ',hg,he,hd'⟩
 refine wpIn_ret ?_
 obtain⟨s1,s2⟩:=Vi hg Qg (fun b hb=>hJ.out hj hb)
 exact hQ a' w' Φ' hd' (Qx (x:=.tmp 6) (y:=.t 6) he rfl (by cases b <;> kernel_rfl)) hg.Φle s2 (hJ.step hj s1)
theorem d7c{Φ:Zv}{v:Value}{n:Nd}{ks:List Tm}{lev:Nat}{l:Nat}(hv:RP Φ v (.agg (ndC n ks))):YN (fun _ _=>none) Φ (#[v,.int .i64 lev,.func (.yield l) #[] #[]]++Array.replicate 25 undef) (eW (wk0 n ks lev l)):=by
 refine Pw (by simp) ?_
 intro q hq u hu
 simp only[wk0,List.mem_cons,List.not_mem_nil,or_false]at hq
 rcases hq with rfl|rfl|rfl
 ·simp[Array.getElem?_append]at hu
  subst hu
  exact .pv _ _ hv
 ·simp[Array.getElem?_append]at hu
  subst hu
  exact .pv _ _ (.int _ _)
 ·simp[Array.getElem?_append]at hu
  subst hu
  exact .yld l
theorem EQ{μ:Mu}{Φ:Zv}{t:Array Value}{L:List (Nat×AV)}(h:YN μ Φ t (eW L)):t.size=28:=(BQ (n:=28) h).1
set_option maxHeartbeats 4000000 in
theorem c4s{l:Nat}{J:Nat->Zv->(Nat->Prop)->World->Prop}{Jx:Zv->(Nat->Prop)->World->Prop}{xs:List (Tm×Int)}(hJok : ∀ k,JOK (J k))(hJxok:JOK Jx)(hY:a4x Tryz.prog l encNd xs J Jx):
  ∀ (m:Nat) (t:Tm),SizeOf.sizeOf t<m-> ∀ (lev k:Nat) (Φ:Zv) (X:Nat->Prop) (W:World) (v:Value),J k Φ X W->RP Φ v (enc t)->(∀ i x,(Zw lev t)[i]? = some x->xs[k+i]? = some x)->lev+Zk t<=4611686018427387904 ->
   Calls Tryz.prog 81 #[v,.int .i64 lev,.func (.yield l) #[] #[]] W (a0d J Jx (k+Zk t) Φ X W):=by
 intro m
 induction m with
 | zero=>intro t h;omega
 | succ m ih=>
  intro t ht lev k Φ X W v hj hv hx hlev
  obtain⟨n,ks⟩:=t
  obtain⟨o0,o1,o2,o3,o4,o5,o6,o7,o8,o9,a1,b1,a6,b6,y,c,t1,t2,hbody,e1,y1,y2,y3,e6,c1,c2,c3,h0,h1,h1b,h2,h3,h4,h5,h6,h6b,h7,h8,h9⟩:=d5a
  rw[ZF]at hv
  refine callsIn_wide.1 (callsIn_of_wp (F:=Fence.wide) (n:=4) Tryz.func81 hbody trivial ?_ rfl)
  have hE0:YN (fun _ _=>none) Φ (#[v,.int .i64 lev,.func (.yield l) #[] #[]]++Array.replicate 25 undef) (eW (wk0 n ks lev l)):=d7c hv
  have hX0 : ∀ b,X b->b<W.heap.size∧Φ b=none:=fun b hb=>(hJok k).out hj hb
  refine wpIn_seq (Dq (nn:=4) Zf (h0 n ks lev l) (Qv ((hJok k).glob hj) ((hJok k).phi hj) hE0 rfl) ?_)
  intro a w hr
  refine wpIn_seq (wpIn_seq (wpIn_region_list ?_))
  rw[e1]
  refine JE Zf (fun o ho=>by rw[e1];simp[ho]) (h1 n ks lev l) hr ?_
  rintro a2 w2 ⟨μ2,Φ2,hg2,he2,hd2⟩
  obtain⟨s2,k2,n2⟩:=TC hg2 (GJ n ks) hX0
  have hj2:=(hJok k).step hj s2
  have hx0:xs[k]? = some (.mk n ks,(lev:Int)):=hx 0 _ (by rw[Zw];rfl)
  have r10:RP Φ2 (a2.eval (.tmp 10)) (enc (Tm.mk n ks)):=by
   rw[ZF]
   exact a4f he2 (y:=.t 10) rfl (by kernel_rfl)
  have r11:RP Φ2 (a2.eval (.tmp 11)) (.int .i64 lev):=a4f he2 (y:=.t 11) rfl (by kernel_rfl)
  have hvs:XI Φ2 (#[a2.eval (.tmp 10),a2.eval (.tmp 11)]:Array Value).toList (encNd (.mk n ks,(lev:Int))):=c5k r10 (c5k r11 a2o)
  refine b4w y1 y2 y3 (OX he2 (y:=.t 9) rfl (by kernel_rfl)) (vs:=#[a2.eval (.tmp 10),a2.eval (.tmp 11)]) (by simp) (hY 3 k _ Φ2 _ w2 _ hx0 hj2 hvs) ?_
  rintro e w3 ⟨Φ3,hle3,hkeep3,hres⟩
  -- both answers
  have both : ∀ (b:Bool) (JJ:Zv->(Nat->Prop)->World->Prop),JOK JJ->JJ Φ3 (fun b=>X b∨Dk μ2 (bx n ks) b) w3-> 
    XU (ZV μ2 Φ3 (bx n ks) w3) ⟨eW (wk3 n ks lev l b),bx n ks⟩ (a2.put (some 12) (.bool b)) w3:=by
   intro b JJ hJJ hjj
   refine⟨μ2,Φ3,hg2.moved (hJJ.glob hjj) hle3 (hJJ.phi hjj) (fun q hq=>hkeep3 q (.inr hq)) (fun q hq=>(hJJ.out hjj (.inr hq)).2) (GJ n ks),?_,by rw[XR];exact hd2⟩
   have:=QA (d:=some 12) (he2.mono (.refl _) hle3) (.pv _ _ (.bool b))
   exact this
  have fin : ∀ (b:Bool) (a':Act) (w':World) (Φ':Zv),a'.defers=[]->a'.tmps.getD 6 undef = .bool b->(a0d J Jx (k+Zk (.mk n ks)) Φ X W (.returned (.bool b)) w')->bodyPost Tryz.prog Tryz.f81 (a0d J Jx (k+Zk (.mk n ks)) Φ X W) .ret a' w':=by
   intro b a' w' Φ' hd h6 hp
   refine bodyPost_ret (results_tmp rfl _ _ _) hd ?_
   rw[h6]
   exact hp
  rcases hres with ⟨rfl,hj3⟩|⟨rfl,hj3⟩
  ·refine⟨_,rfl,?_⟩
   rw[<- List.append_nil b1]
   refine JE Zf (fun o ho=>by rw[e1];simp[ho]) (h1b n ks lev l true) (both true _ (hJok _) hj3) ?_
   intro a4 w4 hr4
   have he4:=hr4
   obtain⟨μ4,Φ4,hg4,he4,hd4⟩:=he4
   refine wpIn_cond (t:=false) (Qx (x:=.tmp 13) (y:=.t 13) he4 rfl (by kernel_rfl)) (wpIn_skip ?_)
   refine wpIn_seq (wpIn_seq (Dq (nn:=4) Zf (h3 n ks lev l) hr4 ?_))
   rintro a5 w5 ⟨μ5,Φ5,hg5,he5,hd5⟩
   have hX3 : ∀ b,X b->b<w3.heap.size∧Φ3 b=none:=fun b hb=>(hJok _).out hj3 (.inl hb)
   obtain⟨s5,k5⟩:=GX hg5 (GJ n ks) hX3 n2
   have hj5:=(hJok _).step hj3 (s5.drop (Y:=X) fun b h=>.inl h)
   have hk5 : ∀ b,X b->w5.heap[b]? = W.heap[b]? :=fun b hb=>(k5 b hb).trans ((hkeep3 b (.inl hb)).trans (k2 b hb))
   have hle5:Φ.le Φ5:=hg2.Φle.trans (hle3.trans hg5.Φle)
   have he5':YN (fun _ _=>none) Φ5 a5.tmps (eW (wl0 ks lev l 0)):=c3z (n:=28) he5 (.refl _) (by
    intro p hp
    simp only[wl0,List.mem_cons,List.not_mem_nil,or_false]at hp
    rcases hp with rfl|rfl|rfl|rfl|rfl <;> exact⟨by simp,rfl,rfl⟩)
   clear both hr4 hg4 he4 hd4 hE0 hr hg2 he2 hd2 r10 r11 hvs
   refine wpIn_block (wpIn_loop_ghost (fun(z:Nat) (a:Act) (w:World)=> ∃ (i:Nat) (Φ':Zv),z=ks.length - i∧i<=ks.length∧Φ.le Φ'∧(∀ b,X b->w.heap[b]? = W.heap[b]?)∧J (k+1+Zq (ks.take i)) Φ' X w∧YN (fun _ _=>none) Φ' a.tmps (eW (wl0 ks lev l i))∧a.defers=[]) _
    ⟨0,Φ5,rfl,Nat.zero_le _,hle5,hk5,hj5,he5',hd5⟩ ?_)
   clear hj5 hk5 hle5 he5' hd5 s5 k5 hg5 he5
   rintro z a w ⟨i,Φi,rfl,hi,hle,hk,hj,he,hd⟩
   have hXi : ∀ b,X b->b<w.heap.size∧Φi b=none:=fun b hb=>(hJok _).out hj hb
   refine wpIn_seq (Dq (nn:=4) Zf (h4 ks lev l i) (Qv ((hJok _).glob hj) ((hJok _).phi hj) he hd) ?_)
   intro a7 w7 hr7
   have hr7':=hr7
   obtain⟨μ7,Φ7,hg7,he7,hd7⟩:=hr7'
   by_cases hlt:i<ks.length
   ·have hb:decide ((i:Int)<((ks.map (enc:Tm->PV)).length:Int))=true:=by simpa using hlt
    refine wpIn_seq (wpIn_cond (t:=true) (Qx (x:=.tmp 18) (y:=.t 18) he7 rfl (by rw[<- hb];kernel_rfl)) (wpIn_skip ?_))
    obtain⟨kn,kk,hkk⟩ : ∃ kn kk,ks[i]? = some (.mk kn kk):=by
     cases hki:ks[i]with
     | mk kn kk=>exact⟨kn,kk,by rw[List.getElem?_eq_getElem hlt,hki]⟩
    refine wpIn_seq (wpIn_block (wpIn_seq (Dq (nn:=4) Zf (h5 ks lev l i kn kk hkk) hr7 ?_)))
    intro a8 w8 hr8
    refine wpIn_seq (wpIn_region_list ?_)
    rw[e6]
    refine JE Zf (fun o ho=>by rw[e6];simp[ho]) (h6 ks lev l i kn kk) hr8 ?_
    rintro a9 w9 ⟨μ9,Φ9,hg9,he9,hd9⟩
    obtain⟨s9,k9⟩:=Vi hg9 (GJ kn kk) hXi
    have hj9:=(hJok _).step hj s9
    have hmem:Tm.mk kn kk∈ks:=List.mem_of_getElem? hkk
    have hsz:=a0y (n:=n) hmem
    have hdm:=Oe hmem
    have hdp:Zk (.mk n ks)=Zq ks+1:=by rw[Zk]
    have hkl:=Oi ks
    have hcut:ks=ks.take i++(.mk kn kk)::ks.drop (i+1):=by
     have h:=List.getElem?_eq_some_iff.1 hkk
     obtain⟨h1,h2⟩:=h
     rw[<- h2,List.getElem_cons_drop,List.take_append_drop]
    have r21:RP Φ9 (a9.eval (.tmp 21)) (enc (Tm.mk kn kk)):=by
     rw[ZF]
     exact a4f he9 (y:=.t 21) rfl (by kernel_rfl)
    have e23:a9.eval (.tmp 23) = .int .i64 ((lev+1:Nat):Int):=by
     have:=d4j (x:=.tmp 23) (y:=.t 23) he9 rfl (by kernel_rfl:_=AV.pv (.int .i64 (IntKind.i64.wrap ((lev:Int)+1))))
     rw[this,next (by omega)]
    have e24:a9.eval (.tmp 24) = .func (.yield l) #[] #[]:=OX he9 (y:=.t 24) rfl (by kernel_rfl)
    have hxk : ∀ j x,(Zw (lev+1) (.mk kn kk))[j]? = some x->xs[k+1+Zq (ks.take i)+j]? = some x:=by
     intro j x hjx
     have:(Zw lev (.mk n ks))[1+Zq (ks.take i)+j]? = some x:=by
      rw[Zw,show 1+Zq (ks.take i)+j=(Zq (ks.take i)+j)+1 by omega,List.getElem?_cons_succ,hcut,MX,ZK,<- hcut,<- JS (lev+1) (ks.take i),
       List.getElem?_append_right (by omega),Nat.add_sub_cancel_left,List.getElem?_append_left (List.getElem?_eq_some_iff.1 hjx).1,hjx]
     have:=hx _ _ this
     rw[<- this]
     congr 1
     omega
    have hcall:=ih (.mk kn kk) (by omega) (lev+1) (k+1+Zq (ks.take i)) Φ9 X w9 _ hj9 r21 hxk (by omega)
    refine Lr c1 c2 c3 Tryz.func81 rfl (by kernel_rfl) (vs:=#[a9.eval (.tmp 21),.int .i64 ((lev+1:Nat):Int),.func (.yield l) #[] #[]]) (by simp only[List.map_toArray,List.map_cons,List.map_nil,e23,e24]) hcall ?_
    rintro e w10 ⟨Φ10,hle10,hkeep10,hres⟩
    have hks : ∀ b,X b->w10.heap[b]? = W.heap[b]? :=fun b hb=>(hkeep10 b hb).trans ((k9 b hb).trans (hk b hb))
    have he10 : ∀ b,YN (fun _ _=>none) Φ10 (a9.put (some 25) (.bool b)).tmps (eW (wl7 ks lev l i b)):=by
     intro b
     have h:=QA (d:=some 25) (he9.mono (.refl _) hle10) (.pv _ _ (.bool b))
     refine c3z (n:=28) (L:=wl6 ks lev l i kn kk++[(25,.pv (.bool b))]) h (.refl _) ?_
     intro p hp
     simp only[wl7,wl0,List.mem_cons,List.mem_append,List.not_mem_nil,or_false]at hp
     rcases hp with (rfl|rfl|rfl|rfl|rfl)|rfl <;> exact⟨by simp,rfl,rfl⟩
    have hsz10:ks.take (i+1)=ks.take i++[.mk kn kk]:=by rw[List.take_add_one,hkk];rfl
    rcases hres with ⟨rfl,hj10⟩|⟨rfl,hj10⟩
    ·refine⟨_,rfl,?_⟩
     rw[<- List.append_nil b6]
     refine JE Zf (fun o ho=>by rw[e6];simp[ho]) (h6b ks lev l i true) (Qv ((hJok _).glob hj10) ((hJok _).phi hj10) (he10 true) (by rw[XR];exact hd9)) ?_
     intro a11 w11 hr11
     obtain⟨μ11,Φ11,hg11,he11,hd11⟩:=hr11
     obtain⟨s11,k11⟩:=Vi hg11 Qg (fun b hb=>(hJok _).out hj10 hb)
     have hj11:=(hJok _).step hj10 s11
     refine wpIn_cond (t:=false) (Qx (x:=.tmp 26) (y:=.t 26) he11 rfl (by kernel_rfl)) (wpIn_skip ?_)
     have he11':YN (fun _ _=>none) Φ11 a11.tmps (eW (wl0 ks lev l i)):=c3z (n:=28) he11 (.refl _) (by
      intro p hp
      simp only[wl0,List.mem_cons,List.not_mem_nil,or_false]at hp
      rcases hp with rfl|rfl|rfl|rfl|rfl <;> exact⟨by simp,rfl,rfl⟩)
     refine Dq (nn:=4) Zf (h8 ks lev l i) (Qv ((hJok _).glob hj11) ((hJok _).phi hj11) he11' hd11) ?_
     rintro a12 w12 ⟨μ12,Φ12,hg12,he12,hd12⟩
     obtain⟨s12,k12⟩:=Vi hg12 Qg (fun b hb=>(hJok _).out hj11 hb)
     have hj12:=(hJok _).step hj11 s12
     refine⟨ks.length - (i+1),by omega,i+1,Φ12,rfl,hlt,hle.trans (hg9.Φle.trans (hle10.trans (hg11.Φle.trans hg12.Φle))),fun b hb=>(k12 b hb).trans ((k11 b hb).trans (hks b hb)),?_,?_,hd12⟩
     ·rw[hsz10,Qw,Zq,Zq,Nat.add_zero,<- Nat.add_assoc]
      exact hj12
     ·refine c3z (n:=28) he12 (.refl _) ?_
      intro p hp
      simp only[wl0,List.mem_cons,List.not_mem_nil,or_false]at hp
      rcases hp with rfl|rfl|rfl|rfl|rfl
      ·exact⟨by simp,by rw[<- next (show i<9223372036854775807 by omega)];rfl,rfl⟩
      all_goals exact⟨by simp,rfl,rfl⟩
    ·refine⟨_,rfl,?_⟩
     rw[<- List.append_nil b6]
     refine JE Zf (fun o ho=>by rw[e6];simp[ho]) (h6b ks lev l i false) (Qv (hJxok.glob hj10) (hJxok.phi hj10) (he10 false) (by rw[XR];exact hd9)) ?_
     rintro a11 w11 ⟨μ11,Φ11,hg11,he11,hd11⟩
     obtain⟨s11,k11⟩:=Vi hg11 Qg (fun b hb=>hJxok.out hj10 hb)
     have hj11:=hJxok.step hj10 s11
     refine wpIn_cond (t:=true) (Qx (x:=.tmp 26) (y:=.t 26) he11 rfl (by kernel_rfl)) ?_
     refine d3f hJxok hj11 hd11 (EQ he11) h7 ?_
     intro a' w' Φ' hd' h6' hle' hk' hj'
     refine fin false a' w' Φ' hd' h6' ⟨Φ',?_,fun b hb=>(hk' b hb).trans ((k11 b hb).trans (hks b hb)),.inr ⟨rfl,hj'⟩⟩
     exact hle.trans (hg9.Φle.trans (hle10.trans (hg11.Φle.trans hle')))
   ·have hb:decide ((i:Int)<((ks.map (enc:Tm->PV)).length:Int))=false:=by simpa using hlt
    refine wpIn_seq (wpIn_cond (t:=false) (Qx (x:=.tmp 18) (y:=.t 18) he7 rfl (by rw[<- hb];kernel_rfl)) (wpIn_exit ?_))
    obtain⟨s7,k7⟩:=Vi hg7 Qg hXi
    have hj7:=(hJok _).step hj s7
    have hii:i=ks.length:=by omega
    subst hii
    rw[List.take_length]at hj7
    show((Code.region 9 o9 false).seq .ret).wpIn _ _ _ _ _ _
    refine d3f (hJok _) hj7 hd7 (EQ he7) h9 ?_
    intro a' w' Φ' hd' h6' hle' hk' hj'
    refine fin true a' w' Φ' hd' h6' ⟨Φ',hle.trans (hg7.Φle.trans hle'),fun b hb=>(hk' b hb).trans ((k7 b hb).trans (hk b hb)),.inl ⟨rfl,?_⟩⟩
    rw[Zk,show k+(Zq ks+1)=k+1+Zq ks by omega]
    exact hj'
  ·refine⟨_,rfl,?_⟩
   rw[<- List.append_nil b1]
   refine JE Zf (fun o ho=>by rw[e1];simp[ho]) (h1b n ks lev l false) (both false _ hJxok hj3) ?_
   rintro a4 w4 ⟨μ4,Φ4,hg4,he4,hd4⟩
   refine wpIn_cond (t:=true) (Qx (x:=.tmp 13) (y:=.t 13) he4 rfl (by kernel_rfl)) ?_
   obtain⟨s4,k4⟩:=GX hg4 (GJ n ks) (fun b hb=>hJxok.out hj3 (.inl hb)) n2
   have hj4:=hJxok.step hj3 (s4.drop (Y:=X) fun b h=>.inl h)
   refine d3f hJxok hj4 hd4 (EQ he4) h2 ?_
   intro a' w' Φ' hd' h6' hle' hk' hj'
   exact fin false a' w' Φ' hd' h6' ⟨Φ',hg2.Φle.trans (hle3.trans (hg4.Φle.trans hle')),fun b hb=>(hk' b hb).trans ((k4 b hb).trans ((hkeep3 b (.inl hb)).trans (k2 b hb))),.inr ⟨rfl,hj'⟩⟩
def d6i(pss:List (List PV)):Tm:=match pss with
 | [ps]=>dec (.agg ps)
 | _=>.mk nd0 []
noncomputable def pre_ndI(pss:List (List PV)):Bool:=match pss with
 | [ps]=>can Tm (.agg ps)&&decide (Zk (dec (.agg ps))<=1048576)
 | _=>false
def F_ndI(pss:List (List PV)):List (Tm×Int):=Zw 1 (d6i pss)
theorem tmOf_nd(n:Nd)(ks:List Tm):d6i [ndC n ks] = .mk n ks:=by
 show dec (PV.agg (ndC n ks))=_
 rw[show(PV.agg (ndC n ks))=enc (Tm.mk n ks)from(ZF n ks).symm,Enc.dec_enc]
theorem pre_nd{n:Nd}{ks:List Tm}(h:Zk (.mk n ks)<=1048576):pre_ndI [ndC n ks]=true:=by
 show(can Tm (.agg (ndC n ks))&&decide (Zk (dec (PV.agg (ndC n ks)))<=1048576))=true
 rw[show(PV.agg (ndC n ks))=enc (Tm.mk n ks)from(ZF n ks).symm,Enc.dec_enc,Us,Bool.true_and]
 exact decide_eq_true h
theorem d0y: ∃ (o:Array Oper) (a:List Oper) (c:Oper) (t:Array TypeId),Tryz.f80.body=some (.region 0 o false)∧o.toList=a++[c] ∧
  c.op = .call {callee:=.value (.func 81),args:=#[.tmp 3,.const (.int .i64 1),.tmp 4],argTypes:=t}∧c.guard=none∧c.dst=some 5 ∧
  ∀ n ks l,Qr Tryz.prog wkT o a ⟨ZN 6 0 [(0,.yld l),(1,.pv (.rptr (ndC n ks)))],[]⟩=some ⟨ZN 6 0 [(0,.yld l),(1,.pv (.rptr (ndC n ks))),(3,.pv (.agg (ndC n ks))),(4,.yld l)],[]⟩:=by
 refine⟨_,[_,_],_,_,rfl,rfl,rfl,rfl,rfl,?_⟩
 intro n ks l
 kernel_rfl
set_option maxHeartbeats 1000000 in
theorem Gf:b1z Tryz.prog 80 encNd pre_ndI F_ndI:=by
 refine⟨⟨_,Tryz.func80,rfl,rfl⟩,?_⟩
 intro pss hpre Φ0 lb l J Jx W hcaps hJok hJxok hY h0
 unfold pre_ndI at hpre
 split at hpre
 ·rename_i ps
  simp only[Bool.and_eq_true,decide_eq_true_eq]at hpre
  obtain⟨hc,hsz⟩:=hpre
  obtain⟨t,ht⟩:=PW hc
  obtain⟨n,ks⟩:=t
  rw[ht,Enc.dec_enc]at hsz
  rw[ZF]at ht
  obtain rfl:ps=ndC n ks:=by injection ht
  have hF:F_ndI [ndC n ks]=Zw 1 (.mk n ks):=by unfold F_ndI;rw[tmOf_nd]
  rw[hF]at hY ⊢
  obtain⟨lb⟩:=lb
  match lb,hcaps.1 with
  | [p1],_=>
   obtain⟨B1,c1,rfl,g1,r1,o1⟩:=hcaps.2 0 p1 _ rfl rfl
   have k1:=a9i g1 r1 o1
   obtain⟨o,a,c,t,hbody,e1,c1,c2,c3,hgo⟩:=d0y
   refine callsIn_wide.1 (callsIn_of_wp (F:=Fence.wide) (n:=4) Tryz.func80 hbody trivial ?_ rfl)
   have hE:YN (fun _ _=>none) Φ0 ((#[Value.func (.yield l) #[] #[]]++ #[Value.pointer (some ⟨B1,0,none⟩)])++Array.replicate 4 undef) (ZN 6 0 [(0,.yld l),(1,.pv (.rptr (ndC n ks)))]):=by
    refine Pw (by simp) ?_
    intro q hq u hu
    simp only[List.mem_cons,List.not_mem_nil,or_false]at hq
    rcases hq with rfl|rfl
    ·simp[Array.getElem?_append]at hu
     subst hu
     exact .yld l
    ·simp[Array.getElem?_append]at hu
     subst hu
     exact .pv _ _ k1
   refine wpIn_region_list ?_
   rw[e1]
   refine JE (nn:=4) Zf (fun x hx=>by rw[e1];simp[hx]) (hgo n ks l) (Qv ((hJok 0).glob h0) ((hJok 0).phi h0) hE rfl) ?_
   rintro a2 w2 ⟨μ2,Φ2,hg2,he2,hd2⟩
   obtain⟨s2,k2⟩:=Vi (X:=fun _=>False) hg2 Qg (fun b hb=>hb.elim)
   have hj2:=(hJok _).step h0 s2
   have r3:RP Φ2 (a2.eval (.tmp 3)) (enc (Tm.mk n ks)):=by
    rw[ZF]
    exact a4f he2 (y:=.t 3) rfl (by kernel_rfl)
   have e4:a2.eval (.tmp 4) = .func (.yield l) #[] #[]:=OX he2 (y:=.t 4) rfl (by kernel_rfl)
   have hcall:=c4s hJok hJxok hY (SizeOf.sizeOf (Tm.mk n ks)+1) (.mk n ks) (Nat.lt_succ_self _) 1 0 Φ2 _ w2 _ hj2 r3 (fun i x h=>by rw[Nat.zero_add];exact h) (by omega)
   refine Lr c1 c2 c3 Tryz.func81 rfl (by kernel_rfl) (vs:=#[a2.eval (.tmp 3),.int .i64 ((1:Nat):Int),.func (.yield l) #[] #[]]) (by simp only[List.map_toArray,List.map_cons,List.map_nil,e4];rfl) hcall ?_
   rintro e w3 ⟨Φ3,hle3,hkeep3,hres⟩
   have fin : ∀ v,(∃ Φ' X',J (Zw 1 (.mk n ks)).length Φ' X' w3∨Jx Φ' X' w3)->wpListIn (Yx none) 4 Tryz.prog o (bodyPost Tryz.prog Tryz.f80 fun e W'=>(∃ v,e = .returned v)∧ ∃ Φ' X',(J (Zw 1 (.mk n ks)).length Φ' X' W'∨Jx Φ' X' W')) [] (a2.put (some 5) v) w3:=by
    intro v hv
    exact⟨by rw[XR];exact hd2,_,results_none rfl _ _ _,⟨_,rfl⟩,hv⟩
   rcases hres with ⟨rfl,hj3⟩|⟨rfl,hj3⟩
   ·refine⟨_,rfl,fin _ ⟨Φ3,fun _=>False,.inl ?_⟩⟩
    rw[WE,<- Nat.zero_add (Zk _)]
    exact hj3
   ·exact⟨_,rfl,fin _ ⟨Φ3,_,.inr hj3⟩⟩
 ·cases hpre
end Go.Proofs.YtgdebdgkofkeeaaGreatDoor
namespace Go.Pl
open Go.RowKit
open Enc (enc dec is)
open EncL (encL decL isL)
open Go.Proofs.YtgdebdgkofkeeaaGreatDoor (encNd pre_ndI F_ndI tmOf_nd pre_nd)
theorem b4y: ∀ args os,YJ args os=true->Zc EM os.length (Yj os.length Nt fun r=>r=XH 80 args os) Pn [] (WF c3x args os):=by
 intro args os h
 unfold YJ at h
 split at h
 ·obtain⟨⟨n,ks⟩,rfl⟩:=PW h
  rw[ZF]
  exact d2u n ks rfl
 ·cases h
def tvI(t:Tm)(k:Nat)(σ:Zt):Prop:=(∀ j p,j<k->(Zw 1 t)[j]? = some p->okN j p=true)∧k<=400∧σ=[.obj (.box [.pv (.bool false)]),.obj (.box [.pv (.int .i64 k)])]
def tvX(t:Tm)(σ:Zt):Prop:=Xn t=false∧ ∃ (c:Int) (r:List Slot),σ = .obj (.box [.pv (.bool false)]):: .obj (.box [.pv (.int .i64 c)])::r
def tvE:Xo:=fun n st q=>n=0∧Ah Jn 0 (.t 7) 80 [8,9] Bg Sv encNd pre_ndI F_ndI st q
def tvM(t:Tm)(k:Nat)(x:Tm×Int)(st:St):Prop:=(∀ j p,j<k->(Zw 1 t)[j]? = some p->okN j p=true)∧k<=400 ∧
 st=⟨ZN 23 0 [(2,.ptr 0 0),(3,.ptr 1 0),(4,.ptr 2 0),(5,.pv (.int .i64 x.2))],[.obj (.box [.pv (.bool false)]),.obj (.box [.pv (.int .i64 k)]),.obj (.box ((Go.Proofs.YtgdebdgkofkeeaaGreatDoor.ndC x.1.nd x.1.ks).map .pv))]⟩
theorem c2j: ∀ x:Tm×Unit,tW x.1=true->Uu Jn tvE 0 (Zb Ju (Zm (Xn x.1))) Dl [] (ZJ d1p (encL x)):=by
 rintro⟨t,⟨⟩⟩ ht
 have ht:tW t=true:=ht
 obtain⟨n,ks⟩:=t
 rw[<- WX]
 show Uu Jn tvE 0 (Zb Ju (Zm (Xn (.mk n ks)))) _ _ _
 have hsz:Zk (.mk n ks)<=1048576:=Nat.le_trans (U1 _) (of_decide_eq_true ht)
 have hF:F_ndI [Go.Proofs.YtgdebdgkofkeeaaGreatDoor.ndC n ks]=Zw 1 (.mk n ks):=by unfold F_ndI;rw[tmOf_nd]
 refine d9f tvE n ks ⟨?_,rfl,[2],[Go.Proofs.YtgdebdgkofkeeaaGreatDoor.ndC n ks],[2,3],[2,3,4,5],[],⟨ZN 23 0 [(2,.ptr 0 0),(3,.ptr 1 0)],[.obj (.box [.pv (.bool false)]),.obj (.box [.pv (.int .i64 0)])]⟩,tvI (.mk n ks),tvX (.mk n ks),tvM (.mk n ks),
  rfl,by simp,rfl,?_,by kernel_rfl,pre_nd hsz,⟨fun j p hj=>by omega,by omega,rfl⟩,?_,?_,?_,?_⟩
 ·show can Tm (PV.agg (Go.Proofs.YtgdebdgkofkeeaaGreatDoor.ndC n ks))=true
  rw[show(PV.agg (Go.Proofs.YtgdebdgkofkeeaaGreatDoor.ndC n ks))=enc (Tm.mk n ks)from(ZF n ks).symm,Us]
 ·intro j l ps hl hps
  match j with
  | 0=>cases hl;cases hps;rfl
  | j+1=>simp at hl
 ·rintro k ⟨⟨xn,xk⟩,v⟩ σ hx ⟨hall,hk,rfl⟩
  have e:JR [8,9] ((encNd (.mk xn xk,v)).map .pv) (ZN 23 0 [(2,.ptr 0 0),(3,.ptr 1 0)])=ZN 23 0 [(2,.ptr 0 0),(3,.ptr 1 0),(8,.pv (.agg (Go.Proofs.YtgdebdgkofkeeaaGreatDoor.ndC xn xk))),(9,.pv (.int .i64 v))]:=by
   show JR [8,9] (([enc (Tm.mk xn xk),.int .i64 v]).map .pv) _=_
   rw[ZF]
   kernel_rfl
  rw[e]
  exact d4a (G:=fun _=>False) _ xn xk k v ⟨rfl,hall,hk,rfl⟩
 ·rintro k ⟨⟨xn,xk⟩,v⟩ st hx ⟨hall,hk,rfl⟩
  rw[hF]at hx
  have hno:=fun h=>b4o (.mk n ks) hx h
  have hw:IntKind.i64.wrap ((k:Int)+1)=((k+1:Nat):Int):=next (by omega)
  refine d5e (G:=tvX (.mk n ks)) _ xn xk k v ?_
  rw[hw]
  have bad:okN k (.mk xn xk,v)=false-> ∀ r,tvX (.mk n ks) (.obj (.box [.pv (.bool false)]):: .obj (.box [.pv (.int .i64 ((k+1:Nat):Int))])::r):=fun h r=>⟨hno h,_,r,rfl⟩
  refine Y3 (fun h1=>bad ?_ _) fun h1=>Y3 (fun h2=>bad ?_ _) fun h2=>⟨Ze (.mk xn xk,()) (WX xn xk) (BB ht (List.mem_of_getElem? hx)),Zd (.mk xn xk,()) (WX xn xk) (W9 (fun h3=>bad ?_ _) fun h3=>⟨rfl,⟨ZN 23 0 [(2,.ptr 0 0),(3,.ptr 1 0)],[.obj (.box [.pv (.bool false)]),.obj (.box [.pv (.int .i64 ((k+1:Nat):Int))])]⟩,by kernel_rfl,rfl,?_,?_,rfl⟩)⟩
  ·unfold okN;rw[decide_eq_false (show ¬ k<400 by omega)];rfl
  ·unfold okN;rw[decide_eq_false (show ¬ v<=40 by omega),Bool.and_false];rfl
  ·have h3:Ka (.mk xn xk)=false:=h3
   unfold okN;rw[h3,Bool.and_false]
  ·have h3:Ka (.mk xn xk)=true:=h3
   intro j p hj hp
   rw[Nat.lt_succ_iff_lt_or_eq]at hj
   rcases hj with hj|rfl
   ·exact hall j p hj hp
   ·rw[hx]at hp
    cases hp
    unfold okN
    rw[h3,decide_eq_true (show j<400 by omega),decide_eq_true (show v<=40 by omega)];rfl
  ·omega
 ·rintro σ ⟨hall,hk,rfl⟩
  refine d1j tvE n ks _ (Zp (a9e _ fun j p hp=>hall j p ?_ hp).symm)
  rw[hF]
  exact(List.getElem?_eq_some_iff.1 hp).1
 ·rintro σ ⟨hv,c,r,rfl⟩
  exact c6w tvE n ks c r (Zp hv.symm)
end Go.Pl
namespace Go.Pl
open Go.RowKit
open Enc (enc dec is)
open EncL (encL decL isL)
open Go.Proofs.YtgdebdgkofkeeaaGreatDoor (encNd pre_ndI F_ndI tmOf_nd pre_nd)
abbrev JY(n:Nd)(ks:List Tm):List PV:=Go.Proofs.YtgdebdgkofkeeaaGreatDoor.ndC n ks
def Kl(t:Tm):Int:=Zk t
def c7h(t:Tm)(k:Nat)(σ:Zt):Prop:=σ=[.obj (.box [.pv (.int .i64 (((Zw 1 t).take k).length:Int))])]
def d5s(t:Tm)(k:Nat)(x:Tm×Int)(st:St):Prop:=st=⟨ZN 11 0 [(3,.ptr 0 0)],[.obj (.box [.pv (.int .i64 (((Zw 1 t).take k).length:Int))])]⟩
def a8o:Xo:=fun n st q=>n=0∧Ah QN 0 (.t 5) 80 [6,7] Hy Hr encNd pre_ndI F_ndI st q
theorem c1b: ∀ x:Tm×Unit,tW x.1=true->Uu QN a8o 0 (Zb K9 (Zm (Kl x.1))) Hl [] (ZJ c1e (encL x)):=by
 rintro⟨t,⟨⟩⟩ ht
 have ht:tW t=true:=ht
 obtain⟨n,ks⟩:=t
 rw[<- WX]
 show Uu QN a8o 0 (Zb K9 (Zm (Kl (.mk n ks)))) _ _ _
 have hsz:Zk (.mk n ks)<=1048576:=Nat.le_trans (U1 _) (of_decide_eq_true ht)
 have hlen:(Zw 1 (.mk n ks)).length=Zk (.mk n ks):=WE _ _
 have hF:F_ndI [JY n ks]=Zw 1 (.mk n ks):=by unfold F_ndI;rw[tmOf_nd]
 refine d1c a8o n ks ⟨?_,rfl,[1],[JY n ks],[3],[3],[],⟨ZN 11 0 [(3,.ptr 0 0)],[.obj (.box [.pv (.int .i64 0)])]⟩,c7h (.mk n ks),fun _=>False,d5s (.mk n ks),rfl,by simp,rfl,?_,by kernel_rfl,pre_nd hsz,rfl,?_,?_,?_,?_⟩
 ·show can Tm (PV.agg (JY n ks))=true
  rw[show(PV.agg (JY n ks))=enc (Tm.mk n ks)from(ZF n ks).symm,Us]
 ·intro j l ps hl hps
  match j with
  | 0=>cases hl;cases hps;rfl
  | j+1=>simp at hl
 ·rintro k ⟨⟨xn,xk⟩,v⟩ σ hx hi
  unfold c7h at hi
  subst hi
  have e:JR [6,7] ((encNd (.mk xn xk,v)).map .pv) (ZN 11 0 [(3,.ptr 0 0)])=ZN 11 0 [(3,.ptr 0 0),(6,.pv (.agg (JY xn xk))),(7,.pv (.int .i64 v))]:=by
   show JR [6,7] (([enc (Tm.mk xn xk),.int .i64 v]).map .pv) _=_
   rw[ZF]
   kernel_rfl
  rw[e]
  exact c6z (G:=fun _=>False) _ xn xk _ v ⟨rfl,rfl⟩
 ·rintro k ⟨⟨xn,xk⟩,v⟩ st hx hst
  unfold d5s at hst
  subst hst
  rw[hF]at hx
  have hk:k<Zk (.mk n ks):=by rw[<- hlen];exact(List.getElem?_eq_some_iff.1 hx).1
  have ek:(Zw 1 (.mk n ks)).take (k+1)=(Zw 1 (.mk n ks)).take k++[(.mk xn xk,v)]:=by rw[List.take_add_one,hx];rfl
  refine c5g (G:=fun _=>False) _ xn xk _ v ⟨rfl,_,rfl,rfl,?_⟩
  unfold c7h
  rw[ek,List.length_append,next (by rw[List.length_take];omega)]
  rfl
 ·rintro σ hi
  unfold c7h at hi
  subst hi
  rw[hF,List.take_length]
  exact c3t a8o n ks _ (UJ (by unfold Kl;rw[hlen]))
 ·exact fun σ h=>h.elim
def c6x(l:List Int):Int:=l.foldl (fun c v=>if v>c then v else c) 0
def MZ(t:Tm):Int:=Zu t
def mxF(c v:Int):Int:=if v>c then v else c
mutual
theorem M7: ∀ (t:Tm) (l:Nat) (c:Int),((Zw l t).map (·.2)).foldl mxF c=max c ((l:Int)+Zu t - 1)
 | .mk n ks,l,c=>by
  rw[Zw,List.map_cons,List.foldl_cons,TU ks (l+1) (mxF c l) (by unfold mxF;split <;> omega),Zu]
  unfold mxF
  split <;> omega
theorem TU: ∀ (ks:List Tm) (l:Nat) (c:Int),(l:Int) - 1<=c->((ZK l ks).map (·.2)).foldl mxF c=max c ((l:Int)+ZL ks - 1)
 | [],l,c,h=>by rw[ZK,ZL];simp;omega
 | k::ks,l,c,h=>by
  rw[ZK,List.map_append,List.foldl_append,M7 k l c,TU ks l _ (by omega),ZL]
  omega
end
theorem c1c(t:Tm):c6x ((Zw 1 t).map (·.2))=MZ t:=by
 have h:=M7 t 1 0
 have hp:1<=Zu t:=by cases t;rw[Zu];omega
 show((Zw 1 t).map (·.2)).foldl mxF 0=_
 rw[h]
 unfold MZ
 omega
def c0z(t:Tm)(k:Nat)(σ:Zt):Prop:=σ=[.obj (.box [.pv (.int .i64 (c6x (((Zw 1 t).take k).map (·.2))))])]
def d8v(t:Tm)(k:Nat)(x:Tm×Int)(st:St):Prop:=st=⟨ZN 14 0 [(3,.ptr 0 0),(5,.pv (.int .i64 x.2))],[.obj (.box [.pv (.int .i64 (c6x (((Zw 1 t).take k).map (·.2))))])]⟩
def a6g:Xo:=fun n st q=>n=0∧Ah QR 0 (.t 7) 80 [8,9] Gd Gh encNd pre_ndI F_ndI st q
theorem c7n: ∀ x:Tm×Unit,tW x.1=true->Uu QR a6g 0 (Zb KU (Zm (MZ x.1))) He [] (ZJ c2k (encL x)):=by
 rintro⟨t,⟨⟩⟩ ht
 have ht:tW t=true:=ht
 obtain⟨n,ks⟩:=t
 rw[<- WX]
 show Uu QR a6g 0 (Zb KU (Zm (MZ (.mk n ks)))) _ _ _
 have hsz:Zk (.mk n ks)<=1048576:=Nat.le_trans (U1 _) (of_decide_eq_true ht)
 have hlen:(Zw 1 (.mk n ks)).length=Zk (.mk n ks):=WE _ _
 have hF:F_ndI [JY n ks]=Zw 1 (.mk n ks):=by unfold F_ndI;rw[tmOf_nd]
 refine d4z a6g n ks ⟨?_,rfl,[1],[JY n ks],[3],[3,5],[],⟨ZN 14 0 [(3,.ptr 0 0)],[.obj (.box [.pv (.int .i64 0)])]⟩,c0z (.mk n ks),fun _=>False,d8v (.mk n ks),rfl,by simp,rfl,?_,by kernel_rfl,pre_nd hsz,rfl,?_,?_,?_,?_⟩
 ·show can Tm (PV.agg (JY n ks))=true
  rw[show(PV.agg (JY n ks))=enc (Tm.mk n ks)from(ZF n ks).symm,Us]
 ·intro j l ps hl hps
  match j with
  | 0=>cases hl;cases hps;rfl
  | j+1=>simp at hl
 ·rintro k ⟨⟨xn,xk⟩,v⟩ σ hx hi
  unfold c0z at hi
  subst hi
  have e:JR [8,9] ((encNd (.mk xn xk,v)).map .pv) (ZN 14 0 [(3,.ptr 0 0)])=ZN 14 0 [(3,.ptr 0 0),(8,.pv (.agg (JY xn xk))),(9,.pv (.int .i64 v))]:=by
   show JR [8,9] (([enc (Tm.mk xn xk),.int .i64 v]).map .pv) _=_
   rw[ZF]
   kernel_rfl
  rw[e]
  exact c2l (G:=fun _=>False) _ xn xk _ v ⟨rfl,rfl⟩
 ·rintro k ⟨⟨xn,xk⟩,v⟩ st hx hst
  unfold d8v at hst
  subst hst
  rw[hF]at hx
  have hk:k<Zk (.mk n ks):=by rw[<- hlen];exact(List.getElem?_eq_some_iff.1 hx).1
  have ek:(Zw 1 (.mk n ks)).take (k+1)=(Zw 1 (.mk n ks)).take k++[(.mk xn xk,v)]:=by rw[List.take_add_one,hx];rfl
  refine c6m (G:=fun _=>False) _ xn xk _ v ⟨rfl,_,rfl,rfl,?_⟩
  unfold c0z c6x
  rw[ek,List.map_append,List.foldl_append]
  rfl
 ·rintro σ hi
  unfold c0z at hi
  subst hi
  rw[hF,List.take_length]
  exact c5f a6g n ks _ (UJ (c1c _))
 ·exact fun σ h=>h.elim
theorem c3g{t:Tm}(h:tW t=true): ∀ s∈(Xq t).flatMap Vz,s.s.length<=1048576:=by
 intro s hs
 obtain⟨p,hp,hs⟩:=List.mem_flatMap.1 hs
 unfold Xq at hp
 obtain⟨q,hq,rfl⟩:=List.mem_map.1 hp
 have hw:=BB h hq
 unfold Vz at hs
 split at hs
 ·have:s=q.1.nd.name:=by simpa using hs
  subst this
  obtain⟨⟨n,ks⟩,l⟩:=q
  exact(NC hw).name
 ·cases hs
theorem Fz{α β:Type}(f:α->List β)(hf : ∀ x,(f x).length<=1): ∀ l:List α,(l.flatMap f).length<=l.length
 | []=>by simp
 | a::l=>by have:=hf a;have:=Fz f hf l;rw[List.flatMap_cons,List.length_append,List.length_cons];omega
theorem a9m(t:Tm):((Xq t).flatMap Vz).length<=Zk t:=by
 have:=Fz Vz (fun x=>by unfold Vz;split <;> simp) (Xq t)
 rw[Ho]at this
 exact this
def a0z(t:Tm)(k:Nat)(σ:Zt):Prop:=σ=[.obj (.box [.map 1]),.obj (.map (Yf (WN ((((Zw 1 t).take k).map (·.1)).flatMap Vz))))]
def d6l(t:Tm)(k:Nat)(x:Tm×Int)(st:St):Prop:=st=⟨ZN 29 0 [(3,.ptr 0 0),(4,.ptr 2 0)],[.obj (.box [.map 1]),.obj (.map (Yf (WN ((((Zw 1 t).take k).map (·.1)).flatMap Vz)))),.obj (.box (ZY x.1.nd x.1.ks))]⟩
def a6p:Xo:=fun n st q=>n=0∧Ah QV 0 (.t 7) 80 [8,9] Hw UH encNd pre_ndI F_ndI st q
theorem c1g: ∀ x:Tm×Unit,tW x.1=true->Uu QV a6p 0 (Zb K4 (Zm (JO x.1))) GG [] (ZJ c1z (encL x)):=by
 rintro⟨t,⟨⟩⟩ ht
 have ht:tW t=true:=ht
 obtain⟨n,ks⟩:=t
 rw[<- WX]
 show Uu QV a6p 0 (Zb K4 (Zm (JO (.mk n ks)))) _ _ _
 have hsz:Zk (.mk n ks)<=1048576:=Nat.le_trans (U1 _) (of_decide_eq_true ht)
 have hlen:(Zw 1 (.mk n ks)).length=Zk (.mk n ks):=WE _ _
 have hF:F_ndI [JY n ks]=Zw 1 (.mk n ks):=by unfold F_ndI;rw[tmOf_nd]
 refine d3m a6p n ks ⟨?_,rfl,[1],[JY n ks],[3],[3,4],[],⟨ZN 29 0 [(3,.ptr 0 0)],[.obj (.box [.map 1]),.obj (.map (Yf []))]⟩,a0z (.mk n ks),fun _=>False,d6l (.mk n ks),rfl,by simp,rfl,?_,by kernel_rfl,pre_nd hsz,rfl,?_,?_,?_,?_⟩
 ·show can Tm (PV.agg (JY n ks))=true
  rw[show(PV.agg (JY n ks))=enc (Tm.mk n ks)from(ZF n ks).symm,Us]
 ·intro j l ps hl hps
  match j with
  | 0=>cases hl;cases hps;rfl
  | j+1=>simp at hl
 ·rintro k ⟨⟨xn,xk⟩,v⟩ σ hx hi
  unfold a0z at hi
  subst hi
  have e:JR [8,9] ((encNd (.mk xn xk,v)).map .pv) (ZN 29 0 [(3,.ptr 0 0)])=ZN 29 0 [(3,.ptr 0 0),(8,.pv (.agg (JY xn xk))),(9,.pv (.int .i64 v))]:=by
   show JR [8,9] (([enc (Tm.mk xn xk),.int .i64 v]).map .pv) _=_
   rw[ZF]
   kernel_rfl
  rw[e]
  exact c6c (G:=fun _=>False) _ xn xk _ v ⟨rfl,rfl⟩
 ·rintro k ⟨⟨xn,xk⟩,v⟩ st hx hst
  unfold d6l at hst
  subst hst
  rw[hF]at hx
  have hk:k<Zk (.mk n ks):=by rw[<- hlen];exact(List.getElem?_eq_some_iff.1 hx).1
  have ek:(Zw 1 (.mk n ks)).take (k+1)=(Zw 1 (.mk n ks)).take k++[(.mk xn xk,v)]:=by rw[List.take_add_one,hx];rfl
  have yes:(xn.kind=6∨xn.kind=8∨xn.kind=9)->Ux (enc xn.name) (PV.bool true) (Yf (WN (((Zw 1 (.mk n ks)).take k).map (·.1) |>.flatMap Vz)))=true∧a0z (.mk n ks) (k+1) [.obj (.box [.map 1]),.obj (.map (WS (enc xn.name) (PV.bool true) (Yf (WN (((Zw 1 (.mk n ks)).take k).map (·.1) |>.flatMap Vz)))))]:=fun h=>by
   refine⟨(DW _ xn.name).1,?_⟩
   unfold a0z
   rw[show WS (enc xn.name) (PV.bool true) (Yf (WN (((Zw 1 (.mk n ks)).take k).map (·.1) |>.flatMap Vz)))=_ from(DW _ xn.name).2,ek,List.map_append,List.flatMap_append]
   unfold WN
   rw[List.foldl_append,List.map_cons,List.map_nil,List.flatMap_cons,List.flatMap_nil]
   rw[show Vz (.mk xn xk)=[xn.name]from if_pos h]
   rfl
  have no : ¬ (xn.kind=6∨xn.kind=8∨xn.kind=9)->a0z (.mk n ks) (k+1) [.obj (.box [.map 1]),.obj (.map (Yf (WN (((Zw 1 (.mk n ks)).take k).map (·.1) |>.flatMap Vz))))]:=fun h=>by
   unfold a0z
   rw[ek,List.map_append,List.flatMap_append,List.map_cons,List.map_nil,List.flatMap_cons,List.flatMap_nil,show Vz (.mk xn xk)=[]from if_neg h]
   simp
  refine c3w (G:=fun _=>False) _ xn xk _ v (YO (fun h1=>⟨(yes (.inl h1)).1,rfl,_,rfl,rfl,(yes (.inl h1)).2⟩) fun h1=>YO (fun h2=>⟨(yes (.inr (.inl h2))).1,rfl,_,rfl,rfl,(yes (.inr (.inl h2))).2⟩) fun h2=>YO (fun h3=>⟨(yes (.inr (.inr h3))).1,rfl,_,rfl,rfl,(yes (.inr (.inr h3))).2⟩) fun h3=>⟨rfl,_,rfl,rfl,no (by rintro(h|h|h);exact h1 h;exact h2 h;exact h3 h)⟩)
 ·rintro σ hi
  unfold a0z at hi
  subst hi
  rw[hF,List.take_length]
  refine c4g a6p n ks _ ⟨?_,?_⟩
  ·show(79==79&&Jb (Yf (WN ((Xq (.mk n ks)).flatMap Vz))))=true
   rw[b9e (c3g ht) (by have:=a9m (.mk n ks);omega)]
   simp
  ·show Zm _ (PV.sl 1 false (List.map PV.str (Y6 (List.map VM (Yf (WN ((Xq (.mk n ks)).flatMap Vz)))))))
   rw[FE]
   exact Xm rfl
 ·exact fun σ h=>h.elim
end Go.Pl
namespace Go.Pl
open Go.RowKit
theorem a7z(l:List Str):(Uc l).length<=l.length:=by
 unfold Uc Y6
 rw[List.length_map,List.length_mergeSort,List.length_map]
 have:=Qk l []
 have e:WN l=l.foldl Xi []:=rfl
 rw[e]
 simpa using this
theorem b7z(t:Tm):(Ye t).length<=Zk t:=Nat.le_trans (a7z _) (U0 [] t)
end Go.Pl
namespace Go.Pl
open Go.RowKit
open Enc (enc dec is)
open EncL (encL decL isL)
set_option maxRecDepth 100000
noncomputable def EU:IC:=Xy Proofs.Tryz.f57
def OJ:List IRes:=[(.tmp 2)]
abbrev d0v:Nat:=4
def b1o:Zz:=Yr []
theorem d9c{G:AV×List AObj×List AObj->Prop}(es:List (PV×PV))(h:G (((.fn 79 [] [(.ptr 1 0)]),([(.map es)],[(.box [(.map 0)])])))):Zc b1o 1 (Yj 1 OJ G) EU [] (WF 4 [.map 0] [.map es]):=Zc.to (.nil) h
end Go.Pl
namespace Go.Pl
open Go.RowKit
open Enc (enc dec is)
open EncL (encL decL isL)
open Go.Proofs.YtgdebdgkofkeeaaGreatDoor (encNd pre_ndI F_ndI tmOf_nd pre_nd)
theorem c7l: ∀ args os,QE args os=true->Zc b1o os.length (Yj os.length OJ fun r=>r=KP 79 args os) EU [] (WF d0v args os):=by
 intro args os h
 unfold QE at h
 split at h
 ·exact d9c _ rfl
 ·cases h
end Go.Pl
namespace Go.Pl
open Go.RowKit
open Enc (enc dec is)
open EncL (encL decL isL)
set_option maxRecDepth 100000
abbrev d7e(ps:List PV)(k:Arr×Int->Prop):Prop:=XT (fun(x:Str×List Int×List Int×Unit)=>decide (List.length (Prod.fst (Prod.snd x))<=2000000)&&decide (List.length (Prod.fst (Prod.snd (Prod.snd x)))<=2000000)) (fun(x:Str×List Int×List Int×Unit)=>Q6 (Prod.fst x) (Prod.fst (Prod.snd x)) (Prod.fst (Prod.snd (Prod.snd x)))) ps k
noncomputable def b1r:IC:=Xy Proofs.Tryz.f173
def b0y:List IRes:=[(.tmp 4)]
abbrev d1n:Nat:=22
def c9j:Zz:=Yr []
theorem d7l{G:PV->Prop}(e:List UInt8)(n:Int)(h:if (e==[(105:UInt8),(110:UInt8),(116:UInt8)])=true then if (decide (n ≥ (-2147483648:Int)))=true then G ((.bool (decide (n<=2147483647))))else(G ((.bool false)))else(if (e==[(98:UInt8),(111:UInt8),(111:UInt8),(108:UInt8)])=true then if (n==0)=true then G ((.bool true))else(G ((.bool (n==1))))else(G ((.bool false))))):Zc c9j 0 (Zb b0y G) b1r [] (ZJ 22 [.str e,.int .i64 n]):=Zc.tp (dm [] 36 0x2220220034200c4202202220044200c42) h
noncomputable def O8:IC:=Xy Proofs.Tryz.f172
def EY:List IRes:=[(.tmp 3)]
abbrev d4s:Nat:=8
def c0i:Zz:=Yr [(173,.pure (preT (fun _:Str×Int×Unit=>true)) (Zi (fun x:Str×Int×Unit=>Xt x.1 x.2.1)))]
theorem d7h{G:AV×List AObj×List AObj->Prop}(e:List UInt8)(n:Int)(h : ∃ y0:Bool,AV.pv (Zi (fun(x:Str×Int×Unit)=>Xt x.1 x.2.1) [(.str e),(.int .i64 n)])=AV.pv (enc y0)∧(G (((.pv (.bool !y0)),([(.box [(.pv (.str e))])],[]))))):Zc c0i 1 (Yj 1 EY G) O8 [] (WF 8 [.pv (.int .i64 n),.ptr 0 0] [.box [.pv (.str e)]]):=Zc.to (.lit (.abs (Bool) (fun YY=>AV.pv (enc YY)) (.nil))) h
noncomputable def JG:IC:=JP
def JW:List IRes:=[(.tmp 4)]
abbrev b2d:Nat:=19
def BN:Zz:=Yr [(172,.own CU Pf)]
theorem d9y{G:AV×List AObj×List AObj->Prop}(e:List UInt8)(l:List Int)(t:Bool)(h:At BN 1 (Yj 1 JW G) JG 0 19 [(0,(.pv (.sl 1 t (List.map enc l)))),(1,(.fn 172 [] [(.ptr 0 0)])),(7,(.pv (.int .i64 (↑(List.length (List.map enc l)):Int)))),(8,(.pv (.int .i64 0)))] [(.obj (.box [(.pv (.str e))]))]):Zc BN 1 (Yj 1 JW G) JG [] (WF 19 [.pv (.sl 1 t (l.map enc)),.fn 172 [] [.ptr 0 0]] [.box [.pv (.str e)]]):=Zc.to (.nil) h
theorem b6v{G:AV×List AObj×List AObj->Prop}(e:List UInt8)(l:List Int)(t:Bool)(i:Int)(h:if (decide (i<(↑(List.length l):Int)))=true then(decide (0<=i)&&decide (Int.toNat i<List.length (List.map enc l))&&1==1)=true∧(∃ y0:Int,AV.pv (PV.rptr (PV.cells (List.getD (List.map enc l) (Int.toNat i) default)))=AV.pv (PV.rptr (PV.cells ((enc) y0)))∧(if (!Xt (Str.mk e) (PV.asInt (List.getD (PV.cells (enc y0)) 0 default)))=true then G (((.pv (.int .i64 i)),([(.box [(.pv (.str e))])],[])))else(At BN 1 (Yj 1 JW G) JG 0 19 [(0,(.pv (.sl 1 t (List.map enc l)))),(1,(.fn 172 [] [(.ptr 0 0)])),(7,(.pv (.int .i64 (↑(List.length l):Int)))),(8,(.pv (.int .i64 (IntKind.wrap IntKind.i64 (i+1)))))] [(.obj (.box [(.pv (.str e))]))])))else(G (((.pv (.int .i64 (-1))),([(.box [(.pv (.str e))])],[]))))):At BN 1 (Yj 1 JW G) JG 0 19 [(0,.pv (.sl 1 t (l.map enc))),(1,.fn 172 [] [.ptr 0 0]),(7,.pv (.int .i64 l.length)),(8,.pv (.int .i64 i))] [.obj (.box [.pv (.str e)])]:=At.to (dm [dr Int] 19 0x2000143225100c42) h
noncomputable def EB:IC:=a0o
def E8:List IRes:=[(.tmp 4)]
abbrev d0p:Nat:=9
def c0q:Zz:=Yr [(144,.own WQ Ba)]
theorem d8q{G:AV×List AObj×List AObj->Prop}(e:List UInt8)(l:List Int)(t:Bool)(h:(WQ [(.pv (.sl 1 t (List.map enc l))),(.fn 172 [] [(.ptr 0 0)])] [(.box [(.pv (.str e))])])=true∧(G (((.pv (.bool (decide (UT (Str.mk e) (List.map dec (List.map enc l)) 0 ≥ 0)))),([(.box [(.pv (.str e))])],[]))))):Zc c0q 1 (Yj 1 E8 G) EB [] (WF 9 [.pv (.sl 1 t (l.map enc)),.fn 172 [] [.ptr 0 0]] [.box [.pv (.str e)]]):=Zc.to (.req (.keep (.lit (.nil)))) h
noncomputable def Ca:IC:=Xy Proofs.Tryz.f143
def Co:List IRes:=[(.tmp 4)]
abbrev M5:Nat:=9
def BK:Zz:=Yr [(113,.own WQ RG)]
theorem a0v{G:PV->Prop}(e:List UInt8)(l:List Int)(h:(WQ [(.pv (.sl 1 false (List.map enc l))),(.fn 172 [] [(.ptr 0 0)])] [(.box [(.pv (.str e))])])=true∧(G ((.bool (!decide (0<=UT (Str.mk e) (List.map dec (List.map enc l)) 0)))))):Zc BK 0 (Zb Co G) Ca [] (ZJ 9 [.str e,enc l]):=Zc.tp (.req (.keep (.nil))) h
noncomputable def a1d:IC:=Xy Proofs.Tryz.f112
def a2n:List IRes:=[(.cell true 3 6),(.tmp 7)]
abbrev c1u:Nat:=45
def b8z:Zz:=Yr [(142,.pure (preT (fun _:List Int×Unit=>true)) (Zi (fun x:List Int×Unit=>YL x.1))),(143,.pure (preT (fun x:Str×List Int×Unit=>decide (x.2.1.length<=2000000))) (Zi (fun x:Str×List Int×Unit=>x.2.1.all (Xt x.1)))),(93,.pure (preT (fun x:List Int×Unit=>decide (x.1.length<=2000000))) (Zi (fun x:List Int×Unit=>x.1)))]
theorem d3s{G:PV->Prop}(e:List UInt8)(d x:List Int)(h:if (!e==[(105:UInt8),(110:UInt8),(116:UInt8)])=true then if (!e==[(98:UInt8),(111:UInt8),(111:UInt8),(108:UInt8)])=true then G ((.tup [(.agg [(.str []),(.sl 0 true []),(.sl 0 true [])]),(.int .i64 12)]))else((Go.Pl.preT (fun(x:List Int×Unit)=>true) [(.sl 1 false (List.map enc d))])=true∧(∃ y0:Int×Int,AV.pv (Zi (fun(x:List Int×Unit)=>YL x.1) [(.sl 1 false (List.map enc d))])=AV.pv (enc y0)∧(if (y0.2 != 0)=true then G ((.tup [(.agg [(.str []),(.sl 0 true []),(.sl 0 true [])]),(.int .i64 y0.2)]))else(if ((↑(List.length (List.map enc x)):Int) != y0.1)=true then G ((.tup [(.agg [(.str []),(.sl 0 true []),(.sl 0 true [])]),(.int .i64 1)]))else((Go.Pl.preT (fun(x:Str×List Int×Unit)=>decide (List.length x.2.1<=2000000)) [(.str e),(.sl 1 false (List.map enc x))])=true∧(∃ y1:Bool,AV.pv (Zi (fun(x:Str×List Int×Unit)=>List.all x.2.1 (Xt x.1)) [(.str e),(.sl 1 false (List.map enc x))])=AV.pv (enc y1)∧(if (!y1)=true then G ((.tup [(.agg [(.str []),(.sl 0 true []),(.sl 0 true [])]),(.int .i64 2)]))else((Go.Pl.preT (fun(x:List Int×Unit)=>decide (List.length x.1<=2000000)) [(.sl 1 false (List.map enc d))])=true∧(∃ y2:List Int,AV.pv (Zi (fun(x:List Int×Unit)=>x.1) [(.sl 1 false (List.map enc d))])=AV.pv (enc y2)∧((Go.Pl.preT (fun(x:List Int×Unit)=>decide (List.length x.1<=2000000)) [(.sl 1 false (List.map enc x))])=true∧(∃ y3:List Int,AV.pv (Zi (fun(x:List Int×Unit)=>x.1) [(.sl 1 false (List.map enc x))])=AV.pv (enc y3)∧(G ((.tup [(.agg [(.str e),(.sl 1 false (List.map enc y2)),(.sl 1 false (List.map enc y3))]),(.int .i64 0)]))))))))))))))else((Go.Pl.preT (fun(x:List Int×Unit)=>true) [(.sl 1 false (List.map enc d))])=true∧(∃ y4:Int×Int,AV.pv (Zi (fun(x:List Int×Unit)=>YL x.1) [(.sl 1 false (List.map enc d))])=AV.pv (enc y4)∧(if (y4.2 != 0)=true then G ((.tup [(.agg [(.str []),(.sl 0 true []),(.sl 0 true [])]),(.int .i64 y4.2)]))else(if ((↑(List.length (List.map enc x)):Int) != y4.1)=true then G ((.tup [(.agg [(.str []),(.sl 0 true []),(.sl 0 true [])]),(.int .i64 1)]))else((Go.Pl.preT (fun(x:Str×List Int×Unit)=>decide (List.length x.2.1<=2000000)) [(.str e),(.sl 1 false (List.map enc x))])=true∧(∃ y5:Bool,AV.pv (Zi (fun(x:Str×List Int×Unit)=>List.all x.2.1 (Xt x.1)) [(.str e),(.sl 1 false (List.map enc x))])=AV.pv (enc y5)∧(if (!y5)=true then G ((.tup [(.agg [(.str []),(.sl 0 true []),(.sl 0 true [])]),(.int .i64 2)]))else((Go.Pl.preT (fun(x:List Int×Unit)=>decide (List.length x.1<=2000000)) [(.sl 1 false (List.map enc d))])=true∧(∃ y6:List Int,AV.pv (Zi (fun(x:List Int×Unit)=>x.1) [(.sl 1 false (List.map enc d))])=AV.pv (enc y6)∧((Go.Pl.preT (fun(x:List Int×Unit)=>decide (List.length x.1<=2000000)) [(.sl 1 false (List.map enc x))])=true∧(∃ y7:List Int,AV.pv (Zi (fun(x:List Int×Unit)=>x.1) [(.sl 1 false (List.map enc x))])=AV.pv (enc y7)∧(G ((.tup [(.agg [(.str e),(.sl 1 false (List.map enc y6)),(.sl 1 false (List.map enc y7))]),(.int .i64 0)]))))))))))))))):Zc b8z 0 (Zb a2n G) a1d [] (ZJ 45 [.str e,enc d,enc x]):=Zc.tp (dm [dv (Int×Int),dv Bool,dv (List Int)] 69 0x7171000146100014200014251222071710001461000142000142510001422202242) h
noncomputable def b6j:IC:=Xy Proofs.Tryz.f85
def b6x:List IRes:=[(.tmp 2)]
abbrev d0t:Nat:=17
def c9n:Zz:=Yr [(112,.pure (preT (fun x:Str×List Int×List Int×Unit=>decide (x.2.1.length<=2000000)&&decide (x.2.2.1.length<=2000000))) (Zi (fun x:Str×List Int×List Int×Unit=>Q6 x.1 x.2.1 x.2.2.1)))]
theorem d9t{G:PV->Prop}(a:Arr)(h:(d7e [(.str (Str.s (Arr.e a))),(.sl 1 false (List.map enc (Arr.d a))),(.sl 1 false (List.map enc (Arr.x a)))] fun y0=>(G ((.bool (y0.2==0)))))):Zc c9n 0 (Zb b6x G) b6j [] (ZJ 17 [enc a]):=Zc.tp (.req (.abs (Arr×Int) (fun YY=>AV.pv (enc YY)) (.lit (.nil)))) h
end Go.Pl
namespace Go.Pl
open Go.RowKit
open Enc (enc dec is)
open EncL (encL decL isL)
theorem c4x: ∀ a:Str×Int×Unit,true=true->Zc c9j 0 (Zb b0y (Zm (Xt a.1 a.2.1))) b1r [] (ZJ d1n (encL a)):=by
 rintro⟨⟨e⟩,n,⟨⟩⟩ _
 refine d7l e n ?_
 simp only[beq_iff_eq,decide_eq_true_eq,Zm,a2k,La,true_and,Xt,UY,X8,ge_iff_le]
 split
 ·split <;> simp[*]
 ·split
  ·split <;> simp[*]
  ·simp[*]
theorem c5u: ∀ args os,CU args os=true->Zc c0i os.length (Yj os.length EY fun r=>r=Pf args os) O8 [] (WF d4s args os):=by
 intro args os hp
 unfold CU at hp
 split at hp
 ·rename_i n e
  refine d7h e n ?_
  exact Zd (⟨e⟩,n,()) rfl rfl
 ·cases hp
theorem Ao(e:Str): ∀ (l:List Int) (k:Nat),decide (0<=UT e l k) = !l.all (Xt e)
 | [],k=>by simp[UT]
 | n::l,k=>by
  simp only[UT,List.all_cons]
  by_cases h:Xt e n=true
  ·simp only[h,if_true,Bool.true_and];exact Ao e l (k+1)
  ·simp only[Bool.not_eq_true]at h;simp[h]
theorem b9j(e:List UInt8)(l:List Int)(t:Bool)(hl:l.length<=2000000)(r:AV×List AObj×List AObj): ∀ (m k:Nat),m+k=l.length->r=(.pv (.int .i64 (UT ⟨e⟩ (l.drop k) k)),[.box [.pv (.str e)]],[]) ->
  At BN 1 (Yj 1 JW fun x=>x=r) JG 0 b2d [(0,.pv (.sl 1 t (l.map enc))),(1,.fn 172 [] [.ptr 0 0]),(7,.pv (.int .i64 l.length)),(8,.pv (.int .i64 k))] [.obj (.box [.pv (.str e)])]:=by
 intro m
 induction m with
 | zero=>
  intro k hk hr
  refine b6v e l t k ?_
  rw[if_neg (by simp;omega),hr,List.drop_of_length_le (by omega)]
  rfl
 | succ m ih=>
  intro k hk hr
  have hlt:k<l.length:=by omega
  refine b6v e l t k ?_
  rw[if_pos (by simp;omega)]
  refine⟨by simp;omega,l[k],by rw[Kq _ hlt],?_⟩
  rw[List.drop_eq_getElem_cons hlt,UT]at hr
  show if (!Xt ⟨e⟩ l[k])=true then _ else _
  cases h:Xt ⟨e⟩ l[k]with
  | true=>
   rw[if_neg (by simp),next (by omega)]
   rw[h,if_pos rfl]at hr
   exact ih (k+1) (by omega) hr
  | false=>
   rw[if_pos (by decide)]
   rw[h,if_neg (by simp)]at hr
   exact hr.symm
theorem c4v: ∀ args os,WQ args os=true->Zc BN os.length (Yj os.length JW fun r=>r=Ba args os) JG [] (WF b2d args os):=by
 intro args os hp
 unfold WQ at hp
 split at hp
 ·rename_i t xs e
  simp only[Bool.and_eq_true,decide_eq_true_eq]at hp
  rw[a3h hp.1]
  have hl:(xs.map (dec:PV->Int)).length<=2000000:=by simpa using hp.2
  generalize xs.map (dec:PV->Int)=l at hl ⊢
  refine d9y e l t ?_
  rw[List.length_map]
  refine b9j e l t hl _ l.length 0 (by omega) ?_
  simp[Ba]
 ·cases hp
theorem c4c: ∀ args os,WQ args os=true->Zc c0q os.length (Yj os.length E8 fun r=>r=RG args os) EB [] (WF d0p args os):=by
 intro args os hp
 have hp':=hp
 unfold WQ at hp
 split at hp
 ·rename_i t xs e
  simp only[Bool.and_eq_true,decide_eq_true_eq]at hp
  rw[a3h hp.1]at hp' ⊢
  exact d8q e _ t ⟨hp',rfl⟩
 ·cases hp
theorem PR: ∀ a:Str×List Int×Unit,decide (a.2.1.length<=2000000)=true->Zc BK 0 (Zb Co (Zm (a.2.1.all (Xt a.1)))) Ca [] (ZJ M5 (encL a)):=by
 rintro⟨⟨e⟩,l,⟨⟩⟩ hp
 refine a0v e l ⟨?_,rfl,?_⟩
 ·simpa [WQ]using hp
 ·simp[Ao]
theorem b9h: ∀ a:Str×List Int×List Int×Unit,(decide (a.2.1.length<=2000000)&&decide (a.2.2.1.length<=2000000))=true->Zc b8z 0 (Zb a2n (Zm (Q6 a.1 a.2.1 a.2.2.1))) a1d [] (ZJ c1u (encL a)):=by
 rintro⟨⟨e⟩,d,x,⟨⟩⟩ hp
 simp only[Bool.and_eq_true,decide_eq_true_eq]at hp
 refine d3s e d x ?_
 have hp1:=hp.1
 have hp2:=hp.2
 simp only[preT,Zi,Ai,RZ,Dh,Bz,c8c,Bf,b9a,a3f,a9z,Cr,List.isEmpty_iff,Bool.and_true,beq_self_eq_true,Bool.or_true,Bool.true_and,decide_eq_true_eq,AV.pv.injEq,a9t,exists_eq_left',hp1,hp2,true_and,Enc.sz,List.length_map,Zm,d5f,d2r,d0f,c4p,c2t,c2v,List.all_nil,List.isEmpty_nil,Bool.true_or,List.map_nil,Bool.not_eq_true',beq_eq_false_iff_ne,bne_iff_ne,Q6,UY,X8]
 by_cases h1:e=[105,110,116]
 ·simp only[h1,ne_eq,not_true,if_false,false_and]
  split
  ·rfl
  ·split
   ·rfl
   ·split
    ·simp_all
    ·simp_all
 ·simp only[h1,ne_eq,not_false_eq_true,if_true,true_and]
  split
  ·rfl
  ·split
   ·rfl
   ·split
    ·rfl
    ·split
     ·simp_all
     ·simp_all
theorem c5q: ∀ a:Arr×Unit,CE a.1=true->Zc c9n 0 (Zb b6x (Zm (CQ a.1))) b6j [] (ZJ d0t (encL a)):=by
 rintro⟨a,⟨⟩⟩ hp
 refine d9t a ⟨Ze (a.e,a.d,a.x,()) rfl hp,Zd (a.e,a.d,a.x,()) rfl ?_⟩
 exact⟨rfl,rfl⟩
end Go.Pl
namespace Go.Pl
open Go.RowKit
set_option maxRecDepth 100000
def Yg:IC:=(Wh [Zx 2 (.mv (WL 0)) 0,Zx 3 (.mv (WL 0)) 0] (.seq (Wh [Zx 8 (Y9 0) 0,Zx 9 (.len 1 (.t 8)) 0,Zx 10 (Kw .gtr (.t 9) (WL 6)) 0] (.cond (.t 10) (Wh [Zx 2 (.mv (WL 0)) 0,Zx 3 (.mv (WL 13)) 0] .ret) .skip)) (Wh [Zx 4 (f'' false) 0] (.seq (Wh [Zx 5 (.mv (WL 0)) 0] (.block 0 (.loop [5,0,4] (.seq (Wh [Zx 11 (Y9 5) 0,Zx 12 (Y9 0) 0,Zx 13 (.len 1 (.t 12)) 0,Zx 14 (Kw .lss (.t 11) (.t 13)) 0] (.cond (.t 14) .skip (.exit 0))) (.seq (.block 1 (.seq (Wh [Zx 17 (Y9 0) 0,Zx 18 (Y9 5) 0,Zx 19 (.iaddr 1 (.t 17) (.t 18)) 0,Zx 20 (D7 [(.int .i64)] (.t 19)) 0,Zx 21 (Kw .lss (.t 20) (WL 0)) 0,Zx 22 (Y9 21) 0,Sa 23 (Y9 0) 0 22,Sa 24 (Y9 5) 0 22,Sa 25 (.iaddr 1 (.t 23) (.t 24)) 0 22,Sa 26 (D7 [(.int .i64)] (.t 25)) 0 22,Sa 27 (Kw .gtr (.t 26) (WL 4096)) 0 22,Zx 28 (.pick (.t 22) (.c (.bool true)) (.t 27)) 0] (.cond (.t 28) (Wh [Zx 2 (.mv (WL 0)) 0,Zx 3 (.mv (WL 2)) 0] .ret) .skip)) (.reg [Zx 29 (Y9 4) 0,Zx 30 (Y9 29) 0,Sa 31 (Y9 0) 0 30,Sa 32 (Y9 5) 0 30,Sa 33 (.iaddr 1 (.t 31) (.t 32)) 0 30,Sa 34 (D7 [(.int .i64)] (.t 33)) 0 30,Sa 35 (Kw .eql (.t 34) (WL 0)) 0 30,Zx 36 (.pick (.t 30) (.c (.bool true)) (.t 35)) 0,Zx 4 (Y9 36) 0] none))) (.reg [Zx 15 (Y9 5) 0,Zx 16 (Kw .add (.t 15) (WL 1)) 0,Zx 5 (Y9 16) 0] none)))))) (.seq (Wh [Zx 37 (Y9 4) 0] (.cond (.t 37) (Wh [Zx 2 (.mv (WL 0)) 0,Zx 3 (.mv (WL 0)) 0] .ret) .skip)) (Wh [Zx 6 (.mv (WL 1)) 0] (.seq (Wh [Zx 7 (.mv (WL 0)) 0] (.block 2 (.loop [7,0,6] (.seq (Wh [Zx 38 (Y9 7) 0,Zx 39 (Y9 0) 0,Zx 40 (.len 1 (.t 39)) 0,Zx 41 (Kw .lss (.t 38) (.t 40)) 0] (.cond (.t 41) .skip (.exit 2))) (.seq (.block 3 (Wh [Zx 44 (Y9 6) 0,Zx 45 (Y9 0) 0,Zx 46 (Y9 7) 0,Zx 47 (.iaddr 1 (.t 45) (.t 46)) 0,Zx 48 (D7 [(.int .i64)] (.t 47)) 0,Zx 49 (Kw .mul (.t 44) (.t 48)) 0,Zx 6 (Y9 49) 0] (Wh [Zx 50 (Y9 6) 0,Zx 51 (Kw .gtr (.t 50) (WL 4096)) 0] (.cond (.t 51) (Wh [Zx 2 (.mv (WL 0)) 0,Zx 3 (.mv (WL 3)) 0] .ret) .skip)))) (.reg [Zx 42 (Y9 7) 0,Zx 43 (Kw .add (.t 42) (WL 1)) 0,Zx 7 (Y9 43) 0] none)))))) (Wh [Zx 52 (Y9 6) 0,Zx 2 (Y9 52) 0,Zx 3 (.mv (WL 0)) 0] .ret))))))))
def Yi:List IRes:=[(.tmp 2),(.tmp 3)]
def YA:Zz:=Yr []
theorem a6s{r:PV}(ns:List Int)(t:Bool)(h0:(decide ((↑(Zn ns).length:Int)>6))=true)(hr:(.tup [(.int .i64 0),(.int .i64 13)])=r):Zc YA 0 (fun st=>fin st Yi=some r) Yg [] (ZJ 53 [.sl 1 t (Zn ns)]):=Zc.w (.lit (.ans true (.nil))) (And.intro h0 hr) (by kernel_rfl)
theorem a7k{r:PV}(ns:List Int)(t:Bool)(h0:(decide ((↑(Zn ns).length:Int)>6))=false)(hn:At YA 0 (fun st=>fin st Yi=some r) Yg 0 53 [(0,(.pv (.sl 1 t (Zn ns)))),(4,(.pv (.bool false))),(5,(.pv (.int .i64 0)))] []):Zc YA 0 (fun st=>fin st Yi=some r) Yg [] (ZJ 53 [.sl 1 t (Zn ns)]):=Zc.w (.lit (.ans false (.nil))) (And.intro h0 hn) (by kernel_rfl)
theorem OG{r:PV}(ns:List Int)(t:Bool)(i:Int)(z:Bool)(h0:(decide (i<(↑(Zn ns).length:Int)))=true)(h1:(decide (0<=i)&&decide (i.toNat<(Zn ns).length)&&1==1)=true)(h2:(decide (0+[Sh.int .i64].length<=((Zn ns).getD i.toNat default).cells.length)&&Yk ((Zn ns).getD i.toNat default).cells 0 [Sh.int .i64])=true)(h3:(decide ((((Zn ns).getD i.toNat default).cells.getD 0 default).asInt<0))=true)(hr:(.tup [(.int .i64 0),(.int .i64 2)])=r):At YA 0 (fun st=>fin st Yi=some r) Yg 0 53 [(0,.pv (.sl 1 t (Zn ns))),(4,.pv (.bool z)),(5,.pv (.int .i64 i))] []:=At.w (.lit (.ans true (.req (.req (.lit (.ans true (.lit (.lit (.lit (.lit (.lit (.lit (.nil))))))))))))) (And.intro h0 (And.intro h1 (And.intro h2 (And.intro h3 hr)))) (by kernel_rfl)
theorem Ou{r:PV}(ns:List Int)(t:Bool)(i:Int)(z:Bool)(h0:(decide (i<(↑(Zn ns).length:Int)))=true)(h1:(decide (0<=i)&&decide (i.toNat<(Zn ns).length)&&1==1)=true)(h2:(decide (0+[Sh.int .i64].length<=((Zn ns).getD i.toNat default).cells.length)&&Yk ((Zn ns).getD i.toNat default).cells 0 [Sh.int .i64])=true)(h3:(decide ((((Zn ns).getD i.toNat default).cells.getD 0 default).asInt<0))=false)(h4:(decide ((((Zn ns).getD i.toNat default).cells.getD 0 default).asInt>4096))=true)(hr:(.tup [(.int .i64 0),(.int .i64 2)])=r):At YA 0 (fun st=>fin st Yi=some r) Yg 0 53 [(0,.pv (.sl 1 t (Zn ns))),(4,.pv (.bool z)),(5,.pv (.int .i64 i))] []:=At.w (.lit (.ans true (.req (.req (.lit (.ans false (.lit (.lit (.req (.lit (.req (.lit (.lit (.lit (.ans true (.nil)))))))))))))))) (And.intro h0 (And.intro h1 (And.intro h2 (And.intro h3 (And.intro h1 (And.intro h2 (And.intro h4 hr))))))) (by kernel_rfl)
theorem Ee{r:PV}(ns:List Int)(t:Bool)(i:Int)(z:Bool)(h0:(decide (i<(↑(Zn ns).length:Int)))=true)(h1:(decide (0<=i)&&decide (i.toNat<(Zn ns).length)&&1==1)=true)(h2:(decide (0+[Sh.int .i64].length<=((Zn ns).getD i.toNat default).cells.length)&&Yk ((Zn ns).getD i.toNat default).cells 0 [Sh.int .i64])=true)(h3:(decide ((((Zn ns).getD i.toNat default).cells.getD 0 default).asInt<0))=false)(h4:(decide ((((Zn ns).getD i.toNat default).cells.getD 0 default).asInt>4096))=false)(h5:(z)=true)(hn:At YA 0 (fun st=>fin st Yi=some r) Yg 0 53 [(0,(.pv (.sl 1 t (Zn ns)))),(4,(.pv (.bool true))),(5,(.pv (.int .i64 (IntKind.i64.wrap (i+1)))))] []):At YA 0 (fun st=>fin st Yi=some r) Yg 0 53 [(0,.pv (.sl 1 t (Zn ns))),(4,.pv (.bool z)),(5,.pv (.int .i64 i))] []:=At.w (.lit (.ans true (.req (.req (.lit (.ans false (.lit (.lit (.req (.lit (.req (.lit (.lit (.lit (.ans false (.ans true (.lit (.lit (.lit (.lit (.lit (.lit (.nil))))))))))))))))))))))) (And.intro h0 (And.intro h1 (And.intro h2 (And.intro h3 (And.intro h1 (And.intro h2 (And.intro h4 (And.intro h5 hn)))))))) (by kernel_rfl)
theorem El{r:PV}(ns:List Int)(t:Bool)(i:Int)(z:Bool)(h0:(decide (i<(↑(Zn ns).length:Int)))=true)(h1:(decide (0<=i)&&decide (i.toNat<(Zn ns).length)&&1==1)=true)(h2:(decide (0+[Sh.int .i64].length<=((Zn ns).getD i.toNat default).cells.length)&&Yk ((Zn ns).getD i.toNat default).cells 0 [Sh.int .i64])=true)(h3:(decide ((((Zn ns).getD i.toNat default).cells.getD 0 default).asInt<0))=false)(h4:(decide ((((Zn ns).getD i.toNat default).cells.getD 0 default).asInt>4096))=false)(h5:(z)=false)(hn:At YA 0 (fun st=>fin st Yi=some r) Yg 0 53 [(0,(.pv (.sl 1 t (Zn ns)))),(4,(.pv (.bool ((((Zn ns).getD i.toNat default).cells.getD 0 default).asInt==0)))),(5,(.pv (.int .i64 (IntKind.i64.wrap (i+1)))))] []):At YA 0 (fun st=>fin st Yi=some r) Yg 0 53 [(0,.pv (.sl 1 t (Zn ns))),(4,.pv (.bool z)),(5,.pv (.int .i64 i))] []:=At.w (.lit (.ans true (.req (.req (.lit (.ans false (.lit (.lit (.req (.lit (.req (.lit (.lit (.lit (.ans false (.ans false (.lit (.lit (.req (.lit (.req (.lit (.lit (.lit (.lit (.nil)))))))))))))))))))))))))) (And.intro h0 (And.intro h1 (And.intro h2 (And.intro h3 (And.intro h1 (And.intro h2 (And.intro h4 (And.intro h5 (And.intro h1 (And.intro h2 hn)))))))))) (by kernel_rfl)
theorem a0x{r:PV}(ns:List Int)(t:Bool)(i:Int)(z:Bool)(h0:(decide (i<(↑(Zn ns).length:Int)))=false)(h1:(z)=true)(hr:(.tup [(.int .i64 0),(.int .i64 0)])=r):At YA 0 (fun st=>fin st Yi=some r) Yg 0 53 [(0,.pv (.sl 1 t (Zn ns))),(4,.pv (.bool z)),(5,.pv (.int .i64 i))] []:=At.w (.lit (.ans false (.ans true (.nil)))) (And.intro h0 (And.intro h1 hr)) (by kernel_rfl)
theorem E5{r:PV}(ns:List Int)(t:Bool)(i:Int)(z:Bool)(h0:(decide (i<(↑(Zn ns).length:Int)))=false)(h1:(z)=false)(hn:At YA 0 (fun st=>fin st Yi=some r) Yg 1 53 [(0,(.pv (.sl 1 t (Zn ns)))),(6,(.pv (.int .i64 1))),(7,(.pv (.int .i64 0)))] []):At YA 0 (fun st=>fin st Yi=some r) Yg 0 53 [(0,.pv (.sl 1 t (Zn ns))),(4,.pv (.bool z)),(5,.pv (.int .i64 i))] []:=At.w (.lit (.ans false (.ans false (.nil)))) (And.intro h0 (And.intro h1 hn)) (by kernel_rfl)
theorem EN{r:PV}(ns:List Int)(t:Bool)(i n:Int)(h0:(decide (i<(↑(Zn ns).length:Int)))=true)(h1:(decide (0<=i)&&decide (i.toNat<(Zn ns).length)&&1==1)=true)(h2:(decide (0+[Sh.int .i64].length<=((Zn ns).getD i.toNat default).cells.length)&&Yk ((Zn ns).getD i.toNat default).cells 0 [Sh.int .i64])=true)(h3:(decide (IntKind.i64.wrap (n*(((Zn ns).getD i.toNat default).cells.getD 0 default).asInt)>4096))=true)(hr:(.tup [(.int .i64 0),(.int .i64 3)])=r):At YA 0 (fun st=>fin st Yi=some r) Yg 1 53 [(0,.pv (.sl 1 t (Zn ns))),(6,.pv (.int .i64 n)),(7,.pv (.int .i64 i))] []:=At.w (.lit (.ans true (.req (.req (.lit (.lit (.ans true (.nil)))))))) (And.intro h0 (And.intro h1 (And.intro h2 (And.intro h3 hr)))) (by kernel_rfl)
theorem O5{r:PV}(ns:List Int)(t:Bool)(i n:Int)(h0:(decide (i<(↑(Zn ns).length:Int)))=true)(h1:(decide (0<=i)&&decide (i.toNat<(Zn ns).length)&&1==1)=true)(h2:(decide (0+[Sh.int .i64].length<=((Zn ns).getD i.toNat default).cells.length)&&Yk ((Zn ns).getD i.toNat default).cells 0 [Sh.int .i64])=true)(h3:(decide (IntKind.i64.wrap (n*(((Zn ns).getD i.toNat default).cells.getD 0 default).asInt)>4096))=false)(hn:At YA 0 (fun st=>fin st Yi=some r) Yg 1 53 [(0,(.pv (.sl 1 t (Zn ns)))),(6,(.pv (.int .i64 (IntKind.i64.wrap (n*(((Zn ns).getD i.toNat default).cells.getD 0 default).asInt))))),(7,(.pv (.int .i64 (IntKind.i64.wrap (i+1)))))] []):At YA 0 (fun st=>fin st Yi=some r) Yg 1 53 [(0,.pv (.sl 1 t (Zn ns))),(6,.pv (.int .i64 n)),(7,.pv (.int .i64 i))] []:=At.w (.lit (.ans true (.req (.req (.lit (.lit (.ans false (.lit (.nil))))))))) (And.intro h0 (And.intro h1 (And.intro h2 (And.intro h3 hn)))) (by kernel_rfl)
theorem OI{r:PV}(ns:List Int)(t:Bool)(i n:Int)(h0:(decide (i<(↑(Zn ns).length:Int)))=false)(hr:(.tup [(.int .i64 n),(.int .i64 0)])=r):At YA 0 (fun st=>fin st Yi=some r) Yg 1 53 [(0,.pv (.sl 1 t (Zn ns))),(6,.pv (.int .i64 n)),(7,.pv (.int .i64 i))] []:=At.w (.lit (.ans false (.nil))) (And.intro h0 hr) (by kernel_rfl)
def WT:IC:=(Wh [Zx 4 (.mv (WL 0)) 0] (.seq (Wh [Zx 6 (Y9 0) 0,Zx 7 (.len 1 (.t 6)) 0,Zx 8 (.mv (WL 0)) 0] (.block 0 (.loop [8,7,1,0] (Wh [Zx 9 (Kw .lss (.t 8) (.t 7)) 0] (.seq (.cond (.t 9) .skip (.exit 0)) (.seq (.block 1 (Wh [Zx 10 (Y9 8) 0,Zx 5 (Y9 10) 0] (Wh [Zx 11 (Y9 1) 0,Zx 12 (Y9 0) 0,Zx 13 (Y9 5) 0,Zx 14 (.iaddr 1 (.t 12) (.t 13)) 0,Zx 15 (D7 [(.int .i64)] (.t 14)) 0,Zx 16 (Kw .eql (.t 11) (.t 15)) 0] (.cond (.t 16) (Wh [Zx 17 (Y9 5) 0,Zx 4 (Y9 17) 0] .ret) .skip)))) (.reg [Zx 18 (Kw .add (.t 8) (WL 1)) 0,Zx 8 (Y9 18) 0] none))))))) (Wh [Zx 4 (.mv (.c (.int .i64 (-1)))) 0] .ret)))
def WU:List IRes:=[(.tmp 4)]
def VB:Zz:=Yr []
theorem a5i{r:PV}(ns:List Int)(t:Bool)(v:Int)(hn:At VB 0 (fun st=>fin st WU=some r) WT 0 19 [(0,(.pv (.sl 1 t (Zn ns)))),(1,(.pv (.int .i64 v))),(7,(.pv (.int .i64 (↑(Zn ns).length:Int)))),(8,(.pv (.int .i64 0)))] []):Zc VB 0 (fun st=>fin st WU=some r) WT [] (ZJ 19 [.sl 1 t (Zn ns),.int .i64 v]):=Zc.w (.nil) hn (by kernel_rfl)
theorem Ea{r:PV}(ns:List Int)(t:Bool)(v:Int)(i:Int)(h0:(decide (i<(↑(Zn ns).length:Int)))=true)(h1:(decide (0<=i)&&decide (i.toNat<(Zn ns).length)&&1==1)=true)(h2:(decide (0+[Sh.int .i64].length<=((Zn ns).getD i.toNat default).cells.length)&&Yk ((Zn ns).getD i.toNat default).cells 0 [Sh.int .i64])=true)(h3:(v==(((Zn ns).getD i.toNat default).cells.getD 0 default).asInt)=true)(hr:(.int .i64 i)=r):At VB 0 (fun st=>fin st WU=some r) WT 0 19 [(0,.pv (.sl 1 t (Zn ns))),(1,.pv (.int .i64 v)),(7,.pv (.int .i64 (Zn ns).length)),(8,.pv (.int .i64 i))] []:=At.w (.lit (.ans true (.req (.req (.lit (.ans true (.nil))))))) (And.intro h0 (And.intro h1 (And.intro h2 (And.intro h3 hr)))) (by kernel_rfl)
theorem OP{r:PV}(ns:List Int)(t:Bool)(v:Int)(i:Int)(h0:(decide (i<(↑(Zn ns).length:Int)))=true)(h1:(decide (0<=i)&&decide (i.toNat<(Zn ns).length)&&1==1)=true)(h2:(decide (0+[Sh.int .i64].length<=((Zn ns).getD i.toNat default).cells.length)&&Yk ((Zn ns).getD i.toNat default).cells 0 [Sh.int .i64])=true)(h3:(v==(((Zn ns).getD i.toNat default).cells.getD 0 default).asInt)=false)(hn:At VB 0 (fun st=>fin st WU=some r) WT 0 19 [(0,(.pv (.sl 1 t (Zn ns)))),(1,(.pv (.int .i64 v))),(7,(.pv (.int .i64 (↑(Zn ns).length:Int)))),(8,(.pv (.int .i64 (IntKind.i64.wrap (i+1)))))] []):At VB 0 (fun st=>fin st WU=some r) WT 0 19 [(0,.pv (.sl 1 t (Zn ns))),(1,.pv (.int .i64 v)),(7,.pv (.int .i64 (Zn ns).length)),(8,.pv (.int .i64 i))] []:=At.w (.lit (.ans true (.req (.req (.lit (.ans false (.lit (.nil)))))))) (And.intro h0 (And.intro h1 (And.intro h2 (And.intro h3 hn)))) (by kernel_rfl)
theorem a0h{r:PV}(ns:List Int)(t:Bool)(v:Int)(i:Int)(h0:(decide (i<(↑(Zn ns).length:Int)))=false)(hr:(.int .i64 (-1))=r):At VB 0 (fun st=>fin st WU=some r) WT 0 19 [(0,.pv (.sl 1 t (Zn ns))),(1,.pv (.int .i64 v)),(7,.pv (.int .i64 (Zn ns).length)),(8,.pv (.int .i64 i))] []:=At.w (.lit (.ans false (.nil))) (And.intro h0 hr) (by kernel_rfl)
end Go.Pl
namespace Go.Pl
open Go.RowKit
theorem LX{r:PV}(ns:List Int)(t:Bool)(h6:ns.length<=6)(ha:ns.all Un=true): ∀ (m k:Nat) (n:Int),m+k=ns.length->0<=n->n<=4096 ->
  r=(match Cn n (ns.drop k)with|some n=>.tup [.int .i64 n,.int .i64 0]|none=>.tup [.int .i64 0,.int .i64 3]) ->
  At YA 0 (fun st=>fin st Yi=some r) Yg 1 53 [(0,.pv (.sl 1 t (Zn ns))),(6,.pv (.int .i64 n)),(7,.pv (.int .i64 k))] []:=by
 intro m
 induction m with
 | zero=>
  intro k n hk h0 h1 hr
  have:ns.drop k=[]:=List.drop_of_length_le (by omega)
  rw[this]at hr
  exact OI ns t k n (by simp;omega) hr.symm
 | succ m ih=>
  intro k n hk h0 h1 hr
  have hlt:k<ns.length:=by omega
  have hd:0<=ns[k]∧ns[k]<=4096:=by
   have:=List.all_eq_true.1 ha _ (List.getElem_mem hlt)
   simpa [Un]using this
  have hp:0<=n*ns[k]∧n*ns[k]<=4096*4096:=⟨Int.mul_nonneg h0 hd.1,Int.mul_le_mul h1 hd.2 hd.1 (by omega)⟩
  have hw:IntKind.i64.wrap (n*ns[k])=n*ns[k]:=QO (by omega) (by omega)
  rw[List.drop_eq_getElem_cons hlt,Cn]at hr
  have e:=KE hlt
  by_cases hb:4096<n*ns[k]
  ·simp only[hb,decide_true,cond_true]at hr
   refine EN ns t k n (by simp;omega) (by simp;omega) (by rw[e];rfl) ?_ hr.symm
   rw[e]
   simpa [PV.cells,PV.asInt,hw]using hb
  ·simp only[hb,decide_false,cond_false]at hr
   refine O5 ns t k n (by simp;omega) (by simp;omega) (by rw[e];rfl) ?_ ?_
   ·rw[e]
    simpa [PV.cells,PV.asInt,hw]using Int.not_lt.1 hb
   ·rw[e,next (by omega)]
    simp only[PV.cells,List.getD_cons_zero,PV.asInt,hw]
    exact ih (k+1) (n*ns[k]) (by omega) hp.1 (by omega) hr
theorem Fw(ns:List Int)(t:Bool)(h6:ns.length<=6): ∀ (m k:Nat) (z:Bool),m+k=ns.length->(∀ j (hj:j<ns.length),j<k->Un ns[j]=true)->z=(ns.take k).any (· == 0) ->
  At YA 0 (fun st=>fin st Yi=some (YD [.sl 1 t (Zn ns)])) Yg 0 53 [(0,.pv (.sl 1 t (Zn ns))),(4,.pv (.bool z)),(5,.pv (.int .i64 k))] []:=by
 intro m
 induction m with
 | zero=>
  intro k z hk hd hz
  have ha:ns.all Un=true:=by
   rw[List.all_eq_true]
   intro x hx
   obtain⟨j,hj,rfl⟩:=List.getElem_of_mem hx
   exact hd j hj (by omega)
  rw[List.take_of_length_le (by omega)]at hz
  cases z with
  | true=>
   refine a0x ns t k _ (by simp;omega) rfl ?_
   simp[YD,YL,YT,ha,<- hz,Nat.not_lt.2 h6]
  | false=>
   refine E5 ns t k _ (by simp;omega) rfl ?_
   refine LX ns t h6 ha ns.length 0 1 (by omega) (by omega) (by omega) ?_
   simp only[YD,YL,YT,ha,<- hz,Nat.not_lt.2 h6,decide_false,cond_false,cond_true,List.drop_zero]
   cases Cn 1 ns <;> rfl
 | succ m ih=>
  intro k z hk hd hz
  have hlt:k<ns.length:=by omega
  have e:=KE hlt
  have hbad:Un ns[k]=false->YD [.sl 1 t (Zn ns)] = .tup [.int .i64 0,.int .i64 2]:=by
   intro hb
   have ha:ns.all Un=false:=by
    rw[List.all_eq_false]
    exact⟨_,List.getElem_mem hlt,by simp[hb]⟩
   simp[YD,YL,YT,ha,Nat.not_lt.2 h6]
  have hn:(ns.take (k+1)).any (· == 0)=(z||ns[k]==0):=by
   rw[List.take_succ_eq_append_getElem hlt,List.any_append,hz];simp
  have hd':Un ns[k]=true-> ∀ j (hj:j<ns.length),j<k+1->Un ns[j]=true:=by
   intro hb j hj hjk
   by_cases he:j=k
   ·subst he;exact hb
   ·exact hd j hj (by omega)
  by_cases h1:ns[k]<0
  ·refine OG ns t k z (by simp;omega) (by simp;omega) (by rw[e];rfl) (by rw[e];simpa [PV.cells,PV.asInt]using h1) (hbad ?_).symm
   simp[Un];omega
  ·by_cases h2:4096<ns[k]
   ·refine Ou ns t k z (by simp;omega) (by simp;omega) (by rw[e];rfl) (by rw[e];simpa [PV.cells,PV.asInt]using h1) (by rw[e];simpa [PV.cells,PV.asInt]using h2) (hbad ?_).symm
    simp[Un];omega
   ·have hb:Un ns[k]=true:=by simp[Un];omega
    cases z with
    | true=>
     refine Ee ns t k true (by simp;omega) (by simp;omega) (by rw[e];rfl) (by rw[e];simpa [PV.cells,PV.asInt]using h1) (by rw[e];simpa [PV.cells,PV.asInt]using h2) rfl ?_
     rw[next (by omega)]
     exact ih (k+1) true (by omega) (hd' hb) (by rw[hn];rfl)
    | false=>
     refine El ns t k false (by simp;omega) (by simp;omega) (by rw[e];rfl) (by rw[e];simpa [PV.cells,PV.asInt]using h1) (by rw[e];simpa [PV.cells,PV.asInt]using h2) rfl ?_
     rw[next (by omega),e]
     exact ih (k+1) _ (by omega) (hd' hb) (by rw[hn];rfl)
theorem a5z: ∀ ps,Qi ps=true->Zc YA 0 (fun st=>fin st Yi=some (YD ps)) Yg [] (ZJ 53 ps):=by
 intro ps hp
 unfold Qi at hp
 split at hp
 ·rename_i t xs
  obtain⟨ns,rfl⟩:=C9 hp
  by_cases h6:6<ns.length
  ·refine a6s ns t (by simp;omega) ?_
   simp[YD,YL,YT,h6]
  ·refine a7k ns t (by simp;omega) ?_
   exact Fw ns t (by omega) ns.length 0 false (by omega) (fun j hj h=>by omega) (by simp)
 ·cases hp
def O7(v:Int):List Int->Nat->Int
 | [],_=> -1
 | n::r,i=>bif v==n then i else O7 v r (i+1)
theorem b7s{v:Int}: ∀ {l:List Int} {i:Nat},decide (0<=O7 v l i)=l.any (· == v):=by
 intro l
 induction l with
 | nil=>intro i;rfl
 | cons n r ih=>
  intro i
  simp only[O7,List.any_cons]
  by_cases h:v=n
  ·subst h;simp
  ·have h1:(v==n)=false:=by simpa using h
   have h2:(n==v)=false:=by simp;omega
   simp only[h1,h2,cond_false,Bool.false_or]
   exact ih
def KV:List PV->PV
 | [.sl _ _ xs,.int _ v]=>.int .i64 (O7 v (xs.map PV.asInt) 0)
 | _=>.nilp
theorem Ep(ns:List Int)(t:Bool)(v:Int)(hl:ns.length<=1099511627776){r:PV}: ∀ (m k:Nat),m+k=ns.length->r = .int .i64 (O7 v (ns.drop k) k) ->
  At VB 0 (fun st=>fin st WU=some r) WT 0 19 [(0,.pv (.sl 1 t (Zn ns))),(1,.pv (.int .i64 v)),(7,.pv (.int .i64 (Zn ns).length)),(8,.pv (.int .i64 k))] []:=by
 intro m
 induction m with
 | zero=>
  intro k hk hr
  rw[List.drop_of_length_le (by omega)]at hr
  exact a0h ns t v k (by simp;omega) hr.symm
 | succ m ih=>
  intro k hk hr
  have hlt:k<ns.length:=by omega
  have e:=KE hlt
  rw[List.drop_eq_getElem_cons hlt,O7]at hr
  cases hb:v==ns[k]with
  | true=>
   rw[hb,cond_true]at hr
   exact Ea ns t v k (by simp;omega) (by simp;omega) (by rw[e];rfl) (by rw[e];exact hb) hr.symm
  | false=>
   rw[hb,cond_false]at hr
   refine OP ns t v k (by simp;omega) (by simp;omega) (by rw[e];rfl) (by rw[e];exact hb) ?_
   rw[next (by omega)]
   exact ih (k+1) (by omega) hr
theorem a5q: ∀ ps,Ya ps=true->Zc VB 0 (fun st=>fin st WU=some (KV ps)) WT [] (ZJ 19 ps):=by
 intro ps hp
 unfold Ya at hp
 split at hp
 ·rename_i t xs v
  simp only[Bool.and_eq_true,decide_eq_true_eq]at hp
  obtain⟨ns,rfl⟩:=C9 hp.1
  refine a5i ns t v ?_
  exact Ep ns t v (by have:=hp.2;rwa [Ck]at this) ns.length 0 (by omega) (by simp[KV])
 ·cases hp
def PV.ns(p:PV):List Int:=p.asXs.map PV.asInt
def Km:IC:=(Wh [Zx 4 (f'' false) 0] (Wh [Zx 5 (Y9 0) 0,Zx 6 (Y9 1) 0,Zx 7 (c'' 193 [(.t 5),(.t 6)]) 0,Zx 8 (Kw .geq (.t 7) (WL 0)) 2,Zx 4 (Y9 8) 2] .ret))
def Kr:List IRes:=[(.tmp 4)]
abbrev Fp:Nat:=9
def JH:Zz:=Yr [(193,.pure Ya KV)]
theorem PM{r:PV}(ns:List Int)(t:Bool)(v:Int)(h0:(Ya [(.sl 1 t (Zn ns)),(.int .i64 v)])=true)(hr:(.bool (decide (O7 v (List.map PV.asInt (Zn ns)) 0 ≥ 0)))=r):Zc JH 0 (fun st=>fin st Kr=some r) Km [] (ZJ 9 [.sl 1 t (Zn ns),.int .i64 v]):=Zc.w (.req (.lit (.nil))) (And.intro h0 hr) (by kernel_rfl)
theorem PN: ∀ ps,Ya ps=true->Zc JH 0 (fun st=>fin st Kr=some (VD ps)) Km [] (ZJ Fp ps):=by
 intro ps hp
 have hp':=hp
 unfold Ya at hp
 split at hp
 ·rename_i t xs v
  simp only[Bool.and_eq_true,decide_eq_true_eq]at hp
  obtain⟨ns,rfl⟩:=C9 hp.1
  refine PM ns t v hp' ?_
  have:=b7s (v:=v) (l:=ns) (i:=0)
  simp only[YT,VD,BV,ge_iff_le]
  rw[<- this]
 ·cases hp
end Go.Pl
namespace Go.Pl
open Go.RowKit
open Enc (enc dec is)
open EncL (encL decL isL)
set_option maxRecDepth 100000
end Go.Pl
namespace Go.Pl
open Go.RowKit
open Enc (enc dec is)
open EncL (encL decL isL)
theorem b2h{s:List UInt8}{i:Nat}(h:i<s.length):List.getD (ZA s) (Int.toNat (i:Int)) default = .int .u8 (s[i].toNat:Int):=by
 simp[ZA,List.getD,h]
theorem DF(s:List UInt8):(ZA s).length=s.length:=by simp[ZA]
def NN(c:UInt8):Bool:=lowB c||digB c
theorem a1e{c:UInt8}:lowB c=true ↔ 97<=c.toNat∧c.toNat<=122:=by
 simp only[lowB,Bool.and_eq_true,decide_eq_true_eq,UInt8.le_iff_toNat_le]
 have e1:(97:UInt8).toNat=97:=rfl
 have e2:(122:UInt8).toNat=122:=rfl
 rw[e1,e2]
theorem Tp{c:UInt8}(h : ¬ (97<=c.toNat∧c.toNat<=122)):lowB c=false:=by
 cases e:lowB c
 ·rfl
 ·exact absurd (a1e.1 e) h
theorem Rb{c:UInt8}(h : ¬ (48<=c.toNat∧c.toNat<=57)):digB c=false:=by
 cases e:digB c
 ·rfl
 ·exact absurd (Vp.1 e) h
def Vd(s:List UInt8)(i:Nat):Bool:=(match i with|0=>(match s with|[]=>true|c::r=>lowB c&&r.all NN)|i+1=>(s.drop (i+1)).all NN)&&(!(s==[]))&&decide (s.length<=30)
theorem a5u{s:List UInt8}{i:Nat}(h:i<s.length)(hb:lowB s[i]=true∨(i≠0∧digB s[i]=true)):Vd s i=Vd s (i+1):=by
 cases i with
 | zero=>
  cases s with
  | nil=>simp at h
  | cons c r=>
   rcases hb with hb|hb
   ·have hb:lowB c=true:=hb
    simp[Vd,hb]
   ·exact absurd rfl hb.1
 | succ i=>
  unfold Vd
  simp only
  rw[List.drop_eq_getElem_cons h,List.all_cons]
  have:NN s[i+1]=true:=by
   rcases hb with hb|hb
   ·simp[NN,hb]
   ·simp[NN,hb.2]
  rw[this,Bool.true_and]
theorem a7e{s:List UInt8}{i:Nat}(h:i<s.length)(hb:lowB s[i]=false∧(i=0∨digB s[i]=false)):Vd s i=false:=by
 cases i with
 | zero=>
  cases s with
  | nil=>simp at h
  | cons c r=>
   have hb:lowB c=false:=hb.1
   simp[Vd,hb]
 | succ i=>
  unfold Vd
  simp only
  rw[List.drop_eq_getElem_cons h,List.all_cons]
  have:NN s[i+1]=false:=by
   rcases hb.2 with h0|h0
   ·cases h0
   ·simp[NN,hb.1,h0]
  rw[this];simp
theorem a6m{s:List UInt8}(h:[95].isPrefixOf s=false):Y0 ⟨s⟩=Vd s 0:=by
 cases s with
 | nil=>rfl
 | cons c r=>
  have hc : ¬ c=95:=by intro e;subst e;simp at h
  have e:decide ((c::r).length<=30)=decide (r.length<=29):=decide_eq_decide.2 (by simp)
  unfold Vd
  rw[e]
  simp only[Y0,if_neg hc]
  show _=(lowB c&&r.all NN&& !((c::r)==[])&&_)
  have e2:((c::r)==[])=false:=rfl
  rw[e2]
  simp only[Bool.not_false,Bool.and_true]
  rfl
theorem a0n(s:Str): -9223372036854775808<=(Xh s).1∧((Xh s).1<=9223372036854775807):=by
 unfold Xh
 split
 ·rename_i v hv;exact Lib.atoiAll_bounds hv
 ·have:=Lib.atoiSat_bounds s.s
  exact⟨by show _<=Lib.atoiSat s.s;omega,by show Lib.atoiSat s.s<=_;omega⟩
 ·exact⟨by show(-9223372036854775808:Int)<=0;omega,by show(0:Int)<=_;omega⟩
end Go.Pl
namespace Go.Pl
open Go.RowKit
open Enc (enc dec is)
open EncL (encL decL isL)
set_option maxRecDepth 100000
abbrev c7t(ps:List PV)(k:Int->Prop):Prop:=ceP (fun(x:Int×Int×Unit)=>JQ (Prod.fst x) (Prod.fst (Prod.snd x))) ps k
abbrev d9u(ps:List PV)(k:Int->Prop):Prop:=ceP (fun(x:Coef×Coef×Unit)=>GN (Prod.fst x) (Prod.fst (Prod.snd x))) ps k
abbrev d5t(ps:List PV)(k:Int->Prop):Prop:=XT (fun(x:List Coef×List Coef×FnV 121×Unit)=>decide (List.length (Prod.fst x)<=9223372036854775807)&&decide (List.length (Prod.fst (Prod.snd x))<=9223372036854775807)) (fun(x:List Coef×List Coef×FnV 121×Unit)=>Wl (Prod.fst x) (Prod.fst (Prod.snd x))) ps k
abbrev d8c(ps:List PV)(k:Int->Prop):Prop:=XT (fun(x:Lin×Lin×Unit)=>ZR (Prod.fst x)&&ZR (Prod.fst (Prod.snd x))) (fun(x:Lin×Lin×Unit)=>Uk (Prod.fst x) (Prod.fst (Prod.snd x))) ps k
noncomputable def TR:IC:=Xy Proofs.Tryz.f123
def Dz:List IRes:=[(.tmp 4)]
abbrev a7i:Nat:=13
def Ad:Zz:=Yr []
theorem b5u{G:PV->Prop}(a b:Int)(h:if (decide (a<b))=true then G ((.int .i64 (-1)))else(if (decide (a>b))=true then G ((.int .i64 1))else(G ((.int .i64 0))))):Zc Ad 0 (Zb Dz G) TR [] (ZJ 13 [enc a,enc b]):=Zc.tp (dm [] 14 0x142000142) h
noncomputable def Mw:IC:=Xy Proofs.Tryz.f121
def BG:List IRes:=[(.tmp 4)]
abbrev b0z:Nat:=19
def Nh:Zz:=Yr [(122,.pure (preT (fun _:Str×Str×Unit=>true)) (Zi (fun x:Str×Str×Unit=>Lib.compareBytes x.1.s x.2.1.s))),(123,.pure (preT (fun _:Int×Int×Unit=>true)) (Zi (fun x:Int×Int×Unit=>JQ x.1 x.2.1)))]
theorem c6i{G:PV->Prop}(x y:Coef)(h : ∃ y0:Int,AV.pv (Zi (fun(x:Str×Str×Unit)=>Lib.compareBytes (Str.s x.1) (Str.s x.2.1)) [(.str (Str.s x.v)),(.str (Str.s y.v))])=AV.pv (enc y0)∧(if (y0 != 0)=true then G ((.int .i64 y0))else(c7t [(.int .i64 x.c),(.int .i64 y.c)] fun y1=>(G ((.int .i64 y1)))))):Zc Nh 0 (Zb BG G) Mw [] (ZJ 19 [enc x,enc y]):=Zc.tp (dm [dv Int] 12 0x5200014252) h
noncomputable def Qd:IC:=Xy Proofs.Tryz.f120
def U8:List IRes:=[(.tmp 6)]
abbrev b7n:Nat:=39
def K3:Zz:=Yr [(121,.pure (preT (fun _:Coef×Coef×Unit=>true)) (Zi (fun x:Coef×Coef×Unit=>GN x.1 x.2.1)))]
theorem c1p{G:PV->Prop}(a b:List Coef)(h:At K3 0 (Zb U8 G) Qd 0 39 [(0,(.pv (.sl 2 false (List.map enc a)))),(1,(.pv (.sl 2 false (List.map enc b)))),(2,(.pv (.fn 121))),(11,(.pv (.sl 2 false (List.map enc a)))),(12,(.pv (.int .i64 (↑(List.length (List.map enc a)):Int)))),(13,(.pv (.int .i64 0)))] []):Zc K3 0 (Zb U8 G) Qd [] (ZJ 39 [enc a,enc b,.fn 121]):=Zc.tp (.nil) h
theorem M9{G:PV->Prop}(a b:List Coef)(i:Int)(h:if (decide (i<(↑(List.length a):Int)))=true then(Ul a i 2 fun y0=>(if (decide (i ≥ (↑(List.length (List.map enc b)):Int)))=true then G ((.int .i64 1))else((Ul b i 2 fun y1=>(d9u [(.agg [(.str (PV.asStr (List.getD (PV.cells (enc y0)) 0 default))),(.int .i64 (PV.asInt (List.getD (PV.cells (enc y0)) (0+1) default)))]),(.agg [(.str (PV.asStr (List.getD (PV.cells (enc y1)) 0 default))),(.int .i64 (PV.asInt (List.getD (PV.cells (enc y1)) (0+1) default)))])] fun y2=>(if (y2 != 0)=true then G ((.int .i64 y2))else(At K3 0 (Zb U8 G) Qd 0 39 [(0,(.pv (.sl 2 false (List.map enc a)))),(1,(.pv (.sl 2 false (List.map enc b)))),(2,(.pv (.fn 121))),(11,(.pv (.sl 2 false (List.map enc a)))),(12,(.pv (.int .i64 (↑(List.length a):Int)))),(13,(.pv (.int .i64 (IntKind.wrap IntKind.i64 (i+1)))))] [])))))))else(if (decide ((↑(List.length (List.map enc a)):Int)<(↑(List.length (List.map enc b)):Int)))=true then G ((.int .i64 (-1)))else(G ((.int .i64 0))))):At K3 0 (Zb U8 G) Qd 0 39 [(0,.pv (enc a)),(1,.pv (enc b)),(2,.pv (.fn 121)),(11,.pv (enc a)),(12,.pv (.int .i64 a.length)),(13,.pv (.int .i64 i))] []:=At.tp (dm [dr Coef,dv Int] 35 0x142020001426225100014225101642) h
noncomputable def a5e:IC:=Xy Proofs.Tryz.f89
def Pk:List IRes:=[(.tmp 4)]
abbrev c4e:Nat:=19
def Ox:Zz:=Yr [(120,.pure (preT (fun x:List Coef×List Coef×FnV 121×Unit=>decide (x.1.length<=9223372036854775807)&&decide (x.2.1.length<=9223372036854775807))) (Zi (fun x:List Coef×List Coef×FnV 121×Unit=>Wl x.1 x.2.1))),(123,.pure (preT (fun _:Int×Int×Unit=>true)) (Zi (fun x:Int×Int×Unit=>JQ x.1 x.2.1)))]
theorem d4d{G:PV->Prop}(a b:Lin)(h:(d5t [(.sl 2 false (List.map enc a.t)),(.sl 2 false (List.map enc b.t)),(.fn 121)] fun y0=>(if (y0 != 0)=true then G ((.int .i64 y0))else(c7t [(.int .i64 a.k),(.int .i64 b.k)] fun y1=>(G ((.int .i64 y1))))))):Zc Ox 0 (Zb Pk G) a5e [] (ZJ 19 [enc a,enc b]):=Zc.tp (dm [dv Int] 12 0x5200014251) h
noncomputable def b7u:IC:=Xy Proofs.Tryz.f63
def b9w:List IRes:=[(.tmp 4)]
abbrev d0h:Nat:=9
def d0a:Zz:=Yr [(89,.pure (preT (fun x:Lin×Lin×Unit=>ZR x.1&&ZR x.2.1)) (Zi (fun x:Lin×Lin×Unit=>Uk x.1 x.2.1)))]
theorem d8z{G:PV->Prop}(a b:Lin)(h:(d8c [(.agg [(.int .i64 a.k),(.sl 2 false (List.map enc a.t))]),(.agg [(.int .i64 b.k),(.sl 2 false (List.map enc b.t))])] fun y0=>(G ((.bool (y0==0)))))):Zc d0a 0 (Zb b9w G) b7u [] (ZJ 9 [enc a,enc b]):=Zc.tp (.req (.abs (Int) (fun YY=>AV.pv (enc YY)) (.lit (.nil)))) h
end Go.Pl
namespace Go.Pl
open Go.RowKit
open Enc (enc dec is)
open EncL (encL decL isL)
theorem a0l: ∀ a:Int×Int×Unit,true=true->Zc Ad 0 (Zb Dz (Zm (JQ a.1 a.2.1))) TR [] (ZJ a7i (encL a)):=by
 rintro⟨a,b,⟨⟩⟩ -
 show Zc Ad 0 (Zb Dz (Zm (JQ a b))) _ _ _
 refine b5u a b (Y3 (fun h=> ?_) fun h=>Y3 (fun k=> ?_) fun k=> ?_)
 ·exact UJ (by simp[JQ,h])
 ·exact UJ (by simp[JQ,h,k])
 ·exact UJ (by simp[JQ,h,k])
theorem a5l: ∀ a:Coef×Coef×Unit,true=true->Zc Nh 0 (Zb BG (Zm (GN a.1 a.2.1))) Mw [] (ZJ b0z (encL a)):=by
 rintro⟨x,y,⟨⟩⟩ -
 show Zc Nh 0 (Zb BG (Zm (GN x y))) _ _ _
 unfold GN
 refine c6i x y (Zd (x.v,y.v,()) rfl (CF (fun h=> ?_) fun h=>Zd (x.c,y.c,()) rfl ?_))
 ·have h:Lib.compareBytes x.v.s y.v.s≠0:=by simpa using h
  rw[if_pos h]
  exact UJ rfl
 ·have h : ¬ Lib.compareBytes x.v.s y.v.s≠0:=by simpa using h
  rw[if_neg h]
  exact UJ rfl
theorem F6(t:Coef):(PV.agg [.str (PV.asStr (List.getD (PV.cells (enc t)) 0 default)),.int .i64 (PV.asInt (List.getD (PV.cells (enc t)) (0+1) default))])=enc t:=rfl
theorem EL(a b:List Coef)(ha:a.length<=9223372036854775807): ∀ (m i:Nat),m+i=a.length->i<=b.length ->
  At K3 0 (Zb U8 (Zm (Wl (a.drop i) (b.drop i)))) Qd 0 39 [(0,.pv (enc a)),(1,.pv (enc b)),(2,.pv (.fn 121)),(11,.pv (enc a)),(12,.pv (.int .i64 a.length)),(13,.pv (.int .i64 i))] []:=by
 intro m
 induction m with
 | zero=>
  intro i hi hb
  have ea:a.drop i=[]:=List.drop_of_length_le (by omega)
  rw[ea]
  refine M9 a b i (YW (Vk (by omega)) (Y3 (fun h=> ?_) fun h=> ?_))
  ·have h:a.length<b.length:=by simpa using h
   have:b.drop i=b[i]::b.drop (i+1):=List.drop_eq_getElem_cons (by omega)
   rw[this]
   exact UJ (by rw[Wl])
  ·have h : ¬ a.length<b.length:=by simpa using h
   have:b.drop i=[]:=List.drop_of_length_le (by omega)
   rw[this]
   exact UJ (by rw[Wl])
 | succ m ih=>
  intro i hi hb
  have hlt:i<a.length:=by omega
  have ea:a.drop i=a[i]::a.drop (i+1):=List.drop_eq_getElem_cons hlt
  rw[ea]
  refine M9 a b i (YB (Vf hlt) ⟨ZB hlt rfl,ZQ hlt (Y3 (fun h=> ?_) fun h=> ?_)⟩)
  ·have h:b.length<=i:=by
    have:(i:Int) ≥ ((List.map (enc:Coef->PV) b).length:Int):=h
    rw[List.length_map]at this
    omega
   have:b.drop i=[]:=List.drop_of_length_le h
   rw[this]
   exact UJ (by rw[Wl])
  ·have h:i<b.length:=by
    have : ¬ (i:Int) ≥ ((List.map (enc:Coef->PV) b).length:Int):=h
    rw[List.length_map]at this
    omega
   have eb:b.drop i=b[i]::b.drop (i+1):=List.drop_eq_getElem_cons h
   rw[eb]
   refine⟨ZB h rfl,ZQ h ?_⟩
   rw[F6,F6]
   refine Zd (a[i],b[i],()) rfl (CF (fun hc=> ?_) fun hc=> ?_)
   ·have hc:GN a[i] b[i]≠0:=by simpa using hc
    exact UJ (by rw[Wl,if_pos hc])
   ·have hc : ¬ GN a[i] b[i]≠0:=by simpa using hc
    have e:Wl (a[i]::a.drop (i+1)) (b[i]::b.drop (i+1))=Wl (a.drop (i+1)) (b.drop (i+1)):=by rw[Wl,if_neg hc]
    rw[e,next (by omega)]
    exact ih (i+1) (by omega) (by omega)
theorem a6y: ∀ a:List Coef×List Coef×FnV 121×Unit,(decide (a.1.length<=9223372036854775807)&&decide (a.2.1.length<=9223372036854775807))=true->Zc K3 0 (Zb U8 (Zm (Wl a.1 a.2.1))) Qd [] (ZJ b7n (encL a)):=by
 rintro⟨a,b,g,⟨⟩⟩ h
 simp only[Bool.and_eq_true,decide_eq_true_eq]at h
 refine c1p a b ?_
 rw[List.length_map]
 exact EL a b h.1 a.length 0 (by omega) (by omega)
theorem b3q: ∀ a:Lin×Lin×Unit,(ZR a.1&&ZR a.2.1)=true->Zc Ox 0 (Zb Pk (Zm (Uk a.1 a.2.1))) a5e [] (ZJ c4e (encL a)):=by
 rintro⟨a,b,⟨⟩⟩ h
 show Zc Ox 0 (Zb Pk (Zm (Uk a b))) _ _ _
 unfold Uk
 refine d4d a b ⟨Ze (a.t,b.t,({}:FnV 121),()) rfl h,Zd (a.t,b.t,({}:FnV 121),()) rfl (CF (fun hc=> ?_) fun hc=>Zd (a.k,b.k,()) rfl ?_)⟩
 ·have hc:Wl a.t b.t≠0:=by simpa using hc
  rw[if_pos hc]
  exact UJ rfl
 ·have hc : ¬ Wl a.t b.t≠0:=by simpa using hc
  rw[if_neg hc]
  exact UJ rfl
theorem c6v: ∀ a:Lin×Lin×Unit,(ZR a.1&&ZR a.2.1)=true->Zc d0a 0 (Zb b9w (Zm (Uk a.1 a.2.1==0))) b7u [] (ZJ d0h (encL a)):=by
 rintro⟨a,b,⟨⟩⟩ h
 exact d8z a b ⟨Ze (a,b,()) rfl h,Zd (a,b,()) rfl (Zp rfl)⟩
structure BoxT where
 v:List Str
 m:Int
 deriving DecidableEq
instance:Enc BoxT where
 sz:=2
 enc x:=.agg [enc x.v,enc x.m]
 dec | .agg [a,b]=>⟨dec a,dec b⟩|_=>⟨[],0⟩
 is | .agg [a,b]=>is (List Str) a&&is Int b|_=>false
 is_enc v:=by simp
 dec_enc v:=by simp
 sub p h:=by
  cases p with
  | agg xs=>
   match xs,h with
   | [a,b],h=>
    simp only[Bool.and_eq_true]at h
    exact .agg (.cons (Enc.sub a h.1).2 (.cons (Enc.sub b h.2).2 .nil))
  | _=>cases h
@[simp] theorem e0x (a b : PV) : is BoxT (.agg [a, b]) = (is (List Str) a && is Int b) := rfl
@[simp] theorem d9r (a b : PV) : (dec (.agg [a, b]) : BoxT) = ⟨dec a, dec b⟩ := rfl
structure Mono where
 c:Int
 v:List Str
 deriving DecidableEq
instance:Enc Mono where
 sz:=2
 enc x:=.agg [enc x.c,enc x.v]
 dec | .agg [a,b]=>⟨dec a,dec b⟩|_=>⟨0,[]⟩
 is | .agg [a,b]=>is Int a&&is (List Str) b|_=>false
 is_enc v:=by simp
 dec_enc v:=by simp
 sub p h:=by
  cases p with
  | agg xs=>
   match xs,h with
   | [a,b],h=>
    simp only[Bool.and_eq_true]at h
    exact .agg (.cons (Enc.sub a h.1).2 (.cons (Enc.sub b h.2).2 .nil))
  | _=>cases h
@[simp] theorem e0z (a b : PV) : is Mono (.agg [a, b]) = (is Int a && is (List Str) b) := rfl
@[simp] theorem e0b (a b : PV) : (dec (.agg [a, b]) : Mono) = ⟨dec a, dec b⟩ := rfl
structure NilS where
 deriving DecidableEq
instance:Enc NilS where
 sz:=1
 enc _:=.sl 0 true []
 dec _:=⟨⟩
 is | .sl 0 true []=>true|_=>false
 is_enc _:=rfl
 dec_enc _:=rfl
 sub p h:=by
  cases p with
  | sl s t xs=>
   cases xs with
   | nil=>cases s with
    | zero=>cases t with
     | true=>exact .refl _
     | false=>cases h
    | succ s=>cases h
   | cons x xs=>cases s <;> cases t <;> cases h
  | _=>cases h
end Go.Pl
namespace Go.Pl
open Go.RowKit
open Enc (enc dec is)
open EncL (encL decL isL)
set_option maxRecDepth 100000
abbrev d7y(ps:List PV)(k:Int×Er->Prop):Prop:=XT (fun(x:Str×Unit)=>decide (List.length (Str.s (Prod.fst x))<=281474976710656)) (fun(x:Str×Unit)=>Xh (Prod.fst x)) ps k
abbrev d8g(ps:List PV)(k:Str->Prop):Prop:=XT (fun(x:Int×Unit)=>decide ((-9223372036854775808:Int)<=Prod.fst x)&&decide (Prod.fst x<=9223372036854775807)) (fun(x:Int×Unit)=>V3 (Prod.fst x)) ps k
-- IMPOSSIBLE
noncomputable def Xc:IC:=Xy Proofs.Tryz.f140
def Xd:List IRes:=[(.tmp 2)]
abbrev a7j:Nat:=67
def XP:Zz:=Yr [(169,.pure (preT (fun _:Str×Str×Unit=>true)) (Zi (fun x:Str×Str×Unit=>x.2.1.s.isPrefixOf x.1.s))),(170,.pure (preT (fun x:Str×Unit=>decide (x.1.s.length<=281474976710656))) (Zi (fun x:Str×Unit=>Xh x.1))),(68,.pure (preT (fun x:Int×Unit=>decide (-9223372036854775808<=x.1)&&decide (x.1<=9223372036854775807))) (Zi (fun x:Int×Unit=>V3 x.1)))]
theorem b3j{G:PV->Prop}(s:List UInt8)(h : ∃ y0:Bool,AV.pv (Zi (fun(x:Str×Str×Unit)=>List.isPrefixOf (Str.s x.2.1) (Str.s x.1)) [(.str s),(.str [(95:UInt8)])])=AV.pv (enc y0)∧(if (y0)=true then(decide (0<=1)&&true&&decide (Int.toNat 1<=List.length s)&&decide (List.length s<=List.length s))=true∧((d7y [(.str (List.drop (Int.toNat 1) (List.take (List.length s) s)))] fun y1=>((F4 (enc y1.2)&&Prod.fst (true,PV.bool (KH (enc y1.2))))=true∧(if (KH (enc y1.2))=true then if (decide (y1.1>0))=true then if (decide ((↑(List.length s):Int)<=10))=true then(d8g [(.int .i64 y1.1)] fun y2=>((decide (0<=1)&&true&&decide (Int.toNat 1<=List.length s)&&decide (List.length s<=List.length s))=true∧(G ((.bool (Str.s y2==List.drop (Int.toNat 1) (List.take (List.length s) s)))))))else(G ((.bool false)))else(G ((.bool false)))else(G ((.bool false)))))))else(At XP 0 (Zb Xd G) Xc 0 67 [(0,(.pv (.str s))),(34,(.pv (.sl 1 false (ZA s)))),(35,(.pv (.int .i64 (↑(List.length (ZA s)):Int)))),(36,(.pv (.int .i64 0)))] []))):Zc XP 0 (Zb Xd G) Xc [] (ZJ 67 [.str s]):=Zc.tp (dm [dv Bool,dv (Int×Er),dv Str] 70 0x2222222222220222222222022222022212271200a4222201842220294161103e452) h
theorem Rn{G:PV->Prop}(s:List UInt8)(i:Int)(h:if (decide (i<(↑(List.length (ZA s)):Int)))=true then(decide (0<=i)&&decide (Int.toNat i<List.length (ZA s))&&1==1)=true∧((decide (0+List.length [Sh.int IntKind.u8]<=List.length (PV.cells (List.getD (ZA s) (Int.toNat i) default)))&&Yk (PV.cells (List.getD (ZA s) (Int.toNat i) default)) 0 [Sh.int IntKind.u8])=true∧(if (decide (PV.asInt (List.getD (PV.cells (List.getD (ZA s) (Int.toNat i) default)) 0 default)<97))=true then if (i==0)=true then G ((.bool false))else(if (decide (PV.asInt (List.getD (PV.cells (List.getD (ZA s) (Int.toNat i) default)) 0 default)<48))=true then G ((.bool false))else(if (decide (PV.asInt (List.getD (PV.cells (List.getD (ZA s) (Int.toNat i) default)) 0 default)>57))=true then G ((.bool false))else(At XP 0 (Zb Xd G) Xc 0 67 [(0,(.pv (.str s))),(34,(.pv (.sl 1 false (ZA s)))),(35,(.pv (.int .i64 (↑(List.length (ZA s)):Int)))),(36,(.pv (.int .i64 (IntKind.wrap IntKind.i64 (i+1)))))] [])))else(if (decide (PV.asInt (List.getD (PV.cells (List.getD (ZA s) (Int.toNat i) default)) 0 default)>122))=true then if (i==0)=true then G ((.bool false))else(if (decide (PV.asInt (List.getD (PV.cells (List.getD (ZA s) (Int.toNat i) default)) 0 default)<48))=true then G ((.bool false))else(if (decide (PV.asInt (List.getD (PV.cells (List.getD (ZA s) (Int.toNat i) default)) 0 default)>57))=true then G ((.bool false))else(At XP 0 (Zb Xd G) Xc 0 67 [(0,(.pv (.str s))),(34,(.pv (.sl 1 false (ZA s)))),(35,(.pv (.int .i64 (↑(List.length (ZA s)):Int)))),(36,(.pv (.int .i64 (IntKind.wrap IntKind.i64 (i+1)))))] [])))else(At XP 0 (Zb Xd G) Xc 0 67 [(0,(.pv (.str s))),(34,(.pv (.sl 1 false (ZA s)))),(35,(.pv (.int .i64 (↑(List.length (ZA s)):Int)))),(36,(.pv (.int .i64 (IntKind.wrap IntKind.i64 (i+1)))))] []))))else(if (!s==[])=true then G ((.bool (decide ((↑(List.length s):Int)<=30))))else(G ((.bool false))))):At XP 0 (Zb Xd G) Xc 0 67 [(0,.pv (.str s)),(34,.pv (.sl 1 false (ZA s))),(35,.pv (.int .i64 (ZA s).length)),(36,.pv (.int .i64 i))] []:=At.tp (dm [] 137 0x22202222005420222222220200014222220222220064222220222222222200b422202d42220200014222220222220064222220222222222200b42222220304213107542) h
end Go.Pl
namespace Go.Pl
open Go.RowKit
open Enc (enc dec is)
open EncL (encL decL isL)
theorem Me(s:List UInt8)(hs:s.length<=281474976710656): ∀ (m i:Nat),m+i=s.length->At XP 0 (Zb Xd (Zm (Vd s i))) Xc 0 67 [(0,.pv (.str s)),(34,.pv (.sl 1 false (ZA s))),(35,.pv (.int .i64 (ZA s).length)),(36,.pv (.int .i64 i))] []:=by
 intro m
 induction m with
 | zero=>
  intro i hi
  have e:Vd s i=(!(s==[])&&decide (s.length<=30)):=by
   unfold Vd
   cases i with
   | zero=>cases s with
    | nil=>rfl
    | cons c r=>simp at hi
   | succ i=>simp only;rw[List.drop_of_length_le (show s.length<=i+1 by omega)];simp
  rw[e]
  refine Rn s i (YW (Vk (by rw[DF];omega)) (XM (fun h=>Zp ?_) fun h=>Zp ?_))
  ·rw[h,Bool.true_and];exact decide_eq_decide.2 (by omega)
  ·rw[h,Bool.false_and]
 | succ m ih=>
  intro i hi
  have hlt:i<s.length:=by omega
  have h:=ih (i+1) (by omega)
  refine Rn s i ?_
  rw[b2h hlt,next (by omega)]
  have stop:(lowB s[i]=false∧(i=0∨digB s[i]=false))->Zm (Vd s i) (.bool false):=fun hb=>Zp (a7e hlt hb).symm
  have go:(lowB s[i]=true∨(i≠0∧digB s[i]=true))->At XP 0 (Zb Xd (Zm (Vd s i))) Xc 0 67 [(0,.pv (.str s)),(34,.pv (.sl 1 false (ZA s))),(35,.pv (.int .i64 (ZA s).length)),(36,.pv (.int .i64 ((i+1:Nat):Int)))] []:=fun hb=>by rw[a5u hlt hb];exact h
  have rest:lowB s[i]=false->(if ((i:Int)==0)=true then Zm (Vd s i) (.bool false)else if decide ((s[i].toNat:Int)<48)=true then Zm (Vd s i) (.bool false)else if decide ((s[i].toNat:Int)>57)=true then Zm (Vd s i) (.bool false)else At XP 0 (Zb Xd (Zm (Vd s i))) Xc 0 67 [(0,.pv (.str s)),(34,.pv (.sl 1 false (ZA s))),(35,.pv (.int .i64 (ZA s).length)),(36,.pv (.int .i64 ((i+1:Nat):Int)))] []):=by
   intro hl
   refine YO (fun h0=>stop ⟨hl,.inl (by omega)⟩) fun h0=>Y3 (fun h1=>stop ⟨hl,.inr (Rb (by omega))⟩) fun h1=>Y3 (fun h2=>stop ⟨hl,.inr (Rb (by omega))⟩) fun h2=>go (.inr ⟨by omega,Vp.2 (by omega)⟩)
  refine YB (Vf (by rw[DF];exact hlt)) ⟨by rw[DF];simp[hlt],by rfl,?_⟩
  refine Y3 (fun h1=>rest (Tp ?_)) fun h1=>Y3 (fun h2=>rest (Tp ?_)) fun h2=>go (.inl (a1e.2 ?_))
  ·have h1:(s[i].toNat:Int)<97:=h1
   omega
  ·have h2:(s[i].toNat:Int)>122:=h2
   omega
  ·have h1 : ¬ (s[i].toNat:Int)<97:=h1
   have h2 : ¬ (s[i].toNat:Int)>122:=h2
   omega
theorem OE: ∀ a:Str×Unit,decide (a.1.s.length<=281474976710656)=true->Zc XP 0 (Zb Xd (Zm (Y0 a.1))) Xc [] (ZJ a7j (encL a)):=by
 rintro⟨⟨s⟩,⟨⟩⟩ hl
 have hl:s.length<=281474976710656:=by simpa using hl
 refine b3j s (Zd (⟨s⟩,⟨[95]⟩,()) rfl (XM (fun h=> ?_) fun h=> ?_))
 ·have h:[95].isPrefixOf s=true:=h
  obtain⟨r,rfl⟩ : ∃ r,s=95::r:=by
   cases s with
   | nil=>simp at h
   | cons c r=>
    have:95=c:=by simpa using h
    exact⟨r,by rw[this]⟩
  have e1:List.drop (Int.toNat 1) (List.take (List.length (95::r)) (95::r))=r:=by rw[List.take_of_length_le (Nat.le_refl _)];rfl
  simp only[e1]
  refine⟨by simp,Ze (⟨r⟩,()) rfl (by simp at hl ⊢;omega),Zd (⟨r⟩,()) rfl ⟨by show(F4 (enc (Xh ⟨r⟩).2)&&true)=true;rw[d7w];rfl,?_⟩⟩
  show if KH (enc (Xh ⟨r⟩).2)=true then(if decide ((Xh ⟨r⟩).1>0)=true then(if _ then _ else Zm (Y0 ⟨95::r⟩) _)else Zm (Y0 ⟨95::r⟩) _)else Zm (Y0 ⟨95::r⟩) _
  rw[b5s]
  by_cases h9:r.length<=9
  ·rw[<- c3p r h9,decide_eq_true h9,Bool.and_true]
   refine XM (fun h1=>XM (fun h2=>YB (by simp;omega) ⟨Ze ((Xh ⟨r⟩).1,()) rfl (by have:=a0n ⟨r⟩;simp;omega),Zd ((Xh ⟨r⟩).1,()) rfl ⟨by simp,Zp ?_⟩⟩) fun h2=>Zp ?_) fun h1=>Zp ?_
   ·rw[h1,h2];simp only[Bool.true_and,Bool.and_true];rfl
   ·rw[h2];simp
   ·rw[h1];simp
  ·rw[decide_eq_false h9,Bool.and_false]
   refine XM (fun h1=>XM (fun h2=>YW (by simp;omega) (Zp rfl)) fun h2=>Zp rfl) fun h1=>Zp rfl
 ·have h:[95].isPrefixOf s=false:=h
  show At XP 0 (Zb Xd (Zm (Y0 ⟨s⟩))) Xc 0 67 _ _
  rw[a6m h]
  exact Me s hl s.length 0 (by omega)
end Go.Pl
namespace Go.Pl
end Go.Pl
namespace Go.Pl.Cm
open Go.RowKit
open Enc (enc dec is)
open EncL (encL decL isL)
structure CmpOK {α:Type} (f:α->α->Int):Prop where
 anti : ∀ a b,f b a = - f a b
 zero : ∀ a b,f a b=0 ↔ a=b
 trans : ∀ a b c,f a b<=0->f b c<=0->f a c<=0
 rng : ∀ a b,-1<=f a b∧f a b<=1
theorem CmpOK.strict{α:Type}{f:α->α->Int}(h:CmpOK f){a b c:α}(h1:f a b<0)(h2:f b c<=0):f a c<0:=by
 have h3:=h.trans a b c (by omega) h2
 by_cases h0:f a c=0
 ·obtain rfl:=(h.zero a c).1 h0
  have:=h.anti a b
  omega
 ·omega
def Wy{α:Type}(f:α->α->Int):List α->List α->Int
 | [],[]=>0
 | [],_::_=> -1
 | _::_,[]=>1
 | x::l,y::m=>if f x y≠0 then f x y else Wy f l m
theorem TN{α:Type}{f:α->α->Int}(h:CmpOK f): ∀ a b,Wy f b a = - Wy f a b
 | [],[]=>rfl
 | [],_::_=>rfl
 | _::_,[]=>rfl
 | x::l,y::m=>by
  have h1:=h.anti x y
  rw[Wy,Wy,h1,TN h l m]
  by_cases h0:f x y=0
  ·rw[if_neg (by omega),if_neg (by omega)]
  ·rw[if_pos (by omega),if_pos (by omega)]
theorem Ty{α:Type}{f:α->α->Int}(h:CmpOK f): ∀ a b,Wy f a b=0 ↔ a=b
 | [],[]=>by simp[Wy]
 | [],_::_=>by simp[Wy]
 | _::_,[]=>by simp[Wy]
 | x::l,y::m=>by
  rw[Wy,List.cons.injEq,<- h.zero x y,<- Ty h l m]
  by_cases h0:f x y=0
  ·rw[if_neg (by omega)];omega
  ·rw[if_pos (by omega)];omega
theorem Fy{α:Type}{f:α->α->Int}(h:CmpOK f): ∀ a b,-1<=Wy f a b∧Wy f a b<=1
 | [],[]=>by simp[Wy]
 | [],_::_=>by simp[Wy]
 | _::_,[]=>by simp[Wy]
 | x::l,y::m=>by
  rw[Wy]
  split
  ·exact h.rng x y
  ·exact Fy h l m
theorem Bh{α:Type}{f:α->α->Int}(h:CmpOK f): ∀ a b c,Wy f a b<=0->Wy f b c<=0->Wy f a c<=0
 | [],_,[],_,_=>by simp[Wy]
 | [],_,_::_,_,_=>by simp[Wy]
 | _::_,[],_,h1,_=>by simp[Wy]at h1
 | _::_,_::_,[],_,h2=>by simp[Wy]at h2
 | x::l,y::m,z::n,h1,h2=>by
  rw[Wy]at h1 h2 ⊢
  by_cases a:f x y=0
  ·obtain rfl:=(h.zero x y).1 a
   rw[if_neg (by omega)]at h1
   by_cases b:f x z=0
   ·rw[if_neg (by omega)]at h2 ⊢
    exact Bh h l m n h1 h2
   ·rw[if_pos b]at h2 ⊢
    exact h2
  ·rw[if_pos a]at h1
   by_cases b:f y z=0
   ·obtain rfl:=(h.zero y z).1 b
    rw[if_pos a]
    exact h1
   ·rw[if_pos b]at h2
    have:=h.strict (show f x y<0 by omega) h2
    rw[if_pos (by omega)]
    omega
theorem a4b{α:Type}{f:α->α->Int}(h:CmpOK f):CmpOK (Wy f):=⟨TN h,Ty h,Bh h,Fy h⟩
theorem a2g{α β γ:Type}{f:β->β->Int}{g:γ->γ->Int}(p:α->β)(q:α->γ)(hpq : ∀ a b,p a=p b->q a=q b->a=b)(hf:CmpOK f)(hg:CmpOK g):CmpOK fun a b:α=>if f (p a) (p b)≠0 then f (p a) (p b)else g (q a) (q b):=by
 refine⟨fun a b=> ?_,fun a b=> ?_,fun a b c h1 h2=> ?_,fun a b=> ?_⟩
 ·have h1:=hf.anti (p a) (p b)
  have h2:=hg.anti (q a) (q b)
  try simp only
  by_cases h0:f (p a) (p b)=0
  ·rw[if_neg (by omega),if_neg (by omega),h2]
  ·rw[if_pos (by omega),if_pos h0,h1]
 ·try simp only
  by_cases h0:f (p a) (p b)=0
  ·rw[if_neg (by omega),hg.zero]
   exact⟨fun h=>hpq a b ((hf.zero _ _).1 h0) h,fun h=>by rw[h]⟩
  ·rw[if_pos h0]
   exact⟨fun h=>absurd h h0,fun h=>absurd ((hf.zero _ _).2 (by rw[h])) h0⟩
 ·try simp only at h1 h2 ⊢
  by_cases x:f (p a) (p b)=0
  ·have e:=(hf.zero _ _).1 x
   rw[if_neg (by omega)]at h1
   rw[e]
   by_cases y:f (p b) (p c)=0
   ·rw[if_neg (by omega)]at h2 ⊢
    exact hg.trans _ _ _ h1 h2
   ·rw[if_pos y]at h2 ⊢
    exact h2
  ·rw[if_pos x]at h1
   by_cases y:f (p b) (p c)=0
   ·have e:=(hf.zero _ _).1 y
    rw[<- e,if_pos x]
    exact h1
   ·rw[if_pos y]at h2
    have:=hf.strict (show f (p a) (p b)<0 by omega) h2
    rw[if_pos (by omega)]
    omega
 ·try simp only
  split
  ·exact hf.rng _ _
  ·exact hg.rng _ _
theorem K7:CmpOK JQ:=by
 refine⟨fun a b=> ?_,fun a b=> ?_,fun a b c=> ?_,fun a b=> ?_⟩ <;> unfold JQ <;> (repeat' split) <;> omega
def a6z(a b:UInt8):Int:=if a<b then -1 else if b<a then 1 else 0
theorem QC(a b:UInt8):a6z a b=JQ a.toNat b.toNat:=by
 unfold a6z JQ
 simp only[UInt8.lt_iff_toNat_lt]
 repeat' split
 all_goals omega
theorem c7e:CmpOK a6z:=by
 refine⟨fun a b=> ?_,fun a b=> ?_,fun a b c=> ?_,fun a b=> ?_⟩
 ·rw[QC,QC];exact K7.anti _ _
 ·rw[QC,K7.zero]
  exact⟨fun h=>UInt8.toNat_inj.1 (by omega),fun h=>by rw[h]⟩
 ·rw[QC,QC,QC];exact K7.trans _ _ _
 ·rw[QC];exact K7.rng _ _
theorem FC: ∀ a b:List UInt8,Lib.compareBytes a b=Wy a6z a b
 | [],[]=>rfl
 | [],_::_=>rfl
 | _::_,[]=>rfl
 | x::l,y::m=>by
  rw[Lib.compareBytes,Wy,FC l m]
  unfold a6z
  by_cases h1:x<y
  ·simp[h1]
  ·by_cases h2:y<x
   ·simp[h1,h2]
   ·simp[h1,h2]
theorem b1l:CmpOK Lib.compareBytes:=by
 have:Lib.compareBytes=Wy a6z:=by funext a b;exact FC a b
 rw[this]
 exact a4b c7e
theorem c1t:CmpOK GN:=a2g (fun x:Coef=>x.v.s) (fun x:Coef=>x.c) (fun a b h1 h2=>by
 obtain⟨⟨s⟩,c⟩:=a
 obtain⟨⟨s'⟩,c'⟩:=b
 simp only at h1 h2
 rw[h1,h2]) b1l K7
theorem FO: ∀ a b:List Coef,Wl a b=Wy GN a b
 | [],[]=>rfl
 | [],_::_=>rfl
 | _::_,[]=>rfl
 | x::l,y::m=>by rw[Wl,Wy,FO l m]
theorem c0j:CmpOK Wl:=by
 have:Wl=Wy GN:=by funext a b;exact FO a b
 rw[this]
 exact a4b c1t
theorem a7m:CmpOK Uk:=a2g (fun x:Lin=>x.t) (fun x:Lin=>x.k) (fun a b h1 h2=>by
 obtain⟨k,t⟩:=a
 obtain⟨k',t'⟩:=b
 simp only at h1 h2
 rw[h1,h2]) c0j K7
theorem cmpLin_dec(a b:Lin):(Uk a b==0)=decide (a=b):=by
 have:=a7m.zero a b
 by_cases h:a=b
 ·rw[this.2 h,decide_eq_true h];rfl
 ·rw[decide_eq_false h]
  exact beq_eq_false_iff_ne.2 fun e=>h (this.1 e)
end Go.Pl.Cm
namespace Go.Pl
open Go.RowKit
open Enc (enc dec is)
open EncL (encL decL isL)
set_option maxRecDepth 100000
noncomputable def GV:IC:=Xy Proofs.Tryz.f61
def GR:List IRes:=[(.tmp 4)]
abbrev d2g:Nat:=26
noncomputable def RD:Zz:=Yr []
theorem d5w{G:PV->Prop}(a b:List Int)(h:if ((↑(List.length (List.map enc a)):Int) != (↑(List.length (List.map enc b)):Int))=true then G ((.bool false))else(At RD 0 (Zb GR G) GV 0 26 [(0,(.pv (.sl 1 false (List.map enc a)))),(1,(.pv (.sl 1 false (List.map enc b)))),(12,(.pv (.int .i64 (↑(List.length (List.map enc a)):Int)))),(13,(.pv (.int .i64 0)))] [])):Zc RD 0 (Zb GR G) GV [] (ZJ 26 [enc a,enc b]):=Zc.tp (dm [] 8 0x142) h
theorem b2f{G:PV->Prop}(a b:List Int)(i:Int)(h:if (decide (i<(↑(List.length (List.map enc a)):Int)))=true then(decide (0<=i)&&decide (Int.toNat i<List.length (List.map enc a))&&Enc.sz Int==1)=true∧(∃ y0:Int,AV.pv (PV.rptr (PV.cells (List.getD (List.map enc a) (Int.toNat i) default)))=AV.pv (PV.rptr (PV.cells ((enc) y0)))∧((decide (0<=i)&&decide (Int.toNat i<List.length (List.map enc b))&&Enc.sz Int==1)=true∧(∃ y1:Int,AV.pv (PV.rptr (PV.cells (List.getD (List.map enc b) (Int.toNat i) default)))=AV.pv (PV.rptr (PV.cells ((enc) y1)))∧(if (PV.asInt (List.getD (PV.cells (enc y0)) 0 default) != PV.asInt (List.getD (PV.cells (enc y1)) 0 default))=true then G ((.bool false))else(At RD 0 (Zb GR G) GV 0 26 [(0,(.pv (.sl 1 false (List.map enc a)))),(1,(.pv (.sl 1 false (List.map enc b)))),(12,(.pv (.int .i64 (↑(List.length (List.map enc a)):Int)))),(13,(.pv (.int .i64 (IntKind.wrap IntKind.i64 (i+1)))))] [])))))else(G ((.bool true)))):At RD 0 (Zb GR G) GV 0 26 [(13,.pv (.int .i64 i)),(12,.pv (.int .i64 (a.map (enc:Int->PV)).length)),(0,.pv (enc a)),(1,.pv (enc b))] []:=At.tp (dm [dr Int] 21 0x200014225125100e42) h
noncomputable def Dm:IC:=Xy Proofs.Tryz.f62
def G6:List IRes:=[(.tmp 6)]
abbrev d1q:Nat:=32
noncomputable def Ra:Zz:=Yr [(63,.pure (preT (fun x:Lin×Lin×Unit=>ZR x.1&&ZR x.2.1)) (Zi (fun x:Lin×Lin×Unit=>decide (x.1=x.2.1))))]
theorem d8o{G:PV->Prop}(a b:List Lin)(h:if ((↑(List.length (List.map enc a)):Int) != (↑(List.length (List.map enc b)):Int))=true then G ((.bool false))else(At Ra 0 (Zb G6 G) Dm 0 32 [(1,(.pv (.sl 2 false (List.map enc b)))),(2,(.pv (.fn 63))),(15,(.pv (.sl 2 false (List.map enc a)))),(16,(.pv (.int .i64 (↑(List.length (List.map enc a)):Int)))),(17,(.pv (.int .i64 0)))] [])):Zc Ra 0 (Zb G6 G) Dm [] (ZJ 32 [enc a,enc b,.fn 63]):=Zc.tp (dm [] 8 0x142) h
theorem b3v{G:PV->Prop}(a b:List Lin)(i:Int)(h:if (decide (i<(↑(List.length (List.map enc a)):Int)))=true then(decide (0<=i)&&decide (Int.toNat i<List.length (List.map enc a))&&Enc.sz Lin==2)=true∧(∃ y0:Lin,AV.pv (PV.rptr (PV.cells (List.getD (List.map enc a) (Int.toNat i) default)))=AV.pv (PV.rptr (PV.cells ((enc) y0)))∧((decide (0<=i)&&decide (Int.toNat i<List.length (List.map enc b))&&Enc.sz Lin==2)=true∧(∃ y1:Lin,AV.pv (PV.rptr (PV.cells (List.getD (List.map enc b) (Int.toNat i) default)))=AV.pv (PV.rptr (PV.cells ((enc) y1)))∧((Go.Pl.preT (fun(x:Lin×Lin×Unit)=>ZR x.1&&ZR x.2.1) [(.agg [(.int .i64 (PV.asInt (List.getD (PV.cells (enc y0)) 0 default))),(.sl 2 false (PV.asXs (List.getD (PV.cells (enc y0)) (0+1) default)))]),(.agg [(.int .i64 (PV.asInt (List.getD (PV.cells (enc y1)) 0 default))),(.sl 2 false (PV.asXs (List.getD (PV.cells (enc y1)) (0+1) default)))])])=true∧(∃ y2:Bool,AV.pv (Zi (fun(x:Lin×Lin×Unit)=>decide (x.1=x.2.1)) [(.agg [(.int .i64 (PV.asInt (List.getD (PV.cells (enc y0)) 0 default))),(.sl 2 false (PV.asXs (List.getD (PV.cells (enc y0)) (0+1) default)))]),(.agg [(.int .i64 (PV.asInt (List.getD (PV.cells (enc y1)) 0 default))),(.sl 2 false (PV.asXs (List.getD (PV.cells (enc y1)) (0+1) default)))])])=AV.pv (enc y2)∧(if (!y2)=true then G ((.bool false))else(At Ra 0 (Zb G6 G) Dm 0 32 [(1,(.pv (.sl 2 false (List.map enc b)))),(2,(.pv (.fn 63))),(15,(.pv (.sl 2 false (List.map enc a)))),(16,(.pv (.int .i64 (↑(List.length (List.map enc a)):Int)))),(17,(.pv (.int .i64 (IntKind.wrap IntKind.i64 (i+1)))))] [])))))))else(G ((.bool true)))):At Ra 0 (Zb G6 G) Dm 0 32 [(17,.pv (.int .i64 i)),(16,.pv (.int .i64 (a.map (enc:Lin->PV)).length)),(15,.pv (enc a)),(1,.pv (enc b)),(2,.pv (.fn 63))] []:=At.tp (dm [dr Lin,dv Bool] 22 0x2000146125125100f42) h
noncomputable def DI:IC:=Xy Proofs.Tryz.f64
def Df:List IRes:=[(.tmp 6)]
abbrev d5d:Nat:=32
noncomputable def Rx(N:Nat):Zz:=Yr [(24,.pure (preT (fun x:Tm×Tm×Unit=>(tW x.1&&tW x.2.1)&&decide (Zu x.1<N))) (Zi (fun x:Tm×Tm×Unit=>K5 x.1 x.2.1)))]
theorem d9w{G:PV->Prop}(N:Nat)(a b:List Tm)(h:if ((↑(List.length (List.map enc a)):Int) != (↑(List.length (List.map enc b)):Int))=true then G ((.bool false))else(At (Rx N) 0 (Zb Df G) DI 0 32 [(1,(.pv (.sl 10 false (List.map enc b)))),(2,(.pv (.fn 24))),(15,(.pv (.sl 10 false (List.map enc a)))),(16,(.pv (.int .i64 (↑(List.length (List.map enc a)):Int)))),(17,(.pv (.int .i64 0)))] [])):Zc (Rx N) 0 (Zb Df G) DI [] (ZJ 32 [enc a,enc b,.fn 24]):=Zc.tp (dm [] 8 0x142) h
theorem b2m{G:PV->Prop}(N:Nat)(a b:List Tm)(i:Int)(h:if (decide (i<(↑(List.length (List.map enc a)):Int)))=true then(decide (0<=i)&&decide (Int.toNat i<List.length (List.map enc a))&&Enc.sz Tm==10)=true∧(∃ y0:Tm,AV.pv (PV.rptr (PV.cells (List.getD (List.map enc a) (Int.toNat i) default)))=AV.pv (PV.rptr (PV.cells ((enc) y0)))∧(Sy y0=true∧((decide (0<=i)&&decide (Int.toNat i<List.length (List.map enc b))&&Enc.sz Tm==10)=true∧(∃ y1:Tm,AV.pv (PV.rptr (PV.cells (List.getD (List.map enc b) (Int.toNat i) default)))=AV.pv (PV.rptr (PV.cells ((enc) y1)))∧(Sy y1=true∧((Go.Pl.preT (fun(x:Tm×Tm×Unit)=>tW x.1&&tW x.2.1&&decide (Zu x.1<N)) [JC y0,JC y1])=true∧(∃ y2:Bool,AV.pv (Zi (fun(x:Tm×Tm×Unit)=>K5 x.1 x.2.1) [JC y0,JC y1])=AV.pv (enc y2)∧(if (!y2)=true then G ((.bool false))else(At (Rx N) 0 (Zb Df G) DI 0 32 [(1,(.pv (.sl 10 false (List.map enc b)))),(2,(.pv (.fn 24))),(15,(.pv (.sl 10 false (List.map enc a)))),(16,(.pv (.int .i64 (↑(List.length (List.map enc a)):Int)))),(17,(.pv (.int .i64 (IntKind.wrap IntKind.i64 (i+1)))))] [])))))))))else(G ((.bool true)))):At (Rx N) 0 (Zb Df G) DI 0 32 [(17,.pv (.int .i64 i)),(16,.pv (.int .i64 (a.map (enc:Tm->PV)).length)),(15,.pv (enc a)),(1,.pv (enc b)),(2,.pv (.fn 24))] []:=At.tp (dm [dr Tm,dv Bool] 22 0x2000146115115100f42) h
noncomputable def b0s:IC:=Xy Proofs.Tryz.f24
def b4u:List IRes:=[(.tmp 4)]
abbrev d1s:Nat:=72
noncomputable def c8w(N:Nat):Zz:=Yr [(61,.pure (preT (fun x:List Int×List Int×Unit=>Yz x.1)) (Zi (fun x:List Int×List Int×Unit=>decide (x.1=x.2.1)))),(62,.pure (preT (fun x:List Lin×List Lin×FnV 63×Unit=>Yz x.1&&x.1.all ZR&&x.2.1.all ZR)) (Zi (fun x:List Lin×List Lin×FnV 63×Unit=>decide (x.1=x.2.1)))),(64,.pure (preT (fun x:List Tm×List Tm×FnV 24×Unit=>(tsW x.1&&tsW x.2.1)&&decide (ZL x.1<N))) (Zi (fun x:List Tm×List Tm×FnV 24×Unit=>UO x.1 x.2.1)))]
theorem d7q{G:PV->Prop}(N:Nat)(n:Nd)(ks:List Tm)(m:Nd)(ls:List Tm)(h:if (Nd.kind n==Nd.kind m)=true then if (Str.s (Nd.name n)==Str.s (Nd.name m))=true then if (Nd.num n==Nd.num m)=true then if (Str.s (Nd.elem n)==Str.s (Nd.elem m))=true then(Go.Pl.preT (fun(x:List Int×List Int×Unit)=>Yz x.1) [(.sl 1 false (List.map enc (Nd.dims n))),(.sl 1 false (List.map enc (Nd.dims m)))])=true∧(∃ y0:Bool,AV.pv (Zi (fun(x:List Int×List Int×Unit)=>decide (x.1=x.2.1)) [(.sl 1 false (List.map enc (Nd.dims n))),(.sl 1 false (List.map enc (Nd.dims m)))])=AV.pv (enc y0)∧(if (y0)=true then(Go.Pl.preT (fun(x:List Int×List Int×Unit)=>Yz x.1) [(.sl 1 false (List.map enc (Nd.data n))),(.sl 1 false (List.map enc (Nd.data m)))])=true∧(∃ y1:Bool,AV.pv (Zi (fun(x:List Int×List Int×Unit)=>decide (x.1=x.2.1)) [(.sl 1 false (List.map enc (Nd.data n))),(.sl 1 false (List.map enc (Nd.data m)))])=AV.pv (enc y1)∧(if (y1)=true then(Go.Pl.preT (fun(x:List Lin×List Lin×FnV 63×Unit)=>Yz x.1&&List.all x.1 ZR&&List.all x.2.1 ZR) [(.sl 2 false (List.map enc (Nd.sizes n))),(.sl 2 false (List.map enc (Nd.sizes m))),(.fn 63)])=true∧(∃ y2:Bool,AV.pv (Zi (fun(x:List Lin×List Lin×FnV 63×Unit)=>decide (x.1=x.2.1)) [(.sl 2 false (List.map enc (Nd.sizes n))),(.sl 2 false (List.map enc (Nd.sizes m))),(.fn 63)])=AV.pv (enc y2)∧(if (y2)=true then(Go.Pl.preT (fun(x:List Int×List Int×Unit)=>Yz x.1) [(.sl 1 false (List.map enc (Nd.ranks n))),(.sl 1 false (List.map enc (Nd.ranks m)))])=true∧(∃ y3:Bool,AV.pv (Zi (fun(x:List Int×List Int×Unit)=>decide (x.1=x.2.1)) [(.sl 1 false (List.map enc (Nd.ranks n))),(.sl 1 false (List.map enc (Nd.ranks m)))])=AV.pv (enc y3)∧(if (y3)=true then(Go.Pl.preT (fun(x:List Tm×List Tm×FnV 24×Unit)=>tsW x.1&&tsW x.2.1&&decide (ZL x.1<N)) [(.sl 10 false (List.map enc ks)),(.sl 10 false (List.map enc ls)),(.fn 24)])=true∧(∃ y4:Bool,AV.pv (Zi (fun(x:List Tm×List Tm×FnV 24×Unit)=>UO x.1 x.2.1) [(.sl 10 false (List.map enc ks)),(.sl 10 false (List.map enc ls)),(.fn 24)])=AV.pv (enc y4)∧(G ((.bool y4))))else(G ((.bool false)))))else(G ((.bool false)))))else(G ((.bool false)))))else(G ((.bool false)))))else(G ((.bool false)))else(G ((.bool false)))else(G ((.bool false)))else(G ((.bool false)))):Zc (c8w N) 0 (Zb b4u G) b0s [] (ZJ 72 [.agg [enc n.kind,enc n.line,enc n.name,enc n.num,enc n.elem,enc n.dims,enc n.data,enc n.sizes,enc n.ranks,enc ks],.agg [enc m.kind,enc m.line,enc m.name,enc m.num,enc m.elem,enc m.dims,enc m.data,enc m.sizes,enc m.ranks,enc ls]]):=Zc.tp (dm [dv Bool] 334 0x22222222222222222222222222222222222222222222222222222022222222222222222222222222222222222222222222222022222222222222222222222222222222222222222022222222222222222222222222222222202222222222222222222222222022222222222222222022222222222022222025122220084251222201942512222030425122222204f42512222220764222222220a442222220d8422222211242) h
noncomputable def b4s:IC:=Xy Proofs.Tryz.f18
def b7t:List IRes:=[(.tmp 4)]
abbrev d4x:Nat:=10
noncomputable def c9x:Zz:=Yr [(30,.pure (preT (fun x:Tm×Unit=>tW x.1)) (Zi (fun x:Tm×Unit=>Yd x.1))),(24,.pure (preT (fun x:Tm×Tm×Unit=>tW x.1&&tW x.2.1)) (Zi (fun x:Tm×Tm×Unit=>K5 x.1 x.2.1)))]
theorem d7o{G:PV->Prop}(n:Nd)(ks:List Tm)(m:Nd)(ls:List Tm)(h:(Go.Pl.preT (fun(x:Tm×Unit)=>tW x.1) (Hg n ks))=true∧(∃ y0:Tm,AV.pv (Zi (fun(x:Tm×Unit)=>Yd x.1) (Hg n ks))=AV.pv (enc y0)∧((Go.Pl.preT (fun(x:Tm×Unit)=>tW x.1) [(.agg [(.int .i64 (Nd.kind m)),(.int .i64 (Nd.line m)),(.str (Str.s (Nd.name m))),(.int .i64 (Nd.num m)),(.str (Str.s (Nd.elem m))),(.sl 1 false (List.map enc (Nd.dims m))),(.sl 1 false (List.map enc (Nd.data m))),(.sl 2 false (List.map enc (Nd.sizes m))),(.sl 1 false (List.map enc (Nd.ranks m))),(.sl 10 false (List.map enc ls))])])=true∧(∃ y1:Tm,AV.pv (Zi (fun(x:Tm×Unit)=>Yd x.1) [(.agg [(.int .i64 (Nd.kind m)),(.int .i64 (Nd.line m)),(.str (Str.s (Nd.name m))),(.int .i64 (Nd.num m)),(.str (Str.s (Nd.elem m))),(.sl 1 false (List.map enc (Nd.dims m))),(.sl 1 false (List.map enc (Nd.data m))),(.sl 2 false (List.map enc (Nd.sizes m))),(.sl 1 false (List.map enc (Nd.ranks m))),(.sl 10 false (List.map enc ls))])])=AV.pv (enc y1)∧((Go.Pl.preT (fun(x:Tm×Tm×Unit)=>tW x.1&&tW x.2.1) [enc y0,enc y1])=true∧(∃ y2:Bool,AV.pv (Zi (fun(x:Tm×Tm×Unit)=>K5 x.1 x.2.1) [enc y0,enc y1])=AV.pv (enc y2)∧(G ((.bool y2))))))))):Zc c9x 0 (Zb b7t G) b4s [] (ZJ 10 [.agg [enc n.kind,enc n.line,enc n.name,enc n.num,enc n.elem,enc n.dims,enc n.data,enc n.sizes,enc n.ranks,enc ks],.agg [enc m.kind,enc m.line,enc m.name,enc m.num,enc m.elem,enc m.dims,enc m.data,enc m.sizes,enc m.ranks,enc ls]]):=Zc.tp (dm [dv Tm,dv Bool] 8 0x615151) h
end Go.Pl
namespace Go.Pl
open Go.RowKit
open Enc (enc dec is)
open EncL (encL decL isL)
theorem a4r{α:Type}[BEq α][LawfulBEq α]{x y:α}{P Q:Prop}(h1:x=y->P)(h2:x≠y->Q):if (x==y)=true then P else Q:=by by_cases h:x=y;rw[if_pos (by simpa using h)];exact h1 h;rw[if_neg (by simpa using h)];exact h2 h
theorem b2b{l:Lin}(h:V9 l=true):ZR l=true:=by unfold V9 at h;rw[Bool.and_eq_true]at h;exact h.1
theorem Eu{ks:List Tm}{k:Tm}(h:k∈ks):Zu k<=ZL ks:=by
 induction ks with
 | nil=>cases h
 | cons a l ih=>
  rw[ZL]
  rcases List.mem_cons.1 h with rfl|h
  ·omega
  ·have:=ih h;omega
theorem b6s(a b:List Int)(ha:a.length<=9223372036854775807)(hab:a.length=b.length): ∀ (k i:Nat),k+i=a.length ->
  At RD 0 (Zb GR (Zm (decide (a.drop i=b.drop i)))) GV 0 26 [(0,.pv (enc a)),(1,.pv (enc b)),(12,.pv (.int .i64 (a.map (enc:Int->PV)).length)),(13,.pv (.int .i64 i))] []:=by
 intro k
 induction k with
 | zero=>
  intro i hi
  rw[List.drop_of_length_le (by omega),List.drop_of_length_le (by omega)]
  exact b2f a b i (YW (X6 (by omega)) (Zp rfl))
 | succ k ih=>
  intro i hi
  have hlt:i<a.length:=by omega
  have hlt2:i<b.length:=by omega
  have h:=ih (i+1) (by omega)
  refine b2f a b i (YB (XJ hlt) ⟨ZB hlt rfl,ZQ hlt ⟨ZB hlt2 rfl,ZQ hlt2 ?_⟩⟩)
  show if (a[i] != b[i])=true then _ else _
  refine a9h (fun e=>Zp ?_) fun e=> ?_
  ·rw[List.drop_eq_getElem_cons hlt,List.drop_eq_getElem_cons hlt2,Bj e]
  ·rw[next (by omega),List.drop_eq_getElem_cons hlt,List.drop_eq_getElem_cons hlt2,Ab e]
   exact h
theorem c1w: ∀ x:List Int×List Int×Unit,Yz x.1=true->Zc RD 0 (Zb GR (Zm (decide (x.1=x.2.1)))) GV [] (ZJ d2g (encL x)):=by
 rintro⟨a,b,⟨⟩⟩ h
 have h:=of_decide_eq_true h
 refine d5w a b (BX (fun e=>Zp (b7c e).symm) fun e=> ?_)
 exact(b6s a b h e a.length 0 (by omega))
theorem b8g(a b:List Lin)(ha:a.length<=9223372036854775807)(wa:a.all ZR=true)(wb:b.all ZR=true)(hab:a.length=b.length): ∀ (k i:Nat),k+i=a.length ->
  At Ra 0 (Zb G6 (Zm (decide (a.drop i=b.drop i)))) Dm 0 32 [(1,.pv (enc b)),(2,.pv (.fn 63)),(15,.pv (enc a)),(16,.pv (.int .i64 (a.map (enc:Lin->PV)).length)),(17,.pv (.int .i64 i))] []:=by
 intro k
 induction k with
 | zero=>
  intro i hi
  rw[List.drop_of_length_le (by omega),List.drop_of_length_le (by omega)]
  exact b3v a b i (YW (X6 (by omega)) (Zp rfl))
 | succ k ih=>
  intro i hi
  have h1:i<a.length:=by omega
  have h2:i<b.length:=by omega
  have h:=ih (i+1) (by omega)
  have ga:ZR a[i]=true:=List.all_eq_true.1 wa _ (List.getElem_mem h1)
  have gb:ZR b[i]=true:=List.all_eq_true.1 wb _ (List.getElem_mem h2)
  refine b3v a b i (YB (XJ h1) ⟨ZB h1 rfl,ZQ h1 ⟨ZB h2 rfl,ZQ h2 ⟨Ze (a[i],b[i],()) rfl (by show(ZR _&&ZR _)=true;rw[ga,gb];rfl),Zd (a[i],b[i],()) rfl (W9 (fun e=>Zp ?_) fun e=> ?_)⟩⟩⟩)
  ·rw[List.drop_eq_getElem_cons h1,List.drop_eq_getElem_cons h2,Bj (of_decide_eq_false e)]
  ·rw[next (by omega),List.drop_eq_getElem_cons h1,List.drop_eq_getElem_cons h2,Ab (of_decide_eq_true e)]
   exact h
theorem c5p: ∀ x:List Lin×List Lin×FnV 63×Unit,(Yz x.1&&x.1.all ZR&&x.2.1.all ZR)=true->Zc Ra 0 (Zb G6 (Zm (decide (x.1=x.2.1)))) Dm [] (ZJ d1q (encL x)):=by
 rintro⟨a,b,⟨⟩,⟨⟩⟩ h
 simp only[Bool.and_eq_true]at h
 obtain⟨⟨h,wa⟩,wb⟩:=h
 have h:=of_decide_eq_true h
 refine d8o a b (BX (fun e=>Zp (b7c e).symm) fun e=> ?_)
 exact(b8g a b h wa wb e a.length 0 (by omega))
theorem R4{ts:List Tm}(h:tsW ts=true):ts.length<=1048576∧ ∀ k∈ts,tW k=true:=by
 have h:VO ts<=1048576:=of_decide_eq_true h
 exact⟨by have:=MV ts;omega,fun k hk=>decide_eq_true (Nat.le_trans (Fb hk) h)⟩
theorem b6e(N:Nat)(a b:List Tm)(ha:a.length<=1048576)(wa : ∀ k∈a,tW k=true)(wb : ∀ k∈b,tW k=true)(hd:ZL a<N)(hab:a.length=b.length): ∀ (k i:Nat),k+i=a.length ->
  At (Rx N) 0 (Zb Df (Zm (UO (a.drop i) (b.drop i)))) DI 0 32 [(1,.pv (enc b)),(2,.pv (.fn 24)),(15,.pv (enc a)),(16,.pv (.int .i64 (a.map (enc:Tm->PV)).length)),(17,.pv (.int .i64 i))] []:=by
 intro k
 induction k with
 | zero=>
  intro i hi
  rw[List.drop_of_length_le (by omega),List.drop_of_length_le (by omega)]
  exact b2m N a b i (YW (X6 (by omega)) (Zp rfl))
 | succ k ih=>
  intro i hi
  have h1:i<a.length:=by omega
  have h2:i<b.length:=by omega
  have h:=ih (i+1) (by omega)
  have hk:=Eu (List.getElem_mem h1)
  refine b2m N a b i (YB (XJ h1) ⟨ZB h1 rfl,ZQ h1 ⟨We _,ZB h2 rfl,ZQ h2 ⟨We _,Ze (a[i],b[i],()) (c6s _ _) (by
   show(tW _&&tW _&&decide _)=true
   rw[wa _ (List.getElem_mem h1),wb _ (List.getElem_mem h2),decide_eq_true (show Zu a[i]<N by omega)];rfl),Zd (a[i],b[i],()) (c6s _ _) (W9 (fun e=>Zp ?_) fun e=> ?_)⟩⟩⟩)
  ·have e:K5 a[i] b[i]=false:=e
   rw[List.drop_eq_getElem_cons h1,List.drop_eq_getElem_cons h2,UO,e];rfl
  ·have e:K5 a[i] b[i]=true:=e
   rw[next (by omega),List.drop_eq_getElem_cons h1,List.drop_eq_getElem_cons h2,UO,e,Bool.true_and]
   exact h
theorem c2q(N:Nat): ∀ x:List Tm×List Tm×FnV 24×Unit,((tsW x.1&&tsW x.2.1)&&decide (ZL x.1<N))=true->Zc (Rx N) 0 (Zb Df (Zm (UO x.1 x.2.1))) DI [] (ZJ d5d (encL x)):=by
 rintro⟨a,b,⟨⟩,⟨⟩⟩ h
 simp only[Bool.and_eq_true,decide_eq_true_eq]at h
 obtain⟨⟨wa,wb⟩,hd⟩:=h
 refine d9w N a b (BX (fun e=>Zp (Va fun h=>e (AQ h))) fun e=> ?_)
 exact(b6e N a b (R4 wa).1 (R4 wa).2 (R4 wb).2 hd e a.length 0 (by omega))
theorem b8e{n:Nd}{ks:List Tm}(h:tW (.mk n ks)=true):tsW ks=true:=by
 have h:QM (.mk n ks)<=1048576:=of_decide_eq_true h
 rw[QM]at h
 exact decide_eq_true (by omega)
theorem a1j{α:Type}{l:List α}(h:l.length<=1048576):Yz l=true:=decide_eq_true (by omega)
theorem a4q{n:Nd}{ks:List Tm}(h:tW (.mk n ks)=true):n.sizes.all ZR=true:=List.all_eq_true.2 fun l hl=>b2b (Ld h l hl)
theorem c6g(N:Nat): ∀ x:Tm×Tm×Unit,((tW x.1&&tW x.2.1)&&decide (Zu x.1<N+1))=true->Zc (c8w N) 0 (Zb b4u (Zm (K5 x.1 x.2.1))) b0s [] (ZJ d1s (encL x)):=by
 rintro⟨⟨n,ks⟩,⟨m,ls⟩,⟨⟩⟩ h
 simp only[Bool.and_eq_true,decide_eq_true_eq]at h
 obtain⟨⟨hw,hv⟩,hd⟩:=h
 have hd:Zu (.mk n ks)<N+1:=hd
 rw[Zu]at hd
 have hn:=NC hw
 rw[<- d5h]
 refine d7q N n ks m ls (a4r (fun k1=> ?_) fun k=>Zp (Va fun h=>k (YI.1 h).1.1))
 refine a4r (fun k2=> ?_) fun k=>Zp (Va fun h=>k (by rw[(YI.1 h).1.2.1]))
 refine a4r (fun k3=> ?_) fun k=>Zp (Va fun h=>k (YI.1 h).1.2.2.1)
 refine a4r (fun k4=> ?_) fun k=>Zp (Va fun h=>k (by rw[(YI.1 h).1.2.2.2.1]))
 refine⟨Ze (n.dims,m.dims,()) rfl (a1j hn.dims),Zd (n.dims,m.dims,()) rfl (XM (fun k5=> ?_) fun k=>Zp (Va fun h=>of_decide_eq_false k (YI.1 h).1.2.2.2.2.1))⟩
 refine⟨Ze (n.data,m.data,()) rfl (a1j hn.data),Zd (n.data,m.data,()) rfl (XM (fun k6=> ?_) fun k=>Zp (Va fun h=>of_decide_eq_false k (YI.1 h).1.2.2.2.2.2.1))⟩
 have hs:(Yz n.sizes&&n.sizes.all ZR&&m.sizes.all ZR)=true:=by rw[a1j hn.sizes,a4q hw,a4q hv];rfl
 refine⟨Ze (α:=List Lin×List Lin×FnV 63×Unit) (n.sizes,m.sizes,⟨()⟩,()) rfl hs,Zd (α:=List Lin×List Lin×FnV 63×Unit) (n.sizes,m.sizes,⟨()⟩,()) rfl (XM (fun k7=> ?_) fun k=>Zp (Va fun h=>of_decide_eq_false k (YI.1 h).1.2.2.2.2.2.2.1))⟩
 refine⟨Ze (n.ranks,m.ranks,()) rfl (a1j hn.ranks),Zd (n.ranks,m.ranks,()) rfl (XM (fun k8=> ?_) fun k=>Zp (Va fun h=>of_decide_eq_false k (YI.1 h).1.2.2.2.2.2.2.2))⟩
 have hk:(tsW ks&&tsW ls&&decide (ZL ks<N))=true:=by rw[b8e hw,b8e hv,decide_eq_true (show ZL ks<N by omega)];rfl
 refine⟨Ze (α:=List Tm×List Tm×FnV 24×Unit) (ks,ls,⟨()⟩,()) rfl hk,Zd (α:=List Tm×List Tm×FnV 24×Unit) (ks,ls,⟨()⟩,()) rfl (Zp ?_)⟩
 show UO ks ls=K5 (.mk n ks) (.mk m ls)
 rw[Bool.eq_iff_iff,YI]
 exact⟨fun h=>⟨⟨k1,stt k2,k3,stt k4,of_decide_eq_true k5,of_decide_eq_true k6,of_decide_eq_true k7,of_decide_eq_true k8⟩,h⟩,fun h=>h.2⟩
theorem c1h: ∀ x:Tm×Tm×Unit,(tW x.1&&tW x.2.1&&tW (Yd x.1)&&tW (Yd x.2.1))=true->Zc c9x 0 (Zb b7t (Zm (QZ x.1 x.2.1))) b4s [] (ZJ d4x (encL x)):=by
 rintro⟨⟨n,ks⟩,⟨m,ls⟩,⟨⟩⟩ h
 simp only[Bool.and_eq_true]at h
 obtain⟨⟨⟨h1,h2⟩,h3⟩,h4⟩:=h
 rw[<- d5h]
 have e1:([ndC n ks]:List PV)=encL ((Tm.mk n ks,()):Tm×Unit):=by rw[XD];rfl
 have e2:([ndC m ls]:List PV)=encL ((Tm.mk m ls,()):Tm×Unit):=by rw[XD];rfl
 refine d7o n ks m ls ⟨Ze (.mk n ks,()) e1 h1,Zd (.mk n ks,()) e1 ⟨Ze (.mk m ls,()) e2 h2,Zd (.mk m ls,()) e2 ⟨Ze (Yd (.mk n ks),Yd (.mk m ls),()) rfl ?_,Zd (Yd (.mk n ks),Yd (.mk m ls),()) rfl (Zp rfl)⟩⟩⟩
 show(tW _&&tW _)=true
 rw[h3,h4];rfl
end Go.Pl
namespace Go.Pl
open Go.RowKit
open Enc (enc dec is)
open EncL (encL decL isL)
set_option maxRecDepth 100000
noncomputable def b2o:IC:=Xy Proofs.Tryz.f50
def b5w:List IRes:=[(.cell true 10 2)]
abbrev d4b:Nat:=8
noncomputable def c8a:Zz:=Yr [(51,.pure (preT (fun _:Str×Unit=>true)) (Zi (fun x:Str×Unit=>vT x.1)))]
theorem d6y{G:PV->Prop}(s:List UInt8)(h : ∃ y0:Tm,AV.pv (Zi (fun(x:Str×Unit)=>vT x.1) [(.str s)])=AV.pv (enc y0)∧(∃ y1:Tm,AV.pv (Zi (fun(x:Str×Unit)=>vT x.1) [(.str [(118:UInt8),(49:UInt8)])])=AV.pv (enc y1)∧((List.all [enc y0,enc y1] fun(x:PV)=>List.length (PV.cells x)==10&&PV.cellsOk x)=true∧(G ((.agg [(.int .i64 6),(.int .i64 0),(.str [(97:UInt8),(100:UInt8),(100:UInt8)]),(.int .i64 0),(.str []),(.sl 0 true []),(.sl 0 true []),(.sl 0 true []),(.sl 0 true []),(.sl 10 false [enc y0,enc y1])])))))):Zc c8a 0 (Zb b5w G) b2o [] (ZJ 8 [.str s]):=Zc.tp (dm [dv Tm] 8 0x215252) h
noncomputable def b6r:IC:=Xy Proofs.Tryz.f12
def b2l:List IRes:=[(.tmp 0)]
abbrev d3i:Nat:=39
noncomputable def c9l:Zz:=Yr [(51,.pure (preT (fun _:Str×Unit=>true)) (Zi (fun x:Str×Unit=>vT x.1))),(16,.pure (preT (fun _:Str×Tm×Tm×Unit=>true)) (Zi (fun x:Str×Tm×Tm×Unit=>Jj (EG x.1 x.2.1 x.2.2.1)))),(50,.pure (preT (fun _:Str×Unit=>true)) (Zi (fun x:Str×Unit=>Jj (LB x.1)))),(22,.pure (preT (fun x:Tm×Unit=>tW x.1)) (Zi (fun x:Tm×Unit=>Xn x.1))),(25,.pure (preT (fun x:Tm×Tm×Unit=>tW x.1&&tW x.2.1)) (Zi (fun x:Tm×Tm×Unit=>K5 x.1 x.2.1))),(30,.pure (preT (fun x:Tm×Unit=>tW x.1)) (Zi (fun x:Tm×Unit=>Yd x.1))),(21,.pure (preT (fun x:Tm×Unit=>tW x.1)) (Zi (fun x:Tm×Unit=>Kl x.1))),(18,.pure (preT (fun x:Tm×Tm×Unit=>tW x.1&&tW x.2.1&&tW (Yd x.1)&&tW (Yd x.2.1))) (Zi (fun x:Tm×Tm×Unit=>QZ x.1 x.2.1))),(32,.pure (preT (fun x:Tm×Unit=>tW x.1)) (Zi (fun x:Tm×Unit=>JO x.1)))]
theorem d9g{G:PV->Prop}(h : ∃ y0:TS,AV.pv (Zi (fun(x:Str×Unit)=>Jj (LB x.1)) [(.str [(98:UInt8)])])=AV.pv (enc y0)∧(∃ y1:Tm,AV.pv (Zi (fun(x:Str×Unit)=>vT x.1) [(.str [(120:UInt8)])])=AV.pv (enc y1)∧(∃ y2:Tm,AV.pv (Zi (fun(x:Str×Unit)=>vT x.1) [(.str [(97:UInt8)])])=AV.pv (enc y2)∧((Go.Pl.preT (fun(x:Str×Tm×Tm×Unit)=>true) [(.str [(98:UInt8)]),enc y2,(eS y0)])=true∧(∃ y3:TS,AV.pv (Zi (fun(x:Str×Tm×Tm×Unit)=>Jj (EG x.1 x.2.1 x.2.2.1)) [(.str [(98:UInt8)]),enc y2,(eS y0)])=AV.pv (enc y3)∧((Go.Pl.preT (fun(x:Str×Tm×Tm×Unit)=>true) [(.str [(97:UInt8)]),enc y1,(eS y3)])=true∧(∃ y4:TS,AV.pv (Zi (fun(x:Str×Tm×Tm×Unit)=>Jj (EG x.1 x.2.1 x.2.2.1)) [(.str [(97:UInt8)]),enc y1,(eS y3)])=AV.pv (enc y4)∧(∃ y5:Tm,AV.pv (Zi (fun(x:Str×Unit)=>vT x.1) [(.str [(120:UInt8)])])=AV.pv (enc y5)∧(∃ y6:Tm,AV.pv (Zi (fun(x:Str×Unit)=>vT x.1) [(.str [(118:UInt8),(50:UInt8)])])=AV.pv (enc y6)∧(∃ y7:TS,AV.pv (Zi (fun(x:Str×Unit)=>Jj (LB x.1)) [(.str [(118:UInt8),(51:UInt8)])])=AV.pv (enc y7)∧((Go.Pl.preT (fun(x:Str×Tm×Tm×Unit)=>true) [(.str [(118:UInt8),(51:UInt8)]),enc y6,(eS y7)])=true∧(∃ y8:TS,AV.pv (Zi (fun(x:Str×Tm×Tm×Unit)=>Jj (EG x.1 x.2.1 x.2.2.1)) [(.str [(118:UInt8),(51:UInt8)]),enc y6,(eS y7)])=AV.pv (enc y8)∧((Go.Pl.preT (fun(x:Str×Tm×Tm×Unit)=>true) [(.str [(118:UInt8),(50:UInt8)]),enc y5,(eS y8)])=true∧(∃ y9:TS,AV.pv (Zi (fun(x:Str×Tm×Tm×Unit)=>Jj (EG x.1 x.2.1 x.2.2.1)) [(.str [(118:UInt8),(50:UInt8)]),enc y5,(eS y8)])=AV.pv (enc y9)∧((Go.Pl.preT (fun(x:Tm×Unit)=>tW x.1) [(eS y4)])=true∧(∃ y10:Bool,AV.pv (Zi (fun(x:Tm×Unit)=>Xn x.1) [(eS y4)])=AV.pv (enc y10)∧(if (y10)=true then(Go.Pl.preT (fun(x:Tm×Unit)=>tW x.1) [(eS y4)])=true∧(∃ y11:Tm,AV.pv (Zi (fun(x:Tm×Unit)=>Yd x.1) [(eS y4)])=AV.pv (enc y11)∧((Go.Pl.preT (fun(x:Tm×Tm×Unit)=>tW x.1&&tW x.2.1) [enc y11,(eS y9)])=true∧(∃ y12:Bool,AV.pv (Zi (fun(x:Tm×Tm×Unit)=>K5 x.1 x.2.1) [enc y11,(eS y9)])=AV.pv (enc y12)∧(if (y12)=true then(Go.Pl.preT (fun(x:Tm×Unit)=>tW x.1) [(eS y4)])=true∧(∃ y13:Int,AV.pv (Zi (fun(x:Tm×Unit)=>Kl x.1) [(eS y4)])=AV.pv (enc y13)∧(if (y13==7)=true then(Go.Pl.preT (fun(x:Tm×Tm×Unit)=>tW x.1&&tW x.2.1&&tW (Yd x.1)&&tW (Yd x.2.1)) [(eS y4),(eS y9)])=true∧(∃ y14:Bool,AV.pv (Zi (fun(x:Tm×Tm×Unit)=>QZ x.1 x.2.1) [(eS y4),(eS y9)])=AV.pv (enc y14)∧(if (y14)=true then(Go.Pl.preT (fun(x:Tm×Unit)=>tW x.1) [(eS y4)])=true∧(∃ y15:List Str,AV.pv (Zi (fun(x:Tm×Unit)=>JO x.1) [(eS y4)])=AV.pv (enc y15)∧(G ((.bool ((↑(List.length (List.map enc y15)):Int)==1)))))else(G ((.bool false)))))else(G ((.bool false)))))else(G ((.bool false)))))))else(G ((.bool false)))))))))))))))))))):Zc c9l 0 (Zb b2l G) b6r [] (ZJ 39 []):=Zc.tp (dm [dv TS,dv Tm,dv Bool,dv Int,dv (List Str)] 111 0x2222222222222222202222222222220222222220222202222912008427122016422281202942712261204247151515262625151626252) h
end Go.Pl
namespace Go.Pl
open Go.RowKit
open Enc (enc dec is)
open EncL (encL decL isL)
theorem c2h: ∀ x:Str×Unit,true=true->Zc c8a 0 (Zb b5w (Zm (LB x.1))) b2o [] (ZJ d4b (encL x)):=by
 rintro⟨s,⟨⟩⟩ _
 refine d6y s.s (Zd (s,()) rfl (Zd (⟨[118,49]⟩,()) rfl ⟨?_,?_⟩))
 ·simp only[List.all_cons,List.all_nil,vT,ZF]
  rfl
 ·have h:is (List Tm) (.sl 10 false [enc (vT s),enc (vT ⟨[118,49]⟩)])=true:=Enc.is_enc [vT s,vT ⟨[118,49]⟩]
  have h2:(dec (.sl 10 false [enc (vT s),enc (vT ⟨[118,49]⟩)]):List Tm)=[vT s,vT ⟨[118,49]⟩]:=Enc.dec_enc [vT s,vT ⟨[118,49]⟩]
  refine⟨?_,?_⟩
  ·simp[h]
  ·rw[c0n _ _ _ _ _ _ _ _ _ _ h,h2]
   simp[LB,nd0,d8e]
theorem c1r: ∀ x:Unit,true=true->Zc c9l 0 (Zb b2l (Zm true)) b6r [] (ZJ d3i (encL x)):=by
 rintro⟨⟩ _
 refine d9g (Zd (⟨[98]⟩,()) rfl (Zd (⟨[120]⟩,()) rfl (Zd (⟨[97]⟩,()) rfl ?_)))
 refine⟨Ze (⟨[98]⟩,vT ⟨[97]⟩,LB ⟨[98]⟩,()) (F7 _ _ _) rfl,Zd (⟨[98]⟩,vT ⟨[97]⟩,LB ⟨[98]⟩,()) (F7 _ _ _) ?_⟩
 refine⟨Ze (⟨[97]⟩,vT ⟨[120]⟩,EG ⟨[98]⟩ (vT ⟨[97]⟩) (LB ⟨[98]⟩),()) (F7 _ _ _) rfl,Zd (⟨[97]⟩,vT ⟨[120]⟩,EG ⟨[98]⟩ (vT ⟨[97]⟩) (LB ⟨[98]⟩),()) (F7 _ _ _) ?_⟩
 refine Zd (⟨[120]⟩,()) rfl (Zd (⟨[118,50]⟩,()) rfl (Zd (⟨[118,51]⟩,()) rfl ?_))
 refine⟨Ze (⟨[118,51]⟩,vT ⟨[118,50]⟩,LB ⟨[118,51]⟩,()) (F7 _ _ _) rfl,Zd (⟨[118,51]⟩,vT ⟨[118,50]⟩,LB ⟨[118,51]⟩,()) (F7 _ _ _) ?_⟩
 refine⟨Ze (⟨[118,50]⟩,vT ⟨[120]⟩,EG ⟨[118,51]⟩ (vT ⟨[118,50]⟩) (LB ⟨[118,51]⟩),()) (F7 _ _ _) rfl,Zd (⟨[118,50]⟩,vT ⟨[120]⟩,EG ⟨[118,51]⟩ (vT ⟨[118,50]⟩) (LB ⟨[118,51]⟩),()) (F7 _ _ _) ?_⟩
 refine⟨Ze (KM,()) (a1S KM) b5m,Zd (KM,()) (a1S KM) (YB b1g ?_)⟩
 refine⟨Ze (KM,()) (a1S KM) b5m,Zd (KM,()) (a1S KM) ?_⟩
 refine⟨Ze (Yd KM,Pe,()) (d5z _ Pe) (by show(tW (Yd KM)&&tW Pe)=true;rw[RU,c9t];rfl),Zd (Yd KM,Pe,()) (d5z _ Pe) (YB (by show K5 (Yd KM) Pe=true;rw[RU];exact c8r) ?_)⟩
 refine⟨Ze (KM,()) (a1S KM) b5m,Zd (KM,()) (a1S KM) (YB (by show(Kl KM==7)=true;unfold Kl;rw[c3h];rfl) ?_)⟩
 refine⟨Ze (KM,Pe,()) (d8d KM Pe) (by show(tW KM&&tW Pe&&tW (Yd KM)&&tW (Yd Pe))=true;rw[RU,a3c,b5m,c9t];rfl),Zd (KM,Pe,()) (d8d KM Pe) (YB (by show K5 (Yd KM) (Yd Pe)=true;rw[RU,a3c];exact c8r) ?_)⟩
 refine⟨Ze (KM,()) (a1S KM) b5m,Zd (KM,()) (a1S KM) (Zp ?_)⟩
 show(((List.map (enc:Str->PV) (JO KM)).length:Int)==1)=true
 rw[List.length_map,c0o];rfl
theorem nd1(n:Nd)(ks:List Tm):([ndC n ks]:List PV)=encL (Tm.mk n ks,()):=by rw[XD];rfl
end Go.Pl
namespace Go.Pl
open Go.RowKit
open Enc (enc dec is)
open EncL (encL decL isL)
set_option maxRecDepth 100000
end Go.Pl
namespace Go.Pl
open Go.RowKit
open Enc (enc dec is)
open EncL (encL decL isL)
end Go.Pl
namespace Go.Pl
open Go.RowKit
open Enc (enc dec is)
open EncL (encL decL isL)
set_option maxRecDepth 100000
def Wq:IC:=(Wh [Zx 1 (.box 10 (.t 0)) 0,Zx 2 (.alloc (.agg [(.int .i64 0),(.int .i64 0),(.str []),(.int .i64 0),(.str []),(.sl 0 true []),(.sl 0 true []),(.sl 0 true []),(.sl 0 true []),(.sl 0 true [])])) 1] (.seq (.reg [Zx 5 (.faddr 4 (.t 1)) 0,Zx 6 (.faddr 0 (.t 5)) 0,Zx 7 (.load false [.str] (.t 6)) 0,Zx 8 (.faddr 4 (.t 1)) 0,Zx 9 (.faddr 1 (.t 8)) 0,Zx 10 (D7 [(.sl 1)] (.t 9)) 0,Zx 11 (c'' 93 [(.t 10)]) 0,Zx 12 (.faddr 4 (.t 1)) 2,Zx 13 (.faddr 2 (.t 12)) 2,Zx 14 (D7 [(.sl 1)] (.t 13)) 2,Zx 15 (c'' 93 [(.t 14)]) 2,Zx 16 (.build [(.str []),(.sl 0 true []),(.sl 0 true [])] [(0,(1,(.t 7))),(1,(1,(.t 11))),(2,(1,(.t 15)))]) 4,Zx 17 (.faddr 4 (.t 1)) 4,Tz (.store 3 (.t 17) (.t 16)) 4] (some [[],[0],[1,0],[],[3],[4,3],[5,4,3],[],[7],[8,7],[9,6,8,7,5,4,3],[2,6,10,1,0,5,4,3,9,8,7],[0,1,2,3,4,5,6,7,8,9,10,11],[12,11,10,0,1,2,3,4,5,6,7,8,9]])) (Wh [Zx 18 (.faddr 8 (.t 1)) 0,Zx 19 (D7 [(.sl 1)] (.t 18)) 0,Zx 20 (c'' 93 [(.t 19)]) 0,Zx 21 (.faddr 8 (.t 1)) 2,Tz (.store 1 (.t 21) (.t 20)) 2] (Wh [Zx 22 (.faddr 7 (.t 1)) 0,Zx 23 (D7 [(.sl 2)] (.t 22)) 0,Zx 24 (c'' 94 [(.t 23)]) 0,Zx 25 (.faddr 7 (.t 1)) 2,Tz (.store 1 (.t 25) (.t 24)) 2] (.seq (Wh [Zx 26 (.faddr 7 (.t 1)) 0,Zx 27 (D7 [(.sl 2)] (.t 26)) 0,Zx 28 (.len 1 (.t 27)) 0,Zx 29 (.mv (WL 0)) 0] (.block 0 (.loop [29,28,1,49,50,52,51,53,54,55,4,58,59,60,61,62,56,57,64,63,65,2,66] (Wh [Zx 30 (Kw .lss (.t 29) (.t 28)) 0] (.seq (.cond (.t 30) .skip (.exit 0)) (.seq (.block 1 (Wh [Zx 31 (Y9 29) 0,Zx 3 (Y9 31) 0] (.reg [Zx 32 (.faddr 7 (.t 1)) 0,Zx 33 (D7 [(.sl 2)] (.t 32)) 0,Zx 34 (Y9 3) 0,Zx 35 (.faddr 7 (.t 1)) 0,Zx 36 (D7 [(.sl 2)] (.t 35)) 0,Zx 37 (Y9 3) 0,Zx 38 (.iaddr 2 (.t 36) (.t 37)) 0,Zx 39 (.faddr 1 (.t 38)) 0,Zx 40 (D7 [(.sl 2)] (.t 39)) 0,Zx 41 (c'' 95 [(.t 40)]) 0,Zx 42 (.iaddr 2 (.t 33) (.t 34)) 2,Zx 43 (.faddr 1 (.t 42)) 2,Tz (.store 1 (.t 43) (.t 41)) 2] (some [[],[0],[],[],[3],[],[4,5,3],[6,4,5,3],[7,6,4,5,3],[8,7,6,4,5,3],[1,2,0,3,4,5,6,7,8,9],[10,0,1,2,3,4,5,6,7,8,9],[11,9,0,1,2,3,4,5,6,7,8,10]])))) (.reg [Zx 44 (Kw .add (.t 29) (WL 1)) 0,Zx 29 (Y9 44) 0] none))))))) (Wh [Zx 45 (.faddr 9 (.t 1)) 0,Zx 46 (D7 [(.sl 10)] (.t 45)) 0,Zx 47 (c'' 96 [(.t 46)]) 0,Zx 48 (.faddr 9 (.t 1)) 2,Tz (.store 1 (.t 48) (.t 47)) 2] (.ext 0 [1,49,50,52,51,53,54,55,4,58,59,60,61,62,56,57,64,63,65,2,66])))))))
def QI:Zz:=Yr [(93,.pure (preT (fun x:List Int×Unit=>decide (x.1.length<=2000000))) (Zi (fun x:List Int×Unit=>x.1))),(94,.own (Yl 2) (XN 62 2)),(95,.pure (preT (fun x:List Coef×Unit=>decide (x.1.length<=2000000))) (Zi (fun x:List Coef×Unit=>x.1))),(96,.own (Yl 10) (XN 28 10))]
theorem d0b{G:Zt->Prop}(RR:Nat->St->Prop)(n:Nd)(ks:List Tm)(h:(Go.Pl.preT (fun(x:List Int×Unit)=>decide (List.length x.1<=2000000)) [(.sl 1 false (List.map enc (Nd.dims n)))])=true∧(∃ y0:List Int,AV.pv (Zi (fun(x:List Int×Unit)=>x.1) [(.sl 1 false (List.map enc (Nd.dims n)))])=AV.pv (enc y0)∧((Go.Pl.preT (fun(x:List Int×Unit)=>decide (List.length x.1<=2000000)) [(.sl 1 false (List.map enc (Nd.data n)))])=true∧(∃ y1:List Int,AV.pv (Zi (fun(x:List Int×Unit)=>x.1) [(.sl 1 false (List.map enc (Nd.data n)))])=AV.pv (enc y1)∧((Go.Pl.preT (fun(x:List Int×Unit)=>decide (List.length x.1<=2000000)) [(.sl 1 false (List.map enc (Nd.ranks n)))])=true∧(∃ y2:List Int,AV.pv (Zi (fun(x:List Int×Unit)=>x.1) [(.sl 1 false (List.map enc (Nd.ranks n)))])=AV.pv (enc y2)∧((Yl 2 [(.pv (.sl 2 false (List.map enc (Nd.sizes n))))] [])=true∧(AtM QI (Vm RR) 0 (fun st=>G st.heap) Wq 0 67 [(1,(.ptr 0 0)),(2,(.ptr 1 0)),(4,.undef),(28,(.pv (.int .i64 (↑(List.length (List.map enc (Nd.sizes n)) - 0):Int)))),(29,(.pv (.int .i64 0))),(49,.undef),(50,.undef),(51,.undef),(52,.undef),(53,.undef),(54,.undef),(55,.undef),(56,.undef),(57,.undef),(58,.undef),(59,.undef),(60,.undef),(61,.undef),(62,.undef),(63,.undef),(64,.undef),(65,.undef),(66,.undef)] [(.obj (.box [(.pv (.int .i64 (Nd.kind n))),(.pv (.int .i64 (Nd.line n))),(.pv (.str (Str.s (Nd.name n)))),(.pv (.int .i64 (Nd.num n))),(.pv (.str (Str.s (Nd.elem n)))),(.pv (.sl 1 false (List.map enc y0))),(.pv (.sl 1 false (List.map enc y1))),(.row 2 (List.length (List.map enc (Nd.sizes n))) 0 (List.length (List.map enc (Nd.sizes n)))),(.pv (.sl 1 false (List.map enc y2))),(.pv (.sl 10 false (List.map enc ks)))])),(.obj (.box [(.pv (.int .i64 0)),(.pv (.int .i64 0)),(.pv (.str [])),(.pv (.int .i64 0)),(.pv (.str [])),(.pv (.sl 0 true [])),(.pv (.sl 0 true [])),(.pv (.sl 0 true [])),(.pv (.sl 0 true [])),(.pv (.sl 0 true []))])),(.obj (.row false 62 2 (List.map enc (Nd.sizes n))))])))))))):ZE QI (Vm RR) 0 (fun st=>G st.heap) (.inl Wq) [] (WF 67 [.pv (.agg [enc n.kind,enc n.line,enc n.name,enc n.num,enc n.elem,enc n.dims,enc n.data,enc n.sizes,enc n.ranks,enc ks])] []):=ZE.mh (dm [dv (List Int)] 10 0x31515151) h
theorem a3n{G:Zt->Prop}(RR:Nat->St->Prop)(n:Nd)(ks:List Tm)(m:Nat)(L:List Lin)(i:Int)(h:if (decide (i<(↑m:Int)))=true then(decide (0<=i)&&decide (0+Int.toNat i<m)&&List.length (List.map enc L)==m)=true∧((List.length (List.map enc L)==m&&decide (0+Int.toNat i<List.length (List.map enc L)))=true∧((decide (0+1+List.length [Sh.sl 2]<=List.length (PV.cells (List.getD (List.map enc L) (0+Int.toNat i) default)))&&Yk (PV.cells (List.getD (List.map enc L) (0+Int.toNat i) default)) (0+1) [Sh.sl 2])=true∧((Go.Pl.preT (fun(x:List Coef×Unit)=>decide (List.length x.1<=2000000)) [(.sl 2 (PV.asT (List.getD (PV.cells (List.getD (List.map enc L) (0+Int.toNat i) default)) (0+1) default)) (PV.asXs (List.getD (PV.cells (List.getD (List.map enc L) (0+Int.toNat i) default)) (0+1) default)))])=true∧(∃ y0:List Coef,AV.pv (Zi (fun(x:List Coef×Unit)=>x.1) [(.sl 2 (PV.asT (List.getD (PV.cells (List.getD (List.map enc L) (0+Int.toNat i) default)) (0+1) default)) (PV.asXs (List.getD (PV.cells (List.getD (List.map enc L) (0+Int.toNat i) default)) (0+1) default)))])=AV.pv (enc y0)∧((decide (0<=i)&&decide (0+Int.toNat i<m)&&List.length (List.map enc L)==m)=true∧((List.length (List.map enc L)==m&&decide (0+Int.toNat i<List.length (List.map enc L))&&List.length (PV.cells (enc y0))==1&&decide (0+1+1<=List.length (PV.cells (List.getD (List.map enc L) (0+Int.toNat i) default)))&&PV.cellsOk (enc y0))=true∧(AtM QI (Vm RR) 0 (fun st=>G st.heap) Wq 0 67 [(1,(.ptr 0 0)),(2,(.ptr 1 0)),(4,.undef),(28,(.pv (.int .i64 (↑m:Int)))),(29,(.pv (.int .i64 (IntKind.wrap IntKind.i64 (i+1))))),(49,.undef),(50,.undef),(51,.undef),(52,.undef),(53,.undef),(54,.undef),(55,.undef),(56,.undef),(57,.undef),(58,.undef),(59,.undef),(60,.undef),(61,.undef),(62,.undef),(63,.undef),(64,.undef),(65,.undef),(66,.undef)] [(.obj (.box [(.pv (.int .i64 (Nd.kind n))),(.pv (.int .i64 (Nd.line n))),(.pv (.str (Str.s (Nd.name n)))),(.pv (.int .i64 (Nd.num n))),(.pv (.str (Str.s (Nd.elem n)))),(.pv (.sl 1 false (List.map enc (Nd.dims n)))),(.pv (.sl 1 false (List.map enc (Nd.data n)))),(.row 2 m 0 m),(.pv (.sl 1 false (List.map enc (Nd.ranks n)))),(.pv (.sl 10 false (List.map enc ks)))])),(.obj (.box [(.pv (.int .i64 0)),(.pv (.int .i64 0)),(.pv (.str [])),(.pv (.int .i64 0)),(.pv (.str [])),(.pv (.sl 0 true [])),(.pv (.sl 0 true [])),(.pv (.sl 0 true [])),(.pv (.sl 0 true [])),(.pv (.sl 0 true []))])),(.obj (.row false 62 2 (List.set (List.map enc L) (0+Int.toNat i) (PV.withCells (List.getD (List.map enc L) (0+Int.toNat i) default) (splice (PV.cells (List.getD (List.map enc L) (0+Int.toNat i) default)) (0+1) (PV.cells (enc y0)))))))])))))))else((Yl 10 [(.pv (.sl 10 false (List.map enc ks)))] [])=true∧((Vm RR) 0 ⟨ZN 67 0 [(1,(.ptr 0 0)),(2,(.ptr 1 0)),(4,.undef),(49,.undef),(50,.undef),(51,.undef),(52,.undef),(53,.undef),(54,.undef),(55,.undef),(56,.undef),(57,.undef),(58,.undef),(59,.undef),(60,.undef),(61,.undef),(62,.undef),(63,.undef),(64,.undef),(65,.undef),(66,.undef)],[(.obj (.box [(.pv (.int .i64 (Nd.kind n))),(.pv (.int .i64 (Nd.line n))),(.pv (.str (Str.s (Nd.name n)))),(.pv (.int .i64 (Nd.num n))),(.pv (.str (Str.s (Nd.elem n)))),(.pv (.sl 1 false (List.map enc (Nd.dims n)))),(.pv (.sl 1 false (List.map enc (Nd.data n)))),(.row 2 m 0 m),(.pv (.sl 1 false (List.map enc (Nd.ranks n)))),(.row 3 (List.length (List.map enc ks)) 0 (List.length (List.map enc ks)))])),(.obj (.box [(.pv (.int .i64 0)),(.pv (.int .i64 0)),(.pv (.str [])),(.pv (.int .i64 0)),(.pv (.str [])),(.pv (.sl 0 true [])),(.pv (.sl 0 true [])),(.pv (.sl 0 true [])),(.pv (.sl 0 true [])),(.pv (.sl 0 true []))])),(.obj (.row false 62 2 (List.map enc L))),(.obj (.row false 28 10 (List.map enc ks)))]⟩ (fun x S'=>KO QI (Vm RR) 0 (fun st=>G st.heap) Wq 0 x S')))):AtM QI (Vm RR) 0 (fun st=>G st.heap) Wq 0 67 [(1,.ptr 0 0),(2,.ptr 1 0),(4,.undef),(28,.pv (.int .i64 m)),(29,.pv (.int .i64 i)),(49,.undef),(50,.undef),(51,.undef),(52,.undef),(53,.undef),(54,.undef),(55,.undef),(56,.undef),(57,.undef),(58,.undef),(59,.undef),(60,.undef),(61,.undef),(62,.undef),(63,.undef),(64,.undef),(65,.undef),(66,.undef)] [.obj (.box [.pv (enc n.kind),.pv (enc n.line),.pv (enc n.name),.pv (enc n.num),.pv (enc n.elem),.pv (enc n.dims),.pv (enc n.data),.row 2 m 0 m,.pv (enc n.ranks),.pv (enc ks)]),.obj (.box [.pv (.int .i64 0),.pv (.int .i64 0),.pv (.str []),.pv (.int .i64 0),.pv (.str []),.pv (.sl 0 true []),.pv (.sl 0 true []),.pv (.sl 0 true []),.pv (.sl 0 true []),.pv (.sl 0 true [])]),.obj (.row false 62 2 (L.map enc))]:=ZE.mh (dm [dv (List Coef)] 20 0x310213151113100b42) h
def KR:IC:=Wq
def DC:Zz:=Yr [(93,.pure (preT (fun x:List Int×Unit=>decide (x.1.length<=2000000))) (Zi (fun x:List Int×Unit=>x.1))),(94,.pure (preT (fun x:List Lin×Unit=>x.1.isEmpty)) (Zi (fun x:List Lin×Unit=>x.1))),(95,.pure (preT (fun x:List Coef×Unit=>decide (x.1.length<=2000000))) (Zi (fun x:List Coef×Unit=>x.1))),(96,.own (Yl 10) (XN 28 10))]
theorem d1y{G:Zt->Prop}(RR:Nat->St->Prop)(n:Nd)(ks:List Tm)(h:(Go.Pl.preT (fun(x:List Int×Unit)=>decide (List.length x.1<=2000000)) [(.sl 1 false (List.map enc (Nd.dims n)))])=true∧(∃ y0:List Int,AV.pv (Zi (fun(x:List Int×Unit)=>x.1) [(.sl 1 false (List.map enc (Nd.dims n)))])=AV.pv (enc y0)∧((Go.Pl.preT (fun(x:List Int×Unit)=>decide (List.length x.1<=2000000)) [(.sl 1 false (List.map enc (Nd.data n)))])=true∧(∃ y1:List Int,AV.pv (Zi (fun(x:List Int×Unit)=>x.1) [(.sl 1 false (List.map enc (Nd.data n)))])=AV.pv (enc y1)∧((Go.Pl.preT (fun(x:List Int×Unit)=>decide (List.length x.1<=2000000)) [(.sl 1 false (List.map enc (Nd.ranks n)))])=true∧(∃ y2:List Int,AV.pv (Zi (fun(x:List Int×Unit)=>x.1) [(.sl 1 false (List.map enc (Nd.ranks n)))])=AV.pv (enc y2)∧((Go.Pl.preT (fun(x:List Lin×Unit)=>List.isEmpty x.1) [(.sl 2 false (List.map enc (Nd.sizes n)))])=true∧(∃ y3:List Lin,AV.pv (Zi (fun(x:List Lin×Unit)=>x.1) [(.sl 2 false (List.map enc (Nd.sizes n)))])=AV.pv (enc y3)∧(AtM DC (Vm RR) 0 (fun st=>G st.heap) KR 0 67 [(1,(.ptr 0 0)),(2,(.ptr 1 0)),(4,.undef),(28,(.pv (.int .i64 (↑(List.length (List.map enc y3)):Int)))),(29,(.pv (.int .i64 0))),(49,.undef),(50,.undef),(51,.undef),(52,.undef),(53,.undef),(54,.undef),(55,.undef),(56,.undef),(57,.undef),(58,.undef),(59,.undef),(60,.undef),(61,.undef),(62,.undef),(63,.undef),(64,.undef),(65,.undef),(66,.undef)] [(.obj (.box [(.pv (.int .i64 (Nd.kind n))),(.pv (.int .i64 (Nd.line n))),(.pv (.str (Str.s (Nd.name n)))),(.pv (.int .i64 (Nd.num n))),(.pv (.str (Str.s (Nd.elem n)))),(.pv (.sl 1 false (List.map enc y0))),(.pv (.sl 1 false (List.map enc y1))),(.pv (.sl 2 false (List.map enc y3))),(.pv (.sl 1 false (List.map enc y2))),(.pv (.sl 10 false (List.map enc ks)))])),(.obj (.box [(.pv (.int .i64 0)),(.pv (.int .i64 0)),(.pv (.str [])),(.pv (.int .i64 0)),(.pv (.str [])),(.pv (.sl 0 true [])),(.pv (.sl 0 true [])),(.pv (.sl 0 true [])),(.pv (.sl 0 true [])),(.pv (.sl 0 true []))]))]))))))))):ZE DC (Vm RR) 0 (fun st=>G st.heap) (.inl KR) [] (WF 67 [.pv (.agg [enc n.kind,enc n.line,enc n.name,enc n.num,enc n.elem,enc n.dims,enc n.data,enc n.sizes,enc n.ranks,enc ks])] []):=ZE.mh (dm [dv (List Int),dv (List Lin)] 10 0x61515151) h
-- BAD 1 in a3u
theorem a3u{G:Zt->Prop}(RR:Nat->St->Prop)(n:Nd)(ks:List Tm)(m i:Int)(h:if (decide (i<m))=true then(decide (0<=i)&&decide (Int.toNat i<List.length (List.map enc (Nd.sizes n)))&&Enc.sz Lin==2)=true∧(∃ y0:Lin,AV.pv (PV.rptr (PV.cells (List.getD (List.map enc (Nd.sizes n)) (Int.toNat i) default)))=AV.pv (PV.rptr (PV.cells ((enc) y0)))∧((Go.Pl.preT (fun(x:List Coef×Unit)=>decide (List.length x.1<=2000000)) [(.sl 2 false (PV.asXs (List.getD (List.drop 1 (PV.cells (enc y0))) 0 default)))])=true∧(∃ y1:List Coef,AV.pv (Zi (fun(x:List Coef×Unit)=>x.1) [(.sl 2 false (PV.asXs (List.getD (List.drop 1 (PV.cells (enc y0))) 0 default)))])=AV.pv (enc y1)∧((decide (0<=i)&&decide (Int.toNat i<List.length (List.map enc (Nd.sizes n)))&&Enc.sz Lin==2)=true∧(∃ y2:Lin,AV.pv (PV.rptr (PV.cells (List.getD (List.map enc (Nd.sizes n)) (Int.toNat i) default)))=AV.pv (PV.rptr (PV.cells ((enc) y2)))∧(False))))))else((Yl 10 [(.pv (.sl 10 false (List.map enc ks)))] [])=true∧((Vm RR) 0 ⟨ZN 67 0 [(1,(.ptr 0 0)),(2,(.ptr 1 0)),(4,.undef),(49,.undef),(50,.undef),(51,.undef),(52,.undef),(53,.undef),(54,.undef),(55,.undef),(56,.undef),(57,.undef),(58,.undef),(59,.undef),(60,.undef),(61,.undef),(62,.undef),(63,.undef),(64,.undef),(65,.undef),(66,.undef)],[(.obj (.box [(.pv (.int .i64 (Nd.kind n))),(.pv (.int .i64 (Nd.line n))),(.pv (.str (Str.s (Nd.name n)))),(.pv (.int .i64 (Nd.num n))),(.pv (.str (Str.s (Nd.elem n)))),(.pv (.sl 1 false (List.map enc (Nd.dims n)))),(.pv (.sl 1 false (List.map enc (Nd.data n)))),(.pv (.sl 2 false (List.map enc (Nd.sizes n)))),(.pv (.sl 1 false (List.map enc (Nd.ranks n)))),(.row 2 (List.length (List.map enc ks)) 0 (List.length (List.map enc ks)))])),(.obj (.box [(.pv (.int .i64 0)),(.pv (.int .i64 0)),(.pv (.str [])),(.pv (.int .i64 0)),(.pv (.str [])),(.pv (.sl 0 true [])),(.pv (.sl 0 true [])),(.pv (.sl 0 true [])),(.pv (.sl 0 true [])),(.pv (.sl 0 true []))])),(.obj (.row false 28 10 (List.map enc ks)))]⟩ (fun x S'=>KO DC (Vm RR) 0 (fun st=>G st.heap) KR 0 x S')))):AtM DC (Vm RR) 0 (fun st=>G st.heap) KR 0 67 [(1,.ptr 0 0),(2,.ptr 1 0),(4,.undef),(28,.pv (.int .i64 m)),(29,.pv (.int .i64 i)),(49,.undef),(50,.undef),(51,.undef),(52,.undef),(53,.undef),(54,.undef),(55,.undef),(56,.undef),(57,.undef),(58,.undef),(59,.undef),(60,.undef),(61,.undef),(62,.undef),(63,.undef),(64,.undef),(65,.undef),(66,.undef)] [.obj (.box [.pv (enc n.kind),.pv (enc n.line),.pv (enc n.name),.pv (enc n.num),.pv (enc n.elem),.pv (enc n.dims),.pv (enc n.data),.pv (enc n.sizes),.pv (enc n.ranks),.pv (enc ks)]),.obj (.box [.pv (.int .i64 0),.pv (.int .i64 0),.pv (.str []),.pv (.int .i64 0),.pv (.str []),.pv (.sl 0 true []),.pv (.sl 0 true []),.pv (.sl 0 true []),.pv (.sl 0 true []),.pv (.sl 0 true [])])]:=ZE.mh (dm [dr Lin,dv (List Coef)] 17 0x310516125100842) h
def VJ:IC:=Wq
def Qo:Zz:=Yr [(93,.pure (preT (fun x:List Int×Unit=>decide (x.1.length<=2000000))) (Zi (fun x:List Int×Unit=>x.1))),(94,.own (Yl 2) (XN 62 2)),(95,.pure (preT (fun x:List Coef×Unit=>decide (x.1.length<=2000000))) (Zi (fun x:List Coef×Unit=>x.1))),(96,.pure (preT (fun x:List Tm×Unit=>x.1.isEmpty)) (Zi (fun x:List Tm×Unit=>x.1)))]
theorem d2v{G:Zt->Prop}(RR:Nat->St->Prop)(n:Nd)(ks:List Tm)(h:(Go.Pl.preT (fun(x:List Int×Unit)=>decide (List.length x.1<=2000000)) [(.sl 1 false (List.map enc (Nd.dims n)))])=true∧(∃ y0:List Int,AV.pv (Zi (fun(x:List Int×Unit)=>x.1) [(.sl 1 false (List.map enc (Nd.dims n)))])=AV.pv (enc y0)∧((Go.Pl.preT (fun(x:List Int×Unit)=>decide (List.length x.1<=2000000)) [(.sl 1 false (List.map enc (Nd.data n)))])=true∧(∃ y1:List Int,AV.pv (Zi (fun(x:List Int×Unit)=>x.1) [(.sl 1 false (List.map enc (Nd.data n)))])=AV.pv (enc y1)∧((Go.Pl.preT (fun(x:List Int×Unit)=>decide (List.length x.1<=2000000)) [(.sl 1 false (List.map enc (Nd.ranks n)))])=true∧(∃ y2:List Int,AV.pv (Zi (fun(x:List Int×Unit)=>x.1) [(.sl 1 false (List.map enc (Nd.ranks n)))])=AV.pv (enc y2)∧((Yl 2 [(.pv (.sl 2 false (List.map enc (Nd.sizes n))))] [])=true∧(AtM Qo (Vm RR) 0 (fun st=>G st.heap) VJ 0 67 [(1,(.ptr 0 0)),(2,(.ptr 1 0)),(4,.undef),(28,(.pv (.int .i64 (↑(List.length (List.map enc (Nd.sizes n)) - 0):Int)))),(29,(.pv (.int .i64 0))),(49,.undef),(50,.undef),(51,.undef),(52,.undef),(53,.undef),(54,.undef),(55,.undef),(56,.undef),(57,.undef),(58,.undef),(59,.undef),(60,.undef),(61,.undef),(62,.undef),(63,.undef),(64,.undef),(65,.undef),(66,.undef)] [(.obj (.box [(.pv (.int .i64 (Nd.kind n))),(.pv (.int .i64 (Nd.line n))),(.pv (.str (Str.s (Nd.name n)))),(.pv (.int .i64 (Nd.num n))),(.pv (.str (Str.s (Nd.elem n)))),(.pv (.sl 1 false (List.map enc y0))),(.pv (.sl 1 false (List.map enc y1))),(.row 2 (List.length (List.map enc (Nd.sizes n))) 0 (List.length (List.map enc (Nd.sizes n)))),(.pv (.sl 1 false (List.map enc y2))),(.pv (.sl 10 false (List.map enc ks)))])),(.obj (.box [(.pv (.int .i64 0)),(.pv (.int .i64 0)),(.pv (.str [])),(.pv (.int .i64 0)),(.pv (.str [])),(.pv (.sl 0 true [])),(.pv (.sl 0 true [])),(.pv (.sl 0 true [])),(.pv (.sl 0 true [])),(.pv (.sl 0 true []))])),(.obj (.row false 62 2 (List.map enc (Nd.sizes n))))])))))))):ZE Qo (Vm RR) 0 (fun st=>G st.heap) (.inl VJ) [] (WF 67 [.pv (.agg [enc n.kind,enc n.line,enc n.name,enc n.num,enc n.elem,enc n.dims,enc n.data,enc n.sizes,enc n.ranks,enc ks])] []):=ZE.mh (dm [dv (List Int)] 10 0x31515151) h
theorem a1u{G:Zt->Prop}(RR:Nat->St->Prop)(n:Nd)(ks:List Tm)(m:Nat)(L:List Lin)(i:Int)(h:if (decide (i<(↑m:Int)))=true then(decide (0<=i)&&decide (0+Int.toNat i<m)&&List.length (List.map enc L)==m)=true∧((List.length (List.map enc L)==m&&decide (0+Int.toNat i<List.length (List.map enc L)))=true∧((decide (0+1+List.length [Sh.sl 2]<=List.length (PV.cells (List.getD (List.map enc L) (0+Int.toNat i) default)))&&Yk (PV.cells (List.getD (List.map enc L) (0+Int.toNat i) default)) (0+1) [Sh.sl 2])=true∧((Go.Pl.preT (fun(x:List Coef×Unit)=>decide (List.length x.1<=2000000)) [(.sl 2 (PV.asT (List.getD (PV.cells (List.getD (List.map enc L) (0+Int.toNat i) default)) (0+1) default)) (PV.asXs (List.getD (PV.cells (List.getD (List.map enc L) (0+Int.toNat i) default)) (0+1) default)))])=true∧(∃ y0:List Coef,AV.pv (Zi (fun(x:List Coef×Unit)=>x.1) [(.sl 2 (PV.asT (List.getD (PV.cells (List.getD (List.map enc L) (0+Int.toNat i) default)) (0+1) default)) (PV.asXs (List.getD (PV.cells (List.getD (List.map enc L) (0+Int.toNat i) default)) (0+1) default)))])=AV.pv (enc y0)∧((decide (0<=i)&&decide (0+Int.toNat i<m)&&List.length (List.map enc L)==m)=true∧((List.length (List.map enc L)==m&&decide (0+Int.toNat i<List.length (List.map enc L))&&List.length (PV.cells (enc y0))==1&&decide (0+1+1<=List.length (PV.cells (List.getD (List.map enc L) (0+Int.toNat i) default)))&&PV.cellsOk (enc y0))=true∧(AtM Qo (Vm RR) 0 (fun st=>G st.heap) VJ 0 67 [(1,(.ptr 0 0)),(2,(.ptr 1 0)),(4,.undef),(28,(.pv (.int .i64 (↑m:Int)))),(29,(.pv (.int .i64 (IntKind.wrap IntKind.i64 (i+1))))),(49,.undef),(50,.undef),(51,.undef),(52,.undef),(53,.undef),(54,.undef),(55,.undef),(56,.undef),(57,.undef),(58,.undef),(59,.undef),(60,.undef),(61,.undef),(62,.undef),(63,.undef),(64,.undef),(65,.undef),(66,.undef)] [(.obj (.box [(.pv (.int .i64 (Nd.kind n))),(.pv (.int .i64 (Nd.line n))),(.pv (.str (Str.s (Nd.name n)))),(.pv (.int .i64 (Nd.num n))),(.pv (.str (Str.s (Nd.elem n)))),(.pv (.sl 1 false (List.map enc (Nd.dims n)))),(.pv (.sl 1 false (List.map enc (Nd.data n)))),(.row 2 m 0 m),(.pv (.sl 1 false (List.map enc (Nd.ranks n)))),(.pv (.sl 10 false (List.map enc ks)))])),(.obj (.box [(.pv (.int .i64 0)),(.pv (.int .i64 0)),(.pv (.str [])),(.pv (.int .i64 0)),(.pv (.str [])),(.pv (.sl 0 true [])),(.pv (.sl 0 true [])),(.pv (.sl 0 true [])),(.pv (.sl 0 true [])),(.pv (.sl 0 true []))])),(.obj (.row false 62 2 (List.set (List.map enc L) (0+Int.toNat i) (PV.withCells (List.getD (List.map enc L) (0+Int.toNat i) default) (splice (PV.cells (List.getD (List.map enc L) (0+Int.toNat i) default)) (0+1) (PV.cells (enc y0)))))))])))))))else((Go.Pl.preT (fun(x:List Tm×Unit)=>List.isEmpty x.1) [(.sl 10 false (List.map enc ks))])=true∧(∃ y1:List Tm,AV.pv (Zi (fun(x:List Tm×Unit)=>x.1) [(.sl 10 false (List.map enc ks))])=AV.pv (enc y1)∧((Vm RR) 0 ⟨ZN 67 0 [(1,(.ptr 0 0)),(2,(.ptr 1 0)),(4,.undef),(49,.undef),(50,.undef),(51,.undef),(52,.undef),(53,.undef),(54,.undef),(55,.undef),(56,.undef),(57,.undef),(58,.undef),(59,.undef),(60,.undef),(61,.undef),(62,.undef),(63,.undef),(64,.undef),(65,.undef),(66,.undef)],[(.obj (.box [(.pv (.int .i64 (Nd.kind n))),(.pv (.int .i64 (Nd.line n))),(.pv (.str (Str.s (Nd.name n)))),(.pv (.int .i64 (Nd.num n))),(.pv (.str (Str.s (Nd.elem n)))),(.pv (.sl 1 false (List.map enc (Nd.dims n)))),(.pv (.sl 1 false (List.map enc (Nd.data n)))),(.row 2 m 0 m),(.pv (.sl 1 false (List.map enc (Nd.ranks n)))),(.pv (.sl 10 false (List.map enc y1)))])),(.obj (.box [(.pv (.int .i64 0)),(.pv (.int .i64 0)),(.pv (.str [])),(.pv (.int .i64 0)),(.pv (.str [])),(.pv (.sl 0 true [])),(.pv (.sl 0 true [])),(.pv (.sl 0 true [])),(.pv (.sl 0 true [])),(.pv (.sl 0 true []))])),(.obj (.row false 62 2 (List.map enc L)))]⟩ (fun x S'=>KO Qo (Vm RR) 0 (fun st=>G st.heap) VJ 0 x S'))))):AtM Qo (Vm RR) 0 (fun st=>G st.heap) VJ 0 67 [(1,.ptr 0 0),(2,.ptr 1 0),(4,.undef),(28,.pv (.int .i64 m)),(29,.pv (.int .i64 i)),(49,.undef),(50,.undef),(51,.undef),(52,.undef),(53,.undef),(54,.undef),(55,.undef),(56,.undef),(57,.undef),(58,.undef),(59,.undef),(60,.undef),(61,.undef),(62,.undef),(63,.undef),(64,.undef),(65,.undef),(66,.undef)] [.obj (.box [.pv (enc n.kind),.pv (enc n.line),.pv (enc n.name),.pv (enc n.num),.pv (enc n.elem),.pv (enc n.dims),.pv (enc n.data),.row 2 m 0 m,.pv (enc n.ranks),.pv (enc ks)]),.obj (.box [.pv (.int .i64 0),.pv (.int .i64 0),.pv (.str []),.pv (.int .i64 0),.pv (.str []),.pv (.sl 0 true []),.pv (.sl 0 true []),.pv (.sl 0 true []),.pv (.sl 0 true []),.pv (.sl 0 true [])]),.obj (.row false 62 2 (L.map enc))]:=ZE.mh (dm [dv (List Coef),dv (List Tm)] 20 0x610213151113100b42) h
def KX:IC:=Wq
def Dr:Zz:=Yr [(93,.pure (preT (fun x:List Int×Unit=>decide (x.1.length<=2000000))) (Zi (fun x:List Int×Unit=>x.1))),(94,.pure (preT (fun x:List Lin×Unit=>x.1.isEmpty)) (Zi (fun x:List Lin×Unit=>x.1))),(95,.pure (preT (fun x:List Coef×Unit=>decide (x.1.length<=2000000))) (Zi (fun x:List Coef×Unit=>x.1))),(96,.pure (preT (fun x:List Tm×Unit=>x.1.isEmpty)) (Zi (fun x:List Tm×Unit=>x.1)))]
theorem d3n{G:Zt->Prop}(RR:Nat->St->Prop)(n:Nd)(ks:List Tm)(h:(Go.Pl.preT (fun(x:List Int×Unit)=>decide (List.length x.1<=2000000)) [(.sl 1 false (List.map enc (Nd.dims n)))])=true∧(∃ y0:List Int,AV.pv (Zi (fun(x:List Int×Unit)=>x.1) [(.sl 1 false (List.map enc (Nd.dims n)))])=AV.pv (enc y0)∧((Go.Pl.preT (fun(x:List Int×Unit)=>decide (List.length x.1<=2000000)) [(.sl 1 false (List.map enc (Nd.data n)))])=true∧(∃ y1:List Int,AV.pv (Zi (fun(x:List Int×Unit)=>x.1) [(.sl 1 false (List.map enc (Nd.data n)))])=AV.pv (enc y1)∧((Go.Pl.preT (fun(x:List Int×Unit)=>decide (List.length x.1<=2000000)) [(.sl 1 false (List.map enc (Nd.ranks n)))])=true∧(∃ y2:List Int,AV.pv (Zi (fun(x:List Int×Unit)=>x.1) [(.sl 1 false (List.map enc (Nd.ranks n)))])=AV.pv (enc y2)∧((Go.Pl.preT (fun(x:List Lin×Unit)=>List.isEmpty x.1) [(.sl 2 false (List.map enc (Nd.sizes n)))])=true∧(∃ y3:List Lin,AV.pv (Zi (fun(x:List Lin×Unit)=>x.1) [(.sl 2 false (List.map enc (Nd.sizes n)))])=AV.pv (enc y3)∧(AtM Dr (Vm RR) 0 (fun st=>G st.heap) KX 0 67 [(1,(.ptr 0 0)),(2,(.ptr 1 0)),(4,.undef),(28,(.pv (.int .i64 (↑(List.length (List.map enc y3)):Int)))),(29,(.pv (.int .i64 0))),(49,.undef),(50,.undef),(51,.undef),(52,.undef),(53,.undef),(54,.undef),(55,.undef),(56,.undef),(57,.undef),(58,.undef),(59,.undef),(60,.undef),(61,.undef),(62,.undef),(63,.undef),(64,.undef),(65,.undef),(66,.undef)] [(.obj (.box [(.pv (.int .i64 (Nd.kind n))),(.pv (.int .i64 (Nd.line n))),(.pv (.str (Str.s (Nd.name n)))),(.pv (.int .i64 (Nd.num n))),(.pv (.str (Str.s (Nd.elem n)))),(.pv (.sl 1 false (List.map enc y0))),(.pv (.sl 1 false (List.map enc y1))),(.pv (.sl 2 false (List.map enc y3))),(.pv (.sl 1 false (List.map enc y2))),(.pv (.sl 10 false (List.map enc ks)))])),(.obj (.box [(.pv (.int .i64 0)),(.pv (.int .i64 0)),(.pv (.str [])),(.pv (.int .i64 0)),(.pv (.str [])),(.pv (.sl 0 true [])),(.pv (.sl 0 true [])),(.pv (.sl 0 true [])),(.pv (.sl 0 true [])),(.pv (.sl 0 true []))]))]))))))))):ZE Dr (Vm RR) 0 (fun st=>G st.heap) (.inl KX) [] (WF 67 [.pv (.agg [enc n.kind,enc n.line,enc n.name,enc n.num,enc n.elem,enc n.dims,enc n.data,enc n.sizes,enc n.ranks,enc ks])] []):=ZE.mh (dm [dv (List Int),dv (List Lin)] 10 0x61515151) h
-- BAD 1 in a5d
theorem a5d{G:Zt->Prop}(RR:Nat->St->Prop)(n:Nd)(ks:List Tm)(m i:Int)(h:if (decide (i<m))=true then(decide (0<=i)&&decide (Int.toNat i<List.length (List.map enc (Nd.sizes n)))&&Enc.sz Lin==2)=true∧(∃ y0:Lin,AV.pv (PV.rptr (PV.cells (List.getD (List.map enc (Nd.sizes n)) (Int.toNat i) default)))=AV.pv (PV.rptr (PV.cells ((enc) y0)))∧((Go.Pl.preT (fun(x:List Coef×Unit)=>decide (List.length x.1<=2000000)) [(.sl 2 false (PV.asXs (List.getD (List.drop 1 (PV.cells (enc y0))) 0 default)))])=true∧(∃ y1:List Coef,AV.pv (Zi (fun(x:List Coef×Unit)=>x.1) [(.sl 2 false (PV.asXs (List.getD (List.drop 1 (PV.cells (enc y0))) 0 default)))])=AV.pv (enc y1)∧((decide (0<=i)&&decide (Int.toNat i<List.length (List.map enc (Nd.sizes n)))&&Enc.sz Lin==2)=true∧(∃ y2:Lin,AV.pv (PV.rptr (PV.cells (List.getD (List.map enc (Nd.sizes n)) (Int.toNat i) default)))=AV.pv (PV.rptr (PV.cells ((enc) y2)))∧(False))))))else((Go.Pl.preT (fun(x:List Tm×Unit)=>List.isEmpty x.1) [(.sl 10 false (List.map enc ks))])=true∧(∃ y3:List Tm,AV.pv (Zi (fun(x:List Tm×Unit)=>x.1) [(.sl 10 false (List.map enc ks))])=AV.pv (enc y3)∧((Vm RR) 0 ⟨ZN 67 0 [(1,(.ptr 0 0)),(2,(.ptr 1 0)),(4,.undef),(49,.undef),(50,.undef),(51,.undef),(52,.undef),(53,.undef),(54,.undef),(55,.undef),(56,.undef),(57,.undef),(58,.undef),(59,.undef),(60,.undef),(61,.undef),(62,.undef),(63,.undef),(64,.undef),(65,.undef),(66,.undef)],[(.obj (.box [(.pv (.int .i64 (Nd.kind n))),(.pv (.int .i64 (Nd.line n))),(.pv (.str (Str.s (Nd.name n)))),(.pv (.int .i64 (Nd.num n))),(.pv (.str (Str.s (Nd.elem n)))),(.pv (.sl 1 false (List.map enc (Nd.dims n)))),(.pv (.sl 1 false (List.map enc (Nd.data n)))),(.pv (.sl 2 false (List.map enc (Nd.sizes n)))),(.pv (.sl 1 false (List.map enc (Nd.ranks n)))),(.pv (.sl 10 false (List.map enc y3)))])),(.obj (.box [(.pv (.int .i64 0)),(.pv (.int .i64 0)),(.pv (.str [])),(.pv (.int .i64 0)),(.pv (.str [])),(.pv (.sl 0 true [])),(.pv (.sl 0 true [])),(.pv (.sl 0 true [])),(.pv (.sl 0 true [])),(.pv (.sl 0 true []))]))]⟩ (fun x S'=>KO Dr (Vm RR) 0 (fun st=>G st.heap) KX 0 x S'))))):AtM Dr (Vm RR) 0 (fun st=>G st.heap) KX 0 67 [(1,.ptr 0 0),(2,.ptr 1 0),(4,.undef),(28,.pv (.int .i64 m)),(29,.pv (.int .i64 i)),(49,.undef),(50,.undef),(51,.undef),(52,.undef),(53,.undef),(54,.undef),(55,.undef),(56,.undef),(57,.undef),(58,.undef),(59,.undef),(60,.undef),(61,.undef),(62,.undef),(63,.undef),(64,.undef),(65,.undef),(66,.undef)] [.obj (.box [.pv (enc n.kind),.pv (enc n.line),.pv (enc n.name),.pv (enc n.num),.pv (enc n.elem),.pv (enc n.dims),.pv (enc n.data),.pv (enc n.sizes),.pv (enc n.ranks),.pv (enc ks)]),.obj (.box [.pv (.int .i64 0),.pv (.int .i64 0),.pv (.str []),.pv (.int .i64 0),.pv (.str []),.pv (.sl 0 true []),.pv (.sl 0 true []),.pv (.sl 0 true []),.pv (.sl 0 true []),.pv (.sl 0 true [])])]:=ZE.mh (dm [dr Lin,dv (List Coef),dv (List Tm)] 17 0x710516125100842) h
end Go.Pl
namespace Go.Pl
open Go.RowKit
open Enc (enc dec is)
open EncL (encL decL isL)
def d6s:List (Nat×AV):=[(1,.ptr 0 0),(2,.ptr 1 0),(4,.undef),(49,.undef),(50,.undef),(51,.undef),(52,.undef),(53,.undef),(54,.undef),(55,.undef),(56,.undef),(57,.undef),(58,.undef),(59,.undef),(60,.undef),(61,.undef),(62,.undef),(63,.undef),(64,.undef),(65,.undef),(66,.undef)]
def cpZ:List AV:=[.pv (.int .i64 0),.pv (.int .i64 0),.pv (.str []),.pv (.int .i64 0),.pv (.str []),.pv (.sl 0 true []),.pv (.sl 0 true []),.pv (.sl 0 true []),.pv (.sl 0 true []),.pv (.sl 0 true [])]
def b4d(n:Nd)(SZ:AV):List AV:=[.pv (enc n.kind),.pv (enc n.line),.pv (enc n.name),.pv (enc n.num),.pv (enc n.elem),.pv (enc n.dims),.pv (enc n.data),SZ,.pv (enc n.ranks)]
def cpR(n:Nd)(ks:List Tm)(m:Nat)(S:St):Prop:=m=0∧S.env=ZN 67 0 d6s∧ ∃ (SZ KD:AV) (b:Bool) (rest:Zt),S.heap = .obj (.box (b4d n SZ++[KD])):: .obj (.box cpZ)::rest ∧
 ((b=false∧SZ = .pv (enc n.sizes))∨(b=true∧SZ = .row 2 n.sizes.length 0 n.sizes.length∧S.heap[2]? = some (.obj (.row false 62 2 (n.sizes.map enc))))) ∧
 ((ks=[]∧KD = .pv (enc ks))∨(ks≠[]∧KD = .row (if b=true then 3 else 2) ks.length 0 ks.length∧S.heap[if b=true then 3 else 2]? = some (.obj (.row false 28 10 (ks.map enc)))))
theorem Po{α:Type}[Enc α]{l:List α}{s:Nat}(h:l≠[])(hl:l.length<=2000000):Yl s [(.pv (.sl s false (List.map enc l)))] []=true:=by
 simp[Yl,h,hl]
theorem b0f{RR:Nat->St->Prop}{n:Nd}{ks:List Tm}(hne:ks≠[])(hk:ks.length<=2000000)(hl:n.sizes.length<=2000000)(ht : ∀ l∈n.sizes,l.t.length<=2000000){m:Nat}(hm:m=n.sizes.length)(hR : ∀ S,cpR n ks 0 S->RR 0 S): ∀ (d i:Nat),d+i=n.sizes.length ->
  AtM QI (Vm RR) 0 (fun _=>False) Wq 0 67 [(1,.ptr 0 0),(2,.ptr 1 0),(4,.undef),(28,.pv (.int .i64 m)),(29,.pv (.int .i64 i)),(49,.undef),(50,.undef),(51,.undef),(52,.undef),(53,.undef),(54,.undef),(55,.undef),(56,.undef),(57,.undef),(58,.undef),(59,.undef),(60,.undef),(61,.undef),(62,.undef),(63,.undef),(64,.undef),(65,.undef),(66,.undef)]
   [.obj (.box [.pv (enc n.kind),.pv (enc n.line),.pv (enc n.name),.pv (enc n.num),.pv (enc n.elem),.pv (enc n.dims),.pv (enc n.data),.row 2 m 0 m,.pv (enc n.ranks),.pv (enc ks)]),.obj (.box cpZ),.obj (.row false 62 2 (n.sizes.map enc))]:=by
 subst hm
 intro d
 induction d with
 | zero=>
  intro i hi
  refine a3n (G:=fun _=>False) RR n ks n.sizes.length n.sizes i (YW (Vk (by omega)) ⟨Po hne hk,hR _ ⟨rfl,rfl,_,_,true,_,rfl,.inr ⟨rfl,rfl,rfl⟩,.inr ⟨hne,by simp,rfl⟩⟩⟩)
 | succ d ih=>
  intro i hi
  have h1:i<n.sizes.length:=by omega
  refine a3n (G:=fun _=>False) RR n ks n.sizes.length n.sizes i (YB (Vf h1) ?_)
  have e:List.getD (List.map (enc:Lin->PV) n.sizes) (0+Int.toNat (i:Int)) default=enc n.sizes[i]:=by rw[Nat.zero_add];exact Kq enc h1
  have e2:(enc n.sizes[i]:PV) = .agg [.int .i64 n.sizes[i].k,.sl 2 false (n.sizes[i].t.map enc)]:=rfl
  have e3:List.set (n.sizes.map (enc:Lin->PV)) (0+Int.toNat (i:Int)) (.agg [.int .i64 n.sizes[i].k,.sl 2 false (n.sizes[i].t.map enc)])=n.sizes.map enc:=by
   rw[Nat.zero_add,Int.toNat_natCast,<- e2]
   apply List.ext_getElem?
   intro j
   rw[List.getElem?_set]
   split
   ·rename_i h;subst h;rw[if_pos (by simpa using h1),List.getElem?_map,List.getElem?_eq_getElem h1];rfl
   ·rfl
  have hc:=ht _ (List.getElem_mem h1)
  simp only[e,e2]
  refine⟨by simp[h1],by simp[h1],by simp[PV.cells,Yk,Sh.fit],Ze (n.sizes[i].t,()) rfl (decide_eq_true hc),Zd (n.sizes[i].t,()) rfl ⟨by simp[h1],?_,?_⟩⟩
  ·simp[h1,PV.cells,PV.cellsOk,enc]
  ·show AtM QI (Vm RR) 0 (fun _=>False) Wq 0 67 _ [_,_,.obj (.row false 62 2 (List.set (n.sizes.map (enc:Lin->PV)) (0+Int.toNat (i:Int)) (.agg [.int .i64 n.sizes[i].k,.sl 2 false (n.sizes[i].t.map enc)])))]
   rw[e3,next (by omega)]
   exact ih (i+1) (by omega)
theorem b1e{RR:Nat->St->Prop}{n:Nd}(hl:n.sizes.length<=2000000)(ht : ∀ l∈n.sizes,l.t.length<=2000000){m:Nat}(hm:m=n.sizes.length)(hR : ∀ S,cpR n [] 0 S->RR 0 S): ∀ (d i:Nat),d+i=n.sizes.length ->
  AtM Qo (Vm RR) 0 (fun _=>False) VJ 0 67 [(1,.ptr 0 0),(2,.ptr 1 0),(4,.undef),(28,.pv (.int .i64 m)),(29,.pv (.int .i64 i)),(49,.undef),(50,.undef),(51,.undef),(52,.undef),(53,.undef),(54,.undef),(55,.undef),(56,.undef),(57,.undef),(58,.undef),(59,.undef),(60,.undef),(61,.undef),(62,.undef),(63,.undef),(64,.undef),(65,.undef),(66,.undef)]
   [.obj (.box [.pv (enc n.kind),.pv (enc n.line),.pv (enc n.name),.pv (enc n.num),.pv (enc n.elem),.pv (enc n.dims),.pv (enc n.data),.row 2 m 0 m,.pv (enc n.ranks),.pv (enc ([]:List Tm))]),.obj (.box cpZ),.obj (.row false 62 2 (n.sizes.map enc))]:=by
 subst hm
 intro d
 induction d with
 | zero=>
  intro i hi
  refine a1u (G:=fun _=>False) RR n [] n.sizes.length n.sizes i (YW (Vk (by omega)) ⟨Ze (([]:List Tm),()) rfl rfl,Zd (([]:List Tm),()) rfl (hR _ ⟨rfl,rfl,_,_,true,_,rfl,.inr ⟨rfl,rfl,rfl⟩,.inl ⟨rfl,rfl⟩⟩)⟩)
 | succ d ih=>
  intro i hi
  have h1:i<n.sizes.length:=by omega
  refine a1u (G:=fun _=>False) RR n [] n.sizes.length n.sizes i (YB (Vf h1) ?_)
  have e:List.getD (List.map (enc:Lin->PV) n.sizes) (0+Int.toNat (i:Int)) default=enc n.sizes[i]:=by rw[Nat.zero_add];exact Kq enc h1
  have e2:(enc n.sizes[i]:PV) = .agg [.int .i64 n.sizes[i].k,.sl 2 false (n.sizes[i].t.map enc)]:=rfl
  have e3:List.set (n.sizes.map (enc:Lin->PV)) (0+Int.toNat (i:Int)) (.agg [.int .i64 n.sizes[i].k,.sl 2 false (n.sizes[i].t.map enc)])=n.sizes.map enc:=by
   rw[Nat.zero_add,Int.toNat_natCast,<- e2]
   apply List.ext_getElem?
   intro j
   rw[List.getElem?_set]
   split
   ·rename_i h;subst h;rw[if_pos (by simpa using h1),List.getElem?_map,List.getElem?_eq_getElem h1];rfl
   ·rfl
  have hc:=ht _ (List.getElem_mem h1)
  simp only[e,e2]
  refine⟨by simp[h1],by simp[h1],by simp[PV.cells,Yk,Sh.fit],Ze (n.sizes[i].t,()) rfl (decide_eq_true hc),Zd (n.sizes[i].t,()) rfl ⟨by simp[h1],?_,?_⟩⟩
  ·simp[h1,PV.cells,PV.cellsOk,enc]
  ·show AtM Qo (Vm RR) 0 (fun _=>False) VJ 0 67 _ [_,_,.obj (.row false 62 2 (List.set (n.sizes.map (enc:Lin->PV)) (0+Int.toNat (i:Int)) (.agg [.int .i64 n.sizes[i].k,.sl 2 false (n.sizes[i].t.map enc)])))]
   rw[e3,next (by omega)]
   exact ih (i+1) (by omega)
abbrev a1b(n:Nd)(ks:List Tm):St:=WF 67 [.pv (.agg [enc n.kind,enc n.line,enc n.name,enc n.num,enc n.elem,enc n.dims,enc n.data,enc n.sizes,enc n.ranks,enc ks])] []
theorem d7r{RR:Nat->St->Prop}{n:Nd}{ks:List Tm}(hw:tW (.mk n ks)=true)(hs:n.sizes≠[])(hne:ks≠[])(hR : ∀ S,cpR n ks 0 S->RR 0 S):ZE QI (Vm RR) 0 (fun _=>False) (.inl Wq) [] (a1b n ks):=by
 have hb:=NC hw
 have hk:=(Ym hw).1
 have h1:=hb.dims;have h2:=hb.data;have h3:=hb.ranks;have hsz:=hb.sizes
 refine d0b (G:=fun _=>False) RR n ks ⟨Ze (n.dims,()) rfl (decide_eq_true (show n.dims.length<=2000000 by omega)),Zd (n.dims,()) rfl ⟨Ze (n.data,()) rfl (decide_eq_true (show n.data.length<=2000000 by omega)),Zd (n.data,()) rfl
  ⟨Ze (n.ranks,()) rfl (decide_eq_true (show n.ranks.length<=2000000 by omega)),Zd (n.ranks,()) rfl ⟨Po hs (by omega),b0f hne (by omega) (by omega) (fun l hl=>by have:=hb.lens l hl;omega) (List.length_map _) hR n.sizes.length 0 (by omega)⟩⟩⟩⟩
theorem e0a{RR:Nat->St->Prop}{n:Nd}{ks:List Tm}(hw:tW (.mk n ks)=true)(hs:n.sizes≠[])(hz:ks=[])(hR : ∀ S,cpR n ks 0 S->RR 0 S):ZE Qo (Vm RR) 0 (fun _=>False) (.inl VJ) [] (a1b n ks):=by
 have hb:=NC hw
 have hk:=(Ym hw).1
 have h1:=hb.dims;have h2:=hb.data;have h3:=hb.ranks;have hsz:=hb.sizes
 subst hz
 refine d2v (G:=fun _=>False) RR n [] ⟨Ze (n.dims,()) rfl (decide_eq_true (show n.dims.length<=2000000 by omega)),Zd (n.dims,()) rfl ⟨Ze (n.data,()) rfl (decide_eq_true (show n.data.length<=2000000 by omega)),Zd (n.data,()) rfl
  ⟨Ze (n.ranks,()) rfl (decide_eq_true (show n.ranks.length<=2000000 by omega)),Zd (n.ranks,()) rfl ⟨Po hs (by omega),b1e (by omega) (fun l hl=>by have:=hb.lens l hl;omega) (List.length_map _) hR n.sizes.length 0 (by omega)⟩⟩⟩⟩
theorem d5x{RR:Nat->St->Prop}{n:Nd}{ks:List Tm}(hw:tW (.mk n ks)=true)(hs:n.sizes=[])(hne:ks≠[])(hR : ∀ S,cpR n ks 0 S->RR 0 S):ZE DC (Vm RR) 0 (fun _=>False) (.inl KR) [] (a1b n ks):=by
 have hb:=NC hw
 have hk:=(Ym hw).1
 have h1:=hb.dims;have h2:=hb.data;have h3:=hb.ranks;have hsz:=hb.sizes
 refine d1y (G:=fun _=>False) RR n ks ⟨Ze (n.dims,()) rfl (decide_eq_true (show n.dims.length<=2000000 by omega)),Zd (n.dims,()) rfl ⟨Ze (n.data,()) rfl (decide_eq_true (show n.data.length<=2000000 by omega)),Zd (n.data,()) rfl
  ⟨Ze (n.ranks,()) rfl (decide_eq_true (show n.ranks.length<=2000000 by omega)),Zd (n.ranks,()) rfl ⟨Ze (n.sizes,()) rfl (by rw[hs];rfl),Zd (n.sizes,()) rfl (a3u (G:=fun _=>False) RR n ks (List.length (List.map (enc:Lin->PV) n.sizes)) 0 (YW (by rw[hs];decide) ⟨Po hne (by omega),hR _ ⟨rfl,rfl,_,_,false,_,rfl,.inl ⟨rfl,rfl⟩,.inr ⟨hne,by simp,rfl⟩⟩⟩))⟩⟩⟩⟩
theorem e0e{RR:Nat->St->Prop}{n:Nd}{ks:List Tm}(hw:tW (.mk n ks)=true)(hs:n.sizes=[])(hz:ks=[])(hR : ∀ S,cpR n ks 0 S->RR 0 S):ZE Dr (Vm RR) 0 (fun _=>False) (.inl KX) [] (a1b n ks):=by
 have hb:=NC hw
 have hk:=(Ym hw).1
 have h1:=hb.dims;have h2:=hb.data;have h3:=hb.ranks;have hsz:=hb.sizes
 subst hz
 refine d3n (G:=fun _=>False) RR n [] ⟨Ze (n.dims,()) rfl (decide_eq_true (show n.dims.length<=2000000 by omega)),Zd (n.dims,()) rfl ⟨Ze (n.data,()) rfl (decide_eq_true (show n.data.length<=2000000 by omega)),Zd (n.data,()) rfl
  ⟨Ze (n.ranks,()) rfl (decide_eq_true (show n.ranks.length<=2000000 by omega)),Zd (n.ranks,()) rfl ⟨Ze (n.sizes,()) rfl (by rw[hs];rfl),Zd (n.sizes,()) rfl (a5d (G:=fun _=>False) RR n [] (List.length (List.map (enc:Lin->PV) n.sizes)) 0 (YW (by rw[hs];decide) ⟨Ze (([]:List Tm),()) rfl rfl,Zd (([]:List Tm),()) rfl (hR _ ⟨rfl,rfl,_,_,false,_,rfl,.inl ⟨rfl,rfl⟩,.inl ⟨rfl,rfl⟩⟩)⟩))⟩⟩⟩⟩
end Go.Pl
namespace Go.Pl
open Go.RowKit
open Enc (enc dec is)
open EncL (encL decL isL)
set_option maxRecDepth 100000
def Ev:IC:=(Wh [Zx 1 (.box 10 (.t 0)) 0,Zx 2 (.alloc (.agg [(.int .i64 0),(.int .i64 0),(.str []),(.int .i64 0),(.str []),(.sl 0 true []),(.sl 0 true []),(.sl 0 true []),(.sl 0 true []),(.sl 0 true [])])) 1] (Wh [Zx 6 (.load true [(.int .i64),(.int .i64),.str,(.int .i64),.str,(.sl 1),(.sl 1),(.sl 2),(.sl 1),(.sl 10)] (.t 1)) 0,Zx 7 (c'' 20 [(.t 6)]) 0,Zx 3 (.alloc (.sl 0 true [])) 2,Tz (.store 1 (.t 3) (.t 7)) 3] (Wh [Zx 4 (.alloc (.int .i64 0)) 0,Tz (.store 1 (.t 4) (WL 0)) 1] (Wh [Zx 8 (.mkfn 67 [] [(.t 4),(.t 3)]) 0,Zx 5 (Y9 8) 0] (.ext 0 [1,9,5,10,11,12,2,13])))))
def b3c:Zz:=Yr [(20,.pure (preT (fun x:Tm×Unit=>tW x.1)) (Zi (fun x:Tm×Unit=>Ye x.1)))]
theorem d8m{G:Zt->Prop}(RR:Nat->St->Prop)(n:Nd)(ks:List Tm)(h:(Go.Pl.preT (fun(x:Tm×Unit)=>tW x.1) (Hg n ks))=true∧(∃ y0:List Str,AV.pv (Zi (fun(x:Tm×Unit)=>Ye x.1) (Hg n ks))=AV.pv (enc y0)∧((Vm RR) 0 ⟨ZN 14 0 [(1,(.ptr 0 0)),(2,(.ptr 1 0)),(5,(.fn 67 [] [(.ptr 2 0),(.ptr 3 0)])),(9,.undef),(10,.undef),(11,.undef),(12,.undef),(13,.undef)],[(.obj (.box (ZY n ks))),(.obj (.box [(.pv (.int .i64 0)),(.pv (.int .i64 0)),(.pv (.str [])),(.pv (.int .i64 0)),(.pv (.str [])),(.pv (.sl 0 true [])),(.pv (.sl 0 true [])),(.pv (.sl 0 true [])),(.pv (.sl 0 true [])),(.pv (.sl 0 true []))])),(.obj (.box [(.pv (.int .i64 0))])),(.obj (.box [(.pv (.sl 1 false (List.map enc y0)))]))]⟩ (fun x S'=>KO b3c (Vm RR) 0 (fun st=>G st.heap) Ev 0 x S')))):ZE b3c (Vm RR) 0 (fun st=>G st.heap) (.inl Ev) [] (WF 14 [.pv (.agg [enc n.kind,enc n.line,enc n.name,enc n.num,enc n.elem,enc n.dims,enc n.data,enc n.sizes,enc n.ranks,enc ks])] []):=ZE.mh (.req (.abs (List Str) (fun YY=>AV.pv (enc YY)) (.nil))) h
end Go.Pl
namespace Go.Pl
open Go.RowKit
open Enc (enc dec is)
open EncL (encL decL isL)
set_option maxRecDepth 100000
end Go.Pl
namespace Go.Pl
open Go.RowKit
open Enc (enc dec is)
open EncL (encL decL isL)
end Go.Pl
namespace Go.Pl
open Go.RowKit
open Enc (enc dec is)
open EncL (encL decL isL)
set_option maxRecDepth 100000
end Go.Pl
namespace Go.Pl
open Go.RowKit
open Enc (enc dec is)
end Go.Pl
namespace Go.Pl
open Go.RowKit
open Enc (enc dec is)
open EncL (encL decL isL)
set_option maxRecDepth 100000
end Go.Pl
namespace Go.Pl
open Go.RowKit
open Enc (enc dec is)
open EncL (encL decL isL)
open Go.Proofs.YtgdebdgkofkeeaaGreatDoor (encNd pre_ndI F_ndI tmOf_nd pre_nd)
end Go.Pl
namespace Go.Pl
open Go.RowKit
open Enc (enc dec is)
open EncL (encL decL isL)
section
variable (n m:Nd) (ks ls:List Tm) (s:List UInt8)
end
end Go.Pl
namespace Go.Pl
open Go.RowKit
open Enc (enc dec is)
theorem b3y(n:Nd)(s:Str):wNd (CX n s)+n.name.s.length=wNd n+s.s.length:=by
 unfold wNd CX
 dsimp only
 omega
theorem a7g{K:Nat}{σ:List (Str×Str)}(h : ∀ p∈σ,p.2.s.length<=K)(s:Str):(Vr σ s).s.length<=s.s.length+K:=by
 unfold Vr
 split
 ·rename_i p hp
  have:=h p (List.mem_of_find?_eq_some hp)
  omega
 ·omega
mutual
theorem c9w(tk:List Str)(K M:Nat)(hK : ∀ m,m<=M->(vN m).s.length<=K): ∀ (t:Tm) (σ:List (Str×Str)) (c:Nat),(∀ p∈σ,p.2.s.length<=K)->c+Zk t*(tk.length+1)<=M->QM (Y7 tk σ c t).1<=QM t+K*Zk t
 | .mk n ks,σ,c,hσ,hc=>by
  rw[Zk]at hc
  have hmul:(Zq ks+1)*(tk.length+1)=Zq ks*(tk.length+1)+(tk.length+1):=by rw[Nat.add_mul,Nat.one_mul]
  rw[hmul]at hc
  rw[Y7]
  split
  ·have hn:=Vo tk c
   have hv:(vN (Z0 tk c)).s.length<=K:=hK _ (by omega)
   have h1:=OW tk K M hK ks σ ((n.name,vN (Z0 tk c))::σ) 0 (Z0 tk c) hσ (fun p hp=>by
    rcases List.mem_cons.1 hp with rfl|hp
    ·exact hv
    ·exact hσ p hp) (by omega)
   have h2:=b3y n (vN (Z0 tk c))
   rw[QM,QM,Zk,Nat.mul_add,Nat.mul_one]
   omega
  ·have h1:=OW tk K M hK ks σ σ 0 c hσ hσ (by omega)
   rw[QM,QM,Zk,Nat.mul_add,Nat.mul_one]
   have h2:wNd (if n.kind=1 then CX n (Vr σ n.name)else n)<=wNd n+K:=by
    split
    ·have:=b3y n (Vr σ n.name)
     have:=a7g hσ n.name
     omega
    ·omega
   omega
theorem OW(tk:List Str)(K M:Nat)(hK : ∀ m,m<=M->(vN m).s.length<=K): ∀ (ks:List Tm) (σ τ:List (Str×Str)) (i c:Nat),(∀ p∈σ,p.2.s.length<=K)->(∀ p∈τ,p.2.s.length<=K)->c+Zq ks*(tk.length+1)<=M->VO (Yo tk σ τ i c ks).1<=VO ks+K*Zq ks
 | [],σ,τ,i,c,_,_,_=>by rw[Yo];simp[VO]
 | k::ks,σ,τ,i,c,hσ,hτ,hc=>by
  rw[Zq,Nat.add_mul]at hc
  rw[Yo]
  have h0:=Al tk (if i=0 then σ else τ) c k
  have h1:=c9w tk K M hK k (if i=0 then σ else τ) c (by split <;> assumption) (by omega)
  have h2:=OW tk K M hK ks σ τ (i+1) (Y7 tk (if i=0 then σ else τ) c k).2 hσ hτ (by omega)
  rw[VO,VO,Zq,Nat.mul_add]
  omega
end
mutual
theorem Mt: ∀ (t:Tm) (b:List Str),(YH b t).length<=Zk t
 | .mk n ks,b=>by
  have:=Ry ks b (Yq n ks.length) n.name 0
  rw[YH,List.length_append,Zk]
  split <;> simp <;> omega
theorem Ry: ∀ (ks:List Tm) (b:List Str) (l:Bool) (s:Str) (i:Nat),(Xx b l s i ks).length<=Zq ks
 | [],b,l,s,i=>by rw[Xx];simp
 | k::ks,b,l,s,i=>by
  have h1:=Mt k (if l&&decide (i=1)then s::b else b)
  have h2:=Ry ks b l s (i+1)
  rw[Xx,List.length_append,Zq]
  omega
end
theorem E9(l:List Str):(Uc l).length<=l.length:=by
 unfold Uc Y6
 rw[List.length_map,List.length_mergeSort,List.length_map]
 have:=Qk l []
 have e:WN l=l.foldl Xi []:=rfl
 rw[e]
 simpa using this
theorem d6j{m:Nat}(h:m<1000):Lib.nDigits m<=3:=by
 rw[Lib.nDigits]
 split
 ·omega
 ·rw[Lib.nDigits]
  split
  ·omega
  ·rw[Lib.nDigits_small (show m / 10 / 10<10 by omega)];omega
theorem d5p{m:Nat}(h:m<=999):(vN m).s.length<=4:=by
 show(118::Lib.itoa (m:Int)).length<=4
 unfold Lib.itoa
 rw[if_neg (by omega),List.length_cons,Int.toNat_natCast,Lib.decDigits_length]
 have:=d6j (show m<1000 by omega)
 omega
theorem c2b(b:List Str)(t:Tm):(YH b t).length<=Zk t:=Mt t b
theorem d1m{t:Tm}(h:Zk t<=31):QM (Yd t)<=QM t+4*Zk t:=by
 have hf:(Ye t).length<=Zk t:=by
  unfold Ye
  exact Nat.le_trans (E9 _) (c2b [] t)
 refine c9w (Ye t) 4 999 (fun m hm=>d5p hm) t [] 0 (fun p hp=>by cases hp) ?_
 have:=Nat.mul_le_mul h (show(Ye t).length+1<=32 by omega)
 omega
theorem a3v{t:Tm}(h:Zk t<=31)(hw:QM t+4*Zk t<=1048576):tW (Yd t)=true:=decide_eq_true (Nat.le_trans (d1m h) hw)
end Go.Pl
namespace Go.Pl
open Go.RowKit
end Go.Pl
namespace Go.Pl
open Go.RowKit
open Enc (enc dec is)
open EncL (encL decL isL)
set_option maxRecDepth 100000
end Go.Pl
namespace Go.Pl
open Go.RowKit
open Enc (enc dec is)
open EncL (encL decL isL)
theorem Mm{t:Tm}{k:Int}(h:KI t k=true):(Zk t:Int)<=k:=by
 unfold KI at h
 simp only[Bool.and_eq_true,decide_eq_true_eq]at h
 exact h.1.2
mutual
theorem Ml: ∀ t:Tm,K5 t t=true
 | .mk n ks=>by
  rw[K5,Rs ks]
  simp[b8r]
theorem Rs: ∀ ts:List Tm,UO ts ts=true
 | []=>rfl
 | k::ks=>by rw[UO,Ml k,Rs ks];rfl
end
end Go.Pl
namespace Go.Pl
open Go.RowKit
def YG(f g:List Str):List (Str×Str):=(f.zip g).reverse
def Td(t:Tm)(f g a:List Str)(n:Int):TS×Int:=(Jj (Y7 a (YG f g) (n - 1).toNat t).1,((Y7 a (YG f g) (n - 1).toNat t).2:Int)+1)
theorem b1k{f g:List Str}(h:f.length=g.length)(a b:Str):YG (f++[a]) (g++[b])=(a,b)::YG f g:=by
 unfold YG
 rw[List.zip_append h]
 simp
theorem NI{f g:List Str}(h:f.length=g.length)(s:Str){i:Nat}(hi:i<f.length)(he:f[i]=s)(hn : ∀ j (hj:j<f.length),i<j->f[j]≠s):Vr (YG f g) s=g[i]'(by omega):=by
 unfold Vr YG
 have e:f.zip g=(f.zip g).take i++(f[i],g[i]'(by omega))::(f.zip g).drop (i+1):=by
  have h1:i<(f.zip g).length:=by rw[List.length_zip];omega
  have h2:(f.zip g)[i]=(f[i],g[i]'(by omega)):=List.getElem_zip
  rw[<- h2,<- List.drop_eq_getElem_cons h1,List.take_append_drop]
 rw[e,List.reverse_append,List.reverse_cons,List.append_assoc,List.find?_append]
 have h0:((f.zip g).drop (i+1)).reverse.find? (fun p=>p.1==s)=none:=by
  rw[List.find?_eq_none]
  intro p hp
  rw[List.mem_reverse]at hp
  obtain⟨j,hj,e2⟩:=List.getElem_of_mem hp
  rw[List.length_drop,List.length_zip]at hj
  rw[List.getElem_drop,List.getElem_zip]at e2
  have:=hn (i+1+j) (by omega) (by omega)
  rw[<- e2]
  simpa using this
 rw[h0]
 simp[he]
theorem MW{f g:List Str}(h:f.length=g.length)(s:Str)(hn : ∀ j (hj:j<f.length),f[j]≠s):Vr (YG f g) s=s:=by
 unfold Vr YG
 have h0:(f.zip g).reverse.find? (fun p=>p.1==s)=none:=by
  rw[List.find?_eq_none]
  intro p hp
  rw[List.mem_reverse]at hp
  obtain⟨j,hj,e2⟩:=List.getElem_of_mem hp
  rw[List.length_zip]at hj
  rw[List.getElem_zip]at e2
  have:=hn j (by omega)
  rw[<- e2]
  simpa using this
 rw[h0]
end Go.Pl
