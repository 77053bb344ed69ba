/-
  Texts of mine that belong together (packed by pack.py), for every input: QPz, GTd, GTv, QTg, VwU, QTv, QTd, GWy, QWy, GVa, QVa, QCo, GL7, QL7, GL9, QL9, TyRa, GRa, QGc, TyZ0.
-/
import Derived.Test.YtbfjgcjjaoaaaaaGreatDoorProg
import Derived.Test.YtbfjgcjjaoaaaaaGreatDoorKP2
import Derived.Test.YtbfjgcjjaoaaaaaGreatDoorKP3
import Derived.Test.YtbfjgcjjaoaaaaaGreatDoorKP4
import Derived.KernelRfl
import Derived.Lib.ItoaLen
set_option linter.unusedVariables false
set_option linter.unusedSimpArgs false
namespace Go.Pl
open Go.RowKit
open Enc (enc dec is)
open EncL (encL decL isL)
theorem Tp{N:Nat}{n:Nd}{ks:List Tm}(h:tW (.mk n ks)=true)(hd:ZP ks<N){k:Tm}(hk:k∈ks):(fun x:Tm×Unit=>tW x.1&&decide (Yb x.1<N)) (k,())=true:=by
 show(tW k&&decide (Yb k<N))=true
 rw[(GU h).2 k hk,decide_eq_true (Nat.lt_of_le_of_lt (Au hk) hd)];rfl
theorem b0n{a b:Nat}(h:a+b<=4611686018427387904):IntKind.i64.wrap ((a:Int)+(b:Int))=((a+b:Nat):Int):=by rw[IntKind.wrap_i64];omega
theorem a0t(N:Nat)(n:Nd)(ks:List Tm)(hw:tW (.mk n ks)=true)(hd:ZP ks<N): ∀ (d i:Nat),d+i=ks.length ->
  At (Kl N) 0 (Za UG (Zk ((Yb (.mk n ks):Nat):Int))) U9 0 22 [(1,.ptr 0 0),(3,.pv (.int .i64 (ZP (ks.take i):Nat))),(4,.pv (.int .i64 i))] [.obj (.box (ZN n ks))]:=by
 intro d
 induction d with
 | zero=>
  intro i hi
  rw[List.take_of_length_le (by omega)]
  refine FE N n ks _ i (XR (by rw[List.length_map];exact YV (by omega)) (Jg ?_))
  have:=PU (.mk n ks)
  have:=Gz hw
  rw[Yb]at *
  exact next (by omega)
 | succ d ih=>
  intro i hi
  have hlt:i<ks.length:=by omega
  refine FE N n ks _ i (XQ (by rw[List.length_map];exact YU hlt) ⟨Yl hlt rfl,Y9 hlt ⟨Ww _,Ze (ks[i],()) (Z7 _) (Tp hw hd (List.getElem_mem hlt)),Zg (ks[i],()) (Z7 _) ?_⟩⟩)
  rw[next (by have:=(GU hw).1;omega)]
  have h:=ih (i+1) (by omega)
  rw[QN hlt,a1q]at h
  have e:(if true=true then if ((Yb ks[i]:Nat):Int)>((ZP (ks.take i):Nat):Int)then((Yb ks[i]:Nat):Int)else((ZP (ks.take i):Nat):Int)else if ((Yb ks[i]:Nat):Int)<((ZP (ks.take i):Nat):Int)then((Yb ks[i]:Nat):Int)else((ZP (ks.take i):Nat):Int))=((max (ZP (ks.take i)) (Yb ks[i]):Nat):Int):=by
   rw[if_pos rfl]
   split <;> omega
  have h2:_:=h
  rw[<- e]at h2
  exact h2
theorem a2o(N:Nat): ∀ x:Tm×Unit,(tW x.1&&decide (Yb x.1<N+1))=true->Zc (Kl N) 0 (Za UG (Zk ((Yb x.1:Nat):Int))) U9 [] (Ye b5n (encL x)):=by
 rintro⟨⟨n,ks⟩,⟨⟩⟩ h
 simp only[Bool.and_eq_true,decide_eq_true_eq]at h
 have hd:Yb (.mk n ks)<N+1:=h.2
 rw[Yb]at hd
 rw[<- Yy]
 exact b9b N n ks (a0t N n ks h.1 (by omega) ks.length 0 (by omega))
theorem LC(N:Nat)(n:Nd)(ks:List Tm)(hw:tW (.mk n ks)=true)(hd:ZP ks<N): ∀ (d i:Nat),d+i=ks.length ->
  At (UJ N) 0 (Za VM (Zk ((ZY (.mk n ks):Nat):Int))) VI 0 21 [(1,.ptr 0 0),(3,.pv (.int .i64 (ZF (ks.take i)+1:Nat))),(4,.pv (.int .i64 i))] [.obj (.box (ZN n ks))]:=by
 intro d
 induction d with
 | zero=>
  intro i hi
  rw[List.take_of_length_le (by omega)]
  exact PW N n ks _ i (XR (by rw[List.length_map];exact YV (by omega)) (Jg (by rw[ZY])))
 | succ d ih=>
  intro i hi
  have hlt:i<ks.length:=by omega
  refine PW N n ks _ i (XQ (by rw[List.length_map];exact YU hlt) ⟨Yl hlt rfl,Y9 hlt ⟨Ww _,Ze (ks[i],()) (Z7 _) (Tp hw hd (List.getElem_mem hlt)),Zg (ks[i],()) (Z7 _) ?_⟩⟩)
  have hs:=Gz hw
  rw[ZY]at hs
  have ht:=HZ ks (i+1)
  have h:=ih (i+1) (by omega)
  rw[QN hlt,U6]at h ht
  rw[next (by have:=(GU hw).1;omega)]
  have e:IntKind.wrap IntKind.i64 (((ZF (ks.take i)+1:Nat):Int)+((ZY ks[i]:Nat):Int))=((ZF (ks.take i)+ZY ks[i]+1:Nat):Int):=by rw[b0n (by omega)];congr 1;omega
  have h2:_:=h
  rw[<- e]at h2
  exact h2
theorem a0v(N:Nat): ∀ x:Tm×Unit,(tW x.1&&decide (Yb x.1<N+1))=true->Zc (UJ N) 0 (Za VM (Zk ((ZY x.1:Nat):Int))) VI [] (Ye a1t (encL x)):=by
 rintro⟨⟨n,ks⟩,⟨⟩⟩ h
 simp only[Bool.and_eq_true,decide_eq_true_eq]at h
 have hd:Yb (.mk n ks)<N+1:=h.2
 rw[Yb]at hd
 rw[<- Yy]
 exact b1g N n ks (LC N n ks h.1 (by omega) ks.length 0 (by omega))
def VQ(n:Nd)(ks:List Tm)(i:Nat):List Tm:=.mk n ks::(ks.take i).flatMap Xd
theorem a6d(n:Nd)(ks:List Tm)(i:Nat):(VQ n ks i).length=ZF (ks.take i)+1:=by unfold VQ;rw[List.length_cons,TA]
theorem EL(N:Nat)(n:Nd)(ks:List Tm)(hw:tW (.mk n ks)=true)(hd:ZP ks<N): ∀ (d i:Nat),d+i=ks.length ->
  At (Q9 N) 0 (Za U8 (Zk (Xd (.mk n ks)))) Qc 0 23 [(1,.ptr 0 0),(3,.row 1 (VQ n ks i).length 0 (VQ n ks i).length),(4,.pv (.int .i64 i))] [.obj (.box (ZN n ks)),.obj (.row false 28 10 ((VQ n ks i).map enc))]:=by
 intro d
 induction d with
 | zero=>
  intro i hi
  refine Ov N n ks _ i (VQ n ks i) (XR (by rw[List.length_map];exact YV (by omega)) ⟨by simp,?_⟩)
  rw[List.drop_zero,List.take_of_length_le (by simp)]
  refine Zt (x:=VQ n ks i) ?_
  unfold VQ
  rw[List.take_of_length_le (by omega),b2v]
 | succ d ih=>
  intro i hi
  have hlt:i<ks.length:=by omega
  have hs:=Gz hw
  rw[ZY]at hs
  have ht:=HZ ks (i+1)
  rw[QN hlt,U6]at ht
  have hl:(List.map (enc:Tm->PV) (Xd ks[i])).length=ZY ks[i]:=by rw[List.length_map,DC]
  have hk:=a6d n ks i
  refine Ov N n ks _ i (VQ n ks i) (XQ (by rw[List.length_map];exact YU hlt) ⟨Yl hlt rfl,Y9 hlt ⟨Ww _,Ze (ks[i],()) (Z7 _) (Tp hw hd (List.getElem_mem hlt)),Zg (ks[i],()) (Z7 _) ⟨?_,?_,?_⟩⟩⟩)
  ·show((List.map (enc:Tm->PV) (Xd ks[i])).isEmpty||Enc.sz Tm==10)=true
   rw[show(Enc.sz Tm==10)=true from rfl,Bool.or_true]
  ·show(List.length (List.map (enc:Tm->PV) (VQ n ks i))==(VQ n ks i).length&&(VQ n ks i).length==(VQ n ks i).length&&decide (((VQ n ks i).length+(List.map (enc:Tm->PV) (Xd ks[i])).length)*176<=1099511627776)&&decide ((VQ n ks i).length+(List.map (enc:Tm->PV) (Xd ks[i])).length<=1099511627776))=true
   rw[List.length_map,hl,decide_eq_true (by omega),decide_eq_true (by omega)];simp
  ·rw[next (by have:=(GU hw).1;omega)]
   have h:=ih (i+1) (by omega)
   have e:VQ n ks (i+1)=VQ n ks i++Xd ks[i]:=by unfold VQ;rw[QN hlt,List.flatMap_append,List.flatMap_cons,List.flatMap_nil,List.append_nil];rfl
   rw[e,List.map_append,List.length_append,<- show(List.map (enc:Tm->PV) (Xd ks[i])).length=(Xd ks[i]).length from List.length_map _]at h
   exact h
theorem a9j(N:Nat): ∀ x:Tm×Unit,(tW x.1&&decide (Yb x.1<N+1))=true->Zc (Q9 N) 0 (Za U8 (Zk (Xd x.1))) Qc [] (Ye b3d (encL x)):=by
 rintro⟨⟨n,ks⟩,⟨⟩⟩ h
 simp only[Bool.and_eq_true,decide_eq_true_eq]at h
 have hd:Yb (.mk n ks)<N+1:=h.2
 rw[Yb]at hd
 rw[<- Yy]
 refine b9r N n ks ?_
 have:=EL N n ks h.1 (by omega) ks.length 0 (by omega)
 rw[show VQ n ks 0=[.mk n ks]from rfl]at this
 rw[Yy]
 exact this
theorem zs2(t:Tm):(decide (0+List.length [Sh.str]<=List.length (List.drop 2 (PV.cells (enc t))))&&Y5 (List.drop 2 (PV.cells (enc t))) 0 [Sh.str])=true:=by obtain⟨n,ks⟩:=t;rw[ZX];rfl
theorem zv2(t:Tm):PV.asStr (List.getD (List.drop 2 (PV.cells (enc t))) 0 default)=t.nd.name.s:=by obtain⟨n,ks⟩:=t;rw[ZX];rfl
theorem c5y(t:Tm):(decide (0+List.length [Sh.sl 1]<=List.length (List.drop 2 (List.drop 4 (PV.cells (enc t)))))&&Y5 (List.drop 2 (List.drop 4 (PV.cells (enc t)))) 0 [Sh.sl 1])=true:=by obtain⟨n,ks⟩:=t;rw[ZX];rfl
theorem c6d(t:Tm):PV.asXs (List.getD (List.drop 2 (List.drop 4 (PV.cells (enc t)))) 0 default)=t.nd.data.map enc:=by obtain⟨n,ks⟩:=t;rw[ZX];rfl
theorem c5z(t:Tm):(decide (0+List.length [Sh.sl 1]<=List.length (List.drop 1 (List.drop 4 (PV.cells (enc t)))))&&Y5 (List.drop 1 (List.drop 4 (PV.cells (enc t)))) 0 [Sh.sl 1])=true:=by obtain⟨n,ks⟩:=t;rw[ZX];rfl
theorem c5v(t:Tm):PV.asXs (List.getD (List.drop 1 (List.drop 4 (PV.cells (enc t)))) 0 default)=t.nd.dims.map enc:=by obtain⟨n,ks⟩:=t;rw[ZX];rfl
theorem zs7(t:Tm):(decide (0+List.length [Sh.sl 2]<=List.length (List.drop 7 (PV.cells (enc t))))&&Y5 (List.drop 7 (PV.cells (enc t))) 0 [Sh.sl 2])=true:=by obtain⟨n,ks⟩:=t;rw[ZX];rfl
theorem zv7(t:Tm):PV.asXs (List.getD (List.drop 7 (PV.cells (enc t))) 0 default)=t.nd.sizes.map enc:=by obtain⟨n,ks⟩:=t;rw[ZX];rfl
theorem zs8(t:Tm):(decide (0+List.length [Sh.sl 1]<=List.length (List.drop 8 (PV.cells (enc t))))&&Y5 (List.drop 8 (PV.cells (enc t))) 0 [Sh.sl 1])=true:=by obtain⟨n,ks⟩:=t;rw[ZX];rfl
theorem zv8(t:Tm):PV.asXs (List.getD (List.drop 8 (PV.cells (enc t))) 0 default)=t.nd.ranks.map enc:=by obtain⟨n,ks⟩:=t;rw[ZX];rfl
theorem c5o(l:Lin):(decide (0+List.length [Sh.sl 2]<=List.length (List.drop 1 (PV.cells (enc l))))&&Y5 (List.drop 1 (PV.cells (enc l))) 0 [Sh.sl 2])=true:=rfl
theorem c6f(l:Lin):PV.asXs (List.getD (List.drop 1 (PV.cells (enc l))) 0 default)=l.t.map enc:=rfl
theorem b1h(n:Nd)(ks:List Tm)(m:Int)(o:List Tm)(G:PV->Prop){i:Nat}(hlt:i<o.length)(hs:o[i].nd.sizes.length<=1048576)(hf:(o[i].nd.sizes.all fun l=>decide (l.t.length<=6))=false->G (.bool false))
  (hk:(o[i].nd.sizes.all fun l=>decide (l.t.length<=6))=true->At WN 0 (Za XI G) X8 0 91 [(5,.pv (enc o)),(6,.pv (.int .i64 (IntKind.i64.wrap ((i:Int)+1))))] []) : ∀ (d j:Nat),d+j=o[i].nd.sizes.length->(∀ q (hq:q<o[i].nd.sizes.length),q<j->(o[i].nd.sizes[q]).t.length<=6) ->
  At WN 0 (Za XI G) X8 1 91 [(5,.pv (enc o)),(6,.pv (.int .i64 i)),(7,.pv (.int .i64 j))] []:=by
 intro d
 induction d with
 | zero=>
  intro j hj hq
  refine OZ n ks m i j o ⟨Yl hlt rfl,Y9 hlt ⟨zs7 _,?_⟩⟩
  rw[zv7,List.length_map]
  refine XR (YV (by omega)) (hk ?_)
  rw[List.all_eq_true]
  intro l hl
  obtain⟨q,hq2,rfl⟩:=List.getElem_of_mem hl
  exact decide_eq_true (hq q hq2 (by omega))
 | succ d ih=>
  intro j hj hq
  have hjl:j<o[i].nd.sizes.length:=by omega
  have eg:List.getD (o[i].nd.sizes.map (enc:Lin->PV)) (Int.toNat (j:Int)) default=enc o[i].nd.sizes[j]:=by rw[Int.toNat_natCast];simp[List.getD,hjl]
  refine OZ n ks m i j o ⟨Yl hlt rfl,Y9 hlt ⟨zs7 _,?_⟩⟩
  rw[zv7]
  refine XQ (by rw[List.length_map];exact YU hjl) ⟨Yl hlt rfl,Y9 hlt ⟨zs7 _,?_⟩⟩
  rw[zv7,eg,c6f]
  refine⟨by rw[List.length_map];simp;omega,c5o _,Yp (fun h=> ?_) fun h=> ?_⟩
  ·refine hf ?_
   rw[List.length_map]at h
   rw[List.all_eq_false]
   exact⟨_,List.getElem_mem hjl,by simp;omega⟩
  ·rw[List.length_map]at h
   rw[next (by omega)]
   refine ih (j+1) (by omega) fun q hq2 hqj=> ?_
   by_cases e:q=j
   ·subst e;omega
   ·exact hq q hq2 (by omega)
theorem b5t{t x:Tm}(h:tW t=true)(hx:x∈Xd t):tW x=true:=by
 unfold Xd at hx
 obtain⟨p,hp,rfl⟩:=List.mem_map.1 hx
 exact Jp h hp
theorem Qp{t:Tm}(h : ¬ (t.nd.name.s.length<=40∧t.nd.data.length<=30∧t.nd.dims.length<=8∧t.nd.sizes.length<=6∧t.nd.ranks.length<=10)):CB t=false:=by
 rw[Bool.eq_false_iff]
 intro k
 unfold CB at k
 simp only[Bool.and_eq_true,decide_eq_true_eq]at k
 exact h ⟨k.1.1.1.1.1,k.1.1.1.1.2,k.1.1.1.2,k.1.1.2,k.1.2⟩
theorem a5b{t:Tm}(h1:t.nd.name.s.length<=40)(h2:t.nd.data.length<=30)(h3:t.nd.dims.length<=8)(h4:t.nd.sizes.length<=6)(h5:t.nd.ranks.length<=10):CB t=t.nd.sizes.all fun l=>decide (l.t.length<=6):=by
 unfold CB
 rw[decide_eq_true h1,decide_eq_true h2,decide_eq_true h3,decide_eq_true h4,decide_eq_true h5];simp
theorem a0a(n:Nd)(ks:List Tm)(m:Int)(o:List Tm)(hw : ∀ x∈o,tW x=true)(hl:o.length<=1048576)(G:PV->Prop)(hG:G (.bool (o.all CB))): ∀ (d i:Nat),d+i=o.length->(∀ q (hq:q<o.length),q<i->CB o[q]=true) ->
  At WN 0 (Za XI G) X8 0 91 [(5,.pv (enc o)),(6,.pv (.int .i64 i))] []:=by
 intro d
 induction d with
 | zero=>
  intro i hi hq
  have e:o.all CB=true:=by
   rw[List.all_eq_true]
   intro x hx
   obtain⟨q,hq2,rfl⟩:=List.getElem_of_mem hx
   exact hq q hq2 (by omega)
  rw[e]at hG
  exact FY n ks m i o (XR (by rw[List.length_map];exact YV (by omega)) hG)
 | succ d ih=>
  intro i hi hq
  have hlt:i<o.length:=by omega
  have hno:CB o[i]=false->G (.bool false):=fun h=>by
   have e:o.all CB=false:=by rw[List.all_eq_false];exact⟨_,List.getElem_mem hlt,by rw[h];simp⟩
   rw[e]at hG
   exact hG
  refine FY n ks m i o (XQ (by rw[List.length_map];exact YU hlt) ⟨Yl hlt rfl,Y9 hlt ⟨zs2 _,?_⟩⟩)
  rw[zv2]
  refine Yp (fun h=>hno (Qp fun k=>by omega)) fun h1=>⟨Yl hlt rfl,Y9 hlt ⟨c5y _,?_⟩⟩
  rw[c6d,List.length_map]
  refine Yp (fun h=>hno (Qp fun k=>by omega)) fun h2=>⟨Yl hlt rfl,Y9 hlt ⟨c5z _,?_⟩⟩
  rw[c5v,List.length_map]
  refine Yp (fun h=>hno (Qp fun k=>by omega)) fun h3=>⟨Yl hlt rfl,Y9 hlt ⟨zs7 _,?_⟩⟩
  rw[zv7,List.length_map]
  refine Yp (fun h=>hno (Qp fun k=>by omega)) fun h4=>⟨Yl hlt rfl,Y9 hlt ⟨zs8 _,?_⟩⟩
  rw[zv8,List.length_map]
  refine Yp (fun h=>hno (Qp fun k=>by omega)) fun h5=> ?_
  have ef:=a5b (t:=o[i]) (by omega) (by omega) (by omega) (by omega) (by omega)
  refine b1h n ks m o G hlt (by omega) (fun h=>hno (by rw[ef];exact h)) (fun h=> ?_) o[i].nd.sizes.length 0 (by omega) fun q hq hq2=>by omega
  rw[next (by omega)]
  refine ih (i+1) (by omega) fun q hq2 hqi=> ?_
  by_cases e:q=i
  ·subst e;rw[ef];exact h
  ·exact hq q hq2 (by omega)
theorem a9q: ∀ x:Tm×Int×Unit,tW x.1=true->Zc WN 0 (Za XI (Zk (KS x.1 x.2.1))) X8 [] (Ye b6e (encL x)):=by
 rintro⟨⟨n,ks⟩,m,⟨⟩⟩ h
 have h:tW (.mk n ks)=true:=h
 have ea:BZ n ks++[.int .i64 m]=encL ((.mk n ks,m,()):Tm×Int×Unit):=by rw[Yy];rfl
 rw[<- ea]
 show Zc WN 0 (Za XI (Zk (KS (.mk n ks) m))) _ _ _
 refine b8y n ks m ⟨Ze (.mk n ks,()) (Yy n ks) h,Zg (.mk n ks,()) (Yy n ks) (Yp (fun h1=>Z0 ?_) fun h1=>⟨Ze (.mk n ks,()) (Yy n ks) h,Zg (.mk n ks,()) (Yy n ks) (Yp (fun h2=>Z0 ?_) fun h2=>⟨Ze (.mk n ks,()) (Yy n ks) h,Zg (.mk n ks,()) (Yy n ks) ?_⟩)⟩)⟩
 ·have h1:((Yb (.mk n ks):Nat):Int)>12:=h1
  unfold KS
  rw[decide_eq_false (by omega)];rfl
 ·have h2:((ZY (.mk n ks):Nat):Int)>m:=h2
  unfold KS
  rw[decide_eq_false (show ¬ ((ZY (.mk n ks):Nat):Int)<=m by omega),Bool.and_false];rfl
 ·have h1 : ¬ ((Yb (.mk n ks):Nat):Int)>12:=h1
  have h2 : ¬ ((ZY (.mk n ks):Nat):Int)>m:=h2
  have e:KS (.mk n ks) m=(Xd (.mk n ks)).all CB:=by
   unfold KS
   rw[decide_eq_true (by omega),decide_eq_true (show((ZY (.mk n ks):Nat):Int)<=m by omega)];simp
  refine a0a n ks m (Xd (.mk n ks)) (fun x hx=>b5t h hx) (by rw[DC];exact Gz h) _ (Z0 e.symm) (Xd (.mk n ks)).length 0 (by omega) fun q hq hq2=>by omega
theorem b7x: ∀ x:Str×Unit,true=true->Zc c2y 0 (Za a6z (Zk (vT x.1))) a5u [] (Ye c4l (encL x)):=by
 rintro⟨⟨s⟩,⟨⟩⟩ _
 exact c6b s ⟨by simp,by simp[vT,nd0]⟩
theorem a0g: ∀ x:Str×List Tm×Unit,true=true->Zc SX 0 (Za Bb (Zk (cT x.1 x.2.1))) CE [] (Ye a5l (encL x)):=by
 rintro⟨⟨s⟩,l,⟨⟩⟩ _
 refine b3k s l ⟨?_,?_⟩
 ·have:is (List Tm) (.sl 10 false (l.map enc))=true:=Enc.is_enc l
  simp[this]
 ·have h:is (List Tm) (.sl 10 false (l.map enc))=true:=Enc.is_enc l
  have h2:(dec (.sl 10 false (l.map enc)):List Tm)=l:=Enc.dec_enc l
  rw[b9d _ _ _ _ _ _ _ _ _ _ h,h2]
  simp[cT,nd0]
theorem a6q(a b:Tm):(List.all [enc a,enc b] fun(x:PV)=>List.length (PV.cells x)==10&&PV.cellsOk x)=true:=by
 obtain⟨n,ks⟩:=a
 obtain⟨m,ls⟩:=b
 rw[ZX,ZX];rfl
theorem MI: ∀ x:Unit,true=true->Zc CV 0 (Za JS (Zk true)) JL [] (Ye EO (encL x)):=by
 rintro⟨⟩ _
 refine a9i (Zg ((⟨[97]⟩:Str),()) rfl (Zg ((⟨[98]⟩:Str),()) rfl ⟨cT ⟨[110,101,103]⟩ [nT 5],by kernel_rfl,a6q _ _,Ze ((⟨[115,117,98]⟩:Str),[vT ⟨[98]⟩,cT ⟨[110,101,103]⟩ [nT 5]],()) rfl rfl,Zg ((⟨[115,117,98]⟩:Str),[vT ⟨[98]⟩,cT ⟨[110,101,103]⟩ [nT 5]],()) rfl ⟨a6q _ _,Ze ((⟨[115,117,98]⟩:Str),[vT ⟨[97]⟩,cT ⟨[115,117,98]⟩ [vT ⟨[98]⟩,cT ⟨[110,101,103]⟩ [nT 5]]],()) rfl rfl,Zg ((⟨[115,117,98]⟩:Str),[vT ⟨[97]⟩,cT ⟨[115,117,98]⟩ [vT ⟨[98]⟩,cT ⟨[110,101,103]⟩ [nT 5]]],()) rfl ⟨Ze (ex1,()) rfl c3h,Zg (ex1,()) rfl ?_⟩⟩⟩))
 rw[show XZ ((ex1,()):Tm×Unit).1=(⟨tx1⟩,0)from b0u]
 refine Zg ((⟨[97]⟩:Str),()) rfl (Zg ((⟨[98]⟩:Str),()) rfl ⟨a6q _ _,Ze ((⟨[97,100,100]⟩:Str),[vT ⟨[97]⟩,vT ⟨[98]⟩],()) rfl rfl,Zg ((⟨[97,100,100]⟩:Str),[vT ⟨[97]⟩,vT ⟨[98]⟩],()) rfl ⟨by kernel_rfl,by kernel_rfl,ex2,by kernel_rfl,Ze (ex2,()) rfl c3n,Zg (ex2,()) rfl ?_⟩⟩)
 rw[show XZ ((ex2,()):Tm×Unit).1=(⟨tx2⟩,0)from a8s]
 exact XQ rfl (XQ rfl (XQ rfl (Z0 rfl)))
theorem E5(n:Nd)(ks:List Tm)(s:List UInt8)(hs:s.length<=20000)(hc:Wp true s=true): ∀ (d i:Nat),d+i=s.length->Wp (FU s i) (s.drop i)=true ->
  At Qw 0 (Za VV (Zk true)) VX 0 62 [(3,.pv (.str s)),(5,.pv (.int .i64 i))] []:=by
 intro d
 induction d with
 | zero=>
  intro i hi h
  refine OO n ks s i (XR (YV (by omega)) (Z0 ?_))
  have:=b7l hc
  simp[this]
 | succ d ih=>
  intro i hi h
  have hlt:i<s.length:=by omega
  rw[List.drop_eq_getElem_cons hlt]at h
  have eg:List.getD s (Int.toNat (i:Int)) (0:UInt8)=s[i]:=by rw[Int.toNat_natCast];simp[List.getD,hlt]
  have hix:(decide (0<=(i:Int))&&decide (Int.toNat (i:Int)<s.length))=true:=by simp;omega
  have ep:FU s (i+1)=(s[i]==32):=by
   unfold FU
   rw[decide_eq_false (by omega),Bool.false_or,Nat.add_sub_cancel]
   simp[List.getD,hlt]
  refine OO n ks s i (XQ (YU hlt) ?_)
  rw[eg]
  have hn:=ih (i+1) (by omega)
  rw[ep]at hn
  have ew:IntKind.wrap IntKind.i64 ((i:Int)+1)=((i+1:Nat):Int):=next (by omega)
  rw[ew]
  rcases a3u h with ⟨h1,h2,h3⟩|⟨h1,h2,h3,h4⟩
  ·have e32:((s[i].toNat:Nat):Int)=32:=by rw[h1];rfl
   have hn:=hn (by rw[h1];exact h3)
   rw[e32]
   unfold FU at h2
   rw[Bool.or_eq_false_iff,decide_eq_false_iff_not]at h2
   refine⟨hix,Yp (fun k=>absurd k (by omega)) fun _=>⟨hix,Yp (fun k=>absurd k (by omega)) fun _=>⟨hix,XQ rfl ?_⟩⟩⟩
   have hne:s.drop (i+1)≠[]:=b7l h3
   have hle:i+1<s.length:=by
    rcases Nat.lt_or_ge (i+1) s.length with k|k
    ·exact k
    ·exact absurd (List.drop_eq_nil_of_le k) hne
   have ew2:IntKind.wrap IntKind.i64 ((s.length:Int) - 1)=((s.length - 1:Nat):Int):=by rw[IntKind.wrap_i64];omega
   have ew3:IntKind.wrap IntKind.i64 ((i:Int) - 1)=((i - 1:Nat):Int):=by rw[IntKind.wrap_i64];omega
   refine ZU (fun k=>absurd k (by omega)) fun _=>ZU (fun k=>absurd k (by rw[ew2];omega)) fun _=> ?_
   rw[ew3,Int.toNat_natCast]
   refine⟨by simp;omega,ZU (fun k=> ?_) fun _=>hn⟩
   exfalso
   have h2:=h2.2
   have:(s.getD (i - 1) 0).toNat=32:=by omega
   have e:s.getD (i - 1) 0=32:=UInt8.toNat_inj.1 this
   rw[e]at h2
   cases h2
  ·have hn:=hn (by rw[show(s[i]==32)=false by simpa using h1];exact h4)
   refine⟨hix,Yp (fun k=>absurd k (by omega)) fun _=>⟨hix,Yp (fun k=>absurd k (by omega)) fun _=>⟨hix,ZU (fun k=> ?_) fun _=>hn⟩⟩⟩
   have:s[i].toNat=32:=by omega
   exact absurd (UInt8.toNat_inj.1 this) h1
theorem a5s: ∀ x:Tm×Unit,tW x.1=true->Zc Qw 0 (Za VV (Zk true)) VX [] (Ye b4t (encL x)):=by
 rintro⟨⟨n,ks⟩,⟨⟩⟩ h
 have h:tW (.mk n ks)=true:=h
 have ea:BZ n ks++[.int .i64 30]=encL ((.mk n ks,30,()):Tm×Int×Unit):=by rw[Yy];rfl
 rw[<- Yy]
 refine b9t n ks (Zg () rfl (XR (by simp) ⟨Ze (.mk n ks,()) (Yy n ks) h,Zg (.mk n ks,()) (Yy n ks) ⟨Ze (.mk n ks,30,()) ea h,Zg (.mk n ks,30,()) ea (Gj (fun hf=>Z0 rfl) fun hf=>b2h (fun he=>Z0 rfl) fun he=> ?_)⟩⟩))
 have he:(XZ (.mk n ks)).2=0:=he
 have hp:Xz (.mk n ks)=true:=by
  unfold XZ at he
  cases hp:Xz (.mk n ks)with
  | true=>rfl
  | false=>rw[hp]at he;cases he
 have et:XZ (.mk n ks)=(Zr (.mk n ks),0)∧(ZV (.mk n ks)).length<=20000:=by
  unfold XZ at he ⊢
  rw[hp]at he ⊢
  have he:(Dv (Zr (.mk n ks))).2=0:=he
  show Dv (Zr (.mk n ks))=_∧_
  unfold Dv at he ⊢
  split at he
  ·cases he
  ·rename_i hl
   rw[if_neg hl]
   refine⟨rfl,?_⟩
   have hl : ¬ (((ZV (.mk n ks)).length:Nat):Int)>20000:=hl
   omega
 rw[show XZ ((Tm.mk n ks,()):Tm×Unit).1=(Zr (.mk n ks),0)from et.1]
 have hc:Wp true (ZV (.mk n ks))=true:=Og _ (D6 (by unfold Xz at hp;rw[Bool.and_eq_true]at hp;exact hp.1))
 exact E5 n ks (ZV (.mk n ks)) et.2 hc _ 0 (Nat.add_zero _) hc
end Go.Pl

namespace Go.Pl
open Go.RowKit
open Enc (enc dec is)
open EncL (encL decL isL)
set_option maxRecDepth 100000
def Mg:IC:=(.seq (.reg [⟨(some 1),(.box 1 (.t 0)),0,none⟩,⟨(some 2),(.mv (.c .nilfn)),1,none⟩] none) (.seq (.reg [⟨(some 3),(.mkfn 86 [] [(.t 1)]),0,none⟩,⟨(some 2),(.mv (.t 3)),0,none⟩] none) .ret))
def LY:List IRes:=[(.tmp 2)]
abbrev b8i:Nat:=4
def a7b:ZC:=Xi []
theorem c3t{G:AV×List AObj×List AObj->Prop}(es:List (PV×PV))(h:G (((.fn 86 [] [(.ptr 1 0)]),([(.map es)],[(.box [(.map 0)])])))):Zc a7b 1 (YB 1 LY G) Mg [] (Vb 4 [.map 0] [.map es]):=Zc.to (.nil) h (by kernel_rfl)
def D8:IC:=(.seq (.reg [⟨(some 1),(.box 10 (.t 0)),0,none⟩,⟨(some 2),(.mv (.c (.sl 0 true []))),1,none⟩] none) (.seq (.reg [⟨(some 9),.mkmap,0,none⟩,⟨(some 3),(.alloc .nilmap),1,none⟩,⟨none,(.store 1 (.t 3) (.t 9)),2,none⟩] none) (.seq (.seq (.reg [⟨(some 10),(.load true [(.int .i64),(.int .i64),.str,(.int .i64),.str,(.sl 1),(.sl 1),(.sl 2),(.sl 1),(.sl 10)] (.t 1)),0,none⟩,⟨(some 11),(.call (.c (.fn 42)) [(.t 10)]),0,none⟩] none) (.block 0 (.ext 0 [11,4,12,14,15,17,16,18,19,6,20,21,22,24,23,25,26,8,27,3,29,28,30,31,32]))) (.seq (.reg [⟨(some 33),(.load false [.any] (.t 3)),0,none⟩,⟨(some 34),(.call (.c (.fn 48)) [(.t 33)]),0,none⟩,⟨(some 35),(.call (.c (.fn 47)) [(.t 34)]),2,none⟩,⟨(some 2),(.mv (.t 35)),4,none⟩] none) .ret))))
def J8:List IRes:=[(.tmp 2)]
abbrev c1h:Nat:=36
def Jt:ZC:=Xi [(42,.own WA (VY 74)),(48,.own QE (KR 86)),(47,.own (V3 86) UU)]
theorem c4c{G:PV->Prop}(E:XJ)(n:Nd)(ks:List Tm)(h:(WA [(.pv (.agg [(.int .i64 (Nd.kind n)),(.int .i64 (Nd.line n)),(.str (Str.s (Nd.name n))),(.int .i64 (Nd.num n)),(.str (Str.s (Nd.elem n))),(.sl 1 false (List.map enc (Nd.dims n))),(.sl 1 false (List.map enc (Nd.data n))),(.sl 2 false (List.map enc (Nd.sizes n))),(.sl 1 false (List.map enc (Nd.ranks n))),(.sl 10 false (List.map enc ks))]))] [])=true∧(E 0 ⟨Yv 36 0 [(3,(.ptr 0 0)),(4,.undef),(6,.undef),(8,.undef),(11,(.fn 74 [] [(.ptr 1 0)])),(12,.undef),(14,.undef),(15,.undef),(16,.undef),(17,.undef),(18,.undef),(19,.undef),(20,.undef),(21,.undef),(22,.undef),(23,.undef),(24,.undef),(25,.undef),(26,.undef),(27,.undef),(28,.undef),(29,.undef),(30,.undef),(31,.undef),(32,.undef)],[(.obj (.box [(.map 2)])),(.obj (.box [(.pv (.int .i64 (Nd.kind n))),(.pv (.int .i64 (Nd.line n))),(.pv (.str (Str.s (Nd.name n)))),(.pv (.int .i64 (Nd.num n))),(.pv (.str (Str.s (Nd.elem n)))),(.pv (.sl 1 false (List.map enc (Nd.dims n)))),(.pv (.sl 1 false (List.map enc (Nd.data n)))),(.pv (.sl 2 false (List.map enc (Nd.sizes n)))),(.pv (.sl 1 false (List.map enc (Nd.ranks n)))),(.pv (.sl 10 false (List.map enc ks)))])),(.obj (.map []))]⟩ (fun x S'=>AfX Jt E 0 (Za J8 G) D8 0 x S'))):Yr Jt E 0 (Za J8 G) (.inl D8) [] (Ye 36 [.agg [enc n.kind,enc n.line,enc n.name,enc n.num,enc n.elem,enc n.dims,enc n.data,enc n.sizes,enc n.ranks,enc ks]]):=Yr.mp (.req (.keep (.nil))) h (by kernel_rfl)
theorem c0r{G:PV->Prop}(E:XJ)(n:Nd)(ks:List Tm)(m:List Str)(h:(V3 86 [(.fn 86 [] [(.ptr 0 0)])] [(.box [(.map 1)]),(.map (Qh m))])=true∧(G ((.sl 1 false (List.map PV.str (XT (List.map UX (Qh m)))))))):AfX Jt E 0 (Za J8 G) D8 0 .normal ⟨Yv 36 0 [(3,.ptr 0 0)],[.obj (.box [.map 1]),.obj (.map (Qh m))]⟩:=Yr.mp (.lit (.keep (.req (.keep (.nil))))) h (by kernel_rfl)
def Cb:IC:=(.reg [⟨(some 4),(.alloc (.agg [(.int .i64 0),(.int .i64 0),(.str []),(.int .i64 0),(.str []),(.sl 0 true []),(.sl 0 true []),(.sl 0 true []),(.sl 0 true []),(.sl 0 true [])])),0,none⟩,⟨none,(.store 10 (.t 4) (.t 12)),1,none⟩] none)
def b7f:ZC:=Xi [(42,.own WA (VY 74)),(48,.own QE (KR 86)),(47,.own (V3 86) UU)]
theorem c2d{G:Zp->Prop}(E:XJ)(n:Nd)(ks:List Tm)(m:List Str)(v:Int)(h:E 99 ⟨Yv 36 0 [(3,(.ptr 0 0)),(4,(.ptr 2 0))],[(.obj (.box [(.map 1)])),(.obj (.map (Qh m))),(.obj (.box [(.pv (.int .i64 (Nd.kind n))),(.pv (.int .i64 (Nd.line n))),(.pv (.str (Str.s (Nd.name n)))),(.pv (.int .i64 (Nd.num n))),(.pv (.str (Str.s (Nd.elem n)))),(.pv (.sl 1 false (List.map enc (Nd.dims n)))),(.pv (.sl 1 false (List.map enc (Nd.data n)))),(.pv (.sl 2 false (List.map enc (Nd.sizes n)))),(.pv (.sl 1 false (List.map enc (Nd.ranks n)))),(.pv (.sl 10 false (List.map enc ks)))]))]⟩ (fun x S'=>AfX b7f E 2 (fun st=>G st.heap) Cb 99 x S')):Yr b7f E 2 (fun st=>G st.heap) (.inl Cb) [.seq (.ext 99 [3,4])] ⟨Yv 36 0 [(3,.ptr 0 0),(12,.pv (.agg [enc n.kind,enc n.line,enc n.name,enc n.num,enc n.elem,enc n.dims,enc n.data,enc n.sizes,enc n.ranks,enc ks])),(13,.pv (.int .i64 v))],[.obj (.box [.map 1]),.obj (.map (Qh m))]⟩:=Yr.mh (.nil) h (by kernel_rfl)
def Wd:IC:=(.block 1 (.seq (.reg [⟨(some 14),(.faddr 7 (.t 4)),0,none⟩,⟨(some 15),(.load false [(.sl 2)] (.t 14)),0,none⟩,⟨(some 16),(.len 1 (.t 15)),0,none⟩,⟨(some 17),(.mv (.c (.int .i64 0))),0,none⟩] none) (.block 2 (.loop [17,16,15,3] (.seq (.reg [⟨(some 18),(.bin .num .lss (.t 17) (.t 16)),0,none⟩] none) (.seq (.cond (.t 18) .skip (.exit 2)) (.seq (.block 3 (.seq (.reg [⟨(some 19),(.iaddr 2 (.t 15) (.t 17)),0,none⟩,⟨(some 20),(.load true [(.int .i64),(.sl 2)] (.t 19)),0,none⟩,⟨(some 6),(.alloc (.agg [(.int .i64 0),(.sl 0 true [])])),0,none⟩,⟨none,(.store 2 (.t 6) (.t 20)),1,none⟩] none) (.seq (.reg [⟨(some 21),(.faddr 1 (.t 6)),0,none⟩,⟨(some 22),(.load false [(.sl 2)] (.t 21)),0,none⟩,⟨(some 23),(.len 1 (.t 22)),0,none⟩,⟨(some 24),(.mv (.c (.int .i64 0))),0,none⟩] none) (.block 4 (.loop [24,23,22,3,17,16,15] (.seq (.reg [⟨(some 25),(.bin .num .lss (.t 24) (.t 23)),0,none⟩] none) (.seq (.cond (.t 25) .skip (.exit 4)) (.seq (.block 5 (.seq (.reg [⟨(some 26),(.iaddr 2 (.t 22) (.t 24)),0,none⟩,⟨(some 27),(.load true [.str,(.int .i64)] (.t 26)),0,none⟩,⟨(some 8),(.alloc (.agg [(.str []),(.int .i64 0)])),0,none⟩,⟨none,(.store 2 (.t 8) (.t 27)),1,none⟩] none) (.reg [⟨(some 28),(.load false [.any] (.t 3)),0,none⟩,⟨(some 29),(.faddr 0 (.t 8)),0,none⟩,⟨(some 30),(.load false [.str] (.t 29)),0,none⟩,⟨none,(.mapupd true (.t 28) (.t 30) (.c (.bool true))),0,none⟩] none))) (.reg [⟨(some 31),(.bin .num .add (.t 24) (.c (.int .i64 1))),0,none⟩,⟨(some 24),(.mv (.t 31)),0,none⟩] none))))))))) (.reg [⟨(some 32),(.bin .num .add (.t 17) (.c (.int .i64 1))),0,none⟩,⟨(some 17),(.mv (.t 32)),0,none⟩] none))))))))
def Qe:ZC:=Xi [(42,.own WA (VY 74)),(48,.own QE (KR 86)),(47,.own (V3 86) UU)]
theorem b0d{G:Zp->Prop}(E:XJ)(n:Nd)(ks:List Tm)(m:List Str)(i:Int)(h:if (decide (i<(↑(List.length (Nd.sizes n)):Int)))=true then(decide (0<=i)&&decide (Int.toNat i<List.length (List.map enc (Nd.sizes n)))&&Enc.sz Lin==2)=true∧(∃ y0:Lin,AV.pv (PV.rptr (PV.cells (List.getD (List.map enc (Nd.sizes n)) (Int.toNat i) default)))=AV.pv (PV.rptr (PV.cells ((enc) y0)))∧(AtS [.seq (.ext 99 [])] Qe E 3 (fun st=>G st.heap) Wd 1 36 [(3,(.ptr 0 0)),(15,(.pv (.sl 2 false (List.map enc (Nd.sizes n))))),(16,(.pv (.int .i64 (↑(List.length (Nd.sizes n)):Int)))),(17,(.pv (.int .i64 i))),(22,(.pv (.sl 2 false (PV.asXs (List.getD (PV.cells (enc y0)) (0+1) default))))),(23,(.pv (.int .i64 (↑(List.length (PV.asXs (List.getD (PV.cells (enc y0)) (0+1) default))):Int)))),(24,(.pv (.int .i64 0)))] [(.obj (.box [(.map 1)])),(.obj (.map (Qh m))),(.obj (.box [(.pv (.int .i64 (Nd.kind n))),(.pv (.int .i64 (Nd.line n))),(.pv (.str (Str.s (Nd.name n)))),(.pv (.int .i64 (Nd.num n))),(.pv (.str (Str.s (Nd.elem n)))),(.pv (.sl 1 false (List.map enc (Nd.dims n)))),(.pv (.sl 1 false (List.map enc (Nd.data n)))),(.pv (.sl 2 false (List.map enc (Nd.sizes n)))),(.pv (.sl 1 false (List.map enc (Nd.ranks n)))),(.pv (.sl 10 false (List.map enc ks)))]))]))else(E 99 ⟨Yv 36 0 [],[(.obj (.box [(.map 1)])),(.obj (.map (Qh m))),(.obj (.box [(.pv (.int .i64 (Nd.kind n))),(.pv (.int .i64 (Nd.line n))),(.pv (.str (Str.s (Nd.name n)))),(.pv (.int .i64 (Nd.num n))),(.pv (.str (Str.s (Nd.elem n)))),(.pv (.sl 1 false (List.map enc (Nd.dims n)))),(.pv (.sl 1 false (List.map enc (Nd.data n)))),(.pv (.sl 2 false (List.map enc (Nd.sizes n)))),(.pv (.sl 1 false (List.map enc (Nd.ranks n)))),(.pv (.sl 10 false (List.map enc ks)))]))]⟩ (fun x S'=>AfX Qe E 3 (fun st=>G st.heap) Wd 99 x S'))):AtS [.seq (.ext 99 [])] Qe E 3 (fun st=>G st.heap) Wd 0 36 [(3,.ptr 0 0),(15,.pv (enc n.sizes)),(16,.pv (.int .i64 n.sizes.length)),(17,.pv (.int .i64 i))] [.obj (.box [.map 1]),.obj (.map (Qh m)),.obj (.box [.pv (enc n.kind),.pv (enc n.line),.pv (enc n.name),.pv (enc n.num),.pv (enc n.elem),.pv (enc n.dims),.pv (enc n.data),.pv (enc n.sizes),.pv (enc n.ranks),.pv (enc ks)])]:=Yr.mh (.lit (.ask (.req (.abs (Lin) (fun YY=>AV.pv (PV.rptr (PV.cells ((enc) YY)))) (.lit (.nil)))) (.nil))) h (by kernel_rfl)
theorem a5h{G:Zp->Prop}(E:XJ)(n:Nd)(ks:List Tm)(m:List Str)(i j:Int)(l:Lin)(h:if (decide (j<(↑(List.length l.t):Int)))=true then(decide (0<=j)&&decide (Int.toNat j<List.length (List.map enc l.t))&&Enc.sz Coef==2)=true∧(∃ y0:Coef,AV.pv (PV.rptr (PV.cells (List.getD (List.map enc l.t) (Int.toNat j) default)))=AV.pv (PV.rptr (PV.cells ((enc) y0)))∧((Oi (Sh.co Sh.str (List.getD (PV.cells (enc y0)) 0 default)) (PV.bool true) (Qh m))=true∧(AtS [.seq (.ext 99 [])] Qe E 3 (fun st=>G st.heap) Wd 1 36 [(3,(.ptr 0 0)),(15,(.pv (.sl 2 false (List.map enc (Nd.sizes n))))),(16,(.pv (.int .i64 (↑(List.length (Nd.sizes n)):Int)))),(17,(.pv (.int .i64 i))),(22,(.pv (.sl 2 false (List.map enc l.t)))),(23,(.pv (.int .i64 (↑(List.length l.t):Int)))),(24,(.pv (.int .i64 (IntKind.wrap IntKind.i64 (j+1)))))] [(.obj (.box [(.map 1)])),(.obj (.map (N9 (Sh.co Sh.str (List.getD (PV.cells (enc y0)) 0 default)) (PV.bool true) (Qh m)))),(.obj (.box [(.pv (.int .i64 (Nd.kind n))),(.pv (.int .i64 (Nd.line n))),(.pv (.str (Str.s (Nd.name n)))),(.pv (.int .i64 (Nd.num n))),(.pv (.str (Str.s (Nd.elem n)))),(.pv (.sl 1 false (List.map enc (Nd.dims n)))),(.pv (.sl 1 false (List.map enc (Nd.data n)))),(.pv (.sl 2 false (List.map enc (Nd.sizes n)))),(.pv (.sl 1 false (List.map enc (Nd.ranks n)))),(.pv (.sl 10 false (List.map enc ks)))]))])))else(AtS [.seq (.ext 99 [])] Qe E 3 (fun st=>G st.heap) Wd 0 36 [(3,(.ptr 0 0)),(15,(.pv (.sl 2 false (List.map enc (Nd.sizes n))))),(16,(.pv (.int .i64 (↑(List.length (Nd.sizes n)):Int)))),(17,(.pv (.int .i64 (IntKind.wrap IntKind.i64 (i+1)))))] [(.obj (.box [(.map 1)])),(.obj (.map (Qh m))),(.obj (.box [(.pv (.int .i64 (Nd.kind n))),(.pv (.int .i64 (Nd.line n))),(.pv (.str (Str.s (Nd.name n)))),(.pv (.int .i64 (Nd.num n))),(.pv (.str (Str.s (Nd.elem n)))),(.pv (.sl 1 false (List.map enc (Nd.dims n)))),(.pv (.sl 1 false (List.map enc (Nd.data n)))),(.pv (.sl 2 false (List.map enc (Nd.sizes n)))),(.pv (.sl 1 false (List.map enc (Nd.ranks n)))),(.pv (.sl 10 false (List.map enc ks)))]))])):AtS [.seq (.ext 99 [])] Qe E 3 (fun st=>G st.heap) Wd 1 36 [(3,.ptr 0 0),(15,.pv (enc n.sizes)),(16,.pv (.int .i64 n.sizes.length)),(17,.pv (.int .i64 i)),(22,.pv (enc l.t)),(23,.pv (.int .i64 l.t.length)),(24,.pv (.int .i64 j))] [.obj (.box [.map 1]),.obj (.map (Qh m)),.obj (.box [.pv (enc n.kind),.pv (enc n.line),.pv (enc n.name),.pv (enc n.num),.pv (enc n.elem),.pv (enc n.dims),.pv (enc n.data),.pv (enc n.sizes),.pv (enc n.ranks),.pv (enc ks)])]:=Yr.mh (.lit (.ask (.req (.abs (Coef) (fun YY=>AV.pv (PV.rptr (PV.cells ((enc) YY)))) (.lit (.req (.lit (.nil)))))) (.lit (.nil)))) h (by kernel_rfl)
theorem c2m{G:Zp->Prop}(E:XJ)(n:Nd)(ks:List Tm)(m:List Str)(h:AtS [.seq (.ext 99 [])] Qe E 3 (fun st=>G st.heap) Wd 0 36 [(3,(.ptr 0 0)),(15,(.pv (.sl 2 false (List.map enc (Nd.sizes n))))),(16,(.pv (.int .i64 (↑(List.length (List.map enc (Nd.sizes n))):Int)))),(17,(.pv (.int .i64 0)))] [(.obj (.box [(.map 1)])),(.obj (.map (Qh m))),(.obj (.box [(.pv (.int .i64 (Nd.kind n))),(.pv (.int .i64 (Nd.line n))),(.pv (.str (Str.s (Nd.name n)))),(.pv (.int .i64 (Nd.num n))),(.pv (.str (Str.s (Nd.elem n)))),(.pv (.sl 1 false (List.map enc (Nd.dims n)))),(.pv (.sl 1 false (List.map enc (Nd.data n)))),(.pv (.sl 2 false (List.map enc (Nd.sizes n)))),(.pv (.sl 1 false (List.map enc (Nd.ranks n)))),(.pv (.sl 10 false (List.map enc ks)))]))]):Yr Qe E 3 (fun st=>G st.heap) (.inl Wd) [.seq (.ext 99 [])] ⟨Yv 36 0 [(3,.ptr 0 0),(4,.ptr 2 0)],[.obj (.box [.map 1]),.obj (.map (Qh m)),.obj (.box [.pv (enc n.kind),.pv (enc n.line),.pv (enc n.name),.pv (enc n.num),.pv (enc n.elem),.pv (enc n.dims),.pv (enc n.data),.pv (enc n.sizes),.pv (enc n.ranks),.pv (enc ks)])]⟩:=Yr.mh (.nil) h (by kernel_rfl)
end Go.Pl

namespace Go.Pl
open Go.RowKit
open Enc (enc dec is)
open EncL (encL decL isL)
set_option maxRecDepth 100000
def AU:IC:=(.seq (.reg [⟨(some 1),(.box 10 (.t 0)),0,none⟩,⟨(some 2),(.mv (.c .nilfn)),1,none⟩] none) (.seq (.reg [⟨(some 3),(.mkfn 74 [] [(.t 1)]),0,none⟩,⟨(some 2),(.mv (.t 3)),0,none⟩] none) .ret))
def AJ:List IRes:=[(.tmp 2)]
abbrev b1u:Nat:=4
def Ml:ZC:=Xi []
theorem c1l{G:AV×List AObj×List AObj->Prop}(n:Nd)(ks:List Tm)(h:G (((.fn 74 [] [(.ptr 0 0)]),([],[(.box [(.pv (.int .i64 (Nd.kind n))),(.pv (.int .i64 (Nd.line n))),(.pv (.str (Str.s (Nd.name n)))),(.pv (.int .i64 (Nd.num n))),(.pv (.str (Str.s (Nd.elem n)))),(.pv (.sl 1 false (List.map enc (Nd.dims n)))),(.pv (.sl 1 false (List.map enc (Nd.data n)))),(.pv (.sl 2 false (List.map enc (Nd.sizes n)))),(.pv (.sl 1 false (List.map enc (Nd.ranks n)))),(.pv (.sl 10 false (List.map enc ks)))])])))):Zc Ml 0 (YB 0 AJ G) AU [] (Vb 4 [.pv (.agg [enc n.kind,enc n.line,enc n.name,enc n.num,enc n.elem,enc n.dims,enc n.data,enc n.sizes,enc n.ranks,enc ks])] []):=Zc.to (.nil) h (by kernel_rfl)
def JP:IC:=(.seq (.reg [⟨(some 1),(.box 10 (.t 0)),0,none⟩,⟨(some 2),(.alloc (.bool false)),1,none⟩] none) (.seq (.reg [⟨(some 3),(.alloc (.int .i64 0)),0,none⟩,⟨none,(.store 1 (.t 3) (.c (.int .i64 0))),1,none⟩] none) (.seq (.seq (.reg [⟨(some 6),(.load true [(.int .i64),(.int .i64),.str,(.int .i64),.str,(.sl 1),(.sl 1),(.sl 2),(.sl 1),(.sl 10)] (.t 1)),0,none⟩,⟨(some 7),(.call (.c (.fn 42)) [(.t 6)]),0,none⟩] none) (.block 0 (.ext 0 [7,4,8,9,3,10,11,12,13,5,15,14,16,17,19,20,18,21,22,2]))) (.seq (.reg [⟨none,(.store 1 (.t 2) (.c (.bool true))),0,none⟩] none) .ret))))
def Kn:List IRes:=[(.cell false 1 2)]
abbrev c2x:Nat:=23
def QW:ZC:=Xi [(42,.own WA (VY 74)),(43,.pure (preT (fun x:Tm×Unit=>tW x.1)) (Zf (fun x:Tm×Unit=>Hl x.1)))]
theorem c4m{G:PV->Prop}(E:XJ)(n:Nd)(ks:List Tm)(h:(WA [(.pv (.agg [(.int .i64 (Nd.kind n)),(.int .i64 (Nd.line n)),(.str (Str.s (Nd.name n))),(.int .i64 (Nd.num n)),(.str (Str.s (Nd.elem n))),(.sl 1 false (List.map enc (Nd.dims n))),(.sl 1 false (List.map enc (Nd.data n))),(.sl 2 false (List.map enc (Nd.sizes n))),(.sl 1 false (List.map enc (Nd.ranks n))),(.sl 10 false (List.map enc ks))]))] [])=true∧(E 0 ⟨Yv 23 0 [(2,(.ptr 0 0)),(3,(.ptr 1 0)),(4,.undef),(5,.undef),(7,(.fn 74 [] [(.ptr 2 0)])),(8,.undef),(9,.undef),(10,.undef),(11,.undef),(12,.undef),(13,.undef),(14,.undef),(15,.undef),(16,.undef),(17,.undef),(18,.undef),(19,.undef),(20,.undef),(21,.undef),(22,.undef)],[(.obj (.box [(.pv (.bool false))])),(.obj (.box [(.pv (.int .i64 0))])),(.obj (.box [(.pv (.int .i64 (Nd.kind n))),(.pv (.int .i64 (Nd.line n))),(.pv (.str (Str.s (Nd.name n)))),(.pv (.int .i64 (Nd.num n))),(.pv (.str (Str.s (Nd.elem n)))),(.pv (.sl 1 false (List.map enc (Nd.dims n)))),(.pv (.sl 1 false (List.map enc (Nd.data n)))),(.pv (.sl 2 false (List.map enc (Nd.sizes n)))),(.pv (.sl 1 false (List.map enc (Nd.ranks n)))),(.pv (.sl 10 false (List.map enc ks)))]))]⟩ (fun x S'=>AfX QW E 0 (Za Kn G) JP 0 x S'))):Yr QW E 0 (Za Kn G) (.inl JP) [] (Ye 23 [.agg [enc n.kind,enc n.line,enc n.name,enc n.num,enc n.elem,enc n.dims,enc n.data,enc n.sizes,enc n.ranks,enc ks]]):=Yr.mp (.req (.keep (.nil))) h (by kernel_rfl)
theorem c1j{G:PV->Prop}(E:XJ)(n:Nd)(ks:List Tm)(c:Int)(h:G ((.bool true))):AfX QW E 0 (Za Kn G) JP 0 .normal ⟨Yv 23 0 [(2,.ptr 0 0),(3,.ptr 1 0)],[.obj (.box [.pv (.bool false)]),.obj (.box [.pv (.int .i64 c)])]⟩:=Yr.mp (.nil) h (by kernel_rfl)
theorem b6k{G:PV->Prop}(E:XJ)(n:Nd)(ks:List Tm)(c:Int)(rest:List Slot)(h:G ((.bool false))):AfX QW E 0 (Za Kn G) JP 0 .ret ⟨Yv 23 0 [(2,.ptr 0 0),(3,.ptr 1 0)],(.obj (.box [.pv (.bool false)]):: .obj (.box [.pv (.int .i64 c)])::rest)⟩:=Yr.mp (.nil) h (by kernel_rfl)
def Dw:IC:=(.seq (.reg [⟨(some 4),(.alloc (.agg [(.int .i64 0),(.int .i64 0),(.str []),(.int .i64 0),(.str []),(.sl 0 true []),(.sl 0 true []),(.sl 0 true []),(.sl 0 true []),(.sl 0 true [])])),0,none⟩,⟨none,(.store 10 (.t 4) (.t 8)),1,none⟩] none) (.reg [⟨(some 5),(.mv (.t 9)),0,none⟩] none))
def b7a:ZC:=Xi [(42,.own WA (VY 74)),(43,.pure (preT (fun x:Tm×Unit=>tW x.1)) (Zf (fun x:Tm×Unit=>Hl x.1)))]
theorem c2e{G:Zp->Prop}(E:XJ)(n:Nd)(ks:List Tm)(c v:Int)(h:E 99 ⟨Yv 23 0 [(2,(.ptr 0 0)),(3,(.ptr 1 0)),(4,(.ptr 2 0)),(5,(.pv (.int .i64 v)))],[(.obj (.box [(.pv (.bool false))])),(.obj (.box [(.pv (.int .i64 c))])),(.obj (.box [(.pv (.int .i64 (Nd.kind n))),(.pv (.int .i64 (Nd.line n))),(.pv (.str (Str.s (Nd.name n)))),(.pv (.int .i64 (Nd.num n))),(.pv (.str (Str.s (Nd.elem n)))),(.pv (.sl 1 false (List.map enc (Nd.dims n)))),(.pv (.sl 1 false (List.map enc (Nd.data n)))),(.pv (.sl 2 false (List.map enc (Nd.sizes n)))),(.pv (.sl 1 false (List.map enc (Nd.ranks n)))),(.pv (.sl 10 false (List.map enc ks)))]))]⟩ (fun x S'=>AfX b7a E 2 (fun st=>G st.heap) Dw 99 x S')):Yr b7a E 2 (fun st=>G st.heap) (.inl Dw) [.seq (.ext 99 [2,3,4,5])] ⟨Yv 23 0 [(2,.ptr 0 0),(3,.ptr 1 0),(8,.pv (.agg [enc n.kind,enc n.line,enc n.name,enc n.num,enc n.elem,enc n.dims,enc n.data,enc n.sizes,enc n.ranks,enc ks])),(9,.pv (.int .i64 v))],[.obj (.box [.pv (.bool false)]),.obj (.box [.pv (.int .i64 c)])]⟩:=Yr.mh (.nil) h (by kernel_rfl)
def Dy:IC:=(.block 1 (.seq (.reg [⟨(some 10),(.load false [(.int .i64)] (.t 3)),0,none⟩,⟨(some 11),(.bin .num .add (.t 10) (.c (.int .i64 1))),0,none⟩,⟨none,(.store 1 (.t 3) (.t 11)),0,none⟩] none) (.seq (.reg [⟨(some 12),(.load false [(.int .i64)] (.t 3)),0,none⟩,⟨(some 13),(.bin .num .gtr (.t 12) (.c (.int .i64 400))),0,none⟩,⟨(some 14),(.mv (.t 13)),0,none⟩,⟨(some 15),(.mv (.t 5)),0,(some (14,false))⟩,⟨(some 16),(.bin .num .gtr (.t 15) (.c (.int .i64 40))),0,(some (14,false))⟩,⟨(some 17),(.pick (.t 14) (.c (.bool true)) (.t 16)),0,none⟩,⟨(some 18),(.mv (.t 17)),0,none⟩,⟨(some 19),(.load true [(.int .i64),(.int .i64),.str,(.int .i64),.str,(.sl 1),(.sl 1),(.sl 2),(.sl 1),(.sl 10)] (.t 4)),0,(some (18,false))⟩,⟨(some 20),(.call (.c (.fn 43)) [(.t 19)]),0,(some (18,false))⟩,⟨(some 21),(.un .not (.t 20)),2,(some (18,false))⟩,⟨(some 22),(.pick (.t 18) (.c (.bool true)) (.t 21)),2,none⟩] none) (.cond (.t 22) (.seq (.reg [⟨none,(.store 1 (.t 2) (.c (.bool false))),0,none⟩] none) .ret) .skip))))
def b7s:ZC:=Xi [(42,.own WA (VY 74)),(43,.pure (preT (fun x:Tm×Unit=>tW x.1)) (Zf (fun x:Tm×Unit=>Hl x.1)))]
theorem b9z{G:Zp->Prop}(E:XJ)(n:Nd)(ks:List Tm)(c v:Int)(h:if (decide (IntKind.wrap IntKind.i64 (c+1)>400))=true then G ([(.obj (.box [(.pv (.bool false))])),(.obj (.box [(.pv (.int .i64 (IntKind.wrap IntKind.i64 (c+1))))])),(.obj (.box [(.pv (.int .i64 (Nd.kind n))),(.pv (.int .i64 (Nd.line n))),(.pv (.str (Str.s (Nd.name n)))),(.pv (.int .i64 (Nd.num n))),(.pv (.str (Str.s (Nd.elem n)))),(.pv (.sl 1 false (List.map enc (Nd.dims n)))),(.pv (.sl 1 false (List.map enc (Nd.data n)))),(.pv (.sl 2 false (List.map enc (Nd.sizes n)))),(.pv (.sl 1 false (List.map enc (Nd.ranks n)))),(.pv (.sl 10 false (List.map enc ks)))])),.fresh,.fresh])else(if (decide (v>40))=true then G ([(.obj (.box [(.pv (.bool false))])),(.obj (.box [(.pv (.int .i64 (IntKind.wrap IntKind.i64 (c+1))))])),(.obj (.box [(.pv (.int .i64 (Nd.kind n))),(.pv (.int .i64 (Nd.line n))),(.pv (.str (Str.s (Nd.name n)))),(.pv (.int .i64 (Nd.num n))),(.pv (.str (Str.s (Nd.elem n)))),(.pv (.sl 1 false (List.map enc (Nd.dims n)))),(.pv (.sl 1 false (List.map enc (Nd.data n)))),(.pv (.sl 2 false (List.map enc (Nd.sizes n)))),(.pv (.sl 1 false (List.map enc (Nd.ranks n)))),(.pv (.sl 10 false (List.map enc ks)))])),.fresh,.fresh])else((Go.Pl.preT (fun(x:Tm×Unit)=>tW x.1) [(.agg [(.int .i64 (Nd.kind n)),(.int .i64 (Nd.line n)),(.str (Str.s (Nd.name n))),(.int .i64 (Nd.num n)),(.str (Str.s (Nd.elem n))),(.sl 1 false (List.map enc (Nd.dims n))),(.sl 1 false (List.map enc (Nd.data n))),(.sl 2 false (List.map enc (Nd.sizes n))),(.sl 1 false (List.map enc (Nd.ranks n))),(.sl 10 false (List.map enc ks))])])=true∧(∃ y0:Bool,AV.pv (Zf (fun(x:Tm×Unit)=>Hl x.1) [(.agg [(.int .i64 (Nd.kind n)),(.int .i64 (Nd.line n)),(.str (Str.s (Nd.name n))),(.int .i64 (Nd.num n)),(.str (Str.s (Nd.elem n))),(.sl 1 false (List.map enc (Nd.dims n))),(.sl 1 false (List.map enc (Nd.data n))),(.sl 2 false (List.map enc (Nd.sizes n))),(.sl 1 false (List.map enc (Nd.ranks n))),(.sl 10 false (List.map enc ks))])])=AV.pv (enc y0)∧(if (!y0)=true then G ([(.obj (.box [(.pv (.bool false))])),(.obj (.box [(.pv (.int .i64 (IntKind.wrap IntKind.i64 (c+1))))])),(.obj (.box [(.pv (.int .i64 (Nd.kind n))),(.pv (.int .i64 (Nd.line n))),(.pv (.str (Str.s (Nd.name n)))),(.pv (.int .i64 (Nd.num n))),(.pv (.str (Str.s (Nd.elem n)))),(.pv (.sl 1 false (List.map enc (Nd.dims n)))),(.pv (.sl 1 false (List.map enc (Nd.data n)))),(.pv (.sl 2 false (List.map enc (Nd.sizes n)))),(.pv (.sl 1 false (List.map enc (Nd.ranks n)))),(.pv (.sl 10 false (List.map enc ks)))])),.fresh,.fresh])else(E 99 ⟨Yv 23 0 [],[(.obj (.box [(.pv (.bool false))])),(.obj (.box [(.pv (.int .i64 (IntKind.wrap IntKind.i64 (c+1))))])),(.obj (.box [(.pv (.int .i64 (Nd.kind n))),(.pv (.int .i64 (Nd.line n))),(.pv (.str (Str.s (Nd.name n)))),(.pv (.int .i64 (Nd.num n))),(.pv (.str (Str.s (Nd.elem n)))),(.pv (.sl 1 false (List.map enc (Nd.dims n)))),(.pv (.sl 1 false (List.map enc (Nd.data n)))),(.pv (.sl 2 false (List.map enc (Nd.sizes n)))),(.pv (.sl 1 false (List.map enc (Nd.ranks n)))),(.pv (.sl 10 false (List.map enc ks)))]))]⟩ (fun x S'=>AfX b7s E 3 (fun st=>G st.heap) Dy 99 x S'))))))):Yr b7s E 3 (fun st=>G st.heap) (.inl Dy) [.seq (.ext 99 [])] ⟨Yv 23 0 [(2,.ptr 0 0),(3,.ptr 1 0),(4,.ptr 2 0),(5,.pv (.int .i64 v))],[.obj (.box [.pv (.bool false)]),.obj (.box [.pv (.int .i64 c)]),.obj (.box [.pv (enc n.kind),.pv (enc n.line),.pv (enc n.name),.pv (enc n.num),.pv (enc n.elem),.pv (enc n.dims),.pv (enc n.data),.pv (enc n.sizes),.pv (enc n.ranks),.pv (enc ks)])]⟩:=Yr.mh (.lit (.lit (.ask (.lit (.lit (.lit (.lit (.lit (.lit (.lit (.nil)))))))) (.lit (.lit (.lit (.ask (.lit (.lit (.lit (.lit (.nil))))) (.lit (.req (.abs (Bool) (fun YY=>AV.pv (enc YY)) (.lit (.lit (.ask (.nil) (.nil)))))))))))))) h (by kernel_rfl)
end Go.Pl

namespace Go.Pl
open Go.RowKit
open Enc (enc dec is)
open EncL (encL decL isL)
theorem b2o{s:Str}:(s=⟨[]⟩) ↔ s.s=[]:=by cases s;simp
theorem b3b(n:Nd):Z8 n 0 0=TP n:=by
 unfold Z8 TP
 cases n.sizes <;> cases n.ranks <;> simp <;> omega
theorem b1x(k:Nat):((k:Int)=1) ↔ k=1:=by omega
theorem b6c(k:Nat):((k:Int)=2) ↔ k=2:=by omega
theorem b6a(k:Nat):((1:Int)<=(k:Int)) ↔ 1<=k:=by omega
theorem a7e(k:Nat):((k:Int)<=16) ↔ k<=16:=by omega
theorem b0o(n:Nd):Z8 n 1 0=(decide (n.sizes.length<=1)&&n.sizes.all Zw&&n.ranks.isEmpty):=by
 unfold Z8
 rw[show decide ((n.sizes.length:Int)<=1)=decide (n.sizes.length<=1)from decide_eq_decide.2 (by omega),show decide ((n.ranks.length:Int)<=0)=n.ranks.isEmpty by cases n.ranks <;> simp <;> omega,Bool.and_assoc,Bool.and_assoc,Bool.and_comm n.ranks.isEmpty]
set_option maxHeartbeats 2000000 in
theorem Ec: ∀ x:Tm×Unit,tW x.1=true->Zc GG 0 (Za KZ (Zk (Hl x.1))) Dr [] (Ye a5y (encL x)):=by
 rintro⟨⟨n,ks⟩,⟨⟩⟩ ht
 rw[<- Yh]
 show Zc GG 0 (Za KZ (Zk (Vl n ks.length))) _ _ _
 have hnm:decide (n.name.s.length<=1048576)=true:=decide_eq_true (ndB ht).name
 have har:Qk (Q7 n)=true:=a6u ht
 have leaf : ∀ b:Bool,Vl n ks.length=b->Zk (Vl n ks.length) (.bool b):=fun b h=>Z0 h.symm
 refine b4b n ks ?_
 refine Yp (fun h1=>leaf _ ?_) fun h1=>Yp (fun h2=>leaf _ ?_) fun h2=> ?_
 ·unfold Vl;rw[decide_eq_false (by omega)];rfl
 ·unfold Vl;rw[decide_eq_false (show ¬ n.line<=10000 by omega)];simp
 have hk:Vl n ks.length=Us n ks.length:=by
  unfold Vl;rw[decide_eq_true (by omega),decide_eq_true (show n.line<=10000 by omega)];simp
 rw[hk]at leaf ⊢
 repeat' (first
  | refine ZU (fun h=> ?_) (fun h=> ?_)
  | refine Yp (fun h=> ?_) (fun h=> ?_)
  | refine WC (fun h=> ?_) (fun h=> ?_)
  | refine⟨Ze (n.name,()) rfl hnm,Zg (n.name,()) rfl ?_⟩
  | refine⟨Ze (.mk n ks,0,0,()) (Vz n ks 0 0) ht,Zg (.mk n ks,0,0,()) (Vz n ks 0 0) ?_⟩
  | refine⟨Ze (.mk n ks,1,0,()) (Vz n ks 1 0) ht,Zg (.mk n ks,1,0,()) (Vz n ks 1 0) ?_⟩
  | refine⟨Ze (.mk n ks,()) (Yh n ks) ht,Zg (.mk n ks,()) (Yh n ks) ?_⟩
  | refine⟨Ze (Q7 n,()) rfl har,Zg (Q7 n,()) rfl ?_⟩
  | refine leaf _ ?_)
 all_goals clear ht hnm har leaf hk
 all_goals (unfold Us Ta;simp_all[b2o,Tm.nd,Tm.ks,b3b,Q7,b1x,b6c,b6a,a7e,b0o])
 intro hk
 omega
end Go.Pl

namespace Go.Proofs.YtbfjgcjjaoaaaaaGreatDoor
open Go.RowKit Go.Pl
open Enc (enc dec is)
open EncL (encL decL isL)
set_option maxRecDepth 100000
def ndC(n:Nd)(ks:List Tm):List PV:=[enc n.kind,enc n.line,enc n.name,enc n.num,enc n.elem,enc n.dims,enc n.data,enc n.sizes,enc n.ranks,enc ks]
abbrev OP:ZC:=Xi []
def eW(L:List (Nat×AV)):List AV:=Yv 28 0 L
def wk0(n:Nd)(ks:List Tm)(lev:Int)(l:Nat):List (Nat×AV):=[(0,.pv (.agg (ndC n ks))),(1,.pv (.int .i64 lev)),(2,.yld l)]
def wk1(n:Nd)(ks:List Tm)(lev:Int)(l:Nat):List (Nat×AV):=wk0 n ks lev l++[(3,.ptr 0 0),(6,.pv (.bool false))]
def wk2(n:Nd)(ks:List Tm)(lev:Int)(l:Nat):List (Nat×AV):=wk1 n ks lev l++[(9,.yld l),(10,.pv (.agg (ndC n ks))),(11,.pv (.int .i64 lev))]
def wk3(n:Nd)(ks:List Tm)(lev:Int)(l:Nat)(b:Bool):List (Nat×AV):=wk2 n ks lev l++[(12,.pv (.bool b))]
def wk4(n:Nd)(ks:List Tm)(lev:Int)(l:Nat)(b:Bool):List (Nat×AV):=wk3 n ks lev l b++[(13,.pv (.bool (!b)))]
def wk5(n:Nd)(ks:List Tm)(lev:Int)(l:Nat):List (Nat×AV):=wk4 n ks lev l true++[(14,.ptr 0 9),(15,.pv (enc ks)),(16,.pv (.int .i64 (ks.map enc).length)),(17,.pv (.int .i64 0))]
def wl0(ks:List Tm)(lev:Int)(l:Nat)(i:Int):List (Nat×AV):=[(17,.pv (.int .i64 i)),(16,.pv (.int .i64 (ks.map enc).length)),(15,.pv (enc ks)),(1,.pv (.int .i64 lev)),(2,.yld l)]
def wl1(ks:List Tm)(lev:Int)(l:Nat)(i:Int):List (Nat×AV):=wl0 ks lev l i++[(18,.pv (.bool (decide (i<((ks.map enc).length:Int)))))]
def wl5(ks:List Tm)(lev:Int)(l:Nat)(i:Int)(n:Nd)(kk:List Tm):List (Nat×AV):=wl1 ks lev l i++[(19,.pv (.rptr (ndC n kk))),(20,.pv (.agg (ndC n kk))),(8,.ptr 0 0)]
def wl6(ks:List Tm)(lev:Int)(l:Nat)(i:Int)(n:Nd)(kk:List Tm):List (Nat×AV):=wl5 ks lev l i n kk++[(21,.pv (.agg (ndC n kk))),(22,.pv (.int .i64 lev)),(23,.pv (.int .i64 (IntKind.i64.wrap (lev+1)))),(24,.yld l)]
def wl7(ks:List Tm)(lev:Int)(l:Nat)(i:Int)(b:Bool):List (Nat×AV):=wl0 ks lev l i++[(25,.pv (.bool b))]
def wl8(ks:List Tm)(lev:Int)(l:Nat)(i:Int)(b:Bool):List (Nat×AV):=wl7 ks lev l i b++[(26,.pv (.bool (!b)))]
def wl9(ks:List Tm)(lev:Int)(l:Nat)(i:Int):List (Nat×AV):=[(27,.pv (.int .i64 (IntKind.i64.wrap (i+1)))),(17,.pv (.int .i64 (IntKind.i64.wrap (i+1)))),(16,.pv (.int .i64 (ks.map enc).length)),(15,.pv (enc ks)),(1,.pv (.int .i64 lev)),(2,.yld l)]
def bx(n:Nd)(ks:List Tm):Zp:=[.obj (.box ((ndC n ks).map .pv))]
theorem Ma{T:ZC}{base d L sz:Nat}{env:List AV}{σ:Zp}{x i:IOp}{t:Bool}{xs:List PV}{n:Nat}{k:IntKind}{p:PV}{ps:List PI}(hx:ev env x = .pv (.sl sz t xs))(hi:ev env i = .pv (.int k (n:Int)))(hp:xs[n]? = some p):
  Um T base (⟨some d,.iaddr sz x i,L,none⟩::ps) ⟨env,σ⟩=Um T base ps ⟨env.set d (.pv (.rptr p.cells)),σ⟩:=by
 have hlt:n<xs.length:=(List.getElem?_eq_some_iff.1 hp).1
 have hg:xs[n]=p:=(List.getElem?_eq_some_iff.1 hp).2
 have h:(Xb T (base+L) env (.iaddr sz x i)).run σ=some (.pv (.rptr p.cells),σ):=by
  simp only[Xb,YG,hx,hi]
  simp[HM.run,hlt,hg]
 show(Jv T base ⟨some d,.iaddr sz x i,L,none⟩ ⟨env,σ⟩).bind (Um T base ps)=_
 simp only[Jv,YT,h,Option.map_some,Option.bind_some,Ya]
set_option maxHeartbeats 1000000 in
theorem c1d: ∃ (o0 o1 o2 o3 o4 o5 o6 o7 o8 o9:Array Oper) (a1 b1 a6 b6:List Oper) (y c:Oper) (t1 t2:Array TypeId),
  Tryz.f75.body=some ((Code.region 0 o0 false).seq (((Code.region 1 o1 false).seq (Code.cond (.tmp 13) ((Code.region 2 o2 false).seq .ret) .skip)).seq (((Code.region 3 o3 false).seq (Code.block 0
   (Code.loop ((Code.region 4 o4 false).seq ((Code.cond (.tmp 18) .skip (.exit 0)).seq ((Code.block 1 ((Code.region 5 o5 false).seq ((Code.region 6 o6 false).seq (Code.cond (.tmp 26) ((Code.region 7 o7 false).seq .ret) .skip)))).seq (Code.region 8 o8 false))))))).seq ((Code.region 9 o9 false).seq .ret)))) ∧
  o1.toList=a1++y::b1∧y.op = .call {callee:=.value (.tmp 9),args:=#[.tmp 10,.tmp 11],argTypes:=t1}∧y.guard=none∧y.dst=some 12 ∧
  o6.toList=a6++c::b6∧c.op = .call {callee:=.value (.func 75),args:=#[.tmp 21,.tmp 23,.tmp 24],argTypes:=t2}∧c.guard=none∧c.dst=some 25 ∧
  (∀ n ks lev l,UC Tryz.prog OP o0 o0.toList ⟨eW (wk0 n ks lev l),[]⟩=some ⟨eW (wk1 n ks lev l),bx n ks⟩) ∧
  (∀ n ks lev l,UC Tryz.prog OP o1 a1 ⟨eW (wk1 n ks lev l),bx n ks⟩=some ⟨eW (wk2 n ks lev l),bx n ks⟩) ∧
  (∀ n ks lev l b,UC Tryz.prog OP o1 b1 ⟨eW (wk3 n ks lev l b),bx n ks⟩=some ⟨eW (wk4 n ks lev l b),bx n ks⟩) ∧
  (∀ L,UC Tryz.prog OP o2 o2.toList ⟨eW L,[]⟩=some ⟨(eW L).set 6 (.pv (.bool false)),[]⟩) ∧
  (∀ n ks lev l,UC Tryz.prog OP o3 o3.toList ⟨eW (wk4 n ks lev l true),bx n ks⟩=some ⟨eW (wk5 n ks lev l),bx n ks⟩) ∧
  (∀ ks lev l i,UC Tryz.prog OP o4 o4.toList ⟨eW (wl0 ks lev l i),[]⟩=some ⟨eW (wl1 ks lev l i),[]⟩) ∧
  (∀ ks lev l (i:Nat) n kk,ks[i]? = some (.mk n kk)->UC Tryz.prog OP o5 o5.toList ⟨eW (wl1 ks lev l i),[]⟩=some ⟨eW (wl5 ks lev l i n kk),bx n kk⟩) ∧
  (∀ ks lev l i n kk,UC Tryz.prog OP o6 a6 ⟨eW (wl5 ks lev l i n kk),bx n kk⟩=some ⟨eW (wl6 ks lev l i n kk),bx n kk⟩) ∧
  (∀ ks lev l i b,UC Tryz.prog OP o6 b6 ⟨eW (wl7 ks lev l i b),[]⟩=some ⟨eW (wl8 ks lev l i b),[]⟩) ∧
  (∀ L,UC Tryz.prog OP o7 o7.toList ⟨eW L,[]⟩=some ⟨(eW L).set 6 (.pv (.bool false)),[]⟩) ∧
  (∀ ks lev l i,UC Tryz.prog OP o8 o8.toList ⟨eW (wl0 ks lev l i),[]⟩=some ⟨eW (wl9 ks lev l i),[]⟩) ∧
  (∀ L,UC Tryz.prog OP o9 o9.toList ⟨eW L,[]⟩=some ⟨(eW L).set 6 (.pv (.bool true)),[]⟩):=by
 refine⟨_,_,_,_,_,_,_,_,_,_,[_,_,_],[_],[_,_,_,_],[_],_,_,_,_,rfl,rfl,rfl,rfl,rfl,rfl,rfl,rfl,rfl,?_,?_,?_,?_,?_,?_,?_,?_,?_,?_,?_,?_⟩
 ·intro n ks lev l;kernel_rfl
 ·intro n ks lev l;kernel_rfl
 ·intro n ks lev l b;kernel_rfl
 ·intro L;kernel_rfl
 ·intro n ks lev l;kernel_rfl
 ·intro ks lev l i;kernel_rfl
 ·intro ks lev l i n kk h
  unfold UC
  refine(Option.bind_eq_some_iff).2 ⟨_,(show YD _ _ _ _=some [⟨some 19,.iaddr 10 (.t 15) (.t 17),0,none⟩,⟨some 20,.load true [.int .i64,.int .i64,.str,.int .i64,.str,.sl 1,.sl 1,.sl 2,.sl 1,.sl 10] (.t 19),0,none⟩,⟨some 8,.alloc (.agg [.int .i64 0,.int .i64 0,.str [],.int .i64 0,.str [],.sl 0 true [],.sl 0 true [],.sl 0 true [],.sl 0 true [],.sl 0 true []]),0,none⟩,⟨none,.store 10 (.t 8) (.t 20),1,none⟩] by kernel_rfl),?_⟩
  have hk:(ks.map (enc:Tm->PV))[i]? = some (.agg (ndC n kk)):=by
   rw[List.getElem?_map,h,Option.map_some,ZX];rfl
  refine(Ma (t:=false) (xs:=ks.map enc) (k:=.i64) (n:=i) rfl rfl hk).trans ?_
  kernel_rfl
 ·intro ks lev l i n kk;kernel_rfl
 ·intro ks lev l i b;kernel_rfl
 ·intro L;kernel_rfl
 ·intro ks lev l i;kernel_rfl
 ·intro L;kernel_rfl
def encNd(x:Tm×Int):List PV:=[enc x.1,.int .i64 x.2]
def MS(J:Nat->ZG->(Nat->Prop)->World->Prop)(Jx:ZG->(Nat->Prop)->World->Prop)(k:Nat)(Φ:ZG)(X:Nat->Prop)(W:World)(e:Ending)(W':World):Prop:=
 ∃ Φ',Φ.le Φ'∧(∀ b,X b->W'.heap[b]? = W.heap[b]?)∧((e = .returned (.bool true)∧J k Φ' X W')∨(e = .returned (.bool false)∧Jx Φ' X W'))
theorem U6(a b:List Tm):ZF (a++b)=ZF a+ZF b:=by rw[Kb,Kb,Kb,List.map_append,List.sum_append]
theorem Ry(l:Nat)(a b:List Tm):ZK l (a++b)=ZK l a++ZK l b:=by rw[U4,U4,U4,List.flatMap_append]
theorem MW{ks:List Tm}{k:Tm}(h:k∈ks):ZY k<=ZF ks:=by
 induction ks with
 | nil=>cases h
 | cons a ks ih=>
  rw[ZF]
  rcases List.mem_cons.1 h with rfl|h
  ·omega
  ·have:=ih h;omega
theorem ES(t:Tm):1<=ZY t:=by cases t;rw[ZY];omega
theorem L9(ks:List Tm):ks.length<=ZF ks:=by
 induction ks with
 | nil=>simp
 | cons a ks ih=>have:=ES a;rw[ZF,List.length_cons];omega
theorem KN(n:Nd)(ks:List Tm):Me (bx n ks):=by
 intro l o h ty sz xs e
 subst e
 match l,h with
 | 0,h=>cases h
 | l+1,h=>simp[bx]at h
theorem Ul:Me []:=by
 intro l o h
 simp at h
theorem U5{Φ:ZG}{W:World}{a:Act}{env:List AV}(hg:GlobOK Φ)(hp:Xq Φ W)(he:YM (fun _ _=>none) Φ a.tmps env)(hd:a.defers=[]):XU (entry (fun _ _=>none) Φ [] W) ⟨env,[]⟩ a W:=⟨_,Φ,Vy hg hp,he,hd⟩
theorem WJ{μ':Mu}{Φ Φ':ZG}{σ':Zp}{W W':World}{X:Nat->Prop}(j1:Go.Pl.Good (entry (fun _ _=>none) Φ [] W) μ' Φ' σ' W')(hs:Me σ')(hx : ∀ b,X b->b<W.heap.size∧Φ b=none):
  Go.Pl.Steps X X Φ Φ' W W'∧(∀ b,X b->W'.heap[b]? = W.heap[b]?):=by
 obtain⟨h1,h2,h3⟩:=Av j1 hs hx
 exact⟨h1.drop fun b h=>.inl h,h2⟩
theorem UN{μ:Mu}{Φ:ZG}{a:Act}{env:List AV}{x:Operand}{y:IOp}{b:Bool}(h:YM μ Φ a.tmps env)(hx:ZR x=some y)(he:ev env y = .pv (.bool b)):a.eval x = .bool b:=by
 have:=ZE h hx
 rw[he]at this
 generalize a.eval x=v at this ⊢
 cases Z6 this
 rfl
theorem c1r{μ:Mu}{Φ:ZG}{a:Act}{env:List AV}{x:Operand}{y:IOp}{k:IntKind}{n:Int}(h:YM μ Φ a.tmps env)(hx:ZR x=some y)(he:ev env y = .pv (.int k n)):a.eval x = .int k n:=by
 have:=ZE h hx
 rw[he]at this
 generalize a.eval x=v at this ⊢
 cases Z6 this
 rfl
theorem NJ{μ:Mu}{Φ:ZG}{a:Act}{env:List AV}{x:Operand}{y:IOp}{l:Nat}(h:YM μ Φ a.tmps env)(hx:ZR x=some y)(he:ev env y = .yld l):a.eval x = .func (.yield l) #[] #[]:=by
 have:=ZE h hx
 rw[he]at this
 generalize a.eval x=v at this ⊢
 cases this
 rfl
theorem Om{μ:Mu}{Φ:ZG}{a:Act}{env:List AV}{x:Operand}{y:IOp}{p:PV}(h:YM μ Φ a.tmps env)(hx:ZR x=some y)(he:ev env y = .pv p):RP Φ (a.eval x) p:=by
 have:=ZE h hx
 rw[he]at this
 exact Z6 this
theorem b8z{id:Nat}{ops:Array Oper}{b:Bool}{Q:YA}{a:Act}{w:World}{Φ:ZG}{X:Nat->Prop}{J:ZG->(Nat->Prop)->World->Prop}(hJ:JOK J)(hj:J Φ X w)(hd:a.defers=[])(hsz:a.tmps.size=28)
  (h : ∀ L,UC Tryz.prog OP ops ops.toList ⟨eW L,[]⟩=some ⟨(eW L).set 6 (.pv (.bool b)),[]⟩)
  (hQ : ∀ (a':Act) w' Φ',a'.defers=[]->a'.tmps.getD 6 undef = .bool b->Φ.le Φ'->(∀ b,X b->w'.heap[b]? = w.heap[b]?)->J Φ' X w'->Q .ret a' w'):((Code.region id ops false).seq .ret).wpIn (Yu none) 4 Tryz.prog Q a w:=by
 refine wpIn_seq (He Zj (h []) (U5 (hJ.glob hj) (hJ.phi hj) (Tq (L:=[]) (n:=28) hsz (fun p hp=>by cases hp)) hd) ?_)
 rintro a' w' ⟨μ',Φ',hg,he,hd'⟩
 refine wpIn_ret ?_
 obtain⟨s1,s2⟩:=WJ hg Ul (fun b hb=>hJ.out hj hb)
 exact hQ a' w' Φ' hd' (UN (x:=.tmp 6) (y:=.t 6) he rfl (by cases b <;> kernel_rfl)) hg.Φle s2 (hJ.step hj s1)
theorem c3m{Φ:ZG}{v:Value}{n:Nd}{ks:List Tm}{lev:Nat}{l:Nat}(hv:RP Φ v (.agg (ndC n ks))):YM (fun _ _=>none) Φ (#[v,.int .i64 lev,.func (.yield l) #[] #[]]++Array.replicate 25 undef) (eW (wk0 n ks lev l)):=by
 refine Tq (by simp) ?_
 intro q hq u hu
 simp only[wk0,List.mem_cons,List.not_mem_nil,or_false]at hq
 rcases hq with rfl|rfl|rfl
 ·simp[Array.getElem?_append]at hu
  subst hu
  exact .pv _ _ hv
 ·simp[Array.getElem?_append]at hu
  subst hu
  exact .pv _ _ (.int _ _)
 ·simp[Array.getElem?_append]at hu
  subst hu
  exact .yld l
theorem MK{μ:Mu}{Φ:ZG}{t:Array Value}{L:List (Nat×AV)}(h:YM μ Φ t (eW L)):t.size=28:=(a6f (n:=28) h).1
set_option maxHeartbeats 4000000 in
theorem b5s{l:Nat}{J:Nat->ZG->(Nat->Prop)->World->Prop}{Jx:ZG->(Nat->Prop)->World->Prop}{xs:List (Tm×Int)}(hJok : ∀ k,JOK (J k))(hJxok:JOK Jx)(hY:FR Tryz.prog l encNd xs J Jx):
  ∀ (m:Nat) (t:Tm),SizeOf.sizeOf t<m-> ∀ (lev k:Nat) (Φ:ZG) (X:Nat->Prop) (W:World) (v:Value),J k Φ X W->RP Φ v (enc t)->(∀ i x,(ZM lev t)[i]? = some x->xs[k+i]? = some x)->lev+ZY t<=4611686018427387904 ->
   Calls Tryz.prog 75 #[v,.int .i64 lev,.func (.yield l) #[] #[]] W (MS J Jx (k+ZY t) Φ X W):=by
 intro m
 induction m with
 | zero=>intro t h;omega
 | succ m ih=>
  intro t ht lev k Φ X W v hj hv hx hlev
  obtain⟨n,ks⟩:=t
  obtain⟨o0,o1,o2,o3,o4,o5,o6,o7,o8,o9,a1,b1,a6,b6,y,c,t1,t2,hbody,e1,y1,y2,y3,e6,c1,c2,c3,h0,h1,h1b,h2,h3,h4,h5,h6,h6b,h7,h8,h9⟩:=c1d
  rw[ZX]at hv
  refine callsIn_wide.1 (callsIn_of_wp (F:=Fence.wide) (n:=4) Tryz.func75 hbody trivial ?_ rfl)
  have hE0:YM (fun _ _=>none) Φ (#[v,.int .i64 lev,.func (.yield l) #[] #[]]++Array.replicate 25 undef) (eW (wk0 n ks lev l)):=c3m hv
  have hX0 : ∀ b,X b->b<W.heap.size∧Φ b=none:=fun b hb=>(hJok k).out hj hb
  refine wpIn_seq (He (nn:=4) Zj (h0 n ks lev l) (U5 ((hJok k).glob hj) ((hJok k).phi hj) hE0 rfl) ?_)
  intro a w hr
  refine wpIn_seq (wpIn_seq (wpIn_region_list ?_))
  rw[e1]
  refine Kv Zj (fun o ho=>by rw[e1];simp[ho]) (h1 n ks lev l) hr ?_
  rintro a2 w2 ⟨μ2,Φ2,hg2,he2,hd2⟩
  obtain⟨s2,k2,n2⟩:=Av hg2 (KN n ks) hX0
  have hj2:=(hJok k).step hj s2
  have hx0:xs[k]? = some (.mk n ks,(lev:Int)):=hx 0 _ (by rw[ZM];rfl)
  have r10:RP Φ2 (a2.eval (.tmp 10)) (enc (Tm.mk n ks)):=by
   rw[ZX]
   exact Om he2 (y:=.t 10) rfl (by kernel_rfl)
  have r11:RP Φ2 (a2.eval (.tmp 11)) (.int .i64 lev):=Om he2 (y:=.t 11) rfl (by kernel_rfl)
  have hvs:XC Φ2 (#[a2.eval (.tmp 10),a2.eval (.tmp 11)]:Array Value).toList (encNd (.mk n ks,(lev:Int))):=c1g r10 (c1g r11 Fv)
  refine a7q y1 y2 y3 (NJ he2 (y:=.t 9) rfl (by kernel_rfl)) (vs:=#[a2.eval (.tmp 10),a2.eval (.tmp 11)]) (by simp) (hY 3 k _ Φ2 _ w2 _ hx0 hj2 hvs) ?_
  rintro e w3 ⟨Φ3,hle3,hkeep3,hres⟩
  -- both answers
  have both : ∀ (b:Bool) (JJ:ZG->(Nat->Prop)->World->Prop),JOK JJ->JJ Φ3 (fun b=>X b∨JO μ2 (bx n ks) b) w3-> 
    XU (entry μ2 Φ3 (bx n ks) w3) ⟨eW (wk3 n ks lev l b),bx n ks⟩ (a2.put (some 12) (.bool b)) w3:=by
   intro b JJ hJJ hjj
   refine⟨μ2,Φ3,hg2.moved (hJJ.glob hjj) hle3 (hJJ.phi hjj) (fun q hq=>hkeep3 q (.inr hq)) (fun q hq=>(hJJ.out hjj (.inr hq)).2) (KN n ks),?_,by rw[Xn];exact hd2⟩
   have:=Qb (d:=some 12) (he2.mono (.refl _) hle3) (.pv _ _ (.bool b))
   exact this
  have fin : ∀ (b:Bool) (a':Act) (w':World) (Φ':ZG),a'.defers=[]->a'.tmps.getD 6 undef = .bool b->(MS J Jx (k+ZY (.mk n ks)) Φ X W (.returned (.bool b)) w')->bodyPost Tryz.prog Tryz.f75 (MS J Jx (k+ZY (.mk n ks)) Φ X W) .ret a' w':=by
   intro b a' w' Φ' hd h6 hp
   refine bodyPost_ret (results_tmp rfl _ _ _) hd ?_
   rw[h6]
   exact hp
  rcases hres with ⟨rfl,hj3⟩|⟨rfl,hj3⟩
  ·refine⟨_,rfl,?_⟩
   rw[<- List.append_nil b1]
   refine Kv Zj (fun o ho=>by rw[e1];simp[ho]) (h1b n ks lev l true) (both true _ (hJok _) hj3) ?_
   intro a4 w4 hr4
   have he4:=hr4
   obtain⟨μ4,Φ4,hg4,he4,hd4⟩:=he4
   refine wpIn_cond (t:=false) (UN (x:=.tmp 13) (y:=.t 13) he4 rfl (by kernel_rfl)) (wpIn_skip ?_)
   refine wpIn_seq (wpIn_seq (He (nn:=4) Zj (h3 n ks lev l) hr4 ?_))
   rintro a5 w5 ⟨μ5,Φ5,hg5,he5,hd5⟩
   have hX3 : ∀ b,X b->b<w3.heap.size∧Φ3 b=none:=fun b hb=>(hJok _).out hj3 (.inl hb)
   obtain⟨s5,k5⟩:=J2 hg5 (KN n ks) hX3 n2
   have hj5:=(hJok _).step hj3 (s5.drop (Y:=X) fun b h=>.inl h)
   have hk5 : ∀ b,X b->w5.heap[b]? = W.heap[b]? :=fun b hb=>(k5 b hb).trans ((hkeep3 b (.inl hb)).trans (k2 b hb))
   have hle5:Φ.le Φ5:=hg2.Φle.trans (hle3.trans hg5.Φle)
   have he5':YM (fun _ _=>none) Φ5 a5.tmps (eW (wl0 ks lev l 0)):=b1z (n:=28) he5 (.refl _) (by
    intro p hp
    simp only[wl0,List.mem_cons,List.not_mem_nil,or_false]at hp
    rcases hp with rfl|rfl|rfl|rfl|rfl <;> exact⟨by simp,rfl,rfl⟩)
   clear both hr4 hg4 he4 hd4 hE0 hr hg2 he2 hd2 r10 r11 hvs
   refine wpIn_block (wpIn_loop_ghost (fun(z:Nat) (a:Act) (w:World)=> ∃ (i:Nat) (Φ':ZG),z=ks.length - i∧i<=ks.length∧Φ.le Φ'∧(∀ b,X b->w.heap[b]? = W.heap[b]?)∧J (k+1+ZF (ks.take i)) Φ' X w∧YM (fun _ _=>none) Φ' a.tmps (eW (wl0 ks lev l i))∧a.defers=[]) _
    ⟨0,Φ5,rfl,Nat.zero_le _,hle5,hk5,hj5,he5',hd5⟩ ?_)
   clear hj5 hk5 hle5 he5' hd5 s5 k5 hg5 he5
   rintro z a w ⟨i,Φi,rfl,hi,hle,hk,hj,he,hd⟩
   have hXi : ∀ b,X b->b<w.heap.size∧Φi b=none:=fun b hb=>(hJok _).out hj hb
   refine wpIn_seq (He (nn:=4) Zj (h4 ks lev l i) (U5 ((hJok _).glob hj) ((hJok _).phi hj) he hd) ?_)
   intro a7 w7 hr7
   have hr7':=hr7
   obtain⟨μ7,Φ7,hg7,he7,hd7⟩:=hr7'
   by_cases hlt:i<ks.length
   ·have hb:decide ((i:Int)<((ks.map (enc:Tm->PV)).length:Int))=true:=by simpa using hlt
    refine wpIn_seq (wpIn_cond (t:=true) (UN (x:=.tmp 18) (y:=.t 18) he7 rfl (by rw[<- hb];kernel_rfl)) (wpIn_skip ?_))
    obtain⟨kn,kk,hkk⟩ : ∃ kn kk,ks[i]? = some (.mk kn kk):=by
     cases hki:ks[i]with
     | mk kn kk=>exact⟨kn,kk,by rw[List.getElem?_eq_getElem hlt,hki]⟩
    refine wpIn_seq (wpIn_block (wpIn_seq (He (nn:=4) Zj (h5 ks lev l i kn kk hkk) hr7 ?_)))
    intro a8 w8 hr8
    refine wpIn_seq (wpIn_region_list ?_)
    rw[e6]
    refine Kv Zj (fun o ho=>by rw[e6];simp[ho]) (h6 ks lev l i kn kk) hr8 ?_
    rintro a9 w9 ⟨μ9,Φ9,hg9,he9,hd9⟩
    obtain⟨s9,k9⟩:=WJ hg9 (KN kn kk) hXi
    have hj9:=(hJok _).step hj s9
    have hmem:Tm.mk kn kk∈ks:=List.mem_of_getElem? hkk
    have hsz:=b9o (n:=n) hmem
    have hdm:=MW hmem
    have hdp:ZY (.mk n ks)=ZF ks+1:=by rw[ZY]
    have hkl:=L9 ks
    have hcut:ks=ks.take i++(.mk kn kk)::ks.drop (i+1):=by
     have h:=List.getElem?_eq_some_iff.1 hkk
     obtain⟨h1,h2⟩:=h
     rw[<- h2,List.getElem_cons_drop,List.take_append_drop]
    have r21:RP Φ9 (a9.eval (.tmp 21)) (enc (Tm.mk kn kk)):=by
     rw[ZX]
     exact Om he9 (y:=.t 21) rfl (by kernel_rfl)
    have e23:a9.eval (.tmp 23) = .int .i64 ((lev+1:Nat):Int):=by
     have:=c1r (x:=.tmp 23) (y:=.t 23) he9 rfl (by kernel_rfl:_=AV.pv (.int .i64 (IntKind.i64.wrap ((lev:Int)+1))))
     rw[this,next (by omega)]
    have e24:a9.eval (.tmp 24) = .func (.yield l) #[] #[]:=NJ he9 (y:=.t 24) rfl (by kernel_rfl)
    have hxk : ∀ j x,(ZM (lev+1) (.mk kn kk))[j]? = some x->xs[k+1+ZF (ks.take i)+j]? = some x:=by
     intro j x hjx
     have:(ZM lev (.mk n ks))[1+ZF (ks.take i)+j]? = some x:=by
      rw[ZM,show 1+ZF (ks.take i)+j=(ZF (ks.take i)+j)+1 by omega,List.getElem?_cons_succ,hcut,Ry,ZK,<- hcut,<- KF (lev+1) (ks.take i),
       List.getElem?_append_right (by omega),Nat.add_sub_cancel_left,List.getElem?_append_left (List.getElem?_eq_some_iff.1 hjx).1,hjx]
     have:=hx _ _ this
     rw[<- this]
     congr 1
     omega
    have hcall:=ih (.mk kn kk) (by omega) (lev+1) (k+1+ZF (ks.take i)) Φ9 X w9 _ hj9 r21 hxk (by omega)
    refine Ni c1 c2 c3 Tryz.func75 rfl (by kernel_rfl) (vs:=#[a9.eval (.tmp 21),.int .i64 ((lev+1:Nat):Int),.func (.yield l) #[] #[]]) (by simp only[List.map_toArray,List.map_cons,List.map_nil,e23,e24]) hcall ?_
    rintro e w10 ⟨Φ10,hle10,hkeep10,hres⟩
    have hks : ∀ b,X b->w10.heap[b]? = W.heap[b]? :=fun b hb=>(hkeep10 b hb).trans ((k9 b hb).trans (hk b hb))
    have he10 : ∀ b,YM (fun _ _=>none) Φ10 (a9.put (some 25) (.bool b)).tmps (eW (wl7 ks lev l i b)):=by
     intro b
     have h:=Qb (d:=some 25) (he9.mono (.refl _) hle10) (.pv _ _ (.bool b))
     refine b1z (n:=28) (L:=wl6 ks lev l i kn kk++[(25,.pv (.bool b))]) h (.refl _) ?_
     intro p hp
     simp only[wl7,wl0,List.mem_cons,List.mem_append,List.not_mem_nil,or_false]at hp
     rcases hp with (rfl|rfl|rfl|rfl|rfl)|rfl <;> exact⟨by simp,rfl,rfl⟩
    have hsz10:ks.take (i+1)=ks.take i++[.mk kn kk]:=by rw[List.take_add_one,hkk];rfl
    rcases hres with ⟨rfl,hj10⟩|⟨rfl,hj10⟩
    ·refine⟨_,rfl,?_⟩
     rw[<- List.append_nil b6]
     refine Kv Zj (fun o ho=>by rw[e6];simp[ho]) (h6b ks lev l i true) (U5 ((hJok _).glob hj10) ((hJok _).phi hj10) (he10 true) (by rw[Xn];exact hd9)) ?_
     intro a11 w11 hr11
     obtain⟨μ11,Φ11,hg11,he11,hd11⟩:=hr11
     obtain⟨s11,k11⟩:=WJ hg11 Ul (fun b hb=>(hJok _).out hj10 hb)
     have hj11:=(hJok _).step hj10 s11
     refine wpIn_cond (t:=false) (UN (x:=.tmp 26) (y:=.t 26) he11 rfl (by kernel_rfl)) (wpIn_skip ?_)
     have he11':YM (fun _ _=>none) Φ11 a11.tmps (eW (wl0 ks lev l i)):=b1z (n:=28) he11 (.refl _) (by
      intro p hp
      simp only[wl0,List.mem_cons,List.not_mem_nil,or_false]at hp
      rcases hp with rfl|rfl|rfl|rfl|rfl <;> exact⟨by simp,rfl,rfl⟩)
     refine He (nn:=4) Zj (h8 ks lev l i) (U5 ((hJok _).glob hj11) ((hJok _).phi hj11) he11' hd11) ?_
     rintro a12 w12 ⟨μ12,Φ12,hg12,he12,hd12⟩
     obtain⟨s12,k12⟩:=WJ hg12 Ul (fun b hb=>(hJok _).out hj11 hb)
     have hj12:=(hJok _).step hj11 s12
     refine⟨ks.length - (i+1),by omega,i+1,Φ12,rfl,hlt,hle.trans (hg9.Φle.trans (hle10.trans (hg11.Φle.trans hg12.Φle))),fun b hb=>(k12 b hb).trans ((k11 b hb).trans (hks b hb)),?_,?_,hd12⟩
     ·rw[hsz10,U6,ZF,ZF,Nat.add_zero,<- Nat.add_assoc]
      exact hj12
     ·refine b1z (n:=28) he12 (.refl _) ?_
      intro p hp
      simp only[wl0,List.mem_cons,List.not_mem_nil,or_false]at hp
      rcases hp with rfl|rfl|rfl|rfl|rfl
      ·exact⟨by simp,by rw[<- next (show i<9223372036854775807 by omega)];rfl,rfl⟩
      all_goals exact⟨by simp,rfl,rfl⟩
    ·refine⟨_,rfl,?_⟩
     rw[<- List.append_nil b6]
     refine Kv Zj (fun o ho=>by rw[e6];simp[ho]) (h6b ks lev l i false) (U5 (hJxok.glob hj10) (hJxok.phi hj10) (he10 false) (by rw[Xn];exact hd9)) ?_
     rintro a11 w11 ⟨μ11,Φ11,hg11,he11,hd11⟩
     obtain⟨s11,k11⟩:=WJ hg11 Ul (fun b hb=>hJxok.out hj10 hb)
     have hj11:=hJxok.step hj10 s11
     refine wpIn_cond (t:=true) (UN (x:=.tmp 26) (y:=.t 26) he11 rfl (by kernel_rfl)) ?_
     refine b8z hJxok hj11 hd11 (MK he11) h7 ?_
     intro a' w' Φ' hd' h6' hle' hk' hj'
     refine fin false a' w' Φ' hd' h6' ⟨Φ',?_,fun b hb=>(hk' b hb).trans ((k11 b hb).trans (hks b hb)),.inr ⟨rfl,hj'⟩⟩
     exact hle.trans (hg9.Φle.trans (hle10.trans (hg11.Φle.trans hle')))
   ·have hb:decide ((i:Int)<((ks.map (enc:Tm->PV)).length:Int))=false:=by simpa using hlt
    refine wpIn_seq (wpIn_cond (t:=false) (UN (x:=.tmp 18) (y:=.t 18) he7 rfl (by rw[<- hb];kernel_rfl)) (wpIn_exit ?_))
    obtain⟨s7,k7⟩:=WJ hg7 Ul hXi
    have hj7:=(hJok _).step hj s7
    have hii:i=ks.length:=by omega
    subst hii
    rw[List.take_length]at hj7
    show((Code.region 9 o9 false).seq .ret).wpIn _ _ _ _ _ _
    refine b8z (hJok _) hj7 hd7 (MK he7) h9 ?_
    intro a' w' Φ' hd' h6' hle' hk' hj'
    refine fin true a' w' Φ' hd' h6' ⟨Φ',hle.trans (hg7.Φle.trans hle'),fun b hb=>(hk' b hb).trans ((k7 b hb).trans (hk b hb)),.inl ⟨rfl,?_⟩⟩
    rw[ZY,show k+(ZF ks+1)=k+1+ZF ks by omega]
    exact hj'
  ·refine⟨_,rfl,?_⟩
   rw[<- List.append_nil b1]
   refine Kv Zj (fun o ho=>by rw[e1];simp[ho]) (h1b n ks lev l false) (both false _ hJxok hj3) ?_
   rintro a4 w4 ⟨μ4,Φ4,hg4,he4,hd4⟩
   refine wpIn_cond (t:=true) (UN (x:=.tmp 13) (y:=.t 13) he4 rfl (by kernel_rfl)) ?_
   obtain⟨s4,k4⟩:=J2 hg4 (KN n ks) (fun b hb=>hJxok.out hj3 (.inl hb)) n2
   have hj4:=hJxok.step hj3 (s4.drop (Y:=X) fun b h=>.inl h)
   refine b8z hJxok hj4 hd4 (MK he4) h2 ?_
   intro a' w' Φ' hd' h6' hle' hk' hj'
   exact fin false a' w' Φ' hd' h6' ⟨Φ',hg2.Φle.trans (hle3.trans (hg4.Φle.trans hle')),fun b hb=>(hk' b hb).trans ((k4 b hb).trans ((hkeep3 b (.inl hb)).trans (k2 b hb))),.inr ⟨rfl,hj'⟩⟩
def c4u(pss:List (List PV)):Tm:=match pss with
 | [ps]=>dec (.agg ps)
 | _=>.mk nd0 []
def pre_ndI(pss:List (List PV)):Bool:=match pss with
 | [ps]=>can Tm (.agg ps)&&decide (ZY (dec (.agg ps))<=1048576)
 | _=>false
def F_ndI(pss:List (List PV)):List (Tm×Int):=ZM 1 (c4u pss)
theorem tmOf_nd(n:Nd)(ks:List Tm):c4u [ndC n ks] = .mk n ks:=by
 show dec (PV.agg (ndC n ks))=_
 rw[show(PV.agg (ndC n ks))=enc (Tm.mk n ks)from(ZX n ks).symm,Enc.dec_enc]
theorem pre_nd{n:Nd}{ks:List Tm}(h:ZY (.mk n ks)<=1048576):pre_ndI [ndC n ks]=true:=by
 show(can Tm (.agg (ndC n ks))&&decide (ZY (dec (PV.agg (ndC n ks)))<=1048576))=true
 rw[show(PV.agg (ndC n ks))=enc (Tm.mk n ks)from(ZX n ks).symm,Enc.dec_enc,GI,Bool.true_and]
 exact decide_eq_true h
theorem c2c: ∃ (o:Array Oper) (a:List Oper) (c:Oper) (t:Array TypeId),Tryz.f74.body=some (.region 0 o false)∧o.toList=a++[c] ∧
  c.op = .call {callee:=.value (.func 75),args:=#[.tmp 3,.const (.int .i64 1),.tmp 4],argTypes:=t}∧c.guard=none∧c.dst=some 5 ∧
  ∀ n ks l,UC Tryz.prog OP o a ⟨Yv 6 0 [(0,.yld l),(1,.pv (.rptr (ndC n ks)))],[]⟩=some ⟨Yv 6 0 [(0,.yld l),(1,.pv (.rptr (ndC n ks))),(3,.pv (.agg (ndC n ks))),(4,.yld l)],[]⟩:=by
 refine⟨_,[_,_],_,_,rfl,rfl,rfl,rfl,rfl,?_⟩
 intro n ks l
 kernel_rfl
set_option maxHeartbeats 1000000 in
theorem Rp:a8y Tryz.prog 74 encNd pre_ndI F_ndI:=by
 refine⟨⟨_,Tryz.func74,rfl,rfl⟩,?_⟩
 intro pss hpre Φ0 lb l J Jx W hcaps hJok hJxok hY h0
 unfold pre_ndI at hpre
 split at hpre
 ·rename_i ps
  simp only[Bool.and_eq_true,decide_eq_true_eq]at hpre
  obtain⟨hc,hsz⟩:=hpre
  obtain⟨t,ht⟩:=NK hc
  obtain⟨n,ks⟩:=t
  rw[ht,Enc.dec_enc]at hsz
  rw[ZX]at ht
  obtain rfl:ps=ndC n ks:=by injection ht
  have hF:F_ndI [ndC n ks]=ZM 1 (.mk n ks):=by unfold F_ndI;rw[tmOf_nd]
  rw[hF]at hY ⊢
  obtain⟨lb⟩:=lb
  match lb,hcaps.1 with
  | [p1],_=>
   obtain⟨B1,c1,rfl,g1,r1,o1⟩:=hcaps.2 0 p1 _ rfl rfl
   have k1:=EH g1 r1 o1
   obtain⟨o,a,c,t,hbody,e1,c1,c2,c3,hgo⟩:=c2c
   refine callsIn_wide.1 (callsIn_of_wp (F:=Fence.wide) (n:=4) Tryz.func74 hbody trivial ?_ rfl)
   have hE:YM (fun _ _=>none) Φ0 ((#[Value.func (.yield l) #[] #[]]++ #[Value.pointer (some ⟨B1,0,none⟩)])++Array.replicate 4 undef) (Yv 6 0 [(0,.yld l),(1,.pv (.rptr (ndC n ks)))]):=by
    refine Tq (by simp) ?_
    intro q hq u hu
    simp only[List.mem_cons,List.not_mem_nil,or_false]at hq
    rcases hq with rfl|rfl
    ·simp[Array.getElem?_append]at hu
     subst hu
     exact .yld l
    ·simp[Array.getElem?_append]at hu
     subst hu
     exact .pv _ _ k1
   refine wpIn_region_list ?_
   rw[e1]
   refine Kv (nn:=4) Zj (fun x hx=>by rw[e1];simp[hx]) (hgo n ks l) (U5 ((hJok 0).glob h0) ((hJok 0).phi h0) hE rfl) ?_
   rintro a2 w2 ⟨μ2,Φ2,hg2,he2,hd2⟩
   obtain⟨s2,k2⟩:=WJ (X:=fun _=>False) hg2 Ul (fun b hb=>hb.elim)
   have hj2:=(hJok _).step h0 s2
   have r3:RP Φ2 (a2.eval (.tmp 3)) (enc (Tm.mk n ks)):=by
    rw[ZX]
    exact Om he2 (y:=.t 3) rfl (by kernel_rfl)
   have e4:a2.eval (.tmp 4) = .func (.yield l) #[] #[]:=NJ he2 (y:=.t 4) rfl (by kernel_rfl)
   have hcall:=b5s hJok hJxok hY (SizeOf.sizeOf (Tm.mk n ks)+1) (.mk n ks) (Nat.lt_succ_self _) 1 0 Φ2 _ w2 _ hj2 r3 (fun i x h=>by rw[Nat.zero_add];exact h) (by omega)
   refine Ni c1 c2 c3 Tryz.func75 rfl (by kernel_rfl) (vs:=#[a2.eval (.tmp 3),.int .i64 ((1:Nat):Int),.func (.yield l) #[] #[]]) (by simp only[List.map_toArray,List.map_cons,List.map_nil,e4];rfl) hcall ?_
   rintro e w3 ⟨Φ3,hle3,hkeep3,hres⟩
   have fin : ∀ v,(∃ Φ' X',J (ZM 1 (.mk n ks)).length Φ' X' w3∨Jx Φ' X' w3)->wpListIn (Yu none) 4 Tryz.prog o (bodyPost Tryz.prog Tryz.f74 fun e W'=>(∃ v,e = .returned v)∧ ∃ Φ' X',(J (ZM 1 (.mk n ks)).length Φ' X' W'∨Jx Φ' X' W')) [] (a2.put (some 5) v) w3:=by
    intro v hv
    exact⟨by rw[Xn];exact hd2,_,results_none rfl _ _ _,⟨_,rfl⟩,hv⟩
   rcases hres with ⟨rfl,hj3⟩|⟨rfl,hj3⟩
   ·refine⟨_,rfl,fin _ ⟨Φ3,fun _=>False,.inl ?_⟩⟩
    rw[Uh,<- Nat.zero_add (ZY _)]
    exact hj3
   ·exact⟨_,rfl,fin _ ⟨Φ3,_,.inr hj3⟩⟩
 ·cases hpre
end Go.Proofs.YtbfjgcjjaoaaaaaGreatDoor

namespace Go.Pl
open Go.RowKit
open Enc (enc dec is)
open EncL (encL decL isL)
open Go.Proofs.YtbfjgcjjaoaaaaaGreatDoor (ndC encNd pre_ndI F_ndI tmOf_nd pre_nd)
theorem a1v: ∀ args os,WA args os=true->Zc Ml os.length (YB os.length AJ fun r=>r=VY 74 args os) AU [] (Vb b1u args os):=by
 intro args os h
 unfold WA at h
 split at h
 ·obtain⟨⟨n,ks⟩,rfl⟩:=NK h
  rw[ZX]
  exact c1l n ks rfl
 ·cases h
def tvI(t:Tm)(k:Nat)(σ:Zp):Prop:=(∀ j p,j<k->(ZM 1 t)[j]? = some p->FT j p=true)∧k<=400∧σ=[.obj (.box [.pv (.bool false)]),.obj (.box [.pv (.int .i64 k)])]
def tvX(t:Tm)(σ:Zp):Prop:=Wj t=false∧ ∃ (c:Int) (r:List Slot),σ = .obj (.box [.pv (.bool false)]):: .obj (.box [.pv (.int .i64 c)])::r
def tvE:XJ:=fun n st q=>n=0∧MR QW 0 (.t 7) 74 [8,9] Dw Dy encNd pre_ndI F_ndI st q
def tvM(t:Tm)(k:Nat)(x:Tm×Int)(st:St):Prop:=(∀ j p,j<k->(ZM 1 t)[j]? = some p->FT j p=true)∧k<=400 ∧
 st=⟨Yv 23 0 [(2,.ptr 0 0),(3,.ptr 1 0),(4,.ptr 2 0),(5,.pv (.int .i64 x.2))],[.obj (.box [.pv (.bool false)]),.obj (.box [.pv (.int .i64 k)]),.obj (.box ((ndC x.1.nd x.1.ks).map .pv))]⟩
theorem b6x: ∀ x:Tm×Unit,tW x.1=true->Ql QW tvE 0 (Za Kn (Zk (Wj x.1))) JP [] (Ye c2x (encL x)):=by
 rintro⟨t,⟨⟩⟩ ht
 have ht:tW t=true:=ht
 obtain⟨n,ks⟩:=t
 rw[<- Yh]
 show Ql QW tvE 0 (Za Kn (Zk (Wj (.mk n ks)))) _ _ _
 have hsz:ZY (.mk n ks)<=1048576:=Nat.le_trans (KO _) (of_decide_eq_true ht)
 have hF:F_ndI [ndC n ks]=ZM 1 (.mk n ks):=by unfold F_ndI;rw[tmOf_nd]
 refine c4m tvE n ks ⟨?_,rfl,[2],[ndC n ks],[2,3],[2,3,4,5],[],⟨Yv 23 0 [(2,.ptr 0 0),(3,.ptr 1 0)],[.obj (.box [.pv (.bool false)]),.obj (.box [.pv (.int .i64 0)])]⟩,tvI (.mk n ks),tvX (.mk n ks),tvM (.mk n ks),
  rfl,by simp,rfl,?_,by kernel_rfl,pre_nd hsz,⟨fun j p hj=>by omega,by omega,rfl⟩,?_,?_,?_,?_⟩
 ·show can Tm (PV.agg (ndC n ks))=true
  rw[show(PV.agg (ndC n ks))=enc (Tm.mk n ks)from(ZX n ks).symm,GI]
 ·intro j l ps hl hps
  match j with
  | 0=>cases hl;cases hps;rfl
  | j+1=>simp at hl
 ·rintro k ⟨⟨xn,xk⟩,v⟩ σ hx ⟨hall,hk,rfl⟩
  have e:CG [8,9] ((encNd (.mk xn xk,v)).map .pv) (Yv 23 0 [(2,.ptr 0 0),(3,.ptr 1 0)])=Yv 23 0 [(2,.ptr 0 0),(3,.ptr 1 0),(8,.pv (.agg (ndC xn xk))),(9,.pv (.int .i64 v))]:=by
   show CG [8,9] (([enc (Tm.mk xn xk),.int .i64 v]).map .pv) _=_
   rw[ZX]
   kernel_rfl
  rw[e]
  exact c2e (G:=fun _=>False) _ xn xk k v ⟨rfl,hall,hk,rfl⟩
 ·rintro k ⟨⟨xn,xk⟩,v⟩ st hx ⟨hall,hk,rfl⟩
  rw[hF]at hx
  have hno:=fun h=>a6i (.mk n ks) hx h
  have hw:IntKind.i64.wrap ((k:Int)+1)=((k+1:Nat):Int):=next (by omega)
  refine b9z (G:=tvX (.mk n ks)) _ xn xk k v ?_
  rw[hw]
  have bad:FT k (.mk xn xk,v)=false-> ∀ r,tvX (.mk n ks) (.obj (.box [.pv (.bool false)]):: .obj (.box [.pv (.int .i64 ((k+1:Nat):Int))])::r):=fun h r=>⟨hno h,_,r,rfl⟩
  refine Yp (fun h1=>bad ?_ _) fun h1=>Yp (fun h2=>bad ?_ _) fun h2=>⟨Ze (.mk xn xk,()) (Yh xn xk) (Jp ht (List.mem_of_getElem? hx)),Zg (.mk xn xk,()) (Yh xn xk) (Gj (fun h3=>bad ?_ _) fun h3=>⟨rfl,⟨Yv 23 0 [(2,.ptr 0 0),(3,.ptr 1 0)],[.obj (.box [.pv (.bool false)]),.obj (.box [.pv (.int .i64 ((k+1:Nat):Int))])]⟩,by kernel_rfl,rfl,?_,?_,rfl⟩)⟩
  ·unfold FT;rw[decide_eq_false (show ¬ k<400 by omega)];rfl
  ·unfold FT;rw[decide_eq_false (show ¬ v<=40 by omega),Bool.and_false];rfl
  ·have h3:Hl (.mk xn xk)=false:=h3
   unfold FT;rw[h3,Bool.and_false]
  ·have h3:Hl (.mk xn xk)=true:=h3
   intro j p hj hp
   rw[Nat.lt_succ_iff_lt_or_eq]at hj
   rcases hj with hj|rfl
   ·exact hall j p hj hp
   ·rw[hx]at hp
    cases hp
    unfold FT
    rw[h3,decide_eq_true (show j<400 by omega),decide_eq_true (show v<=40 by omega)];rfl
  ·omega
 ·rintro σ ⟨hall,hk,rfl⟩
  refine c1j tvE n ks _ (Z0 (EC _ fun j p hp=>hall j p ?_ hp).symm)
  rw[hF]
  exact(List.getElem?_eq_some_iff.1 hp).1
 ·rintro σ ⟨hv,c,r,rfl⟩
  exact b6k tvE n ks c r (Z0 hv.symm)
end Go.Pl

namespace Go.Pl
open Go.RowKit
open Enc (enc dec is)
open EncL (encL decL isL)
open Go.Proofs.YtbfjgcjjaoaaaaaGreatDoor (ndC encNd pre_ndI F_ndI tmOf_nd pre_nd)
theorem b2e: ∀ args os,QE args os=true->Zc a7b os.length (YB os.length LY fun r=>r=KR 86 args os) Mg [] (Vb b8i args os):=by
 intro args os h
 unfold QE at h
 split at h
 ·exact c3t _ rfl
 ·cases h
def tdH(m:List Str)(n:Nd)(ks:List Tm):Zp:=[.obj (.box [.map 1]),.obj (.map (Qh m)),.obj (.box ((ndC n ks).map .pv))]
def tdN(N:Zp->Prop):XJ:=fun n S' _=>n=99∧N S'.heap
theorem a1e{N G:Zp->Prop}(n:Nd)(ks:List Tm)(i:Int)(l:Lin)(hl:l.t.length<=1048576): ∀ (d j:Nat) (m:List Str),d+j=l.t.length ->
  AtS [.seq (.ext 99 [])] Qe (tdN N) 3 (fun st=>G st.heap) Wd 0 36 [(3,.ptr 0 0),(15,.pv (enc n.sizes)),(16,.pv (.int .i64 n.sizes.length)),(17,.pv (.int .i64 (IntKind.i64.wrap (i+1))))] (tdH (((l.t.drop j).map (·.v)).foldl UY m) n ks) ->
  AtS [.seq (.ext 99 [])] Qe (tdN N) 3 (fun st=>G st.heap) Wd 1 36 [(3,.ptr 0 0),(15,.pv (enc n.sizes)),(16,.pv (.int .i64 n.sizes.length)),(17,.pv (.int .i64 i)),(22,.pv (enc l.t)),(23,.pv (.int .i64 l.t.length)),(24,.pv (.int .i64 j))] (tdH m n ks):=by
 intro d
 induction d with
 | zero=>
  intro j m hj h
  rw[List.drop_eq_nil_of_le (by omega)]at h
  exact a5h (tdN N) n ks m i j l (XR (YV (by omega)) h)
 | succ d ih=>
  intro j m hj h
  have hlt:j<l.t.length:=by omega
  obtain⟨u1,u2⟩:=c2s m l.t[j].v
  refine a5h (tdN N) n ks m i j l (XQ (YU hlt) ⟨Yl hlt rfl,Y9 hlt ⟨u1,?_⟩⟩)
  have e:N9 (Sh.co Sh.str (List.getD (PV.cells (enc l.t[j])) 0 default)) (PV.bool true) (Qh m)=Qh (UY m l.t[j].v):=u2
  rw[e,next (by omega)]
  refine ih (j+1) _ (by omega) ?_
  rw[List.drop_eq_getElem_cons hlt,List.map_cons,List.foldl_cons]at h
  exact h
theorem Ea{N G:Zp->Prop}(n:Nd)(ks:List Tm)(hn:NdB n 1048576): ∀ (d i:Nat) (m:List Str),d+i=n.sizes.length->N (tdH (((n.sizes.drop i).flatMap fun l=>l.t.map (·.v)).foldl UY m) n ks) ->
  AtS [.seq (.ext 99 [])] Qe (tdN N) 3 (fun st=>G st.heap) Wd 0 36 [(3,.ptr 0 0),(15,.pv (enc n.sizes)),(16,.pv (.int .i64 n.sizes.length)),(17,.pv (.int .i64 i))] (tdH m n ks):=by
 intro d
 induction d with
 | zero=>
  intro i m hi h
  rw[List.drop_eq_nil_of_le (by omega)]at h
  exact b0d (tdN N) n ks m i (XR (YV (by omega)) ⟨rfl,h⟩)
 | succ d ih=>
  intro i m hi h
  have hlt:i<n.sizes.length:=by omega
  have hs:=hn.sizes
  refine b0d (tdN N) n ks m i (XQ (YU hlt) ⟨Yl hlt rfl,Y9 hlt ?_⟩)
  rw[List.drop_eq_getElem_cons hlt,List.flatMap_cons,List.foldl_append]at h
  have hl:n.sizes[i].t.length<=1048576:=hn.lens _ (List.getElem_mem hlt)
  generalize n.sizes[i]=l at h hl ⊢
  have:=a1e (N:=N) (G:=G) n ks i l hl l.t.length 0 m (by omega) (by
   rw[next (by omega),List.drop_zero]
   exact ih (i+1) _ (by omega) h)
  show AtS [.seq (.ext 99 [])] Qe (tdN N) 3 (fun st=>G st.heap) Wd 1 36 [(3,.ptr 0 0),(15,.pv (enc n.sizes)),(16,.pv (.int .i64 n.sizes.length)),(17,.pv (.int .i64 i)),(22,.pv (enc l.t)),(23,.pv (.int .i64 ((l.t.map (enc:Coef->PV)).length:Int))),(24,.pv (.int .i64 (0:Nat)))] (tdH m n ks)
  rw[List.length_map]
  exact this
def tdI(t:Tm)(k:Nat)(σ:Zp):Prop:=σ=[.obj (.box [.map 1]),.obj (.map (Qh (Ka (((Xd t).take k).flatMap K8))))]
def tdM(t:Tm)(k:Nat)(x:Tm×Int)(st:St):Prop:=st=⟨Yv 36 0 [(3,.ptr 0 0),(4,.ptr 2 0)],tdH (Ka (((Xd t).take k).flatMap K8)) x.1.nd x.1.ks⟩
def tdE:XJ:=fun n st q=>n=0∧MR Jt 0 (.t 11) 74 [12,13] Cb Wd encNd pre_ndI F_ndI st q
theorem b6o: ∀ x:Tm×Unit,tW x.1=true->Ql Jt tdE 0 (Za J8 (Zk (WW x.1))) D8 [] (Ye c1h (encL x)):=by
 rintro⟨t,⟨⟩⟩ ht
 have ht:tW t=true:=ht
 obtain⟨n,ks⟩:=t
 rw[<- Yh]
 show Ql Jt tdE 0 (Za J8 (Zk (WW (.mk n ks)))) _ _ _
 have hsz:ZY (.mk n ks)<=1048576:=Nat.le_trans (KO _) (of_decide_eq_true ht)
 have hF:F_ndI [ndC n ks]=ZM 1 (.mk n ks):=by unfold F_ndI;rw[tmOf_nd]
 refine c4c tdE n ks ⟨?_,rfl,[1],[ndC n ks],[3],[3,4],[],⟨Yv 36 0 [(3,.ptr 0 0)],[.obj (.box [.map 1]),.obj (.map [])]⟩,tdI (.mk n ks),fun _=>False,tdM (.mk n ks),
  rfl,by simp,rfl,?_,by kernel_rfl,pre_nd hsz,rfl,?_,?_,?_,fun σ h=>h.elim⟩
 ·show can Tm (PV.agg (ndC n ks))=true
  rw[show(PV.agg (ndC n ks))=enc (Tm.mk n ks)from(ZX n ks).symm,GI]
 ·intro j l ps hl hps
  match j with
  | 0=>cases hl;cases hps;rfl
  | j+1=>simp at hl
 ·rintro k ⟨⟨xn,xk⟩,v⟩ σ hx rfl
  have e:CG [12,13] ((encNd (.mk xn xk,v)).map .pv) (Yv 36 0 [(3,.ptr 0 0)])=Yv 36 0 [(3,.ptr 0 0),(12,.pv (.agg (ndC xn xk))),(13,.pv (.int .i64 v))]:=by
   show CG [12,13] (([enc (Tm.mk xn xk),.int .i64 v]).map .pv) _=_
   rw[ZX]
   kernel_rfl
  rw[e]
  exact c2d (G:=fun _=>False) _ xn xk _ v ⟨rfl,rfl⟩
 ·rintro k ⟨⟨xn,xk⟩,v⟩ st hx rfl
  rw[hF]at hx
  have hw:tW (.mk xn xk)=true:=Jp ht (List.mem_of_getElem? hx)
  have hp:(Xd (.mk n ks))[k]? = some (.mk xn xk):=by unfold Xd;rw[List.getElem?_map,hx];rfl
  refine c2m (G:=fun _=>False) (tdN fun σ=> ∃ S2,VP 0 [3] ⟨Yv 36 0 [(3,.ptr 0 0)],σ⟩=some S2∧S2.env=Yv 36 0 [(3,.ptr 0 0)]∧tdI (.mk n ks) (k+1) S2.heap) xn xk _ ?_
  rw[List.length_map]
  refine Ea (N:=fun σ=> ∃ S2,VP 0 [3] ⟨Yv 36 0 [(3,.ptr 0 0)],σ⟩=some S2∧S2.env=Yv 36 0 [(3,.ptr 0 0)]∧tdI (.mk n ks) (k+1) S2.heap) (G:=fun _=>False) xn xk (ndB hw) xn.sizes.length 0 _ (by omega) ⟨⟨Yv 36 0 [(3,.ptr 0 0)],[.obj (.box [.map 1]),.obj (.map (Qh (((xn.sizes.drop 0).flatMap fun l=>l.t.map (·.v)).foldl UY (Ka (((Xd (.mk n ks)).take k).flatMap K8)))))]⟩,by kernel_rfl,rfl,?_⟩
  unfold tdI
  have e:(Xd (.mk n ks)).take (k+1)=(Xd (.mk n ks)).take k++[.mk xn xk]:=by rw[List.take_add_one,hp];rfl
  rw[e,List.flatMap_append,List.flatMap_cons,List.flatMap_nil,List.append_nil,List.drop_zero]
  unfold Ka
  rw[List.foldl_append]
  rfl
 ·rintro σ rfl
  rw[hF,List.take_of_length_le (by unfold Xd;rw[List.length_map];exact Nat.le_refl _)]
  refine c0r tdE n ks (Ka (Yz (.mk n ks))) ⟨?_,?_⟩
  ·show(86==86&&K4 (Qh (Ka (Yz (.mk n ks)))))=true
   rw[c4w ht,beq_self_eq_true];rfl
  ·have:=Zt (x:=WW (.mk n ks)) rfl
   unfold WW at this ⊢
   rw[Ow]
   have e:(enc ((XT ((Ka (Yz (.mk n ks))).map (·.s))).map Str.mk):PV) = .sl 1 false ((XT ((Ka (Yz (.mk n ks))).map (·.s))).map PV.str):=by
    show PV.sl 1 false (List.map enc (List.map Str.mk _))=_
    rw[List.map_map]
    rfl
   rw[e]at this
   exact this
end Go.Pl

namespace Go.Pl
open Go.RowKit
open Enc (enc dec is)
open EncL (encL decL isL)
set_option maxRecDepth 100000
def Li:IC:=(.seq (.reg [⟨(some 4),(.mv (.c (.bool false))),0,none⟩] none) (.seq (.seq (.reg [⟨(some 5),(.mv (.t 0)),0,none⟩] none) (.block 0 (.seq (.reg [⟨(some 7),(.bin .num .eql (.t 5) (.c (.str [105,110,116]))),0,none⟩,⟨(some 6),(.mv (.t 7)),0,none⟩] none) (.cond (.t 6) (.seq (.reg [⟨(some 8),(.mv (.t 1)),0,none⟩,⟨(some 9),(.bin .num .geq (.t 8) (.c (.int .i64 (-2147483648)))),0,none⟩,⟨(some 10),(.mv (.t 9)),0,none⟩,⟨(some 11),(.mv (.t 1)),0,(some (10,true))⟩,⟨(some 12),(.bin .num .leq (.t 11) (.c (.int .i64 2147483647))),0,(some (10,true))⟩,⟨(some 13),(.pick (.t 10) (.t 12) (.c (.bool false))),0,none⟩,⟨(some 4),(.mv (.t 13)),0,none⟩] none) .ret) (.seq (.reg [⟨(some 15),(.bin .num .eql (.t 5) (.c (.str [98,111,111,108]))),0,none⟩,⟨(some 14),(.mv (.t 15)),0,none⟩] none) (.cond (.t 14) (.seq (.reg [⟨(some 16),(.mv (.t 1)),0,none⟩,⟨(some 17),(.bin .num .eql (.t 16) (.c (.int .i64 0))),0,none⟩,⟨(some 18),(.mv (.t 17)),0,none⟩,⟨(some 19),(.mv (.t 1)),0,(some (18,false))⟩,⟨(some 20),(.bin .num .eql (.t 19) (.c (.int .i64 1))),0,(some (18,false))⟩,⟨(some 21),(.pick (.t 18) (.c (.bool true)) (.t 20)),0,none⟩,⟨(some 4),(.mv (.t 21)),0,none⟩] none) .ret) .skip)))))) (.seq (.reg [⟨(some 4),(.mv (.c (.bool false))),0,none⟩] none) .ret)))
def NN:List IRes:=[(.tmp 4)]
abbrev b8w:Nat:=22
def a6r:ZC:=Xi []
theorem c3z{G:PV->Prop}(e:List UInt8)(n:Int)(h:if (e==[(105:UInt8),(110:UInt8),(116:UInt8)])=true then if (decide (n ≥ (-2147483648:Int)))=true then G ((.bool (decide (n<=2147483647))))else(G ((.bool false)))else(if (e==[(98:UInt8),(111:UInt8),(111:UInt8),(108:UInt8)])=true then if (n==0)=true then G ((.bool true))else(G ((.bool (n==1))))else(G ((.bool false))))):Zc a6r 0 (Za NN G) Li [] (Ye 22 [.str e,.int .i64 n]):=Zc.tp (.lit (.ask (.lit (.ask (.lit (.lit (.lit (.nil)))) (.lit (.lit (.nil))))) (.lit (.ask (.lit (.ask (.lit (.lit (.nil))) (.lit (.lit (.lit (.nil)))))) (.nil))))) h (by kernel_rfl)
def L6:IC:=(.seq (.reg [⟨(some 3),(.mv (.c (.bool false))),0,none⟩] none) (.seq (.reg [⟨(some 4),(.load false [.str] (.t 1)),0,none⟩,⟨(some 5),(.mv (.t 0)),0,none⟩,⟨(some 6),(.call (.c (.fn 154)) [(.t 4),(.t 5)]),0,none⟩,⟨(some 7),(.un .not (.t 6)),2,none⟩,⟨(some 3),(.mv (.t 7)),2,none⟩] none) .ret))
def MC:List IRes:=[(.tmp 3)]
abbrev c0d:Nat:=8
def b1d:ZC:=Xi [(154,.pure (preT (fun _:Str×Int×Unit=>true)) (Zf (fun x:Str×Int×Unit=>WE x.1 x.2.1)))]
theorem c3o{G:AV×List AObj×List AObj->Prop}(e:List UInt8)(n:Int)(h : ∃ y0:Bool,AV.pv (Zf (fun(x:Str×Int×Unit)=>WE x.1 x.2.1) [(.str e),(.int .i64 n)])=AV.pv (enc y0)∧(G (((.pv (.bool !y0)),([(.box [(.pv (.str e))])],[]))))):Zc b1d 1 (YB 1 MC G) L6 [] (Vb 8 [.pv (.int .i64 n),.ptr 0 0] [.box [.pv (.str e)]]):=Zc.to (.lit (.abs (Bool) (fun YY=>AV.pv (enc YY)) (.nil))) h (by kernel_rfl)
def Kh:IC:=Qr
def KH:List IRes:=[(.tmp 4)]
abbrev a8i:Nat:=19
def D5:ZC:=Xi [(153,.own G7 Td)]
theorem c4p{G:AV×List AObj×List AObj->Prop}(e:List UInt8)(l:List Int)(t:Bool)(h:At D5 1 (YB 1 KH G) Kh 0 19 [(0,(.pv (.sl 1 t (List.map enc l)))),(1,(.fn 153 [] [(.ptr 0 0)])),(7,(.pv (.int .i64 (↑(List.length (List.map enc l)):Int)))),(8,(.pv (.int .i64 0)))] [(.obj (.box [(.pv (.str e))]))]):Zc D5 1 (YB 1 KH G) Kh [] (Vb 19 [.pv (.sl 1 t (l.map enc)),.fn 153 [] [.ptr 0 0]] [.box [.pv (.str e)]]):=Zc.to (.nil) h (by kernel_rfl)
theorem a8d{G:AV×List AObj×List AObj->Prop}(e:List UInt8)(l:List Int)(t:Bool)(i:Int)(h:if (decide (i<(↑(List.length l):Int)))=true then(decide (0<=i)&&decide (Int.toNat i<List.length (List.map enc l))&&1==1)=true∧(∃ y0:Int,AV.pv (PV.rptr (PV.cells (List.getD (List.map enc l) (Int.toNat i) default)))=AV.pv (PV.rptr (PV.cells ((enc) y0)))∧(if (!WE (Str.mk e) (PV.asInt (List.getD (PV.cells (enc y0)) 0 default)))=true then G (((.pv (.int .i64 i)),([(.box [(.pv (.str e))])],[])))else(At D5 1 (YB 1 KH G) Kh 0 19 [(0,(.pv (.sl 1 t (List.map enc l)))),(1,(.fn 153 [] [(.ptr 0 0)])),(7,(.pv (.int .i64 (↑(List.length l):Int)))),(8,(.pv (.int .i64 (IntKind.wrap IntKind.i64 (i+1)))))] [(.obj (.box [(.pv (.str e))]))])))else(G (((.pv (.int .i64 (-1))),([(.box [(.pv (.str e))])],[]))))):At D5 1 (YB 1 KH G) Kh 0 19 [(0,.pv (.sl 1 t (l.map enc))),(1,.fn 153 [] [.ptr 0 0]),(7,.pv (.int .i64 l.length)),(8,.pv (.int .i64 i))] [.obj (.box [.pv (.str e)])]:=At.to (.lit (.ask (.req (.abs (Int) (fun YY=>AV.pv (PV.rptr (PV.cells ((enc) YY)))) (.lit (.lit (.keep (.ask (.nil) (.lit (.nil)))))))) (.nil))) h (by kernel_rfl)
def M7:IC:=Sc
def Mv:List IRes:=[(.tmp 4)]
abbrev b8a:Nat:=9
def a9c:ZC:=Xi [(130,.own Wq GR)]
theorem c3i{G:AV×List AObj×List AObj->Prop}(e:List UInt8)(l:List Int)(t:Bool)(h:(Wq [(.pv (.sl 1 t (List.map enc l))),(.fn 153 [] [(.ptr 0 0)])] [(.box [(.pv (.str e))])])=true∧(G (((.pv (.bool (decide (V7 (Str.mk e) (List.map dec (List.map enc l)) 0 ≥ 0)))),([(.box [(.pv (.str e))])],[]))))):Zc a9c 1 (YB 1 Mv G) M7 [] (Vb 9 [.pv (.sl 1 t (l.map enc)),.fn 153 [] [.ptr 0 0]] [.box [.pv (.str e)]]):=Zc.to (.req (.keep (.lit (.nil)))) h (by kernel_rfl)
def Qt:IC:=(.seq (.reg [⟨(some 2),(.box 1 (.t 0)),0,none⟩,⟨(some 4),(.mv (.c (.bool false))),1,none⟩] none) (.seq (.reg [⟨(some 5),(.mv (.t 1)),0,none⟩,⟨(some 6),(.mkfn 153 [] [(.t 2)]),0,none⟩,⟨(some 7),(.call (.c (.fn 104)) [(.t 5),(.t 6)]),0,none⟩,⟨(some 8),(.un .not (.t 7)),2,none⟩,⟨(some 4),(.mv (.t 8)),2,none⟩] none) .ret))
def Qi:List IRes:=[(.tmp 4)]
abbrev Pt:Nat:=9
def Ke:ZC:=Xi [(104,.own Wq Si)]
theorem Mo{G:PV->Prop}(e:List UInt8)(l:List Int)(h:(Wq [(.pv (.sl 1 false (List.map enc l))),(.fn 153 [] [(.ptr 0 0)])] [(.box [(.pv (.str e))])])=true∧(G ((.bool (!decide (0<=V7 (Str.mk e) (List.map dec (List.map enc l)) 0)))))):Zc Ke 0 (Za Qi G) Qt [] (Ye 9 [.str e,enc l]):=Zc.tp (.req (.keep (.nil))) h (by kernel_rfl)
def SE:IC:=(.seq (.reg [⟨(some 6),(.alloc (.agg [(.str []),(.sl 0 true []),(.sl 0 true [])])),0,none⟩,⟨(some 7),(.mv (.c (.int .i64 0))),1,none⟩] none) (.seq (.seq (.reg [⟨(some 10),(.mv (.t 0)),0,none⟩,⟨(some 11),(.bin .num .neq (.t 10) (.c (.str [105,110,116]))),0,none⟩,⟨(some 12),(.mv (.t 11)),0,none⟩,⟨(some 13),(.mv (.t 0)),0,(some (12,true))⟩,⟨(some 14),(.bin .num .neq (.t 13) (.c (.str [98,111,111,108]))),0,(some (12,true))⟩,⟨(some 15),(.pick (.t 12) (.t 14) (.c (.bool false))),0,none⟩] none) (.cond (.t 15) (.seq (.reg [⟨(some 16),(.build [(.str []),(.sl 0 true []),(.sl 0 true [])] []),0,none⟩,⟨none,(.store 3 (.t 6) (.t 16)),0,none⟩,⟨(some 7),(.mv (.c (.int .i64 12))),0,none⟩] none) .ret) .skip)) (.seq (.reg [⟨(some 18),(.mv (.t 1)),0,none⟩,⟨(some 19),(.call (.c (.fn 117)) [(.t 18)]),0,none⟩,⟨(some 17),(.mv (.t 19)),2,none⟩,⟨(some 20),(.extract (.t 17) 0),2,none⟩,⟨(some 21),(.extract (.t 17) 1),2,none⟩,⟨(some 8),(.mv (.t 20)),2,none⟩,⟨(some 9),(.mv (.t 21)),2,none⟩] none) (.seq (.block 0 (.seq (.reg [⟨(some 23),(.mv (.t 9)),0,none⟩,⟨(some 24),(.bin .num .neq (.t 23) (.c (.int .i64 0))),0,none⟩,⟨(some 22),(.mv (.t 24)),0,none⟩] none) (.cond (.t 22) (.seq (.reg [⟨(some 25),(.build [(.str []),(.sl 0 true []),(.sl 0 true [])] []),0,none⟩,⟨(some 26),(.mv (.t 9)),0,none⟩,⟨none,(.store 3 (.t 6) (.t 25)),0,none⟩,⟨(some 7),(.mv (.t 26)),0,none⟩] none) .ret) (.seq (.reg [⟨(some 28),(.mv (.t 2)),0,none⟩,⟨(some 29),(.len 1 (.t 28)),0,none⟩,⟨(some 30),(.mv (.t 8)),0,none⟩,⟨(some 31),(.bin .num .neq (.t 29) (.t 30)),0,none⟩,⟨(some 27),(.mv (.t 31)),0,none⟩] none) (.cond (.t 27) (.seq (.reg [⟨(some 32),(.build [(.str []),(.sl 0 true []),(.sl 0 true [])] []),0,none⟩,⟨none,(.store 3 (.t 6) (.t 32)),0,none⟩,⟨(some 7),(.mv (.c (.int .i64 1))),0,none⟩] none) .ret) (.seq (.reg [⟨(some 34),(.mv (.t 0)),0,none⟩,⟨(some 35),(.mv (.t 2)),0,none⟩,⟨(some 36),(.call (.c (.fn 118)) [(.t 34),(.t 35)]),0,none⟩,⟨(some 37),(.un .not (.t 36)),2,none⟩,⟨(some 33),(.mv (.t 37)),2,none⟩] none) (.cond (.t 33) (.seq (.reg [⟨(some 38),(.build [(.str []),(.sl 0 true []),(.sl 0 true [])] []),0,none⟩,⟨none,(.store 3 (.t 6) (.t 38)),0,none⟩,⟨(some 7),(.mv (.c (.int .i64 2))),0,none⟩] none) .ret) .skip))))))) (.seq (.reg [⟨(some 39),(.mv (.t 0)),0,none⟩,⟨(some 40),(.mv (.t 1)),0,none⟩,⟨(some 41),(.call (.c (.fn 119)) [(.t 40)]),0,none⟩,⟨(some 42),(.mv (.t 2)),2,none⟩,⟨(some 43),(.call (.c (.fn 119)) [(.t 42)]),2,none⟩,⟨(some 44),(.build [(.str []),(.sl 0 true []),(.sl 0 true [])] [(0,(1,(.t 39))),(1,(1,(.t 41))),(2,(1,(.t 43)))]),4,none⟩,⟨none,(.store 3 (.t 6) (.t 44)),4,none⟩,⟨(some 7),(.mv (.c (.int .i64 0))),4,none⟩] none) .ret)))))
def Sw:List IRes:=[(.cell true 3 6),(.tmp 7)]
abbrev b3m:Nat:=45
def Fg:ZC:=Xi [(117,.pure (preT (fun _:List Int×Unit=>true)) (Zf (fun x:List Int×Unit=>WI x.1))),(118,.pure (preT (fun x:Str×List Int×Unit=>decide (x.2.1.length<=2000000))) (Zf (fun x:Str×List Int×Unit=>x.2.1.all (WE x.1)))),(119,.pure (preT (fun x:List Int×Unit=>decide (x.1.length<=2000000))) (Zf (fun x:List Int×Unit=>x.1)))]
theorem b9g{G:PV->Prop}(e:List UInt8)(d x:List Int)(h:if (!e==[(105:UInt8),(110:UInt8),(116:UInt8)])=true then if (!e==[(98:UInt8),(111:UInt8),(111:UInt8),(108:UInt8)])=true then G ((.tup [(.agg [(.str []),(.sl 0 true []),(.sl 0 true [])]),(.int .i64 12)]))else((Go.Pl.preT (fun(x:List Int×Unit)=>true) [(.sl 1 false (List.map enc d))])=true∧(∃ y0:Int×Int,AV.pv (Zf (fun(x:List Int×Unit)=>WI x.1) [(.sl 1 false (List.map enc d))])=AV.pv (enc y0)∧(if (y0.2 != 0)=true then G ((.tup [(.agg [(.str []),(.sl 0 true []),(.sl 0 true [])]),(.int .i64 y0.2)]))else(if ((↑(List.length (List.map enc x)):Int) != y0.1)=true then G ((.tup [(.agg [(.str []),(.sl 0 true []),(.sl 0 true [])]),(.int .i64 1)]))else((Go.Pl.preT (fun(x:Str×List Int×Unit)=>decide (List.length x.2.1<=2000000)) [(.str e),(.sl 1 false (List.map enc x))])=true∧(∃ y1:Bool,AV.pv (Zf (fun(x:Str×List Int×Unit)=>List.all x.2.1 (WE x.1)) [(.str e),(.sl 1 false (List.map enc x))])=AV.pv (enc y1)∧(if (!y1)=true then G ((.tup [(.agg [(.str []),(.sl 0 true []),(.sl 0 true [])]),(.int .i64 2)]))else((Go.Pl.preT (fun(x:List Int×Unit)=>decide (List.length x.1<=2000000)) [(.sl 1 false (List.map enc d))])=true∧(∃ y2:List Int,AV.pv (Zf (fun(x:List Int×Unit)=>x.1) [(.sl 1 false (List.map enc d))])=AV.pv (enc y2)∧((Go.Pl.preT (fun(x:List Int×Unit)=>decide (List.length x.1<=2000000)) [(.sl 1 false (List.map enc x))])=true∧(∃ y3:List Int,AV.pv (Zf (fun(x:List Int×Unit)=>x.1) [(.sl 1 false (List.map enc x))])=AV.pv (enc y3)∧(G ((.tup [(.agg [(.str e),(.sl 1 false (List.map enc y2)),(.sl 1 false (List.map enc y3))]),(.int .i64 0)]))))))))))))))else((Go.Pl.preT (fun(x:List Int×Unit)=>true) [(.sl 1 false (List.map enc d))])=true∧(∃ y4:Int×Int,AV.pv (Zf (fun(x:List Int×Unit)=>WI x.1) [(.sl 1 false (List.map enc d))])=AV.pv (enc y4)∧(if (y4.2 != 0)=true then G ((.tup [(.agg [(.str []),(.sl 0 true []),(.sl 0 true [])]),(.int .i64 y4.2)]))else(if ((↑(List.length (List.map enc x)):Int) != y4.1)=true then G ((.tup [(.agg [(.str []),(.sl 0 true []),(.sl 0 true [])]),(.int .i64 1)]))else((Go.Pl.preT (fun(x:Str×List Int×Unit)=>decide (List.length x.2.1<=2000000)) [(.str e),(.sl 1 false (List.map enc x))])=true∧(∃ y5:Bool,AV.pv (Zf (fun(x:Str×List Int×Unit)=>List.all x.2.1 (WE x.1)) [(.str e),(.sl 1 false (List.map enc x))])=AV.pv (enc y5)∧(if (!y5)=true then G ((.tup [(.agg [(.str []),(.sl 0 true []),(.sl 0 true [])]),(.int .i64 2)]))else((Go.Pl.preT (fun(x:List Int×Unit)=>decide (List.length x.1<=2000000)) [(.sl 1 false (List.map enc d))])=true∧(∃ y6:List Int,AV.pv (Zf (fun(x:List Int×Unit)=>x.1) [(.sl 1 false (List.map enc d))])=AV.pv (enc y6)∧((Go.Pl.preT (fun(x:List Int×Unit)=>decide (List.length x.1<=2000000)) [(.sl 1 false (List.map enc x))])=true∧(∃ y7:List Int,AV.pv (Zf (fun(x:List Int×Unit)=>x.1) [(.sl 1 false (List.map enc x))])=AV.pv (enc y7)∧(G ((.tup [(.agg [(.str e),(.sl 1 false (List.map enc y6)),(.sl 1 false (List.map enc y7))]),(.int .i64 0)]))))))))))))))):Zc Fg 0 (Za Sw G) SE [] (Ye 45 [.str e,enc d,enc x]):=Zc.tp (.lit (.ask (.lit (.lit (.lit (.ask (.nil) (.req (.abs (Int×Int) (fun YY=>AV.pv (enc YY)) (.lit (.ask (.nil) (.lit (.ask (.nil) (.req (.abs (Bool) (fun YY=>AV.pv (enc YY)) (.ask (.nil) (.req (.abs (List Int) (fun YY=>AV.pv (enc YY)) (.req (.abs (List Int) (fun YY=>AV.pv (enc YY)) (.nil)))))))))))))))))) (.lit (.lit (.lit (.req (.abs (Int×Int) (fun YY=>AV.pv (enc YY)) (.lit (.ask (.nil) (.lit (.ask (.nil) (.req (.abs (Bool) (fun YY=>AV.pv (enc YY)) (.ask (.nil) (.req (.abs (List Int) (fun YY=>AV.pv (enc YY)) (.req (.abs (List Int) (fun YY=>AV.pv (enc YY)) (.nil))))))))))))))))))) h (by kernel_rfl)
def M4:IC:=(.seq (.reg [⟨(some 1),(.box 3 (.t 0)),0,none⟩,⟨(some 2),(.mv (.c (.bool false))),1,none⟩] none) (.seq (.reg [⟨(some 6),(.faddr 0 (.t 1)),0,none⟩,⟨(some 7),(.load false [.str] (.t 6)),0,none⟩,⟨(some 8),(.faddr 1 (.t 1)),0,none⟩,⟨(some 9),(.load false [(.sl 1)] (.t 8)),0,none⟩,⟨(some 10),(.faddr 2 (.t 1)),0,none⟩,⟨(some 11),(.load false [(.sl 1)] (.t 10)),0,none⟩,⟨(some 12),(.call (.c (.fn 96)) [(.t 7),(.t 9),(.t 11)]),0,none⟩,⟨(some 5),(.mv (.t 12)),2,none⟩,⟨(some 13),(.extract (.t 5) 0),2,none⟩,⟨(some 14),(.extract (.t 5) 1),2,none⟩,⟨(some 3),(.alloc (.agg [(.str []),(.sl 0 true []),(.sl 0 true [])])),2,none⟩,⟨none,(.store 3 (.t 3) (.t 13)),3,none⟩,⟨(some 4),(.mv (.t 14)),3,none⟩] none) (.seq (.reg [⟨(some 15),(.mv (.t 4)),0,none⟩,⟨(some 16),(.bin .num .eql (.t 15) (.c (.int .i64 0))),0,none⟩,⟨(some 2),(.mv (.t 16)),0,none⟩] none) .ret)))
def NP:List IRes:=[(.tmp 2)]
abbrev c0g:Nat:=17
def b1c:ZC:=Xi [(96,.pure (preT (fun x:Str×List Int×List Int×Unit=>decide (x.2.1.length<=2000000)&&decide (x.2.2.1.length<=2000000))) (Zf (fun x:Str×List Int×List Int×Unit=>M6 x.1 x.2.1 x.2.2.1)))]
theorem c3k{G:PV->Prop}(a:Arr)(h:(Go.Pl.preT (fun(x:Str×List Int×List Int×Unit)=>decide (List.length x.2.1<=2000000)&&decide (List.length x.2.2.1<=2000000)) [(.str (Str.s (Arr.e a))),(.sl 1 false (List.map enc (Arr.d a))),(.sl 1 false (List.map enc (Arr.x a)))])=true∧(∃ y0:Arr×Int,AV.pv (Zf (fun(x:Str×List Int×List Int×Unit)=>M6 x.1 x.2.1 x.2.2.1) [(.str (Str.s (Arr.e a))),(.sl 1 false (List.map enc (Arr.d a))),(.sl 1 false (List.map enc (Arr.x a)))])=AV.pv (enc y0)∧(G ((.bool (y0.2==0)))))):Zc b1c 0 (Za NP G) M4 [] (Ye 17 [enc a]):=Zc.tp (.req (.abs (Arr×Int) (fun YY=>AV.pv (enc YY)) (.lit (.nil)))) h (by kernel_rfl)
end Go.Pl

namespace Go.Pl
open Go.RowKit
open Enc (enc dec is)
open EncL (encL decL isL)
theorem b1j: ∀ a:Str×Int×Unit,true=true->Zc a6r 0 (Za NN (Zk (WE a.1 a.2.1))) Li [] (Ye b8w (encL a)):=by
 rintro⟨⟨e⟩,n,⟨⟩⟩ _
 refine c3z e n ?_
 simp only[beq_iff_eq,decide_eq_true_eq,Zk,b4r,a3x,true_and,WE,UA,VW,ge_iff_le]
 split
 ·split <;> simp[*]
 ·split
  ·split <;> simp[*]
  ·simp[*]
theorem b1r: ∀ args os,G7 args os=true->Zc b1d os.length (YB os.length MC fun r=>r=Td args os) L6 [] (Vb c0d args os):=by
 intro args os hp
 unfold G7 at hp
 split at hp
 ·rename_i n e
  refine c3o e n ?_
  exact Zg (⟨e⟩,n,()) rfl rfl
 ·cases hp
theorem DY(e:Str): ∀ (l:List Int) (k:Nat),decide (0<=V7 e l k) = !l.all (WE e)
 | [],k=>by simp[V7]
 | n::l,k=>by
  simp only[V7,List.all_cons]
  by_cases h:WE e n=true
  ·simp only[h,if_true,Bool.true_and];exact DY e l (k+1)
  ·simp only[Bool.not_eq_true]at h;simp[h]
theorem a2b(e:List UInt8)(l:List Int)(t:Bool)(hl:l.length<=2000000)(r:AV×List AObj×List AObj): ∀ (m k:Nat),m+k=l.length->r=(.pv (.int .i64 (V7 ⟨e⟩ (l.drop k) k)),[.box [.pv (.str e)]],[]) ->
  At D5 1 (YB 1 KH fun x=>x=r) Kh 0 a8i [(0,.pv (.sl 1 t (l.map enc))),(1,.fn 153 [] [.ptr 0 0]),(7,.pv (.int .i64 l.length)),(8,.pv (.int .i64 k))] [.obj (.box [.pv (.str e)])]:=by
 intro m
 induction m with
 | zero=>
  intro k hk hr
  refine a8d e l t k ?_
  rw[if_neg (by simp;omega),hr,List.drop_of_length_le (by omega)]
  rfl
 | succ m ih=>
  intro k hk hr
  have hlt:k<l.length:=by omega
  refine a8d e l t k ?_
  rw[if_pos (by simp;omega)]
  refine⟨by simp;omega,l[k],by rw[RA _ hlt],?_⟩
  rw[List.drop_eq_getElem_cons hlt,V7]at hr
  show if (!WE ⟨e⟩ l[k])=true then _ else _
  cases h:WE ⟨e⟩ l[k]with
  | true=>
   rw[if_neg (by simp),next (by omega)]
   rw[h,if_pos rfl]at hr
   exact ih (k+1) (by omega) hr
  | false=>
   rw[if_pos (by decide)]
   rw[h,if_neg (by simp)]at hr
   exact hr.symm
theorem b3f: ∀ args os,Wq args os=true->Zc D5 os.length (YB os.length KH fun r=>r=GR args os) Kh [] (Vb a8i args os):=by
 intro args os hp
 unfold Wq at hp
 split at hp
 ·rename_i t xs e
  simp only[Bool.and_eq_true,decide_eq_true_eq]at hp
  rw[F7 hp.1]
  have hl:(xs.map (dec:PV->Int)).length<=2000000:=by simpa using hp.2
  generalize xs.map (dec:PV->Int)=l at hl ⊢
  refine c4p e l t ?_
  rw[List.length_map]
  refine a2b e l t hl _ l.length 0 (by omega) ?_
  simp[GR]
 ·cases hp
theorem b4q: ∀ args os,Wq args os=true->Zc a9c os.length (YB os.length Mv fun r=>r=Si args os) M7 [] (Vb b8a args os):=by
 intro args os hp
 have hp':=hp
 unfold Wq at hp
 split at hp
 ·rename_i t xs e
  simp only[Bool.and_eq_true,decide_eq_true_eq]at hp
  rw[F7 hp.1]at hp' ⊢
  exact c3i e _ t ⟨hp',rfl⟩
 ·cases hp
theorem Rh: ∀ a:Str×List Int×Unit,decide (a.2.1.length<=2000000)=true->Zc Ke 0 (Za Qi (Zk (a.2.1.all (WE a.1)))) Qt [] (Ye Pt (encL a)):=by
 rintro⟨⟨e⟩,l,⟨⟩⟩ hp
 refine Mo e l ⟨?_,rfl,?_⟩
 ·simpa [Wq]using hp
 ·simp[DY]
theorem a3a: ∀ a:Str×List Int×List Int×Unit,(decide (a.2.1.length<=2000000)&&decide (a.2.2.1.length<=2000000))=true->Zc Fg 0 (Za Sw (Zk (M6 a.1 a.2.1 a.2.2.1))) SE [] (Ye b3m (encL a)):=by
 rintro⟨⟨e⟩,d,x,⟨⟩⟩ hp
 simp only[Bool.and_eq_true,decide_eq_true_eq]at hp
 refine b9g e d x ?_
 have hp1:=hp.1
 have hp2:=hp.2
 simp only[preT,Zf,a4s,b6i,E9,a6e,c3e,LD,b9k,b4z,c0i,Rz,List.isEmpty_iff,Bool.and_true,beq_self_eq_true,Bool.or_true,Bool.true_and,decide_eq_true_eq,AV.pv.injEq,c1s,exists_eq_left',hp1,hp2,true_and,Enc.sz,List.length_map,Zk,b9q,c2a,b8s,b1v,b4f,b2i,List.all_nil,List.isEmpty_nil,Bool.true_or,List.map_nil,Bool.not_eq_true',beq_eq_false_iff_ne,bne_iff_ne,M6,UA,VW]
 by_cases h1:e=[105,110,116]
 ·simp only[h1,ne_eq,not_true,if_false,false_and]
  split
  ·rfl
  ·split
   ·rfl
   ·split
    ·simp_all
    ·simp_all
 ·simp only[h1,ne_eq,not_false_eq_true,if_true,true_and]
  split
  ·rfl
  ·split
   ·rfl
   ·split
    ·rfl
    ·split
     ·simp_all
     ·simp_all
theorem b3h: ∀ a:Arr×Unit,Qk a.1=true->Zc b1c 0 (Za NP (Zk (Ud a.1))) M4 [] (Ye c0g (encL a)):=by
 rintro⟨a,⟨⟩⟩ hp
 refine c3k a ⟨Ze (a.e,a.d,a.x,()) rfl hp,Zg (a.e,a.d,a.x,()) rfl ?_⟩
 exact⟨rfl,rfl⟩
end Go.Pl

namespace Go.Pl
open Go.RowKit
set_option maxRecDepth 100000
def Wz:IC:=(.seq (.reg [⟨(some 4),(.mv (.c (.int .i64 0))),0,none⟩] none) (.seq (.seq (.reg [⟨(some 6),(.mv (.t 0)),0,none⟩,⟨(some 7),(.len 1 (.t 6)),0,none⟩,⟨(some 8),(.mv (.c (.int .i64 0))),0,none⟩] none) (.block 0 (.loop [8,7,1,0] (.seq (.reg [⟨(some 9),(.bin .num .lss (.t 8) (.t 7)),0,none⟩] none) (.seq (.cond (.t 9) .skip (.exit 0)) (.seq (.block 1 (.seq (.reg [⟨(some 10),(.mv (.t 8)),0,none⟩,⟨(some 5),(.mv (.t 10)),0,none⟩] none) (.seq (.reg [⟨(some 11),(.mv (.t 1)),0,none⟩,⟨(some 12),(.mv (.t 0)),0,none⟩,⟨(some 13),(.mv (.t 5)),0,none⟩,⟨(some 14),(.iaddr 1 (.t 12) (.t 13)),0,none⟩,⟨(some 15),(.load false [(.int .i64)] (.t 14)),0,none⟩,⟨(some 16),(.bin .num .eql (.t 11) (.t 15)),0,none⟩] none) (.cond (.t 16) (.seq (.reg [⟨(some 17),(.mv (.t 5)),0,none⟩,⟨(some 4),(.mv (.t 17)),0,none⟩] none) .ret) .skip)))) (.reg [⟨(some 18),(.bin .num .add (.t 8) (.c (.int .i64 1))),0,none⟩,⟨(some 8),(.mv (.t 18)),0,none⟩] none))))))) (.seq (.reg [⟨(some 4),(.mv (.c (.int .i64 (-1)))),0,none⟩] none) .ret)))
def WH:List IRes:=[(.tmp 4)]
def Vs:ZC:=Xi []
theorem a1k{r:PV}(ns:List Int)(t:Bool)(v:Int)(hn:At Vs 0 (fun st=>fin st WH=some r) Wz 0 19 [(0,(.pv (.sl 1 t (Zx ns)))),(1,(.pv (.int .i64 v))),(7,(.pv (.int .i64 (↑(Zx ns).length:Int)))),(8,(.pv (.int .i64 0)))] []):Zc Vs 0 (fun st=>fin st WH=some r) Wz [] (Ye 19 [.sl 1 t (Zx ns),.int .i64 v]):=Zc.w (.nil) hn (by kernel_rfl)
theorem LH{r:PV}(ns:List Int)(t:Bool)(v:Int)(i:Int)(h0:(decide (i<(↑(Zx ns).length:Int)))=true)(h1:(decide (0<=i)&&decide (i.toNat<(Zx ns).length)&&1==1)=true)(h2:(decide (0+[Sh.int .i64].length<=((Zx ns).getD i.toNat default).cells.length)&&Y5 ((Zx ns).getD i.toNat default).cells 0 [Sh.int .i64])=true)(h3:(v==(((Zx ns).getD i.toNat default).cells.getD 0 default).asInt)=true)(hr:(.int .i64 i)=r):At Vs 0 (fun st=>fin st WH=some r) Wz 0 19 [(0,.pv (.sl 1 t (Zx ns))),(1,.pv (.int .i64 v)),(7,.pv (.int .i64 (Zx ns).length)),(8,.pv (.int .i64 i))] []:=At.w (.lit (.ans true (.req (.req (.lit (.ans true (.nil))))))) (And.intro h0 (And.intro h1 (And.intro h2 (And.intro h3 hr)))) (by kernel_rfl)
theorem LJ{r:PV}(ns:List Int)(t:Bool)(v:Int)(i:Int)(h0:(decide (i<(↑(Zx ns).length:Int)))=true)(h1:(decide (0<=i)&&decide (i.toNat<(Zx ns).length)&&1==1)=true)(h2:(decide (0+[Sh.int .i64].length<=((Zx ns).getD i.toNat default).cells.length)&&Y5 ((Zx ns).getD i.toNat default).cells 0 [Sh.int .i64])=true)(h3:(v==(((Zx ns).getD i.toNat default).cells.getD 0 default).asInt)=false)(hn:At Vs 0 (fun st=>fin st WH=some r) Wz 0 19 [(0,(.pv (.sl 1 t (Zx ns)))),(1,(.pv (.int .i64 v))),(7,(.pv (.int .i64 (↑(Zx ns).length:Int)))),(8,(.pv (.int .i64 (IntKind.i64.wrap (i+1)))))] []):At Vs 0 (fun st=>fin st WH=some r) Wz 0 19 [(0,.pv (.sl 1 t (Zx ns))),(1,.pv (.int .i64 v)),(7,.pv (.int .i64 (Zx ns).length)),(8,.pv (.int .i64 i))] []:=At.w (.lit (.ans true (.req (.req (.lit (.ans false (.lit (.nil)))))))) (And.intro h0 (And.intro h1 (And.intro h2 (And.intro h3 hn)))) (by kernel_rfl)
theorem Ms{r:PV}(ns:List Int)(t:Bool)(v:Int)(i:Int)(h0:(decide (i<(↑(Zx ns).length:Int)))=false)(hr:(.int .i64 (-1))=r):At Vs 0 (fun st=>fin st WH=some r) Wz 0 19 [(0,.pv (.sl 1 t (Zx ns))),(1,.pv (.int .i64 v)),(7,.pv (.int .i64 (Zx ns).length)),(8,.pv (.int .i64 i))] []:=At.w (.lit (.ans false (.nil))) (And.intro h0 hr) (by kernel_rfl)
end Go.Pl

namespace Go.Pl
open Go.RowKit
def Mh(v:Int):List Int->Nat->Int
 | [],_=> -1
 | n::r,i=>bif v==n then i else Mh v r (i+1)
theorem a9u{v:Int}: ∀ {l:List Int} {i:Nat},decide (0<=Mh v l i)=l.any (· == v):=by
 intro l
 induction l with
 | nil=>intro i;rfl
 | cons n r ih=>
  intro i
  simp only[Mh,List.any_cons]
  by_cases h:v=n
  ·subst h;simp
  ·have h1:(v==n)=false:=by simpa using h
   have h2:(n==v)=false:=by simp;omega
   simp only[h1,h2,cond_false,Bool.false_or]
   exact ih
def QR:List PV->PV
 | [.sl _ _ xs,.int _ v]=>.int .i64 (Mh v (xs.map PV.asInt) 0)
 | _=>.nilp
theorem Mj(ns:List Int)(t:Bool)(v:Int)(hl:ns.length<=1099511627776){r:PV}: ∀ (m k:Nat),m+k=ns.length->r = .int .i64 (Mh v (ns.drop k) k) ->
  At Vs 0 (fun st=>fin st WH=some r) Wz 0 19 [(0,.pv (.sl 1 t (Zx ns))),(1,.pv (.int .i64 v)),(7,.pv (.int .i64 (Zx ns).length)),(8,.pv (.int .i64 k))] []:=by
 intro m
 induction m with
 | zero=>
  intro k hk hr
  rw[List.drop_of_length_le (by omega)]at hr
  exact Ms ns t v k (by simp;omega) hr.symm
 | succ m ih=>
  intro k hk hr
  have hlt:k<ns.length:=by omega
  have e:=CK hlt
  rw[List.drop_eq_getElem_cons hlt,Mh]at hr
  cases hb:v==ns[k]with
  | true=>
   rw[hb,cond_true]at hr
   exact LH ns t v k (by simp;omega) (by simp;omega) (by rw[e];rfl) (by rw[e];exact hb) hr.symm
  | false=>
   rw[hb,cond_false]at hr
   refine LJ ns t v k (by simp;omega) (by simp;omega) (by rw[e];rfl) (by rw[e];exact hb) ?_
   rw[next (by omega)]
   exact ih (k+1) (by omega) hr
theorem a1g: ∀ ps,Z9 ps=true->Zc Vs 0 (fun st=>fin st WH=some (QR ps)) Wz [] (Ye 19 ps):=by
 intro ps hp
 unfold Z9 at hp
 split at hp
 ·rename_i t xs v
  simp only[Bool.and_eq_true,decide_eq_true_eq]at hp
  obtain⟨ns,rfl⟩:=TF hp.1
  refine a1k ns t v ?_
  exact Mj ns t v (by have:=hp.2;rwa [Hy]at this) ns.length 0 (by omega) (by simp[QR])
 ·cases hp
def PV.ns(p:PV):List Int:=p.asXs.map PV.asInt
end Go.Pl

namespace Go.Pl
open Go.RowKit
def Qn:IC:=(.seq (.reg [⟨(some 4),(.mv (.c (.bool false))),0,none⟩] none) (.seq (.reg [⟨(some 5),(.mv (.t 0)),0,none⟩,⟨(some 6),(.mv (.t 1)),0,none⟩,⟨(some 7),(.call (.c (.fn 172)) [(.t 5),(.t 6)]),0,none⟩,⟨(some 8),(.bin .num .geq (.t 7) (.c (.int .i64 0))),2,none⟩,⟨(some 4),(.mv (.t 8)),2,none⟩] none) .ret))
def Qu:List IRes:=[(.tmp 4)]
abbrev Nu:Nat:=9
def Km:ZC:=Xi [(172,.pure Z9 QR)]
theorem SY{r:PV}(ns:List Int)(t:Bool)(v:Int)(h0:(Z9 [(.sl 1 t (Zx ns)),(.int .i64 v)])=true)(hr:(.bool (decide (Mh v (List.map PV.asInt (Zx ns)) 0 ≥ 0)))=r):Zc Km 0 (fun st=>fin st Qu=some r) Qn [] (Ye 9 [.sl 1 t (Zx ns),.int .i64 v]):=Zc.w (.req (.lit (.nil))) (And.intro h0 hr) (by kernel_rfl)
theorem Sj: ∀ ps,Z9 ps=true->Zc Km 0 (fun st=>fin st Qu=some (Vo ps)) Qn [] (Ye Nu ps):=by
 intro ps hp
 have hp':=hp
 unfold Z9 at hp
 split at hp
 ·rename_i t xs v
  simp only[Bool.and_eq_true,decide_eq_true_eq]at hp
  obtain⟨ns,rfl⟩:=TF hp.1
  refine SY ns t v hp' ?_
  have:=a9u (v:=v) (l:=ns) (i:=0)
  simp only[WL,Vo,DN,ge_iff_le]
  rw[<- this]
 ·cases hp
end Go.Pl

namespace Go.Pl
open Go.RowKit
open Enc (enc dec is)
open EncL (encL decL isL)
set_option maxRecDepth 100000
def Xe:IC:=(.seq (.reg [⟨(some 2),(.mv (.c (.bool false))),0,none⟩] none) (.seq (.seq (.reg [⟨(some 7),(.mv (.t 0)),0,none⟩,⟨(some 8),(.call (.c (.fn 114)) [(.t 7),(.c (.str [95]))]),0,none⟩] none) (.cond (.t 8) (.seq (.reg [⟨(some 10),(.mv (.t 0)),0,none⟩,⟨(some 11),(.strslc (.t 10) (some (.c (.int .i64 1))) none),0,none⟩,⟨(some 12),(.call (.c (.fn 115)) [(.t 11)]),0,none⟩,⟨(some 9),(.mv (.t 12)),2,none⟩,⟨(some 13),(.extract (.t 9) 0),2,none⟩,⟨(some 14),(.extract (.t 9) 1),2,none⟩,⟨(some 3),(.mv (.t 13)),2,none⟩,⟨(some 4),(.mv (.t 14)),2,none⟩] none) (.seq (.reg [⟨(some 15),(.mv (.t 4)),0,none⟩,⟨(some 16),(.bin .ifc .eql (.t 15) (.c .nili)),0,none⟩,⟨(some 17),(.mv (.t 16)),0,none⟩,⟨(some 18),(.mv (.t 3)),0,(some (17,true))⟩,⟨(some 19),(.bin .num .gtr (.t 18) (.c (.int .i64 0))),0,(some (17,true))⟩,⟨(some 20),(.pick (.t 17) (.t 19) (.c (.bool false))),0,none⟩,⟨(some 21),(.mv (.t 20)),0,none⟩,⟨(some 22),(.mv (.t 0)),0,(some (21,true))⟩,⟨(some 23),(.len 0 (.t 22)),0,(some (21,true))⟩,⟨(some 24),(.bin .num .leq (.t 23) (.c (.int .i64 10))),0,(some (21,true))⟩,⟨(some 25),(.pick (.t 21) (.t 24) (.c (.bool false))),0,none⟩,⟨(some 26),(.mv (.t 25)),0,none⟩,⟨(some 27),(.mv (.t 3)),0,(some (26,true))⟩,⟨(some 28),(.call (.c (.fn 51)) [(.t 27)]),0,(some (26,true))⟩,⟨(some 29),(.mv (.t 0)),2,(some (26,true))⟩,⟨(some 30),(.strslc (.t 29) (some (.c (.int .i64 1))) none),2,(some (26,true))⟩,⟨(some 31),(.bin .num .eql (.t 28) (.t 30)),2,(some (26,true))⟩,⟨(some 32),(.pick (.t 26) (.t 31) (.c (.bool false))),2,none⟩,⟨(some 2),(.mv (.t 32)),2,none⟩] (some [[],[0],[1,0],[2,1,0],[3,2,1,0],[2,4,1,0,3],[5,2,4,1,0,3],[6,5,2,4,1,0,3],[7,6,5,2,4,1,0,3],[8,6,7,5,2,4,1,0,3],[6,9,5,2,4,1,0,3,8,7],[10,6,9,5,2,4,1,0,3,8,7],[11,10,6,9,5,2,4,1,0,3,8,7],[12,11,10,6,9,5,2,4,1,0,3,8,7],[11,10,6,9,5,2,4,1,0,3,8,7],[14,11,10,6,9,5,2,4,1,0,3,8,7],[13,15,11,12,10,6,9,5,2,4,1,0,3,8,7,14],[11,16,10,6,9,5,2,4,1,0,3,8,7,13,15,12,14],[17,13,0,1,2,3,4,5,6,7,8,9,10,11,12,14,15,16]])) .ret)) .skip)) (.seq (.seq (.reg [⟨(some 33),(.mv (.t 0)),0,none⟩,⟨(some 34),(.sbytes (.t 33)),0,none⟩,⟨(some 35),(.len 1 (.t 34)),0,none⟩,⟨(some 36),(.mv (.c (.int .i64 0))),0,none⟩] none) (.block 0 (.loop [36,35,34,0] (.seq (.reg [⟨(some 37),(.bin .num .lss (.t 36) (.t 35)),0,none⟩] none) (.seq (.cond (.t 37) .skip (.exit 0)) (.seq (.block 1 (.seq (.reg [⟨(some 38),(.mv (.t 36)),0,none⟩,⟨(some 39),(.iaddr 1 (.t 34) (.t 36)),0,none⟩,⟨(some 40),(.load false [(.int .u8)] (.t 39)),0,none⟩,⟨(some 5),(.mv (.t 38)),0,none⟩,⟨(some 6),(.mv (.t 40)),0,none⟩] none) (.seq (.reg [⟨(some 41),(.mv (.t 6)),0,none⟩,⟨(some 42),(.bin .num .lss (.t 41) (.c (.int .u8 97))),0,none⟩,⟨(some 43),(.mv (.t 42)),0,none⟩,⟨(some 44),(.mv (.t 6)),0,(some (43,false))⟩,⟨(some 45),(.bin .num .gtr (.t 44) (.c (.int .u8 122))),0,(some (43,false))⟩,⟨(some 46),(.pick (.t 43) (.c (.bool true)) (.t 45)),0,none⟩,⟨(some 47),(.mv (.t 46)),0,none⟩,⟨(some 48),(.mv (.t 5)),0,(some (47,true))⟩,⟨(some 49),(.bin .num .eql (.t 48) (.c (.int .i64 0))),0,(some (47,true))⟩,⟨(some 50),(.mv (.t 49)),0,(some (47,true))⟩,⟨(some 51),(.mv (.t 6)),0,(some (50,false))⟩,⟨(some 52),(.bin .num .lss (.t 51) (.c (.int .u8 48))),0,(some (50,false))⟩,⟨(some 53),(.pick (.t 50) (.c (.bool true)) (.t 52)),0,(some (47,true))⟩,⟨(some 54),(.mv (.t 53)),0,(some (47,true))⟩,⟨(some 55),(.mv (.t 6)),0,(some (54,false))⟩,⟨(some 56),(.bin .num .gtr (.t 55) (.c (.int .u8 57))),0,(some (54,false))⟩,⟨(some 57),(.pick (.t 54) (.c (.bool true)) (.t 56)),0,(some (47,true))⟩,⟨(some 58),(.pick (.t 47) (.t 57) (.c (.bool false))),0,none⟩] none) (.cond (.t 58) (.seq (.reg [⟨(some 2),(.mv (.c (.bool false))),0,none⟩] none) .ret) .skip)))) (.reg [⟨(some 59),(.bin .num .add (.t 36) (.c (.int .i64 1))),0,none⟩,⟨(some 36),(.mv (.t 59)),0,none⟩] none))))))) (.seq (.reg [⟨(some 60),(.mv (.t 0)),0,none⟩,⟨(some 61),(.bin .num .neq (.t 60) (.c (.str []))),0,none⟩,⟨(some 62),(.mv (.t 61)),0,none⟩,⟨(some 63),(.mv (.t 0)),0,(some (62,true))⟩,⟨(some 64),(.len 0 (.t 63)),0,(some (62,true))⟩,⟨(some 65),(.bin .num .leq (.t 64) (.c (.int .i64 30))),0,(some (62,true))⟩,⟨(some 66),(.pick (.t 62) (.t 65) (.c (.bool false))),0,none⟩,⟨(some 2),(.mv (.t 66)),0,none⟩] none) .ret))))
def Xt:List IRes:=[(.tmp 2)]
abbrev a6w:Nat:=67
def X7:ZC:=Xi [(114,.pure (preT (fun _:Str×Str×Unit=>true)) (Zf (fun x:Str×Str×Unit=>x.2.1.s.isPrefixOf x.1.s))),(115,.pure (preT (fun x:Str×Unit=>decide (x.1.s.length<=1000000))) (Zf (fun x:Str×Unit=>Yg x.1))),(51,.pure (preT (fun x:Int×Unit=>decide (-9223372036854775808<=x.1)&&decide (x.1<=9223372036854775807))) (Zf (fun x:Int×Unit=>ZI x.1)))]
theorem b6g{G:PV->Prop}(s:List UInt8)(h : ∃ y0:Bool,AV.pv (Zf (fun(x:Str×Str×Unit)=>List.isPrefixOf (Str.s x.2.1) (Str.s x.1)) [(.str s),(.str [(95:UInt8)])])=AV.pv (enc y0)∧(if (y0)=true then(decide (0<=1)&&true&&decide (Int.toNat 1<=List.length s)&&decide (List.length s<=List.length s))=true∧((Go.Pl.preT (fun(x:Str×Unit)=>decide (List.length (Str.s x.1)<=1000000)) [(.str (List.drop (Int.toNat 1) (List.take (List.length s) s)))])=true∧(∃ y1:Int×Er,AV.pv (Zf (fun(x:Str×Unit)=>Yg x.1) [(.str (List.drop (Int.toNat 1) (List.take (List.length s) s)))])=AV.pv (enc y1)∧((Cy (enc y1.2)&&Prod.fst (true,PV.bool (VG (enc y1.2))))=true∧(if (VG (enc y1.2))=true then if (decide (y1.1>0))=true then if (decide ((↑(List.length s):Int)<=10))=true then(Go.Pl.preT (fun(x:Int×Unit)=>decide ((-9223372036854775808:Int)<=x.1)&&decide (x.1<=9223372036854775807)) [(.int .i64 y1.1)])=true∧(∃ y2:Str,AV.pv (Zf (fun(x:Int×Unit)=>ZI x.1) [(.int .i64 y1.1)])=AV.pv (enc y2)∧((decide (0<=1)&&true&&decide (Int.toNat 1<=List.length s)&&decide (List.length s<=List.length s))=true∧(G ((.bool (Str.s y2==List.drop (Int.toNat 1) (List.take (List.length s) s)))))))else(G ((.bool false)))else(G ((.bool false)))else(G ((.bool false)))))))else(At X7 0 (Za Xt G) Xe 0 67 [(0,(.pv (.str s))),(34,(.pv (.sl 1 false (Zd s)))),(35,(.pv (.int .i64 (↑(List.length (Zd s)):Int)))),(36,(.pv (.int .i64 0)))] []))):Zc X7 0 (Za Xt G) Xe [] (Ye 67 [.str s]):=Zc.tp (.lit (.abs (Bool) (fun YY=>AV.pv (enc YY)) (.ask (.req (.req (.abs (Int×Er) (fun YY=>AV.pv (enc YY)) (.req (.ask (.lit (.lit (.lit (.ask (.lit (.lit (.lit (.lit (.ask (.lit (.req (.abs (Str) (fun YY=>AV.pv (enc YY)) (.lit (.lit (.req (.lit (.lit (.lit (.nil)))))))))) (.lit (.lit (.lit (.lit (.lit (.nil))))))))))) (.lit (.lit (.lit (.lit (.lit (.lit (.lit (.lit (.lit (.nil)))))))))))))) (.lit (.lit (.lit (.lit (.lit (.lit (.lit (.lit (.lit (.lit (.lit (.lit (.nil)))))))))))))))))) (.nil)))) h (by kernel_rfl)
theorem Rl{G:PV->Prop}(s:List UInt8)(i:Int)(h:if (decide (i<(↑(List.length (Zd s)):Int)))=true then(decide (0<=i)&&decide (Int.toNat i<List.length (Zd s))&&1==1)=true∧((decide (0+List.length [Sh.int IntKind.u8]<=List.length (PV.cells (List.getD (Zd s) (Int.toNat i) default)))&&Y5 (PV.cells (List.getD (Zd s) (Int.toNat i) default)) 0 [Sh.int IntKind.u8])=true∧(if (decide (PV.asInt (List.getD (PV.cells (List.getD (Zd s) (Int.toNat i) default)) 0 default)<97))=true then if (i==0)=true then G ((.bool false))else(if (decide (PV.asInt (List.getD (PV.cells (List.getD (Zd s) (Int.toNat i) default)) 0 default)<48))=true then G ((.bool false))else(if (decide (PV.asInt (List.getD (PV.cells (List.getD (Zd s) (Int.toNat i) default)) 0 default)>57))=true then G ((.bool false))else(At X7 0 (Za Xt G) Xe 0 67 [(0,(.pv (.str s))),(34,(.pv (.sl 1 false (Zd s)))),(35,(.pv (.int .i64 (↑(List.length (Zd s)):Int)))),(36,(.pv (.int .i64 (IntKind.wrap IntKind.i64 (i+1)))))] [])))else(if (decide (PV.asInt (List.getD (PV.cells (List.getD (Zd s) (Int.toNat i) default)) 0 default)>122))=true then if (i==0)=true then G ((.bool false))else(if (decide (PV.asInt (List.getD (PV.cells (List.getD (Zd s) (Int.toNat i) default)) 0 default)<48))=true then G ((.bool false))else(if (decide (PV.asInt (List.getD (PV.cells (List.getD (Zd s) (Int.toNat i) default)) 0 default)>57))=true then G ((.bool false))else(At X7 0 (Za Xt G) Xe 0 67 [(0,(.pv (.str s))),(34,(.pv (.sl 1 false (Zd s)))),(35,(.pv (.int .i64 (↑(List.length (Zd s)):Int)))),(36,(.pv (.int .i64 (IntKind.wrap IntKind.i64 (i+1)))))] [])))else(At X7 0 (Za Xt G) Xe 0 67 [(0,(.pv (.str s))),(34,(.pv (.sl 1 false (Zd s)))),(35,(.pv (.int .i64 (↑(List.length (Zd s)):Int)))),(36,(.pv (.int .i64 (IntKind.wrap IntKind.i64 (i+1)))))] []))))else(if (!s==[])=true then G ((.bool (decide ((↑(List.length s):Int)<=30))))else(G ((.bool false))))):At X7 0 (Za Xt G) Xe 0 67 [(0,.pv (.str s)),(34,.pv (.sl 1 false (Zd s))),(35,.pv (.int .i64 (Zd s).length)),(36,.pv (.int .i64 i))] []:=At.tp (.lit (.ask (.req (.keep (.req (.lit (.ask (.lit (.lit (.lit (.lit (.lit (.lit (.ask (.lit (.lit (.lit (.lit (.lit (.lit (.lit (.lit (.lit (.lit (.nil))))))))))) (.lit (.lit (.lit (.lit (.lit (.ask (.lit (.lit (.lit (.lit (.lit (.nil)))))) (.lit (.lit (.lit (.lit (.lit (.ask (.nil) (.lit (.nil))))))))))))))))))))) (.lit (.lit (.lit (.ask (.lit (.lit (.lit (.ask (.lit (.lit (.lit (.lit (.lit (.lit (.lit (.lit (.lit (.lit (.nil))))))))))) (.lit (.lit (.lit (.lit (.lit (.ask (.lit (.lit (.lit (.lit (.lit (.nil)))))) (.lit (.lit (.lit (.lit (.lit (.ask (.nil) (.lit (.nil)))))))))))))))))) (.lit (.lit (.lit (.lit (.lit (.lit (.lit (.lit (.nil)))))))))))))))))) (.lit (.ask (.lit (.lit (.lit (.lit (.nil))))) (.lit (.lit (.lit (.nil)))))))) h (by kernel_rfl)
def XL:IC:=X0
def XN:List IRes:=[(.tmp 2)]
abbrev Eh:Nat:=54
def Wy:ZC:=Xi [(94,.pure (preT (fun _:Int×Unit=>true)) (Zf (fun x:Int×Unit=>Yj x.1))),(93,.pure (preT (fun x:Str×Unit=>decide (x.1.s.length<=1000000))) (Zf (fun x:Str×Unit=>Yf x.1)))]
theorem a8z{G:PV->Prop}(l:Lin)(h:At Wy 0 (Za XN G) XL 0 54 [(1,(.ptr 0 0)),(6,(.pv (.sl 2 false (List.map enc l.t)))),(7,(.pv (.int .i64 (↑(List.length (List.map enc l.t)):Int)))),(8,(.pv (.int .i64 0)))] [(.obj (.box [(.pv (.int .i64 l.k)),(.pv (.sl 2 false (List.map enc l.t)))]))]):Zc Wy 0 (Za XN G) XL [] (Ye 54 [enc l]):=Zc.tp (.nil) h (by kernel_rfl)
theorem Ar{G:PV->Prop}(l:Lin)(i:Int)(h:if (decide (i<(↑(List.length l.t):Int)))=true then(decide (0<=i)&&decide (Int.toNat i<List.length (List.map enc l.t))&&Enc.sz Coef==2)=true∧(∃ y0:Coef,AV.pv (PV.rptr (PV.cells (List.getD (List.map enc l.t) (Int.toNat i) default)))=AV.pv (PV.rptr (PV.cells ((enc) y0)))∧((Go.Pl.preT (fun(x:Str×Unit)=>decide (List.length (Str.s x.1)<=1000000)) [(.str (PV.asStr (List.getD (PV.cells (enc y0)) 0 default)))])=true∧(∃ y1:Bool,AV.pv (Zf (fun(x:Str×Unit)=>Yf x.1) [(.str (PV.asStr (List.getD (PV.cells (enc y0)) 0 default)))])=AV.pv (enc y1)∧(if (!y1)=true then G ((.bool false))else(if (PV.asInt (List.getD (PV.cells (enc y0)) (0+1) default)==0)=true then G ((.bool false))else(∃ y2:Bool,AV.pv (Zf (fun(x:Int×Unit)=>Yj x.1) [(.int .i64 (PV.asInt (List.getD (PV.cells (enc y0)) (0+1) default)))])=AV.pv (enc y2)∧(if (!y2)=true then G ((.bool false))else(if (decide (i>0))=true then(decide (0<=IntKind.wrap IntKind.i64 (i - 1))&&decide (Int.toNat (IntKind.wrap IntKind.i64 (i - 1))<List.length (List.map enc l.t))&&Enc.sz Coef==2)=true∧(∃ y3:Coef,AV.pv (PV.rptr (PV.cells (List.getD (List.map enc l.t) (Int.toNat (IntKind.wrap IntKind.i64 (i - 1))) default)))=AV.pv (PV.rptr (PV.cells ((enc) y3)))∧(if (!Op.bytesLess (PV.asStr (List.getD (List.drop 0 (PV.cells (enc y3))) 0 default)) (PV.asStr (List.getD (PV.cells (enc y0)) 0 default)))=true then G ((.bool false))else(At Wy 0 (Za XN G) XL 0 54 [(1,(.ptr 0 0)),(6,(.pv (.sl 2 false (List.map enc l.t)))),(7,(.pv (.int .i64 (↑(List.length l.t):Int)))),(8,(.pv (.int .i64 (IntKind.wrap IntKind.i64 (i+1)))))] [(.obj (.box [(.pv (.int .i64 l.k)),(.pv (.sl 2 false (List.map enc l.t)))]))])))else(At Wy 0 (Za XN G) XL 0 54 [(1,(.ptr 0 0)),(6,(.pv (.sl 2 false (List.map enc l.t)))),(7,(.pv (.int .i64 (↑(List.length l.t):Int)))),(8,(.pv (.int .i64 (IntKind.wrap IntKind.i64 (i+1)))))] [(.obj (.box [(.pv (.int .i64 l.k)),(.pv (.sl 2 false (List.map enc l.t)))]))])))))))))else(∃ y4:Bool,AV.pv (Zf (fun(x:Int×Unit)=>Yj x.1) [(.int .i64 l.k)])=AV.pv (enc y4)∧(if (y4)=true then G ((.bool (decide ((↑(List.length (List.map enc l.t)):Int)<=12))))else(G ((.bool false)))))):At Wy 0 (Za XN G) XL 0 54 [(1,.ptr 0 0),(6,.pv (enc l.t)),(7,.pv (.int .i64 l.t.length)),(8,.pv (.int .i64 i))] [.obj (.box [.pv (.int .i64 l.k),.pv (enc l.t)])]:=At.tp (.lit (.ask (.req (.abs (Coef) (fun YY=>AV.pv (PV.rptr (PV.cells ((enc) YY)))) (.lit (.req (.abs (Bool) (fun YY=>AV.pv (enc YY)) (.ask (.lit (.lit (.lit (.lit (.lit (.lit (.lit (.lit (.lit (.lit (.lit (.lit (.lit (.lit (.nil))))))))))))))) (.lit (.lit (.lit (.lit (.ask (.lit (.lit (.lit (.lit (.lit (.lit (.lit (.lit (.lit (.lit (.nil))))))))))) (.lit (.lit (.lit (.abs (Bool) (fun YY=>AV.pv (enc YY)) (.lit (.lit (.ask (.lit (.lit (.lit (.lit (.lit (.nil)))))) (.lit (.lit (.lit (.ask (.lit (.lit (.lit (.lit (.lit (.req (.abs (Coef) (fun YY=>AV.pv (PV.rptr (PV.cells ((enc) YY)))) (.lit (.lit (.lit (.lit (.lit (.lit (.lit (.lit (.lit (.lit (.ask (.nil) (.lit (.nil)))))))))))))))))))) (.lit (.lit (.lit (.lit (.lit (.lit (.lit (.lit (.lit (.lit (.lit (.lit (.lit (.lit (.nil))))))))))))))))))))))))))))))))))))) (.lit (.abs (Bool) (fun YY=>AV.pv (enc YY)) (.ask (.lit (.lit (.lit (.lit (.lit (.nil)))))) (.lit (.lit (.lit (.lit (.nil)))))))))) h (by kernel_rfl)
end Go.Pl

namespace Go.Pl
open Go.RowKit
open Enc (enc dec is)
open EncL (encL decL isL)
theorem RU{s:List UInt8}{i:Nat}(h:i<s.length):List.getD (Zd s) (Int.toNat (i:Int)) default = .int .u8 (s[i].toNat:Int):=by
 simp[Zd,List.getD,h]
theorem Vw(s:List UInt8):(Zd s).length=s.length:=by simp[Zd]
def RF(c:UInt8):Bool:=lowB c||digB c
theorem SV{c:UInt8}:lowB c=true ↔ 97<=c.toNat∧c.toNat<=122:=by
 simp only[lowB,Bool.and_eq_true,decide_eq_true_eq,UInt8.le_iff_toNat_le]
 have e1:(97:UInt8).toNat=97:=rfl
 have e2:(122:UInt8).toNat=122:=rfl
 rw[e1,e2]
theorem QQ{c:UInt8}(h : ¬ (97<=c.toNat∧c.toNat<=122)):lowB c=false:=by
 cases e:lowB c
 ·rfl
 ·exact absurd (SV.1 e) h
theorem QL{c:UInt8}(h : ¬ (48<=c.toNat∧c.toNat<=57)):digB c=false:=by
 cases e:digB c
 ·rfl
 ·exact absurd (XX.1 e) h
def Xf(s:List UInt8)(i:Nat):Bool:=(match i with|0=>(match s with|[]=>true|c::r=>lowB c&&r.all RF)|i+1=>(s.drop (i+1)).all RF)&&(!(s==[]))&&decide (s.length<=30)
theorem Ah{s:List UInt8}{i:Nat}(h:i<s.length)(hb:lowB s[i]=true∨(i≠0∧digB s[i]=true)):Xf s i=Xf s (i+1):=by
 cases i with
 | zero=>
  cases s with
  | nil=>simp at h
  | cons c r=>
   rcases hb with hb|hb
   ·have hb:lowB c=true:=hb
    simp[Xf,hb]
   ·exact absurd rfl hb.1
 | succ i=>
  unfold Xf
  simp only
  rw[List.drop_eq_getElem_cons h,List.all_cons]
  have:RF s[i+1]=true:=by
   rcases hb with hb|hb
   ·simp[RF,hb]
   ·simp[RF,hb.2]
  rw[this,Bool.true_and]
theorem Aq{s:List UInt8}{i:Nat}(h:i<s.length)(hb:lowB s[i]=false∧(i=0∨digB s[i]=false)):Xf s i=false:=by
 cases i with
 | zero=>
  cases s with
  | nil=>simp at h
  | cons c r=>
   have hb:lowB c=false:=hb.1
   simp[Xf,hb]
 | succ i=>
  unfold Xf
  simp only
  rw[List.drop_eq_getElem_cons h,List.all_cons]
  have:RF s[i+1]=false:=by
   rcases hb.2 with h0|h0
   ·cases h0
   ·simp[RF,hb.1,h0]
  rw[this];simp
theorem Lf(s:List UInt8)(hs:s.length<=1000000): ∀ (m i:Nat),m+i=s.length->At X7 0 (Za Xt (Zk (Xf s i))) Xe 0 67 [(0,.pv (.str s)),(34,.pv (.sl 1 false (Zd s))),(35,.pv (.int .i64 (Zd s).length)),(36,.pv (.int .i64 i))] []:=by
 intro m
 induction m with
 | zero=>
  intro i hi
  have e:Xf s i=(!(s==[])&&decide (s.length<=30)):=by
   unfold Xf
   cases i with
   | zero=>cases s with
    | nil=>rfl
    | cons c r=>simp at hi
   | succ i=>simp only;rw[List.drop_of_length_le (show s.length<=i+1 by omega)];simp
  rw[e]
  refine Rl s i (XR (YV (by rw[Vw];omega)) (WC (fun h=>Z0 ?_) fun h=>Z0 ?_))
  ·rw[h,Bool.true_and];exact decide_eq_decide.2 (by omega)
  ·rw[h,Bool.false_and]
 | succ m ih=>
  intro i hi
  have hlt:i<s.length:=by omega
  have h:=ih (i+1) (by omega)
  refine Rl s i ?_
  rw[RU hlt,next (by omega)]
  have stop:(lowB s[i]=false∧(i=0∨digB s[i]=false))->Zk (Xf s i) (.bool false):=fun hb=>Z0 (Aq hlt hb).symm
  have go:(lowB s[i]=true∨(i≠0∧digB s[i]=true))->At X7 0 (Za Xt (Zk (Xf s i))) Xe 0 67 [(0,.pv (.str s)),(34,.pv (.sl 1 false (Zd s))),(35,.pv (.int .i64 (Zd s).length)),(36,.pv (.int .i64 ((i+1:Nat):Int)))] []:=fun hb=>by rw[Ah hlt hb];exact h
  have rest:lowB s[i]=false->(if ((i:Int)==0)=true then Zk (Xf s i) (.bool false)else if decide ((s[i].toNat:Int)<48)=true then Zk (Xf s i) (.bool false)else if decide ((s[i].toNat:Int)>57)=true then Zk (Xf s i) (.bool false)else At X7 0 (Za Xt (Zk (Xf s i))) Xe 0 67 [(0,.pv (.str s)),(34,.pv (.sl 1 false (Zd s))),(35,.pv (.int .i64 (Zd s).length)),(36,.pv (.int .i64 ((i+1:Nat):Int)))] []):=by
   intro hl
   refine ZU (fun h0=>stop ⟨hl,.inl (by omega)⟩) fun h0=>Yp (fun h1=>stop ⟨hl,.inr (QL (by omega))⟩) fun h1=>Yp (fun h2=>stop ⟨hl,.inr (QL (by omega))⟩) fun h2=>go (.inr ⟨by omega,XX.2 (by omega)⟩)
  refine XQ (YU (by rw[Vw];exact hlt)) ⟨by rw[Vw];simp[hlt],by rfl,?_⟩
  refine Yp (fun h1=>rest (QQ ?_)) fun h1=>Yp (fun h2=>rest (QQ ?_)) fun h2=>go (.inl (SV.2 ?_))
  ·have h1:(s[i].toNat:Int)<97:=h1
   omega
  ·have h2:(s[i].toNat:Int)>122:=h2
   omega
  ·have h1 : ¬ (s[i].toNat:Int)<97:=h1
   have h2 : ¬ (s[i].toNat:Int)>122:=h2
   omega
theorem BV{s:List UInt8}(h:[95].isPrefixOf s=false):Yf ⟨s⟩=Xf s 0:=by
 cases s with
 | nil=>rfl
 | cons c r=>
  have hc : ¬ c=95:=by intro e;subst e;simp at h
  have e:decide ((c::r).length<=30)=decide (r.length<=29):=decide_eq_decide.2 (by simp)
  unfold Xf
  rw[e]
  simp only[Yf,if_neg hc]
  show _=(lowB c&&r.all RF&& !((c::r)==[])&&_)
  have e2:((c::r)==[])=false:=rfl
  rw[e2]
  simp only[Bool.not_false,Bool.and_true]
  rfl
theorem Cc(s:Str): -9223372036854775808<=(Yg s).1∧((Yg s).1<=9223372036854775807):=by
 unfold Yg
 split
 ·rename_i v hv;exact Lib.atoiAll_bounds hv
 ·have:=Lib.atoiSat_bounds s.s
  exact⟨by show _<=Lib.atoiSat s.s;omega,by show Lib.atoiSat s.s<=_;omega⟩
 ·exact⟨by show(-9223372036854775808:Int)<=0;omega,by show(0:Int)<=_;omega⟩
theorem EP: ∀ a:Str×Unit,decide (a.1.s.length<=1000000)=true->Zc X7 0 (Za Xt (Zk (Yf a.1))) Xe [] (Ye a6w (encL a)):=by
 rintro⟨⟨s⟩,⟨⟩⟩ hl
 have hl:s.length<=1000000:=by simpa using hl
 refine b6g s (Zg (⟨s⟩,⟨[95]⟩,()) rfl (WC (fun h=> ?_) fun h=> ?_))
 ·have h:[95].isPrefixOf s=true:=h
  obtain⟨r,rfl⟩ : ∃ r,s=95::r:=by
   cases s with
   | nil=>simp at h
   | cons c r=>
    have:95=c:=by simpa using h
    exact⟨r,by rw[this]⟩
  have e1:List.drop (Int.toNat 1) (List.take (List.length (95::r)) (95::r))=r:=by rw[List.take_of_length_le (Nat.le_refl _)];rfl
  simp only[e1]
  refine⟨by simp,Ze (⟨r⟩,()) rfl (by simp at hl ⊢;omega),Zg (⟨r⟩,()) rfl ⟨by show(Cy (enc (Yg ⟨r⟩).2)&&true)=true;rw[b7v];rfl,?_⟩⟩
  show if VG (enc (Yg ⟨r⟩).2)=true then(if decide ((Yg ⟨r⟩).1>0)=true then(if _ then _ else Zk (Yf ⟨95::r⟩) _)else Zk (Yf ⟨95::r⟩) _)else Zk (Yf ⟨95::r⟩) _
  rw[PR]
  by_cases h9:r.length<=9
  ·rw[<- Od r h9,decide_eq_true h9,Bool.and_true]
   refine WC (fun h1=>WC (fun h2=>XQ (by simp;omega) ⟨Ze ((Yg ⟨r⟩).1,()) rfl (by have:=Cc ⟨r⟩;simp;omega),Zg ((Yg ⟨r⟩).1,()) rfl ⟨by simp,Z0 ?_⟩⟩) fun h2=>Z0 ?_) fun h1=>Z0 ?_
   ·rw[h1,h2];simp only[Bool.true_and,Bool.and_true];rfl
   ·rw[h2];simp
   ·rw[h1];simp
  ·rw[decide_eq_false h9,Bool.and_false]
   refine WC (fun h1=>WC (fun h2=>XR (by simp;omega) (Z0 rfl)) fun h2=>Z0 rfl) fun h1=>Z0 rfl
 ·have h:[95].isPrefixOf s=false:=h
  show At X7 0 (Za Xt (Zk (Yf ⟨s⟩))) Xe 0 67 _ _
  rw[BV h]
  exact Lf s hl s.length 0 (by omega)
theorem Rv(l:Lin)(hl:l.t.length<=9223372036854775807)(hs:l.t.all (fun t=>decide (t.v.s.length<=1000000))=true): ∀ (j i:Nat),j+i=l.t.length->At Wy 0 (Za XN (Zk (Gn (pvS l.t i) (l.t.drop i)&&(Yj l.k&&decide (l.t.length<=12))))) XL 0 54 [(1,.ptr 0 0),(6,.pv (enc l.t)),(7,.pv (.int .i64 l.t.length)),(8,.pv (.int .i64 i))] [.obj (.box [.pv (.int .i64 l.k),.pv (enc l.t)])]:=by
 intro j
 induction j with
 | zero=>
  intro i hi
  refine Ar l i (XR (YV (by omega)) (Zg (l.k,()) rfl ?_))
  rw[List.drop_of_length_le (show l.t.length<=i by omega)]
  refine WC (fun h=>Z0 ?_) fun h=>Z0 ?_
  ·have h:Yj l.k=true:=h
   rw[h]
   show _=(true&&(true&&_))
   rw[Bool.true_and,Bool.true_and]
   exact decide_eq_decide.2 (by simp;omega)
  ·have h:Yj l.k=false:=h
   rw[h];simp
 | succ j ih=>
  intro i hi
  have hlt:i<l.t.length:=by omega
  have h:=ih (i+1) (by omega)
  have hsi:l.t[i].v.s.length<=1000000:=by rw[List.all_eq_true]at hs;simpa using hs _ (List.getElem_mem hlt)
  refine Ar l i ?_
  refine XQ (YU hlt) ⟨Yl hlt rfl,Y9 hlt ⟨Ze (l.t[i].v,()) rfl (by simpa using hsi),Zg (l.t[i].v,()) rfl (Gj (fun hn=> ?_) fun hn=>ZU (fun hc=> ?_) fun hc=>Zg (l.t[i].c,()) rfl (Gj (fun hk=> ?_) fun hk=> ?_))⟩⟩
  all_goals rw[List.drop_eq_getElem_cons hlt,KU]
  ·have hn:Yf l.t[i].v=false:=hn
   exact Z0 (by simp[hn])
  ·have hc:l.t[i].c=0:=hc
   exact Z0 (by simp[hc])
  ·have hk:Yj l.t[i].c=false:=hk
   exact Z0 (by simp[hk])
  have hn:Yf l.t[i].v=true:=hn
  have hk:Yj l.t[i].c=true:=hk
  have hc:l.t[i].c≠0:=hc
  rw[next (by omega),hn,hk,decide_eq_true hc]
  have ep:pvS l.t (i+1)=some l.t[i].v.s:=by simp[pvS,hlt]
  rw[ep]at h
  cases i with
  | zero=>exact XR (by simp) h
  | succ i=>
   refine XQ (by simp) ?_
   rw[OC (by omega)]
   refine⟨Yl (by omega) rfl,Y9 (by omega) ?_⟩
   have e2:pvS l.t (i+1)=some l.t[i].v.s:=by simp[pvS,show i<l.t.length by omega]
   rw[e2]
   refine Gj (fun hb=> ?_) fun hb=> ?_
   all_goals
    have hb':=(UK l.t[i].v.s l.t[i+1].v.s).symm.trans hb
    simp only[hb',Bool.and_true,Bool.true_and,Bool.and_false,Bool.false_and]
   ·exact Z0 rfl
   ·exact h
theorem MU: ∀ a:Lin×Unit,VN a.1=true->Zc Wy 0 (Za XN (Zk (Zw a.1))) XL [] (Ye Eh (encL a)):=by
 rintro⟨l,⟨⟩⟩ hl
 simp only[VN,H7,Bool.and_eq_true,decide_eq_true_eq]at hl
 refine a8z l ?_
 show At Wy 0 (Za XN (Zk (Zw l))) XL 0 54 _ _
 have e:Zw l=(Gn (pvS l.t 0) (l.t.drop 0)&&(Yj l.k&&decide (l.t.length<=12))):=by rw[Rs,Bool.and_comm];rfl
 rw[e,List.length_map]
 exact Rv l hl.1 hl.2 l.t.length 0 (by omega)
end Go.Pl

namespace Go.Pl
open Go.RowKit
open Enc (enc dec is)
open EncL (encL decL isL)
set_option maxRecDepth 100000
def Tw:IC:=(.seq (.reg [⟨(some 6),(.mv (.t 0)),0,none⟩,⟨(some 7),(.call (.c (.fn 51)) [(.t 6)]),0,none⟩,⟨(some 5),(.mv (.t 7)),2,none⟩] none) (.seq (.seq (.reg [⟨(some 8),(.mv (.t 1)),0,none⟩,⟨(some 9),(.bin .num .neq (.t 8) (.c (.str []))),0,none⟩,⟨(some 10),(.mv (.t 9)),0,none⟩,⟨(some 11),(.mv (.t 0)),0,(some (10,true))⟩,⟨(some 12),(.bin .num .eql (.t 11) (.c (.int .i64 1))),0,(some (10,true))⟩,⟨(some 13),(.mv (.t 12)),0,(some (10,true))⟩,⟨(some 14),(.mv (.t 0)),0,(some (13,false))⟩,⟨(some 15),(.bin .num .eql (.t 14) (.c (.int .i64 (-1)))),0,(some (13,false))⟩,⟨(some 16),(.pick (.t 13) (.c (.bool true)) (.t 15)),0,(some (10,true))⟩,⟨(some 17),(.pick (.t 10) (.t 16) (.c (.bool false))),0,none⟩] none) (.cond (.t 17) (.reg [⟨(some 18),(.mv (.t 5)),0,none⟩,⟨(some 19),(.call (.c (.fn 58)) [(.t 18),(.c (.str [49]))]),0,none⟩,⟨(some 5),(.mv (.t 19)),2,none⟩] none) .skip)) (.seq (.seq (.reg [⟨(some 20),(.mv (.t 0)),0,none⟩,⟨(some 21),(.bin .num .geq (.t 20) (.c (.int .i64 0))),0,none⟩,⟨(some 22),(.mv (.t 21)),0,none⟩,⟨(some 23),(.load false [.str] (.t 2)),0,(some (22,true))⟩,⟨(some 24),(.bin .num .neq (.t 23) (.c (.str []))),0,(some (22,true))⟩,⟨(some 25),(.pick (.t 22) (.t 24) (.c (.bool false))),0,none⟩] none) (.cond (.t 25) (.reg [⟨(some 26),(.load false [.str] (.t 2)),0,none⟩,⟨(some 27),(.bin .num .add (.t 26) (.c (.str [43]))),0,none⟩,⟨none,(.store 1 (.t 2) (.t 27)),0,none⟩] none) .skip)) (.reg [⟨(some 28),(.load false [.str] (.t 2)),0,none⟩,⟨(some 29),(.mv (.t 5)),0,none⟩,⟨(some 30),(.mv (.t 1)),0,none⟩,⟨(some 31),(.bin .num .add (.t 29) (.t 30)),0,none⟩,⟨(some 32),(.bin .num .add (.t 28) (.t 31)),0,none⟩,⟨none,(.store 1 (.t 2) (.t 32)),0,none⟩] none))))
def AY:List IRes:=[]
abbrev b4w:Nat:=33
def LZ:ZC:=Xi [(51,.pure (preT (fun x:Int×Unit=>decide (-9223372036854775808<=x.1)&&decide (x.1<=9223372036854775807))) (Zf (fun x:Int×Unit=>ZI x.1))),(58,.pure (preT (fun x:Str×Str×Unit=>decide (x.1.s.length<=1000000))) (Zf (fun x:Str×Str×Unit=>(⟨Lib.trimSuffix x.1.s x.2.1.s⟩:Str))))]
theorem b8u{G:AV×List AObj×List AObj->Prop}(n:Int)(s o:List UInt8)(h:(Go.Pl.preT (fun(x:Int×Unit)=>decide ((-9223372036854775808:Int)<=x.1)&&decide (x.1<=9223372036854775807)) [(.int .i64 n)])=true∧(∃ y0:Str,AV.pv (Zf (fun(x:Int×Unit)=>ZI x.1) [(.int .i64 n)])=AV.pv (enc y0)∧(if (!s==[])=true then if (n==1)=true then(Go.Pl.preT (fun(x:Str×Str×Unit)=>decide (List.length (Str.s x.1)<=1000000)) [(.str (Str.s y0)),(.str [(49:UInt8)])])=true∧(∃ y1:Str,AV.pv (Zf (fun(x:Str×Str×Unit)=>Str.mk (Lib.trimSuffix (Str.s x.1) (Str.s x.2.1))) [(.str (Str.s y0)),(.str [(49:UInt8)])])=AV.pv (enc y1)∧(if (decide (n ≥ 0))=true then if (!o==[])=true then(decide (List.length o+List.length [(43:UInt8)]<=1099511627776))=true∧((decide (List.length (Str.s y1)+List.length s<=1099511627776))=true∧((decide (List.length (o++[(43:UInt8)])+List.length (Str.s y1++s)<=1099511627776))=true∧(G (((.tup []),([(.box [(.pv (.str (o++[(43:UInt8)]++(Str.s y1++s))))])],[]))))))else((decide (List.length (Str.s y1)+List.length s<=1099511627776))=true∧((decide (List.length o+List.length (Str.s y1++s)<=1099511627776))=true∧(G (((.tup []),([(.box [(.pv (.str (o++(Str.s y1++s))))])],[]))))))else((decide (List.length (Str.s y1)+List.length s<=1099511627776))=true∧((decide (List.length o+List.length (Str.s y1++s)<=1099511627776))=true∧(G (((.tup []),([(.box [(.pv (.str (o++(Str.s y1++s))))])],[]))))))))else(if (n==(-1:Int))=true then(Go.Pl.preT (fun(x:Str×Str×Unit)=>decide (List.length (Str.s x.1)<=1000000)) [(.str (Str.s y0)),(.str [(49:UInt8)])])=true∧(∃ y2:Str,AV.pv (Zf (fun(x:Str×Str×Unit)=>Str.mk (Lib.trimSuffix (Str.s x.1) (Str.s x.2.1))) [(.str (Str.s y0)),(.str [(49:UInt8)])])=AV.pv (enc y2)∧(if (decide (n ≥ 0))=true then if (!o==[])=true then(decide (List.length o+List.length [(43:UInt8)]<=1099511627776))=true∧((decide (List.length (Str.s y2)+List.length s<=1099511627776))=true∧((decide (List.length (o++[(43:UInt8)])+List.length (Str.s y2++s)<=1099511627776))=true∧(G (((.tup []),([(.box [(.pv (.str (o++[(43:UInt8)]++(Str.s y2++s))))])],[]))))))else((decide (List.length (Str.s y2)+List.length s<=1099511627776))=true∧((decide (List.length o+List.length (Str.s y2++s)<=1099511627776))=true∧(G (((.tup []),([(.box [(.pv (.str (o++(Str.s y2++s))))])],[]))))))else((decide (List.length (Str.s y2)+List.length s<=1099511627776))=true∧((decide (List.length o+List.length (Str.s y2++s)<=1099511627776))=true∧(G (((.tup []),([(.box [(.pv (.str (o++(Str.s y2++s))))])],[]))))))))else(if (decide (n ≥ 0))=true then if (!o==[])=true then(decide (List.length o+List.length [(43:UInt8)]<=1099511627776))=true∧((decide (List.length (Str.s y0)+List.length s<=1099511627776))=true∧((decide (List.length (o++[(43:UInt8)])+List.length (Str.s y0++s)<=1099511627776))=true∧(G (((.tup []),([(.box [(.pv (.str (o++[(43:UInt8)]++(Str.s y0++s))))])],[]))))))else((decide (List.length (Str.s y0)+List.length s<=1099511627776))=true∧((decide (List.length o+List.length (Str.s y0++s)<=1099511627776))=true∧(G (((.tup []),([(.box [(.pv (.str (o++(Str.s y0++s))))])],[]))))))else((decide (List.length (Str.s y0)+List.length s<=1099511627776))=true∧((decide (List.length o+List.length (Str.s y0++s)<=1099511627776))=true∧(G (((.tup []),([(.box [(.pv (.str (o++(Str.s y0++s))))])],[]))))))))else(if (decide (n ≥ 0))=true then if (!o==[])=true then(decide (List.length o+List.length [(43:UInt8)]<=1099511627776))=true∧((decide (List.length (Str.s y0)+List.length s<=1099511627776))=true∧((decide (List.length (o++[(43:UInt8)])+List.length (Str.s y0++s)<=1099511627776))=true∧(G (((.tup []),([(.box [(.pv (.str (o++[(43:UInt8)]++(Str.s y0++s))))])],[]))))))else((decide (List.length (Str.s y0)+List.length s<=1099511627776))=true∧((decide (List.length o+List.length (Str.s y0++s)<=1099511627776))=true∧(G (((.tup []),([(.box [(.pv (.str (o++(Str.s y0++s))))])],[]))))))else((decide (List.length (Str.s y0)+List.length s<=1099511627776))=true∧((decide (List.length o+List.length (Str.s y0++s)<=1099511627776))=true∧(G (((.tup []),([(.box [(.pv (.str (o++(Str.s y0++s))))])],[])))))))))):Zc LZ 1 (YB 1 AY G) Tw [] (Vb 33 [.pv (enc n),.pv (.str s),.ptr 0 0] [.box [.pv (.str o)]]):=Zc.to (.req (.abs (Str) (fun YY=>AV.pv (enc YY)) (.lit (.ask (.lit (.lit (.lit (.ask (.lit (.lit (.lit (.lit (.lit (.req (.abs (Str) (fun YY=>AV.pv (enc YY)) (.lit (.ask (.lit (.lit (.lit (.ask (.req (.req (.req (.nil)))) (.req (.req (.nil))))))) (.lit (.lit (.lit (.req (.req (.nil))))))))))))))) (.lit (.lit (.lit (.lit (.lit (.ask (.req (.abs (Str) (fun YY=>AV.pv (enc YY)) (.lit (.ask (.lit (.lit (.lit (.ask (.req (.req (.req (.nil)))) (.req (.req (.nil))))))) (.lit (.lit (.lit (.req (.req (.nil)))))))))) (.lit (.ask (.lit (.lit (.lit (.ask (.req (.req (.req (.nil)))) (.req (.req (.nil))))))) (.lit (.lit (.lit (.req (.req (.nil)))))))))))))))))) (.lit (.lit (.lit (.lit (.lit (.lit (.ask (.lit (.lit (.lit (.ask (.req (.req (.req (.nil)))) (.req (.req (.nil))))))) (.lit (.lit (.lit (.req (.req (.nil))))))))))))))))) h (by kernel_rfl)
def WM:IC:=(.seq (.reg [⟨(some 1),(.box 2 (.t 0)),0,none⟩,⟨(some 2),(.mv (.c (.str []))),1,none⟩] none) (.seq (.seq (.reg [⟨(some 7),(.load true [(.int .i64),(.sl 2)] (.t 1)),0,none⟩,⟨(some 8),(.call (.c (.fn 56)) [(.t 7)]),0,none⟩,⟨(some 9),(.un .not (.t 8)),2,none⟩] none) (.cond (.t 9) (.seq (.reg [⟨(some 2),(.mv (.c (.str []))),0,none⟩] none) .ret) .skip)) (.seq (.reg [⟨(some 3),(.alloc (.str [])),0,none⟩,⟨none,(.store 1 (.t 3) (.c (.str []))),1,none⟩] none) (.seq (.reg [⟨(some 10),(.mkfn 57 [] [(.t 3)]),0,none⟩,⟨(some 4),(.mv (.t 10)),0,none⟩] none) (.seq (.seq (.reg [⟨(some 11),(.faddr 1 (.t 1)),0,none⟩,⟨(some 12),(.load false [(.sl 2)] (.t 11)),0,none⟩,⟨(some 13),(.len 1 (.t 12)),0,none⟩,⟨(some 14),(.mv (.c (.int .i64 0))),0,none⟩] none) (.block 0 (.loop [14,13,12,4,1,3] (.seq (.reg [⟨(some 15),(.bin .num .lss (.t 14) (.t 13)),0,none⟩] none) (.seq (.cond (.t 15) .skip (.exit 0)) (.seq (.block 1 (.seq (.reg [⟨(some 16),(.iaddr 2 (.t 12) (.t 14)),0,none⟩,⟨(some 17),(.load true [.str,(.int .i64)] (.t 16)),0,none⟩,⟨(some 6),(.alloc (.agg [(.str []),(.int .i64 0)])),0,none⟩,⟨none,(.store 2 (.t 6) (.t 17)),1,none⟩] none) (.reg [⟨(some 18),(.mv (.t 4)),0,none⟩,⟨(some 19),(.faddr 1 (.t 6)),0,none⟩,⟨(some 20),(.load false [(.int .i64)] (.t 19)),0,none⟩,⟨(some 21),(.faddr 0 (.t 6)),0,none⟩,⟨(some 22),(.load false [.str] (.t 21)),0,none⟩,⟨(some 23),(.call (.t 18) [(.t 20),(.t 22)]),0,none⟩] none))) (.reg [⟨(some 24),(.bin .num .add (.t 14) (.c (.int .i64 1))),0,none⟩,⟨(some 14),(.mv (.t 24)),0,none⟩] none))))))) (.seq (.seq (.reg [⟨(some 25),(.faddr 0 (.t 1)),0,none⟩,⟨(some 26),(.load false [(.int .i64)] (.t 25)),0,none⟩,⟨(some 27),(.bin .num .neq (.t 26) (.c (.int .i64 0))),0,none⟩,⟨(some 28),(.mv (.t 27)),0,none⟩,⟨(some 29),(.load false [.str] (.t 3)),0,(some (28,false))⟩,⟨(some 30),(.bin .num .eql (.t 29) (.c (.str []))),0,(some (28,false))⟩,⟨(some 31),(.pick (.t 28) (.c (.bool true)) (.t 30)),0,none⟩] none) (.cond (.t 31) (.reg [⟨(some 32),(.mv (.t 4)),0,none⟩,⟨(some 33),(.faddr 0 (.t 1)),0,none⟩,⟨(some 34),(.load false [(.int .i64)] (.t 33)),0,none⟩,⟨(some 35),(.call (.t 32) [(.t 34),(.c (.str []))]),0,none⟩] none) .skip)) (.seq (.reg [⟨(some 36),(.load false [.str] (.t 3)),0,none⟩,⟨(some 2),(.mv (.t 36)),0,none⟩] none) .ret)))))))
def Wm:List IRes:=[(.tmp 2)]
abbrev a1j:Nat:=37
def WX:ZC:=Xi [(56,.pure (preT (fun x:Lin×Unit=>VN x.1)) (Zf (fun x:Lin×Unit=>Zw x.1))),(57,.own XF JE)]
theorem a3p{G:PV->Prop}(l:Lin)(h:(Go.Pl.preT (fun(x:Lin×Unit)=>VN x.1) [(.agg [(.int .i64 l.k),(.sl 2 false (List.map enc l.t))])])=true∧(∃ y0:Bool,AV.pv (Zf (fun(x:Lin×Unit)=>Zw x.1) [(.agg [(.int .i64 l.k),(.sl 2 false (List.map enc l.t))])])=AV.pv (enc y0)∧(if (!y0)=true then G ((.str []))else(At WX 0 (Za Wm G) WM 0 37 [(1,(.ptr 0 0)),(3,(.ptr 1 0)),(4,(.fn 57 [] [(.ptr 1 0)])),(12,(.pv (.sl 2 false (List.map enc l.t)))),(13,(.pv (.int .i64 (↑(List.length (List.map enc l.t)):Int)))),(14,(.pv (.int .i64 0)))] [(.obj (.box [(.pv (.int .i64 l.k)),(.pv (.sl 2 false (List.map enc l.t)))])),(.obj (.box [(.pv (.str []))]))])))):Zc WX 0 (Za Wm G) WM [] (Ye 37 [enc l]):=Zc.tp (.req (.abs (Bool) (fun YY=>AV.pv (enc YY)) (.ask (.nil) (.nil)))) h (by kernel_rfl)
theorem BF{G:PV->Prop}(l:Lin)(o:List UInt8)(i:Int)(h:if (decide (i<(↑(List.length l.t):Int)))=true then(decide (0<=i)&&decide (Int.toNat i<List.length (List.map enc l.t))&&Enc.sz Coef==2)=true∧(∃ y0:Coef,AV.pv (PV.rptr (PV.cells (List.getD (List.map enc l.t) (Int.toNat i) default)))=AV.pv (PV.rptr (PV.cells ((enc) y0)))∧((XF [(.pv (.int .i64 (PV.asInt (List.getD (PV.cells (enc y0)) (0+1) default)))),(.pv (.str (PV.asStr (List.getD (PV.cells (enc y0)) 0 default)))),(.ptr 0 0)] [(.box [(.pv (.str o))])])=true∧(At WX 0 (Za Wm G) WM 0 37 [(1,(.ptr 0 0)),(3,(.ptr 1 0)),(4,(.fn 57 [] [(.ptr 1 0)])),(12,(.pv (.sl 2 false (List.map enc l.t)))),(13,(.pv (.int .i64 (↑(List.length l.t):Int)))),(14,(.pv (.int .i64 (IntKind.wrap IntKind.i64 (i+1)))))] [(.obj (.box [(.pv (.int .i64 l.k)),(.pv (.sl 2 false (List.map enc l.t)))])),(.obj (.box [(.pv (.str (XB o (PV.asInt (List.getD (PV.cells (enc y0)) (0+1) default)) (PV.asStr (List.getD (PV.cells (enc y0)) 0 default)))))]))])))else(if (l.k != 0)=true then(XF [(.pv (.int .i64 l.k)),(.pv (.str [])),(.ptr 0 0)] [(.box [(.pv (.str o))])])=true∧(G ((.str (XB o l.k []))))else(if (o==[])=true then(XF [(.pv (.int .i64 l.k)),(.pv (.str [])),(.ptr 0 0)] [(.box [(.pv (.str o))])])=true∧(G ((.str (XB o l.k []))))else(G ((.str o)))))):At WX 0 (Za Wm G) WM 0 37 [(1,.ptr 0 0),(3,.ptr 1 0),(4,.fn 57 [] [.ptr 1 0]),(12,.pv (enc l.t)),(13,.pv (.int .i64 l.t.length)),(14,.pv (.int .i64 i))] [.obj (.box [.pv (.int .i64 l.k),.pv (enc l.t)]),.obj (.box [.pv (.str o)])]:=At.tp (.lit (.ask (.req (.abs (Coef) (fun YY=>AV.pv (PV.rptr (PV.cells ((enc) YY)))) (.lit (.req (.keep (.lit (.nil))))))) (.lit (.ask (.lit (.lit (.lit (.req (.keep (.nil)))))) (.lit (.lit (.lit (.ask (.req (.keep (.nil))) (.nil))))))))) h (by kernel_rfl)
end Go.Pl

namespace Go.Pl
open Go.RowKit
open Enc (enc dec is)
open EncL (encL decL isL)
theorem RO(s p:List UInt8):(Lib.trimSuffix s p).length<=s.length:=by
 unfold Lib.trimSuffix
 split
 ·rw[List.length_take];omega
 ·exact Nat.le_refl _
theorem b0w: ∀ args os,XF args os=true->Zc LZ os.length (YB os.length AY fun r=>r=JE args os) Tw [] (Vb b4w args os):=by
 intro args os h
 unfold XF at h
 split at h
 ·rename_i n s o
  simp only[Bool.and_eq_true,decide_eq_true_eq]at h
  obtain⟨⟨⟨n1,n2⟩,hs⟩,ho⟩:=h
  have ev:JE [.pv (.int .i64 n),.pv (.str s),.ptr 0 0] [.box [.pv (.str o)]]=(.tup [],[.box [.pv (.str (XB o n s))]],[]):=rfl
  rw[ev]
  have hi:=Lib.itoa_length_le n n1 n2
  have hi:(ZI n).s.length<=21:=hi
  have ht:=RO (ZI n).s [49]
  have fin : ∀ (b:Bool) (x:List UInt8),x.length<=21->(decide (s≠[])&&(decide (n=1)||decide (n = -1)))=b->x=(if b then Lib.trimSuffix (ZI n).s [49]else(ZI n).s) ->
    (if decide (n ≥ 0)=true then(if (!o==[])=true then(decide (o.length+List.length [(43:UInt8)]<=1099511627776)=true∧(decide (x.length+s.length<=1099511627776)=true∧(decide (List.length (o++[(43:UInt8)])+List.length (x++s)<=1099511627776)=true∧((AV.tup [],[AObj.box [.pv (.str (o++[(43:UInt8)]++(x++s)))]],([]:List AObj))=(.tup [],[.box [.pv (.str (XB o n s))]],[])))))
     else(decide (x.length+s.length<=1099511627776)=true∧(decide (o.length+List.length (x++s)<=1099511627776)=true∧((AV.tup [],[AObj.box [.pv (.str (o++(x++s)))]],([]:List AObj))=(.tup [],[.box [.pv (.str (XB o n s))]],[])))))
    else(decide (x.length+s.length<=1099511627776)=true∧(decide (o.length+List.length (x++s)<=1099511627776)=true∧((AV.tup [],[AObj.box [.pv (.str (o++(x++s)))]],([]:List AObj))=(.tup [],[.box [.pv (.str (XB o n s))]],[]))))):=by
   intro b x hx hb hxe
   have hp : ∀ o2:List UInt8,o2=(if decide (n ≥ 0)&&decide (o≠[])then o++[43]else o)->XB o n s=o2++(x++s):=by
    intro o2 h2
    unfold XB
    rw[hb,<- h2,<- hxe]
   refine Yp (fun h0=>Sy (fun h1=> ?_) fun h1=> ?_) fun h0=> ?_
   ·have h1:o≠[]:=by simpa using h1
    refine⟨by simp;omega,by simp;omega,by simp;omega,?_⟩
    rw[hp (o++[43]) (by simp[h0,h1])]
   ·have h1:o=[]:=by simpa using h1
    refine⟨by simp;omega,by simp;omega,?_⟩
    rw[hp o (by simp[h1])]
   ·refine⟨by simp;omega,by simp;omega,?_⟩
    rw[hp o (by simp[h0])]
  refine b8u n s o ⟨Ze (n,()) rfl (by show(decide (-9223372036854775808<=n)&&decide (n<=9223372036854775807))=true;rw[decide_eq_true n1,decide_eq_true n2];rfl),Zg (n,()) rfl (Sy (fun h1=> ?_) fun h1=> ?_)⟩
  ·have h1:s≠[]:=by simpa using h1
   have htr:decide ((ZI n).s.length<=1000000)=true:=decide_eq_true (by omega)
   refine ZU (fun h2=> ?_) fun h2=>ZU (fun h3=> ?_) fun h3=> ?_
   ·have h2:n=1:=h2
    exact⟨Ze (ZI n,(⟨[49]⟩:Str),()) rfl htr,Zg (ZI n,(⟨[49]⟩:Str),()) rfl (fin true _ (by show(Lib.trimSuffix (ZI n).s [49]).length<=21;omega) (by simp[h1,h2]) rfl)⟩
   ·have h3:n = -1:=h3
    exact⟨Ze (ZI n,(⟨[49]⟩:Str),()) rfl htr,Zg (ZI n,(⟨[49]⟩:Str),()) rfl (fin true _ (by show(Lib.trimSuffix (ZI n).s [49]).length<=21;omega) (by simp[h1,h3]) rfl)⟩
   ·have h2:n≠1:=h2
    have h3:n ≠ -1:=h3
    exact fin false _ hi (by simp[h2,h3]) rfl
  ·have h1:s=[]:=by simpa using h1
   exact fin false _ hi (by simp[h1]) rfl
 ·cases h
theorem a9m(o:List UInt8)(n:Int)(s:List UInt8)(n1 : -9223372036854775808<=n)(n2:n<=9223372036854775807):(XB o n s).length<=o.length+1+21+s.length:=by
 have hi:=Lib.itoa_length_le n n1 n2
 have hi:(ZI n).s.length<=21:=hi
 have ht:=RO (ZI n).s [49]
 unfold XB
 split <;> split <;> simp <;> omega
theorem PX(l:Lin)(hv:Zw l=true): ∀ (m i:Nat) (o:List UInt8),m+i=l.t.length->o.length<=100*i ->
  At WX 0 (Za Wm (Zk (⟨if decide (l.k≠0)||decide ((l.t.drop i).foldl (fun o t=>XB o t.c t.v.s) o=[])then XB ((l.t.drop i).foldl (fun o t=>XB o t.c t.v.s) o) l.k []else(l.t.drop i).foldl (fun o t=>XB o t.c t.v.s) o⟩:Str))) WM 0 37 [(1,.ptr 0 0),(3,.ptr 1 0),(4,.fn 57 [] [.ptr 1 0]),(12,.pv (enc l.t)),(13,.pv (.int .i64 l.t.length)),(14,.pv (.int .i64 i))] [.obj (.box [.pv (.int .i64 l.k),.pv (enc l.t)]),.obj (.box [.pv (.str o)])]:=by
 have hlen:=Hr hv
 have hk:=O5 hv
 intro m
 induction m with
 | zero=>
  intro i o hi ho
  have ed:l.t.drop i=[]:=List.drop_of_length_le (by omega)
  rw[ed,List.foldl_nil]
  have hp:XF [.pv (.int .i64 l.k),.pv (.str []),.ptr 0 0] [.box [.pv (.str o)]]=true:=by
   simp only[XF,Bool.and_eq_true,decide_eq_true_eq,List.length_nil]
   exact⟨⟨⟨by omega,by omega⟩,by omega⟩,by omega⟩
  refine BF l o i (XR (YV (by omega)) (Sy (fun h1=>⟨hp,?_⟩) fun h1=>ZU (fun h2=>⟨hp,?_⟩) fun h2=> ?_))
  ·have h1:l.k≠0:=by simpa using h1
   rw[if_pos (by simp[h1])]
   exact⟨rfl,rfl⟩
  ·have h2:o=[]:=h2
   rw[if_pos (by simp[h2])]
   exact⟨rfl,rfl⟩
  ·have h1:l.k=0:=by simpa using h1
   have h2:o≠[]:=h2
   rw[if_neg (by simp[h1,h2])]
   exact⟨rfl,rfl⟩
 | succ m ih=>
  intro i o hi ho
  have hlt:i<l.t.length:=by omega
  have ed:l.t.drop i=l.t[i]::l.t.drop (i+1):=List.drop_eq_getElem_cons hlt
  rw[ed,List.foldl_cons]
  obtain⟨c0,c1,c2,c3⟩:=VE hv (List.getElem_mem hlt)
  have hn:=K7 c0
  have hpl:=a9m o l.t[i].c l.t[i].v.s (by omega) (by omega)
  refine BF l o i (XQ (YU hlt) ⟨Yl hlt rfl,Y9 hlt ⟨?_,?_⟩⟩)
  ·have hp:XF [.pv (.int .i64 l.t[i].c),.pv (.str l.t[i].v.s),.ptr 0 0] [.box [.pv (.str o)]]=true:=by
    simp only[XF,Bool.and_eq_true,decide_eq_true_eq]
    exact⟨⟨⟨by omega,by omega⟩,by omega⟩,by omega⟩
   exact hp
  ·rw[next (by omega)]
   exact ih (i+1) (XB o l.t[i].c l.t[i].v.s) (by omega) (by omega)
theorem Lb: ∀ a:Lin×Unit,VN a.1=true->Zc WX 0 (Za Wm (Zk (⟨Ym a.1⟩:Str))) WM [] (Ye a1j (encL a)):=by
 rintro⟨l,⟨⟩⟩ h
 show Zc WX 0 (Za Wm (Zk (⟨Ym l⟩:Str))) _ _ _
 refine a3p l ⟨Ze (l,()) rfl h,Zg (l,()) rfl (Gj (fun hv=> ?_) fun hv=> ?_)⟩
 ·have hv:Zw l=false:=hv
  unfold Ym
  rw[hv]
  exact⟨rfl,rfl⟩
 ·have hv:Zw l=true:=hv
  unfold Ym
  rw[hv,if_pos rfl,List.length_map]
  exact PX l hv l.t.length 0 [] (by omega) (by simp)
end Go.Pl

namespace Go.Pl
open Go.RowKit
open Enc (enc dec is)
open EncL (encL decL isL)
structure BoxT where
 v:List Str
 m:Int
 deriving DecidableEq
instance:Enc BoxT where
 sz:=2
 enc x:=.agg [enc x.v,enc x.m]
 dec | .agg [a,b]=>⟨dec a,dec b⟩|_=>⟨[],0⟩
 is | .agg [a,b]=>is (List Str) a&&is Int b|_=>false
 is_enc v:=by simp
 dec_enc v:=by simp
 sub p h:=by
  cases p with
  | agg xs=>
   match xs,h with
   | [a,b],h=>
    simp only[Bool.and_eq_true]at h
    exact .agg (.cons (Enc.sub a h.1).2 (.cons (Enc.sub b h.2).2 .nil))
  | _=>cases h
@[simp] theorem c5j (a b : PV) : is BoxT (.agg [a, b]) = (is (List Str) a && is Int b) := rfl
@[simp] theorem c3l (a b : PV) : (dec (.agg [a, b]) : BoxT) = ⟨dec a, dec b⟩ := rfl
structure Mono where
 c:Int
 v:List Str
 deriving DecidableEq
instance:Enc Mono where
 sz:=2
 enc x:=.agg [enc x.c,enc x.v]
 dec | .agg [a,b]=>⟨dec a,dec b⟩|_=>⟨0,[]⟩
 is | .agg [a,b]=>is Int a&&is (List Str) b|_=>false
 is_enc v:=by simp
 dec_enc v:=by simp
 sub p h:=by
  cases p with
  | agg xs=>
   match xs,h with
   | [a,b],h=>
    simp only[Bool.and_eq_true]at h
    exact .agg (.cons (Enc.sub a h.1).2 (.cons (Enc.sub b h.2).2 .nil))
  | _=>cases h
@[simp] theorem c5i (a b : PV) : is Mono (.agg [a, b]) = (is Int a && is (List Str) b) := rfl
@[simp] theorem c4v (a b : PV) : (dec (.agg [a, b]) : Mono) = ⟨dec a, dec b⟩ := rfl
structure NilS where
 deriving DecidableEq
instance:Enc NilS where
 sz:=1
 enc _:=.sl 0 true []
 dec _:=⟨⟩
 is | .sl 0 true []=>true|_=>false
 is_enc _:=rfl
 dec_enc _:=rfl
 sub p h:=by
  cases p with
  | sl s t xs=>
   cases xs with
   | nil=>cases s with
    | zero=>cases t with
     | true=>exact .refl _
     | false=>cases h
    | succ s=>cases h
   | cons x xs=>cases s <;> cases t <;> cases h
  | _=>cases h
end Go.Pl

namespace Go.Pl
open Go.RowKit
open Enc (enc dec is)
open EncL (encL decL isL)
set_option maxRecDepth 100000
-- IMPOSSIBLE
def YX:IC:=Xe
def YZ:List IRes:=[(.tmp 2)]
abbrev a1a:Nat:=67
def Xp:ZC:=Xi [(114,.pure (preT (fun _:Str×Str×Unit=>true)) (Zf (fun x:Str×Str×Unit=>x.2.1.s.isPrefixOf x.1.s))),(115,.pure (preT (fun x:Str×Unit=>decide (x.1.s.length<=281474976710656))) (Zf (fun x:Str×Unit=>Yg x.1))),(51,.pure (preT (fun x:Int×Unit=>decide (-9223372036854775808<=x.1)&&decide (x.1<=9223372036854775807))) (Zf (fun x:Int×Unit=>ZI x.1)))]
theorem a5a{G:PV->Prop}(s:List UInt8)(h : ∃ y0:Bool,AV.pv (Zf (fun(x:Str×Str×Unit)=>List.isPrefixOf (Str.s x.2.1) (Str.s x.1)) [(.str s),(.str [(95:UInt8)])])=AV.pv (enc y0)∧(if (y0)=true then(decide (0<=1)&&true&&decide (Int.toNat 1<=List.length s)&&decide (List.length s<=List.length s))=true∧((Go.Pl.preT (fun(x:Str×Unit)=>decide (List.length (Str.s x.1)<=281474976710656)) [(.str (List.drop (Int.toNat 1) (List.take (List.length s) s)))])=true∧(∃ y1:Int×Er,AV.pv (Zf (fun(x:Str×Unit)=>Yg x.1) [(.str (List.drop (Int.toNat 1) (List.take (List.length s) s)))])=AV.pv (enc y1)∧((Cy (enc y1.2)&&Prod.fst (true,PV.bool (VG (enc y1.2))))=true∧(if (VG (enc y1.2))=true then if (decide (y1.1>0))=true then if (decide ((↑(List.length s):Int)<=10))=true then(Go.Pl.preT (fun(x:Int×Unit)=>decide ((-9223372036854775808:Int)<=x.1)&&decide (x.1<=9223372036854775807)) [(.int .i64 y1.1)])=true∧(∃ y2:Str,AV.pv (Zf (fun(x:Int×Unit)=>ZI x.1) [(.int .i64 y1.1)])=AV.pv (enc y2)∧((decide (0<=1)&&true&&decide (Int.toNat 1<=List.length s)&&decide (List.length s<=List.length s))=true∧(G ((.bool (Str.s y2==List.drop (Int.toNat 1) (List.take (List.length s) s)))))))else(G ((.bool false)))else(G ((.bool false)))else(G ((.bool false)))))))else(At Xp 0 (Za YZ G) YX 0 67 [(0,(.pv (.str s))),(34,(.pv (.sl 1 false (Zd s)))),(35,(.pv (.int .i64 (↑(List.length (Zd s)):Int)))),(36,(.pv (.int .i64 0)))] []))):Zc Xp 0 (Za YZ G) YX [] (Ye 67 [.str s]):=Zc.tp (.lit (.abs (Bool) (fun YY=>AV.pv (enc YY)) (.ask (.req (.req (.abs (Int×Er) (fun YY=>AV.pv (enc YY)) (.req (.ask (.lit (.lit (.lit (.ask (.lit (.lit (.lit (.lit (.ask (.lit (.req (.abs (Str) (fun YY=>AV.pv (enc YY)) (.lit (.lit (.req (.lit (.lit (.lit (.nil)))))))))) (.lit (.lit (.lit (.lit (.lit (.nil))))))))))) (.lit (.lit (.lit (.lit (.lit (.lit (.lit (.lit (.lit (.nil)))))))))))))) (.lit (.lit (.lit (.lit (.lit (.lit (.lit (.lit (.lit (.lit (.lit (.lit (.nil)))))))))))))))))) (.nil)))) h (by kernel_rfl)
theorem Ai{G:PV->Prop}(s:List UInt8)(i:Int)(h:if (decide (i<(↑(List.length (Zd s)):Int)))=true then(decide (0<=i)&&decide (Int.toNat i<List.length (Zd s))&&1==1)=true∧((decide (0+List.length [Sh.int IntKind.u8]<=List.length (PV.cells (List.getD (Zd s) (Int.toNat i) default)))&&Y5 (PV.cells (List.getD (Zd s) (Int.toNat i) default)) 0 [Sh.int IntKind.u8])=true∧(if (decide (PV.asInt (List.getD (PV.cells (List.getD (Zd s) (Int.toNat i) default)) 0 default)<97))=true then if (i==0)=true then G ((.bool false))else(if (decide (PV.asInt (List.getD (PV.cells (List.getD (Zd s) (Int.toNat i) default)) 0 default)<48))=true then G ((.bool false))else(if (decide (PV.asInt (List.getD (PV.cells (List.getD (Zd s) (Int.toNat i) default)) 0 default)>57))=true then G ((.bool false))else(At Xp 0 (Za YZ G) YX 0 67 [(0,(.pv (.str s))),(34,(.pv (.sl 1 false (Zd s)))),(35,(.pv (.int .i64 (↑(List.length (Zd s)):Int)))),(36,(.pv (.int .i64 (IntKind.wrap IntKind.i64 (i+1)))))] [])))else(if (decide (PV.asInt (List.getD (PV.cells (List.getD (Zd s) (Int.toNat i) default)) 0 default)>122))=true then if (i==0)=true then G ((.bool false))else(if (decide (PV.asInt (List.getD (PV.cells (List.getD (Zd s) (Int.toNat i) default)) 0 default)<48))=true then G ((.bool false))else(if (decide (PV.asInt (List.getD (PV.cells (List.getD (Zd s) (Int.toNat i) default)) 0 default)>57))=true then G ((.bool false))else(At Xp 0 (Za YZ G) YX 0 67 [(0,(.pv (.str s))),(34,(.pv (.sl 1 false (Zd s)))),(35,(.pv (.int .i64 (↑(List.length (Zd s)):Int)))),(36,(.pv (.int .i64 (IntKind.wrap IntKind.i64 (i+1)))))] [])))else(At Xp 0 (Za YZ G) YX 0 67 [(0,(.pv (.str s))),(34,(.pv (.sl 1 false (Zd s)))),(35,(.pv (.int .i64 (↑(List.length (Zd s)):Int)))),(36,(.pv (.int .i64 (IntKind.wrap IntKind.i64 (i+1)))))] []))))else(if (!s==[])=true then G ((.bool (decide ((↑(List.length s):Int)<=30))))else(G ((.bool false))))):At Xp 0 (Za YZ G) YX 0 67 [(0,.pv (.str s)),(34,.pv (.sl 1 false (Zd s))),(35,.pv (.int .i64 (Zd s).length)),(36,.pv (.int .i64 i))] []:=At.tp (.lit (.ask (.req (.keep (.req (.lit (.ask (.lit (.lit (.lit (.lit (.lit (.lit (.ask (.lit (.lit (.lit (.lit (.lit (.lit (.lit (.lit (.lit (.lit (.nil))))))))))) (.lit (.lit (.lit (.lit (.lit (.ask (.lit (.lit (.lit (.lit (.lit (.nil)))))) (.lit (.lit (.lit (.lit (.lit (.ask (.nil) (.lit (.nil))))))))))))))))))))) (.lit (.lit (.lit (.ask (.lit (.lit (.lit (.ask (.lit (.lit (.lit (.lit (.lit (.lit (.lit (.lit (.lit (.lit (.nil))))))))))) (.lit (.lit (.lit (.lit (.lit (.ask (.lit (.lit (.lit (.lit (.lit (.nil)))))) (.lit (.lit (.lit (.lit (.lit (.ask (.nil) (.lit (.nil)))))))))))))))))) (.lit (.lit (.lit (.lit (.lit (.lit (.lit (.lit (.nil)))))))))))))))))) (.lit (.ask (.lit (.lit (.lit (.lit (.nil))))) (.lit (.lit (.lit (.nil)))))))) h (by kernel_rfl)
end Go.Pl

namespace Go.Pl
open Go.RowKit
open Enc (enc dec is)
open EncL (encL decL isL)
theorem RN(s:List UInt8)(hs:s.length<=281474976710656): ∀ (m i:Nat),m+i=s.length->At Xp 0 (Za YZ (Zk (Xf s i))) YX 0 67 [(0,.pv (.str s)),(34,.pv (.sl 1 false (Zd s))),(35,.pv (.int .i64 (Zd s).length)),(36,.pv (.int .i64 i))] []:=by
 intro m
 induction m with
 | zero=>
  intro i hi
  have e:Xf s i=(!(s==[])&&decide (s.length<=30)):=by
   unfold Xf
   cases i with
   | zero=>cases s with
    | nil=>rfl
    | cons c r=>simp at hi
   | succ i=>simp only;rw[List.drop_of_length_le (show s.length<=i+1 by omega)];simp
  rw[e]
  refine Ai s i (XR (YV (by rw[Vw];omega)) (WC (fun h=>Z0 ?_) fun h=>Z0 ?_))
  ·rw[h,Bool.true_and];exact decide_eq_decide.2 (by omega)
  ·rw[h,Bool.false_and]
 | succ m ih=>
  intro i hi
  have hlt:i<s.length:=by omega
  have h:=ih (i+1) (by omega)
  refine Ai s i ?_
  rw[RU hlt,next (by omega)]
  have stop:(lowB s[i]=false∧(i=0∨digB s[i]=false))->Zk (Xf s i) (.bool false):=fun hb=>Z0 (Aq hlt hb).symm
  have go:(lowB s[i]=true∨(i≠0∧digB s[i]=true))->At Xp 0 (Za YZ (Zk (Xf s i))) YX 0 67 [(0,.pv (.str s)),(34,.pv (.sl 1 false (Zd s))),(35,.pv (.int .i64 (Zd s).length)),(36,.pv (.int .i64 ((i+1:Nat):Int)))] []:=fun hb=>by rw[Ah hlt hb];exact h
  have rest:lowB s[i]=false->(if ((i:Int)==0)=true then Zk (Xf s i) (.bool false)else if decide ((s[i].toNat:Int)<48)=true then Zk (Xf s i) (.bool false)else if decide ((s[i].toNat:Int)>57)=true then Zk (Xf s i) (.bool false)else At Xp 0 (Za YZ (Zk (Xf s i))) YX 0 67 [(0,.pv (.str s)),(34,.pv (.sl 1 false (Zd s))),(35,.pv (.int .i64 (Zd s).length)),(36,.pv (.int .i64 ((i+1:Nat):Int)))] []):=by
   intro hl
   refine ZU (fun h0=>stop ⟨hl,.inl (by omega)⟩) fun h0=>Yp (fun h1=>stop ⟨hl,.inr (QL (by omega))⟩) fun h1=>Yp (fun h2=>stop ⟨hl,.inr (QL (by omega))⟩) fun h2=>go (.inr ⟨by omega,XX.2 (by omega)⟩)
  refine XQ (YU (by rw[Vw];exact hlt)) ⟨by rw[Vw];simp[hlt],by rfl,?_⟩
  refine Yp (fun h1=>rest (QQ ?_)) fun h1=>Yp (fun h2=>rest (QQ ?_)) fun h2=>go (.inl (SV.2 ?_))
  ·have h1:(s[i].toNat:Int)<97:=h1
   omega
  ·have h2:(s[i].toNat:Int)>122:=h2
   omega
  ·have h1 : ¬ (s[i].toNat:Int)<97:=h1
   have h2 : ¬ (s[i].toNat:Int)>122:=h2
   omega
theorem Lm: ∀ a:Str×Unit,decide (a.1.s.length<=281474976710656)=true->Zc Xp 0 (Za YZ (Zk (Yf a.1))) YX [] (Ye a1a (encL a)):=by
 rintro⟨⟨s⟩,⟨⟩⟩ hl
 have hl:s.length<=281474976710656:=by simpa using hl
 refine a5a s (Zg (⟨s⟩,⟨[95]⟩,()) rfl (WC (fun h=> ?_) fun h=> ?_))
 ·have h:[95].isPrefixOf s=true:=h
  obtain⟨r,rfl⟩ : ∃ r,s=95::r:=by
   cases s with
   | nil=>simp at h
   | cons c r=>
    have:95=c:=by simpa using h
    exact⟨r,by rw[this]⟩
  have e1:List.drop (Int.toNat 1) (List.take (List.length (95::r)) (95::r))=r:=by rw[List.take_of_length_le (Nat.le_refl _)];rfl
  simp only[e1]
  refine⟨by simp,Ze (⟨r⟩,()) rfl (by simp at hl ⊢;omega),Zg (⟨r⟩,()) rfl ⟨by show(Cy (enc (Yg ⟨r⟩).2)&&true)=true;rw[b7v];rfl,?_⟩⟩
  show if VG (enc (Yg ⟨r⟩).2)=true then(if decide ((Yg ⟨r⟩).1>0)=true then(if _ then _ else Zk (Yf ⟨95::r⟩) _)else Zk (Yf ⟨95::r⟩) _)else Zk (Yf ⟨95::r⟩) _
  rw[PR]
  by_cases h9:r.length<=9
  ·rw[<- Od r h9,decide_eq_true h9,Bool.and_true]
   refine WC (fun h1=>WC (fun h2=>XQ (by simp;omega) ⟨Ze ((Yg ⟨r⟩).1,()) rfl (by have:=Cc ⟨r⟩;simp;omega),Zg ((Yg ⟨r⟩).1,()) rfl ⟨by simp,Z0 ?_⟩⟩) fun h2=>Z0 ?_) fun h1=>Z0 ?_
   ·rw[h1,h2];simp only[Bool.true_and,Bool.and_true];rfl
   ·rw[h2];simp
   ·rw[h1];simp
  ·rw[decide_eq_false h9,Bool.and_false]
   refine WC (fun h1=>WC (fun h2=>XR (by simp;omega) (Z0 rfl)) fun h2=>Z0 rfl) fun h1=>Z0 rfl
 ·have h:[95].isPrefixOf s=false:=h
  show At Xp 0 (Za YZ (Zk (Yf ⟨s⟩))) YX 0 67 _ _
  rw[BV h]
  exact RN s hl s.length 0 (by omega)
end Go.Pl

namespace Go.Pl
theorem b2f{T:ZC}{k:Nat}{ic:IC}{K:List Fr}{st:St}{rs:List IRes}{p:PV}(h:Zc T k (Za rs fun r=>r=p) ic K st):Zc T k (fun st=>fin st rs=some p) ic K st:=by
 have e:Za rs (fun r=>r=p)=fun st=>fin st rs=some p:=by
  funext st
  apply propext
  constructor
  ·rintro⟨q,k,rfl⟩;exact k
  ·intro k;exact⟨p,k,rfl⟩
 rw[<- e];exact h
end Go.Pl

