/-
  Texts of mine that belong together (packed by pack.py), for every input: QTf, QPr, QPt, QPz, QQa, GQb, GPa, QPa, QQb, QQc, QUb, QUc, QUg, GUh, QUh, GUj, GTv, QTg, VwU, QTv, QUj, VwL, TyLi, GUs, QUs, GTd, QTd, GWy, QWy, GVa, QVa, QCo, GL7, QL7, GL9, QL9, TyRa, GRa, QGc, TyZ0, TyCm, GUk, QUk, GUn, QUn, GUo, QUo, GUd.
-/
import Derived.Test.YtgdebdgkofkeeaaGreatDoorChecked
import Derived.Test.YtgdebdgkofkeeaaGreatDoorProg
import Derived.Test.YtgdebdgkofkeeaaGreatDoorKN2
import Derived.Test.YtgdebdgkofkeeaaGreatDoorKN3
import Derived.KernelRfl
import Derived.Lib.ItoaLen
set_option linter.unusedVariables false
set_option linter.unusedSimpArgs false
namespace Go.Pl
open Go.RowKit
open Enc (enc dec is)
open EncL (encL decL isL)
theorem XX(n:Nd)(ks:List Tm):[PV.agg [enc n.kind,enc n.line,enc n.name,enc n.num,enc n.elem,enc n.dims,enc n.data,enc n.sizes,enc n.ranks,enc ks]]=encL (Tm.mk n ks,()):=by
 show _=[enc (Tm.mk n ks)]
 rw[Zx]
theorem V3(n:Nd)(ks:List Tm)(a b:Int):[PV.agg [enc n.kind,enc n.line,enc n.name,enc n.num,enc n.elem,enc n.dims,enc n.data,enc n.sizes,enc n.ranks,enc ks],.int .i64 a,.int .i64 b]=encL (Tm.mk n ks,a,b,()):=by
 show _=[enc (Tm.mk n ks),enc a,enc b]
 rw[Zx]
 rfl
theorem b5w: ∀ x:Tm×Unit,tW x.1=true->Zc ED 0 (Zb Pj (Zm (G9 x.1.nd))) a1o [] (ZY c6e (encL x)):=by
 rintro⟨⟨n,ks⟩,⟨⟩⟩ h
 rw[<- XX]
 show Zc ED 0 (Zb Pj (Zm (G9 n))) _ _ _
 have e1 : ∀ b:Bool,G9 n=b->Zm (G9 n) (.bool b):=fun b h=>ZI h.symm
 refine c9w n ks (Y1 (fun h1=> ?_) fun h1=>Y1 (fun h2=>WC (fun h3=>e1 _ ?_) fun h3=>e1 _ ?_) fun h2=>e1 _ ?_)
 ·have h1:n.name.s=Je:=h1
  refine Y1 (fun h2=>e1 _ ?_) fun h2=>e1 _ ?_
  ·unfold G9;rw[if_pos h1,h2];rfl
  ·unfold G9;rw[if_pos h1,decide_eq_false h2,Bool.false_or];exact Bool.eq_iff_iff.2 (by simp)
 ·have h1 : ¬ n.name.s=Je:=h1
  have h2:n.name.s=Sn:=h2
  have h3 : -2147483648<=n.num:=h3
  unfold G9;rw[if_neg h1,decide_eq_true h2,decide_eq_true h3];rfl
 ·have h1 : ¬ n.name.s=Je:=h1
  have h3 : ¬ -2147483648<=n.num:=h3
  unfold G9;rw[if_neg h1,decide_eq_false h3,Bool.and_false];rfl
 ·have h1 : ¬ n.name.s=Je:=h1
  have h2 : ¬ n.name.s=Sn:=h2
  unfold G9;rw[if_neg h1,decide_eq_false h2];rfl
theorem OG(l:Lin)(hl:l.t.length<=9223372036854775807)(hs:l.t.all (fun t=>decide (t.v.s.length<=281474976710656))=true): ∀ (j i:Nat),j+i=l.t.length->At Uu 0 (Zb Vy (Zm (AX (pvS l.t i) (l.t.drop i)&&(XK l.k&&decide (l.t.length<=12))))) Vx 0 54 [(1,.ptr 0 0),(6,.pv (enc l.t)),(7,.pv (.int .i64 l.t.length)),(8,.pv (.int .i64 i))] [.obj (.box [.pv (.int .i64 l.k),.pv (enc l.t)])]:=by
 intro j
 induction j with
 | zero=>
  intro i hi
  refine LZ l i (Yz (WE (by omega)) (Zd (l.k,()) rfl ?_))
  rw[List.drop_of_length_le (show l.t.length<=i by omega)]
  refine VB (fun h=>ZI ?_) fun h=>ZI ?_
  ·have h:XK l.k=true:=h
   rw[h]
   show _=(true&&(true&&_))
   rw[Bool.true_and,Bool.true_and]
   exact decide_eq_decide.2 (by simp;omega)
  ·have h:XK l.k=false:=h
   rw[h];simp
 | succ j ih=>
  intro i hi
  have hlt:i<l.t.length:=by omega
  have h:=ih (i+1) (by omega)
  have hsi:l.t[i].v.s.length<=281474976710656:=by rw[List.all_eq_true]at hs;simpa using hs _ (List.getElem_mem hlt)
  refine LZ l i ?_
  refine Yq (WR hlt) ⟨Zn hlt rfl,Zw hlt ⟨Ze (l.t[i].v,()) rfl (by simpa using hsi),Zd (l.t[i].v,()) rfl (U9 (fun hn=> ?_) fun hn=>Y1 (fun hc=> ?_) fun hc=>Zd (l.t[i].c,()) rfl (U9 (fun hk=> ?_) fun hk=> ?_))⟩⟩
  all_goals rw[List.drop_eq_getElem_cons hlt,BD]
  ·have hn:WN l.t[i].v=false:=hn
   exact ZI (by simp[hn])
  ·have hc:l.t[i].c=0:=hc
   exact ZI (by simp[hc])
  ·have hk:XK l.t[i].c=false:=hk
   exact ZI (by simp[hk])
  have hn:WN l.t[i].v=true:=hn
  have hk:XK l.t[i].c=true:=hk
  have hc:l.t[i].c≠0:=hc
  rw[next (by omega),hn,hk,decide_eq_true hc]
  have ep:pvS l.t (i+1)=some l.t[i].v.s:=by simp[pvS,hlt]
  rw[ep]at h
  cases i with
  | zero=>exact Yz (by simp) h
  | succ i=>
   refine Yq (by simp) ?_
   rw[b9q (by omega)]
   refine⟨Zn (by omega) rfl,Zw (by omega) ?_⟩
   have e2:pvS l.t (i+1)=some l.t[i].v.s:=by simp[pvS,show i<l.t.length by omega]
   rw[e2]
   refine U9 (fun hb=> ?_) fun hb=> ?_
   all_goals
    have hb':=(WX l.t[i].v.s l.t[i+1].v.s).symm.trans hb
    simp only[hb',Bool.and_true,Bool.true_and,Bool.and_false,Bool.false_and]
   ·exact ZI rfl
   ·exact h
theorem a4w: ∀ a:Lin×Unit,V9 a.1=true->Zc Uu 0 (Zb Vy (Zm (Ym a.1))) Vx [] (ZY b9d (encL a)):=by
 rintro⟨l,⟨⟩⟩ hl
 simp only[V9,Yp,Bool.and_eq_true,decide_eq_true_eq]at hl
 refine c1z l ?_
 show At Uu 0 (Zb Vy (Zm (Ym l))) Vx 0 54 _ _
 have e:Ym l=(AX (pvS l.t 0) (l.t.drop 0)&&(XK l.k&&decide (l.t.length<=12))):=by rw[b5m,Bool.and_comm];rfl
 rw[e,List.length_map]
 exact OG l hl.1 hl.2 l.t.length 0 (by omega)
theorem b1r: ∀ x:Lin×Unit,V9 x.1=true->Zc b5a 0 (Zb EK (Zm (!(Ym x.1)))) a2t [] (ZY c4e (encL x)):=by
 rintro⟨l,⟨⟩⟩ h
 exact c9i l ⟨Ze (l,()) rfl h,Zd (l,()) rfl (ZI rfl)⟩
theorem b6x(l:List Lin)(hs : ∀ s∈l,V9 s=true)(hl:l.length<=1048576): ∀ (m i:Nat),m+i=l.length->(∀ j (h:j<l.length),j<i->(!(Ym l[j]))=false) ->
  At TW 0 (Zb Dx (Zm (X6 (fun s:Lin=> !(Ym s)) l))) GY 0 19 [(0,.pv (enc l)),(1,.pv (.fn 110)),(7,.pv (.int .i64 l.length)),(8,.pv (.int .i64 i))] []:=by
 intro m
 induction m with
 | zero=>
  intro i hi hno
  refine b4y l i (Yz (WE (by omega)) (Uj ?_))
  rw[EQ _ _ (fun j hj=>hno j hj (by omega))]
 | succ m ih=>
  intro i hi hno
  have hlt:i<l.length:=by omega
  refine b4y l i (Yq (WR hlt) ⟨Zn hlt rfl,Zw hlt ⟨Ze (l[i],()) rfl (hs _ (List.getElem_mem hlt)),Zd (l[i],()) rfl (VB (fun hb=> ?_) fun hb=> ?_)⟩⟩)
  ·exact Uj (E8 (fun s:Lin=> !(Ym s)) l i hlt hno hb).symm
  ·rw[next (by omega)]
   refine ih (i+1) (by omega) fun j hj hji=> ?_
   by_cases e:j=i
   ·subst e;exact hb
   ·exact hno j hj (by omega)
theorem c1r: ∀ a:List Lin×FnV 110×Unit,(decide (a.1.length<=1048576)&&a.1.all V9)=true->Zc TW 0 (Zb Dx (Zm (X6 (fun s:Lin=> !(Ym s)) a.1))) GY [] (ZY d4b (encL a)):=by
 rintro⟨l,g,⟨⟩⟩ h
 have h':=h
 simp only[Bool.and_eq_true,List.all_eq_true,decide_eq_true_eq]at h'
 refine d6j l ?_
 rw[List.length_map]
 exact b6x l h'.2 h'.1 l.length 0 (by omega) (fun j hj h=>by omega)
theorem c4c: ∀ a:List Lin×FnV 110×Unit,(decide (a.1.length<=1048576)&&a.1.all V9)=true->Zc c8a 0 (Zb b8m (Zm (a.1.any fun s:Lin=> !(Ym s)))) b1v [] (ZY d3w (encL a)):=by
 rintro⟨l,g,⟨⟩⟩ h
 exact d5e l ⟨Ze (l,{},()) rfl h,Zd (l,{},()) rfl (ZI (K8 _ _))⟩
theorem CU{α:Type}{p:α->Bool}(l:List α):(!(l.any fun x=> !(p x)))=l.all p:=by
 induction l with
 | nil=>rfl
 | cons a l ih=>rw[List.any_cons,List.all_cons,<- ih];cases p a <;> simp
theorem Oo: ∀ x:Tm×Int×Int×Unit,tW x.1=true->Zc MU 0 (Zb SE (Zm (YR x.1.nd x.2.1 x.2.2.1))) S9 [] (ZY a8c (encL x)):=by
 rintro⟨⟨n,ks⟩,a,b,⟨⟩⟩ h
 rw[<- V3]
 have hp:(decide (n.sizes.length<=1048576)&&n.sizes.all V9)=true:=by
  rw[decide_eq_true (PU h).sizes,Bool.true_and,List.all_eq_true]
  exact MK h
 refine b6t n ks a b (WC (fun h1=>WC (fun h2=>⟨Ze (n.sizes,{},()) rfl hp,Zd (n.sizes,{},()) rfl (ZI ?_)⟩) fun h2=>ZI ?_) fun h1=>ZI ?_)
 ·rw[List.length_map]at h1 h2
  show(!(n.sizes.any fun l=> !(Ym l)))=YR n a b
  unfold YR
  rw[CU,decide_eq_true h1,decide_eq_true h2];rfl
 ·rw[List.length_map]at h1 h2
  show false=YR n a b
  unfold YR
  rw[decide_eq_false h2,Bool.and_false];rfl
 ·rw[List.length_map]at h1
  show false=YR n a b
  unfold YR
  rw[decide_eq_false h1];rfl
theorem b5t: ∀ x:Int×Unit,(fun _:Int×Unit=>true) x=true->Zc a9m 0 (Zb a1m (Zm (Yg x.1))) a1a [] (ZY c3z (encL x)):=by
 rintro⟨n,⟨⟩⟩ _
 refine d1o n (WC (fun h=>ZI ?_) fun h=>ZI ?_)
 ·show true=Yg n
  unfold Yg
  rw[decide_eq_true h];rfl
 ·show decide (n>6)=Yg n
  unfold Yg
  rw[decide_eq_false h];rfl
theorem b3g(l:List Int)(hl:l.length<=1048576): ∀ (m i:Nat),m+i=l.length->(∀ j (h:j<l.length),j<i->Yg l[j]=false) ->
  At TJ 0 (Zb Gz (Zm (X6 Yg l))) Jj 0 19 [(0,.pv (enc l)),(1,.pv (.fn 114)),(7,.pv (.int .i64 l.length)),(8,.pv (.int .i64 i))] []:=by
 intro m
 induction m with
 | zero=>
  intro i hi hno
  refine a8k l i (Yz (WE (by omega)) (Uj ?_))
  rw[EQ _ _ (fun j hj=>hno j hj (by omega))]
 | succ m ih=>
  intro i hi hno
  have hlt:i<l.length:=by omega
  refine a8k l i (Yq (WR hlt) ⟨Zn hlt rfl,Zw hlt (Zd (l[i],()) rfl (VB (fun hb=> ?_) fun hb=> ?_))⟩)
  ·exact Uj (E8 Yg l i hlt hno hb).symm
  ·rw[next (by omega)]
   refine ih (i+1) (by omega) fun j hj hji=> ?_
   by_cases e:j=i
   ·subst e;exact hb
   ·exact hno j hj (by omega)
theorem c1e: ∀ a:List Int×FnV 114×Unit,decide (a.1.length<=1048576)=true->Zc TJ 0 (Zb Gz (Zm (X6 Yg a.1))) Jj [] (ZY d3g (encL a)):=by
 rintro⟨l,g,⟨⟩⟩ h
 refine d7m l ?_
 rw[List.length_map]
 exact b3g l (of_decide_eq_true h) l.length 0 (by omega) (fun j hj h=>by omega)
theorem c1f: ∀ a:List Int×FnV 114×Unit,decide (a.1.length<=1048576)=true->Zc c8j 0 (Zb a8f (Zm (a.1.any Yg))) Ob [] (ZY c9g (encL a)):=by
 rintro⟨l,g,⟨⟩⟩ h
 exact d9j l ⟨Ze (l,{},()) rfl h,Zd (l,{},()) rfl (ZI (K8 _ _))⟩
theorem a7w: ∀ x:Tm×Unit,tW x.1=true->Zc Ph 0 (Zb C9 (Zm (WQ x.1.nd x.1.ks.length))) Mf [] (ZY b8f (encL x)):=by
 rintro⟨⟨n,ks⟩,⟨⟩⟩ h
 rw[<- XX]
 show Zc Ph 0 (Zb C9 (Zm (WQ n ks.length))) _ _ _
 have hnm:decide (n.name.s.length<=1048576)=true:=decide_eq_true (PU h).name
 have hrk:decide (n.ranks.length<=1048576)=true:=decide_eq_true (PU h).ranks
 have hr:((n.ranks.any Yg)=false)=(Bn n.ranks=true):=by
  unfold Bn
  rw[<- CU,Bool.not_eq_true',eq_iff_iff]
  have:(fun n:Int=> !(decide (0<=n)&&decide (n<=6)))=Yg:=by
   funext x
   unfold Yg
   by_cases h1:0<=x <;> by_cases h2:x<=6
   ·rw[decide_eq_true h1,decide_eq_true h2,decide_eq_false (by omega : ¬ x<0),decide_eq_false (by omega : ¬ 6<x)];rfl
   ·rw[decide_eq_false h2,decide_eq_true (by omega:6<x)];simp
   ·rw[decide_eq_false h1,decide_eq_true (by omega:x<0)];simp
   ·rw[decide_eq_false h1,decide_eq_true (by omega:x<0)];simp
  rw[this]
 have leaf : ∀ b:Bool,WQ n ks.length=b->Zm (WQ n ks.length) (.bool b):=fun b h=>ZI h.symm
 refine c3f n ks ⟨Ze (n.name,()) rfl hnm,Zd (n.name,()) rfl (U9 (fun h1=>leaf _ ?_) fun h1=>WC (fun h2=>leaf _ ?_) fun h2=>WC (fun h3=>leaf _ ?_) fun h3=>WC (fun h4=>leaf _ ?_) fun h4=> ?_)⟩
 ·have h1:fnI n.name.s=false:=h1
  unfold WQ;rw[h1];rfl
 ·unfold WQ;rw[decide_eq_false (show ¬ 0<=n.num by omega),Bool.and_false];rfl
 ·unfold WQ;rw[decide_eq_false (show ¬ n.num<=64 by omega),Bool.and_false];rfl
 ·rw[List.length_map]at h4
  unfold WQ;rw[decide_eq_false (show ¬ ks.length<=8 by omega),Bool.and_false];rfl
 have h1:fnI n.name.s=true:=h1
 rw[List.length_map]at h4
 have go:(n.ranks.isEmpty||decide (n.ranks.length=ks.length))=true-> ∀ (tl:Prop),(tl ↔ (YR n 4 8&&(!(n.ranks.any Yg)))=true)->True:=fun _ _ _=>trivial
 have hcall:(n.ranks.isEmpty||decide (n.ranks.length=ks.length))=true->n.ranks.length<=8->WQ n ks.length=(YR n 4 8&&(!(n.ranks.any Yg))):=by
  intro h5 h6
  have e:(!(n.ranks.any Yg))=Bn n.ranks:=by
   cases hb:n.ranks.any Yg with
   | true=>
    cases hk:Bn n.ranks with
    | false=>rfl
    | true=>rw[<- hr,hb]at hk;cases hk
   | false=>rw[hr]at hb;rw[hb];rfl
  unfold WQ YR
  rw[h1,decide_eq_true (show 0<=n.num by omega),decide_eq_true (show n.num<=64 by omega),decide_eq_true (show ks.length<=8 by omega),h5,e,decide_eq_true (show(n.ranks.length:Int)<=8 by omega)]
  simp only[Bool.true_and,Bool.and_true]
  rw[show decide ((n.sizes.length:Int)<=4)=decide (n.sizes.length<=4) by exact decide_eq_decide.2 (by omega)]
 have no8 : ¬ n.ranks.length<=8->WQ n ks.length=false:=by
  intro h6
  unfold WQ
  have:(n.ranks.isEmpty||decide (n.ranks.length=ks.length))=false:=by
   rw[decide_eq_false (by omega),Bool.or_false]
   cases hq:n.ranks with
   | nil=>rw[hq]at h6;exact absurd (Nat.zero_le _) h6
   | cons a l=>rfl
  rw[this];simp
 have no8l : ¬ n.ranks.length<=8->YR n 4 8=false:=by
  intro h6
  unfold YR
  rw[decide_eq_false (show ¬ (n.ranks.length:Int)<=8 by omega)];simp
 have tail:(n.ranks.isEmpty||decide (n.ranks.length=ks.length))=true->(preT (fun(x:Tm×Int×Int×Unit)=>tW (Prod.fst x)) [PV.agg [enc n.kind,enc n.line,enc n.name,enc n.num,enc n.elem,enc n.dims,enc n.data,enc n.sizes,enc n.ranks,enc ks],.int .i64 4,.int .i64 8])=true ∧
   ∃ y:Bool,AV.pv (Zi (fun(x:Tm×Int×Int×Unit)=>YR (Tm.nd (Prod.fst x)) (Prod.fst (Prod.snd x)) (Prod.fst (Prod.snd (Prod.snd x)))) [PV.agg [enc n.kind,enc n.line,enc n.name,enc n.num,enc n.elem,enc n.dims,enc n.data,enc n.sizes,enc n.ranks,enc ks],.int .i64 4,.int .i64 8])=AV.pv (enc y) ∧
    (if y=true then((preT (fun(x:List Int×FnV 114×Unit)=>decide (List.length (Prod.fst x)<=1048576)) [enc n.ranks,.fn 114])=true ∧
     ∃ z:Bool,AV.pv (Zi (fun(x:List Int×FnV 114×Unit)=>List.any (Prod.fst x) Yg) [enc n.ranks,.fn 114])=AV.pv (enc z)∧Zm (WQ n ks.length) (.bool (!z)))else Zm (WQ n ks.length) (.bool false)):=by
  intro h5
  refine⟨Ze (.mk n ks,4,8,()) (V3 n ks 4 8) h,Zd (.mk n ks,4,8,()) (V3 n ks 4 8) (VB (fun h6=>⟨Ze (n.ranks,{},()) rfl hrk,Zd (n.ranks,{},()) rfl (leaf _ ?_)⟩) fun h6=>leaf _ ?_)⟩
  ·have h6:YR n 4 8=true:=h6
   by_cases h8:n.ranks.length<=8
   ·rw[hcall h5 h8,h6,Bool.true_and]
   ·rw[no8l h8]at h6;cases h6
  ·have h6:YR n 4 8=false:=h6
   by_cases h8:n.ranks.length<=8
   ·rw[hcall h5 h8,h6,Bool.false_and]
   ·exact no8 h8
 refine WC (fun h5=>AY (fun h6=>leaf _ ?_) fun h6=>tail ?_) fun h5=>tail ?_
 ·have h6 : ¬ n.ranks.length=ks.length:=by simp at h6;omega
  rw[List.length_map]at h5
  unfold WQ
  have:(n.ranks.isEmpty||decide (n.ranks.length=ks.length))=false:=by
   rw[decide_eq_false h6,Bool.or_false]
   cases hq:n.ranks with
   | nil=>rw[hq]at h5;exact absurd h5 (by decide)
   | cons a l=>rfl
  rw[this];simp
 ·have h6:n.ranks.length=ks.length:=by simp at h6;omega
  rw[decide_eq_true h6,Bool.or_true]
 ·rw[List.length_map]at h5
  cases hq:n.ranks with
  | nil=>rfl
  | cons a l=>rw[hq]at h5;simp at h5
theorem Qa{ks:List Tm}{k:Tm}(h:k∈ks):ZA k<=ZP ks:=by
 induction ks with
 | nil=>cases h
 | cons a ks ih=>
  rw[ZP]
  rcases List.mem_cons.1 h with rfl|h
  ·omega
  ·have:=ih h;omega
theorem CE{N:Nat}{n:Nd}{ks:List Tm}(h:tW (.mk n ks)=true)(hd:ZP ks<N){k:Tm}(hk:k∈ks):(fun x:Tm×Unit=>tW x.1&&decide (ZA x.1<N)) (k,())=true:=by
 show(tW k&&decide (ZA k<N))=true
 rw[(Yo h).2 k hk,decide_eq_true (Nat.lt_of_le_of_lt (Qa hk) hd)];rfl
theorem a9t{a b:Nat}(h:a+b<=4611686018427387904):IntKind.i64.wrap ((a:Int)+(b:Int))=((a+b:Nat):Int):=by rw[IntKind.wrap_i64];omega
theorem a4c(N:Nat)(n:Nd)(ks:List Tm)(hw:tW (.mk n ks)=true)(hd:ZP ks<N): ∀ (d i:Nat),d+i=ks.length ->
  At (GD N) 0 (Zb KV (Zm ((ZA (.mk n ks):Nat):Int))) KP 0 22 [(1,.ptr 0 0),(3,.pv (.int .i64 (ZP (ks.take i):Nat))),(4,.pv (.int .i64 i))] [.obj (.box (ZM n ks))]:=by
 intro d
 induction d with
 | zero=>
  intro i hi
  rw[List.take_of_length_le (by omega)]
  refine EO N n ks _ i (Yz (XA (by omega)) (Uj ?_))
  have:=Kg (.mk n ks)
  have:=XZ hw
  rw[ZA]at *
  exact next (by omega)
 | succ d ih=>
  intro i hi
  have hlt:i<ks.length:=by omega
  refine EO N n ks _ i (Yq (Xb hlt) ⟨Zn hlt rfl,Zw hlt ⟨XL _,Ze (ks[i],()) (GH _) (CE hw hd (List.getElem_mem hlt)),Zd (ks[i],()) (GH _) ?_⟩⟩)
  rw[next (by have:=(Yo hw).1;omega)]
  have h:=ih (i+1) (by omega)
  rw[UV hlt,a6i]at h
  have e:(if true=true then if ((ZA ks[i]:Nat):Int)>((ZP (ks.take i):Nat):Int)then((ZA ks[i]:Nat):Int)else((ZP (ks.take i):Nat):Int)else if ((ZA ks[i]:Nat):Int)<((ZP (ks.take i):Nat):Int)then((ZA ks[i]:Nat):Int)else((ZP (ks.take i):Nat):Int))=((max (ZP (ks.take i)) (ZA ks[i]):Nat):Int):=by
   rw[if_pos rfl]
   split <;> omega
  have h2:_:=h
  rw[<- e]at h2
  exact h2
theorem b1i(N:Nat): ∀ x:Tm×Unit,(tW x.1&&decide (ZA x.1<N+1))=true->Zc (GD N) 0 (Zb KV (Zm ((ZA x.1:Nat):Int))) KP [] (ZY c1n (encL x)):=by
 rintro⟨⟨n,ks⟩,⟨⟩⟩ h
 simp only[Bool.and_eq_true,decide_eq_true_eq]at h
 have hd:ZA (.mk n ks)<N+1:=h.2
 rw[ZA]at hd
 rw[<- ZQ]
 exact d1d N n ks (a4c N n ks h.1 (by omega) ks.length 0 (by omega))
theorem FQ(N:Nat)(n:Nd)(ks:List Tm)(hw:tW (.mk n ks)=true)(hd:ZP ks<N): ∀ (d i:Nat),d+i=ks.length ->
  At (KF N) 0 (Zb U7 (Zm ((Zk (.mk n ks):Nat):Int))) UT 0 21 [(1,.ptr 0 0),(3,.pv (.int .i64 (Zo (ks.take i)+1:Nat))),(4,.pv (.int .i64 i))] [.obj (.box (ZM n ks))]:=by
 intro d
 induction d with
 | zero=>
  intro i hi
  rw[List.take_of_length_le (by omega)]
  exact LM N n ks _ i (Yz (XA (by omega)) (Uj (by rw[Zk])))
 | succ d ih=>
  intro i hi
  have hlt:i<ks.length:=by omega
  refine LM N n ks _ i (Yq (Xb hlt) ⟨Zn hlt rfl,Zw hlt ⟨XL _,Ze (ks[i],()) (GH _) (CE hw hd (List.getElem_mem hlt)),Zd (ks[i],()) (GH _) ?_⟩⟩)
  have hs:=XZ hw
  rw[Zk]at hs
  have ht:=Cf ks (i+1)
  have h:=ih (i+1) (by omega)
  rw[UV hlt,QQ]at h ht
  rw[next (by have:=(Yo hw).1;omega)]
  have e:IntKind.wrap IntKind.i64 (((Zo (ks.take i)+1:Nat):Int)+((Zk ks[i]:Nat):Int))=((Zo (ks.take i)+Zk ks[i]+1:Nat):Int):=by rw[a9t (by omega)];congr 1;omega
  have h2:_:=h
  rw[<- e]at h2
  exact h2
theorem a6f(N:Nat): ∀ x:Tm×Unit,(tW x.1&&decide (ZA x.1<N+1))=true->Zc (KF N) 0 (Zb U7 (Zm ((Zk x.1:Nat):Int))) UT [] (ZY b7v (encL x)):=by
 rintro⟨⟨n,ks⟩,⟨⟩⟩ h
 simp only[Bool.and_eq_true,decide_eq_true_eq]at h
 have hd:ZA (.mk n ks)<N+1:=h.2
 rw[ZA]at hd
 rw[<- ZQ]
 exact c2h N n ks (FQ N n ks h.1 (by omega) ks.length 0 (by omega))
def Ul(n:Nd)(ks:List Tm)(i:Nat):List Tm:=.mk n ks::(ks.take i).flatMap ZV
theorem b8g(n:Nd)(ks:List Tm)(i:Nat):(Ul n ks i).length=Zo (ks.take i)+1:=by unfold Ul;rw[List.length_cons,RQ]
theorem a3u(N:Nat)(n:Nd)(ks:List Tm)(hw:tW (.mk n ks)=true)(hd:ZP ks<N): ∀ (d i:Nat),d+i=ks.length ->
  At (G6 N) 0 (Zb KT (Zm (ZV (.mk n ks)))) KQ 0 23 [(1,.ptr 0 0),(3,.row 1 (Ul n ks i).length 0 (Ul n ks i).length),(4,.pv (.int .i64 i))] [.obj (.box (ZM n ks)),.obj (.row false 28 10 ((Ul n ks i).map enc))]:=by
 intro d
 induction d with
 | zero=>
  intro i hi
  refine a2x N n ks _ i (Ul n ks i) (Yz (XA (by omega)) ⟨by simp,?_⟩)
  rw[List.drop_zero,List.take_of_length_le (by simp)]
  refine Y6 (x:=Ul n ks i) ?_
  unfold Ul
  rw[List.take_of_length_le (by omega),PS]
 | succ d ih=>
  intro i hi
  have hlt:i<ks.length:=by omega
  have hs:=XZ hw
  rw[Zk]at hs
  have ht:=Cf ks (i+1)
  rw[UV hlt,QQ]at ht
  have hl:(List.map (enc:Tm->PV) (ZV ks[i])).length=Zk ks[i]:=by rw[List.length_map,Wj]
  have hk:=b8g n ks i
  refine a2x N n ks _ i (Ul n ks i) (Yq (Xb hlt) ⟨Zn hlt rfl,Zw hlt ⟨XL _,Ze (ks[i],()) (GH _) (CE hw hd (List.getElem_mem hlt)),Zd (ks[i],()) (GH _) ⟨?_,?_,?_⟩⟩⟩)
  ·show((List.map (enc:Tm->PV) (ZV ks[i])).isEmpty||Enc.sz Tm==10)=true
   rw[show(Enc.sz Tm==10)=true from rfl,Bool.or_true]
  ·show(List.length (List.map (enc:Tm->PV) (Ul n ks i))==(Ul n ks i).length&&(Ul n ks i).length==(Ul n ks i).length&&decide (((Ul n ks i).length+(List.map (enc:Tm->PV) (ZV ks[i])).length)*176<=1099511627776)&&decide ((Ul n ks i).length+(List.map (enc:Tm->PV) (ZV ks[i])).length<=1099511627776))=true
   rw[List.length_map,hl,decide_eq_true (by omega),decide_eq_true (by omega)];simp
  ·rw[next (by have:=(Yo hw).1;omega)]
   have h:=ih (i+1) (by omega)
   have e:Ul n ks (i+1)=Ul n ks i++ZV ks[i]:=by unfold Ul;rw[UV hlt,List.flatMap_append,List.flatMap_cons,List.flatMap_nil,List.append_nil];rfl
   rw[e,List.map_append,List.length_append,<- show(List.map (enc:Tm->PV) (ZV ks[i])).length=(ZV ks[i]).length from List.length_map _]at h
   exact h
theorem b6m(N:Nat): ∀ x:Tm×Unit,(tW x.1&&decide (ZA x.1<N+1))=true->Zc (G6 N) 0 (Zb KT (Zm (ZV x.1))) KQ [] (ZY c5i (encL x)):=by
 rintro⟨⟨n,ks⟩,⟨⟩⟩ h
 simp only[Bool.and_eq_true,decide_eq_true_eq]at h
 have hd:ZA (.mk n ks)<N+1:=h.2
 rw[ZA]at hd
 rw[<- ZQ]
 refine d1e N n ks ?_
 have:=a3u N n ks h.1 (by omega) ks.length 0 (by omega)
 rw[show Ul n ks 0=[.mk n ks]from rfl]at this
 rw[ZQ]
 exact this
theorem zs2(t:Tm):(decide (0+List.length [Sh.str]<=List.length (List.drop 2 (PV.cells (enc t))))&&ZU (List.drop 2 (PV.cells (enc t))) 0 [Sh.str])=true:=by obtain⟨n,ks⟩:=t;rw[Zx];rfl
theorem zv2(t:Tm):PV.asStr (List.getD (List.drop 2 (PV.cells (enc t))) 0 default)=t.nd.name.s:=by obtain⟨n,ks⟩:=t;rw[Zx];rfl
theorem e0n(t:Tm):(decide (0+List.length [Sh.sl 1]<=List.length (List.drop 2 (List.drop 4 (PV.cells (enc t)))))&&ZU (List.drop 2 (List.drop 4 (PV.cells (enc t)))) 0 [Sh.sl 1])=true:=by obtain⟨n,ks⟩:=t;rw[Zx];rfl
theorem e0e(t:Tm):PV.asXs (List.getD (List.drop 2 (List.drop 4 (PV.cells (enc t)))) 0 default)=t.nd.data.map enc:=by obtain⟨n,ks⟩:=t;rw[Zx];rfl
theorem e0u(t:Tm):(decide (0+List.length [Sh.sl 1]<=List.length (List.drop 1 (List.drop 4 (PV.cells (enc t)))))&&ZU (List.drop 1 (List.drop 4 (PV.cells (enc t)))) 0 [Sh.sl 1])=true:=by obtain⟨n,ks⟩:=t;rw[Zx];rfl
theorem e0f(t:Tm):PV.asXs (List.getD (List.drop 1 (List.drop 4 (PV.cells (enc t)))) 0 default)=t.nd.dims.map enc:=by obtain⟨n,ks⟩:=t;rw[Zx];rfl
theorem zs7(t:Tm):(decide (0+List.length [Sh.sl 2]<=List.length (List.drop 7 (PV.cells (enc t))))&&ZU (List.drop 7 (PV.cells (enc t))) 0 [Sh.sl 2])=true:=by obtain⟨n,ks⟩:=t;rw[Zx];rfl
theorem zv7(t:Tm):PV.asXs (List.getD (List.drop 7 (PV.cells (enc t))) 0 default)=t.nd.sizes.map enc:=by obtain⟨n,ks⟩:=t;rw[Zx];rfl
theorem zs8(t:Tm):(decide (0+List.length [Sh.sl 1]<=List.length (List.drop 8 (PV.cells (enc t))))&&ZU (List.drop 8 (PV.cells (enc t))) 0 [Sh.sl 1])=true:=by obtain⟨n,ks⟩:=t;rw[Zx];rfl
theorem zv8(t:Tm):PV.asXs (List.getD (List.drop 8 (PV.cells (enc t))) 0 default)=t.nd.ranks.map enc:=by obtain⟨n,ks⟩:=t;rw[Zx];rfl
theorem FR(l:Lin):(decide (0+List.length [Sh.sl 2]<=List.length (List.drop 1 (PV.cells (enc l))))&&ZU (List.drop 1 (PV.cells (enc l))) 0 [Sh.sl 2])=true:=rfl
theorem Ol(l:Lin):PV.asXs (List.getD (List.drop 1 (PV.cells (enc l))) 0 default)=l.t.map enc:=rfl
theorem c0r(n:Nd)(ks:List Tm)(m:Int)(o:List Tm)(G:PV->Prop){i:Nat}(hlt:i<o.length)(hs:o[i].nd.sizes.length<=1048576)(hf:(o[i].nd.sizes.all fun l=>decide (l.t.length<=6))=false->G (.bool false))
  (hk:(o[i].nd.sizes.all fun l=>decide (l.t.length<=6))=true->At VE 0 (Zb Wn G) WV 0 91 [(5,.pv (enc o)),(6,.pv (.int .i64 (IntKind.i64.wrap ((i:Int)+1))))] []) : ∀ (d j:Nat),d+j=o[i].nd.sizes.length->(∀ q (hq:q<o[i].nd.sizes.length),q<j->(o[i].nd.sizes[q]).t.length<=6) ->
  At VE 0 (Zb Wn G) WV 1 91 [(5,.pv (enc o)),(6,.pv (.int .i64 i)),(7,.pv (.int .i64 j))] []:=by
 intro d
 induction d with
 | zero=>
  intro j hj hq
  refine a2m n ks m i j o ⟨Zn hlt rfl,Zw hlt ⟨zs7 _,?_⟩⟩
  rw[zv7,List.length_map]
  refine Yz (WE (by omega)) (hk ?_)
  rw[List.all_eq_true]
  intro l hl
  obtain⟨q,hq2,rfl⟩:=List.getElem_of_mem hl
  exact decide_eq_true (hq q hq2 (by omega))
 | succ d ih=>
  intro j hj hq
  have hjl:j<o[i].nd.sizes.length:=by omega
  have eg:List.getD (o[i].nd.sizes.map (enc:Lin->PV)) (Int.toNat (j:Int)) default=enc o[i].nd.sizes[j]:=by rw[Int.toNat_natCast];simp[List.getD,hjl]
  refine a2m n ks m i j o ⟨Zn hlt rfl,Zw hlt ⟨zs7 _,?_⟩⟩
  rw[zv7]
  refine Yq (Xb hjl) ⟨Zn hlt rfl,Zw hlt ⟨zs7 _,?_⟩⟩
  rw[zv7,eg,Ol]
  refine⟨by rw[List.length_map];simp;omega,FR _,WC (fun h=> ?_) fun h=> ?_⟩
  ·refine hf ?_
   rw[List.length_map]at h
   rw[List.all_eq_false]
   exact⟨_,List.getElem_mem hjl,by simp;omega⟩
  ·rw[List.length_map]at h
   rw[next (by omega)]
   refine ih (j+1) (by omega) fun q hq2 hqj=> ?_
   by_cases e:q=j
   ·subst e;omega
   ·exact hq q hq2 (by omega)
theorem E9{t x:Tm}(h:tW t=true)(hx:x∈ZV t):tW x=true:=by
 unfold ZV at hx
 obtain⟨p,hp,rfl⟩:=List.mem_map.1 hx
 exact Kr h hp
theorem Kb{t:Tm}(h : ¬ (t.nd.name.s.length<=40∧t.nd.data.length<=30∧t.nd.dims.length<=8∧t.nd.sizes.length<=6∧t.nd.ranks.length<=10)):Bq t=false:=by
 rw[Bool.eq_false_iff]
 intro k
 unfold Bq at k
 simp only[Bool.and_eq_true,decide_eq_true_eq]at k
 exact h ⟨k.1.1.1.1.1,k.1.1.1.1.2,k.1.1.1.2,k.1.1.2,k.1.2⟩
theorem b5q{t:Tm}(h1:t.nd.name.s.length<=40)(h2:t.nd.data.length<=30)(h3:t.nd.dims.length<=8)(h4:t.nd.sizes.length<=6)(h5:t.nd.ranks.length<=10):Bq t=t.nd.sizes.all fun l=>decide (l.t.length<=6):=by
 unfold Bq
 rw[decide_eq_true h1,decide_eq_true h2,decide_eq_true h3,decide_eq_true h4,decide_eq_true h5];simp
theorem a5d(n:Nd)(ks:List Tm)(m:Int)(o:List Tm)(hw : ∀ x∈o,tW x=true)(hl:o.length<=1048576)(G:PV->Prop)(hG:G (.bool (o.all Bq))): ∀ (d i:Nat),d+i=o.length->(∀ q (hq:q<o.length),q<i->Bq o[q]=true) ->
  At VE 0 (Zb Wn G) WV 0 91 [(5,.pv (enc o)),(6,.pv (.int .i64 i))] []:=by
 intro d
 induction d with
 | zero=>
  intro i hi hq
  have e:o.all Bq=true:=by
   rw[List.all_eq_true]
   intro x hx
   obtain⟨q,hq2,rfl⟩:=List.getElem_of_mem hx
   exact hq q hq2 (by omega)
  rw[e]at hG
  exact a2k n ks m i o (Yz (XA (by omega)) hG)
 | succ d ih=>
  intro i hi hq
  have hlt:i<o.length:=by omega
  have hno:Bq o[i]=false->G (.bool false):=fun h=>by
   have e:o.all Bq=false:=by rw[List.all_eq_false];exact⟨_,List.getElem_mem hlt,by rw[h];simp⟩
   rw[e]at hG
   exact hG
  refine a2k n ks m i o (Yq (Xb hlt) ⟨Zn hlt rfl,Zw hlt ⟨zs2 _,?_⟩⟩)
  rw[zv2]
  refine WC (fun h=>hno (Kb fun k=>by omega)) fun h1=>⟨Zn hlt rfl,Zw hlt ⟨e0n _,?_⟩⟩
  rw[e0e,List.length_map]
  refine WC (fun h=>hno (Kb fun k=>by omega)) fun h2=>⟨Zn hlt rfl,Zw hlt ⟨e0u _,?_⟩⟩
  rw[e0f,List.length_map]
  refine WC (fun h=>hno (Kb fun k=>by omega)) fun h3=>⟨Zn hlt rfl,Zw hlt ⟨zs7 _,?_⟩⟩
  rw[zv7,List.length_map]
  refine WC (fun h=>hno (Kb fun k=>by omega)) fun h4=>⟨Zn hlt rfl,Zw hlt ⟨zs8 _,?_⟩⟩
  rw[zv8,List.length_map]
  refine WC (fun h=>hno (Kb fun k=>by omega)) fun h5=> ?_
  have ef:=b5q (t:=o[i]) (by omega) (by omega) (by omega) (by omega) (by omega)
  refine c0r n ks m o G hlt (by omega) (fun h=>hno (by rw[ef];exact h)) (fun h=> ?_) o[i].nd.sizes.length 0 (by omega) fun q hq hq2=>by omega
  rw[next (by omega)]
  refine ih (i+1) (by omega) fun q hq2 hqi=> ?_
  by_cases e:q=i
  ·subst e;rw[ef];exact h
  ·exact hq q hq2 (by omega)
theorem b2t: ∀ x:Tm×Int×Unit,tW x.1=true->Zc VE 0 (Zb Wn (Zm (Q9 x.1 x.2.1))) WV [] (ZY c1x (encL x)):=by
 rintro⟨⟨n,ks⟩,m,⟨⟩⟩ h
 have h:tW (.mk n ks)=true:=h
 have ea:Jg n ks++[.int .i64 m]=encL ((.mk n ks,m,()):Tm×Int×Unit):=by rw[ZQ];rfl
 rw[<- ea]
 show Zc VE 0 (Zb Wn (Zm (Q9 (.mk n ks) m))) _ _ _
 refine d2k n ks m ⟨Ze (.mk n ks,()) (ZQ n ks) h,Zd (.mk n ks,()) (ZQ n ks) (WC (fun h1=>ZI ?_) fun h1=>⟨Ze (.mk n ks,()) (ZQ n ks) h,Zd (.mk n ks,()) (ZQ n ks) (WC (fun h2=>ZI ?_) fun h2=>⟨Ze (.mk n ks,()) (ZQ n ks) h,Zd (.mk n ks,()) (ZQ n ks) ?_⟩)⟩)⟩
 ·have h1:((ZA (.mk n ks):Nat):Int)>12:=h1
  unfold Q9
  rw[decide_eq_false (by omega)];rfl
 ·have h2:((Zk (.mk n ks):Nat):Int)>m:=h2
  unfold Q9
  rw[decide_eq_false (show ¬ ((Zk (.mk n ks):Nat):Int)<=m by omega),Bool.and_false];rfl
 ·have h1 : ¬ ((ZA (.mk n ks):Nat):Int)>12:=h1
  have h2 : ¬ ((Zk (.mk n ks):Nat):Int)>m:=h2
  have e:Q9 (.mk n ks) m=(ZV (.mk n ks)).all Bq:=by
   unfold Q9
   rw[decide_eq_true (by omega),decide_eq_true (show((Zk (.mk n ks):Nat):Int)<=m by omega)];simp
  refine a5d n ks m (ZV (.mk n ks)) (fun x hx=>E9 h hx) (by rw[Wj];exact XZ h) _ (ZI e.symm) (ZV (.mk n ks)).length 0 (by omega) fun q hq hq2=>by omega
end Go.Pl
namespace Go.Pl
open Go.RowKit
open Enc (enc dec is)
open EncL (encL decL isL)
set_option maxRecDepth 100000
end Go.Pl
namespace Go.Pl
open Go.RowKit
open Enc (enc dec is)
open EncL (encL decL isL)
set_option maxRecDepth 100000
end Go.Pl
namespace Go.Pl
open Go.RowKit
open Enc (enc dec is)
open EncL (encL decL isL)
theorem a2j(m:Nat):IntKind.wrap .u8 (IntKind.wrap .i64 (48+Int.tmod (m:Int) 10))=((48+m % 10:Nat):Int):=by
 have e2:Int.tmod (m:Int) 10=((m % 10:Nat):Int):=by rw[Int.tmod_eq_emod_of_nonneg (by omega)];omega
 rw[e2,Q6 (by omega) (by omega)]
 simp[IntKind.wrap,IntKind.bits,IntKind.signed]
 omega
theorem d7d(m:Nat):(List.length [PV.int IntKind.u8 (IntKind.wrap .u8 (IntKind.wrap .i64 (48+Int.tmod (m:Int) 10)))]==1&&List.all [PV.int IntKind.u8 (IntKind.wrap .u8 (IntKind.wrap .i64 (48+Int.tmod (m:Int) 10)))] Pe&&1==1)=true:=by
 rw[a2j]
 simp only[List.length_cons,List.length_nil,List.all_cons,List.all_nil,Pe,Bool.and_true,beq_self_eq_true,Bool.true_and,Bool.and_eq_true,decide_eq_true_eq,Nat.zero_add]
 omega
theorem d9b(m:Nat):X0 (List.drop 0 (List.take 1 [PV.int IntKind.u8 (IntKind.wrap .u8 (IntKind.wrap .i64 (48+Int.tmod (m:Int) 10)))]))=[UInt8.ofNat (48+m % 10)]:=by
 rw[a2j];rfl
theorem c9p(m:Nat):Int.tdiv (m:Int) 10=((m / 10:Nat):Int):=by rw[Int.tdiv_eq_ediv_of_nonneg (by omega)];omega
theorem J7(l:List Str)(s:Str):(Yk l s).length<=l.length+1:=by
 induction l with
 | nil=>simp[Yk]
 | cons a r ih=>
  rw[Yk]
  split
  ·rw[List.length_cons,List.length_cons];omega
  ·split <;> simp
theorem a2w(l:List Str)(s:Str):Yk l s≠[]:=by
 cases l with
 | nil=>simp[Yk]
 | cons a r=>
  rw[Yk]
  split
  ·simp
  ·split <;> simp
theorem a1r(l:List Str)(s:List UInt8)(i:Nat)(h:i<=l.length):(PV.sl 1 false (List.drop 0 (List.take (0+List.length (List.drop 0 (List.take (Int.toNat (i:Int)) (List.map (enc:Str->PV) l)))+List.length (List.drop 0 (List.take 1 [PV.str s]))+List.length (List.drop (Int.toNat (i:Int)) (List.take (List.length (List.map (enc:Str->PV) l)) (List.map (enc:Str->PV) l)))) (([]:List PV)++List.drop 0 (List.take (Int.toNat (i:Int)) (List.map (enc:Str->PV) l))++List.drop 0 (List.take 1 [PV.str s])++List.drop (Int.toNat (i:Int)) (List.take (List.length (List.map (enc:Str->PV) l)) (List.map (enc:Str->PV) l))))))=enc (l.take i++(⟨s⟩:Str)::l.drop i):=by
 have e:(([]:List PV)++List.drop 0 (List.take (Int.toNat (i:Int)) (List.map (enc:Str->PV) l))++List.drop 0 (List.take 1 [PV.str s])++List.drop (Int.toNat (i:Int)) (List.take (List.length (List.map (enc:Str->PV) l)) (List.map (enc:Str->PV) l)))=(l.take i++(⟨s⟩:Str)::l.drop i).map enc:=by
  rw[Int.toNat_natCast,List.nil_append,List.drop_zero,List.take_length,List.map_append,List.map_cons,List.map_take,List.map_drop,List.append_assoc]
  rfl
 rw[e,List.drop_zero,List.take_of_length_le]
 ·rfl
 ·rw[<- e];simp only[List.length_append,List.length_nil];omega
theorem a4r(l:List Str)(s:List UInt8)(hl:l.length<=1048576): ∀ (d i:Nat),d+i=l.length->Yk l ⟨s⟩=l.take i++Yk (l.drop i) ⟨s⟩ ->
  At JV 0 (Zb Qp (Zm (Yk l ⟨s⟩))) QM 0 45 [(0,.pv (enc l)),(1,.pv (.str s)),(5,.pv (.int .i64 i))] []:=by
 intro d
 induction d with
 | zero=>
  intro i hi hR
  have hn : ¬ i<l.length:=by omega
  refine a0s l s i (Yz (XA hn) (Yz (XA hn) ⟨by first|(simp[Enc.sz];done)|(simp[Enc.sz];omega),by first|(simp[Enc.sz];done)|(simp[Enc.sz];omega),by first|(simp[Enc.sz];done)|(simp[Enc.sz];omega),by first|(simp[Enc.sz];done)|(simp[Enc.sz];omega),by first|(simp[Enc.sz];done)|(simp[Enc.sz];omega),by first|(simp[Enc.sz];done)|(simp[Enc.sz];omega),by first|(simp[Enc.sz];done)|(simp[Enc.sz];omega),by first|(simp[Enc.sz];done)|(simp[Enc.sz];omega),?_⟩))
  rw[a1r l s i (by omega)]
  refine Y6 ?_
  rw[hR,List.drop_eq_nil_of_le (show l.length<=i by omega)]
  rfl
 | succ d ih=>
  intro i hi hR
  have hlt:i<l.length:=by omega
  have hR2:=hR
  rw[List.drop_eq_getElem_cons hlt,Yk]at hR2
  have hil:i<=l.length:=by omega
  refine a0s l s i (Yq (Xb hlt) ⟨Zn hlt rfl,Zw hlt (AY (fun hb=> ?_) fun hb=>Yq (Xb hlt) ⟨Zn hlt rfl,Zw hlt (Y1 (fun he=> ?_) fun he=>⟨by first|(simp[Enc.sz];done)|(simp[Enc.sz];omega),by first|(simp[Enc.sz];done)|(simp[Enc.sz];omega),by first|(simp[Enc.sz];done)|(simp[Enc.sz];omega),by first|(simp[Enc.sz];done)|(simp[Enc.sz];omega),by first|(simp[Enc.sz];done)|(simp[Enc.sz];omega),by first|(simp[Enc.sz];done)|(simp[Enc.sz];omega),by first|(simp[Enc.sz];done)|(simp[Enc.sz];omega),by first|(simp[Enc.sz];done)|(simp[Enc.sz];omega),?_⟩)⟩)⟩)
  ·have hb:Op.bytesLess l[i].s s=true:=hb
   rw[WX]at hb
   rw[if_pos (of_decide_eq_true hb)]at hR2
   rw[next (by omega)]
   refine ih (i+1) (by omega) ?_
   rw[hR2,UV hlt,List.append_assoc];rfl
  ·have hb : ¬ Op.bytesLess l[i].s s=true:=hb
   rw[WX]at hb
   have he:l[i].s=s:=he
   have he2:l[i]=⟨s⟩:=by rw[<- he]
   rw[if_neg (fun h=>hb (decide_eq_true h)),if_pos he2]at hR2
   refine Y6 ?_
   rw[hR2,<- List.drop_eq_getElem_cons hlt,List.take_append_drop]
  ·have hb : ¬ Op.bytesLess l[i].s s=true:=hb
   rw[WX]at hb
   have he:l[i].s≠s:=he
   have he2 : ¬ l[i]=⟨s⟩:=fun h=>he (by rw[h])
   rw[if_neg (fun h=>hb (decide_eq_true h)),if_neg he2]at hR2
   rw[a1r l s i hil]
   refine Y6 ?_
   rw[hR2,List.drop_eq_getElem_cons hlt]
theorem a9v: ∀ x:List Str×Str×Unit,decide (x.1.length<=1048576)=true->Zc JV 0 (Zb Qp (Zm (Yk x.1 x.2.1))) QM [] (ZY c1c (encL x)):=by
 rintro⟨l,⟨s⟩,⟨⟩⟩ h
 exact d2d l s (a4r l s (of_decide_eq_true h) l.length 0 (by omega) (by simp))
def AP:List Str->PV
 | []=>.sl 0 true []
 | a::r=>enc (a::r)
theorem b2b{o:List Str}(h:o≠[]):AP o=enc o:=by cases o with
 | nil=>exact absurd rfl h
 | cons a r=>rfl
theorem Nt(o:List Str):Zm o (AP o):=by cases o with
 | nil=>exact⟨rfl,rfl⟩
 | cons a r=>exact Y6 rfl
theorem zsv(c:Coef):(decide (0+List.length [Sh.str]<=List.length (List.drop 0 (PV.cells (enc c))))&&ZU (List.drop 0 (PV.cells (enc c))) 0 [Sh.str])=true:=rfl
theorem c7y{G:PV->Prop}(n:Nd)(ks:List Tm)(y:List Tm)(o:List Str)(i:Nat)(h:if decide ((i:Int)<(y.length:Int))=true then At ZJ 0 (Zb ZF G) ZG 1 56 [(3,.pv (AP o)),(4,.pv (enc y)),(5,.pv (.int .i64 i)),(6,.pv (.int .i64 ((0:Nat):Int)))] []else G (AP o)):
  At ZJ 0 (Zb ZF G) ZG 0 56 [(3,.pv (AP o)),(4,.pv (enc y)),(5,.pv (.int .i64 i))] []:=by
 cases o with
 | nil=>exact a4y n ks y i (by rw[show(y.length:Int)=((List.map (enc:Tm->PV) y).length:Int)from by rw[List.length_map]]at h;exact h)
 | cons a r=>exact a3x n ks y (a::r) i (by rw[show(y.length:Int)=((List.map (enc:Tm->PV) y).length:Int)from by rw[List.length_map]]at h;exact h)
theorem c8u{G:PV->Prop}(n:Nd)(ks:List Tm)(y:List Tm)(o:List Str)(i k:Nat)(hlt:i<y.length)(h:if decide ((k:Int)<(y[i].nd.sizes.length:Int))=true then At ZJ 0 (Zb ZF G) ZG 2 56 [(3,.pv (AP o)),(4,.pv (enc y)),(5,.pv (.int .i64 i)),(6,.pv (.int .i64 k)),(7,.pv (.int .i64 ((0:Nat):Int)))] []else At ZJ 0 (Zb ZF G) ZG 0 56 [(3,.pv (AP o)),(4,.pv (enc y)),(5,.pv (.int .i64 (IntKind.i64.wrap ((i:Int)+1))))] []):
  At ZJ 0 (Zb ZF G) ZG 1 56 [(3,.pv (AP o)),(4,.pv (enc y)),(5,.pv (.int .i64 i)),(6,.pv (.int .i64 k))] []:=by
 cases o with
 | nil=>
  refine a7u n ks y i k ⟨Zn hlt rfl,Zw hlt ⟨zs7 _,?_⟩⟩
  rw[zv7,List.length_map]
  exact h
 | cons a r=>
  refine a4j n ks y (a::r) i k ⟨Zn hlt rfl,Zw hlt ⟨zs7 _,?_⟩⟩
  rw[zv7,List.length_map]
  exact h
theorem d3v{G:PV->Prop}(n:Nd)(ks:List Tm)(y:List Tm)(o:List Str)(i k j:Nat)(hlt:i<y.length)(hk:k<y[i].nd.sizes.length)(hj : ¬ j<y[i].nd.sizes[k].t.length)(h:At ZJ 0 (Zb ZF G) ZG 1 56 [(3,.pv (AP o)),(4,.pv (enc y)),(5,.pv (.int .i64 i)),(6,.pv (.int .i64 (IntKind.i64.wrap ((k:Int)+1))))] []):
  At ZJ 0 (Zb ZF G) ZG 2 56 [(3,.pv (AP o)),(4,.pv (enc y)),(5,.pv (.int .i64 i)),(6,.pv (.int .i64 k)),(7,.pv (.int .i64 j))] []:=by
 have c1:(decide (0<=(k:Int))&&decide (Int.toNat (k:Int)<List.length (List.map (enc:Lin->PV) y[i].nd.sizes))&&2==2)=true:=by simp[hk]
 cases o with
 | nil=>
  refine TZ n ks y i k j ⟨Zn hlt rfl,Zw hlt ⟨zs7 _,?_⟩⟩
  rw[zv7,Xz enc hk]
  refine⟨c1,FR _,?_⟩
  rw[Ol,List.length_map]
  exact Yz (WE hj) h
 | cons a r=>
  refine Tx n ks y (a::r) i k j ⟨Zn hlt rfl,Zw hlt ⟨zs7 _,?_⟩⟩
  rw[zv7,Xz enc hk]
  refine⟨c1,FR _,?_⟩
  rw[Ol,List.length_map]
  exact Yz (WE hj) h
theorem d2a{G:PV->Prop}(n:Nd)(ks:List Tm)(y:List Tm)(o:List Str)(i k j:Nat)(hlt:i<y.length)(hk:k<y[i].nd.sizes.length)(hj:j<y[i].nd.sizes[k].t.length)(ho:o.length<=1048576)(h:At ZJ 0 (Zb ZF G) ZG 2 56 [(3,.pv (AP (Yk o y[i].nd.sizes[k].t[j].v))),(4,.pv (enc y)),(5,.pv (.int .i64 i)),(6,.pv (.int .i64 k)),(7,.pv (.int .i64 (IntKind.i64.wrap ((j:Int)+1))))] []):
  At ZJ 0 (Zb ZF G) ZG 2 56 [(3,.pv (AP o)),(4,.pv (enc y)),(5,.pv (.int .i64 i)),(6,.pv (.int .i64 k)),(7,.pv (.int .i64 j))] []:=by
 have c1:(decide (0<=(k:Int))&&decide (Int.toNat (k:Int)<List.length (List.map (enc:Lin->PV) y[i].nd.sizes))&&2==2)=true:=by simp[hk]
 have c2:(decide (0<=(j:Int))&&decide (Int.toNat (j:Int)<List.length (List.map (enc:Coef->PV) y[i].nd.sizes[k].t))&&2==2)=true:=by simp[hj]
 rw[b2b (a2w _ _)]at h
 cases o with
 | nil=>
  refine TZ n ks y i k j ⟨Zn hlt rfl,Zw hlt ⟨zs7 _,?_⟩⟩
  rw[zv7,Xz enc hk]
  refine⟨c1,FR _,?_⟩
  rw[Ol,List.length_map]
  refine Yq (WR hj) ⟨Zn hlt rfl,Zw hlt ⟨zs7 _,?_⟩⟩
  rw[zv7,Xz enc hk]
  refine⟨c1,FR _,?_⟩
  rw[Ol,Xz enc hj]
  exact⟨c2,zsv _,JH ([],y[i].nd.sizes[k].t[j].v,()) rfl h⟩
 | cons a r=>
  refine Tx n ks y (a::r) i k j ⟨Zn hlt rfl,Zw hlt ⟨zs7 _,?_⟩⟩
  rw[zv7,Xz enc hk]
  refine⟨c1,FR _,?_⟩
  rw[Ol,List.length_map]
  refine Yq (WR hj) ⟨Zn hlt rfl,Zw hlt ⟨zs7 _,?_⟩⟩
  rw[zv7,Xz enc hk]
  refine⟨c1,FR _,?_⟩
  rw[Ol,Xz enc hj]
  exact⟨c2,zsv _,Ze (a::r,y[i].nd.sizes[k].t[j].v,()) rfl (decide_eq_true ho),Zd (a::r,y[i].nd.sizes[k].t[j].v,()) rfl h⟩
theorem e0q{G:PV->Prop}(n:Nd)(ks:List Tm)(y:List Tm)(i k E:Nat)(hlt:i<y.length)(hk:k<y[i].nd.sizes.length)(hkl:y[i].nd.sizes[k].t.length<=1048576)(F:List Str)(cont:F.length+E<=1048576->At ZJ 0 (Zb ZF G) ZG 1 56 [(3,.pv (AP F)),(4,.pv (enc y)),(5,.pv (.int .i64 i)),(6,.pv (.int .i64 (IntKind.i64.wrap ((k:Int)+1))))] []): ∀ (d j:Nat) (o:List Str),d+j=y[i].nd.sizes[k].t.length->o.length+d+E<=1048576->F=((y[i].nd.sizes[k].t.drop j).map (·.v)).foldl Yk o ->
  At ZJ 0 (Zb ZF G) ZG 2 56 [(3,.pv (AP o)),(4,.pv (enc y)),(5,.pv (.int .i64 i)),(6,.pv (.int .i64 k)),(7,.pv (.int .i64 j))] []:=by
 intro d
 induction d with
 | zero=>
  intro j o hj ho hF
  rw[List.drop_eq_nil_of_le (by omega)]at hF
  have hF:F=o:=hF
  subst hF
  exact d3v n ks y _ i k j hlt hk (by omega) (cont (by omega))
 | succ d ih=>
  intro j o hj ho hF
  have hjl:j<y[i].nd.sizes[k].t.length:=by omega
  rw[List.drop_eq_getElem_cons hjl,List.map_cons,List.foldl_cons]at hF
  refine d2a n ks y o i k j hlt hk hjl (by omega) ?_
  rw[next (by omega)]
  exact ih (j+1) _ (by omega) (by have:=J7 o y[i].nd.sizes[k].t[j].v;omega) hF
theorem e0k{G:PV->Prop}(n:Nd)(ks:List Tm)(y:List Tm)(i E:Nat)(hlt:i<y.length)(hyl:y[i].nd.sizes.length<=1048576)(hkl : ∀ l∈y[i].nd.sizes,l.t.length<=1048576)(F:List Str)(cont:F.length+E<=1048576->At ZJ 0 (Zb ZF G) ZG 0 56 [(3,.pv (AP F)),(4,.pv (enc y)),(5,.pv (.int .i64 (IntKind.i64.wrap ((i:Int)+1))))] []): ∀ (d k:Nat) (o:List Str),d+k=y[i].nd.sizes.length->o.length+((y[i].nd.sizes.drop k).flatMap fun l=>l.t.map (·.v)).length+E<=1048576->F=((y[i].nd.sizes.drop k).flatMap fun l=>l.t.map (·.v)).foldl Yk o ->
  At ZJ 0 (Zb ZF G) ZG 1 56 [(3,.pv (AP o)),(4,.pv (enc y)),(5,.pv (.int .i64 i)),(6,.pv (.int .i64 k))] []:=by
 intro d
 induction d with
 | zero=>
  intro k o hj ho hF
  rw[List.drop_eq_nil_of_le (by omega)]at hF
  have hF:F=o:=hF
  subst hF
  exact c8u n ks y _ i k hlt (Yz (WE (by omega)) (cont (by omega)))
 | succ d ih=>
  intro k o hj ho hF
  have hkl2:k<y[i].nd.sizes.length:=by omega
  have hkt:=hkl _ (List.getElem_mem hkl2)
  rw[List.drop_eq_getElem_cons hkl2,List.flatMap_cons,List.foldl_append]at hF
  rw[List.drop_eq_getElem_cons hkl2,List.flatMap_cons,List.length_append,List.length_map]at ho
  refine c8u n ks y o i k hlt (Yq (WR hkl2) ?_)
  refine e0q n ks y i k (((y[i].nd.sizes.drop (k+1)).flatMap fun l=>l.t.map (·.v)).length+E) hlt hkl2 hkt _ (fun hb=> ?_) y[i].nd.sizes[k].t.length 0 o (by omega) (by omega) rfl
  rw[next (by omega)]
  exact ih (k+1) _ (by omega) (by rw[List.drop_zero]at hb ⊢;omega) (by rw[List.drop_zero];exact hF)
theorem e0p(n:Nd)(ks:List Tm)(y:List Tm)(hw : ∀ x∈y,tW x=true)(hyl:y.length<=1048576)(F:List Str): ∀ (d i:Nat) (o:List Str),d+i=y.length->o.length+((y.drop i).flatMap UC).length<=1048576->F=((y.drop i).flatMap UC).foldl Yk o ->
  At ZJ 0 (Zb ZF (Zm F)) ZG 0 56 [(3,.pv (AP o)),(4,.pv (enc y)),(5,.pv (.int .i64 i))] []:=by
 intro d
 induction d with
 | zero=>
  intro i o hj ho hF
  rw[List.drop_eq_nil_of_le (by omega)]at hF
  have hF:F=o:=hF
  subst hF
  exact c7y n ks y _ i (Yz (WE (by omega)) (Nt _))
 | succ d ih=>
  intro i o hj ho hF
  have hlt:i<y.length:=by omega
  have hwi:=hw _ (List.getElem_mem hlt)
  have hB:NdB y[i].nd 1048576:=by
   have h2:y[i] = .mk y[i].nd y[i].ks:=by cases y[i];rfl
   rw[h2]at hwi
   exact PU hwi
  rw[List.drop_eq_getElem_cons hlt,List.flatMap_cons,List.foldl_append]at hF
  rw[List.drop_eq_getElem_cons hlt,List.flatMap_cons,List.length_append]at ho
  refine c7y n ks y o i (Yq (WR hlt) ?_)
  refine e0k n ks y i ((y.drop (i+1)).flatMap UC).length hlt hB.sizes hB.lens _ (fun hb=> ?_) y[i].nd.sizes.length 0 o (by omega) (by rw[List.drop_zero];unfold UC at ho ⊢;omega) rfl
  rw[next (by omega)]
  exact ih (i+1) _ (by omega) hb (by rw[List.drop_zero];exact hF)
theorem a5a: ∀ x:Tm×Unit,tW x.1=true->Zc ZJ 0 (Zb ZF (Zm (Cb x.1))) ZG [] (ZY b2s (encL x)):=by
 rintro⟨⟨n,ks⟩,⟨⟩⟩ h
 have h:tW (.mk n ks)=true:=h
 rw[<- ZQ]
 show Zc ZJ 0 (Zb ZF (Zm (Cb (.mk n ks)))) _ _ _
 have h5:=Gn 1 (.mk n ks)
 have h6:Qi (.mk n ks)<=1048576:=of_decide_eq_true h
 have h7:=XZ h
 have h8:=Wj (.mk n ks)
 have h9:((ZV (.mk n ks)).flatMap UC).length<=Qi (.mk n ks):=h5
 refine c4l n ks ⟨Ze (.mk n ks,()) (ZQ n ks) h,Zd (.mk n ks,()) (ZQ n ks) ?_⟩
 exact e0p n ks (ZV (.mk n ks)) (fun x hx=>E9 h hx) (by omega) _ (ZV (.mk n ks)).length 0 [] (by omega) (by rw[List.drop_zero,List.length_nil];omega) (by rw[List.drop_zero];rfl)
theorem Ti: ∀ (l m:List Str),(l.foldl Yk m).length<=m.length+l.length
 | [],m=>by simp
 | s::l,m=>by
  have h:=Ti l (Yk m s)
  have h2:=J7 m s
  rw[List.foldl_cons,List.length_cons]
  omega
end Go.Pl
namespace Go.Pl
open Go.RowKit
open Enc (enc dec is)
open EncL (encL decL isL)
theorem P9{α:Type}[BEq α][LawfulBEq α]{x y:α}{P Q:Prop}(h1:x≠y->P)(h2:x=y->Q):if (x != y)=true then P else Q:=by by_cases h:x=y;rw[if_neg (by simpa using h)];exact h2 h;rw[if_pos (by simpa using h)];exact h1 h
theorem c9m{α:Type}[BEq α][LawfulBEq α]{x y:α}{P Q:Prop}(h1:x≠y->P)(h2:x=y->Q):if (!x==y)=true then P else Q:=by by_cases h:x=y;rw[if_neg (by simpa using h)];exact h2 h;rw[if_pos (by simpa using h)];exact h1 h
theorem H6{α β:Type}[Enc α][Enc β]{a:List α}{b:List β}{P Q:Prop}(h1:a.length≠b.length->P)(h2:a.length=b.length->Q):if ((↑(List.length (List.map (enc:α->PV) a)):Int) != (↑(List.length (List.map (enc:β->PV) b)):Int))=true then P else Q:=
 P9 (fun h=>h1 fun e=>h (by rw[List.length_map,List.length_map,e])) fun h=>h2 (by rw[List.length_map,List.length_map]at h;omega)
theorem JS{α:Type}[DecidableEq α]{x y:α}{a b:List α}(h:x≠y):decide (x::a=y::b)=false:=decide_eq_false fun e=>h (List.cons.inj e).1
theorem Jn{α:Type}[DecidableEq α]{x y:α}{a b:List α}(h:x=y):decide (x::a=y::b)=decide (a=b):=decide_eq_decide.2 ⟨fun e=>(List.cons.inj e).2,fun e=>by rw[h,e]⟩
theorem Na{α:Type}[DecidableEq α]{a b:List α}(h:a.length≠b.length):decide (a=b)=false:=decide_eq_false fun e=>h (by rw[e])
theorem idf{x y:Int}(h:x≠y):x≠y:=h
theorem idt{x y:Int}(h:x=y):x=y:=h
theorem stf{x y:Str}(h:x.s≠y.s):x≠y:=fun e=>h (by rw[e])
theorem stt{x y:Str}(h:x.s=y.s):x=y:=by cases x;cases y;cases h;rfl
theorem b7r(a b:List Int)(hl:a.length<=1048576)(e:a.length=b.length)(R:Bool): ∀ (d i:Nat),d+i=a.length->R=decide (a.drop i=b.drop i) ->
  At Rb 0 (Zb GR (Zm R)) Jq 0 26 [(0,.pv (enc a)),(1,.pv (enc b)),(5,.pv (.int .i64 i))] []:=by
 intro d
 induction d with
 | zero=>
  intro i hi hR
  refine b0d a b i (Yz (XA (by omega)) (ZI ?_))
  rw[hR,List.drop_eq_nil_of_le (by omega),List.drop_eq_nil_of_le (by omega)];rfl
 | succ d ih=>
  intro i hi hR
  have h1:i<a.length:=by omega
  have h2:i<b.length:=by omega
  rw[List.drop_eq_getElem_cons h1,List.drop_eq_getElem_cons h2]at hR
  refine b0d a b i (Yq (Xb h1) ⟨Zn h1 rfl,Zw h1 ⟨Zn h2 rfl,Zw h2 (P9 (fun h=>ZI ?_) fun h=> ?_)⟩⟩)
  ·rw[hR,JS (show a[i]≠b[i]from idf h)]
  ·rw[next (by omega)]
   exact ih (i+1) (by omega) (by rw[hR,Jn (show a[i]=b[i]from idt h)])
theorem b9t: ∀ x:List Int×List Int×Unit,decide (x.1.length<=1048576)=true->Zc Rb 0 (Zb GR (Zm (decide (x.1=x.2.1)))) Jq [] (ZY d4o (encL x)):=by
 rintro⟨a,b,⟨⟩⟩ h
 refine d7g a b (H6 (fun k=>ZI (Na k).symm) fun k=> ?_)
 exact b7r a b (of_decide_eq_true h) k _ a.length 0 (by omega) rfl
theorem a4o(a b:List Int)(hl:a.length<=1048576)(e:a.length=b.length)(R:Bool): ∀ (d i:Nat),d+i=a.length->R=decide (a.drop i=b.drop i) ->
  At JQ 0 (Zb QN (Zm R)) QR 0 26 [(0,.pv (enc a)),(1,.pv (enc b)),(5,.pv (.int .i64 i))] []:=by
 intro d
 induction d with
 | zero=>
  intro i hi hR
  refine a1d a b i (Yz (XA (by omega)) (ZI ?_))
  rw[hR,List.drop_eq_nil_of_le (by omega),List.drop_eq_nil_of_le (by omega)];rfl
 | succ d ih=>
  intro i hi hR
  have h1:i<a.length:=by omega
  have h2:i<b.length:=by omega
  rw[List.drop_eq_getElem_cons h1,List.drop_eq_getElem_cons h2]at hR
  refine a1d a b i (Yq (Xb h1) ⟨Zn h1 rfl,Zw h1 ⟨Zn h2 rfl,Zw h2 (P9 (fun h=>ZI ?_) fun h=> ?_)⟩⟩)
  ·rw[hR,JS (show a[i]≠b[i]from idf h)]
  ·rw[next (by omega)]
   exact ih (i+1) (by omega) (by rw[hR,Jn (show a[i]=b[i]from idt h)])
theorem b6q: ∀ x:List Int×List Int×Unit,decide (x.1.length<=1048576)=true->Zc JQ 0 (Zb QN (Zm (decide (x.1=x.2.1)))) QR [] (ZY b9l (encL x)):=by
 rintro⟨a,b,⟨⟩⟩ h
 refine d1j a b (H6 (fun k=>ZI (Na k).symm) fun k=> ?_)
 exact a4o a b (of_decide_eq_true h) k _ a.length 0 (by omega) rfl
theorem a5c(a b:List Str)(hl:a.length<=1048576)(e:a.length=b.length)(R:Bool): ∀ (d i:Nat),d+i=a.length->R=decide (a.drop i=b.drop i) ->
  At Jw 0 (Zb Ql (Zm R)) Qt 0 26 [(0,.pv (enc a)),(1,.pv (enc b)),(5,.pv (.int .i64 i))] []:=by
 intro d
 induction d with
 | zero=>
  intro i hi hR
  refine a1p a b i (Yz (XA (by omega)) (ZI ?_))
  rw[hR,List.drop_eq_nil_of_le (by omega),List.drop_eq_nil_of_le (by omega)];rfl
 | succ d ih=>
  intro i hi hR
  have h1:i<a.length:=by omega
  have h2:i<b.length:=by omega
  rw[List.drop_eq_getElem_cons h1,List.drop_eq_getElem_cons h2]at hR
  refine a1p a b i (Yq (Xb h1) ⟨Zn h1 rfl,Zw h1 ⟨Zn h2 rfl,Zw h2 (c9m (fun h=>ZI ?_) fun h=> ?_)⟩⟩)
  ·rw[hR,JS (show a[i]≠b[i]from stf h)]
  ·rw[next (by omega)]
   exact ih (i+1) (by omega) (by rw[hR,Jn (show a[i]=b[i]from stt h)])
theorem b1u: ∀ x:List Str×List Str×Unit,decide (x.1.length<=1048576)=true->Zc Jw 0 (Zb Ql (Zm (decide (x.1=x.2.1)))) Qt [] (ZY c2e (encL x)):=by
 rintro⟨a,b,⟨⟩⟩ h
 refine d0z a b (H6 (fun k=>ZI (Na k).symm) fun k=> ?_)
 exact a5c a b (of_decide_eq_true h) k _ a.length 0 (by omega) rfl
theorem b3s(a b:Lin)(hl:a.t.length<=1048576)(e:a.t.length=b.t.length)(R:Bool): ∀ (d i:Nat),d+i=a.t.length->R=decide (a.t.drop i=b.t.drop i) ->
  At TB 0 (Zb Du (Zm R)) GL 0 38 [(2,.ptr 0 0),(3,.ptr 1 0),(5,.pv (.int .i64 i))] [.obj (.box [.pv (enc a.k),.pv (enc a.t)]),.obj (.box [.pv (enc b.k),.pv (enc b.t)])]:=by
 intro d
 induction d with
 | zero=>
  intro i hi hR
  refine b3o a b i (Yz (XA (by omega)) (ZI ?_))
  rw[hR,List.drop_eq_nil_of_le (by omega),List.drop_eq_nil_of_le (by omega)];rfl
 | succ d ih=>
  intro i hi hR
  have h1:i<a.t.length:=by omega
  have h2:i<b.t.length:=by omega
  rw[List.drop_eq_getElem_cons h1,List.drop_eq_getElem_cons h2]at hR
  have hc:(PV.asStr (List.getD (PV.cells (enc a.t[i])) 0 default)==PV.asStr (List.getD (PV.cells (enc b.t[i])) 0 default)&&(PV.asInt (List.getD (PV.cells (enc a.t[i])) (0+1) default)==PV.asInt (List.getD (PV.cells (enc b.t[i])) (0+1) default)&&true))=decide (a.t[i]=b.t[i]):=by
   rw[co1,co1,co2,co2,Bool.and_true]
   rcases a.t[i]with ⟨⟨v⟩,c⟩
   rcases b.t[i]with ⟨⟨w⟩,c'⟩
   rw[Bool.eq_iff_iff]
   simp
  refine b3o a b i (Yq (Xb h1) ⟨Zn h1 rfl,Zw h1 ⟨Zn h2 rfl,Zw h2 ?_⟩⟩)
  rw[hc]
  refine U9 (fun h=>ZI ?_) fun h=> ?_
  ·rw[hR,JS (of_decide_eq_false h)]
  ·rw[next (by omega)]
   exact ih (i+1) (by omega) (by rw[hR,Jn (of_decide_eq_true h)])
theorem c4q: ∀ x:Lin×Lin×Unit,decide (x.1.t.length<=1048576)=true->Zc TB 0 (Zb Du (Zm (decide (x.1=x.2.1)))) GL [] (ZY d2u (encL x)):=by
 rintro⟨a,b,⟨⟩⟩ h
 refine d7p a b (P9 (fun k=>ZI (decide_eq_false fun e=>k (by rw[show a=b from e])).symm) fun k0=>H6 (fun k=>ZI (decide_eq_false fun e=>k (by rw[show a=b from e])).symm) fun k=> ?_)
 refine b3s a b (of_decide_eq_true h) k _ a.t.length 0 (by omega) (decide_eq_decide.2 ⟨fun e=>by rw[show a=b from e],fun e=> ?_⟩)
 cases a;cases b
 simp only[List.drop_zero]at e k0
 rw[k0,e]
theorem a6a(l:List Str)(s:List UInt8)(hl:l.length<=1048576)(R:Bool): ∀ (d i:Nat),d+i=l.length->R=decide ((⟨s⟩:Str)∈l.drop i) ->
  At JU 0 (Zb Qk (Zm R)) QE 0 18 [(0,.pv (enc l)),(1,.pv (.str s)),(5,.pv (.int .i64 i))] []:=by
 intro d
 induction d with
 | zero=>
  intro i hi hR
  refine a0v l s i (Yz (XA (by omega)) (ZI ?_))
  rw[hR,List.drop_eq_nil_of_le (by omega)];rfl
 | succ d ih=>
  intro i hi hR
  have h1:i<l.length:=by omega
  rw[List.drop_eq_getElem_cons h1]at hR
  refine a0v l s i (Yq (Xb h1) ⟨Zn h1 rfl,Zw h1 (Y1 (fun h=>ZI ?_) fun h=> ?_)⟩)
  ·rw[hR];exact(decide_eq_true (List.mem_cons.2 (.inl (stt (x:=⟨s⟩) (y:=l[i]) (Eq.symm h))))).symm
  ·rw[next (by omega)]
   refine ih (i+1) (by omega) (by rw[hR];exact decide_eq_decide.2 ⟨fun k=>(List.mem_cons.1 k).resolve_left fun e=>h (by rw[<- e];rfl),fun k=>List.mem_cons.2 (.inr k)⟩)
theorem b9a: ∀ x:List Str×Str×Unit,decide (x.1.length<=1048576)=true->Zc JU 0 (Zb Qk (Zm (decide (x.2.1∈x.1)))) QE [] (ZY c6h (encL x)):=by
 rintro⟨l,⟨s⟩,⟨⟩⟩ h
 exact d4a l s (a6a l s (of_decide_eq_true h) _ l.length 0 (by omega) rfl)
theorem Yy{n m:Nd}{ks ls:List Tm}:JO (.mk n ks) (.mk m ls)=true ↔ (n.kind=m.kind∧n.name=m.name∧n.num=m.num∧n.elem=m.elem∧n.dims=m.dims∧n.data=m.data∧n.sizes=m.sizes∧n.ranks=m.ranks)∧Un ks ls=true:=by
 rw[JO]
 unfold c8h
 simp only[Bool.and_eq_true,decide_eq_true_eq,and_assoc]
theorem Ho: ∀ {ks ls:List Tm},Un ks ls=true->ks.length=ls.length
 | [],[],_=>rfl
 | [],_::_,h=>by simp[Un]at h
 | _::_,[],h=>by simp[Un]at h
 | k::ks,l::ls,h=>by
  rw[Un,Bool.and_eq_true]at h
  rw[List.length_cons,List.length_cons,Ho h.2]
theorem WG{b:Bool}(h:b=true->False):false=b:=by cases b;rfl;exact(h rfl).elim
theorem a0c{n m:Nd}{ks ls:List Tm}:FE (.mk n ks) (.mk m ls)=true ↔ n=m∧Cj ks ls=true:=by
 rw[FE,Bool.and_eq_true,decide_eq_true_eq]
mutual
theorem c7u: ∀ {a b:Tm},FE a b=true->JO a b=true
 | .mk n ks,.mk m ls,h=>by
  obtain⟨e,h2⟩:=a0c.1 h
  subst e
  exact Yy.2 ⟨⟨rfl,rfl,rfl,rfl,rfl,rfl,rfl,rfl⟩,b1e h2⟩
theorem b1e: ∀ {ks ls:List Tm},Cj ks ls=true->Un ks ls=true
 | [],[],_=>by rw[Un]
 | [],_::_,h=>by simp[Cj]at h
 | _::_,[],h=>by simp[Cj]at h
 | k::ks,l::ls,h=>by
  rw[Cj,Bool.and_eq_true]at h
  rw[Un,c7u h.1,b1e h.2];rfl
end
theorem b7n{a b:List Int}{P:Bool->Prop}(h:a.length<=1048576)(k:P (decide (a=b))):a0w [.sl 1 false (a.map enc),.sl 1 false (b.map enc)] P:=⟨Ze (a,b,()) rfl (decide_eq_true h),Zd (a,b,()) rfl k⟩
theorem Me{N:Nat}{n:Nd}{ks:List Tm}(h:tW (.mk n ks)=true)(hd:ZP ks<N){k l:Tm}(hk:k∈ks)(hl:tW l=true):(fun x:Tm×Tm×Unit=>(tW x.1&&tW x.2.1)&&decide (ZA x.1<N)) (k,l,())=true:=by
 have h:=CE h hd hk
 simp only[Bool.and_eq_true]at h ⊢
 exact⟨⟨h.1,hl⟩,h.2⟩
theorem a5v(a b:Tm):[KZ a,KZ b]=encL (a,b,()):=by rw[BH,BH];rfl
theorem a5e(n m:Nd)(ks ls:List Tm):[ndC n ks,ndC m ls]=encL (Tm.mk n ks,Tm.mk m ls,()):=by rw[X9,X9];rfl
theorem b3r(N:Nat)(n m:Nd)(ks ls:List Tm)(hw:tW (.mk n ks)=true)(hv:tW (.mk m ls)=true)(hd:ZP ks<N)(e:ks.length=ls.length)(R:Bool): ∀ (d i:Nat),d+i=ks.length->R=Un (ks.drop i) (ls.drop i) ->
  At (K7 N) 0 (Zb UO (Zm R)) UM 1 117 [(2,.ptr 0 0),(3,.ptr 1 0),(6,.pv (.int .i64 i))] [.obj (.box (ZM n ks)),.obj (.box (ZM m ls))]:=by
 intro d
 induction d with
 | zero=>
  intro i hi hR
  rw[List.drop_eq_nil_of_le (by omega),List.drop_eq_nil_of_le (by omega),Un]at hR
  exact b8r N n ks m ls i (Yz (XA (by omega)) (ZI hR.symm))
 | succ d ih=>
  intro i hi hR
  have h1:i<ks.length:=by omega
  have h2:i<ls.length:=by omega
  have hkl:=(Yo hw).1
  rw[List.drop_eq_getElem_cons h1,List.drop_eq_getElem_cons h2,Un]at hR
  refine b8r N n ks m ls i (Yq (Xb h1) ⟨Zn h1 rfl,Zw h1 ⟨XL _,Zn h2 rfl,Zw h2 ⟨XL _,Ze (ks[i],ls[i],()) (a5v _ _) (Me hw hd (List.getElem_mem h1) ((Yo hv).2 _ (List.getElem_mem h2))),Zd (ks[i],ls[i],()) (a5v _ _) (U9 (fun h=>ZI ?_) fun h=> ?_)⟩⟩⟩)
  ·have h:JO ks[i] ls[i]=false:=h
   rw[hR,h];rfl
  ·have h:JO ks[i] ls[i]=true:=h
   rw[next (by omega)]
   exact ih (i+1) (by omega) (by rw[hR,h];rfl)
theorem a3w(N:Nat)(n m:Nd)(ks ls:List Tm)(hw:tW (.mk n ks)=true)(hv:tW (.mk m ls)=true)(hd:ZP ks<N)(e:ks.length=ls.length)(es:n.sizes.length=m.sizes.length)(R:Bool): ∀ (d i:Nat),d+i=n.sizes.length->R=(decide (n.sizes.drop i=m.sizes.drop i)&&Un ks ls) ->
  At (K7 N) 0 (Zb UO (Zm R)) UM 0 117 [(2,.ptr 0 0),(3,.ptr 1 0),(5,.pv (.int .i64 i))] [.obj (.box (ZM n ks)),.obj (.box (ZM m ls))]:=by
 intro d
 induction d with
 | zero=>
  intro i hi hR
  rw[List.drop_eq_nil_of_le (by omega),List.drop_eq_nil_of_le (by omega)]at hR
  exact b4z N n ks m ls i (Yz (XA (by omega)) (b3r N n m ks ls hw hv hd e R ks.length 0 (by omega) (by rw[hR];rfl)))
 | succ d ih=>
  intro i hi hR
  have h1:i<n.sizes.length:=by omega
  have h2:i<m.sizes.length:=by omega
  have hn:=PU hw
  have hb:=hn.sizes
  rw[List.drop_eq_getElem_cons h1,List.drop_eq_getElem_cons h2]at hR
  refine b4z N n ks m ls i (Yq (Xb h1) ⟨Zn h1 rfl,Zw h1 ⟨Zn h2 rfl,Zw h2 ⟨Ze (n.sizes[i],m.sizes[i],()) rfl (decide_eq_true (hn.lens _ (List.getElem_mem h1))),Zd (n.sizes[i],m.sizes[i],()) rfl (U9 (fun h=>ZI ?_) fun h=> ?_)⟩⟩⟩)
  ·rw[hR,JS (of_decide_eq_false h)];rfl
  ·rw[next (by omega)]
   exact ih (i+1) (by omega) (by rw[hR,Jn (of_decide_eq_true h)])
theorem c3x(N:Nat): ∀ x:Tm×Tm×Unit,((tW x.1&&tW x.2.1)&&decide (ZA x.1<N+1))=true->Zc (K7 N) 0 (Zb UO (Zm (JO x.1 x.2.1))) UM [] (ZY d3o (encL x)):=by
 rintro⟨⟨n,ks⟩,⟨m,ls⟩,⟨⟩⟩ h
 simp only[Bool.and_eq_true,decide_eq_true_eq]at h
 obtain⟨⟨hw,hv⟩,hd⟩:=h
 have hd:ZA (.mk n ks)<N+1:=hd
 rw[ZA]at hd
 have hn:=PU hw
 rw[<- a5e]
 refine d8q N n ks m ls ?_
 refine P9 (fun k=>ZI (WG fun h=>k (Yy.1 h).1.1)) fun k1=> ?_
 refine c9m (fun k=>ZI (WG fun h=>k (by rw[(Yy.1 h).1.2.1]))) fun k2=> ?_
 refine P9 (fun k=>ZI (WG fun h=>k (Yy.1 h).1.2.2.1)) fun k3=> ?_
 refine H6 (fun k=>ZI (WG fun h=>k (by rw[(Yy.1 h).1.2.2.2.2.2.2.1]))) fun k4=> ?_
 refine H6 (fun k=>ZI (WG fun h=>k (Ho (Yy.1 h).2))) fun k5=> ?_
 refine c9m (fun k=>ZI (WG fun h=>k (by rw[(Yy.1 h).1.2.2.2.1]))) fun k6=> ?_
 refine b7n hn.dims (U9 (fun k=>ZI (WG fun h=>of_decide_eq_false k (Yy.1 h).1.2.2.2.2.1)) fun k7=> ?_)
 refine b7n hn.data (U9 (fun k=>ZI (WG fun h=>of_decide_eq_false k (Yy.1 h).1.2.2.2.2.2.1)) fun k8=> ?_)
 refine b7n hn.ranks (U9 (fun k=>ZI (WG fun h=>of_decide_eq_false k (Yy.1 h).1.2.2.2.2.2.2.2)) fun k9=> ?_)
 refine a3w N n m ks ls hw hv (by omega) k5 k4 _ n.sizes.length 0 (by omega) ?_
 rw[Bool.eq_iff_iff]
 show JO (.mk n ks) (.mk m ls)=true ↔ _
 rw[Yy,Bool.and_eq_true,decide_eq_true_eq]
 exact⟨fun h=>⟨h.1.2.2.2.2.2.2.1,h.2⟩,fun h=>⟨⟨k1,stt k2,k3,stt k6,of_decide_eq_true k7,of_decide_eq_true k8,h.1,of_decide_eq_true k9⟩,h.2⟩⟩
theorem b0s(N:Nat)(n m:Nd)(ks ls:List Tm)(hw:tW (.mk n ks)=true)(hv:tW (.mk m ls)=true)(hd:ZP ks<N)(e:ks.length=ls.length)(R:Bool): ∀ (d i:Nat),d+i=ks.length->R=Cj (ks.drop i) (ls.drop i) ->
  At (Ta N) 0 (Zb Dq (Zm R)) GM 0 36 [(2,.ptr 0 0),(3,.ptr 1 0),(5,.pv (.int .i64 i))] [.obj (.box (ZM n ks)),.obj (.box (ZM m ls))]:=by
 intro d
 induction d with
 | zero=>
  intro i hi hR
  rw[List.drop_eq_nil_of_le (by omega),List.drop_eq_nil_of_le (by omega),Cj]at hR
  exact a9n N n ks m ls i (Yz (XA (by omega)) (ZI hR.symm))
 | succ d ih=>
  intro i hi hR
  have h1:i<ks.length:=by omega
  have h2:i<ls.length:=by omega
  have hkl:=(Yo hw).1
  rw[List.drop_eq_getElem_cons h1,List.drop_eq_getElem_cons h2,Cj]at hR
  refine a9n N n ks m ls i (Yq (Xb h1) ⟨Zn h1 rfl,Zw h1 ⟨XL _,Zn h2 rfl,Zw h2 ⟨XL _,Ze (ks[i],ls[i],()) (a5v _ _) (Me hw hd (List.getElem_mem h1) ((Yo hv).2 _ (List.getElem_mem h2))),Zd (ks[i],ls[i],()) (a5v _ _) (U9 (fun h=>ZI ?_) fun h=> ?_)⟩⟩⟩)
  ·have h:FE ks[i] ls[i]=false:=h
   rw[hR,h];rfl
  ·have h:FE ks[i] ls[i]=true:=h
   rw[next (by omega)]
   exact ih (i+1) (by omega) (by rw[hR,h];rfl)
theorem c2i(N:Nat): ∀ x:Tm×Tm×Unit,((tW x.1&&tW x.2.1)&&decide (ZA x.1<N+1))=true->Zc (Ta N) 0 (Zb Dq (Zm (FE x.1 x.2.1))) GM [] (ZY c9l (encL x)):=by
 rintro⟨⟨n,ks⟩,⟨m,ls⟩,⟨⟩⟩ h
 have h0:=h
 simp only[Bool.and_eq_true,decide_eq_true_eq]at h
 obtain⟨⟨hw,hv⟩,hd⟩:=h
 have hd:ZA (.mk n ks)<N+1:=hd
 rw[ZA]at hd
 rw[<- a5e]
 refine d5z N n ks m ls (P9 (fun k=>ZI (WG fun h=>k (by rw[(a0c.1 h).1]))) fun k1=> ?_)
 refine⟨Ze (Tm.mk n ks,Tm.mk m ls,()) (a5e ..) (by simp only[Bool.and_eq_true];exact⟨hw,hv⟩),Zd (Tm.mk n ks,Tm.mk m ls,()) (a5e ..) (U9 (fun k=>ZI (WG fun h=> ?_)) fun k=> ?_)⟩
 ·have k:JO (.mk n ks) (.mk m ls)=false:=k
  rw[c7u h]at k;exact absurd k (by simp)
 ·have k:JO (.mk n ks) (.mk m ls)=true:=k
  obtain⟨⟨a1,a2,a3,a4,a5,a6,a7,a8⟩,ak⟩:=Yy.1 k
  have e:n=m:=by cases n;cases m;simp only at *;subst a1 a2 a3 a4 a5 a6 a7 a8 k1;rfl
  refine b0s N n m ks ls hw hv (by omega) (Ho ak) _ ks.length 0 (by omega) ?_
  show FE (.mk n ks) (.mk m ls)=_
  rw[FE,decide_eq_true e];rfl
theorem ndT(n:Nd)(ks:List Tm){α:Type}[Enc α](x:α):encL (Tm.mk n ks,x,())=[ndC n ks,enc x]:=by rw[X9];rfl
theorem a7q(n:Nd)(ks y:List Tm)(hy:y.length<=1048576)(R:Int): ∀ (d i c:Nat),d+i=y.length->c<=i->R=c+((y.drop i).filter QI).length ->
  At VH 0 (Zb Wp (Zm R)) Wt 0 39 [(3,.pv (.int .i64 c)),(4,.pv (enc y)),(5,.pv (.int .i64 i))] []:=by
 intro d
 induction d with
 | zero=>
  intro i c hi hc hR
  rw[List.drop_eq_nil_of_le (by omega)]at hR
  exact a0i n ks y c i (Yz (XA (by omega)) (Uj (by rw[hR];simp)))
 | succ d ih=>
  intro i c hi hc hR
  have h1:i<y.length:=by omega
  rw[List.drop_eq_getElem_cons h1]at hR
  have yes:QI y[i]=true->At VH 0 (Zb Wp (Zm R)) Wt 0 39 [(3,.pv (.int .i64 (IntKind.i64.wrap ((c:Int)+1)))),(4,.pv (enc y)),(5,.pv (.int .i64 (IntKind.i64.wrap ((i:Int)+1))))] []:=fun h=>by
   rw[next (by omega),next (by omega)]
   refine ih (i+1) (c+1) (by omega) (by omega) ?_
   rw[hR,List.filter_cons_of_pos h,List.length_cons];omega
  have no:QI y[i]=false->At VH 0 (Zb Wp (Zm R)) Wt 0 39 [(3,.pv (.int .i64 c)),(4,.pv (enc y)),(5,.pv (.int .i64 (IntKind.i64.wrap ((i:Int)+1))))] []:=fun h=>by
   rw[next (by omega)]
   refine ih (i+1) c (by omega) (by omega) ?_
   rw[hR,List.filter_cons_of_neg (by rw[h];simp)]
  refine a0i n ks y c i (Yq (Xb h1) ⟨Zn h1 rfl,Zw h1 ⟨JL _,?_⟩⟩)
  rw[Jr]
  refine Y1 (fun k=>⟨Zn h1 rfl,Zw h1 ⟨Q8 _,?_⟩⟩) fun k=>no (by unfold QI;rw[decide_eq_false k];rfl)
  rw[Kh]
  refine Y1 (fun k2=>yes ?_) fun k2=>⟨Zn h1 rfl,Zw h1 ⟨Q8 _,?_⟩⟩
  ·unfold QI;rw[decide_eq_true k,decide_eq_true (show y[i].nd.name.s=b4v from k2)];rfl
  ·rw[Kh]
   refine Y1 (fun k3=>yes ?_) fun k3=>no ?_
   ·unfold QI;rw[decide_eq_true k,decide_eq_true (show y[i].nd.name.s=a9a from k3)];simp
   ·unfold QI;rw[decide_eq_false (show ¬ y[i].nd.name.s=b4v from k2),decide_eq_false (show ¬ y[i].nd.name.s=a9a from k3)];simp
theorem b6i: ∀ x:Tm×Unit,tW x.1=true->Zc VH 0 (Zb Wp (Zm (Vs x.1))) Wt [] (ZY c2g (encL x)):=by
 rintro⟨⟨n,ks⟩,⟨⟩⟩ h
 rw[<- ZQ]
 refine d3p n ks ⟨Ze (Tm.mk n ks,()) (ZQ n ks) h,Zd (Tm.mk n ks,()) (ZQ n ks) ?_⟩
 refine a7q n ks (ZV (.mk n ks)) (by rw[Wj];exact XZ h) _ (ZV (.mk n ks)).length 0 0 (by omega) (by omega) ?_
 show Vs (.mk n ks)=_
 unfold Vs
 simp
theorem c6k{t:Tm}(h:t.nd.kind=6∨t.nd.kind=8∨t.nd.kind=9):Xm t=[t.nd.name]:=if_pos h
theorem c0n{t:Tm}(h : ¬ (t.nd.kind=6∨t.nd.kind=8∨t.nd.kind=9)):Xm t=[]:=if_neg h
theorem a4x{G:PV->Prop}(n:Nd)(ks y:List Tm)(o:List Str)(i:Nat)(h1:i<y.length)(ho:o.length<=1048576):
  (¬ (y[i].nd.kind=6∨y[i].nd.kind=8∨y[i].nd.kind=9)->At Xt 0 (Zb YP G) YN 0 44 [(3,.pv (AP o)),(4,.pv (enc y)),(5,.pv (.int .i64 (IntKind.i64.wrap ((i:Int)+1))))] []) ->
  ((y[i].nd.kind=6∨y[i].nd.kind=8∨y[i].nd.kind=9)->At Xt 0 (Zb YP G) YN 0 44 [(3,.pv (enc (Yk o y[i].nd.name))),(4,.pv (enc y)),(5,.pv (.int .i64 (IntKind.i64.wrap ((i:Int)+1))))] []) ->
  At Xt 0 (Zb YP G) YN 0 44 [(3,.pv (AP o)),(4,.pv (enc y)),(5,.pv (.int .i64 i))] []:=by
 cases o with
 | nil=>
  intro no yes
  refine Le n ks y i (Yq (Xb h1) ⟨Zn h1 rfl,Zw h1 ⟨JL _,?_⟩⟩)
  rw[Jr]
  refine Y1 (fun k6=>⟨Zn h1 rfl,Zw h1 ⟨Q8 _,?_⟩⟩) fun k6=>⟨Zn h1 rfl,Zw h1 ⟨JL _,?_⟩⟩
  ·rw[Kh]
   exact JH ([],y[i].nd.name,()) rfl (yes (.inl k6))
  ·rw[Jr]
   refine Y1 (fun k8=>⟨Zn h1 rfl,Zw h1 ⟨Q8 _,?_⟩⟩) fun k8=>⟨Zn h1 rfl,Zw h1 ⟨JL _,?_⟩⟩
   ·rw[Kh]
    exact JH ([],y[i].nd.name,()) rfl (yes (.inr (.inl k8)))
   ·rw[Jr]
    refine Y1 (fun k9=>⟨Zn h1 rfl,Zw h1 ⟨Q8 _,?_⟩⟩) fun k9=> ?_
    ·rw[Kh]
     exact JH ([],y[i].nd.name,()) rfl (yes (.inr (.inr k9)))
    ·exact no fun h=>by rcases h with h|h|h <;> contradiction
 | cons a r=>
  intro no yes
  refine M6 n ks y (a::r) i (Yq (Xb h1) ⟨Zn h1 rfl,Zw h1 ⟨JL _,?_⟩⟩)
  rw[Jr]
  refine Y1 (fun k6=>⟨Zn h1 rfl,Zw h1 ⟨Q8 _,?_⟩⟩) fun k6=>⟨Zn h1 rfl,Zw h1 ⟨JL _,?_⟩⟩
  ·rw[Kh]
   exact⟨Ze (a::r,y[i].nd.name,()) rfl (decide_eq_true ho),Zd (a::r,y[i].nd.name,()) rfl (yes (.inl k6))⟩
  ·rw[Jr]
   refine Y1 (fun k8=>⟨Zn h1 rfl,Zw h1 ⟨Q8 _,?_⟩⟩) fun k8=>⟨Zn h1 rfl,Zw h1 ⟨JL _,?_⟩⟩
   ·rw[Kh]
    exact⟨Ze (a::r,y[i].nd.name,()) rfl (decide_eq_true ho),Zd (a::r,y[i].nd.name,()) rfl (yes (.inr (.inl k8)))⟩
   ·rw[Jr]
    refine Y1 (fun k9=>⟨Zn h1 rfl,Zw h1 ⟨Q8 _,?_⟩⟩) fun k9=> ?_
    ·rw[Kh]
     exact⟨Ze (a::r,y[i].nd.name,()) rfl (decide_eq_true ho),Zd (a::r,y[i].nd.name,()) rfl (yes (.inr (.inr k9)))⟩
    ·exact no fun h=>by rcases h with h|h|h <;> contradiction
theorem b0u{G:PV->Prop}(n:Nd)(ks y:List Tm)(o:List Str)(i:Nat)(h1 : ¬ i<y.length)(h:G (AP o)):At Xt 0 (Zb YP G) YN 0 44 [(3,.pv (AP o)),(4,.pv (enc y)),(5,.pv (.int .i64 i))] []:=by
 cases o with
 | nil=>exact Le n ks y i (Yz (XA h1) h)
 | cons a r=>exact M6 n ks y (a::r) i (Yz (XA h1) h)
theorem a5q(n:Nd)(ks y:List Tm)(hy:y.length<=1048576)(R:List Str): ∀ (d i:Nat) (o:List Str),d+i=y.length->o.length<=i->R=((y.drop i).flatMap Xm).foldl Yk o ->
  At Xt 0 (Zb YP (Zm R)) YN 0 44 [(3,.pv (AP o)),(4,.pv (enc y)),(5,.pv (.int .i64 i))] []:=by
 intro d
 induction d with
 | zero=>
  intro i o hi ho hR
  rw[List.drop_eq_nil_of_le (by omega)]at hR
  exact b0u n ks y o i (by omega) (by rw[hR];exact Nt o)
 | succ d ih=>
  intro i o hi ho hR
  have h1:i<y.length:=by omega
  rw[List.drop_eq_getElem_cons h1,List.flatMap_cons,List.foldl_append]at hR
  refine a4x n ks y o i h1 (by omega) (fun k=> ?_) fun k=> ?_
  ·rw[next (by omega)]
   exact ih (i+1) o (by omega) (by omega) (by rw[hR,c0n k];rfl)
  ·rw[next (by omega),<- b2b (a2w _ _)]
   exact ih (i+1) _ (by omega) (by have:=J7 o y[i].nd.name;omega) (by rw[hR,c6k k];rfl)
theorem b4b: ∀ x:Tm×Unit,tW x.1=true->Zc Xt 0 (Zb YP (Zm (((ZV x.1).flatMap Xm).foldl Yk []))) YN [] (ZY c4y (encL x)):=by
 rintro⟨⟨n,ks⟩,⟨⟩⟩ h
 rw[<- ZQ]
 exact d4l n ks ⟨Ze (Tm.mk n ks,()) (ZQ n ks) h,Zd (Tm.mk n ks,()) (ZQ n ks) (a5q n ks (ZV (.mk n ks)) (by rw[Wj];exact XZ h) _ (ZV (.mk n ks)).length 0 [] (by omega) (by simp) rfl)⟩
def nmP(n:Nat):Str:=⟨118::(if n=0 then []else Lib.decDigits n)⟩
theorem a7r(n0:Int)(R:Str): ∀ (d m:Nat) (o:List UInt8),m<10 ^ d->m<=9223372036854775807->o.length+d<=100->R=⟨118::((if m=0 then []else Lib.decDigits m)++o)⟩ ->
  At Q0 0 (Zb UD (Zm R)) Ut 0 18 [(0,.pv (.int .i64 (m:Nat))),(3,.pv (.str o))] []:=by
 intro d
 induction d with
 | zero=>
  intro m o hm hb ho hR
  have hm:m=0:=by simpa using hm
  subst hm
  refine a1z n0 _ o (Yz (by simp) ⟨decide_eq_true (by show 1+o.length<=_;omega),?_⟩)
  refine Y6 (x:=(⟨118::o⟩:Str)) ?_
  rw[hR];rfl
 | succ d ih=>
  intro m o hm hb ho hR
  refine a1z n0 _ o (WC (fun h=> ?_) fun h=> ?_)
  ·have hm0:m≠0:=by omega
   refine⟨d7d m,?_⟩
   rw[d9b,c9p]
   refine⟨decide_eq_true (by show 1+o.length<=_;omega),?_⟩
   have k:=ih (m / 10) ([UInt8.ofNat (48+m % 10)]++o) (by rw[Nat.pow_succ]at hm;omega) (by omega) (by rw[List.length_append];show 1+_+_<=_;omega) (by
    rw[hR,if_neg hm0,<- List.append_assoc]
    congr 3
    by_cases h10:m<10
    ·rw[if_pos (by omega),KX h10,Nat.mod_eq_of_lt h10];rfl
    ·rw[if_neg (by omega),Rj h10])
   rw[Q6 (by omega) (by omega)]
   exact k
  ·have hm0:m=0:=by omega
   refine⟨decide_eq_true (by show 1+o.length<=_;omega),?_⟩
   refine Y6 (x:=(⟨118::o⟩:Str)) ?_
   rw[hR,hm0];rfl
theorem b5o: ∀ x:Int×Unit,decide (0<=x.1∧x.1<=9223372036854775807)=true->Zc Q0 0 (Zb UD (Zm (nmP x.1.toNat))) Ut [] (ZY ER (encL x)):=by
 rintro⟨n,⟨⟩⟩ h
 have h:=of_decide_eq_true h
 obtain⟨m,rfl⟩ : ∃ m:Nat,n=m:=⟨n.toNat,by have:=h.1;simp only at this;omega⟩
 have h2:(m:Int)<=9223372036854775807:=h.2
 exact d0y m (a7r m _ 20 m [] (by omega) (by omega) (by simp) (by show nmP (Int.toNat (m:Int))=_;rw[Int.toNat_natCast];unfold nmP;rw[List.append_nil]))
theorem d2b: ∀ x:Str×Unit,true=true->Zc d8h 0 (Zb c8c (Zm (vT x.1))) c7r [] (ZY d9i (encL x)):=by
 rintro⟨⟨s⟩,⟨⟩⟩ _
 exact e0z s ⟨by simp,by simp[vT,nd0]⟩
def d9n(s:Str)(a b:Tm):Tm:=.mk {nd0 with kind:=5,name:=s} [a,b]
theorem b6k: ∀ x:Str×Tm×Tm×Unit,true=true->Zc b2o 0 (Zb a1y (Zm (d9n x.1 x.2.1 x.2.2.1))) a2e [] (ZY c6p (encL x)):=by
 rintro⟨⟨s⟩,⟨n,ks⟩,⟨m,ls⟩,⟨⟩⟩ _
 rw[show encL ((⟨s⟩:Str),Tm.mk n ks,Tm.mk m ls,())=[.str s,ndC n ks,ndC m ls]from by rw[X9,X9];rfl]
 refine c9d s n ks m ls ?_
 rw[X9,X9]
 have h:is (List Tm) (.sl 10 false ([Tm.mk n ks,Tm.mk m ls].map enc))=true:=Enc.is_enc [Tm.mk n ks,Tm.mk m ls]
 have h2:(dec (.sl 10 false ([Tm.mk n ks,Tm.mk m ls].map enc)):List Tm)=[Tm.mk n ks,Tm.mk m ls]:=Enc.dec_enc [Tm.mk n ks,Tm.mk m ls]
 refine⟨?_,?_⟩
 ·have:is (List Tm) (.sl 10 false [enc (Tm.mk n ks),enc (Tm.mk m ls)])=true:=h
  simp[this]
 ·have h:is (List Tm) (.sl 10 false [enc (Tm.mk n ks),enc (Tm.mk m ls)])=true:=h
  have h2:(dec (.sl 10 false [enc (Tm.mk n ks),enc (Tm.mk m ls)]):List Tm)=[Tm.mk n ks,Tm.mk m ls]:=h2
  rw[b2g _ _ _ _ _ _ _ _ _ _ h,h2]
  simp[d9n,nd0]
end Go.Pl
namespace Go.Pl
open Go.RowKit
open Enc (enc dec is)
open EncL (encL decL isL)
mutual
theorem BV: ∀ {a b:List Str} (h : ∀ x,x∈a ↔ x∈b) (t:Tm),YK a t=YK b t
 | a,b,h,.mk n ks=>by
  rw[YK,YK,Tf h]
  simp only[h]
theorem Tf: ∀ {a b:List Str} (h : ∀ x,x∈a ↔ x∈b) (l:Bool) (s:Str) (i:Nat) (ks:List Tm),Xw a l s i ks=Xw b l s i ks
 | a,b,h,l,s,i,[]=>by rw[Xw,Xw]
 | a,b,h,l,s,i,k::ks=>by
  rw[Xw,Xw,Tf h l s (i+1) ks,BV (a:=if (l&&decide (i=1))=true then s::a else a) (b:=if (l&&decide (i=1))=true then s::b else b) (fun x=>by split <;> simp[h]) k]
end
mutual
theorem U0: ∀ (b:List Str) (t:Tm),(YK b t).length<=Zk t
 | b,.mk n ks=>by
  have h:=TQ b (Yt n ks.length) n.name 0 ks
  rw[YK,Zk,List.length_append]
  split
  ·simp only[List.length_singleton];omega
  ·simp only[List.length_nil];omega
theorem TQ: ∀ (b:List Str) (l:Bool) (s:Str) (i:Nat) (ks:List Tm),(Xw b l s i ks).length<=Zo ks
 | b,l,s,i,[]=>by rw[Xw,Zo];simp
 | b,l,s,i,k::ks=>by
  have h1:=U0 (if (l&&decide (i=1))=true then s::b else b) k
  have h2:=TQ b l s (i+1) ks
  rw[Xw,Zo,List.length_append]
  omega
end
theorem fr3(o:List Str)(t:Tm)(b:List Str):[enc o,KZ t,enc b]=encL (o,t,b,()):=by rw[BH];rfl
theorem a3t{N:Nat}{o:List Str}{t:Tm}{b:List Str}{ps:List PV}{K:List Str->Prop}(e:ps=encL (o,t,b,()))(hw:tW t=true)(h1:o.length+Zk t<=1048576)(h2:b.length+ZA t<=1048576)(h3:ZA t<N)(h:K ((YK b t).foldl Yk o)):Sw N ps K:=
 ⟨Ze (o,t,b,()) e (by simp only[hw,decide_eq_true h1,decide_eq_true h2,decide_eq_true h3];rfl),Zd (o,t,b,()) e h⟩
theorem b7w(b:List Str)(s:Str):(PV.sl 1 false (List.drop 0 (List.take (0+List.length (List.map (enc:Str->PV) b)+List.length (List.drop 0 (List.take 1 [enc s]))) (([]:List PV)++List.map enc b++List.drop 0 (List.take 1 [enc s])))))=enc (b++[s]):=by
 show _=PV.sl 1 false (List.map enc (b++[s]))
 rw[List.take_of_length_le (by simp)]
 simp
theorem b8u(N:Nat)(n:Nd)(ks:List Tm)(b:List Str)(hw:tW (.mk n ks)=true)(hd:ZP ks<N)(hb:b.length+ZP ks+1<=1048576)(R:List Str): ∀ (d i:Nat) (o:List Str),d+i=ks.length->o.length+Zo (ks.drop i)<=1048576->R=(Xw b (Yt n ks.length) n.name i (ks.drop i)).foldl Yk o ->
  At (V7 N) 0 (Zb Wx (Zm R)) Wz 0 60 [(0,.pv (enc o)),(2,.pv (enc b)),(4,.ptr 0 0),(7,.pv (.int .i64 i))] [.obj (.box (ZM n ks))]:=by
 intro d
 induction d with
 | zero=>
  intro i o hi ho hR
  rw[List.drop_eq_nil_of_le (by omega),Xw]at hR
  exact a9h N o n ks b i (Yz (XA (by omega)) (by rw[hR];exact Y6 rfl))
 | succ d ih=>
  intro i o hi ho hR
  have h1:i<ks.length:=by omega
  have hkl:=(Yo hw).1
  have hwk:=(Yo hw).2 _ (List.getElem_mem h1)
  have hdk:=Qa (List.getElem_mem h1)
  rw[List.drop_eq_getElem_cons h1,Zo]at ho
  rw[List.drop_eq_getElem_cons h1,Xw,List.foldl_append]at hR
  have go : ∀ bd:List Str,(YK bd ks[i]=YK (if (Yt n ks.length&&decide (i=1))=true then n.name::b else b) ks[i])->At (V7 N) 0 (Zb Wx (Zm R)) Wz 0 60 [(0,.pv (enc ((YK bd ks[i]).foldl Yk o))),(2,.pv (enc b)),(4,.ptr 0 0),(7,.pv (.int .i64 (IntKind.i64.wrap ((i:Int)+1))))] [.obj (.box (ZM n ks))]:=fun bd e=>by
   rw[next (by omega),e]
   refine ih (i+1) _ (by omega) ?_ hR
   have l1:=Ti (YK (if (Yt n ks.length&&decide (i=1))=true then n.name::b else b) ks[i]) o
   have l2:=U0 (if (Yt n ks.length&&decide (i=1))=true then n.name::b else b) ks[i]
   omega
  have plain:(Yt n ks.length&&decide (i=1))=false->(BZ ks[i]=true∧Sw N [enc o,KZ ks[i],enc b] fun y=>At (V7 N) 0 (Zb Wx (Zm R)) Wz 0 60 [(0,.pv (enc y)),(2,.pv (enc b)),(4,.ptr 0 0),(7,.pv (.int .i64 (IntKind.i64.wrap ((i:Int)+1))))] [.obj (.box (ZM n ks))]):=fun e=>
   ⟨XL _,a3t (fr3 _ _ _) hwk (by omega) (by omega) (by omega) (go b (by rw[e];rfl))⟩
  refine a9h N o n ks b i (Yq (Xb h1) (Y1 (fun k5=>Y1 (fun k2=>Y1 (fun k1=> ?_) fun k1=> ?_) fun k2=> ?_) fun k5=> ?_))
  ·have e2:ks.length=2:=by rw[List.length_map]at k2;omega
   have e1:i=1:=by omega
   have el:(Yt n ks.length&&decide (i=1))=true:=by unfold Yt;rw[decide_eq_true k5,decide_eq_true e2,decide_eq_true e1];rfl
   have lb:b.length<=1048576:=by omega
   refine⟨by simp[show Enc.sz Str=1 from rfl],by simp;omega,by simp;omega,Zn h1 rfl,Zw h1 ⟨XL _,by simp,?_⟩⟩
   rw[b7w]
   exact a3t (fr3 _ _ _) hwk (by omega) (by rw[List.length_append,List.length_singleton];omega) (by omega) (go (b++[n.name]) (BV (fun x=>by rw[el];simp[or_comm]) _))
  ·exact⟨Zn h1 rfl,Zw h1 (plain (by rw[decide_eq_false (show ¬ i=1 by omega),Bool.and_false]))⟩
  ·exact⟨Zn h1 rfl,Zw h1 (plain (by unfold Yt;rw[decide_eq_false (show ¬ ks.length=2 by rw[List.length_map]at k2;omega)];simp))⟩
  ·exact⟨Zn h1 rfl,Zw h1 (plain (by unfold Yt;rw[decide_eq_false k5];simp))⟩
theorem c5s(N:Nat): ∀ x:List Str×Tm×List Str×Unit,((tW x.2.1&&decide (x.1.length+Zk x.2.1<=1048576)&&decide (x.2.2.1.length+ZA x.2.1<=1048576))&&decide (ZA x.2.1<N+1))=true->Zc (V7 N) 0 (Zb Wx (Zm ((YK x.2.2.1 x.2.1).foldl Yk x.1))) Wz [] (ZY d2m (encL x)):=by
 rintro⟨o,⟨n,ks⟩,b,⟨⟩⟩ h
 simp only[Bool.and_eq_true,decide_eq_true_eq]at h
 obtain⟨⟨⟨hw,h1⟩,h2⟩,h3⟩:=h
 have h1:o.length+Zk (.mk n ks)<=1048576:=h1
 have h2:b.length+ZA (.mk n ks)<=1048576:=h2
 have h3:ZA (.mk n ks)<N+1:=h3
 rw[Zk]at h1
 rw[ZA]at h2 h3
 rw[show encL (o,Tm.mk n ks,b,())=[enc o,ndC n ks,enc b]from by rw[X9];rfl]
 have key : ∀ o':List Str,o'.length+Zo ks<=1048576->(YK b (.mk n ks)).foldl Yk o=(Xw b (Yt n ks.length) n.name 0 ks).foldl Yk o'->At (V7 N) 0 (Zb Wx (Zm ((YK b (.mk n ks)).foldl Yk o))) Wz 0 60 [(0,.pv (enc o')),(2,.pv (enc b)),(4,.ptr 0 0),(7,.pv (.int .i64 0))] [.obj (.box (ZM n ks))]:=fun o' l e=>
  b8u N n ks b hw (by omega) (by omega) _ ks.length 0 o' (by omega) (by simpa using l) (by rw[e];rfl)
 refine d7a N o n ks b (Y1 (fun k=> ?_) fun k=>key o (by omega) (by rw[YK,if_neg (fun h=>k h.1)];rfl))
 refine⟨Ze (b,n.name,()) rfl (decide_eq_true (by show b.length<=1048576;omega)),Zd (b,n.name,()) rfl (U9 (fun k2=> ?_) fun k2=> ?_)⟩
 ·have k2:n.name ∉ b:=of_decide_eq_false k2
  refine⟨Ze (o,n.name,()) rfl (decide_eq_true (by show o.length<=1048576;omega)),Zd (o,n.name,()) rfl (key (Yk o n.name) (by have:=J7 o n.name;omega) ?_)⟩
  rw[YK,if_pos ⟨k,k2⟩];rfl
 ·have k2:n.name∈b:=of_decide_eq_true k2
  exact key o (by omega) (by rw[YK,if_neg (fun h=>h.2 k2)];rfl)
end Go.Pl
namespace Go.Pl
open Go.RowKit
open Enc (enc dec is)
open EncL (encL decL isL)
theorem SB: ∀ (l o:List Str),(l.foldl Y2 o).length<=o.length+l.length
 | [],o=>by simp
 | a::l,o=>by have:=SB l (Y2 o a);have:=Gs o a;rw[List.foldl_cons,List.length_cons];omega
theorem b5d{N:Nat}{t:Tm}{b g:List Str}(hw:tW t=true)(hd:ZA t<N)(h1:b.length+ZA t<=1048576)(h2:g.length+Zk t<=1048576):WL N [(.pv (KZ t)),(.map 0),(.map 1)] [(.map (ZW b)),(.map (ZW g))]=true:=by
 rw[BH]
 simp only[WL,Vr,Enc.dec_enc,hw,Uf,decide_eq_true hd,decide_eq_true h1,decide_eq_true h2,Bool.true_and,Bool.and_true,Bool.and_eq_true]
 exact⟨@decide_eq_true _ (_) trivial,@decide_eq_true _ (_) trivial⟩
theorem a9o(N:Nat)(n:Nd)(ks:List Tm)(b:List Str)(hw:tW (.mk n ks)=true)(hd:ZP ks<N)(hb:b.length+ZP ks+1<=1048576)(R:List Str): ∀ (d i:Nat) (g:List Str),d+i=ks.length->g.length+Zo (ks.drop i)<=1048576->R=(Xw b (Yt n ks.length) n.name i (ks.drop i)).foldl Y2 g ->
  At (Ua N) 2 (Yi 2 Wu fun r=>r=(.tup [],[.map (ZW b),.map (ZW R)],[])) Wy 0 54 [(1,.map 0),(2,.map 1),(3,.ptr 2 0),(23,.pv (enc ks)),(24,.pv (.int .i64 (ks.map (enc:Tm->PV)).length)),(25,.pv (.int .i64 i))] [.obj (.map (ZW b)),.obj (.map (ZW g)),.obj (.box (ZM n ks))]:=by
 intro d
 induction d with
 | zero=>
  intro i g hi hg hR
  rw[List.drop_eq_nil_of_le (by omega),Xw]at hR
  exact b5y N n ks b g i (Yz (XA (by omega)) (by rw[hR];rfl))
 | succ d ih=>
  intro i g hi hg hR
  have h1:i<ks.length:=by omega
  have hkl:=(Yo hw).1
  have hwk:=(Yo hw).2 _ (List.getElem_mem h1)
  have hdk:=Qa (List.getElem_mem h1)
  rw[List.drop_eq_getElem_cons h1,Zo]at hg
  rw[List.drop_eq_getElem_cons h1,Xw,List.foldl_append]at hR
  have go : ∀ bd:List Str,(YK bd ks[i]=YK (if (Yt n ks.length&&decide (i=1))=true then n.name::b else b) ks[i])->At (Ua N) 2 (Yi 2 Wu fun r=>r=(.tup [],[.map (ZW b),.map (ZW R)],[])) Wy 0 54 [(1,.map 0),(2,.map 1),(3,.ptr 2 0),(23,.pv (enc ks)),(24,.pv (.int .i64 (ks.map (enc:Tm->PV)).length)),(25,.pv (.int .i64 (IntKind.i64.wrap ((i:Int)+1))))] [.obj (.map (ZW b)),.obj (.map (ZW ((YK bd ks[i]).foldl Y2 g))),.obj (.box (ZM n ks))]:=fun bd e=>by
   rw[next (by omega),e]
   refine ih (i+1) _ (by omega) ?_ hR
   have l1:=SB (YK (if (Yt n ks.length&&decide (i=1))=true then n.name::b else b) ks[i]) g
   have l2:=U0 (if (Yt n ks.length&&decide (i=1))=true then n.name::b else b) ks[i]
   omega
  have plain:(Yt n ks.length&&decide (i=1))=false->WL N [(.pv (KZ ks[i])),(.map 0),(.map 1)] [(.map (ZW b)),(.map (ZW g))]=true∧At (Ua N) 2 (Yi 2 Wu fun r=>r=(.tup [],[.map (ZW b),.map (ZW R)],[])) Wy 0 54 [(1,.map 0),(2,.map 1),(3,.ptr 2 0),(23,.pv (enc ks)),(24,.pv (.int .i64 (ks.map (enc:Tm->PV)).length)),(25,.pv (.int .i64 (IntKind.i64.wrap ((i:Int)+1))))] [.obj (.map (ZW b)),.obj (.map (ZW (List.foldl Y2 (Xc (ZW g)) (YK (Xc (ZW b)) (dec (agS ks[i])))))),.obj (.box (ZM n ks))]:=fun e=>
   ⟨b5d hwk (by omega) (by omega) (by omega),by rw[Uf,Uf,b1c,Enc.dec_enc];exact go b (by rw[e];rfl)⟩
  refine b5y N n ks b g i (Yq (Xb h1) ⟨Zn h1 rfl,Zw h1 ⟨XL _,Y1 (fun k5=>Y1 (fun k2=>Y1 (fun k1=> ?_) fun k1=> ?_) fun k2=> ?_) fun k5=> ?_⟩⟩)
  ·have e2:ks.length=2:=by rw[List.length_map]at k2;omega
   have e1:i=1:=by omega
   have el:(Yt n ks.length&&decide (i=1))=true:=by unfold Yt;rw[decide_eq_true k5,decide_eq_true e2,decide_eq_true e1];rfl
   have hu:XQ (enc n.name) (.bool true) (ZW b)=ZW (Y2 b n.name):=(JG b n.name).2
   have:=Gs b n.name
   refine⟨(JG b n.name).1,?_⟩
   rw[hu,Uf,Uf,b1c,Enc.dec_enc]
   exact⟨b5d hwk (by omega) (by omega) (by omega),go (Y2 b n.name) (BV (fun x=>by rw[el];simp[BC,or_comm]) _)⟩
  ·exact plain (by rw[decide_eq_false (show ¬ i=1 by omega),Bool.and_false])
  ·exact plain (by unfold Yt;rw[decide_eq_false (show ¬ ks.length=2 by rw[List.length_map]at k2;omega)];simp)
  ·exact plain (by unfold Yt;rw[decide_eq_false k5];simp)
theorem b9x(b:List Str)(s:Str):Uc (enc s) (ZW b)=true∧YX (enc s) (PV.bool false) (ZW b) = .bool (decide (s∈b)):=by
 have key:Dp (enc s) (ZW b)=some (if s∈b then some (PV.bool true)else none):=by
  induction b with
  | nil=>rfl
  | cons a b ih=>
   show(match Uk (enc s) (PV.str a.s)with|some true=>some (some (PV.bool true))|some false=>Dp (enc s) (ZW b)|none=>none)=_
   have e:Uk (enc s:PV) (PV.str a.s)=some (s.s==a.s):=rfl
   rw[e]
   by_cases h:s=a
   ·subst h;simp
   ·have:(s.s==a.s)=false:=by
     rw[beq_eq_false_iff_ne]
     intro e;apply h;cases a;cases s;simp at e;rw[e]
    rw[this]
    show Dp (enc s) (ZW b)=_
    rw[ih]
    simp[h]
 unfold Uc YX
 rw[key]
 by_cases h:s∈b
 ·simp[h]
 ·simp[h]
theorem c2d(N:Nat): ∀ args os,WL (N+1) args os=true->Zc (Ua N) os.length (Yi os.length Wu fun r=>r=DC args os) Wy [] (Wh d1s args os):=by
 intro args os hp
 unfold WL at hp
 split at hp
 ·rename_i p es fs
  simp only[Bool.and_eq_true,decide_eq_true_eq]at hp
  obtain⟨h1,hw,h3,h4,h5,h6,h7⟩:=hp
  obtain⟨⟨n,ks⟩,rfl⟩:=PM h1
  rw[Enc.dec_enc]at hw h3 h6 h7
  generalize Xc es=b at h4 h6
  generalize Xc fs=g at h5 h7
  subst h4 h5
  rw[ZA]at h3 h6
  rw[Zk]at h7
  have key : ∀ g':List Str,g'.length+Zo ks<=1048576->(YK b (.mk n ks)).foldl Y2 g=(Xw b (Yt n ks.length) n.name 0 ks).foldl Y2 g'->At (Ua N) 2 (Yi 2 Wu fun r=>r=(.tup [],[.map (ZW b),.map (ZW ((YK b (.mk n ks)).foldl Y2 g))],[])) Wy 0 54 [(1,.map 0),(2,.map 1),(3,.ptr 2 0),(23,.pv (enc ks)),(24,.pv (.int .i64 (ks.map (enc:Tm->PV)).length)),(25,.pv (.int .i64 0))] [.obj (.map (ZW b)),.obj (.map (ZW g')),.obj (.box (ZM n ks))]:=fun g' l e=>
   a9o N n ks b hw (by omega) (by omega) _ ks.length 0 g' (by omega) (by simpa using l) (by rw[e];rfl)
  have e:DC [.pv (enc (Tm.mk n ks)),.map 0,.map 1] [.map (ZW b),.map (ZW g)]=(.tup [],[.map (ZW b),.map (ZW ((YK b (.mk n ks)).foldl Y2 g))],[]):=by
   simp only[DC,Enc.dec_enc,Uf]
  rw[e,Zx]
  refine d7r N n ks b g (Y1 (fun k=> ?_) fun k=>key g (by omega) (by rw[YK,if_neg (fun h=>k h.1)];rfl))
  obtain⟨l1,l2⟩:=b9x b n.name
  rw[l1,l2]
  refine⟨rfl,U9 (fun k2=> ?_) fun k2=> ?_⟩
  ·have k2:n.name ∉ b:=of_decide_eq_false k2
   have hu:XQ (enc n.name) (.bool true) (ZW g)=ZW (Y2 g n.name):=(JG g n.name).2
   refine⟨(JG g n.name).1,?_⟩
   rw[hu]
   refine key (Y2 g n.name) (by have:=Gs g n.name;omega) ?_
   rw[YK,if_pos ⟨k,k2⟩];rfl
  ·have k2:n.name∈b:=of_decide_eq_true k2
   exact key g (by omega) (by rw[YK,if_neg (fun h=>h.2 k2)];rfl)
 ·cases hp
noncomputable def VR:List AV->List AObj->Bool
 | [.pv p,.map 0,.map 1],[.map es,.map fs]=>FH Tm p&&(tW (dec p)&&(@decide (es=ZW (Xc es)) (Classical.propDecidable _)&&(@decide (fs=ZW (Xc fs)) (Classical.propDecidable _)&&(decide ((Xc es).length+ZA (dec p:Tm)<=1048576)&&decide ((Xc fs).length+Zk (dec p:Tm)<=1048576)))))
 | _,_=>false
def b6l:List AV->List AObj->Nat
 | [.pv p,_,_],_=>ZA (dec p:Tm)
 | _,_=>0
theorem d8g{N:Nat}{args:List AV}{os:List AObj}(h:(VR args os&&decide (b6l args os<N))=true):WL N args os=true:=by
 rw[Bool.and_eq_true]at h
 obtain⟨h1,h2⟩:=h
 unfold VR at h1
 split at h1
 ·simp only[Bool.and_eq_true]at h1
  obtain⟨q1,q2,q3,q4,q5,q6⟩:=h1
  simp only[WL,Bool.and_eq_true]
  exact⟨q1,q2,h2,q3,q4,q5,q6⟩
 ·cases h1
theorem d8r{N:Nat}{args:List AV}{os:List AObj}(h:WL N args os=true):(VR args os&&decide (b6l args os<N))=true:=by
 unfold WL at h
 split at h
 ·simp only[Bool.and_eq_true]at h
  obtain⟨q1,q2,q3,q4,q5,q6,q7⟩:=h
  rw[Bool.and_eq_true]
  refine⟨?_,q3⟩
  simp only[VR,Bool.and_eq_true]
  exact⟨q1,q2,q4,q5,q6,q7⟩
 ·cases h
theorem d3b{t:Tm}{b g:List Str}(hw:tW t=true)(h1:b.length+ZA t<=1048576)(h2:g.length+Zk t<=1048576):VR [(.pv (enc t)),(.map 0),(.map 1)] [(.map (ZW b)),(.map (ZW g))]=true:=by
 simp only[VR,Vr,Enc.dec_enc,hw,Uf,decide_eq_true h1,decide_eq_true h2,Bool.true_and,Bool.and_true,Bool.and_eq_true]
 exact⟨@decide_eq_true _ (_) trivial,@decide_eq_true _ (_) trivial⟩
end Go.Pl
namespace Go.Pl
open Go.RowKit
open Enc (enc dec is)
open EncL (encL decL isL)
set_option maxRecDepth 100000
noncomputable def a9u:IC:=X5 Proofs.Tryz.f20
def b7l:List IRes:=[(.tmp 2)]
abbrev c9y:Nat:=12
noncomputable def c6x:ZE:=YB [(55,.own VR DC),(57,.own Xf (XJ 79)),(56,.own (X8 79) WU)]
theorem d6b{G:PV->Prop}(n:Nd)(ks:List Tm)(h:(VR [(.pv (.agg [(.int .i64 (Nd.kind n)),(.int .i64 (Nd.line n)),(.str (Str.s (Nd.name n))),(.int .i64 (Nd.num n)),(.str (Str.s (Nd.elem n))),(.sl 1 false (List.map enc (Nd.dims n))),(.sl 1 false (List.map enc (Nd.data n))),(.sl 2 false (List.map enc (Nd.sizes n))),(.sl 1 false (List.map enc (Nd.ranks n))),(.sl 10 false (List.map enc ks))])),(.map 0),(.map 1)] [(.map []),(.map [])])=true∧((X8 79 [(.fn 79 [] [(.ptr 0 0)])] [(.box [(.map 1)]),(.map (ZW (List.foldl Y2 (Xc []) (YK (Xc []) (dec (PV.agg [enc (Nd.kind n),enc (Nd.line n),enc (Nd.name n),enc (Nd.num n),enc (Nd.elem n),enc (Nd.dims n),enc (Nd.data n),enc (Nd.sizes n),enc (Nd.ranks n),enc ks]))))))])=true∧(G ((.sl 1 false (List.map PV.str (YJ (List.map Vn (ZW (List.foldl Y2 (Xc []) (YK (Xc []) (dec (PV.agg [enc (Nd.kind n),enc (Nd.line n),enc (Nd.name n),enc (Nd.num n),enc (Nd.elem n),enc (Nd.dims n),enc (Nd.data n),enc (Nd.sizes n),enc (Nd.ranks n),enc ks]))))))))))))):Zc c6x 0 (Zb b7l G) a9u [] (ZY 12 [.agg [enc n.kind,enc n.line,enc n.name,enc n.num,enc n.elem,enc n.dims,enc n.data,enc n.sizes,enc n.ranks,enc ks]]):=Zc.tp (dm [] 8 0x313231) h
end Go.Pl
namespace Go.Pl
open Go.RowKit
open Enc (enc dec is)
open EncL (encL decL isL)
mutual
theorem b5v: ∀ (b:List Str) (t:Tm) (s:Str),s∈YK b t->s.s.length<=Qi t
 | b,.mk n ks,s,h=>by
  rw[YK]at h
  rw[Qi]
  rcases List.mem_append.1 h with h|h
  ·split at h
   ·have:s=n.name:=by simpa using h
    subst this
    unfold EJ;omega
   ·cases h
  ·have:=a3c b (Yt n ks.length) n.name 0 ks s h;omega
theorem a3c: ∀ (b:List Str) (l:Bool) (x:Str) (i:Nat) (ks:List Tm) (s:Str),s∈Xw b l x i ks->s.s.length<=VA ks
 | b,l,x,i,[],s,h=>by rw[Xw]at h;cases h
 | b,l,x,i,k::ks,s,h=>by
  rw[Xw]at h
  rw[VA]
  rcases List.mem_append.1 h with h|h
  ·have:=b5v _ k s h;omega
  ·have:=a3c b l x (i+1) ks s h;omega
end
theorem b3l{l:List Str}(h1 : ∀ s∈l,s.s.length<=1048576)(h2:l.length<=1048576):VM (ZW (Y8 l))=true:=by
 have h3:(ZW (Y8 l)).all b3n=true:=by
  rw[List.all_eq_true]
  intro x hx
  obtain⟨s,hs,rfl⟩:=List.mem_map.1 hx
  rcases (Dw l [] s).1 hs with h|h
  ·cases h
  ·exact decide_eq_true (h1 s h)
 have h4:((ZW (Y8 l)).map Vn).Nodup:=by
  have e:(ZW (Y8 l)).map Vn=(Y8 l).map (·.s):=by unfold ZW;rw[List.map_map];rfl
  rw[e]
  have:=UB l [] (by simp)
  refine List.Pairwise.map _ (fun a b hab=> ?_) this
  intro he;apply hab;cases a;cases b;simp at he;rw[he]
 have h5:(ZW (Y8 l)).length<=1048576:=by
  have:=VV l []
  unfold ZW
  rw[List.length_map]
  have e:Y8 l=l.foldl Y2 []:=rfl
  rw[e]
  simp at this
  omega
 unfold VM
 rw[h3,decide_eq_true h4,decide_eq_true h5];rfl
theorem P6(l:List Str):(PV.sl 1 false (List.map PV.str (YJ (List.map Vn (ZW (Y8 l))))))=enc (V6 l):=by
 have e:(ZW (Y8 l)).map Vn=(Y8 l).map (·.s):=by unfold ZW;rw[List.map_map];rfl
 rw[e]
 unfold V6
 show _=PV.sl 1 false (List.map enc (List.map Str.mk _))
 rw[List.map_map]
 rfl
theorem b9r: ∀ x:Tm×Unit,tW x.1=true->Zc c6x 0 (Zb b7l (Zm (ZX x.1))) a9u [] (ZY c9y (encL x)):=by
 rintro⟨⟨n,ks⟩,⟨⟩⟩ hw
 rw[show encL ((Tm.mk n ks,()):Tm×Unit)=[PV.agg [enc n.kind,enc n.line,enc n.name,enc n.num,enc n.elem,enc n.dims,enc n.data,enc n.sizes,enc n.ranks,enc ks]]from by
  show [enc (Tm.mk n ks)]=_
  rw[Zx]]
 have hw:tW (.mk n ks)=true:=hw
 refine d6b n ks ?_
 have hs:=XZ hw
 have hW:=of_decide_eq_true hw
 have hd:ZA (.mk n ks)<=1048576:=Nat.le_trans (Kg _) hs
 have e:(dec (PV.agg [enc (Nd.kind n),enc (Nd.line n),enc (Nd.name n),enc (Nd.num n),enc (Nd.elem n),enc (Nd.dims n),enc (Nd.data n),enc (Nd.sizes n),enc (Nd.ranks n),enc ks]):Tm) = .mk n ks:=by rw[<- Zx,Enc.dec_enc]
 rw[e]
 refine⟨?_,?_,?_⟩
 ·have:=d3b (t:=.mk n ks) (b:=[]) (g:=[]) hw (by simpa using hd) (by simpa using hs)
  rw[Zx]at this
  exact this
 ·show(79==79&&VM (ZW (Y8 (YK [] (.mk n ks)))))=true
  rw[b3l (fun s h=>by have:=b5v _ _ s h;omega) (by have:=U0 [] (.mk n ks);omega)]
  simp
 ·show Zm _ (PV.sl 1 false (List.map PV.str (YJ (List.map Vn (ZW (Y8 (YK [] (.mk n ks))))))))
  rw[P6]
  exact Y6 rfl
end Go.Pl
namespace Go.Pl
open Go.RowKit
open Enc (enc dec is)
open EncL (encL decL isL)
set_option maxRecDepth 100000
noncomputable def Gq:IC:=icx WI Proofs.Tryz.f21
def KR:List IRes:=[(.tmp 2)]
abbrev c2n:Nat:=11
noncomputable def Qu:ZE:=YB [(58,.own Yf (YE 80))]
theorem d4i{G:PV->Prop}(E:YA)(n:Nd)(ks:List Tm)(h:(Yf [(.pv (.agg [(.int .i64 (Nd.kind n)),(.int .i64 (Nd.line n)),(.str (Str.s (Nd.name n))),(.int .i64 (Nd.num n)),(.str (Str.s (Nd.elem n))),(.sl 1 false (List.map enc (Nd.dims n))),(.sl 1 false (List.map enc (Nd.data n))),(.sl 2 false (List.map enc (Nd.sizes n))),(.sl 1 false (List.map enc (Nd.ranks n))),(.sl 10 false (List.map enc ks))]))] [])=true∧(E 0 ⟨ZB 11 0 [(3,(.ptr 0 0)),(5,(.fn 80 [] [(.ptr 1 0)])),(8,.undef),(9,.undef)],[(.obj (.box [(.pv (.int .i64 0))])),(.obj (.box (ZM n ks)))]⟩ (fun x S'=>Um Qu E 0 (Zb KR G) Gq 0 x S'))):Zu Qu E 0 (Zb KR G) (.inl Gq) [] (ZY 11 [.agg [enc n.kind,enc n.line,enc n.name,enc n.num,enc n.elem,enc n.dims,enc n.data,enc n.sizes,enc n.ranks,enc ks]]):=Zu.mp (.req (.keep (.nil))) h
theorem c0m{G:PV->Prop}(E:YA)(n:Nd)(ks:List Tm)(c:Int)(h:G ((.int .i64 c))):Um Qu E 0 (Zb KR G) Gq 0 .normal ⟨ZB 11 0 [(3,.ptr 0 0)],[.obj (.box [.pv (.int .i64 c)])]⟩:=Zu.mp (.nil) h
def Gc:IC:=.skip
noncomputable def b3e:ZE:=YB [(58,.own Yf (YE 80))]
theorem c5w{G:Zp->Prop}(E:YA)(n:Nd)(ks:List Tm)(c:Int)(v:Int)(h:E 99 ⟨ZB 11 0 [(3,(.ptr 0 0))],[(.obj (.box [(.pv (.int .i64 c))]))]⟩ (fun x S'=>Um b3e E 1 (fun st=>G st.heap) Gc 99 x S')):Zu b3e E 1 (fun st=>G st.heap) (.inl Gc) [.seq (.ext 99 [3])] ⟨ZB 11 0 [(3,.ptr 0 0),(6,.pv (.agg [enc n.kind,enc n.line,enc n.name,enc n.num,enc n.elem,enc n.dims,enc n.data,enc n.sizes,enc n.ranks,enc ks])),(7,.pv (.int .i64 v))],[.obj (.box [.pv (.int .i64 c)])]⟩:=Zu.mh (.nil) h
def Gt:IC:=(.block 1 (.reg [ZC 8 (DV [(.int .i64)] (.t 3)) 0,ZC 9 (K5 .add (.t 8) (UF 1)) 0,DW (.store 1 (.t 3) (.t 9)) 0] none))
noncomputable def b5s:ZE:=YB [(58,.own Yf (YE 80))]
theorem c3y{G:Zp->Prop}(E:YA)(n:Nd)(ks:List Tm)(c:Int)(v:Int)(h:E 99 ⟨ZB 11 0 [],[(.obj (.box [(.pv (.int .i64 (IntKind.wrap IntKind.i64 (c+1))))]))]⟩ (fun x S'=>Um b5s E 1 (fun st=>G st.heap) Gt 99 x S')):Zu b5s E 1 (fun st=>G st.heap) (.inl Gt) [.seq (.ext 99 [])] ⟨ZB 11 0 [(3,.ptr 0 0)],[.obj (.box [.pv (.int .i64 c)])]⟩:=Zu.mh (.lit (.nil)) h
noncomputable def HZ:IC:=icx WI Proofs.Tryz.f37
def KO:List IRes:=[(.tmp 2)]
abbrev c0l:Nat:=25
noncomputable def QK:ZE:=YB [(58,.own Yf (YE 80))]
theorem d2w{G:PV->Prop}(E:YA)(n:Nd)(ks:List Tm)(h:(Yf [(.pv (.agg [(.int .i64 (Nd.kind n)),(.int .i64 (Nd.line n)),(.str (Str.s (Nd.name n))),(.int .i64 (Nd.num n)),(.str (Str.s (Nd.elem n))),(.sl 1 false (List.map enc (Nd.dims n))),(.sl 1 false (List.map enc (Nd.data n))),(.sl 2 false (List.map enc (Nd.sizes n))),(.sl 1 false (List.map enc (Nd.ranks n))),(.sl 10 false (List.map enc ks))]))] [])=true∧(E 0 ⟨ZB 25 0 [(3,(.ptr 0 0)),(4,.undef),(6,(.fn 80 [] [(.ptr 1 0)])),(7,.undef),(9,.undef),(10,.undef),(11,.undef),(12,.undef),(13,.undef),(14,.undef),(15,.undef),(16,.undef),(17,.undef),(18,.undef),(19,.undef),(20,.undef),(21,.undef),(22,.undef),(23,.undef)],[(.obj (.box [(.pv (.int .i64 0))])),(.obj (.box (ZM n ks)))]⟩ (fun x S'=>Um QK E 0 (Zb KO G) HZ 0 x S'))):Zu QK E 0 (Zb KO G) (.inl HZ) [] (ZY 25 [.agg [enc n.kind,enc n.line,enc n.name,enc n.num,enc n.elem,enc n.dims,enc n.data,enc n.sizes,enc n.ranks,enc ks]]):=Zu.mp (.req (.keep (.nil))) h
theorem c2x{G:PV->Prop}(E:YA)(n:Nd)(ks:List Tm)(c:Int)(h:G ((.int .i64 c))):Um QK E 0 (Zb KO G) HZ 0 .normal ⟨ZB 25 0 [(3,.ptr 0 0)],[.obj (.box [.pv (.int .i64 c)])]⟩:=Zu.mp (.nil) h
def J4:IC:=(.reg [ZC 4 (.alloc (.agg [(.int .i64 0),(.int .i64 0),(.str []),(.int .i64 0),(.str []),(.sl 0 true []),(.sl 0 true []),(.sl 0 true []),(.sl 0 true []),(.sl 0 true [])])) 0,DW (.store 10 (.t 4) (.t 7)) 1] none)
noncomputable def a8p:ZE:=YB [(58,.own Yf (YE 80))]
theorem c3a{G:Zp->Prop}(E:YA)(n:Nd)(ks:List Tm)(c:Int)(v:Int)(h:E 99 ⟨ZB 25 0 [(3,(.ptr 0 0)),(4,(.ptr 1 0))],[(.obj (.box [(.pv (.int .i64 c))])),(.obj (.box (ZM n ks)))]⟩ (fun x S'=>Um a8p E 1 (fun st=>G st.heap) J4 99 x S')):Zu a8p E 1 (fun st=>G st.heap) (.inl J4) [.seq (.ext 99 [3,4])] ⟨ZB 25 0 [(3,.ptr 0 0),(7,.pv (.agg [enc n.kind,enc n.line,enc n.name,enc n.num,enc n.elem,enc n.dims,enc n.data,enc n.sizes,enc n.ranks,enc ks])),(8,.pv (.int .i64 v))],[.obj (.box [.pv (.int .i64 c)])]⟩:=Zu.mh (.nil) h
def Uz:IC:=(.block 1 (Vh [ZC 9 (.faddr 0 (.t 4)) 0,ZC 10 (DV [(.int .i64)] (.t 9)) 0,ZC 11 (K5 .eql (.t 10) (UF 6)) 0,ZC 12 (WJ 11) 0,p'' 13 (.faddr 2 (.t 4)) 0 12,p'' 14 (.load false [.str] (.t 13)) 0 12,p'' 15 (K5 .eql (.t 14) (.c (.str [105,110,100,101,120]))) 0 12,p'' 16 (WJ 15) 0 12,FD 17 (.faddr 2 (.t 4)) 0 16,FD 18 (.load false [.str] (.t 17)) 0 16,FD 19 (K5 .eql (.t 18) (.c (.str [117,112,100,97,116,101]))) 0 16,p'' 20 (.pick (.t 16) (.c (.bool true)) (.t 19)) 0 12,ZC 21 (.pick (.t 12) (.t 20) (.c (.bool false))) 0] (.cond (.t 21) (.reg [ZC 22 (DV [(.int .i64)] (.t 3)) 0,ZC 23 (K5 .add (.t 22) (UF 1)) 0,DW (.store 1 (.t 3) (.t 23)) 0] none) .skip)))
noncomputable def BN:ZE:=YB [(58,.own Yf (YE 80))]
theorem c4r{G:Zp->Prop}(E:YA)(n:Nd)(ks:List Tm)(c:Int)(v:Int)(h:if (Nd.kind n==6)=true then if (Str.s (Nd.name n)==[(105:UInt8),(110:UInt8),(100:UInt8),(101:UInt8),(120:UInt8)])=true then E 99 ⟨ZB 25 0 [],[(.obj (.box [(.pv (.int .i64 (IntKind.wrap IntKind.i64 (c+1))))])),(.obj (.box (ZM n ks)))]⟩ (fun x S'=>Um BN E 2 (fun st=>G st.heap) Uz 99 x S')else(if (Str.s (Nd.name n)==[(117:UInt8),(112:UInt8),(100:UInt8),(97:UInt8),(116:UInt8),(101:UInt8)])=true then E 99 ⟨ZB 25 0 [],[(.obj (.box [(.pv (.int .i64 (IntKind.wrap IntKind.i64 (c+1))))])),(.obj (.box (ZM n ks)))]⟩ (fun x S'=>Um BN E 2 (fun st=>G st.heap) Uz 99 x S')else(E 99 ⟨ZB 25 0 [],[(.obj (.box [(.pv (.int .i64 c))])),(.obj (.box (ZM n ks)))]⟩ (fun x S'=>Um BN E 2 (fun st=>G st.heap) Uz 99 x S')))else(E 99 ⟨ZB 25 0 [],[(.obj (.box [(.pv (.int .i64 c))])),(.obj (.box (ZM n ks)))]⟩ (fun x S'=>Um BN E 2 (fun st=>G st.heap) Uz 99 x S'))):Zu BN E 2 (fun st=>G st.heap) (.inl Uz) [.seq (.ext 99 [])] ⟨ZB 25 0 [(3,.ptr 0 0),(4,.ptr 1 0)],[.obj (.box [.pv (.int .i64 c)]),.obj (.box [.pv (enc n.kind),.pv (enc n.line),.pv (enc n.name),.pv (enc n.num),.pv (enc n.elem),.pv (enc n.dims),.pv (enc n.data),.pv (enc n.sizes),.pv (enc n.ranks),.pv (enc ks)])]⟩:=Zu.mh (dm [] 42 0x2222220020024222222022222220084222201d42) h
noncomputable def Hg:IC:=icx WI Proofs.Tryz.f32
def KU:List IRes:=[(.tmp 2)]
abbrev c5x:Nat:=29
noncomputable def Qn:ZE:=YB [(58,.own Yf (YE 80)),(57,.own Xf (XJ 79)),(56,.own (X8 79) WU)]
theorem d0n{G:PV->Prop}(E:YA)(n:Nd)(ks:List Tm)(h:(Yf [(.pv (.agg [(.int .i64 (Nd.kind n)),(.int .i64 (Nd.line n)),(.str (Str.s (Nd.name n))),(.int .i64 (Nd.num n)),(.str (Str.s (Nd.elem n))),(.sl 1 false (List.map enc (Nd.dims n))),(.sl 1 false (List.map enc (Nd.data n))),(.sl 2 false (List.map enc (Nd.sizes n))),(.sl 1 false (List.map enc (Nd.ranks n))),(.sl 10 false (List.map enc ks))]))] [])=true∧(E 0 ⟨ZB 29 0 [(3,(.ptr 0 0)),(4,.undef),(7,(.fn 80 [] [(.ptr 1 0)])),(8,.undef),(10,.undef),(11,.undef),(12,.undef),(13,.undef),(14,.undef),(15,.undef),(16,.undef),(17,.undef),(18,.undef),(19,.undef),(20,.undef),(21,.undef),(22,.undef),(23,.undef),(24,.undef),(25,.undef)],[(.obj (.box [(.map 2)])),(.obj (.box (ZM n ks))),(.obj (.map []))]⟩ (fun x S'=>Um Qn E 0 (Zb KU G) Hg 0 x S'))):Zu Qn E 0 (Zb KU G) (.inl Hg) [] (ZY 29 [.agg [enc n.kind,enc n.line,enc n.name,enc n.num,enc n.elem,enc n.dims,enc n.data,enc n.sizes,enc n.ranks,enc ks]]):=Zu.mp (.req (.keep (.nil))) h
theorem c5p{G:PV->Prop}(E:YA)(n:Nd)(ks:List Tm)(m:List Str)(h:(X8 79 [(.fn 79 [] [(.ptr 0 0)])] [(.box [(.map 1)]),(.map (ZW m))])=true∧(G ((.sl 1 false (List.map PV.str (YJ (List.map Vn (ZW m)))))))):Um Qn E 0 (Zb KU G) Hg 0 .normal ⟨ZB 29 0 [(3,.ptr 0 0)],[.obj (.box [.map 1]),.obj (.map (ZW m))]⟩:=Zu.mp (.lit (.keep (.req (.keep (.nil))))) h
def KJ:IC:=(.reg [ZC 4 (.alloc (.agg [(.int .i64 0),(.int .i64 0),(.str []),(.int .i64 0),(.str []),(.sl 0 true []),(.sl 0 true []),(.sl 0 true []),(.sl 0 true []),(.sl 0 true [])])) 0,DW (.store 10 (.t 4) (.t 8)) 1] none)
noncomputable def b2z:ZE:=YB [(58,.own Yf (YE 80)),(57,.own Xf (XJ 79)),(56,.own (X8 79) WU)]
theorem c5z{G:Zp->Prop}(E:YA)(n:Nd)(ks:List Tm)(m:List Str)(v:Int)(h:E 99 ⟨ZB 29 0 [(3,(.ptr 0 0)),(4,(.ptr 2 0))],[(.obj (.box [(.map 1)])),(.obj (.map (ZW m))),(.obj (.box (ZM n ks)))]⟩ (fun x S'=>Um b2z E 2 (fun st=>G st.heap) KJ 99 x S')):Zu b2z E 2 (fun st=>G st.heap) (.inl KJ) [.seq (.ext 99 [3,4])] ⟨ZB 29 0 [(3,.ptr 0 0),(8,.pv (.agg [enc n.kind,enc n.line,enc n.name,enc n.num,enc n.elem,enc n.dims,enc n.data,enc n.sizes,enc n.ranks,enc ks])),(9,.pv (.int .i64 v))],[.obj (.box [.map 1]),.obj (.map (ZW m))]⟩:=Zu.mh (.nil) h
def Uv:IC:=(.block 1 (Vh [ZC 10 (.faddr 0 (.t 4)) 0,ZC 11 (DV [(.int .i64)] (.t 10)) 0,ZC 12 (K5 .eql (.t 11) (UF 6)) 0,ZC 13 (WJ 12) 0,FD 14 (.faddr 0 (.t 4)) 0 13,FD 15 (DV [(.int .i64)] (.t 14)) 0 13,FD 16 (K5 .eql (.t 15) (UF 8)) 0 13,ZC 17 (.pick (.t 13) (.c (.bool true)) (.t 16)) 0,ZC 18 (WJ 17) 0,FD 19 (.faddr 0 (.t 4)) 0 18,FD 20 (DV [(.int .i64)] (.t 19)) 0 18,FD 21 (K5 .eql (.t 20) (UF 9)) 0 18,ZC 22 (.pick (.t 18) (.c (.bool true)) (.t 21)) 0] (.cond (.t 22) (.reg [ZC 23 (.load false [.any] (.t 3)) 0,ZC 24 (.faddr 2 (.t 4)) 0,ZC 25 (.load false [.str] (.t 24)) 0,DW (.mapupd true (.t 23) (.t 25) (.c (.bool true))) 0] none) .skip)))
noncomputable def Ap:ZE:=YB [(58,.own Yf (YE 80)),(57,.own Xf (XJ 79)),(56,.own (X8 79) WU)]
theorem b9z{G:Zp->Prop}(E:YA)(n:Nd)(ks:List Tm)(m:List Str)(v:Int)(h:if (Nd.kind n==6)=true then(Vf (enc (Nd.name n)) (PV.bool true) (ZW m))=true∧(E 99 ⟨ZB 29 0 [],[(.obj (.box [(.map 1)])),(.obj (.map (XQ (enc (Nd.name n)) (PV.bool true) (ZW m)))),(.obj (.box (ZM n ks)))]⟩ (fun x S'=>Um Ap E 3 (fun st=>G st.heap) Uv 99 x S'))else(if (Nd.kind n==8)=true then(Vf (enc (Nd.name n)) (PV.bool true) (ZW m))=true∧(E 99 ⟨ZB 29 0 [],[(.obj (.box [(.map 1)])),(.obj (.map (XQ (enc (Nd.name n)) (PV.bool true) (ZW m)))),(.obj (.box (ZM n ks)))]⟩ (fun x S'=>Um Ap E 3 (fun st=>G st.heap) Uv 99 x S'))else(if (Nd.kind n==9)=true then(Vf (enc (Nd.name n)) (PV.bool true) (ZW m))=true∧(E 99 ⟨ZB 29 0 [],[(.obj (.box [(.map 1)])),(.obj (.map (XQ (enc (Nd.name n)) (PV.bool true) (ZW m)))),(.obj (.box (ZM n ks)))]⟩ (fun x S'=>Um Ap E 3 (fun st=>G st.heap) Uv 99 x S'))else(E 99 ⟨ZB 29 0 [],[(.obj (.box [(.map 1)])),(.obj (.map (ZW m))),(.obj (.box (ZM n ks)))]⟩ (fun x S'=>Um Ap E 3 (fun st=>G st.heap) Uv 99 x S'))))):Zu Ap E 3 (fun st=>G st.heap) (.inl Uv) [.seq (.ext 99 [])] ⟨ZB 29 0 [(3,.ptr 0 0),(4,.ptr 2 0)],[.obj (.box [.map 1]),.obj (.map (ZW m)),.obj (.box [.pv (enc n.kind),.pv (enc n.line),.pv (enc n.name),.pv (enc n.num),.pv (enc n.elem),.pv (enc n.dims),.pv (enc n.data),.pv (enc n.sizes),.pv (enc n.ranks),.pv (enc ks)])]⟩:=Zu.mh (dm [] 41 0x10024222201222200642222012222222200a42) h
end Go.Pl
namespace Go.Pl
open Go.RowKit
open Enc (enc dec is)
open EncL (encL decL isL)
set_option maxRecDepth 100000
abbrev d7v(ps:List PV)(k:Bool->Prop):Prop:=WH (fun(x:Tm×Unit)=>tW (Prod.fst x)) (fun(x:Tm×Unit)=>Aj (Prod.fst x)) ps k
noncomputable def PG:IC:=X5 Proofs.Tryz.f58
def Pk:List IRes:=[(.tmp 2)]
abbrev c6q:Nat:=4
def Oi:ZE:=YB []
theorem d1i{G:AV×List AObj×List AObj->Prop}(n:Nd)(ks:List Tm)(h:G (((.fn 80 [] [(.ptr 0 0)]),([],[(.box [(.pv (.int .i64 (Nd.kind n))),(.pv (.int .i64 (Nd.line n))),(.pv (.str (Str.s (Nd.name n)))),(.pv (.int .i64 (Nd.num n))),(.pv (.str (Str.s (Nd.elem n)))),(.pv (.sl 1 false (List.map enc (Nd.dims n)))),(.pv (.sl 1 false (List.map enc (Nd.data n)))),(.pv (.sl 2 false (List.map enc (Nd.sizes n)))),(.pv (.sl 1 false (List.map enc (Nd.ranks n)))),(.pv (.sl 10 false (List.map enc ks)))])])))):Zc Oi 0 (Yi 0 Pk G) PG [] (Wh 4 [.pv (.agg [enc n.kind,enc n.line,enc n.name,enc n.num,enc n.elem,enc n.dims,enc n.data,enc n.sizes,enc n.ranks,enc ks])] []):=Zc.to (.nil) h
noncomputable def GG:IC:=icx WI Proofs.Tryz.f22
def JP:List IRes:=[(.cell false 1 2)]
abbrev d4p:Nat:=23
noncomputable def Jc:ZE:=YB [(58,.own Yf (YE 80)),(59,.pure (preT (fun x:Tm×Unit=>tW x.1)) (Zi (fun x:Tm×Unit=>Aj x.1)))]
theorem d6n{G:PV->Prop}(E:YA)(n:Nd)(ks:List Tm)(h:(Yf [(.pv (.agg [(.int .i64 (Nd.kind n)),(.int .i64 (Nd.line n)),(.str (Str.s (Nd.name n))),(.int .i64 (Nd.num n)),(.str (Str.s (Nd.elem n))),(.sl 1 false (List.map enc (Nd.dims n))),(.sl 1 false (List.map enc (Nd.data n))),(.sl 2 false (List.map enc (Nd.sizes n))),(.sl 1 false (List.map enc (Nd.ranks n))),(.sl 10 false (List.map enc ks))]))] [])=true∧(E 0 ⟨ZB 23 0 [(2,(.ptr 0 0)),(3,(.ptr 1 0)),(4,.undef),(5,.undef),(7,(.fn 80 [] [(.ptr 2 0)])),(8,.undef),(9,.undef),(10,.undef),(11,.undef),(12,.undef),(13,.undef),(14,.undef),(15,.undef),(16,.undef),(17,.undef),(18,.undef),(19,.undef),(20,.undef),(21,.undef),(22,.undef)],[(.obj (.box [(.pv (.bool false))])),(.obj (.box [(.pv (.int .i64 0))])),(.obj (.box [(.pv (.int .i64 (Nd.kind n))),(.pv (.int .i64 (Nd.line n))),(.pv (.str (Str.s (Nd.name n)))),(.pv (.int .i64 (Nd.num n))),(.pv (.str (Str.s (Nd.elem n)))),(.pv (.sl 1 false (List.map enc (Nd.dims n)))),(.pv (.sl 1 false (List.map enc (Nd.data n)))),(.pv (.sl 2 false (List.map enc (Nd.sizes n)))),(.pv (.sl 1 false (List.map enc (Nd.ranks n)))),(.pv (.sl 10 false (List.map enc ks)))]))]⟩ (fun x S'=>Um Jc E 0 (Zb JP G) GG 0 x S'))):Zu Jc E 0 (Zb JP G) (.inl GG) [] (ZY 23 [.agg [enc n.kind,enc n.line,enc n.name,enc n.num,enc n.elem,enc n.dims,enc n.data,enc n.sizes,enc n.ranks,enc ks]]):=Zu.mp (.req (.keep (.nil))) h
theorem d0r{G:PV->Prop}(E:YA)(n:Nd)(ks:List Tm)(c:Int)(h:G ((.bool true))):Um Jc E 0 (Zb JP G) GG 0 .normal ⟨ZB 23 0 [(2,.ptr 0 0),(3,.ptr 1 0)],[.obj (.box [.pv (.bool false)]),.obj (.box [.pv (.int .i64 c)])]⟩:=Zu.mp (.nil) h
theorem c0p{G:PV->Prop}(E:YA)(n:Nd)(ks:List Tm)(c:Int)(rest:List Slot)(h:G ((.bool false))):Um Jc E 0 (Zb JP G) GG 0 .ret ⟨ZB 23 0 [(2,.ptr 0 0),(3,.ptr 1 0)],(.obj (.box [.pv (.bool false)]):: .obj (.box [.pv (.int .i64 c)])::rest)⟩:=Zu.mp (.nil) h
def Bp:IC:=(Vh [ZC 4 (.alloc (.agg [(.int .i64 0),(.int .i64 0),(.str []),(.int .i64 0),(.str []),(.sl 0 true []),(.sl 0 true []),(.sl 0 true []),(.sl 0 true []),(.sl 0 true [])])) 0,DW (.store 10 (.t 4) (.t 8)) 1] (.reg [ZC 5 (WJ 9) 0] none))
noncomputable def c7t:ZE:=YB [(58,.own Yf (YE 80)),(59,.pure (preT (fun x:Tm×Unit=>tW x.1)) (Zi (fun x:Tm×Unit=>Aj x.1)))]
theorem d1v{G:Zp->Prop}(E:YA)(n:Nd)(ks:List Tm)(c v:Int)(h:E 99 ⟨ZB 23 0 [(2,(.ptr 0 0)),(3,(.ptr 1 0)),(4,(.ptr 2 0)),(5,(.pv (.int .i64 v)))],[(.obj (.box [(.pv (.bool false))])),(.obj (.box [(.pv (.int .i64 c))])),(.obj (.box [(.pv (.int .i64 (Nd.kind n))),(.pv (.int .i64 (Nd.line n))),(.pv (.str (Str.s (Nd.name n)))),(.pv (.int .i64 (Nd.num n))),(.pv (.str (Str.s (Nd.elem n)))),(.pv (.sl 1 false (List.map enc (Nd.dims n)))),(.pv (.sl 1 false (List.map enc (Nd.data n)))),(.pv (.sl 2 false (List.map enc (Nd.sizes n)))),(.pv (.sl 1 false (List.map enc (Nd.ranks n)))),(.pv (.sl 10 false (List.map enc ks)))]))]⟩ (fun x S'=>Um c7t E 2 (fun st=>G st.heap) Bp 99 x S')):Zu c7t E 2 (fun st=>G st.heap) (.inl Bp) [.seq (.ext 99 [2,3,4,5])] ⟨ZB 23 0 [(2,.ptr 0 0),(3,.ptr 1 0),(8,.pv (.agg [enc n.kind,enc n.line,enc n.name,enc n.num,enc n.elem,enc n.dims,enc n.data,enc n.sizes,enc n.ranks,enc ks])),(9,.pv (.int .i64 v))],[.obj (.box [.pv (.bool false)]),.obj (.box [.pv (.int .i64 c)])]⟩:=Zu.mh (.nil) h
def Au:IC:=(.block 1 (Vh [ZC 10 (DV [(.int .i64)] (.t 3)) 0,ZC 11 (K5 .add (.t 10) (UF 1)) 0,DW (.store 1 (.t 3) (.t 11)) 0] (Vh [ZC 12 (DV [(.int .i64)] (.t 3)) 0,ZC 13 (K5 .gtr (.t 12) (UF 400)) 0,ZC 14 (WJ 13) 0,FD 15 (WJ 5) 0 14,FD 16 (K5 .gtr (.t 15) (UF 40)) 0 14,ZC 17 (.pick (.t 14) (.c (.bool true)) (.t 16)) 0,ZC 18 (WJ 17) 0,FD 19 (.load true [(.int .i64),(.int .i64),.str,(.int .i64),.str,(.sl 1),(.sl 1),(.sl 2),(.sl 1),(.sl 10)] (.t 4)) 0 18,FD 20 (c'' 59 [(.t 19)]) 0 18,FD 21 (.un .not (.t 20)) 2 18,ZC 22 (.pick (.t 18) (.c (.bool true)) (.t 21)) 2] (.cond (.t 22) (Vh [DW (.store 1 (.t 2) (.c (.bool false))) 0] .ret) .skip))))
noncomputable def c8x:ZE:=YB [(58,.own Yf (YE 80)),(59,.pure (preT (fun x:Tm×Unit=>tW x.1)) (Zi (fun x:Tm×Unit=>Aj x.1)))]
theorem d3a{G:Zp->Prop}(E:YA)(n:Nd)(ks:List Tm)(c v:Int)(h:if (decide (IntKind.wrap IntKind.i64 (c+1)>400))=true then G ([(.obj (.box [(.pv (.bool false))])),(.obj (.box [(.pv (.int .i64 (IntKind.wrap IntKind.i64 (c+1))))])),(.obj (.box [(.pv (.int .i64 (Nd.kind n))),(.pv (.int .i64 (Nd.line n))),(.pv (.str (Str.s (Nd.name n)))),(.pv (.int .i64 (Nd.num n))),(.pv (.str (Str.s (Nd.elem n)))),(.pv (.sl 1 false (List.map enc (Nd.dims n)))),(.pv (.sl 1 false (List.map enc (Nd.data n)))),(.pv (.sl 2 false (List.map enc (Nd.sizes n)))),(.pv (.sl 1 false (List.map enc (Nd.ranks n)))),(.pv (.sl 10 false (List.map enc ks)))])),.fresh,.fresh])else(if (decide (v>40))=true then G ([(.obj (.box [(.pv (.bool false))])),(.obj (.box [(.pv (.int .i64 (IntKind.wrap IntKind.i64 (c+1))))])),(.obj (.box [(.pv (.int .i64 (Nd.kind n))),(.pv (.int .i64 (Nd.line n))),(.pv (.str (Str.s (Nd.name n)))),(.pv (.int .i64 (Nd.num n))),(.pv (.str (Str.s (Nd.elem n)))),(.pv (.sl 1 false (List.map enc (Nd.dims n)))),(.pv (.sl 1 false (List.map enc (Nd.data n)))),(.pv (.sl 2 false (List.map enc (Nd.sizes n)))),(.pv (.sl 1 false (List.map enc (Nd.ranks n)))),(.pv (.sl 10 false (List.map enc ks)))])),.fresh,.fresh])else((d7v [(.agg [(.int .i64 (Nd.kind n)),(.int .i64 (Nd.line n)),(.str (Str.s (Nd.name n))),(.int .i64 (Nd.num n)),(.str (Str.s (Nd.elem n))),(.sl 1 false (List.map enc (Nd.dims n))),(.sl 1 false (List.map enc (Nd.data n))),(.sl 2 false (List.map enc (Nd.sizes n))),(.sl 1 false (List.map enc (Nd.ranks n))),(.sl 10 false (List.map enc ks))])] fun y0=>(if (!y0)=true then G ([(.obj (.box [(.pv (.bool false))])),(.obj (.box [(.pv (.int .i64 (IntKind.wrap IntKind.i64 (c+1))))])),(.obj (.box [(.pv (.int .i64 (Nd.kind n))),(.pv (.int .i64 (Nd.line n))),(.pv (.str (Str.s (Nd.name n)))),(.pv (.int .i64 (Nd.num n))),(.pv (.str (Str.s (Nd.elem n)))),(.pv (.sl 1 false (List.map enc (Nd.dims n)))),(.pv (.sl 1 false (List.map enc (Nd.data n)))),(.pv (.sl 2 false (List.map enc (Nd.sizes n)))),(.pv (.sl 1 false (List.map enc (Nd.ranks n)))),(.pv (.sl 10 false (List.map enc ks)))])),.fresh,.fresh])else(E 99 ⟨ZB 23 0 [],[(.obj (.box [(.pv (.bool false))])),(.obj (.box [(.pv (.int .i64 (IntKind.wrap IntKind.i64 (c+1))))])),(.obj (.box [(.pv (.int .i64 (Nd.kind n))),(.pv (.int .i64 (Nd.line n))),(.pv (.str (Str.s (Nd.name n)))),(.pv (.int .i64 (Nd.num n))),(.pv (.str (Str.s (Nd.elem n)))),(.pv (.sl 1 false (List.map enc (Nd.dims n)))),(.pv (.sl 1 false (List.map enc (Nd.data n)))),(.pv (.sl 2 false (List.map enc (Nd.sizes n)))),(.pv (.sl 1 false (List.map enc (Nd.ranks n)))),(.pv (.sl 10 false (List.map enc ks)))]))]⟩ (fun x S'=>Um c8x E 3 (fun st=>G st.heap) Au 99 x S'))))))):Zu c8x E 3 (fun st=>G st.heap) (.inl Au) [.seq (.ext 99 [])] ⟨ZB 23 0 [(2,.ptr 0 0),(3,.ptr 1 0),(4,.ptr 2 0),(5,.pv (.int .i64 v))],[.obj (.box [.pv (.bool false)]),.obj (.box [.pv (.int .i64 c)]),.obj (.box [.pv (enc n.kind),.pv (enc n.line),.pv (enc n.name),.pv (enc n.num),.pv (enc n.elem),.pv (enc n.dims),.pv (enc n.data),.pv (enc n.sizes),.pv (enc n.ranks),.pv (enc ks)])]⟩:=Zu.mh (dm [dv Bool] 38 0x142251202222005422202222222008422) h
end Go.Pl
namespace Go.Pl
open Go.RowKit
open Enc (enc dec is)
open EncL (encL decL isL)
theorem c0i{s:Str}:(s=⟨[]⟩) ↔ s.s=[]:=by cases s;simp
theorem c6f(n:Nd):YR n 0 0=RI n:=by
 unfold YR RI
 cases n.sizes <;> cases n.ranks <;> simp <;> omega
theorem c4w(k:Nat):((k:Int)=1) ↔ k=1:=by omega
theorem c4h(k:Nat):((k:Int)=2) ↔ k=2:=by omega
theorem c3r(k:Nat):((1:Int)<=(k:Int)) ↔ 1<=k:=by omega
theorem b7k(k:Nat):((k:Int)<=16) ↔ k<=16:=by omega
theorem b3q(n:Nd):YR n 1 0=(decide (n.sizes.length<=1)&&n.sizes.all Ym&&n.ranks.isEmpty):=by
 unfold YR
 rw[show decide ((n.sizes.length:Int)<=1)=decide (n.sizes.length<=1)from decide_eq_decide.2 (by omega),show decide ((n.ranks.length:Int)<=0)=n.ranks.isEmpty by cases n.ranks <;> simp <;> omega,Bool.and_assoc,Bool.and_assoc,Bool.and_comm n.ranks.isEmpty]
set_option maxHeartbeats 2000000 in
theorem a5l: ∀ x:Tm×Unit,tW x.1=true->Zc Rf 0 (Zb CR (Zm (Aj x.1))) Ff [] (ZY b8o (encL x)):=by
 rintro⟨⟨n,ks⟩,⟨⟩⟩ ht
 rw[<- XX]
 show Zc Rf 0 (Zb CR (Zm (Hr n ks.length))) _ _ _
 have hnm:decide (n.name.s.length<=1048576)=true:=decide_eq_true (PU ht).name
 have har:a8d (OO n)=true:=d3k ht
 have leaf : ∀ b:Bool,Hr n ks.length=b->Zm (Hr n ks.length) (.bool b):=fun b h=>ZI h.symm
 refine c1k n ks ?_
 refine WC (fun h1=>leaf _ ?_) fun h1=>WC (fun h2=>leaf _ ?_) fun h2=> ?_
 ·unfold Hr;rw[decide_eq_false (by omega)];rfl
 ·unfold Hr;rw[decide_eq_false (show ¬ n.line<=10000 by omega)];simp
 have hk:Hr n ks.length=b8c n ks.length:=by
  unfold Hr;rw[decide_eq_true (by omega),decide_eq_true (show n.line<=10000 by omega)];simp
 rw[hk]at leaf ⊢
 repeat' (first
  | refine Y1 (fun h=> ?_) (fun h=> ?_)
  | refine WC (fun h=> ?_) (fun h=> ?_)
  | refine VB (fun h=> ?_) (fun h=> ?_)
  | refine⟨Ze (n.name,()) rfl hnm,Zd (n.name,()) rfl ?_⟩
  | refine⟨Ze (.mk n ks,0,0,()) (V3 n ks 0 0) ht,Zd (.mk n ks,0,0,()) (V3 n ks 0 0) ?_⟩
  | refine⟨Ze (.mk n ks,1,0,()) (V3 n ks 1 0) ht,Zd (.mk n ks,1,0,()) (V3 n ks 1 0) ?_⟩
  | refine⟨Ze (.mk n ks,()) (XX n ks) ht,Zd (.mk n ks,()) (XX n ks) ?_⟩
  | refine⟨Ze (OO n,()) rfl har,Zd (OO n,()) rfl ?_⟩
  | refine leaf _ ?_)
 all_goals clear ht hnm har leaf hk
 all_goals (unfold b8c RG;simp_all[c0i,Tm.nd,Tm.ks,c6f,OO,c4w,c4h,c3r,b7k,b3q])
 intro hk
 omega
end Go.Pl
namespace Go.Proofs.YtgdebdgkofkeeaaGreatDoor
open Go.RowKit Go.Pl
open Enc (enc dec is)
open EncL (encL decL isL)
set_option maxRecDepth 100000
def ndC(n:Nd)(ks:List Tm):List PV:=[enc n.kind,enc n.line,enc n.name,enc n.num,enc n.elem,enc n.dims,enc n.data,enc n.sizes,enc n.ranks,enc ks]
abbrev wkT:ZE:=YB []
def eW(L:List (Nat×AV)):List AV:=ZB 28 0 L
def wk0(n:Nd)(ks:List Tm)(lev:Int)(l:Nat):List (Nat×AV):=[(0,.pv (.agg (ndC n ks))),(1,.pv (.int .i64 lev)),(2,.yld l)]
def wk1(n:Nd)(ks:List Tm)(lev:Int)(l:Nat):List (Nat×AV):=wk0 n ks lev l++[(3,.ptr 0 0),(6,.pv (.bool false))]
def wk2(n:Nd)(ks:List Tm)(lev:Int)(l:Nat):List (Nat×AV):=wk1 n ks lev l++[(9,.yld l),(10,.pv (.agg (ndC n ks))),(11,.pv (.int .i64 lev))]
def wk3(n:Nd)(ks:List Tm)(lev:Int)(l:Nat)(b:Bool):List (Nat×AV):=wk2 n ks lev l++[(12,.pv (.bool b))]
def wk4(n:Nd)(ks:List Tm)(lev:Int)(l:Nat)(b:Bool):List (Nat×AV):=wk3 n ks lev l b++[(13,.pv (.bool (!b)))]
def wk5(n:Nd)(ks:List Tm)(lev:Int)(l:Nat):List (Nat×AV):=wk4 n ks lev l true++[(14,.ptr 0 9),(15,.pv (enc ks)),(16,.pv (.int .i64 (ks.map enc).length)),(17,.pv (.int .i64 0))]
def wl0(ks:List Tm)(lev:Int)(l:Nat)(i:Int):List (Nat×AV):=[(17,.pv (.int .i64 i)),(16,.pv (.int .i64 (ks.map enc).length)),(15,.pv (enc ks)),(1,.pv (.int .i64 lev)),(2,.yld l)]
def wl1(ks:List Tm)(lev:Int)(l:Nat)(i:Int):List (Nat×AV):=wl0 ks lev l i++[(18,.pv (.bool (decide (i<((ks.map enc).length:Int)))))]
def wl5(ks:List Tm)(lev:Int)(l:Nat)(i:Int)(n:Nd)(kk:List Tm):List (Nat×AV):=wl1 ks lev l i++[(19,.pv (.rptr (ndC n kk))),(20,.pv (.agg (ndC n kk))),(8,.ptr 0 0)]
def wl6(ks:List Tm)(lev:Int)(l:Nat)(i:Int)(n:Nd)(kk:List Tm):List (Nat×AV):=wl5 ks lev l i n kk++[(21,.pv (.agg (ndC n kk))),(22,.pv (.int .i64 lev)),(23,.pv (.int .i64 (IntKind.i64.wrap (lev+1)))),(24,.yld l)]
def wl7(ks:List Tm)(lev:Int)(l:Nat)(i:Int)(b:Bool):List (Nat×AV):=wl0 ks lev l i++[(25,.pv (.bool b))]
def wl8(ks:List Tm)(lev:Int)(l:Nat)(i:Int)(b:Bool):List (Nat×AV):=wl7 ks lev l i b++[(26,.pv (.bool (!b)))]
def wl9(ks:List Tm)(lev:Int)(l:Nat)(i:Int):List (Nat×AV):=[(27,.pv (.int .i64 (IntKind.i64.wrap (i+1)))),(17,.pv (.int .i64 (IntKind.i64.wrap (i+1)))),(16,.pv (.int .i64 (ks.map enc).length)),(15,.pv (enc ks)),(1,.pv (.int .i64 lev)),(2,.yld l)]
def bx(n:Nd)(ks:List Tm):Zp:=[.obj (.box ((ndC n ks).map .pv))]
theorem O5{T:ZE}{base d L sz:Nat}{env:List AV}{σ:Zp}{x i:IOp}{t:Bool}{xs:List PV}{n:Nat}{k:IntKind}{p:PV}{ps:List PI}(hx:ev env x = .pv (.sl sz t xs))(hi:ev env i = .pv (.int k (n:Int)))(hp:xs[n]? = some p):
  Qc T base (⟨some d,.iaddr sz x i,L,none⟩::ps) ⟨env,σ⟩=Qc T base ps ⟨env.set d (.pv (.rptr p.cells)),σ⟩:=by
 have hlt:n<xs.length:=(List.getElem?_eq_some_iff.1 hp).1
 have hg:xs[n]=p:=(List.getElem?_eq_some_iff.1 hp).2
 have h:(Xr T (base+L) env (.iaddr sz x i)).run σ=some (.pv (.rptr p.cells),σ):=by
  simp only[Xr,Y4,hx,hi]
  simp[HM.run,hlt,hg]
 show(Hd T base ⟨some d,.iaddr sz x i,L,none⟩ ⟨env,σ⟩).bind (Qc T base ps)=_
 simp only[Hd,YZ,h,Option.map_some,Option.bind_some,Yh]
set_option maxHeartbeats 1000000 in
theorem d2z: ∃ (o0 o1 o2 o3 o4 o5 o6 o7 o8 o9:Array Oper) (a1 b1 a6 b6:List Oper) (y c:Oper) (t1 t2:Array TypeId),
  Tryz.f81.body=some ((Code.region 0 o0 false).seq (((Code.region 1 o1 false).seq (Code.cond (.tmp 13) ((Code.region 2 o2 false).seq .ret) .skip)).seq (((Code.region 3 o3 false).seq (Code.block 0
   (Code.loop ((Code.region 4 o4 false).seq ((Code.cond (.tmp 18) .skip (.exit 0)).seq ((Code.block 1 ((Code.region 5 o5 false).seq ((Code.region 6 o6 false).seq (Code.cond (.tmp 26) ((Code.region 7 o7 false).seq .ret) .skip)))).seq (Code.region 8 o8 false))))))).seq ((Code.region 9 o9 false).seq .ret)))) ∧
  o1.toList=a1++y::b1∧y.op = .call {callee:=.value (.tmp 9),args:=#[.tmp 10,.tmp 11],argTypes:=t1}∧y.guard=none∧y.dst=some 12 ∧
  o6.toList=a6++c::b6∧c.op = .call {callee:=.value (.func 81),args:=#[.tmp 21,.tmp 23,.tmp 24],argTypes:=t2}∧c.guard=none∧c.dst=some 25 ∧
  (∀ n ks lev l,Qy Tryz.prog wkT o0 o0.toList ⟨eW (wk0 n ks lev l),[]⟩=some ⟨eW (wk1 n ks lev l),bx n ks⟩) ∧
  (∀ n ks lev l,Qy Tryz.prog wkT o1 a1 ⟨eW (wk1 n ks lev l),bx n ks⟩=some ⟨eW (wk2 n ks lev l),bx n ks⟩) ∧
  (∀ n ks lev l b,Qy Tryz.prog wkT o1 b1 ⟨eW (wk3 n ks lev l b),bx n ks⟩=some ⟨eW (wk4 n ks lev l b),bx n ks⟩) ∧
  (∀ L,Qy Tryz.prog wkT o2 o2.toList ⟨eW L,[]⟩=some ⟨(eW L).set 6 (.pv (.bool false)),[]⟩) ∧
  (∀ n ks lev l,Qy Tryz.prog wkT o3 o3.toList ⟨eW (wk4 n ks lev l true),bx n ks⟩=some ⟨eW (wk5 n ks lev l),bx n ks⟩) ∧
  (∀ ks lev l i,Qy Tryz.prog wkT o4 o4.toList ⟨eW (wl0 ks lev l i),[]⟩=some ⟨eW (wl1 ks lev l i),[]⟩) ∧
  (∀ ks lev l (i:Nat) n kk,ks[i]? = some (.mk n kk)->Qy Tryz.prog wkT o5 o5.toList ⟨eW (wl1 ks lev l i),[]⟩=some ⟨eW (wl5 ks lev l i n kk),bx n kk⟩) ∧
  (∀ ks lev l i n kk,Qy Tryz.prog wkT o6 a6 ⟨eW (wl5 ks lev l i n kk),bx n kk⟩=some ⟨eW (wl6 ks lev l i n kk),bx n kk⟩) ∧
  (∀ ks lev l i b,Qy Tryz.prog wkT o6 b6 ⟨eW (wl7 ks lev l i b),[]⟩=some ⟨eW (wl8 ks lev l i b),[]⟩) ∧
  (∀ L,Qy Tryz.prog wkT o7 o7.toList ⟨eW L,[]⟩=some ⟨(eW L).set 6 (.pv (.bool false)),[]⟩) ∧
  (∀ ks lev l i,Qy Tryz.prog wkT o8 o8.toList ⟨eW (wl0 ks lev l i),[]⟩=some ⟨eW (wl9 ks lev l i),[]⟩) ∧
  (∀ L,Qy Tryz.prog wkT o9 o9.toList ⟨eW L,[]⟩=some ⟨(eW L).set 6 (.pv (.bool true)),[]⟩):=by
 refine⟨_,_,_,_,_,_,_,_,_,_,[_,_,_],[_],[_,_,_,_],[_],_,_,_,_,rfl,rfl,rfl,rfl,rfl,rfl,rfl,rfl,rfl,?_,?_,?_,?_,?_,?_,?_,?_,?_,?_,?_,?_⟩
 ·intro n ks lev l;kernel_rfl
 ·intro n ks lev l;kernel_rfl
 ·intro n ks lev l b;kernel_rfl
 ·intro L;kernel_rfl
 ·intro n ks lev l;kernel_rfl
 ·intro ks lev l i;kernel_rfl
 ·intro ks lev l i n kk h
  unfold Qy
  refine(Option.bind_eq_some_iff).2 ⟨_,(show Y3 _ _ _ _=some [⟨some 19,.iaddr 10 (.t 15) (.t 17),0,none⟩,⟨some 20,.load true [.int .i64,.int .i64,.str,.int .i64,.str,.sl 1,.sl 1,.sl 2,.sl 1,.sl 10] (.t 19),0,none⟩,⟨some 8,.alloc (.agg [.int .i64 0,.int .i64 0,.str [],.int .i64 0,.str [],.sl 0 true [],.sl 0 true [],.sl 0 true [],.sl 0 true [],.sl 0 true []]),0,none⟩,⟨none,.store 10 (.t 8) (.t 20),1,none⟩] by kernel_rfl),?_⟩
  have hk:(ks.map (enc:Tm->PV))[i]? = some (.agg (ndC n kk)):=by
   rw[List.getElem?_map,h,Option.map_some,Zx];rfl
  refine(O5 (t:=false) (xs:=ks.map enc) (k:=.i64) (n:=i) rfl rfl hk).trans ?_
  kernel_rfl
 ·intro ks lev l i n kk;kernel_rfl
 ·intro ks lev l i b;kernel_rfl
 ·intro L;kernel_rfl
 ·intro ks lev l i;kernel_rfl
 ·intro L;kernel_rfl
def encNd(x:Tm×Int):List PV:=[enc x.1,.int .i64 x.2]
def Et(J:Nat->Zv->(Nat->Prop)->World->Prop)(Jx:Zv->(Nat->Prop)->World->Prop)(k:Nat)(Φ:Zv)(X:Nat->Prop)(W:World)(e:Ending)(W':World):Prop:=
 ∃ Φ',Φ.le Φ'∧(∀ b,X b->W'.heap[b]? = W.heap[b]?)∧((e = .returned (.bool true)∧J k Φ' X W')∨(e = .returned (.bool false)∧Jx Φ' X W'))
theorem QQ(a b:List Tm):Zo (a++b)=Zo a+Zo b:=by rw[J2,J2,J2,List.map_append,List.sum_append]
theorem Lr(l:Nat)(a b:List Tm):ZT l (a++b)=ZT l a++ZT l b:=by rw[Qz,Qz,Qz,List.flatMap_append]
theorem Ec{ks:List Tm}{k:Tm}(h:k∈ks):Zk k<=Zo ks:=by
 induction ks with
 | nil=>cases h
 | cons a ks ih=>
  rw[Zo]
  rcases List.mem_cons.1 h with rfl|h
  ·omega
  ·have:=ih h;omega
theorem a5i(t:Tm):1<=Zk t:=by cases t;rw[Zk];omega
theorem Ee(ks:List Tm):ks.length<=Zo ks:=by
 induction ks with
 | nil=>simp
 | cons a ks ih=>have:=a5i a;rw[Zo,List.length_cons];omega
theorem Gb(n:Nd)(ks:List Tm):Ew (bx n ks):=by
 intro l o h ty sz xs e
 subst e
 match l,h with
 | 0,h=>cases h
 | l+1,h=>simp[bx]at h
theorem U5:Ew []:=by
 intro l o h
 simp at h
theorem QC{Φ:Zv}{W:World}{a:Act}{env:List AV}(hg:GlobOK Φ)(hp:Yn Φ W)(he:YQ (fun _ _=>none) Φ a.tmps env)(hd:a.defers=[]):XU (ZZ (fun _ _=>none) Φ [] W) ⟨env,[]⟩ a W:=⟨_,Φ,Vj hg hp,he,hd⟩
theorem Vo{μ':Mu}{Φ Φ':Zv}{σ':Zp}{W W':World}{X:Nat->Prop}(j1:Go.Pl.Good (ZZ (fun _ _=>none) Φ [] W) μ' Φ' σ' W')(hs:Ew σ')(hx : ∀ b,X b->b<W.heap.size∧Φ b=none):
  Go.Pl.Steps X X Φ Φ' W W'∧(∀ b,X b->W'.heap[b]? = W.heap[b]?):=by
 obtain⟨h1,h2,h3⟩:=TL j1 hs hx
 exact⟨h1.drop fun b h=>.inl h,h2⟩
theorem Qj{μ:Mu}{Φ:Zv}{a:Act}{env:List AV}{x:Operand}{y:IOp}{b:Bool}(h:YQ μ Φ a.tmps env)(hx:Ya x=some y)(he:ev env y = .pv (.bool b)):a.eval x = .bool b:=by
 have:=ZK h hx
 rw[he]at this
 generalize a.eval x=v at this ⊢
 cases Z0 this
 rfl
theorem d1r{μ:Mu}{Φ:Zv}{a:Act}{env:List AV}{x:Operand}{y:IOp}{k:IntKind}{n:Int}(h:YQ μ Φ a.tmps env)(hx:Ya x=some y)(he:ev env y = .pv (.int k n)):a.eval x = .int k n:=by
 have:=ZK h hx
 rw[he]at this
 generalize a.eval x=v at this ⊢
 cases Z0 this
 rfl
theorem Oj{μ:Mu}{Φ:Zv}{a:Act}{env:List AV}{x:Operand}{y:IOp}{l:Nat}(h:YQ μ Φ a.tmps env)(hx:Ya x=some y)(he:ev env y = .yld l):a.eval x = .func (.yield l) #[] #[]:=by
 have:=ZK h hx
 rw[he]at this
 generalize a.eval x=v at this ⊢
 cases this
 rfl
theorem a2v{μ:Mu}{Φ:Zv}{a:Act}{env:List AV}{x:Operand}{y:IOp}{p:PV}(h:YQ μ Φ a.tmps env)(hx:Ya x=some y)(he:ev env y = .pv p):RP Φ (a.eval x) p:=by
 have:=ZK h hx
 rw[he]at this
 exact Z0 this
theorem d2s{id:Nat}{ops:Array Oper}{b:Bool}{Q:YM}{a:Act}{w:World}{Φ:Zv}{X:Nat->Prop}{J:Zv->(Nat->Prop)->World->Prop}(hJ:JOK J)(hj:J Φ X w)(hd:a.defers=[])(hsz:a.tmps.size=28)
  (h : ∀ L,Qy Tryz.prog wkT ops ops.toList ⟨eW L,[]⟩=some ⟨(eW L).set 6 (.pv (.bool b)),[]⟩)
  (hQ : ∀ (a':Act) w' Φ',a'.defers=[]->a'.tmps.getD 6 undef = .bool b->Φ.le Φ'->(∀ b,X b->w'.heap[b]? = w.heap[b]?)->J Φ' X w'->Q .ret a' w'):((Code.region id ops false).seq .ret).wpIn (YF none) 4 Tryz.prog Q a w:=by
 refine wpIn_seq (GU Zf (h []) (QC (hJ.glob hj) (hJ.phi hj) (RH (L:=[]) (n:=28) hsz (fun p hp=>by cases hp)) hd) ?_)
 rintro a' w' ⟨μ',Φ',hg,he,hd'⟩
 refine wpIn_ret ?_
 obtain⟨s1,s2⟩:=Vo hg U5 (fun b hb=>hJ.out hj hb)
 exact hQ a' w' Φ' hd' (Qj (x:=.tmp 6) (y:=.t 6) he rfl (by cases b <;> kernel_rfl)) hg.Φle s2 (hJ.step hj s1)
theorem d8u{Φ:Zv}{v:Value}{n:Nd}{ks:List Tm}{lev:Nat}{l:Nat}(hv:RP Φ v (.agg (ndC n ks))):YQ (fun _ _=>none) Φ (#[v,.int .i64 lev,.func (.yield l) #[] #[]]++Array.replicate 25 undef) (eW (wk0 n ks lev l)):=by
 refine RH (by simp) ?_
 intro q hq u hu
 simp only[wk0,List.mem_cons,List.not_mem_nil,or_false]at hq
 rcases hq with rfl|rfl|rfl
 ·simp[Array.getElem?_append]at hu
  subst hu
  exact .pv _ _ hv
 ·simp[Array.getElem?_append]at hu
  subst hu
  exact .pv _ _ (.int _ _)
 ·simp[Array.getElem?_append]at hu
  subst hu
  exact .yld l
theorem OC{μ:Mu}{Φ:Zv}{t:Array Value}{L:List (Nat×AV)}(h:YQ μ Φ t (eW L)):t.size=28:=(Be (n:=28) h).1
set_option maxHeartbeats 4000000 in
theorem c0g{l:Nat}{J:Nat->Zv->(Nat->Prop)->World->Prop}{Jx:Zv->(Nat->Prop)->World->Prop}{xs:List (Tm×Int)}(hJok : ∀ k,JOK (J k))(hJxok:JOK Jx)(hY:a0a Tryz.prog l encNd xs J Jx):
  ∀ (m:Nat) (t:Tm),SizeOf.sizeOf t<m-> ∀ (lev k:Nat) (Φ:Zv) (X:Nat->Prop) (W:World) (v:Value),J k Φ X W->RP Φ v (enc t)->(∀ i x,(Zt lev t)[i]? = some x->xs[k+i]? = some x)->lev+Zk t<=4611686018427387904 ->
   Calls Tryz.prog 81 #[v,.int .i64 lev,.func (.yield l) #[] #[]] W (Et J Jx (k+Zk t) Φ X W):=by
 intro m
 induction m with
 | zero=>intro t h;omega
 | succ m ih=>
  intro t ht lev k Φ X W v hj hv hx hlev
  obtain⟨n,ks⟩:=t
  obtain⟨o0,o1,o2,o3,o4,o5,o6,o7,o8,o9,a1,b1,a6,b6,y,c,t1,t2,hbody,e1,y1,y2,y3,e6,c1,c2,c3,h0,h1,h1b,h2,h3,h4,h5,h6,h6b,h7,h8,h9⟩:=d2z
  rw[Zx]at hv
  refine callsIn_wide.1 (callsIn_of_wp (F:=Fence.wide) (n:=4) Tryz.func81 hbody trivial ?_ rfl)
  have hE0:YQ (fun _ _=>none) Φ (#[v,.int .i64 lev,.func (.yield l) #[] #[]]++Array.replicate 25 undef) (eW (wk0 n ks lev l)):=d8u hv
  have hX0 : ∀ b,X b->b<W.heap.size∧Φ b=none:=fun b hb=>(hJok k).out hj hb
  refine wpIn_seq (GU (nn:=4) Zf (h0 n ks lev l) (QC ((hJok k).glob hj) ((hJok k).phi hj) hE0 rfl) ?_)
  intro a w hr
  refine wpIn_seq (wpIn_seq (wpIn_region_list ?_))
  rw[e1]
  refine Jz Zf (fun o ho=>by rw[e1];simp[ho]) (h1 n ks lev l) hr ?_
  rintro a2 w2 ⟨μ2,Φ2,hg2,he2,hd2⟩
  obtain⟨s2,k2,n2⟩:=TL hg2 (Gb n ks) hX0
  have hj2:=(hJok k).step hj s2
  have hx0:xs[k]? = some (.mk n ks,(lev:Int)):=hx 0 _ (by rw[Zt];rfl)
  have r10:RP Φ2 (a2.eval (.tmp 10)) (enc (Tm.mk n ks)):=by
   rw[Zx]
   exact a2v he2 (y:=.t 10) rfl (by kernel_rfl)
  have r11:RP Φ2 (a2.eval (.tmp 11)) (.int .i64 lev):=a2v he2 (y:=.t 11) rfl (by kernel_rfl)
  have hvs:XT Φ2 (#[a2.eval (.tmp 10),a2.eval (.tmp 11)]:Array Value).toList (encNd (.mk n ks,(lev:Int))):=d1k r10 (d1k r11 a1q)
  refine b7s y1 y2 y3 (Oj he2 (y:=.t 9) rfl (by kernel_rfl)) (vs:=#[a2.eval (.tmp 10),a2.eval (.tmp 11)]) (by simp) (hY 3 k _ Φ2 _ w2 _ hx0 hj2 hvs) ?_
  rintro e w3 ⟨Φ3,hle3,hkeep3,hres⟩
  -- both answers
  have both : ∀ (b:Bool) (JJ:Zv->(Nat->Prop)->World->Prop),JOK JJ->JJ Φ3 (fun b=>X b∨Gv μ2 (bx n ks) b) w3-> 
    XU (ZZ μ2 Φ3 (bx n ks) w3) ⟨eW (wk3 n ks lev l b),bx n ks⟩ (a2.put (some 12) (.bool b)) w3:=by
   intro b JJ hJJ hjj
   refine⟨μ2,Φ3,hg2.moved (hJJ.glob hjj) hle3 (hJJ.phi hjj) (fun q hq=>hkeep3 q (.inr hq)) (fun q hq=>(hJJ.out hjj (.inr hq)).2) (Gb n ks),?_,by rw[XN];exact hd2⟩
   have:=Qx (d:=some 12) (he2.mono (.refl _) hle3) (.pv _ _ (.bool b))
   exact this
  have fin : ∀ (b:Bool) (a':Act) (w':World) (Φ':Zv),a'.defers=[]->a'.tmps.getD 6 undef = .bool b->(Et J Jx (k+Zk (.mk n ks)) Φ X W (.returned (.bool b)) w')->bodyPost Tryz.prog Tryz.f81 (Et J Jx (k+Zk (.mk n ks)) Φ X W) .ret a' w':=by
   intro b a' w' Φ' hd h6 hp
   refine bodyPost_ret (results_tmp rfl _ _ _) hd ?_
   rw[h6]
   exact hp
  rcases hres with ⟨rfl,hj3⟩|⟨rfl,hj3⟩
  ·refine⟨_,rfl,?_⟩
   rw[<- List.append_nil b1]
   refine Jz Zf (fun o ho=>by rw[e1];simp[ho]) (h1b n ks lev l true) (both true _ (hJok _) hj3) ?_
   intro a4 w4 hr4
   have he4:=hr4
   obtain⟨μ4,Φ4,hg4,he4,hd4⟩:=he4
   refine wpIn_cond (t:=false) (Qj (x:=.tmp 13) (y:=.t 13) he4 rfl (by kernel_rfl)) (wpIn_skip ?_)
   refine wpIn_seq (wpIn_seq (GU (nn:=4) Zf (h3 n ks lev l) hr4 ?_))
   rintro a5 w5 ⟨μ5,Φ5,hg5,he5,hd5⟩
   have hX3 : ∀ b,X b->b<w3.heap.size∧Φ3 b=none:=fun b hb=>(hJok _).out hj3 (.inl hb)
   obtain⟨s5,k5⟩:=Dn hg5 (Gb n ks) hX3 n2
   have hj5:=(hJok _).step hj3 (s5.drop (Y:=X) fun b h=>.inl h)
   have hk5 : ∀ b,X b->w5.heap[b]? = W.heap[b]? :=fun b hb=>(k5 b hb).trans ((hkeep3 b (.inl hb)).trans (k2 b hb))
   have hle5:Φ.le Φ5:=hg2.Φle.trans (hle3.trans hg5.Φle)
   have he5':YQ (fun _ _=>none) Φ5 a5.tmps (eW (wl0 ks lev l 0)):=c5t (n:=28) he5 (.refl _) (by
    intro p hp
    simp only[wl0,List.mem_cons,List.not_mem_nil,or_false]at hp
    rcases hp with rfl|rfl|rfl|rfl|rfl <;> exact⟨by simp,rfl,rfl⟩)
   clear both hr4 hg4 he4 hd4 hE0 hr hg2 he2 hd2 r10 r11 hvs
   refine wpIn_block (wpIn_loop_ghost (fun(z:Nat) (a:Act) (w:World)=> ∃ (i:Nat) (Φ':Zv),z=ks.length - i∧i<=ks.length∧Φ.le Φ'∧(∀ b,X b->w.heap[b]? = W.heap[b]?)∧J (k+1+Zo (ks.take i)) Φ' X w∧YQ (fun _ _=>none) Φ' a.tmps (eW (wl0 ks lev l i))∧a.defers=[]) _
    ⟨0,Φ5,rfl,Nat.zero_le _,hle5,hk5,hj5,he5',hd5⟩ ?_)
   clear hj5 hk5 hle5 he5' hd5 s5 k5 hg5 he5
   rintro z a w ⟨i,Φi,rfl,hi,hle,hk,hj,he,hd⟩
   have hXi : ∀ b,X b->b<w.heap.size∧Φi b=none:=fun b hb=>(hJok _).out hj hb
   refine wpIn_seq (GU (nn:=4) Zf (h4 ks lev l i) (QC ((hJok _).glob hj) ((hJok _).phi hj) he hd) ?_)
   intro a7 w7 hr7
   have hr7':=hr7
   obtain⟨μ7,Φ7,hg7,he7,hd7⟩:=hr7'
   by_cases hlt:i<ks.length
   ·have hb:decide ((i:Int)<((ks.map (enc:Tm->PV)).length:Int))=true:=by simpa using hlt
    refine wpIn_seq (wpIn_cond (t:=true) (Qj (x:=.tmp 18) (y:=.t 18) he7 rfl (by rw[<- hb];kernel_rfl)) (wpIn_skip ?_))
    obtain⟨kn,kk,hkk⟩ : ∃ kn kk,ks[i]? = some (.mk kn kk):=by
     cases hki:ks[i]with
     | mk kn kk=>exact⟨kn,kk,by rw[List.getElem?_eq_getElem hlt,hki]⟩
    refine wpIn_seq (wpIn_block (wpIn_seq (GU (nn:=4) Zf (h5 ks lev l i kn kk hkk) hr7 ?_)))
    intro a8 w8 hr8
    refine wpIn_seq (wpIn_region_list ?_)
    rw[e6]
    refine Jz Zf (fun o ho=>by rw[e6];simp[ho]) (h6 ks lev l i kn kk) hr8 ?_
    rintro a9 w9 ⟨μ9,Φ9,hg9,he9,hd9⟩
    obtain⟨s9,k9⟩:=Vo hg9 (Gb kn kk) hXi
    have hj9:=(hJok _).step hj s9
    have hmem:Tm.mk kn kk∈ks:=List.mem_of_getElem? hkk
    have hsz:=F7 (n:=n) hmem
    have hdm:=Ec hmem
    have hdp:Zk (.mk n ks)=Zo ks+1:=by rw[Zk]
    have hkl:=Ee ks
    have hcut:ks=ks.take i++(.mk kn kk)::ks.drop (i+1):=by
     have h:=List.getElem?_eq_some_iff.1 hkk
     obtain⟨h1,h2⟩:=h
     rw[<- h2,List.getElem_cons_drop,List.take_append_drop]
    have r21:RP Φ9 (a9.eval (.tmp 21)) (enc (Tm.mk kn kk)):=by
     rw[Zx]
     exact a2v he9 (y:=.t 21) rfl (by kernel_rfl)
    have e23:a9.eval (.tmp 23) = .int .i64 ((lev+1:Nat):Int):=by
     have:=d1r (x:=.tmp 23) (y:=.t 23) he9 rfl (by kernel_rfl:_=AV.pv (.int .i64 (IntKind.i64.wrap ((lev:Int)+1))))
     rw[this,next (by omega)]
    have e24:a9.eval (.tmp 24) = .func (.yield l) #[] #[]:=Oj he9 (y:=.t 24) rfl (by kernel_rfl)
    have hxk : ∀ j x,(Zt (lev+1) (.mk kn kk))[j]? = some x->xs[k+1+Zo (ks.take i)+j]? = some x:=by
     intro j x hjx
     have:(Zt lev (.mk n ks))[1+Zo (ks.take i)+j]? = some x:=by
      rw[Zt,show 1+Zo (ks.take i)+j=(Zo (ks.take i)+j)+1 by omega,List.getElem?_cons_succ,hcut,Lr,ZT,<- hcut,<- JI (lev+1) (ks.take i),
       List.getElem?_append_right (by omega),Nat.add_sub_cancel_left,List.getElem?_append_left (List.getElem?_eq_some_iff.1 hjx).1,hjx]
     have:=hx _ _ this
     rw[<- this]
     congr 1
     omega
    have hcall:=ih (.mk kn kk) (by omega) (lev+1) (k+1+Zo (ks.take i)) Φ9 X w9 _ hj9 r21 hxk (by omega)
    refine Fs c1 c2 c3 Tryz.func81 rfl (by kernel_rfl) (vs:=#[a9.eval (.tmp 21),.int .i64 ((lev+1:Nat):Int),.func (.yield l) #[] #[]]) (by simp only[List.map_toArray,List.map_cons,List.map_nil,e23,e24]) hcall ?_
    rintro e w10 ⟨Φ10,hle10,hkeep10,hres⟩
    have hks : ∀ b,X b->w10.heap[b]? = W.heap[b]? :=fun b hb=>(hkeep10 b hb).trans ((k9 b hb).trans (hk b hb))
    have he10 : ∀ b,YQ (fun _ _=>none) Φ10 (a9.put (some 25) (.bool b)).tmps (eW (wl7 ks lev l i b)):=by
     intro b
     have h:=Qx (d:=some 25) (he9.mono (.refl _) hle10) (.pv _ _ (.bool b))
     refine c5t (n:=28) (L:=wl6 ks lev l i kn kk++[(25,.pv (.bool b))]) h (.refl _) ?_
     intro p hp
     simp only[wl7,wl0,List.mem_cons,List.mem_append,List.not_mem_nil,or_false]at hp
     rcases hp with (rfl|rfl|rfl|rfl|rfl)|rfl <;> exact⟨by simp,rfl,rfl⟩
    have hsz10:ks.take (i+1)=ks.take i++[.mk kn kk]:=by rw[List.take_add_one,hkk];rfl
    rcases hres with ⟨rfl,hj10⟩|⟨rfl,hj10⟩
    ·refine⟨_,rfl,?_⟩
     rw[<- List.append_nil b6]
     refine Jz Zf (fun o ho=>by rw[e6];simp[ho]) (h6b ks lev l i true) (QC ((hJok _).glob hj10) ((hJok _).phi hj10) (he10 true) (by rw[XN];exact hd9)) ?_
     intro a11 w11 hr11
     obtain⟨μ11,Φ11,hg11,he11,hd11⟩:=hr11
     obtain⟨s11,k11⟩:=Vo hg11 U5 (fun b hb=>(hJok _).out hj10 hb)
     have hj11:=(hJok _).step hj10 s11
     refine wpIn_cond (t:=false) (Qj (x:=.tmp 26) (y:=.t 26) he11 rfl (by kernel_rfl)) (wpIn_skip ?_)
     have he11':YQ (fun _ _=>none) Φ11 a11.tmps (eW (wl0 ks lev l i)):=c5t (n:=28) he11 (.refl _) (by
      intro p hp
      simp only[wl0,List.mem_cons,List.not_mem_nil,or_false]at hp
      rcases hp with rfl|rfl|rfl|rfl|rfl <;> exact⟨by simp,rfl,rfl⟩)
     refine GU (nn:=4) Zf (h8 ks lev l i) (QC ((hJok _).glob hj11) ((hJok _).phi hj11) he11' hd11) ?_
     rintro a12 w12 ⟨μ12,Φ12,hg12,he12,hd12⟩
     obtain⟨s12,k12⟩:=Vo hg12 U5 (fun b hb=>(hJok _).out hj11 hb)
     have hj12:=(hJok _).step hj11 s12
     refine⟨ks.length - (i+1),by omega,i+1,Φ12,rfl,hlt,hle.trans (hg9.Φle.trans (hle10.trans (hg11.Φle.trans hg12.Φle))),fun b hb=>(k12 b hb).trans ((k11 b hb).trans (hks b hb)),?_,?_,hd12⟩
     ·rw[hsz10,QQ,Zo,Zo,Nat.add_zero,<- Nat.add_assoc]
      exact hj12
     ·refine c5t (n:=28) he12 (.refl _) ?_
      intro p hp
      simp only[wl0,List.mem_cons,List.not_mem_nil,or_false]at hp
      rcases hp with rfl|rfl|rfl|rfl|rfl
      ·exact⟨by simp,by rw[<- next (show i<9223372036854775807 by omega)];rfl,rfl⟩
      all_goals exact⟨by simp,rfl,rfl⟩
    ·refine⟨_,rfl,?_⟩
     rw[<- List.append_nil b6]
     refine Jz Zf (fun o ho=>by rw[e6];simp[ho]) (h6b ks lev l i false) (QC (hJxok.glob hj10) (hJxok.phi hj10) (he10 false) (by rw[XN];exact hd9)) ?_
     rintro a11 w11 ⟨μ11,Φ11,hg11,he11,hd11⟩
     obtain⟨s11,k11⟩:=Vo hg11 U5 (fun b hb=>hJxok.out hj10 hb)
     have hj11:=hJxok.step hj10 s11
     refine wpIn_cond (t:=true) (Qj (x:=.tmp 26) (y:=.t 26) he11 rfl (by kernel_rfl)) ?_
     refine d2s hJxok hj11 hd11 (OC he11) h7 ?_
     intro a' w' Φ' hd' h6' hle' hk' hj'
     refine fin false a' w' Φ' hd' h6' ⟨Φ',?_,fun b hb=>(hk' b hb).trans ((k11 b hb).trans (hks b hb)),.inr ⟨rfl,hj'⟩⟩
     exact hle.trans (hg9.Φle.trans (hle10.trans (hg11.Φle.trans hle')))
   ·have hb:decide ((i:Int)<((ks.map (enc:Tm->PV)).length:Int))=false:=by simpa using hlt
    refine wpIn_seq (wpIn_cond (t:=false) (Qj (x:=.tmp 18) (y:=.t 18) he7 rfl (by rw[<- hb];kernel_rfl)) (wpIn_exit ?_))
    obtain⟨s7,k7⟩:=Vo hg7 U5 hXi
    have hj7:=(hJok _).step hj s7
    have hii:i=ks.length:=by omega
    subst hii
    rw[List.take_length]at hj7
    show((Code.region 9 o9 false).seq .ret).wpIn _ _ _ _ _ _
    refine d2s (hJok _) hj7 hd7 (OC he7) h9 ?_
    intro a' w' Φ' hd' h6' hle' hk' hj'
    refine fin true a' w' Φ' hd' h6' ⟨Φ',hle.trans (hg7.Φle.trans hle'),fun b hb=>(hk' b hb).trans ((k7 b hb).trans (hk b hb)),.inl ⟨rfl,?_⟩⟩
    rw[Zk,show k+(Zo ks+1)=k+1+Zo ks by omega]
    exact hj'
  ·refine⟨_,rfl,?_⟩
   rw[<- List.append_nil b1]
   refine Jz Zf (fun o ho=>by rw[e1];simp[ho]) (h1b n ks lev l false) (both false _ hJxok hj3) ?_
   rintro a4 w4 ⟨μ4,Φ4,hg4,he4,hd4⟩
   refine wpIn_cond (t:=true) (Qj (x:=.tmp 13) (y:=.t 13) he4 rfl (by kernel_rfl)) ?_
   obtain⟨s4,k4⟩:=Dn hg4 (Gb n ks) (fun b hb=>hJxok.out hj3 (.inl hb)) n2
   have hj4:=hJxok.step hj3 (s4.drop (Y:=X) fun b h=>.inl h)
   refine d2s hJxok hj4 hd4 (OC he4) h2 ?_
   intro a' w' Φ' hd' h6' hle' hk' hj'
   exact fin false a' w' Φ' hd' h6' ⟨Φ',hg2.Φle.trans (hle3.trans (hg4.Φle.trans hle')),fun b hb=>(hk' b hb).trans ((k4 b hb).trans ((hkeep3 b (.inl hb)).trans (k2 b hb))),.inr ⟨rfl,hj'⟩⟩
def d5a(pss:List (List PV)):Tm:=match pss with
 | [ps]=>dec (.agg ps)
 | _=>.mk nd0 []
noncomputable def pre_ndI(pss:List (List PV)):Bool:=match pss with
 | [ps]=>FH Tm (.agg ps)&&decide (Zk (dec (.agg ps))<=1048576)
 | _=>false
def F_ndI(pss:List (List PV)):List (Tm×Int):=Zt 1 (d5a pss)
theorem tmOf_nd(n:Nd)(ks:List Tm):d5a [ndC n ks] = .mk n ks:=by
 show dec (PV.agg (ndC n ks))=_
 rw[show(PV.agg (ndC n ks))=enc (Tm.mk n ks)from(Zx n ks).symm,Enc.dec_enc]
theorem pre_nd{n:Nd}{ks:List Tm}(h:Zk (.mk n ks)<=1048576):pre_ndI [ndC n ks]=true:=by
 show(FH Tm (.agg (ndC n ks))&&decide (Zk (dec (PV.agg (ndC n ks)))<=1048576))=true
 rw[show(PV.agg (ndC n ks))=enc (Tm.mk n ks)from(Zx n ks).symm,Enc.dec_enc,Vr,Bool.true_and]
 exact decide_eq_true h
theorem d2f: ∃ (o:Array Oper) (a:List Oper) (c:Oper) (t:Array TypeId),Tryz.f80.body=some (.region 0 o false)∧o.toList=a++[c] ∧
  c.op = .call {callee:=.value (.func 81),args:=#[.tmp 3,.const (.int .i64 1),.tmp 4],argTypes:=t}∧c.guard=none∧c.dst=some 5 ∧
  ∀ n ks l,Qy Tryz.prog wkT o a ⟨ZB 6 0 [(0,.yld l),(1,.pv (.rptr (ndC n ks)))],[]⟩=some ⟨ZB 6 0 [(0,.yld l),(1,.pv (.rptr (ndC n ks))),(3,.pv (.agg (ndC n ks))),(4,.yld l)],[]⟩:=by
 refine⟨_,[_,_],_,_,rfl,rfl,rfl,rfl,rfl,?_⟩
 intro n ks l
 kernel_rfl
set_option maxHeartbeats 1000000 in
theorem UZ:a8s Tryz.prog 80 encNd pre_ndI F_ndI:=by
 refine⟨⟨_,Tryz.func80,rfl,rfl⟩,?_⟩
 intro pss hpre Φ0 lb l J Jx W hcaps hJok hJxok hY h0
 unfold pre_ndI at hpre
 split at hpre
 ·rename_i ps
  simp only[Bool.and_eq_true,decide_eq_true_eq]at hpre
  obtain⟨hc,hsz⟩:=hpre
  obtain⟨t,ht⟩:=PM hc
  obtain⟨n,ks⟩:=t
  rw[ht,Enc.dec_enc]at hsz
  rw[Zx]at ht
  obtain rfl:ps=ndC n ks:=by injection ht
  have hF:F_ndI [ndC n ks]=Zt 1 (.mk n ks):=by unfold F_ndI;rw[tmOf_nd]
  rw[hF]at hY ⊢
  obtain⟨lb⟩:=lb
  match lb,hcaps.1 with
  | [p1],_=>
   obtain⟨B1,c1,rfl,g1,r1,o1⟩:=hcaps.2 0 p1 _ rfl rfl
   have k1:=a5m g1 r1 o1
   obtain⟨o,a,c,t,hbody,e1,c1,c2,c3,hgo⟩:=d2f
   refine callsIn_wide.1 (callsIn_of_wp (F:=Fence.wide) (n:=4) Tryz.func80 hbody trivial ?_ rfl)
   have hE:YQ (fun _ _=>none) Φ0 ((#[Value.func (.yield l) #[] #[]]++ #[Value.pointer (some ⟨B1,0,none⟩)])++Array.replicate 4 undef) (ZB 6 0 [(0,.yld l),(1,.pv (.rptr (ndC n ks)))]):=by
    refine RH (by simp) ?_
    intro q hq u hu
    simp only[List.mem_cons,List.not_mem_nil,or_false]at hq
    rcases hq with rfl|rfl
    ·simp[Array.getElem?_append]at hu
     subst hu
     exact .yld l
    ·simp[Array.getElem?_append]at hu
     subst hu
     exact .pv _ _ k1
   refine wpIn_region_list ?_
   rw[e1]
   refine Jz (nn:=4) Zf (fun x hx=>by rw[e1];simp[hx]) (hgo n ks l) (QC ((hJok 0).glob h0) ((hJok 0).phi h0) hE rfl) ?_
   rintro a2 w2 ⟨μ2,Φ2,hg2,he2,hd2⟩
   obtain⟨s2,k2⟩:=Vo (X:=fun _=>False) hg2 U5 (fun b hb=>hb.elim)
   have hj2:=(hJok _).step h0 s2
   have r3:RP Φ2 (a2.eval (.tmp 3)) (enc (Tm.mk n ks)):=by
    rw[Zx]
    exact a2v he2 (y:=.t 3) rfl (by kernel_rfl)
   have e4:a2.eval (.tmp 4) = .func (.yield l) #[] #[]:=Oj he2 (y:=.t 4) rfl (by kernel_rfl)
   have hcall:=c0g hJok hJxok hY (SizeOf.sizeOf (Tm.mk n ks)+1) (.mk n ks) (Nat.lt_succ_self _) 1 0 Φ2 _ w2 _ hj2 r3 (fun i x h=>by rw[Nat.zero_add];exact h) (by omega)
   refine Fs c1 c2 c3 Tryz.func81 rfl (by kernel_rfl) (vs:=#[a2.eval (.tmp 3),.int .i64 ((1:Nat):Int),.func (.yield l) #[] #[]]) (by simp only[List.map_toArray,List.map_cons,List.map_nil,e4];rfl) hcall ?_
   rintro e w3 ⟨Φ3,hle3,hkeep3,hres⟩
   have fin : ∀ v,(∃ Φ' X',J (Zt 1 (.mk n ks)).length Φ' X' w3∨Jx Φ' X' w3)->wpListIn (YF none) 4 Tryz.prog o (bodyPost Tryz.prog Tryz.f80 fun e W'=>(∃ v,e = .returned v)∧ ∃ Φ' X',(J (Zt 1 (.mk n ks)).length Φ' X' W'∨Jx Φ' X' W')) [] (a2.put (some 5) v) w3:=by
    intro v hv
    exact⟨by rw[XN];exact hd2,_,results_none rfl _ _ _,⟨_,rfl⟩,hv⟩
   rcases hres with ⟨rfl,hj3⟩|⟨rfl,hj3⟩
   ·refine⟨_,rfl,fin _ ⟨Φ3,fun _=>False,.inl ?_⟩⟩
    rw[XV,<- Nat.zero_add (Zk _)]
    exact hj3
   ·exact⟨_,rfl,fin _ ⟨Φ3,_,.inr hj3⟩⟩
 ·cases hpre
end Go.Proofs.YtgdebdgkofkeeaaGreatDoor
namespace Go.Pl
open Go.RowKit
open Enc (enc dec is)
open EncL (encL decL isL)
open Go.Proofs.YtgdebdgkofkeeaaGreatDoor (encNd pre_ndI F_ndI tmOf_nd pre_nd)
theorem b1x: ∀ args os,Yf args os=true->Zc Oi os.length (Yi os.length Pk fun r=>r=YE 80 args os) PG [] (Wh c6q args os):=by
 intro args os h
 unfold Yf at h
 split at h
 ·obtain⟨⟨n,ks⟩,rfl⟩:=PM h
  rw[Zx]
  exact d1i n ks rfl
 ·cases h
def tvI(t:Tm)(k:Nat)(σ:Zp):Prop:=(∀ j p,j<k->(Zt 1 t)[j]? = some p->okN j p=true)∧k<=400∧σ=[.obj (.box [.pv (.bool false)]),.obj (.box [.pv (.int .i64 k)])]
def tvX(t:Tm)(σ:Zp):Prop:=Ue t=false∧ ∃ (c:Int) (r:List Slot),σ = .obj (.box [.pv (.bool false)]):: .obj (.box [.pv (.int .i64 c)])::r
def tvE:YA:=fun n st q=>n=0∧Jk Jc 0 (.t 7) 80 [8,9] Bp Au encNd pre_ndI F_ndI st q
def tvM(t:Tm)(k:Nat)(x:Tm×Int)(st:St):Prop:=(∀ j p,j<k->(Zt 1 t)[j]? = some p->okN j p=true)∧k<=400 ∧
 st=⟨ZB 23 0 [(2,.ptr 0 0),(3,.ptr 1 0),(4,.ptr 2 0),(5,.pv (.int .i64 x.2))],[.obj (.box [.pv (.bool false)]),.obj (.box [.pv (.int .i64 k)]),.obj (.box ((Go.Proofs.YtgdebdgkofkeeaaGreatDoor.ndC x.1.nd x.1.ks).map .pv))]⟩
theorem c2q: ∀ x:Tm×Unit,tW x.1=true->Vb Jc tvE 0 (Zb JP (Zm (Ue x.1))) GG [] (ZY d4p (encL x)):=by
 rintro⟨t,⟨⟩⟩ ht
 have ht:tW t=true:=ht
 obtain⟨n,ks⟩:=t
 rw[<- XX]
 show Vb Jc tvE 0 (Zb JP (Zm (Ue (.mk n ks)))) _ _ _
 have hsz:Zk (.mk n ks)<=1048576:=Nat.le_trans (Vw _) (of_decide_eq_true ht)
 have hF:F_ndI [Go.Proofs.YtgdebdgkofkeeaaGreatDoor.ndC n ks]=Zt 1 (.mk n ks):=by unfold F_ndI;rw[tmOf_nd]
 refine d6n tvE n ks ⟨?_,rfl,[2],[Go.Proofs.YtgdebdgkofkeeaaGreatDoor.ndC n ks],[2,3],[2,3,4,5],[],⟨ZB 23 0 [(2,.ptr 0 0),(3,.ptr 1 0)],[.obj (.box [.pv (.bool false)]),.obj (.box [.pv (.int .i64 0)])]⟩,tvI (.mk n ks),tvX (.mk n ks),tvM (.mk n ks),
  rfl,by simp,rfl,?_,by kernel_rfl,pre_nd hsz,⟨fun j p hj=>by omega,by omega,rfl⟩,?_,?_,?_,?_⟩
 ·show FH Tm (PV.agg (Go.Proofs.YtgdebdgkofkeeaaGreatDoor.ndC n ks))=true
  rw[show(PV.agg (Go.Proofs.YtgdebdgkofkeeaaGreatDoor.ndC n ks))=enc (Tm.mk n ks)from(Zx n ks).symm,Vr]
 ·intro j l ps hl hps
  match j with
  | 0=>cases hl;cases hps;rfl
  | j+1=>simp at hl
 ·rintro k ⟨⟨xn,xk⟩,v⟩ σ hx ⟨hall,hk,rfl⟩
  have e:QF [8,9] ((encNd (.mk xn xk,v)).map .pv) (ZB 23 0 [(2,.ptr 0 0),(3,.ptr 1 0)])=ZB 23 0 [(2,.ptr 0 0),(3,.ptr 1 0),(8,.pv (.agg (Go.Proofs.YtgdebdgkofkeeaaGreatDoor.ndC xn xk))),(9,.pv (.int .i64 v))]:=by
   show QF [8,9] (([enc (Tm.mk xn xk),.int .i64 v]).map .pv) _=_
   rw[Zx]
   kernel_rfl
  rw[e]
  exact d1v (G:=fun _=>False) _ xn xk k v ⟨rfl,hall,hk,rfl⟩
 ·rintro k ⟨⟨xn,xk⟩,v⟩ st hx ⟨hall,hk,rfl⟩
  rw[hF]at hx
  have hno:=fun h=>b1k (.mk n ks) hx h
  have hw:IntKind.i64.wrap ((k:Int)+1)=((k+1:Nat):Int):=next (by omega)
  refine d3a (G:=tvX (.mk n ks)) _ xn xk k v ?_
  rw[hw]
  have bad:okN k (.mk xn xk,v)=false-> ∀ r,tvX (.mk n ks) (.obj (.box [.pv (.bool false)]):: .obj (.box [.pv (.int .i64 ((k+1:Nat):Int))])::r):=fun h r=>⟨hno h,_,r,rfl⟩
  refine WC (fun h1=>bad ?_ _) fun h1=>WC (fun h2=>bad ?_ _) fun h2=>⟨Ze (.mk xn xk,()) (XX xn xk) (Kr ht (List.mem_of_getElem? hx)),Zd (.mk xn xk,()) (XX xn xk) (U9 (fun h3=>bad ?_ _) fun h3=>⟨rfl,⟨ZB 23 0 [(2,.ptr 0 0),(3,.ptr 1 0)],[.obj (.box [.pv (.bool false)]),.obj (.box [.pv (.int .i64 ((k+1:Nat):Int))])]⟩,by kernel_rfl,rfl,?_,?_,rfl⟩)⟩
  ·unfold okN;rw[decide_eq_false (show ¬ k<400 by omega)];rfl
  ·unfold okN;rw[decide_eq_false (show ¬ v<=40 by omega),Bool.and_false];rfl
  ·have h3:Aj (.mk xn xk)=false:=h3
   unfold okN;rw[h3,Bool.and_false]
  ·have h3:Aj (.mk xn xk)=true:=h3
   intro j p hj hp
   rw[Nat.lt_succ_iff_lt_or_eq]at hj
   rcases hj with hj|rfl
   ·exact hall j p hj hp
   ·rw[hx]at hp
    cases hp
    unfold okN
    rw[h3,decide_eq_true (show j<400 by omega),decide_eq_true (show v<=40 by omega)];rfl
  ·omega
 ·rintro σ ⟨hall,hk,rfl⟩
  refine d0r tvE n ks _ (ZI (a7x _ fun j p hp=>hall j p ?_ hp).symm)
  rw[hF]
  exact(List.getElem?_eq_some_iff.1 hp).1
 ·rintro σ ⟨hv,c,r,rfl⟩
  exact c0p tvE n ks c r (ZI hv.symm)
abbrev Jt(n:Nd)(ks:List Tm):List PV:=Go.Proofs.YtgdebdgkofkeeaaGreatDoor.ndC n ks
def D9(t:Tm):Int:=Zk t
def c1p(t:Tm)(k:Nat)(σ:Zp):Prop:=σ=[.obj (.box [.pv (.int .i64 (((Zt 1 t).take k).length:Int))])]
def d8j(t:Tm)(k:Nat)(x:Tm×Int)(st:St):Prop:=st=⟨ZB 11 0 [(3,.ptr 0 0)],[.obj (.box [.pv (.int .i64 (((Zt 1 t).take k).length:Int))])]⟩
def a5t:YA:=fun n st q=>n=0∧Jk Qu 0 (.t 5) 80 [6,7] Gc Gt encNd pre_ndI F_ndI st q
theorem c5y: ∀ x:Tm×Unit,tW x.1=true->Vb Qu a5t 0 (Zb KR (Zm (D9 x.1))) Gq [] (ZY c2n (encL x)):=by
 rintro⟨t,⟨⟩⟩ ht
 have ht:tW t=true:=ht
 obtain⟨n,ks⟩:=t
 rw[<- XX]
 show Vb Qu a5t 0 (Zb KR (Zm (D9 (.mk n ks)))) _ _ _
 have hsz:Zk (.mk n ks)<=1048576:=Nat.le_trans (Vw _) (of_decide_eq_true ht)
 have hlen:(Zt 1 (.mk n ks)).length=Zk (.mk n ks):=XV _ _
 have hF:F_ndI [Jt n ks]=Zt 1 (.mk n ks):=by unfold F_ndI;rw[tmOf_nd]
 refine d4i a5t n ks ⟨?_,rfl,[1],[Jt n ks],[3],[3],[],⟨ZB 11 0 [(3,.ptr 0 0)],[.obj (.box [.pv (.int .i64 0)])]⟩,c1p (.mk n ks),fun _=>False,d8j (.mk n ks),rfl,by simp,rfl,?_,by kernel_rfl,pre_nd hsz,rfl,?_,?_,?_,?_⟩
 ·show FH Tm (PV.agg (Jt n ks))=true
  rw[show(PV.agg (Jt n ks))=enc (Tm.mk n ks)from(Zx n ks).symm,Vr]
 ·intro j l ps hl hps
  match j with
  | 0=>cases hl;cases hps;rfl
  | j+1=>simp at hl
 ·rintro k ⟨⟨xn,xk⟩,v⟩ σ hx hi
  unfold c1p at hi
  subst hi
  have e:QF [6,7] ((encNd (.mk xn xk,v)).map .pv) (ZB 11 0 [(3,.ptr 0 0)])=ZB 11 0 [(3,.ptr 0 0),(6,.pv (.agg (Jt xn xk))),(7,.pv (.int .i64 v))]:=by
   show QF [6,7] (([enc (Tm.mk xn xk),.int .i64 v]).map .pv) _=_
   rw[Zx]
   kernel_rfl
  rw[e]
  exact c5w (G:=fun _=>False) _ xn xk _ v ⟨rfl,rfl⟩
 ·rintro k ⟨⟨xn,xk⟩,v⟩ st hx hst
  unfold d8j at hst
  subst hst
  rw[hF]at hx
  have hk:k<Zk (.mk n ks):=by rw[<- hlen];exact(List.getElem?_eq_some_iff.1 hx).1
  have ek:(Zt 1 (.mk n ks)).take (k+1)=(Zt 1 (.mk n ks)).take k++[(.mk xn xk,v)]:=by rw[List.take_add_one,hx];rfl
  refine c3y (G:=fun _=>False) _ xn xk _ v ⟨rfl,_,rfl,rfl,?_⟩
  unfold c1p
  rw[ek,List.length_append,next (by rw[List.length_take];omega)]
  rfl
 ·rintro σ hi
  unfold c1p at hi
  subst hi
  rw[hF,List.take_length]
  exact c0m a5t n ks _ (Uj (by unfold D9;rw[hlen]))
 ·exact fun σ h=>h.elim
def Eo(t:Tm)(k:Nat)(σ:Zp):Prop:=σ=[.obj (.box [.pv (.int .i64 (((((Zt 1 t).take k).map (·.1)).filter QI).length:Int))])]
def d6z(t:Tm)(k:Nat)(x:Tm×Int)(st:St):Prop:=st=⟨ZB 25 0 [(3,.ptr 0 0),(4,.ptr 1 0)],[.obj (.box [.pv (.int .i64 (((((Zt 1 t).take k).map (·.1)).filter QI).length:Int))]),.obj (.box (ZM x.1.nd x.1.ks))]⟩
def a3z:YA:=fun n st q=>n=0∧Jk QK 0 (.t 6) 80 [7,8] J4 Uz encNd pre_ndI F_ndI st q
theorem c0k: ∀ x:Tm×Unit,tW x.1=true->Vb QK a3z 0 (Zb KO (Zm (Vs x.1))) HZ [] (ZY c0l (encL x)):=by
 rintro⟨t,⟨⟩⟩ ht
 have ht:tW t=true:=ht
 obtain⟨n,ks⟩:=t
 rw[<- XX]
 show Vb QK a3z 0 (Zb KO (Zm (Vs (.mk n ks)))) _ _ _
 have hsz:Zk (.mk n ks)<=1048576:=Nat.le_trans (Vw _) (of_decide_eq_true ht)
 have hlen:(Zt 1 (.mk n ks)).length=Zk (.mk n ks):=XV _ _
 have hF:F_ndI [Jt n ks]=Zt 1 (.mk n ks):=by unfold F_ndI;rw[tmOf_nd]
 refine d2w a3z n ks ⟨?_,rfl,[1],[Jt n ks],[3],[3,4],[],⟨ZB 25 0 [(3,.ptr 0 0)],[.obj (.box [.pv (.int .i64 0)])]⟩,Eo (.mk n ks),fun _=>False,d6z (.mk n ks),rfl,by simp,rfl,?_,by kernel_rfl,pre_nd hsz,rfl,?_,?_,?_,?_⟩
 ·show FH Tm (PV.agg (Jt n ks))=true
  rw[show(PV.agg (Jt n ks))=enc (Tm.mk n ks)from(Zx n ks).symm,Vr]
 ·intro j l ps hl hps
  match j with
  | 0=>cases hl;cases hps;rfl
  | j+1=>simp at hl
 ·rintro k ⟨⟨xn,xk⟩,v⟩ σ hx hi
  unfold Eo at hi
  subst hi
  have e:QF [7,8] ((encNd (.mk xn xk,v)).map .pv) (ZB 25 0 [(3,.ptr 0 0)])=ZB 25 0 [(3,.ptr 0 0),(7,.pv (.agg (Jt xn xk))),(8,.pv (.int .i64 v))]:=by
   show QF [7,8] (([enc (Tm.mk xn xk),.int .i64 v]).map .pv) _=_
   rw[Zx]
   kernel_rfl
  rw[e]
  exact c3a (G:=fun _=>False) _ xn xk _ v ⟨rfl,rfl⟩
 ·rintro k ⟨⟨xn,xk⟩,v⟩ st hx hst
  unfold d6z at hst
  subst hst
  rw[hF]at hx
  have hk:k<Zk (.mk n ks):=by rw[<- hlen];exact(List.getElem?_eq_some_iff.1 hx).1
  have ek:(Zt 1 (.mk n ks)).take (k+1)=(Zt 1 (.mk n ks)).take k++[(.mk xn xk,v)]:=by rw[List.take_add_one,hx];rfl
  have hl:((((Zt 1 (.mk n ks)).take k).map (·.1)).filter QI).length<=k:=Nat.le_trans (List.length_filter_le _ _) (by rw[List.length_map,List.length_take];omega)
  have yes:QI (.mk xn xk)=true->Eo (.mk n ks) (k+1) [.obj (.box [.pv (.int .i64 (IntKind.i64.wrap ((((((Zt 1 (.mk n ks)).take k).map (·.1)).filter QI).length:Int)+1)))])]:=fun h=>by
   unfold Eo
   rw[ek,List.map_append,List.filter_append,List.length_append,next (by omega)]
   simp[h]
  have no:QI (.mk xn xk)=false->Eo (.mk n ks) (k+1) [.obj (.box [.pv (.int .i64 (((((Zt 1 (.mk n ks)).take k).map (·.1)).filter QI).length:Int))])]:=fun h=>by
   unfold Eo
   rw[ek,List.map_append,List.filter_append,List.length_append]
   simp[h]
  refine c4r (G:=fun _=>False) _ xn xk _ v (Y1 (fun h1=>Y1 (fun h2=>⟨rfl,_,rfl,rfl,yes ?_⟩) fun h2=>Y1 (fun h3=>⟨rfl,_,rfl,rfl,yes ?_⟩) fun h3=>⟨rfl,_,rfl,rfl,no ?_⟩) fun h1=>⟨rfl,_,rfl,rfl,no ?_⟩)
  ·unfold QI;rw[decide_eq_true (show(Tm.mk xn xk).nd.kind=6 from h1),decide_eq_true (show(Tm.mk xn xk).nd.name.s=b4v from h2)];rfl
  ·unfold QI;rw[decide_eq_true (show(Tm.mk xn xk).nd.kind=6 from h1),decide_eq_true (show(Tm.mk xn xk).nd.name.s=a9a from h3)];simp
  ·unfold QI;rw[decide_eq_false (show ¬ (Tm.mk xn xk).nd.name.s=b4v from h2),decide_eq_false (show ¬ (Tm.mk xn xk).nd.name.s=a9a from h3)];simp
  ·unfold QI;rw[decide_eq_false (show ¬ (Tm.mk xn xk).nd.kind=6 from h1)];rfl
 ·rintro σ hi
  unfold Eo at hi
  subst hi
  rw[hF,List.take_length]
  exact c2x a3z n ks _ (Uj rfl)
 ·exact fun σ h=>h.elim
theorem c5u{t:Tm}(h:tW t=true): ∀ s∈(ZV t).flatMap Xm,s.s.length<=1048576:=by
 intro s hs
 obtain⟨p,hp,hs⟩:=List.mem_flatMap.1 hs
 unfold ZV at hp
 obtain⟨q,hq,rfl⟩:=List.mem_map.1 hp
 have hw:=Kr h hq
 unfold Xm at hs
 split at hs
 ·have:s=q.1.nd.name:=by simpa using hs
  subst this
  obtain⟨⟨n,ks⟩,l⟩:=q
  exact(PU hw).name
 ·cases hs
theorem MS{α β:Type}(f:α->List β)(hf : ∀ x,(f x).length<=1): ∀ l:List α,(l.flatMap f).length<=l.length
 | []=>by simp
 | a::l=>by have:=hf a;have:=MS f hf l;rw[List.flatMap_cons,List.length_append,List.length_cons];omega
theorem TH(t:Tm):((ZV t).flatMap Xm).length<=Zk t:=by
 have:=MS Xm (fun x=>by unfold Xm;split <;> simp) (ZV t)
 rw[Wj]at this
 exact this
def OV(t:Tm)(k:Nat)(σ:Zp):Prop:=σ=[.obj (.box [.map 1]),.obj (.map (ZW (Y8 ((((Zt 1 t).take k).map (·.1)).flatMap Xm))))]
def d5r(t:Tm)(k:Nat)(x:Tm×Int)(st:St):Prop:=st=⟨ZB 29 0 [(3,.ptr 0 0),(4,.ptr 2 0)],[.obj (.box [.map 1]),.obj (.map (ZW (Y8 ((((Zt 1 t).take k).map (·.1)).flatMap Xm)))),.obj (.box (ZM x.1.nd x.1.ks))]⟩
def a5y:YA:=fun n st q=>n=0∧Jk Qn 0 (.t 7) 80 [8,9] KJ Uv encNd pre_ndI F_ndI st q
theorem c2m: ∀ x:Tm×Unit,tW x.1=true->Vb Qn a5y 0 (Zb KU (Zm (WP x.1))) Hg [] (ZY c5x (encL x)):=by
 rintro⟨t,⟨⟩⟩ ht
 have ht:tW t=true:=ht
 obtain⟨n,ks⟩:=t
 rw[<- XX]
 show Vb Qn a5y 0 (Zb KU (Zm (WP (.mk n ks)))) _ _ _
 have hsz:Zk (.mk n ks)<=1048576:=Nat.le_trans (Vw _) (of_decide_eq_true ht)
 have hlen:(Zt 1 (.mk n ks)).length=Zk (.mk n ks):=XV _ _
 have hF:F_ndI [Jt n ks]=Zt 1 (.mk n ks):=by unfold F_ndI;rw[tmOf_nd]
 refine d0n a5y n ks ⟨?_,rfl,[1],[Jt n ks],[3],[3,4],[],⟨ZB 29 0 [(3,.ptr 0 0)],[.obj (.box [.map 1]),.obj (.map (ZW []))]⟩,OV (.mk n ks),fun _=>False,d5r (.mk n ks),rfl,by simp,rfl,?_,by kernel_rfl,pre_nd hsz,rfl,?_,?_,?_,?_⟩
 ·show FH Tm (PV.agg (Jt n ks))=true
  rw[show(PV.agg (Jt n ks))=enc (Tm.mk n ks)from(Zx n ks).symm,Vr]
 ·intro j l ps hl hps
  match j with
  | 0=>cases hl;cases hps;rfl
  | j+1=>simp at hl
 ·rintro k ⟨⟨xn,xk⟩,v⟩ σ hx hi
  unfold OV at hi
  subst hi
  have e:QF [8,9] ((encNd (.mk xn xk,v)).map .pv) (ZB 29 0 [(3,.ptr 0 0)])=ZB 29 0 [(3,.ptr 0 0),(8,.pv (.agg (Jt xn xk))),(9,.pv (.int .i64 v))]:=by
   show QF [8,9] (([enc (Tm.mk xn xk),.int .i64 v]).map .pv) _=_
   rw[Zx]
   kernel_rfl
  rw[e]
  exact c5z (G:=fun _=>False) _ xn xk _ v ⟨rfl,rfl⟩
 ·rintro k ⟨⟨xn,xk⟩,v⟩ st hx hst
  unfold d5r at hst
  subst hst
  rw[hF]at hx
  have hk:k<Zk (.mk n ks):=by rw[<- hlen];exact(List.getElem?_eq_some_iff.1 hx).1
  have ek:(Zt 1 (.mk n ks)).take (k+1)=(Zt 1 (.mk n ks)).take k++[(.mk xn xk,v)]:=by rw[List.take_add_one,hx];rfl
  have yes:(xn.kind=6∨xn.kind=8∨xn.kind=9)->Vf (enc xn.name) (PV.bool true) (ZW (Y8 (((Zt 1 (.mk n ks)).take k).map (·.1) |>.flatMap Xm)))=true∧OV (.mk n ks) (k+1) [.obj (.box [.map 1]),.obj (.map (XQ (enc xn.name) (PV.bool true) (ZW (Y8 (((Zt 1 (.mk n ks)).take k).map (·.1) |>.flatMap Xm)))))]:=fun h=>by
   refine⟨(JG _ xn.name).1,?_⟩
   unfold OV
   rw[show XQ (enc xn.name) (PV.bool true) (ZW (Y8 (((Zt 1 (.mk n ks)).take k).map (·.1) |>.flatMap Xm)))=_ from(JG _ xn.name).2,ek,List.map_append,List.flatMap_append]
   unfold Y8
   rw[List.foldl_append,List.map_cons,List.map_nil,List.flatMap_cons,List.flatMap_nil]
   rw[show Xm (.mk xn xk)=[xn.name]from if_pos h]
   rfl
  have no : ¬ (xn.kind=6∨xn.kind=8∨xn.kind=9)->OV (.mk n ks) (k+1) [.obj (.box [.map 1]),.obj (.map (ZW (Y8 (((Zt 1 (.mk n ks)).take k).map (·.1) |>.flatMap Xm))))]:=fun h=>by
   unfold OV
   rw[ek,List.map_append,List.flatMap_append,List.map_cons,List.map_nil,List.flatMap_cons,List.flatMap_nil,show Xm (.mk xn xk)=[]from if_neg h]
   simp
  refine b9z (G:=fun _=>False) _ xn xk _ v (Y1 (fun h1=>⟨(yes (.inl h1)).1,rfl,_,rfl,rfl,(yes (.inl h1)).2⟩) fun h1=>Y1 (fun h2=>⟨(yes (.inr (.inl h2))).1,rfl,_,rfl,rfl,(yes (.inr (.inl h2))).2⟩) fun h2=>Y1 (fun h3=>⟨(yes (.inr (.inr h3))).1,rfl,_,rfl,rfl,(yes (.inr (.inr h3))).2⟩) fun h3=>⟨rfl,_,rfl,rfl,no (by rintro(h|h|h);exact h1 h;exact h2 h;exact h3 h)⟩)
 ·rintro σ hi
  unfold OV at hi
  subst hi
  rw[hF,List.take_length]
  refine c5p a5y n ks _ ⟨?_,?_⟩
  ·show(79==79&&VM (ZW (Y8 ((ZV (.mk n ks)).flatMap Xm))))=true
   rw[b3l (c5u ht) (by have:=TH (.mk n ks);omega)]
   simp
  ·show Zm _ (PV.sl 1 false (List.map PV.str (YJ (List.map Vn (ZW (Y8 ((ZV (.mk n ks)).flatMap Xm)))))))
   rw[P6]
   exact Y6 rfl
 ·exact fun σ h=>h.elim
end Go.Pl
namespace Go.Pl
open Go.RowKit
theorem TR(l:List Str):(V6 l).length<=l.length:=by
 unfold V6 YJ
 rw[List.length_map,List.length_mergeSort,List.length_map]
 have:=VV l []
 have e:Y8 l=l.foldl Y2 []:=rfl
 rw[e]
 simpa using this
theorem L9(t:Tm):(ZX t).length<=Zk t:=Nat.le_trans (TR _) (U0 [] t)
theorem Ed(t:Tm):(WP t).length<=Zk t:=Nat.le_trans (TR _) (TH t)
end Go.Pl
namespace Go.Pl
open Go.RowKit
open Enc (enc dec is)
def DL(m:List Int):List (PV×PV):=m.map fun z=>(PV.int .i64 z,PV.bool true)
def Jp(m:List Int)(z:Int):List Int:=if z∈m then m else m++[z]
def Q7(l:List Int):List Int:=l.foldl Jp []
def TG(l:List Int):List Int:=X7 (Q7 l)
def OX(t:Tm):List Int:=(ZV t).map fun x=>x.nd.line
def Vm(t:Tm):List Int:=TG (OX t)
theorem c4m(m:List Int)(z:Int):Vf (.int .i64 z) (.bool true) (DL m)=true∧XQ (.int .i64 z) (.bool true) (DL m)=DL (Jp m z):=by
 have key:upd (.int .i64 z) (.bool true) (DL m)=some (DL (Jp m z)):=by
  induction m with
  | nil=>rfl
  | cons a m ih=>
   show(match Uk (.int .i64 z) (.int .i64 a)with|some true=>some ((PV.int .i64 z,PV.bool true)::DL m)|some false=>(upd (.int .i64 z) (.bool true) (DL m)).map ((PV.int .i64 a,PV.bool true):: ·)|none=>none)=_
   by_cases h:z=a
   ·subst h
    have:Uk (.int .i64 z) (.int .i64 z)=some true:=by simp[Uk]
    rw[this]
    unfold Jp
    rw[if_pos (by simp)]
    rfl
   ·have:Uk (.int .i64 z) (.int .i64 a)=some false:=by simp[Uk,h]
    rw[this,ih]
    unfold Jp
    by_cases hm:z∈m
    ·rw[if_pos hm,if_pos (by simp[hm])];rfl
    ·rw[if_neg hm,if_neg (by simp[hm,h])];rfl
 exact⟨by unfold Vf;rw[key];rfl,by unfold XQ;rw[key];rfl⟩
theorem F5{m:List Int}(h:m.Nodup)(s:Int):(Jp m s).Nodup:=by
 unfold Jp
 split
 ·exact h
 ·rename_i hs
  exact List.nodup_append.2 ⟨h,by simp,fun a ha b hb=>by simp at hb;subst hb;exact fun e=>hs (e▸ha)⟩
theorem Ko: ∀ (l m:List Int),m.Nodup->(l.foldl Jp m).Nodup
 | [],m,h=>h
 | a::l,m,h=>Ko l _ (F5 h a)
theorem b2j{m:List Int}{s x:Int}:x∈Jp m s ↔ x∈m∨x=s:=by
 unfold Jp
 split
 ·rename_i h
  exact⟨.inl,fun k=>k.elim id fun e=>e▸h⟩
 ·simp
theorem GX: ∀ (l m:List Int) (x:Int),x∈l.foldl Jp m ↔ x∈m∨x∈l
 | [],m,x=>by simp
 | a::l,m,x=>by rw[List.foldl_cons,GX l _ x,b2j];simp[or_assoc]
theorem b3t(m:List Int)(s:Int):(Jp m s).length<=m.length+1:=by unfold Jp;split <;> simp
theorem G5: ∀ (l m:List Int),(l.foldl Jp m).length<=m.length+l.length
 | [],m=>by simp
 | a::l,m=>by
  rw[List.foldl_cons]
  have h1:=G5 l (Jp m a)
  have h2:=b3t m a
  rw[List.length_cons];omega
theorem CP{l:List Int}{s x:Int}:x∈Uh l s ↔ x∈l∨x=s:=by
 induction l with
 | nil=>simp[Uh]
 | cons a r ih=>
  rw[Uh]
  split
  ·rw[List.mem_cons,ih,List.mem_cons,or_assoc]
  ·split
   ·rename_i h
    subst h
    simp only[List.mem_cons]
    exact⟨fun h=>.inl h,fun h=>h.elim id .inl⟩
   ·simp only[List.mem_cons]
    constructor
    ·rintro(h|h|h)
     ·exact .inr h
     ·exact .inl (.inl h)
     ·exact .inl (.inr h)
    ·rintro((h|h)|h)
     ·exact .inr (.inl h)
     ·exact .inr (.inr h)
     ·exact .inl h
theorem Bc: ∀ (l m:List Int) (x:Int),x∈l.foldl Uh m ↔ x∈m∨x∈l
 | [],m,x=>by simp
 | s::l,m,x=>by rw[List.foldl_cons,Bc l,CP,List.mem_cons,or_assoc]
theorem Ms{s:Int}: ∀ {l:List Int},l.Pairwise (· < ·)->(Uh l s).Pairwise (· < ·)
 | [],_=>by simp[Uh]
 | t::r,h=>by
  have ht:=List.pairwise_cons.1 h
  rw[Uh]
  split
  ·rename_i h1
   refine List.pairwise_cons.2 ⟨fun y hy=> ?_,Ms ht.2⟩
   rcases CP.1 hy with hy|rfl
   ·exact ht.1 y hy
   ·exact h1
  ·split
   ·exact h
   ·rename_i h1 h2
    refine List.pairwise_cons.2 ⟨fun y hy=> ?_,h⟩
    rcases List.mem_cons.1 hy with rfl|hy
    ·omega
    ·have:=ht.1 y hy;omega
theorem Ba: ∀ (l m:List Int),m.Pairwise (· < ·)->(l.foldl Uh m).Pairwise (· < ·)
 | [],m,h=>h
 | s::l,m,h=>Ba l _ (Ms h)
theorem MR: ∀ {a b:List Int},a.Pairwise (· < ·)->b.Pairwise (· < ·)->(∀ x,x∈a ↔ x∈b)->a=b
 | [],[],_,_,_=>rfl
 | [],y::b,_,_,h=>absurd ((h y).2 (by simp)) (by simp)
 | x::a,[],_,_,h=>absurd ((h x).1 (by simp)) (by simp)
 | x::a,y::b,ha,hb,h=>by
  have ha':=List.pairwise_cons.1 ha
  have hb':=List.pairwise_cons.1 hb
  have e:x=y:=by
   rcases List.mem_cons.1 ((h x).1 (by simp))with e|h1
   ·exact e
   ·rcases List.mem_cons.1 ((h y).2 (by simp))with e|h2
    ·exact e.symm
    ·have:=hb'.1 x h1;have:=ha'.1 y h2;omega
  subst e
  congr 1
  refine MR ha'.2 hb'.2 fun z=>⟨fun hz=> ?_,fun hz=> ?_⟩
  ·rcases List.mem_cons.1 ((h z).1 (by simp[hz]))with e|h1
   ·have:=ha'.1 z hz;omega
   ·exact h1
  ·rcases List.mem_cons.1 ((h z).2 (by simp[hz]))with e|h1
   ·have:=hb'.1 z hz;omega
   ·exact h1
theorem a5s{l:List Int}{x:Int}:x∈TG l ↔ x∈l:=by
 unfold TG X7 Q7
 rw[List.mem_mergeSort,GX];simp
theorem a7n(l:List Int):(TG l).Pairwise (· < ·):=by
 unfold TG X7
 have tr : ∀ x y z:Int,decide (x<=y)=true->decide (y<=z)=true->decide (x<=z)=true:=fun x y z h k=>by simp only[decide_eq_true_eq]at *;omega
 have to : ∀ x y:Int,(decide (x<=y)||decide (y<=x))=true:=fun x y=>by simp only[Bool.or_eq_true,decide_eq_true_eq];omega
 have h0:(Q7 l).Nodup:=Ko l [] List.nodup_nil
 have h1:=List.pairwise_mergeSort tr to (Q7 l)
 have h2:=(List.mergeSort_perm (Q7 l) fun x y=>decide (x<=y)).nodup_iff.2 h0
 refine(h1.and h2).imp fun {a b} hab=> ?_
 have h3:a<=b:=by simpa using hab.1
 have h4:a≠b:=hab.2
 omega
theorem a9y(t:Tm):Vm t=UN t:=MR (a7n _) (Ba _ [] List.Pairwise.nil) fun x=>by
 unfold Vm OX UN
 rw[a5s,Bc];simp
end Go.Pl
namespace Go.Pl
open Go.RowKit
open Enc (enc dec is)
open EncL (encL decL isL)
set_option maxRecDepth 100000
noncomputable def Gj:IC:=icx WI Proofs.Tryz.f34
def KA:List IRes:=[(.tmp 2)]
abbrev c6j:Nat:=16
noncomputable def Qr:ZE:=YB [(58,.own Yf (YE 80)),(73,.own Xf (XJ 99)),(72,.own (Vq 99) Ud)]
theorem d0u{G:PV->Prop}(E:YA)(n:Nd)(ks:List Tm)(h:(Yf [(.pv (.agg [(.int .i64 (Nd.kind n)),(.int .i64 (Nd.line n)),(.str (Str.s (Nd.name n))),(.int .i64 (Nd.num n)),(.str (Str.s (Nd.elem n))),(.sl 1 false (List.map enc (Nd.dims n))),(.sl 1 false (List.map enc (Nd.data n))),(.sl 2 false (List.map enc (Nd.sizes n))),(.sl 1 false (List.map enc (Nd.ranks n))),(.sl 10 false (List.map enc ks))]))] [])=true∧(E 0 ⟨ZB 16 0 [(3,(.ptr 0 0)),(4,.undef),(7,(.fn 80 [] [(.ptr 1 0)])),(8,.undef),(10,.undef),(11,.undef),(12,.undef)],[(.obj (.box [(.map 2)])),(.obj (.box (ZM n ks))),(.obj (.map []))]⟩ (fun x S'=>Um Qr E 0 (Zb KA G) Gj 0 x S'))):Zu Qr E 0 (Zb KA G) (.inl Gj) [] (ZY 16 [.agg [enc n.kind,enc n.line,enc n.name,enc n.num,enc n.elem,enc n.dims,enc n.data,enc n.sizes,enc n.ranks,enc ks]]):=Zu.mp (.req (.keep (.nil))) h
theorem c2v{G:PV->Prop}(E:YA)(n:Nd)(ks:List Tm)(m:List Int)(h:(Vq 99 [(.fn 99 [] [(.ptr 0 0)])] [(.box [(.map 1)]),(.map (DL m))])=true∧(G ((.sl 1 false (List.map (PV.int .i64) (X7 (List.map UH (DL m)))))))):Um Qr E 0 (Zb KA G) Gj 0 .normal ⟨ZB 16 0 [(3,.ptr 0 0)],[.obj (.box [.map 1]),.obj (.map (DL m))]⟩:=Zu.mp (.lit (.keep (.req (.keep (.nil))))) h
def Ht:IC:=KJ
noncomputable def b6d:ZE:=YB [(58,.own Yf (YE 80)),(73,.own Xf (XJ 99)),(72,.own (Vq 99) Ud)]
theorem c6i{G:Zp->Prop}(E:YA)(n:Nd)(ks:List Tm)(m:List Int)(v:Int)(h:E 99 ⟨ZB 16 0 [(3,(.ptr 0 0)),(4,(.ptr 2 0))],[(.obj (.box [(.map 1)])),(.obj (.map (DL m))),(.obj (.box (ZM n ks)))]⟩ (fun x S'=>Um b6d E 2 (fun st=>G st.heap) Ht 99 x S')):Zu b6d E 2 (fun st=>G st.heap) (.inl Ht) [.seq (.ext 99 [3,4])] ⟨ZB 16 0 [(3,.ptr 0 0),(8,.pv (.agg [enc n.kind,enc n.line,enc n.name,enc n.num,enc n.elem,enc n.dims,enc n.data,enc n.sizes,enc n.ranks,enc ks])),(9,.pv (.int .i64 v))],[.obj (.box [.map 1]),.obj (.map (DL m))]⟩:=Zu.mh (.nil) h
def Hl:IC:=(.block 1 (.reg [ZC 10 (.load false [.any] (.t 3)) 0,ZC 11 (.faddr 1 (.t 4)) 0,ZC 12 (DV [(.int .i64)] (.t 11)) 0,DW (.mapupd false (.t 10) (.t 12) (.c (.bool true))) 0] none))
noncomputable def b7u:ZE:=YB [(58,.own Yf (YE 80)),(73,.own Xf (XJ 99)),(72,.own (Vq 99) Ud)]
theorem c1i{G:Zp->Prop}(E:YA)(n:Nd)(ks:List Tm)(m:List Int)(v:Int)(h:(Vf (enc (Nd.line n)) (PV.bool true) (DL m))=true∧(E 99 ⟨ZB 16 0 [],[(.obj (.box [(.map 1)])),(.obj (.map (XQ (enc (Nd.line n)) (PV.bool true) (DL m)))),(.obj (.box (ZM n ks)))]⟩ (fun x S'=>Um b7u E 3 (fun st=>G st.heap) Hl 99 x S'))):Zu b7u E 3 (fun st=>G st.heap) (.inl Hl) [.seq (.ext 99 [])] ⟨ZB 16 0 [(3,.ptr 0 0),(4,.ptr 2 0)],[.obj (.box [.map 1]),.obj (.map (DL m)),.obj (.box [.pv (enc n.kind),.pv (enc n.line),.pv (enc n.name),.pv (enc n.num),.pv (enc n.elem),.pv (enc n.dims),.pv (enc n.data),.pv (enc n.sizes),.pv (enc n.ranks),.pv (enc ks)])]⟩:=Zu.mh (.req (.nil)) h
noncomputable def Rm:IC:=X5 Proofs.Tryz.f73
def RB:List IRes:=[(.tmp 2)]
abbrev c4n:Nat:=4
noncomputable def OQ:ZE:=YB []
theorem d0m{G:AV×List AObj×List AObj->Prop}(es:List (PV×PV))(h:G (((.fn 99 [] [(.ptr 1 0)]),([(.map es)],[(.box [(.map 0)])])))):Zc OQ 1 (Yi 1 RB G) Rm [] (Wh 4 [.map 0] [.map es]):=Zc.to (.nil) h
end Go.Pl
namespace Go.Pl
open Go.RowKit
open Enc (enc dec is)
open EncL (encL decL isL)
open Go.Proofs.YtgdebdgkofkeeaaGreatDoor (encNd pre_ndI F_ndI tmOf_nd pre_nd)
def lnB(x:Tm):Bool:=decide (-9223372036854775808<=x.nd.line)&&decide (x.nd.line<=9223372036854775807)
def Q5(t:Tm):Bool:=(ZV t).all lnB
theorem a2q(m:List Int):List.map UH (DL m)=m:=by
 induction m with
 | nil=>rfl
 | cons a m ih=>
  show UH (.int .i64 a,.bool true)::List.map UH (DL m)=_
  rw[ih];rfl
theorem d0l{l:List Int}(h1 : ∀ z∈l,-9223372036854775808<=z∧z<=9223372036854775807)(h2:l.length<=1048576):HV (DL (Q7 l))=true:=by
 have hm : ∀ z∈Q7 l,z∈l:=fun z hz=>by
  have:=(GX l [] z).1 hz
  simpa using this
 have hl:(Q7 l).length<=1048576:=by
  have:=G5 l []
  unfold Q7
  simp at this
  omega
 unfold HV
 rw[a2q]
 simp only[Bool.and_eq_true,decide_eq_true_eq]
 refine⟨⟨List.all_eq_true.2 fun p hp=> ?_,Ko l [] List.nodup_nil⟩,by unfold DL;rw[List.length_map];exact hl⟩
 unfold DL at hp
 obtain⟨z,hz,rfl⟩:=List.mem_map.1 hp
 obtain⟨a,b⟩:=h1 z (hm z hz)
 show(decide _&&decide _)=true
 rw[decide_eq_true a,decide_eq_true b];rfl
abbrev Mg(n:Nd)(ks:List Tm):List PV:=Go.Proofs.YtgdebdgkofkeeaaGreatDoor.ndC n ks
def c5f(t:Tm)(k:Nat)(σ:Zp):Prop:=σ=[.obj (.box [.map 1]),.obj (.map (DL (Q7 ((((Zt 1 t).take k).map (·.1)).map fun x=>x.nd.line))))]
def d5j(t:Tm)(k:Nat)(x:Tm×Int)(st:St):Prop:=st=⟨ZB 16 0 [(3,.ptr 0 0),(4,.ptr 2 0)],[.obj (.box [.map 1]),.obj (.map (DL (Q7 ((((Zt 1 t).take k).map (·.1)).map fun x=>x.nd.line)))),.obj (.box (ZM x.1.nd x.1.ks))]⟩
def a4n:YA:=fun n st q=>n=0∧Jk Qr 0 (.t 7) 80 [8,9] Ht Hl encNd pre_ndI F_ndI st q
theorem c0z: ∀ x:Tm×Unit,(tW x.1&&Q5 x.1)=true->Vb Qr a4n 0 (Zb KA (Zm (Vm x.1))) Gj [] (ZY c6j (encL x)):=by
 rintro⟨t,⟨⟩⟩ ht
 have hln:Q5 t=true:=(Bool.and_eq_true _ _▸ht).2
 have ht:tW t=true:=(Bool.and_eq_true _ _▸ht).1
 obtain⟨n,ks⟩:=t
 rw[<- XX]
 show Vb Qr a4n 0 (Zb KA (Zm (Vm (.mk n ks)))) _ _ _
 have hsz:Zk (.mk n ks)<=1048576:=Nat.le_trans (Vw _) (of_decide_eq_true ht)
 have hlen:(Zt 1 (.mk n ks)).length=Zk (.mk n ks):=XV _ _
 have hF:F_ndI [Mg n ks]=Zt 1 (.mk n ks):=by unfold F_ndI;rw[tmOf_nd]
 refine d0u a4n n ks ⟨?_,rfl,[1],[Mg n ks],[3],[3,4],[],⟨ZB 16 0 [(3,.ptr 0 0)],[.obj (.box [.map 1]),.obj (.map (DL []))]⟩,c5f (.mk n ks),fun _=>False,d5j (.mk n ks),rfl,by simp,rfl,?_,by kernel_rfl,pre_nd hsz,rfl,?_,?_,?_,?_⟩
 ·show FH Tm (PV.agg (Mg n ks))=true
  rw[show(PV.agg (Mg n ks))=enc (Tm.mk n ks)from(Zx n ks).symm,Vr]
 ·intro j l ps hl hps
  match j with
  | 0=>cases hl;cases hps;rfl
  | j+1=>simp at hl
 ·rintro k ⟨⟨xn,xk⟩,v⟩ σ hx hi
  unfold c5f at hi
  subst hi
  have e:QF [8,9] ((encNd (.mk xn xk,v)).map .pv) (ZB 16 0 [(3,.ptr 0 0)])=ZB 16 0 [(3,.ptr 0 0),(8,.pv (.agg (Mg xn xk))),(9,.pv (.int .i64 v))]:=by
   show QF [8,9] (([enc (Tm.mk xn xk),.int .i64 v]).map .pv) _=_
   rw[Zx]
   kernel_rfl
  rw[e]
  exact c6i (G:=fun _=>False) _ xn xk _ v ⟨rfl,rfl⟩
 ·rintro k ⟨⟨xn,xk⟩,v⟩ st hx hst
  unfold d5j at hst
  subst hst
  rw[hF]at hx
  have hk:k<Zk (.mk n ks):=by rw[<- hlen];exact(List.getElem?_eq_some_iff.1 hx).1
  have ek:(Zt 1 (.mk n ks)).take (k+1)=(Zt 1 (.mk n ks)).take k++[(.mk xn xk,v)]:=by rw[List.take_add_one,hx];rfl
  have e:=c4m (Q7 ((((Zt 1 (.mk n ks)).take k).map (·.1)).map fun x=>x.nd.line)) xn.line
  refine c1i (G:=fun _=>False) _ xn xk _ v ⟨e.1,rfl,_,rfl,rfl,?_⟩
  unfold c5f
  rw[show XQ (enc xn.line) (PV.bool true) (DL (Q7 ((((Zt 1 (.mk n ks)).take k).map (·.1)).map fun x=>x.nd.line)))=_ from e.2,ek,List.map_append,List.map_append]
  unfold Q7
  rw[List.foldl_append]
  rfl
 ·rintro σ hi
  unfold c5f at hi
  subst hi
  rw[hF,List.take_length]
  refine c2v a4n n ks _ ⟨?_,?_⟩
  ·show(99==99&&HV (DL (Q7 ((ZV (.mk n ks)).map fun x=>x.nd.line))))=true
   rw[d0l (fun z hz=> ?_) (by rw[List.length_map,Wj];exact hsz)]
   ·simp
   obtain⟨x,hx,rfl⟩:=List.mem_map.1 hz
   have:=List.all_eq_true.1 hln x hx
   simpa [lnB]using this
  ·show Zm _ (PV.sl 1 false (List.map (PV.int .i64) (X7 (List.map UH (DL (Q7 ((ZV (.mk n ks)).map fun x=>x.nd.line)))))))
   rw[a2q]
   exact Y6 (β:=List Int) (y:=Vm (.mk n ks)) rfl
 ·exact fun σ h=>h.elim
theorem b6c: ∀ args os,Xf args os=true->Zc OQ os.length (Yi os.length RB fun r=>r=XJ 99 args os) Rm [] (Wh c4n args os):=by
 intro args os h
 unfold Xf at h
 split at h
 ·exact d0m _ rfl
 ·cases h
end Go.Pl
namespace Go.Pl
open Go.RowKit
open Enc (enc dec is)
open EncL (encL decL isL)
set_option maxRecDepth 100000
noncomputable def O1:IC:=X5 Proofs.Tryz.f57
def OA:List IRes:=[(.tmp 2)]
abbrev c8y:Nat:=4
def b4s:ZE:=YB []
theorem d5q{G:AV×List AObj×List AObj->Prop}(es:List (PV×PV))(h:G (((.fn 79 [] [(.ptr 1 0)]),([(.map es)],[(.box [(.map 0)])])))):Zc b4s 1 (Yi 1 OA G) O1 [] (Wh 4 [.map 0] [.map es]):=Zc.to (.nil) h
noncomputable def CY:IC:=icx WI Proofs.Tryz.f42
def De:List IRes:=[(.tmp 2)]
abbrev d3e:Nat:=36
noncomputable def Gp:ZE:=YB [(58,.own Yf (YE 80)),(57,.own Xf (XJ 79)),(56,.own (X8 79) WU)]
theorem d5g{G:PV->Prop}(E:YA)(n:Nd)(ks:List Tm)(h:(Yf [(.pv (.agg [(.int .i64 (Nd.kind n)),(.int .i64 (Nd.line n)),(.str (Str.s (Nd.name n))),(.int .i64 (Nd.num n)),(.str (Str.s (Nd.elem n))),(.sl 1 false (List.map enc (Nd.dims n))),(.sl 1 false (List.map enc (Nd.data n))),(.sl 2 false (List.map enc (Nd.sizes n))),(.sl 1 false (List.map enc (Nd.ranks n))),(.sl 10 false (List.map enc ks))]))] [])=true∧(E 0 ⟨ZB 36 0 [(3,(.ptr 0 0)),(4,.undef),(6,.undef),(8,.undef),(11,(.fn 80 [] [(.ptr 1 0)])),(12,.undef),(14,.undef),(15,.undef),(16,.undef),(17,.undef),(18,.undef),(19,.undef),(20,.undef),(21,.undef),(22,.undef),(23,.undef),(24,.undef),(25,.undef),(26,.undef),(27,.undef),(28,.undef),(29,.undef),(30,.undef),(31,.undef),(32,.undef)],[(.obj (.box [(.map 2)])),(.obj (.box [(.pv (.int .i64 (Nd.kind n))),(.pv (.int .i64 (Nd.line n))),(.pv (.str (Str.s (Nd.name n)))),(.pv (.int .i64 (Nd.num n))),(.pv (.str (Str.s (Nd.elem n)))),(.pv (.sl 1 false (List.map enc (Nd.dims n)))),(.pv (.sl 1 false (List.map enc (Nd.data n)))),(.pv (.sl 2 false (List.map enc (Nd.sizes n)))),(.pv (.sl 1 false (List.map enc (Nd.ranks n)))),(.pv (.sl 10 false (List.map enc ks)))])),(.obj (.map []))]⟩ (fun x S'=>Um Gp E 0 (Zb De G) CY 0 x S'))):Zu Gp E 0 (Zb De G) (.inl CY) [] (ZY 36 [.agg [enc n.kind,enc n.line,enc n.name,enc n.num,enc n.elem,enc n.dims,enc n.data,enc n.sizes,enc n.ranks,enc ks]]):=Zu.mp (.req (.keep (.nil))) h
theorem d4d{G:PV->Prop}(E:YA)(n:Nd)(ks:List Tm)(m:List Str)(h:(X8 79 [(.fn 79 [] [(.ptr 0 0)])] [(.box [(.map 1)]),(.map (ZW m))])=true∧(G ((.sl 1 false (List.map PV.str (YJ (List.map Vn (ZW m)))))))):Um Gp E 0 (Zb De G) CY 0 .normal ⟨ZB 36 0 [(3,.ptr 0 0)],[.obj (.box [.map 1]),.obj (.map (ZW m))]⟩:=Zu.mp (.lit (.keep (.req (.keep (.nil))))) h
def Ai:IC:=(.reg [ZC 4 (.alloc (.agg [(.int .i64 0),(.int .i64 0),(.str []),(.int .i64 0),(.str []),(.sl 0 true []),(.sl 0 true []),(.sl 0 true []),(.sl 0 true []),(.sl 0 true [])])) 0,DW (.store 10 (.t 4) (.t 12)) 1] none)
noncomputable def c7a:ZE:=YB [(58,.own Yf (YE 80)),(57,.own Xf (XJ 79)),(56,.own (X8 79) WU)]
theorem c9s{G:Zp->Prop}(E:YA)(n:Nd)(ks:List Tm)(m:List Str)(v:Int)(h:E 99 ⟨ZB 36 0 [(3,(.ptr 0 0)),(4,(.ptr 2 0))],[(.obj (.box [(.map 1)])),(.obj (.map (ZW m))),(.obj (.box [(.pv (.int .i64 (Nd.kind n))),(.pv (.int .i64 (Nd.line n))),(.pv (.str (Str.s (Nd.name n)))),(.pv (.int .i64 (Nd.num n))),(.pv (.str (Str.s (Nd.elem n)))),(.pv (.sl 1 false (List.map enc (Nd.dims n)))),(.pv (.sl 1 false (List.map enc (Nd.data n)))),(.pv (.sl 2 false (List.map enc (Nd.sizes n)))),(.pv (.sl 1 false (List.map enc (Nd.ranks n)))),(.pv (.sl 10 false (List.map enc ks)))]))]⟩ (fun x S'=>Um c7a E 2 (fun st=>G st.heap) Ai 99 x S')):Zu c7a E 2 (fun st=>G st.heap) (.inl Ai) [.seq (.ext 99 [3,4])] ⟨ZB 36 0 [(3,.ptr 0 0),(12,.pv (.agg [enc n.kind,enc n.line,enc n.name,enc n.num,enc n.elem,enc n.dims,enc n.data,enc n.sizes,enc n.ranks,enc ks])),(13,.pv (.int .i64 v))],[.obj (.box [.map 1]),.obj (.map (ZW m))]⟩:=Zu.mh (.nil) h
def Wv:IC:=(.block 1 (Vh [ZC 14 (.faddr 7 (.t 4)) 0,ZC 15 (DV [(.sl 2)] (.t 14)) 0,ZC 16 (.len 1 (.t 15)) 0,ZC 17 (.mv (UF 0)) 0] (.block 2 (.loop [17,16,15,3] (Vh [ZC 18 (K5 .lss (.t 17) (.t 16)) 0] (.seq (.cond (.t 18) .skip (.exit 2)) (.seq (.block 3 (Vh [ZC 19 (.iaddr 2 (.t 15) (.t 17)) 0,ZC 20 (.load true [(.int .i64),(.sl 2)] (.t 19)) 0,ZC 6 (.alloc (.agg [(.int .i64 0),(.sl 0 true [])])) 0,DW (.store 2 (.t 6) (.t 20)) 1] (Vh [ZC 21 (.faddr 1 (.t 6)) 0,ZC 22 (DV [(.sl 2)] (.t 21)) 0,ZC 23 (.len 1 (.t 22)) 0,ZC 24 (.mv (UF 0)) 0] (.block 4 (.loop [24,23,22,3,17,16,15] (Vh [ZC 25 (K5 .lss (.t 24) (.t 23)) 0] (.seq (.cond (.t 25) .skip (.exit 4)) (.seq (.block 5 (Vh [ZC 26 (.iaddr 2 (.t 22) (.t 24)) 0,ZC 27 (.load true [.str,(.int .i64)] (.t 26)) 0,ZC 8 (.alloc (.agg [(.str []),(.int .i64 0)])) 0,DW (.store 2 (.t 8) (.t 27)) 1] (.reg [ZC 28 (.load false [.any] (.t 3)) 0,ZC 29 (.faddr 0 (.t 8)) 0,ZC 30 (.load false [.str] (.t 29)) 0,DW (.mapupd true (.t 28) (.t 30) (.c (.bool true))) 0] none))) (.reg [ZC 31 (K5 .add (.t 24) (UF 1)) 0,ZC 24 (WJ 31) 0] none))))))))) (.reg [ZC 32 (K5 .add (.t 17) (UF 1)) 0,ZC 17 (WJ 32) 0] none))))))))
noncomputable def QY:ZE:=YB [(58,.own Yf (YE 80)),(57,.own Xf (XJ 79)),(56,.own (X8 79) WU)]
theorem b8a{G:Zp->Prop}(E:YA)(n:Nd)(ks:List Tm)(m:List Str)(i:Int)(h:if (decide (i<(↑(List.length (Nd.sizes n)):Int)))=true then(XF (Nd.sizes n) i 2 fun y0=>(AtS [.seq (.ext 99 [])] QY E 3 (fun st=>G st.heap) Wv 1 36 [(3,(.ptr 0 0)),(15,(.pv (.sl 2 false (List.map enc (Nd.sizes n))))),(16,(.pv (.int .i64 (↑(List.length (Nd.sizes n)):Int)))),(17,(.pv (.int .i64 i))),(22,(.pv (.sl 2 false (PV.asXs (List.getD (PV.cells (enc y0)) (0+1) default))))),(23,(.pv (.int .i64 (↑(List.length (PV.asXs (List.getD (PV.cells (enc y0)) (0+1) default))):Int)))),(24,(.pv (.int .i64 0)))] [(.obj (.box [(.map 1)])),(.obj (.map (ZW m))),(.obj (.box [(.pv (.int .i64 (Nd.kind n))),(.pv (.int .i64 (Nd.line n))),(.pv (.str (Str.s (Nd.name n)))),(.pv (.int .i64 (Nd.num n))),(.pv (.str (Str.s (Nd.elem n)))),(.pv (.sl 1 false (List.map enc (Nd.dims n)))),(.pv (.sl 1 false (List.map enc (Nd.data n)))),(.pv (.sl 2 false (List.map enc (Nd.sizes n)))),(.pv (.sl 1 false (List.map enc (Nd.ranks n)))),(.pv (.sl 10 false (List.map enc ks)))]))]))else(E 99 ⟨ZB 36 0 [],[(.obj (.box [(.map 1)])),(.obj (.map (ZW m))),(.obj (.box [(.pv (.int .i64 (Nd.kind n))),(.pv (.int .i64 (Nd.line n))),(.pv (.str (Str.s (Nd.name n)))),(.pv (.int .i64 (Nd.num n))),(.pv (.str (Str.s (Nd.elem n)))),(.pv (.sl 1 false (List.map enc (Nd.dims n)))),(.pv (.sl 1 false (List.map enc (Nd.data n)))),(.pv (.sl 2 false (List.map enc (Nd.sizes n)))),(.pv (.sl 1 false (List.map enc (Nd.ranks n)))),(.pv (.sl 10 false (List.map enc ks)))]))]⟩ (fun x S'=>Um QY E 3 (fun st=>G st.heap) Wv 99 x S'))):AtS [.seq (.ext 99 [])] QY E 3 (fun st=>G st.heap) Wv 0 36 [(3,.ptr 0 0),(15,.pv (enc n.sizes)),(16,.pv (.int .i64 n.sizes.length)),(17,.pv (.int .i64 i))] [.obj (.box [.map 1]),.obj (.map (ZW m)),.obj (.box [.pv (enc n.kind),.pv (enc n.line),.pv (enc n.name),.pv (enc n.num),.pv (enc n.elem),.pv (enc n.dims),.pv (enc n.data),.pv (enc n.sizes),.pv (enc n.ranks),.pv (enc ks)])]:=Zu.mh (dm [dr Lin] 11 0x25100442) h
theorem a9b{G:Zp->Prop}(E:YA)(n:Nd)(ks:List Tm)(m:List Str)(i j:Int)(l:Lin)(h:if (decide (j<(↑(List.length l.t):Int)))=true then(XF l.t j 2 fun y0=>((Vf (Sh.co Sh.str (List.getD (PV.cells (enc y0)) 0 default)) (PV.bool true) (ZW m))=true∧(AtS [.seq (.ext 99 [])] QY E 3 (fun st=>G st.heap) Wv 1 36 [(3,(.ptr 0 0)),(15,(.pv (.sl 2 false (List.map enc (Nd.sizes n))))),(16,(.pv (.int .i64 (↑(List.length (Nd.sizes n)):Int)))),(17,(.pv (.int .i64 i))),(22,(.pv (.sl 2 false (List.map enc l.t)))),(23,(.pv (.int .i64 (↑(List.length l.t):Int)))),(24,(.pv (.int .i64 (IntKind.wrap IntKind.i64 (j+1)))))] [(.obj (.box [(.map 1)])),(.obj (.map (XQ (Sh.co Sh.str (List.getD (PV.cells (enc y0)) 0 default)) (PV.bool true) (ZW m)))),(.obj (.box [(.pv (.int .i64 (Nd.kind n))),(.pv (.int .i64 (Nd.line n))),(.pv (.str (Str.s (Nd.name n)))),(.pv (.int .i64 (Nd.num n))),(.pv (.str (Str.s (Nd.elem n)))),(.pv (.sl 1 false (List.map enc (Nd.dims n)))),(.pv (.sl 1 false (List.map enc (Nd.data n)))),(.pv (.sl 2 false (List.map enc (Nd.sizes n)))),(.pv (.sl 1 false (List.map enc (Nd.ranks n)))),(.pv (.sl 10 false (List.map enc ks)))]))])))else(AtS [.seq (.ext 99 [])] QY E 3 (fun st=>G st.heap) Wv 0 36 [(3,(.ptr 0 0)),(15,(.pv (.sl 2 false (List.map enc (Nd.sizes n))))),(16,(.pv (.int .i64 (↑(List.length (Nd.sizes n)):Int)))),(17,(.pv (.int .i64 (IntKind.wrap IntKind.i64 (i+1)))))] [(.obj (.box [(.map 1)])),(.obj (.map (ZW m))),(.obj (.box [(.pv (.int .i64 (Nd.kind n))),(.pv (.int .i64 (Nd.line n))),(.pv (.str (Str.s (Nd.name n)))),(.pv (.int .i64 (Nd.num n))),(.pv (.str (Str.s (Nd.elem n)))),(.pv (.sl 1 false (List.map enc (Nd.dims n)))),(.pv (.sl 1 false (List.map enc (Nd.data n)))),(.pv (.sl 2 false (List.map enc (Nd.sizes n)))),(.pv (.sl 1 false (List.map enc (Nd.ranks n)))),(.pv (.sl 10 false (List.map enc ks)))]))])):AtS [.seq (.ext 99 [])] QY E 3 (fun st=>G st.heap) Wv 1 36 [(3,.ptr 0 0),(15,.pv (enc n.sizes)),(16,.pv (.int .i64 n.sizes.length)),(17,.pv (.int .i64 i)),(22,.pv (enc l.t)),(23,.pv (.int .i64 l.t.length)),(24,.pv (.int .i64 j))] [.obj (.box [.map 1]),.obj (.map (ZW m)),.obj (.box [.pv (enc n.kind),.pv (enc n.line),.pv (enc n.name),.pv (enc n.num),.pv (enc n.elem),.pv (enc n.dims),.pv (enc n.data),.pv (enc n.sizes),.pv (enc n.ranks),.pv (enc ks)])]:=Zu.mh (dm [dr Coef] 14 0x202125100642) h
theorem d0w{G:Zp->Prop}(E:YA)(n:Nd)(ks:List Tm)(m:List Str)(h:AtS [.seq (.ext 99 [])] QY E 3 (fun st=>G st.heap) Wv 0 36 [(3,(.ptr 0 0)),(15,(.pv (.sl 2 false (List.map enc (Nd.sizes n))))),(16,(.pv (.int .i64 (↑(List.length (List.map enc (Nd.sizes n))):Int)))),(17,(.pv (.int .i64 0)))] [(.obj (.box [(.map 1)])),(.obj (.map (ZW m))),(.obj (.box [(.pv (.int .i64 (Nd.kind n))),(.pv (.int .i64 (Nd.line n))),(.pv (.str (Str.s (Nd.name n)))),(.pv (.int .i64 (Nd.num n))),(.pv (.str (Str.s (Nd.elem n)))),(.pv (.sl 1 false (List.map enc (Nd.dims n)))),(.pv (.sl 1 false (List.map enc (Nd.data n)))),(.pv (.sl 2 false (List.map enc (Nd.sizes n)))),(.pv (.sl 1 false (List.map enc (Nd.ranks n)))),(.pv (.sl 10 false (List.map enc ks)))]))]):Zu QY E 3 (fun st=>G st.heap) (.inl Wv) [.seq (.ext 99 [])] ⟨ZB 36 0 [(3,.ptr 0 0),(4,.ptr 2 0)],[.obj (.box [.map 1]),.obj (.map (ZW m)),.obj (.box [.pv (enc n.kind),.pv (enc n.line),.pv (enc n.name),.pv (enc n.num),.pv (enc n.elem),.pv (enc n.dims),.pv (enc n.data),.pv (enc n.sizes),.pv (enc n.ranks),.pv (enc ks)])]⟩:=Zu.mh (.nil) h
end Go.Pl
namespace Go.Pl
open Go.RowKit
open Enc (enc dec is)
open EncL (encL decL isL)
open Go.Proofs.YtgdebdgkofkeeaaGreatDoor (encNd pre_ndI F_ndI tmOf_nd pre_nd)
theorem c0o: ∀ args os,Xf args os=true->Zc b4s os.length (Yi os.length OA fun r=>r=XJ 79 args os) O1 [] (Wh c8y args os):=by
 intro args os h
 unfold Xf at h
 split at h
 ·exact d5q _ rfl
 ·cases h
def tdH(m:List Str)(n:Nd)(ks:List Tm):Zp:=[.obj (.box [.map 1]),.obj (.map (ZW m)),.obj (.box ((Go.Proofs.YtgdebdgkofkeeaaGreatDoor.ndC n ks).map .pv))]
def tdN(N:Zp->Prop):YA:=fun n S' _=>n=99∧N S'.heap
theorem a6t{N G:Zp->Prop}(n:Nd)(ks:List Tm)(i:Int)(l:Lin)(hl:l.t.length<=1048576): ∀ (d j:Nat) (m:List Str),d+j=l.t.length ->
  AtS [.seq (.ext 99 [])] QY (tdN N) 3 (fun st=>G st.heap) Wv 0 36 [(3,.ptr 0 0),(15,.pv (enc n.sizes)),(16,.pv (.int .i64 n.sizes.length)),(17,.pv (.int .i64 (IntKind.i64.wrap (i+1))))] (tdH (((l.t.drop j).map (·.v)).foldl Y2 m) n ks) ->
  AtS [.seq (.ext 99 [])] QY (tdN N) 3 (fun st=>G st.heap) Wv 1 36 [(3,.ptr 0 0),(15,.pv (enc n.sizes)),(16,.pv (.int .i64 n.sizes.length)),(17,.pv (.int .i64 i)),(22,.pv (enc l.t)),(23,.pv (.int .i64 l.t.length)),(24,.pv (.int .i64 j))] (tdH m n ks):=by
 intro d
 induction d with
 | zero=>
  intro j m hj h
  rw[List.drop_eq_nil_of_le (by omega)]at h
  exact a9b (tdN N) n ks m i j l (Yz (WE (by omega)) h)
 | succ d ih=>
  intro j m hj h
  have hlt:j<l.t.length:=by omega
  obtain⟨u1,u2⟩:=JG m l.t[j].v
  refine a9b (tdN N) n ks m i j l (Yq (WR hlt) ⟨Zn hlt rfl,Zw hlt ⟨u1,?_⟩⟩)
  have e:XQ (Sh.co Sh.str (List.getD (PV.cells (enc l.t[j])) 0 default)) (PV.bool true) (ZW m)=ZW (Y2 m l.t[j].v):=u2
  rw[e,next (by omega)]
  refine ih (j+1) _ (by omega) ?_
  rw[List.drop_eq_getElem_cons hlt,List.map_cons,List.foldl_cons]at h
  exact h
theorem a4b{N G:Zp->Prop}(n:Nd)(ks:List Tm)(hn:NdB n 1048576): ∀ (d i:Nat) (m:List Str),d+i=n.sizes.length->N (tdH (((n.sizes.drop i).flatMap fun l=>l.t.map (·.v)).foldl Y2 m) n ks) ->
  AtS [.seq (.ext 99 [])] QY (tdN N) 3 (fun st=>G st.heap) Wv 0 36 [(3,.ptr 0 0),(15,.pv (enc n.sizes)),(16,.pv (.int .i64 n.sizes.length)),(17,.pv (.int .i64 i))] (tdH m n ks):=by
 intro d
 induction d with
 | zero=>
  intro i m hi h
  rw[List.drop_eq_nil_of_le (by omega)]at h
  exact b8a (tdN N) n ks m i (Yz (WE (by omega)) ⟨rfl,h⟩)
 | succ d ih=>
  intro i m hi h
  have hlt:i<n.sizes.length:=by omega
  have hs:=hn.sizes
  refine b8a (tdN N) n ks m i (Yq (WR hlt) ⟨Zn hlt rfl,Zw hlt ?_⟩)
  rw[List.drop_eq_getElem_cons hlt,List.flatMap_cons,List.foldl_append]at h
  have hl:n.sizes[i].t.length<=1048576:=hn.lens _ (List.getElem_mem hlt)
  generalize n.sizes[i]=l at h hl ⊢
  have:=a6t (N:=N) (G:=G) n ks i l hl l.t.length 0 m (by omega) (by
   rw[next (by omega),List.drop_zero]
   exact ih (i+1) _ (by omega) h)
  show AtS [.seq (.ext 99 [])] QY (tdN N) 3 (fun st=>G st.heap) Wv 1 36 [(3,.ptr 0 0),(15,.pv (enc n.sizes)),(16,.pv (.int .i64 n.sizes.length)),(17,.pv (.int .i64 i)),(22,.pv (enc l.t)),(23,.pv (.int .i64 ((l.t.map (enc:Coef->PV)).length:Int))),(24,.pv (.int .i64 (0:Nat)))] (tdH m n ks)
  rw[List.length_map]
  exact this
def tdI(t:Tm)(k:Nat)(σ:Zp):Prop:=σ=[.obj (.box [.map 1]),.obj (.map (ZW (Y8 (((ZV t).take k).flatMap UC))))]
def tdM(t:Tm)(k:Nat)(x:Tm×Int)(st:St):Prop:=st=⟨ZB 36 0 [(3,.ptr 0 0),(4,.ptr 2 0)],tdH (Y8 (((ZV t).take k).flatMap UC)) x.1.nd x.1.ks⟩
def tdE:YA:=fun n st q=>n=0∧Jk Gp 0 (.t 11) 80 [12,13] Ai Wv encNd pre_ndI F_ndI st q
theorem c5b: ∀ x:Tm×Unit,tW x.1=true->Vb Gp tdE 0 (Zb De (Zm (Qf x.1))) CY [] (ZY d3e (encL x)):=by
 rintro⟨t,⟨⟩⟩ ht
 have ht:tW t=true:=ht
 obtain⟨n,ks⟩:=t
 rw[<- XX]
 show Vb Gp tdE 0 (Zb De (Zm (Qf (.mk n ks)))) _ _ _
 have hsz:Zk (.mk n ks)<=1048576:=Nat.le_trans (Vw _) (of_decide_eq_true ht)
 have hF:F_ndI [Go.Proofs.YtgdebdgkofkeeaaGreatDoor.ndC n ks]=Zt 1 (.mk n ks):=by unfold F_ndI;rw[tmOf_nd]
 refine d5g tdE n ks ⟨?_,rfl,[1],[Go.Proofs.YtgdebdgkofkeeaaGreatDoor.ndC n ks],[3],[3,4],[],⟨ZB 36 0 [(3,.ptr 0 0)],[.obj (.box [.map 1]),.obj (.map [])]⟩,tdI (.mk n ks),fun _=>False,tdM (.mk n ks),
  rfl,by simp,rfl,?_,by kernel_rfl,pre_nd hsz,rfl,?_,?_,?_,fun σ h=>h.elim⟩
 ·show FH Tm (PV.agg (Go.Proofs.YtgdebdgkofkeeaaGreatDoor.ndC n ks))=true
  rw[show(PV.agg (Go.Proofs.YtgdebdgkofkeeaaGreatDoor.ndC n ks))=enc (Tm.mk n ks)from(Zx n ks).symm,Vr]
 ·intro j l ps hl hps
  match j with
  | 0=>cases hl;cases hps;rfl
  | j+1=>simp at hl
 ·rintro k ⟨⟨xn,xk⟩,v⟩ σ hx rfl
  have e:QF [12,13] ((encNd (.mk xn xk,v)).map .pv) (ZB 36 0 [(3,.ptr 0 0)])=ZB 36 0 [(3,.ptr 0 0),(12,.pv (.agg (Go.Proofs.YtgdebdgkofkeeaaGreatDoor.ndC xn xk))),(13,.pv (.int .i64 v))]:=by
   show QF [12,13] (([enc (Tm.mk xn xk),.int .i64 v]).map .pv) _=_
   rw[Zx]
   kernel_rfl
  rw[e]
  exact c9s (G:=fun _=>False) _ xn xk _ v ⟨rfl,rfl⟩
 ·rintro k ⟨⟨xn,xk⟩,v⟩ st hx rfl
  rw[hF]at hx
  have hw:tW (.mk xn xk)=true:=Kr ht (List.mem_of_getElem? hx)
  have hp:(ZV (.mk n ks))[k]? = some (.mk xn xk):=by unfold ZV;rw[List.getElem?_map,hx];rfl
  refine d0w (G:=fun _=>False) (tdN fun σ=> ∃ S2,Uo 0 [3] ⟨ZB 36 0 [(3,.ptr 0 0)],σ⟩=some S2∧S2.env=ZB 36 0 [(3,.ptr 0 0)]∧tdI (.mk n ks) (k+1) S2.heap) xn xk _ ?_
  rw[List.length_map]
  refine a4b (N:=fun σ=> ∃ S2,Uo 0 [3] ⟨ZB 36 0 [(3,.ptr 0 0)],σ⟩=some S2∧S2.env=ZB 36 0 [(3,.ptr 0 0)]∧tdI (.mk n ks) (k+1) S2.heap) (G:=fun _=>False) xn xk (PU hw) xn.sizes.length 0 _ (by omega) ⟨⟨ZB 36 0 [(3,.ptr 0 0)],[.obj (.box [.map 1]),.obj (.map (ZW (((xn.sizes.drop 0).flatMap fun l=>l.t.map (·.v)).foldl Y2 (Y8 (((ZV (.mk n ks)).take k).flatMap UC)))))]⟩,by kernel_rfl,rfl,?_⟩
  unfold tdI
  have e:(ZV (.mk n ks)).take (k+1)=(ZV (.mk n ks)).take k++[.mk xn xk]:=by rw[List.take_add_one,hp];rfl
  rw[e,List.flatMap_append,List.flatMap_cons,List.flatMap_nil,List.append_nil,List.drop_zero]
  unfold Y8
  rw[List.foldl_append]
  rfl
 ·rintro σ rfl
  rw[hF,List.take_of_length_le (by unfold ZV;rw[List.length_map];exact Nat.le_refl _)]
  refine d4d tdE n ks (Y8 (Xp (.mk n ks))) ⟨?_,?_⟩
  ·show(79==79&&VM (ZW (Y8 (Xp (.mk n ks)))))=true
   rw[d9s ht,beq_self_eq_true];rfl
  ·have:=Y6 (x:=Qf (.mk n ks)) rfl
   unfold Qf at this ⊢
   rw[a0j]
   have e:(enc ((YJ ((Y8 (Xp (.mk n ks))).map (·.s))).map Str.mk):PV) = .sl 1 false ((YJ ((Y8 (Xp (.mk n ks))).map (·.s))).map PV.str):=by
    show PV.sl 1 false (List.map enc (List.map Str.mk _))=_
    rw[List.map_map]
    rfl
   rw[e]at this
   exact this
end Go.Pl
namespace Go.Pl
open Go.RowKit
open Enc (enc dec is)
open EncL (encL decL isL)
set_option maxRecDepth 100000
abbrev d7z(ps:List PV)(k:Arr×Int->Prop):Prop:=WH (fun(x:Str×List Int×List Int×Unit)=>decide (List.length (Prod.fst (Prod.snd x))<=2000000)&&decide (List.length (Prod.fst (Prod.snd (Prod.snd x)))<=2000000)) (fun(x:Str×List Int×List Int×Unit)=>a5g (Prod.fst x) (Prod.fst (Prod.snd x)) (Prod.fst (Prod.snd (Prod.snd x)))) ps k
noncomputable def a8e:IC:=X5 Proofs.Tryz.f173
def a9q:List IRes:=[(.tmp 4)]
abbrev d2c:Nat:=22
def c6v:ZE:=YB []
theorem d7f{G:PV->Prop}(e:List UInt8)(n:Int)(h:if (e==[(105:UInt8),(110:UInt8),(116:UInt8)])=true then if (decide (n ≥ (-2147483648:Int)))=true then G ((.bool (decide (n<=2147483647))))else(G ((.bool false)))else(if (e==[(98:UInt8),(111:UInt8),(111:UInt8),(108:UInt8)])=true then if (n==0)=true then G ((.bool true))else(G ((.bool (n==1))))else(G ((.bool false))))):Zc c6v 0 (Zb a9q G) a8e [] (ZY 22 [.str e,.int .i64 n]):=Zc.tp (dm [] 36 0x2220220034200c4202202220044200c42) h
noncomputable def FK:IC:=X5 Proofs.Tryz.f172
def FY:List IRes:=[(.tmp 3)]
abbrev d1h:Nat:=8
def b1d:ZE:=YB [(173,.pure (preT (fun _:Str×Int×Unit=>true)) (Zi (fun x:Str×Int×Unit=>Vd x.1 x.2.1)))]
theorem d7b{G:AV×List AObj×List AObj->Prop}(e:List UInt8)(n:Int)(h : ∃ y0:Bool,AV.pv (Zi (fun(x:Str×Int×Unit)=>Vd x.1 x.2.1) [(.str e),(.int .i64 n)])=AV.pv (enc y0)∧(G (((.pv (.bool !y0)),([(.box [(.pv (.str e))])],[]))))):Zc b1d 1 (Yi 1 FY G) FK [] (Wh 8 [.pv (.int .i64 n),.ptr 0 0] [.box [.pv (.str e)]]):=Zc.to (.lit (.abs (Bool) (fun YY=>AV.pv (enc YY)) (.nil))) h
noncomputable def JK:IC:=Jj
def JM:List IRes:=[(.tmp 4)]
abbrev b0b:Nat:=19
def Aa:ZE:=YB [(172,.own Cx R6)]
theorem d5o{G:AV×List AObj×List AObj->Prop}(e:List UInt8)(l:List Int)(t:Bool)(h:At Aa 1 (Yi 1 JM G) JK 0 19 [(0,(.pv (.sl 1 t (List.map enc l)))),(1,(.fn 172 [] [(.ptr 0 0)])),(7,(.pv (.int .i64 (↑(List.length (List.map enc l)):Int)))),(8,(.pv (.int .i64 0)))] [(.obj (.box [(.pv (.str e))]))]):Zc Aa 1 (Yi 1 JM G) JK [] (Wh 19 [.pv (.sl 1 t (l.map enc)),.fn 172 [] [.ptr 0 0]] [.box [.pv (.str e)]]):=Zc.to (.nil) h
theorem b1a{G:AV×List AObj×List AObj->Prop}(e:List UInt8)(l:List Int)(t:Bool)(i:Int)(h:if (decide (i<(↑(List.length l):Int)))=true then(decide (0<=i)&&decide (Int.toNat i<List.length (List.map enc l))&&1==1)=true∧(∃ y0:Int,AV.pv (PV.rptr (PV.cells (List.getD (List.map enc l) (Int.toNat i) default)))=AV.pv (PV.rptr (PV.cells ((enc) y0)))∧(if (!Vd (Str.mk e) (PV.asInt (List.getD (PV.cells (enc y0)) 0 default)))=true then G (((.pv (.int .i64 i)),([(.box [(.pv (.str e))])],[])))else(At Aa 1 (Yi 1 JM G) JK 0 19 [(0,(.pv (.sl 1 t (List.map enc l)))),(1,(.fn 172 [] [(.ptr 0 0)])),(7,(.pv (.int .i64 (↑(List.length l):Int)))),(8,(.pv (.int .i64 (IntKind.wrap IntKind.i64 (i+1)))))] [(.obj (.box [(.pv (.str e))]))])))else(G (((.pv (.int .i64 (-1))),([(.box [(.pv (.str e))])],[]))))):At Aa 1 (Yi 1 JM G) JK 0 19 [(0,.pv (.sl 1 t (l.map enc))),(1,.fn 172 [] [.ptr 0 0]),(7,.pv (.int .i64 l.length)),(8,.pv (.int .i64 i))] [.obj (.box [.pv (.str e)])]:=At.to (dm [dr Int] 19 0x2000143225100c42) h
noncomputable def F8:IC:=Ob
def Ot:List IRes:=[(.tmp 4)]
abbrev d0g:Nat:=9
def b2l:ZE:=YB [(144,.own WK Ct)]
theorem d8t{G:AV×List AObj×List AObj->Prop}(e:List UInt8)(l:List Int)(t:Bool)(h:(WK [(.pv (.sl 1 t (List.map enc l))),(.fn 172 [] [(.ptr 0 0)])] [(.box [(.pv (.str e))])])=true∧(G (((.pv (.bool (decide (UK (Str.mk e) (List.map dec (List.map enc l)) 0 ≥ 0)))),([(.box [(.pv (.str e))])],[]))))):Zc b2l 1 (Yi 1 Ot G) F8 [] (Wh 9 [.pv (.sl 1 t (l.map enc)),.fn 172 [] [.ptr 0 0]] [.box [.pv (.str e)]]):=Zc.to (.req (.keep (.lit (.nil)))) h
noncomputable def DN:IC:=X5 Proofs.Tryz.f143
def D6:List IRes:=[(.tmp 4)]
abbrev Li:Nat:=9
def CX:ZE:=YB [(113,.own WK RX)]
theorem Od{G:PV->Prop}(e:List UInt8)(l:List Int)(h:(WK [(.pv (.sl 1 false (List.map enc l))),(.fn 172 [] [(.ptr 0 0)])] [(.box [(.pv (.str e))])])=true∧(G ((.bool (!decide (0<=UK (Str.mk e) (List.map dec (List.map enc l)) 0)))))):Zc CX 0 (Zb D6 G) DN [] (ZY 9 [.str e,enc l]):=Zc.tp (.req (.keep (.nil))) h
noncomputable def a0y:IC:=X5 Proofs.Tryz.f112
def a2i:List IRes:=[(.cell true 3 6),(.tmp 7)]
abbrev b9u:Nat:=45
def b3i:ZE:=YB [(142,.pure (preT (fun _:List Int×Unit=>true)) (Zi (fun x:List Int×Unit=>VJ x.1))),(143,.pure (preT (fun x:Str×List Int×Unit=>decide (x.2.1.length<=2000000))) (Zi (fun x:Str×List Int×Unit=>x.2.1.all (Vd x.1)))),(93,.pure (preT (fun x:List Int×Unit=>decide (x.1.length<=2000000))) (Zi (fun x:List Int×Unit=>x.1)))]
theorem c9a{G:PV->Prop}(e:List UInt8)(d x:List Int)(h:if (!e==[(105:UInt8),(110:UInt8),(116:UInt8)])=true then if (!e==[(98:UInt8),(111:UInt8),(111:UInt8),(108:UInt8)])=true then G ((.tup [(.agg [(.str []),(.sl 0 true []),(.sl 0 true [])]),(.int .i64 12)]))else((Go.Pl.preT (fun(x:List Int×Unit)=>true) [(.sl 1 false (List.map enc d))])=true∧(∃ y0:Int×Int,AV.pv (Zi (fun(x:List Int×Unit)=>VJ x.1) [(.sl 1 false (List.map enc d))])=AV.pv (enc y0)∧(if (y0.2 != 0)=true then G ((.tup [(.agg [(.str []),(.sl 0 true []),(.sl 0 true [])]),(.int .i64 y0.2)]))else(if ((↑(List.length (List.map enc x)):Int) != y0.1)=true then G ((.tup [(.agg [(.str []),(.sl 0 true []),(.sl 0 true [])]),(.int .i64 1)]))else((Go.Pl.preT (fun(x:Str×List Int×Unit)=>decide (List.length x.2.1<=2000000)) [(.str e),(.sl 1 false (List.map enc x))])=true∧(∃ y1:Bool,AV.pv (Zi (fun(x:Str×List Int×Unit)=>List.all x.2.1 (Vd x.1)) [(.str e),(.sl 1 false (List.map enc x))])=AV.pv (enc y1)∧(if (!y1)=true then G ((.tup [(.agg [(.str []),(.sl 0 true []),(.sl 0 true [])]),(.int .i64 2)]))else((Go.Pl.preT (fun(x:List Int×Unit)=>decide (List.length x.1<=2000000)) [(.sl 1 false (List.map enc d))])=true∧(∃ y2:List Int,AV.pv (Zi (fun(x:List Int×Unit)=>x.1) [(.sl 1 false (List.map enc d))])=AV.pv (enc y2)∧((Go.Pl.preT (fun(x:List Int×Unit)=>decide (List.length x.1<=2000000)) [(.sl 1 false (List.map enc x))])=true∧(∃ y3:List Int,AV.pv (Zi (fun(x:List Int×Unit)=>x.1) [(.sl 1 false (List.map enc x))])=AV.pv (enc y3)∧(G ((.tup [(.agg [(.str e),(.sl 1 false (List.map enc y2)),(.sl 1 false (List.map enc y3))]),(.int .i64 0)]))))))))))))))else((Go.Pl.preT (fun(x:List Int×Unit)=>true) [(.sl 1 false (List.map enc d))])=true∧(∃ y4:Int×Int,AV.pv (Zi (fun(x:List Int×Unit)=>VJ x.1) [(.sl 1 false (List.map enc d))])=AV.pv (enc y4)∧(if (y4.2 != 0)=true then G ((.tup [(.agg [(.str []),(.sl 0 true []),(.sl 0 true [])]),(.int .i64 y4.2)]))else(if ((↑(List.length (List.map enc x)):Int) != y4.1)=true then G ((.tup [(.agg [(.str []),(.sl 0 true []),(.sl 0 true [])]),(.int .i64 1)]))else((Go.Pl.preT (fun(x:Str×List Int×Unit)=>decide (List.length x.2.1<=2000000)) [(.str e),(.sl 1 false (List.map enc x))])=true∧(∃ y5:Bool,AV.pv (Zi (fun(x:Str×List Int×Unit)=>List.all x.2.1 (Vd x.1)) [(.str e),(.sl 1 false (List.map enc x))])=AV.pv (enc y5)∧(if (!y5)=true then G ((.tup [(.agg [(.str []),(.sl 0 true []),(.sl 0 true [])]),(.int .i64 2)]))else((Go.Pl.preT (fun(x:List Int×Unit)=>decide (List.length x.1<=2000000)) [(.sl 1 false (List.map enc d))])=true∧(∃ y6:List Int,AV.pv (Zi (fun(x:List Int×Unit)=>x.1) [(.sl 1 false (List.map enc d))])=AV.pv (enc y6)∧((Go.Pl.preT (fun(x:List Int×Unit)=>decide (List.length x.1<=2000000)) [(.sl 1 false (List.map enc x))])=true∧(∃ y7:List Int,AV.pv (Zi (fun(x:List Int×Unit)=>x.1) [(.sl 1 false (List.map enc x))])=AV.pv (enc y7)∧(G ((.tup [(.agg [(.str e),(.sl 1 false (List.map enc y6)),(.sl 1 false (List.map enc y7))]),(.int .i64 0)]))))))))))))))):Zc b3i 0 (Zb a2i G) a0y [] (ZY 45 [.str e,enc d,enc x]):=Zc.tp (dm [dv (Int×Int),dv Bool,dv (List Int)] 69 0x7171000146100014200014251222071710001461000142000142510001422202242) h
noncomputable def b8p:IC:=X5 Proofs.Tryz.f85
def a8t:List IRes:=[(.tmp 2)]
abbrev d3x:Nat:=17
def c7j:ZE:=YB [(112,.pure (preT (fun x:Str×List Int×List Int×Unit=>decide (x.2.1.length<=2000000)&&decide (x.2.2.1.length<=2000000))) (Zi (fun x:Str×List Int×List Int×Unit=>a5g x.1 x.2.1 x.2.2.1)))]
theorem d9h{G:PV->Prop}(a:Arr)(h:(d7z [(.str (Str.s (Arr.e a))),(.sl 1 false (List.map enc (Arr.d a))),(.sl 1 false (List.map enc (Arr.x a)))] fun y0=>(G ((.bool (y0.2==0)))))):Zc c7j 0 (Zb a8t G) b8p [] (ZY 17 [enc a]):=Zc.tp (.req (.abs (Arr×Int) (fun YY=>AV.pv (enc YY)) (.lit (.nil)))) h
end Go.Pl
namespace Go.Pl
open Go.RowKit
open Enc (enc dec is)
open EncL (encL decL isL)
theorem b9s: ∀ a:Str×Int×Unit,true=true->Zc c6v 0 (Zb a9q (Zm (Vd a.1 a.2.1))) a8e [] (ZY d2c (encL a)):=by
 rintro⟨⟨e⟩,n,⟨⟩⟩ _
 refine d7f e n ?_
 simp only[beq_iff_eq,decide_eq_true_eq,Zm,c4z,b7e,true_and,Vd,Sn,Je,ge_iff_le]
 split
 ·split <;> simp[*]
 ·split
  ·split <;> simp[*]
  ·simp[*]
theorem c0x: ∀ args os,Cx args os=true->Zc b1d os.length (Yi os.length FY fun r=>r=R6 args os) FK [] (Wh d1h args os):=by
 intro args os hp
 unfold Cx at hp
 split at hp
 ·rename_i n e
  refine d7b e n ?_
  exact Zd (⟨e⟩,n,()) rfl rfl
 ·cases hp
theorem BJ(e:Str): ∀ (l:List Int) (k:Nat),decide (0<=UK e l k) = !l.all (Vd e)
 | [],k=>by simp[UK]
 | n::l,k=>by
  simp only[UK,List.all_cons]
  by_cases h:Vd e n=true
  ·simp only[h,if_true,Bool.true_and];exact BJ e l (k+1)
  ·simp only[Bool.not_eq_true]at h;simp[h]
theorem a9c(e:List UInt8)(l:List Int)(t:Bool)(hl:l.length<=2000000)(r:AV×List AObj×List AObj): ∀ (m k:Nat),m+k=l.length->r=(.pv (.int .i64 (UK ⟨e⟩ (l.drop k) k)),[.box [.pv (.str e)]],[]) ->
  At Aa 1 (Yi 1 JM fun x=>x=r) JK 0 b0b [(0,.pv (.sl 1 t (l.map enc))),(1,.fn 172 [] [.ptr 0 0]),(7,.pv (.int .i64 l.length)),(8,.pv (.int .i64 k))] [.obj (.box [.pv (.str e)])]:=by
 intro m
 induction m with
 | zero=>
  intro k hk hr
  refine b1a e l t k ?_
  rw[if_neg (by simp;omega),hr,List.drop_of_length_le (by omega)]
  rfl
 | succ m ih=>
  intro k hk hr
  have hlt:k<l.length:=by omega
  refine b1a e l t k ?_
  rw[if_pos (by simp;omega)]
  refine⟨by simp;omega,l[k],by rw[Xz _ hlt],?_⟩
  rw[List.drop_eq_getElem_cons hlt,UK]at hr
  show if (!Vd ⟨e⟩ l[k])=true then _ else _
  cases h:Vd ⟨e⟩ l[k]with
  | true=>
   rw[if_neg (by simp),next (by omega)]
   rw[h,if_pos rfl]at hr
   exact ih (k+1) (by omega) hr
  | false=>
   rw[if_pos (by decide)]
   rw[h,if_neg (by simp)]at hr
   exact hr.symm
theorem c3h: ∀ args os,WK args os=true->Zc Aa os.length (Yi os.length JM fun r=>r=Ct args os) JK [] (Wh b0b args os):=by
 intro args os hp
 unfold WK at hp
 split at hp
 ·rename_i t xs e
  simp only[Bool.and_eq_true,decide_eq_true_eq]at hp
  rw[a3j hp.1]
  have hl:(xs.map (dec:PV->Int)).length<=2000000:=by simpa using hp.2
  generalize xs.map (dec:PV->Int)=l at hl ⊢
  refine d5o e l t ?_
  rw[List.length_map]
  refine a9c e l t hl _ l.length 0 (by omega) ?_
  simp[Ct]
 ·cases hp
theorem c6d: ∀ args os,WK args os=true->Zc b2l os.length (Yi os.length Ot fun r=>r=RX args os) F8 [] (Wh d0g args os):=by
 intro args os hp
 have hp':=hp
 unfold WK at hp
 split at hp
 ·rename_i t xs e
  simp only[Bool.and_eq_true,decide_eq_true_eq]at hp
  rw[a3j hp.1]at hp' ⊢
  exact d8t e _ t ⟨hp',rfl⟩
 ·cases hp
theorem Re: ∀ a:Str×List Int×Unit,decide (a.2.1.length<=2000000)=true->Zc CX 0 (Zb D6 (Zm (a.2.1.all (Vd a.1)))) DN [] (ZY Li (encL a)):=by
 rintro⟨⟨e⟩,l,⟨⟩⟩ hp
 refine Od e l ⟨?_,rfl,?_⟩
 ·simpa [WK]using hp
 ·simp[BJ]
theorem b7m: ∀ a:Str×List Int×List Int×Unit,(decide (a.2.1.length<=2000000)&&decide (a.2.2.1.length<=2000000))=true->Zc b3i 0 (Zb a2i (Zm (a5g a.1 a.2.1 a.2.2.1))) a0y [] (ZY b9u (encL a)):=by
 rintro⟨⟨e⟩,d,x,⟨⟩⟩ hp
 simp only[Bool.and_eq_true,decide_eq_true_eq]at hp
 refine c9a e d x ?_
 have hp1:=hp.1
 have hp2:=hp.2
 simp only[preT,Zi,P7,EL,SV,Lu,d6a,OM,d2g,c2z,d0c,MW,List.isEmpty_iff,Bool.and_true,beq_self_eq_true,Bool.or_true,Bool.true_and,decide_eq_true_eq,AV.pv.injEq,d3z,exists_eq_left',hp1,hp2,true_and,Enc.sz,List.length_map,Zm,d1b,d4t,d1f,b9w,c5o,c0v,List.all_nil,List.isEmpty_nil,Bool.true_or,List.map_nil,Bool.not_eq_true',beq_eq_false_iff_ne,bne_iff_ne,a5g,Sn,Je]
 by_cases h1:e=[105,110,116]
 ·simp only[h1,ne_eq,not_true,if_false,false_and]
  split
  ·rfl
  ·split
   ·rfl
   ·split
    ·simp_all
    ·simp_all
 ·simp only[h1,ne_eq,not_false_eq_true,if_true,true_and]
  split
  ·rfl
  ·split
   ·rfl
   ·split
    ·rfl
    ·split
     ·simp_all
     ·simp_all
theorem c0s: ∀ a:Arr×Unit,a8d a.1=true->Zc c7j 0 (Zb a8t (Zm (b3u a.1))) b8p [] (ZY d3x (encL a)):=by
 rintro⟨a,⟨⟩⟩ hp
 refine d9h a ⟨Ze (a.e,a.d,a.x,()) rfl hp,Zd (a.e,a.d,a.x,()) rfl ?_⟩
 exact⟨rfl,rfl⟩
end Go.Pl
namespace Go.Pl
open Go.RowKit
set_option maxRecDepth 100000
def WS:IC:=(Vh [ZC 4 (.mv (UF 0)) 0] (.seq (Vh [ZC 6 (WJ 0) 0,ZC 7 (.len 1 (.t 6)) 0,ZC 8 (.mv (UF 0)) 0] (.block 0 (.loop [8,7,1,0] (Vh [ZC 9 (K5 .lss (.t 8) (.t 7)) 0] (.seq (.cond (.t 9) .skip (.exit 0)) (.seq (.block 1 (Vh [ZC 10 (WJ 8) 0,ZC 5 (WJ 10) 0] (Vh [ZC 11 (WJ 1) 0,ZC 12 (WJ 0) 0,ZC 13 (WJ 5) 0,ZC 14 (.iaddr 1 (.t 12) (.t 13)) 0,ZC 15 (DV [(.int .i64)] (.t 14)) 0,ZC 16 (K5 .eql (.t 11) (.t 15)) 0] (.cond (.t 16) (Vh [ZC 17 (WJ 5) 0,ZC 4 (WJ 17) 0] .ret) .skip)))) (.reg [ZC 18 (K5 .add (.t 8) (UF 1)) 0,ZC 8 (WJ 18) 0] none))))))) (Vh [ZC 4 (.mv (.c (.int .i64 (-1)))) 0] .ret)))
def WO:List IRes:=[(.tmp 4)]
def VP:ZE:=YB []
theorem a6v{r:PV}(ns:List Int)(t:Bool)(v:Int)(hn:At VP 0 (fun st=>fin st WO=some r) WS 0 19 [(0,(.pv (.sl 1 t (Zy ns)))),(1,(.pv (.int .i64 v))),(7,(.pv (.int .i64 (↑(Zy ns).length:Int)))),(8,(.pv (.int .i64 0)))] []):Zc VP 0 (fun st=>fin st WO=some r) WS [] (ZY 19 [.sl 1 t (Zy ns),.int .i64 v]):=Zc.w (.nil) hn (by kernel_rfl)
theorem OL{r:PV}(ns:List Int)(t:Bool)(v:Int)(i:Int)(h0:(decide (i<(↑(Zy ns).length:Int)))=true)(h1:(decide (0<=i)&&decide (i.toNat<(Zy ns).length)&&1==1)=true)(h2:(decide (0+[Sh.int .i64].length<=((Zy ns).getD i.toNat default).cells.length)&&ZU ((Zy ns).getD i.toNat default).cells 0 [Sh.int .i64])=true)(h3:(v==(((Zy ns).getD i.toNat default).cells.getD 0 default).asInt)=true)(hr:(.int .i64 i)=r):At VP 0 (fun st=>fin st WO=some r) WS 0 19 [(0,.pv (.sl 1 t (Zy ns))),(1,.pv (.int .i64 v)),(7,.pv (.int .i64 (Zy ns).length)),(8,.pv (.int .i64 i))] []:=At.w (.lit (.ans true (.req (.req (.lit (.ans true (.nil))))))) (And.intro h0 (And.intro h1 (And.intro h2 (And.intro h3 hr)))) (by kernel_rfl)
theorem Ev{r:PV}(ns:List Int)(t:Bool)(v:Int)(i:Int)(h0:(decide (i<(↑(Zy ns).length:Int)))=true)(h1:(decide (0<=i)&&decide (i.toNat<(Zy ns).length)&&1==1)=true)(h2:(decide (0+[Sh.int .i64].length<=((Zy ns).getD i.toNat default).cells.length)&&ZU ((Zy ns).getD i.toNat default).cells 0 [Sh.int .i64])=true)(h3:(v==(((Zy ns).getD i.toNat default).cells.getD 0 default).asInt)=false)(hn:At VP 0 (fun st=>fin st WO=some r) WS 0 19 [(0,(.pv (.sl 1 t (Zy ns)))),(1,(.pv (.int .i64 v))),(7,(.pv (.int .i64 (↑(Zy ns).length:Int)))),(8,(.pv (.int .i64 (IntKind.i64.wrap (i+1)))))] []):At VP 0 (fun st=>fin st WO=some r) WS 0 19 [(0,.pv (.sl 1 t (Zy ns))),(1,.pv (.int .i64 v)),(7,.pv (.int .i64 (Zy ns).length)),(8,.pv (.int .i64 i))] []:=At.w (.lit (.ans true (.req (.req (.lit (.ans false (.lit (.nil)))))))) (And.intro h0 (And.intro h1 (And.intro h2 (And.intro h3 hn)))) (by kernel_rfl)
theorem Es{r:PV}(ns:List Int)(t:Bool)(v:Int)(i:Int)(h0:(decide (i<(↑(Zy ns).length:Int)))=false)(hr:(.int .i64 (-1))=r):At VP 0 (fun st=>fin st WO=some r) WS 0 19 [(0,.pv (.sl 1 t (Zy ns))),(1,.pv (.int .i64 v)),(7,.pv (.int .i64 (Zy ns).length)),(8,.pv (.int .i64 i))] []:=At.w (.lit (.ans false (.nil))) (And.intro h0 hr) (by kernel_rfl)
end Go.Pl
namespace Go.Pl
open Go.RowKit
def OW(v:Int):List Int->Nat->Int
 | [],_=> -1
 | n::r,i=>bif v==n then i else OW v r (i+1)
theorem b1o{v:Int}: ∀ {l:List Int} {i:Nat},decide (0<=OW v l i)=l.any (· == v):=by
 intro l
 induction l with
 | nil=>intro i;rfl
 | cons n r ih=>
  intro i
  simp only[OW,List.any_cons]
  by_cases h:v=n
  ·subst h;simp
  ·have h1:(v==n)=false:=by simpa using h
   have h2:(n==v)=false:=by simp;omega
   simp only[h1,h2,cond_false,Bool.false_or]
   exact ih
def KL:List PV->PV
 | [.sl _ _ xs,.int _ v]=>.int .i64 (OW v (xs.map PV.asInt) 0)
 | _=>.nilp
theorem EF(ns:List Int)(t:Bool)(v:Int)(hl:ns.length<=1099511627776){r:PV}: ∀ (m k:Nat),m+k=ns.length->r = .int .i64 (OW v (ns.drop k) k) ->
  At VP 0 (fun st=>fin st WO=some r) WS 0 19 [(0,.pv (.sl 1 t (Zy ns))),(1,.pv (.int .i64 v)),(7,.pv (.int .i64 (Zy ns).length)),(8,.pv (.int .i64 k))] []:=by
 intro m
 induction m with
 | zero=>
  intro k hk hr
  rw[List.drop_of_length_le (by omega)]at hr
  exact Es ns t v k (by simp;omega) hr.symm
 | succ m ih=>
  intro k hk hr
  have hlt:k<ns.length:=by omega
  have e:=Aq hlt
  rw[List.drop_eq_getElem_cons hlt,OW]at hr
  cases hb:v==ns[k]with
  | true=>
   rw[hb,cond_true]at hr
   exact OL ns t v k (by simp;omega) (by simp;omega) (by rw[e];rfl) (by rw[e];exact hb) hr.symm
  | false=>
   rw[hb,cond_false]at hr
   refine Ev ns t v k (by simp;omega) (by simp;omega) (by rw[e];rfl) (by rw[e];exact hb) ?_
   rw[next (by omega)]
   exact ih (k+1) (by omega) hr
theorem a6h: ∀ ps,Yb ps=true->Zc VP 0 (fun st=>fin st WO=some (KL ps)) WS [] (ZY 19 ps):=by
 intro ps hp
 unfold Yb at hp
 split at hp
 ·rename_i t xs v
  simp only[Bool.and_eq_true,decide_eq_true_eq]at hp
  obtain⟨ns,rfl⟩:=PP hp.1
  refine a6v ns t v ?_
  exact EF ns t v (by have:=hp.2;rwa [D7]at this) ns.length 0 (by omega) (by simp[KL])
 ·cases hp
def PV.ns(p:PV):List Int:=p.asXs.map PV.asInt
def Kl:IC:=(Vh [ZC 4 (f'' false) 0] (Vh [ZC 5 (WJ 0) 0,ZC 6 (WJ 1) 0,ZC 7 (c'' 193 [(.t 5),(.t 6)]) 0,ZC 8 (K5 .geq (.t 7) (UF 0)) 2,ZC 4 (WJ 8) 2] .ret))
def Ke:List IRes:=[(.tmp 4)]
abbrev L8:Nat:=9
def Jh:ZE:=YB [(193,.pure Yb KL)]
theorem Rc{r:PV}(ns:List Int)(t:Bool)(v:Int)(h0:(Yb [(.sl 1 t (Zy ns)),(.int .i64 v)])=true)(hr:(.bool (decide (OW v (List.map PV.asInt (Zy ns)) 0 ≥ 0)))=r):Zc Jh 0 (fun st=>fin st Ke=some r) Kl [] (ZY 9 [.sl 1 t (Zy ns),.int .i64 v]):=Zc.w (.req (.lit (.nil))) (And.intro h0 hr) (by kernel_rfl)
theorem PQ: ∀ ps,Yb ps=true->Zc Jh 0 (fun st=>fin st Ke=some (VQ ps)) Kl [] (ZY L8 ps):=by
 intro ps hp
 have hp':=hp
 unfold Yb at hp
 split at hp
 ·rename_i t xs v
  simp only[Bool.and_eq_true,decide_eq_true_eq]at hp
  obtain⟨ns,rfl⟩:=PP hp.1
  refine Rc ns t v hp' ?_
  have:=b1o (v:=v) (l:=ns) (i:=0)
  simp only[Vk,VQ,AC,ge_iff_le]
  rw[<- this]
 ·cases hp
end Go.Pl
namespace Go.Pl
open Go.RowKit
open Enc (enc dec is)
open EncL (encL decL isL)
set_option maxRecDepth 100000
end Go.Pl
namespace Go.Pl
open Go.RowKit
open Enc (enc dec is)
open EncL (encL decL isL)
theorem b4a{s:List UInt8}{i:Nat}(h:i<s.length):List.getD (ZR s) (Int.toNat (i:Int)) default = .int .u8 (s[i].toNat:Int):=by
 simp[ZR,List.getD,h]
theorem Gx(s:List UInt8):(ZR s).length=s.length:=by simp[ZR]
def Nf(c:UInt8):Bool:=lowB c||digB c
theorem a0k{c:UInt8}:lowB c=true ↔ 97<=c.toNat∧c.toNat<=122:=by
 simp only[lowB,Bool.and_eq_true,decide_eq_true_eq,UInt8.le_iff_toNat_le]
 have e1:(97:UInt8).toNat=97:=rfl
 have e2:(122:UInt8).toNat=122:=rfl
 rw[e1,e2]
theorem SA{c:UInt8}(h : ¬ (97<=c.toNat∧c.toNat<=122)):lowB c=false:=by
 cases e:lowB c
 ·rfl
 ·exact absurd (a0k.1 e) h
theorem TV{c:UInt8}(h : ¬ (48<=c.toNat∧c.toNat<=57)):digB c=false:=by
 cases e:digB c
 ·rfl
 ·exact absurd (Vz.1 e) h
def Ve(s:List UInt8)(i:Nat):Bool:=(match i with|0=>(match s with|[]=>true|c::r=>lowB c&&r.all Nf)|i+1=>(s.drop (i+1)).all Nf)&&(!(s==[]))&&decide (s.length<=30)
theorem a5h{s:List UInt8}{i:Nat}(h:i<s.length)(hb:lowB s[i]=true∨(i≠0∧digB s[i]=true)):Ve s i=Ve s (i+1):=by
 cases i with
 | zero=>
  cases s with
  | nil=>simp at h
  | cons c r=>
   rcases hb with hb|hb
   ·have hb:lowB c=true:=hb
    simp[Ve,hb]
   ·exact absurd rfl hb.1
 | succ i=>
  unfold Ve
  simp only
  rw[List.drop_eq_getElem_cons h,List.all_cons]
  have:Nf s[i+1]=true:=by
   rcases hb with hb|hb
   ·simp[Nf,hb]
   ·simp[Nf,hb.2]
  rw[this,Bool.true_and]
theorem a4u{s:List UInt8}{i:Nat}(h:i<s.length)(hb:lowB s[i]=false∧(i=0∨digB s[i]=false)):Ve s i=false:=by
 cases i with
 | zero=>
  cases s with
  | nil=>simp at h
  | cons c r=>
   have hb:lowB c=false:=hb.1
   simp[Ve,hb]
 | succ i=>
  unfold Ve
  simp only
  rw[List.drop_eq_getElem_cons h,List.all_cons]
  have:Nf s[i+1]=false:=by
   rcases hb.2 with h0|h0
   ·cases h0
   ·simp[Nf,hb.1,h0]
  rw[this];simp
theorem a7f{s:List UInt8}(h:[95].isPrefixOf s=false):WN ⟨s⟩=Ve s 0:=by
 cases s with
 | nil=>rfl
 | cons c r=>
  have hc : ¬ c=95:=by intro e;subst e;simp at h
  have e:decide ((c::r).length<=30)=decide (r.length<=29):=decide_eq_decide.2 (by simp)
  unfold Ve
  rw[e]
  simp only[WN,if_neg hc]
  show _=(lowB c&&r.all Nf&& !((c::r)==[])&&_)
  have e2:((c::r)==[])=false:=rfl
  rw[e2]
  simp only[Bool.not_false,Bool.and_true]
  rfl
theorem EA(s:Str): -9223372036854775808<=(Xj s).1∧((Xj s).1<=9223372036854775807):=by
 unfold Xj
 split
 ·rename_i v hv;exact Lib.atoiAll_bounds hv
 ·have:=Lib.atoiSat_bounds s.s
  exact⟨by show _<=Lib.atoiSat s.s;omega,by show Lib.atoiSat s.s<=_;omega⟩
 ·exact⟨by show(-9223372036854775808:Int)<=0;omega,by show(0:Int)<=_;omega⟩
end Go.Pl
namespace Go.Pl
open Go.RowKit
open Enc (enc dec is)
open EncL (encL decL isL)
set_option maxRecDepth 100000
abbrev c7p(ps:List PV)(k:Int->Prop):Prop:=ceP (fun(x:Int×Int×Unit)=>JN (Prod.fst x) (Prod.fst (Prod.snd x))) ps k
abbrev d9r(ps:List PV)(k:Int->Prop):Prop:=ceP (fun(x:Coef×Coef×Unit)=>Dr (Prod.fst x) (Prod.fst (Prod.snd x))) ps k
abbrev d8w(ps:List PV)(k:Int->Prop):Prop:=WH (fun(x:List Coef×List Coef×FnV 121×Unit)=>decide (List.length (Prod.fst x)<=9223372036854775807)&&decide (List.length (Prod.fst (Prod.snd x))<=9223372036854775807)) (fun(x:List Coef×List Coef×FnV 121×Unit)=>Wm (Prod.fst x) (Prod.fst (Prod.snd x))) ps k
abbrev d6t(ps:List PV)(k:Int->Prop):Prop:=WH (fun(x:Lin×Lin×Unit)=>Yp (Prod.fst x)&&Yp (Prod.fst (Prod.snd x))) (fun(x:Lin×Lin×Unit)=>V8 (Prod.fst x) (Prod.fst (Prod.snd x))) ps k
noncomputable def TY:IC:=X5 Proofs.Tryz.f123
def GZ:List IRes:=[(.tmp 4)]
abbrev a6p:Nat:=13
def Ay:ZE:=YB []
theorem b3w{G:PV->Prop}(a b:Int)(h:if (decide (a<b))=true then G ((.int .i64 (-1)))else(if (decide (a>b))=true then G ((.int .i64 1))else(G ((.int .i64 0))))):Zc Ay 0 (Zb GZ G) TY [] (ZY 13 [enc a,enc b]):=Zc.tp (dm [] 14 0x142000142) h
noncomputable def Ld:IC:=X5 Proofs.Tryz.f121
def Bb:List IRes:=[(.tmp 4)]
abbrev b9i:Nat:=19
def R5:ZE:=YB [(122,.pure (preT (fun _:Str×Str×Unit=>true)) (Zi (fun x:Str×Str×Unit=>Lib.compareBytes x.1.s x.2.1.s))),(123,.pure (preT (fun _:Int×Int×Unit=>true)) (Zi (fun x:Int×Int×Unit=>JN x.1 x.2.1)))]
theorem c3j{G:PV->Prop}(x y:Coef)(h : ∃ y0:Int,AV.pv (Zi (fun(x:Str×Str×Unit)=>Lib.compareBytes (Str.s x.1) (Str.s x.2.1)) [(.str (Str.s x.v)),(.str (Str.s y.v))])=AV.pv (enc y0)∧(if (y0 != 0)=true then G ((.int .i64 y0))else(c7p [(.int .i64 x.c),(.int .i64 y.c)] fun y1=>(G ((.int .i64 y1)))))):Zc R5 0 (Zb Bb G) Ld [] (ZY 19 [enc x,enc y]):=Zc.tp (dm [dv Int] 12 0x5200014252) h
noncomputable def Qe:IC:=X5 Proofs.Tryz.f120
def U4:List IRes:=[(.tmp 6)]
abbrev b1j:Nat:=39
def KS:ZE:=YB [(121,.pure (preT (fun _:Coef×Coef×Unit=>true)) (Zi (fun x:Coef×Coef×Unit=>Dr x.1 x.2.1)))]
theorem c4v{G:PV->Prop}(a b:List Coef)(h:At KS 0 (Zb U4 G) Qe 0 39 [(0,(.pv (.sl 2 false (List.map enc a)))),(1,(.pv (.sl 2 false (List.map enc b)))),(2,(.pv (.fn 121))),(11,(.pv (.sl 2 false (List.map enc a)))),(12,(.pv (.int .i64 (↑(List.length (List.map enc a)):Int)))),(13,(.pv (.int .i64 0)))] []):Zc KS 0 (Zb U4 G) Qe [] (ZY 39 [enc a,enc b,.fn 121]):=Zc.tp (.nil) h
theorem LH{G:PV->Prop}(a b:List Coef)(i:Int)(h:if (decide (i<(↑(List.length a):Int)))=true then(XF a i 2 fun y0=>(if (decide (i ≥ (↑(List.length (List.map enc b)):Int)))=true then G ((.int .i64 1))else((XF b i 2 fun y1=>(d9r [(.agg [(.str (PV.asStr (List.getD (PV.cells (enc y0)) 0 default))),(.int .i64 (PV.asInt (List.getD (PV.cells (enc y0)) (0+1) default)))]),(.agg [(.str (PV.asStr (List.getD (PV.cells (enc y1)) 0 default))),(.int .i64 (PV.asInt (List.getD (PV.cells (enc y1)) (0+1) default)))])] fun y2=>(if (y2 != 0)=true then G ((.int .i64 y2))else(At KS 0 (Zb U4 G) Qe 0 39 [(0,(.pv (.sl 2 false (List.map enc a)))),(1,(.pv (.sl 2 false (List.map enc b)))),(2,(.pv (.fn 121))),(11,(.pv (.sl 2 false (List.map enc a)))),(12,(.pv (.int .i64 (↑(List.length a):Int)))),(13,(.pv (.int .i64 (IntKind.wrap IntKind.i64 (i+1)))))] [])))))))else(if (decide ((↑(List.length (List.map enc a)):Int)<(↑(List.length (List.map enc b)):Int)))=true then G ((.int .i64 (-1)))else(G ((.int .i64 0))))):At KS 0 (Zb U4 G) Qe 0 39 [(0,.pv (enc a)),(1,.pv (enc b)),(2,.pv (.fn 121)),(11,.pv (enc a)),(12,.pv (.int .i64 a.length)),(13,.pv (.int .i64 i))] []:=At.tp (dm [dr Coef,dv Int] 35 0x142020001426225100014225101642) h
noncomputable def a1i:IC:=X5 Proofs.Tryz.f89
def Pt:List IRes:=[(.tmp 4)]
abbrev b9o:Nat:=19
def OZ:ZE:=YB [(120,.pure (preT (fun x:List Coef×List Coef×FnV 121×Unit=>decide (x.1.length<=9223372036854775807)&&decide (x.2.1.length<=9223372036854775807))) (Zi (fun x:List Coef×List Coef×FnV 121×Unit=>Wm x.1 x.2.1))),(123,.pure (preT (fun _:Int×Int×Unit=>true)) (Zi (fun x:Int×Int×Unit=>JN x.1 x.2.1)))]
theorem d0f{G:PV->Prop}(a b:Lin)(h:(d8w [(.sl 2 false (List.map enc a.t)),(.sl 2 false (List.map enc b.t)),(.fn 121)] fun y0=>(if (y0 != 0)=true then G ((.int .i64 y0))else(c7p [(.int .i64 a.k),(.int .i64 b.k)] fun y1=>(G ((.int .i64 y1))))))):Zc OZ 0 (Zb Pt G) a1i [] (ZY 19 [enc a,enc b]):=Zc.tp (dm [dv Int] 12 0x5200014251) h
noncomputable def b1m:IC:=X5 Proofs.Tryz.f63
def b2f:List IRes:=[(.tmp 4)]
abbrev d3y:Nat:=9
def c7d:ZE:=YB [(89,.pure (preT (fun x:Lin×Lin×Unit=>Yp x.1&&Yp x.2.1)) (Zi (fun x:Lin×Lin×Unit=>V8 x.1 x.2.1)))]
theorem d7t{G:PV->Prop}(a b:Lin)(h:(d6t [(.agg [(.int .i64 a.k),(.sl 2 false (List.map enc a.t))]),(.agg [(.int .i64 b.k),(.sl 2 false (List.map enc b.t))])] fun y0=>(G ((.bool (y0==0)))))):Zc c7d 0 (Zb b2f G) b1m [] (ZY 9 [enc a,enc b]):=Zc.tp (.req (.abs (Int) (fun YY=>AV.pv (enc YY)) (.lit (.nil)))) h
end Go.Pl
namespace Go.Pl
open Go.RowKit
open Enc (enc dec is)
open EncL (encL decL isL)
theorem O8: ∀ a:Int×Int×Unit,true=true->Zc Ay 0 (Zb GZ (Zm (JN a.1 a.2.1))) TY [] (ZY a6p (encL a)):=by
 rintro⟨a,b,⟨⟩⟩ -
 show Zc Ay 0 (Zb GZ (Zm (JN a b))) _ _ _
 refine b3w a b (WC (fun h=> ?_) fun h=>WC (fun k=> ?_) fun k=> ?_)
 ·exact Uj (by simp[JN,h])
 ·exact Uj (by simp[JN,h,k])
 ·exact Uj (by simp[JN,h,k])
theorem a5j: ∀ a:Coef×Coef×Unit,true=true->Zc R5 0 (Zb Bb (Zm (Dr a.1 a.2.1))) Ld [] (ZY b9i (encL a)):=by
 rintro⟨x,y,⟨⟩⟩ -
 show Zc R5 0 (Zb Bb (Zm (Dr x y))) _ _ _
 unfold Dr
 refine c3j x y (Zd (x.v,y.v,()) rfl (AY (fun h=> ?_) fun h=>Zd (x.c,y.c,()) rfl ?_))
 ·have h:Lib.compareBytes x.v.s y.v.s≠0:=by simpa using h
  rw[if_pos h]
  exact Uj rfl
 ·have h : ¬ Lib.compareBytes x.v.s y.v.s≠0:=by simpa using h
  rw[if_neg h]
  exact Uj rfl
theorem NJ(t:Coef):(PV.agg [.str (PV.asStr (List.getD (PV.cells (enc t)) 0 default)),.int .i64 (PV.asInt (List.getD (PV.cells (enc t)) (0+1) default))])=enc t:=rfl
theorem EB(a b:List Coef)(ha:a.length<=9223372036854775807): ∀ (m i:Nat),m+i=a.length->i<=b.length ->
  At KS 0 (Zb U4 (Zm (Wm (a.drop i) (b.drop i)))) Qe 0 39 [(0,.pv (enc a)),(1,.pv (enc b)),(2,.pv (.fn 121)),(11,.pv (enc a)),(12,.pv (.int .i64 a.length)),(13,.pv (.int .i64 i))] []:=by
 intro m
 induction m with
 | zero=>
  intro i hi hb
  have ea:a.drop i=[]:=List.drop_of_length_le (by omega)
  rw[ea]
  refine LH a b i (Yz (WE (by omega)) (WC (fun h=> ?_) fun h=> ?_))
  ·have h:a.length<b.length:=by simpa using h
   have:b.drop i=b[i]::b.drop (i+1):=List.drop_eq_getElem_cons (by omega)
   rw[this]
   exact Uj (by rw[Wm])
  ·have h : ¬ a.length<b.length:=by simpa using h
   have:b.drop i=[]:=List.drop_of_length_le (by omega)
   rw[this]
   exact Uj (by rw[Wm])
 | succ m ih=>
  intro i hi hb
  have hlt:i<a.length:=by omega
  have ea:a.drop i=a[i]::a.drop (i+1):=List.drop_eq_getElem_cons hlt
  rw[ea]
  refine LH a b i (Yq (WR hlt) ⟨Zn hlt rfl,Zw hlt (WC (fun h=> ?_) fun h=> ?_)⟩)
  ·have h:b.length<=i:=by
    have:(i:Int) ≥ ((List.map (enc:Coef->PV) b).length:Int):=h
    rw[List.length_map]at this
    omega
   have:b.drop i=[]:=List.drop_of_length_le h
   rw[this]
   exact Uj (by rw[Wm])
  ·have h:i<b.length:=by
    have : ¬ (i:Int) ≥ ((List.map (enc:Coef->PV) b).length:Int):=h
    rw[List.length_map]at this
    omega
   have eb:b.drop i=b[i]::b.drop (i+1):=List.drop_eq_getElem_cons h
   rw[eb]
   refine⟨Zn h rfl,Zw h ?_⟩
   rw[NJ,NJ]
   refine Zd (a[i],b[i],()) rfl (AY (fun hc=> ?_) fun hc=> ?_)
   ·have hc:Dr a[i] b[i]≠0:=by simpa using hc
    exact Uj (by rw[Wm,if_pos hc])
   ·have hc : ¬ Dr a[i] b[i]≠0:=by simpa using hc
    have e:Wm (a[i]::a.drop (i+1)) (b[i]::b.drop (i+1))=Wm (a.drop (i+1)) (b.drop (i+1)):=by rw[Wm,if_neg hc]
    rw[e,next (by omega)]
    exact ih (i+1) (by omega) (by omega)
theorem a7b: ∀ a:List Coef×List Coef×FnV 121×Unit,(decide (a.1.length<=9223372036854775807)&&decide (a.2.1.length<=9223372036854775807))=true->Zc KS 0 (Zb U4 (Zm (Wm a.1 a.2.1))) Qe [] (ZY b1j (encL a)):=by
 rintro⟨a,b,g,⟨⟩⟩ h
 simp only[Bool.and_eq_true,decide_eq_true_eq]at h
 refine c4v a b ?_
 rw[List.length_map]
 exact EB a b h.1 a.length 0 (by omega) (by omega)
theorem b3m: ∀ a:Lin×Lin×Unit,(Yp a.1&&Yp a.2.1)=true->Zc OZ 0 (Zb Pt (Zm (V8 a.1 a.2.1))) a1i [] (ZY b9o (encL a)):=by
 rintro⟨a,b,⟨⟩⟩ h
 show Zc OZ 0 (Zb Pt (Zm (V8 a b))) _ _ _
 unfold V8
 refine d0f a b ⟨Ze (a.t,b.t,({}:FnV 121),()) rfl h,Zd (a.t,b.t,({}:FnV 121),()) rfl (AY (fun hc=> ?_) fun hc=>Zd (a.k,b.k,()) rfl ?_)⟩
 ·have hc:Wm a.t b.t≠0:=by simpa using hc
  rw[if_pos hc]
  exact Uj rfl
 ·have hc : ¬ Wm a.t b.t≠0:=by simpa using hc
  rw[if_neg hc]
  exact Uj rfl
theorem c3i: ∀ a:Lin×Lin×Unit,(Yp a.1&&Yp a.2.1)=true->Zc c7d 0 (Zb b2f (Zm (V8 a.1 a.2.1==0))) b1m [] (ZY d3y (encL a)):=by
 rintro⟨a,b,⟨⟩⟩ h
 exact d7t a b ⟨Ze (a,b,()) rfl h,Zd (a,b,()) rfl (ZI rfl)⟩
structure BoxT where
 v:List Str
 m:Int
 deriving DecidableEq
instance:Enc BoxT where
 sz:=2
 enc x:=.agg [enc x.v,enc x.m]
 dec | .agg [a,b]=>⟨dec a,dec b⟩|_=>⟨[],0⟩
 is | .agg [a,b]=>is (List Str) a&&is Int b|_=>false
 is_enc v:=by simp
 dec_enc v:=by simp
 sub p h:=by
  cases p with
  | agg xs=>
   match xs,h with
   | [a,b],h=>
    simp only[Bool.and_eq_true]at h
    exact .agg (.cons (Enc.sub a h.1).2 (.cons (Enc.sub b h.2).2 .nil))
  | _=>cases h
@[simp] theorem d9u (a b : PV) : is BoxT (.agg [a, b]) = (is (List Str) a && is Int b) := rfl
@[simp] theorem d6s (a b : PV) : (dec (.agg [a, b]) : BoxT) = ⟨dec a, dec b⟩ := rfl
structure Mono where
 c:Int
 v:List Str
 deriving DecidableEq
instance:Enc Mono where
 sz:=2
 enc x:=.agg [enc x.c,enc x.v]
 dec | .agg [a,b]=>⟨dec a,dec b⟩|_=>⟨0,[]⟩
 is | .agg [a,b]=>is Int a&&is (List Str) b|_=>false
 is_enc v:=by simp
 dec_enc v:=by simp
 sub p h:=by
  cases p with
  | agg xs=>
   match xs,h with
   | [a,b],h=>
    simp only[Bool.and_eq_true]at h
    exact .agg (.cons (Enc.sub a h.1).2 (.cons (Enc.sub b h.2).2 .nil))
  | _=>cases h
@[simp] theorem d9z (a b : PV) : is Mono (.agg [a, b]) = (is Int a && is (List Str) b) := rfl
@[simp] theorem d8o (a b : PV) : (dec (.agg [a, b]) : Mono) = ⟨dec a, dec b⟩ := rfl
structure NilS where
 deriving DecidableEq
instance:Enc NilS where
 sz:=1
 enc _:=.sl 0 true []
 dec _:=⟨⟩
 is | .sl 0 true []=>true|_=>false
 is_enc _:=rfl
 dec_enc _:=rfl
 sub p h:=by
  cases p with
  | sl s t xs=>
   cases xs with
   | nil=>cases s with
    | zero=>cases t with
     | true=>exact .refl _
     | false=>cases h
    | succ s=>cases h
   | cons x xs=>cases s <;> cases t <;> cases h
  | _=>cases h
end Go.Pl
namespace Go.Pl
open Go.RowKit
open Enc (enc dec is)
open EncL (encL decL isL)
set_option maxRecDepth 100000
abbrev d8i(ps:List PV)(k:Int×Er->Prop):Prop:=WH (fun(x:Str×Unit)=>decide (List.length (Str.s (Prod.fst x))<=281474976710656)) (fun(x:Str×Unit)=>Xj (Prod.fst x)) ps k
abbrev d7y(ps:List PV)(k:Str->Prop):Prop:=WH (fun(x:Int×Unit)=>decide ((-9223372036854775808:Int)<=Prod.fst x)&&decide (Prod.fst x<=9223372036854775807)) (fun(x:Int×Unit)=>VY (Prod.fst x)) ps k
-- IMPOSSIBLE
noncomputable def Xh:IC:=X5 Proofs.Tryz.f140
def Xg:List IRes:=[(.tmp 2)]
abbrev a7j:Nat:=67
def XP:ZE:=YB [(169,.pure (preT (fun _:Str×Str×Unit=>true)) (Zi (fun x:Str×Str×Unit=>x.2.1.s.isPrefixOf x.1.s))),(170,.pure (preT (fun x:Str×Unit=>decide (x.1.s.length<=281474976710656))) (Zi (fun x:Str×Unit=>Xj x.1))),(68,.pure (preT (fun x:Int×Unit=>decide (-9223372036854775808<=x.1)&&decide (x.1<=9223372036854775807))) (Zi (fun x:Int×Unit=>VY x.1)))]
theorem b7p{G:PV->Prop}(s:List UInt8)(h : ∃ y0:Bool,AV.pv (Zi (fun(x:Str×Str×Unit)=>List.isPrefixOf (Str.s x.2.1) (Str.s x.1)) [(.str s),(.str [(95:UInt8)])])=AV.pv (enc y0)∧(if (y0)=true then(decide (0<=1)&&true&&decide (Int.toNat 1<=List.length s)&&decide (List.length s<=List.length s))=true∧((d8i [(.str (List.drop (Int.toNat 1) (List.take (List.length s) s)))] fun y1=>((LA (enc y1.2)&&Prod.fst (true,PV.bool (Ka (enc y1.2))))=true∧(if (Ka (enc y1.2))=true then if (decide (y1.1>0))=true then if (decide ((↑(List.length s):Int)<=10))=true then(d7y [(.int .i64 y1.1)] fun y2=>((decide (0<=1)&&true&&decide (Int.toNat 1<=List.length s)&&decide (List.length s<=List.length s))=true∧(G ((.bool (Str.s y2==List.drop (Int.toNat 1) (List.take (List.length s) s)))))))else(G ((.bool false)))else(G ((.bool false)))else(G ((.bool false)))))))else(At XP 0 (Zb Xg G) Xh 0 67 [(0,(.pv (.str s))),(34,(.pv (.sl 1 false (ZR s)))),(35,(.pv (.int .i64 (↑(List.length (ZR s)):Int)))),(36,(.pv (.int .i64 0)))] []))):Zc XP 0 (Zb Xg G) Xh [] (ZY 67 [.str s]):=Zc.tp (dm [dv Bool,dv (Int×Er),dv Str] 70 0x2222222222220222222222022222022212271200a4222201842220294161103e452) h
theorem TE{G:PV->Prop}(s:List UInt8)(i:Int)(h:if (decide (i<(↑(List.length (ZR s)):Int)))=true then(decide (0<=i)&&decide (Int.toNat i<List.length (ZR s))&&1==1)=true∧((decide (0+List.length [Sh.int IntKind.u8]<=List.length (PV.cells (List.getD (ZR s) (Int.toNat i) default)))&&ZU (PV.cells (List.getD (ZR s) (Int.toNat i) default)) 0 [Sh.int IntKind.u8])=true∧(if (decide (PV.asInt (List.getD (PV.cells (List.getD (ZR s) (Int.toNat i) default)) 0 default)<97))=true then if (i==0)=true then G ((.bool false))else(if (decide (PV.asInt (List.getD (PV.cells (List.getD (ZR s) (Int.toNat i) default)) 0 default)<48))=true then G ((.bool false))else(if (decide (PV.asInt (List.getD (PV.cells (List.getD (ZR s) (Int.toNat i) default)) 0 default)>57))=true then G ((.bool false))else(At XP 0 (Zb Xg G) Xh 0 67 [(0,(.pv (.str s))),(34,(.pv (.sl 1 false (ZR s)))),(35,(.pv (.int .i64 (↑(List.length (ZR s)):Int)))),(36,(.pv (.int .i64 (IntKind.wrap IntKind.i64 (i+1)))))] [])))else(if (decide (PV.asInt (List.getD (PV.cells (List.getD (ZR s) (Int.toNat i) default)) 0 default)>122))=true then if (i==0)=true then G ((.bool false))else(if (decide (PV.asInt (List.getD (PV.cells (List.getD (ZR s) (Int.toNat i) default)) 0 default)<48))=true then G ((.bool false))else(if (decide (PV.asInt (List.getD (PV.cells (List.getD (ZR s) (Int.toNat i) default)) 0 default)>57))=true then G ((.bool false))else(At XP 0 (Zb Xg G) Xh 0 67 [(0,(.pv (.str s))),(34,(.pv (.sl 1 false (ZR s)))),(35,(.pv (.int .i64 (↑(List.length (ZR s)):Int)))),(36,(.pv (.int .i64 (IntKind.wrap IntKind.i64 (i+1)))))] [])))else(At XP 0 (Zb Xg G) Xh 0 67 [(0,(.pv (.str s))),(34,(.pv (.sl 1 false (ZR s)))),(35,(.pv (.int .i64 (↑(List.length (ZR s)):Int)))),(36,(.pv (.int .i64 (IntKind.wrap IntKind.i64 (i+1)))))] []))))else(if (!s==[])=true then G ((.bool (decide ((↑(List.length s):Int)<=30))))else(G ((.bool false))))):At XP 0 (Zb Xg G) Xh 0 67 [(0,.pv (.str s)),(34,.pv (.sl 1 false (ZR s))),(35,.pv (.int .i64 (ZR s).length)),(36,.pv (.int .i64 i))] []:=At.tp (dm [] 137 0x22202222005420222222220200014222220222220064222220222222222200b422202d42220200014222220222220064222220222222222200b42222220304213107542) h
end Go.Pl
namespace Go.Pl
open Go.RowKit
open Enc (enc dec is)
open EncL (encL decL isL)
theorem N7(s:List UInt8)(hs:s.length<=281474976710656): ∀ (m i:Nat),m+i=s.length->At XP 0 (Zb Xg (Zm (Ve s i))) Xh 0 67 [(0,.pv (.str s)),(34,.pv (.sl 1 false (ZR s))),(35,.pv (.int .i64 (ZR s).length)),(36,.pv (.int .i64 i))] []:=by
 intro m
 induction m with
 | zero=>
  intro i hi
  have e:Ve s i=(!(s==[])&&decide (s.length<=30)):=by
   unfold Ve
   cases i with
   | zero=>cases s with
    | nil=>rfl
    | cons c r=>simp at hi
   | succ i=>simp only;rw[List.drop_of_length_le (show s.length<=i+1 by omega)];simp
  rw[e]
  refine TE s i (Yz (WE (by rw[Gx];omega)) (VB (fun h=>ZI ?_) fun h=>ZI ?_))
  ·rw[h,Bool.true_and];exact decide_eq_decide.2 (by omega)
  ·rw[h,Bool.false_and]
 | succ m ih=>
  intro i hi
  have hlt:i<s.length:=by omega
  have h:=ih (i+1) (by omega)
  refine TE s i ?_
  rw[b4a hlt,next (by omega)]
  have stop:(lowB s[i]=false∧(i=0∨digB s[i]=false))->Zm (Ve s i) (.bool false):=fun hb=>ZI (a4u hlt hb).symm
  have go:(lowB s[i]=true∨(i≠0∧digB s[i]=true))->At XP 0 (Zb Xg (Zm (Ve s i))) Xh 0 67 [(0,.pv (.str s)),(34,.pv (.sl 1 false (ZR s))),(35,.pv (.int .i64 (ZR s).length)),(36,.pv (.int .i64 ((i+1:Nat):Int)))] []:=fun hb=>by rw[a5h hlt hb];exact h
  have rest:lowB s[i]=false->(if ((i:Int)==0)=true then Zm (Ve s i) (.bool false)else if decide ((s[i].toNat:Int)<48)=true then Zm (Ve s i) (.bool false)else if decide ((s[i].toNat:Int)>57)=true then Zm (Ve s i) (.bool false)else At XP 0 (Zb Xg (Zm (Ve s i))) Xh 0 67 [(0,.pv (.str s)),(34,.pv (.sl 1 false (ZR s))),(35,.pv (.int .i64 (ZR s).length)),(36,.pv (.int .i64 ((i+1:Nat):Int)))] []):=by
   intro hl
   refine Y1 (fun h0=>stop ⟨hl,.inl (by omega)⟩) fun h0=>WC (fun h1=>stop ⟨hl,.inr (TV (by omega))⟩) fun h1=>WC (fun h2=>stop ⟨hl,.inr (TV (by omega))⟩) fun h2=>go (.inr ⟨by omega,Vz.2 (by omega)⟩)
  refine Yq (WR (by rw[Gx];exact hlt)) ⟨by rw[Gx];simp[hlt],by rfl,?_⟩
  refine WC (fun h1=>rest (SA ?_)) fun h1=>WC (fun h2=>rest (SA ?_)) fun h2=>go (.inl (a0k.2 ?_))
  ·have h1:(s[i].toNat:Int)<97:=h1
   omega
  ·have h2:(s[i].toNat:Int)>122:=h2
   omega
  ·have h1 : ¬ (s[i].toNat:Int)<97:=h1
   have h2 : ¬ (s[i].toNat:Int)>122:=h2
   omega
theorem Eh: ∀ a:Str×Unit,decide (a.1.s.length<=281474976710656)=true->Zc XP 0 (Zb Xg (Zm (WN a.1))) Xh [] (ZY a7j (encL a)):=by
 rintro⟨⟨s⟩,⟨⟩⟩ hl
 have hl:s.length<=281474976710656:=by simpa using hl
 refine b7p s (Zd (⟨s⟩,⟨[95]⟩,()) rfl (VB (fun h=> ?_) fun h=> ?_))
 ·have h:[95].isPrefixOf s=true:=h
  obtain⟨r,rfl⟩ : ∃ r,s=95::r:=by
   cases s with
   | nil=>simp at h
   | cons c r=>
    have:95=c:=by simpa using h
    exact⟨r,by rw[this]⟩
  have e1:List.drop (Int.toNat 1) (List.take (List.length (95::r)) (95::r))=r:=by rw[List.take_of_length_le (Nat.le_refl _)];rfl
  simp only[e1]
  refine⟨by simp,Ze (⟨r⟩,()) rfl (by simp at hl ⊢;omega),Zd (⟨r⟩,()) rfl ⟨by show(LA (enc (Xj ⟨r⟩).2)&&true)=true;rw[d6o];rfl,?_⟩⟩
  show if Ka (enc (Xj ⟨r⟩).2)=true then(if decide ((Xj ⟨r⟩).1>0)=true then(if _ then _ else Zm (WN ⟨95::r⟩) _)else Zm (WN ⟨95::r⟩) _)else Zm (WN ⟨95::r⟩) _
  rw[b7z]
  by_cases h9:r.length<=9
  ·rw[<- c4s r h9,decide_eq_true h9,Bool.and_true]
   refine VB (fun h1=>VB (fun h2=>Yq (by simp;omega) ⟨Ze ((Xj ⟨r⟩).1,()) rfl (by have:=EA ⟨r⟩;simp;omega),Zd ((Xj ⟨r⟩).1,()) rfl ⟨by simp,ZI ?_⟩⟩) fun h2=>ZI ?_) fun h1=>ZI ?_
   ·rw[h1,h2];simp only[Bool.true_and,Bool.and_true];rfl
   ·rw[h2];simp
   ·rw[h1];simp
  ·rw[decide_eq_false h9,Bool.and_false]
   refine VB (fun h1=>VB (fun h2=>Yz (by simp;omega) (ZI rfl)) fun h2=>ZI rfl) fun h1=>ZI rfl
 ·have h:[95].isPrefixOf s=false:=h
  show At XP 0 (Zb Xg (Zm (WN ⟨s⟩))) Xh 0 67 _ _
  rw[a7f h]
  exact N7 s hl s.length 0 (by omega)
end Go.Pl
namespace Go.Pl
end Go.Pl
namespace Go.Pl.Cm
open Go.RowKit
open Enc (enc dec is)
open EncL (encL decL isL)
structure CmpOK {α:Type} (f:α->α->Int):Prop where
 anti : ∀ a b,f b a = - f a b
 zero : ∀ a b,f a b=0 ↔ a=b
 trans : ∀ a b c,f a b<=0->f b c<=0->f a c<=0
 rng : ∀ a b,-1<=f a b∧f a b<=1
theorem CmpOK.strict{α:Type}{f:α->α->Int}(h:CmpOK f){a b c:α}(h1:f a b<0)(h2:f b c<=0):f a c<0:=by
 have h3:=h.trans a b c (by omega) h2
 by_cases h0:f a c=0
 ·obtain rfl:=(h.zero a c).1 h0
  have:=h.anti a b
  omega
 ·omega
def WA{α:Type}(f:α->α->Int):List α->List α->Int
 | [],[]=>0
 | [],_::_=> -1
 | _::_,[]=>1
 | x::l,y::m=>if f x y≠0 then f x y else WA f l m
theorem Su{α:Type}{f:α->α->Int}(h:CmpOK f): ∀ a b,WA f b a = - WA f a b
 | [],[]=>rfl
 | [],_::_=>rfl
 | _::_,[]=>rfl
 | x::l,y::m=>by
  have h1:=h.anti x y
  rw[WA,WA,h1,Su h l m]
  by_cases h0:f x y=0
  ·rw[if_neg (by omega),if_neg (by omega)]
  ·rw[if_pos (by omega),if_pos (by omega)]
theorem SC{α:Type}{f:α->α->Int}(h:CmpOK f): ∀ a b,WA f a b=0 ↔ a=b
 | [],[]=>by simp[WA]
 | [],_::_=>by simp[WA]
 | _::_,[]=>by simp[WA]
 | x::l,y::m=>by
  rw[WA,List.cons.injEq,<- h.zero x y,<- SC h l m]
  by_cases h0:f x y=0
  ·rw[if_neg (by omega)];omega
  ·rw[if_pos (by omega)];omega
theorem NB{α:Type}{f:α->α->Int}(h:CmpOK f): ∀ a b,-1<=WA f a b∧WA f a b<=1
 | [],[]=>by simp[WA]
 | [],_::_=>by simp[WA]
 | _::_,[]=>by simp[WA]
 | x::l,y::m=>by
  rw[WA]
  split
  ·exact h.rng x y
  ·exact NB h l m
theorem BX{α:Type}{f:α->α->Int}(h:CmpOK f): ∀ a b c,WA f a b<=0->WA f b c<=0->WA f a c<=0
 | [],_,[],_,_=>by simp[WA]
 | [],_,_::_,_,_=>by simp[WA]
 | _::_,[],_,h1,_=>by simp[WA]at h1
 | _::_,_::_,[],_,h2=>by simp[WA]at h2
 | x::l,y::m,z::n,h1,h2=>by
  rw[WA]at h1 h2 ⊢
  by_cases a:f x y=0
  ·obtain rfl:=(h.zero x y).1 a
   rw[if_neg (by omega)]at h1
   by_cases b:f x z=0
   ·rw[if_neg (by omega)]at h2 ⊢
    exact BX h l m n h1 h2
   ·rw[if_pos b]at h2 ⊢
    exact h2
  ·rw[if_pos a]at h1
   by_cases b:f y z=0
   ·obtain rfl:=(h.zero y z).1 b
    rw[if_pos a]
    exact h1
   ·rw[if_pos b]at h2
    have:=h.strict (show f x y<0 by omega) h2
    rw[if_pos (by omega)]
    omega
theorem a0u{α:Type}{f:α->α->Int}(h:CmpOK f):CmpOK (WA f):=⟨Su h,SC h,BX h,NB h⟩
theorem a0h{α β γ:Type}{f:β->β->Int}{g:γ->γ->Int}(p:α->β)(q:α->γ)(hpq : ∀ a b,p a=p b->q a=q b->a=b)(hf:CmpOK f)(hg:CmpOK g):CmpOK fun a b:α=>if f (p a) (p b)≠0 then f (p a) (p b)else g (q a) (q b):=by
 refine⟨fun a b=> ?_,fun a b=> ?_,fun a b c h1 h2=> ?_,fun a b=> ?_⟩
 ·have h1:=hf.anti (p a) (p b)
  have h2:=hg.anti (q a) (q b)
  try simp only
  by_cases h0:f (p a) (p b)=0
  ·rw[if_neg (by omega),if_neg (by omega),h2]
  ·rw[if_pos (by omega),if_pos h0,h1]
 ·try simp only
  by_cases h0:f (p a) (p b)=0
  ·rw[if_neg (by omega),hg.zero]
   exact⟨fun h=>hpq a b ((hf.zero _ _).1 h0) h,fun h=>by rw[h]⟩
  ·rw[if_pos h0]
   exact⟨fun h=>absurd h h0,fun h=>absurd ((hf.zero _ _).2 (by rw[h])) h0⟩
 ·try simp only at h1 h2 ⊢
  by_cases x:f (p a) (p b)=0
  ·have e:=(hf.zero _ _).1 x
   rw[if_neg (by omega)]at h1
   rw[e]
   by_cases y:f (p b) (p c)=0
   ·rw[if_neg (by omega)]at h2 ⊢
    exact hg.trans _ _ _ h1 h2
   ·rw[if_pos y]at h2 ⊢
    exact h2
  ·rw[if_pos x]at h1
   by_cases y:f (p b) (p c)=0
   ·have e:=(hf.zero _ _).1 y
    rw[<- e,if_pos x]
    exact h1
   ·rw[if_pos y]at h2
    have:=hf.strict (show f (p a) (p b)<0 by omega) h2
    rw[if_pos (by omega)]
    omega
 ·try simp only
  split
  ·exact hf.rng _ _
  ·exact hg.rng _ _
theorem KI:CmpOK JN:=by
 refine⟨fun a b=> ?_,fun a b=> ?_,fun a b c=> ?_,fun a b=> ?_⟩ <;> unfold JN <;> (repeat' split) <;> omega
def a6e(a b:UInt8):Int:=if a<b then -1 else if b<a then 1 else 0
theorem Qo(a b:UInt8):a6e a b=JN a.toNat b.toNat:=by
 unfold a6e JN
 simp only[UInt8.lt_iff_toNat_lt]
 repeat' split
 all_goals omega
theorem c4x:CmpOK a6e:=by
 refine⟨fun a b=> ?_,fun a b=> ?_,fun a b c=> ?_,fun a b=> ?_⟩
 ·rw[Qo,Qo];exact KI.anti _ _
 ·rw[Qo,KI.zero]
  exact⟨fun h=>UInt8.toNat_inj.1 (by omega),fun h=>by rw[h]⟩
 ·rw[Qo,Qo,Qo];exact KI.trans _ _ _
 ·rw[Qo];exact KI.rng _ _
theorem Fp: ∀ a b:List UInt8,Lib.compareBytes a b=WA a6e a b
 | [],[]=>rfl
 | [],_::_=>rfl
 | _::_,[]=>rfl
 | x::l,y::m=>by
  rw[Lib.compareBytes,WA,Fp l m]
  unfold a6e
  by_cases h1:x<y
  ·simp[h1]
  ·by_cases h2:y<x
   ·simp[h1,h2]
   ·simp[h1,h2]
theorem b6u:CmpOK Lib.compareBytes:=by
 have:Lib.compareBytes=WA a6e:=by funext a b;exact Fp a b
 rw[this]
 exact a0u c4x
theorem c0j:CmpOK Dr:=a0h (fun x:Coef=>x.v.s) (fun x:Coef=>x.c) (fun a b h1 h2=>by
 obtain⟨⟨s⟩,c⟩:=a
 obtain⟨⟨s'⟩,c'⟩:=b
 simp only at h1 h2
 rw[h1,h2]) b6u KI
theorem NI: ∀ a b:List Coef,Wm a b=WA Dr a b
 | [],[]=>rfl
 | [],_::_=>rfl
 | _::_,[]=>rfl
 | x::l,y::m=>by rw[Wm,WA,NI l m]
theorem b5e:CmpOK Wm:=by
 have:Wm=WA Dr:=by funext a b;exact NI a b
 rw[this]
 exact a0u c0j
theorem a6u:CmpOK V8:=a0h (fun x:Lin=>x.t) (fun x:Lin=>x.k) (fun a b h1 h2=>by
 obtain⟨k,t⟩:=a
 obtain⟨k',t'⟩:=b
 simp only at h1 h2
 rw[h1,h2]) b5e KI
theorem cmpLin_dec(a b:Lin):(V8 a b==0)=decide (a=b):=by
 have:=a6u.zero a b
 by_cases h:a=b
 ·rw[this.2 h,decide_eq_true h];rfl
 ·rw[decide_eq_false h]
  exact beq_eq_false_iff_ne.2 fun e=>h (this.1 e)
end Go.Pl.Cm
namespace Go.Pl
open Go.RowKit
open Enc (enc dec is)
open EncL (encL decL isL)
set_option maxRecDepth 100000
noncomputable def DD:IC:=X5 Proofs.Tryz.f61
def Dh:List IRes:=[(.tmp 4)]
abbrev d1z:Nat:=26
noncomputable def TF:ZE:=YB []
theorem d6i{G:PV->Prop}(a b:List Int)(h:if ((↑(List.length (List.map enc a)):Int) != (↑(List.length (List.map enc b)):Int))=true then G ((.bool false))else(At TF 0 (Zb Dh G) DD 0 26 [(0,(.pv (.sl 1 false (List.map enc a)))),(1,(.pv (.sl 1 false (List.map enc b)))),(12,(.pv (.int .i64 (↑(List.length (List.map enc a)):Int)))),(13,(.pv (.int .i64 0)))] [])):Zc TF 0 (Zb Dh G) DD [] (ZY 26 [enc a,enc b]):=Zc.tp (dm [] 8 0x142) h
theorem b7c{G:PV->Prop}(a b:List Int)(i:Int)(h:if (decide (i<(↑(List.length (List.map enc a)):Int)))=true then(decide (0<=i)&&decide (Int.toNat i<List.length (List.map enc a))&&Enc.sz Int==1)=true∧(∃ y0:Int,AV.pv (PV.rptr (PV.cells (List.getD (List.map enc a) (Int.toNat i) default)))=AV.pv (PV.rptr (PV.cells ((enc) y0)))∧((decide (0<=i)&&decide (Int.toNat i<List.length (List.map enc b))&&Enc.sz Int==1)=true∧(∃ y1:Int,AV.pv (PV.rptr (PV.cells (List.getD (List.map enc b) (Int.toNat i) default)))=AV.pv (PV.rptr (PV.cells ((enc) y1)))∧(if (PV.asInt (List.getD (PV.cells (enc y0)) 0 default) != PV.asInt (List.getD (PV.cells (enc y1)) 0 default))=true then G ((.bool false))else(At TF 0 (Zb Dh G) DD 0 26 [(0,(.pv (.sl 1 false (List.map enc a)))),(1,(.pv (.sl 1 false (List.map enc b)))),(12,(.pv (.int .i64 (↑(List.length (List.map enc a)):Int)))),(13,(.pv (.int .i64 (IntKind.wrap IntKind.i64 (i+1)))))] [])))))else(G ((.bool true)))):At TF 0 (Zb Dh G) DD 0 26 [(13,.pv (.int .i64 i)),(12,.pv (.int .i64 (a.map (enc:Int->PV)).length)),(0,.pv (enc a)),(1,.pv (enc b))] []:=At.tp (dm [dr Int] 21 0x200014225125100e42) h
noncomputable def GJ:IC:=X5 Proofs.Tryz.f62
def Df:List IRes:=[(.tmp 6)]
abbrev d2v:Nat:=32
noncomputable def TI:ZE:=YB [(63,.pure (preT (fun x:Lin×Lin×Unit=>Yp x.1&&Yp x.2.1)) (Zi (fun x:Lin×Lin×Unit=>decide (x.1=x.2.1))))]
theorem d8c{G:PV->Prop}(a b:List Lin)(h:if ((↑(List.length (List.map enc a)):Int) != (↑(List.length (List.map enc b)):Int))=true then G ((.bool false))else(At TI 0 (Zb Df G) GJ 0 32 [(1,(.pv (.sl 2 false (List.map enc b)))),(2,(.pv (.fn 63))),(15,(.pv (.sl 2 false (List.map enc a)))),(16,(.pv (.int .i64 (↑(List.length (List.map enc a)):Int)))),(17,(.pv (.int .i64 0)))] [])):Zc TI 0 (Zb Df G) GJ [] (ZY 32 [enc a,enc b,.fn 63]):=Zc.tp (dm [] 8 0x142) h
theorem b9c{G:PV->Prop}(a b:List Lin)(i:Int)(h:if (decide (i<(↑(List.length (List.map enc a)):Int)))=true then(decide (0<=i)&&decide (Int.toNat i<List.length (List.map enc a))&&Enc.sz Lin==2)=true∧(∃ y0:Lin,AV.pv (PV.rptr (PV.cells (List.getD (List.map enc a) (Int.toNat i) default)))=AV.pv (PV.rptr (PV.cells ((enc) y0)))∧((decide (0<=i)&&decide (Int.toNat i<List.length (List.map enc b))&&Enc.sz Lin==2)=true∧(∃ y1:Lin,AV.pv (PV.rptr (PV.cells (List.getD (List.map enc b) (Int.toNat i) default)))=AV.pv (PV.rptr (PV.cells ((enc) y1)))∧((Go.Pl.preT (fun(x:Lin×Lin×Unit)=>Yp x.1&&Yp x.2.1) [(.agg [(.int .i64 (PV.asInt (List.getD (PV.cells (enc y0)) 0 default))),(.sl 2 false (PV.asXs (List.getD (PV.cells (enc y0)) (0+1) default)))]),(.agg [(.int .i64 (PV.asInt (List.getD (PV.cells (enc y1)) 0 default))),(.sl 2 false (PV.asXs (List.getD (PV.cells (enc y1)) (0+1) default)))])])=true∧(∃ y2:Bool,AV.pv (Zi (fun(x:Lin×Lin×Unit)=>decide (x.1=x.2.1)) [(.agg [(.int .i64 (PV.asInt (List.getD (PV.cells (enc y0)) 0 default))),(.sl 2 false (PV.asXs (List.getD (PV.cells (enc y0)) (0+1) default)))]),(.agg [(.int .i64 (PV.asInt (List.getD (PV.cells (enc y1)) 0 default))),(.sl 2 false (PV.asXs (List.getD (PV.cells (enc y1)) (0+1) default)))])])=AV.pv (enc y2)∧(if (!y2)=true then G ((.bool false))else(At TI 0 (Zb Df G) GJ 0 32 [(1,(.pv (.sl 2 false (List.map enc b)))),(2,(.pv (.fn 63))),(15,(.pv (.sl 2 false (List.map enc a)))),(16,(.pv (.int .i64 (↑(List.length (List.map enc a)):Int)))),(17,(.pv (.int .i64 (IntKind.wrap IntKind.i64 (i+1)))))] [])))))))else(G ((.bool true)))):At TI 0 (Zb Df G) GJ 0 32 [(17,.pv (.int .i64 i)),(16,.pv (.int .i64 (a.map (enc:Lin->PV)).length)),(15,.pv (enc a)),(1,.pv (enc b)),(2,.pv (.fn 63))] []:=At.tp (dm [dr Lin,dv Bool] 22 0x2000146125125100f42) h
noncomputable def Di:IC:=X5 Proofs.Tryz.f64
def Da:List IRes:=[(.tmp 6)]
abbrev d0v:Nat:=32
noncomputable def Tq(N:Nat):ZE:=YB [(24,.pure (preT (fun x:Tm×Tm×Unit=>(tW x.1&&tW x.2.1)&&decide (ZA x.1<N))) (Zi (fun x:Tm×Tm×Unit=>JO x.1 x.2.1)))]
theorem d9o{G:PV->Prop}(N:Nat)(a b:List Tm)(h:if ((↑(List.length (List.map enc a)):Int) != (↑(List.length (List.map enc b)):Int))=true then G ((.bool false))else(At (Tq N) 0 (Zb Da G) Di 0 32 [(1,(.pv (.sl 10 false (List.map enc b)))),(2,(.pv (.fn 24))),(15,(.pv (.sl 10 false (List.map enc a)))),(16,(.pv (.int .i64 (↑(List.length (List.map enc a)):Int)))),(17,(.pv (.int .i64 0)))] [])):Zc (Tq N) 0 (Zb Da G) Di [] (ZY 32 [enc a,enc b,.fn 24]):=Zc.tp (dm [] 8 0x142) h
theorem a9k{G:PV->Prop}(N:Nat)(a b:List Tm)(i:Int)(h:if (decide (i<(↑(List.length (List.map enc a)):Int)))=true then(decide (0<=i)&&decide (Int.toNat i<List.length (List.map enc a))&&Enc.sz Tm==10)=true∧(∃ y0:Tm,AV.pv (PV.rptr (PV.cells (List.getD (List.map enc a) (Int.toNat i) default)))=AV.pv (PV.rptr (PV.cells ((enc) y0)))∧(BZ y0=true∧((decide (0<=i)&&decide (Int.toNat i<List.length (List.map enc b))&&Enc.sz Tm==10)=true∧(∃ y1:Tm,AV.pv (PV.rptr (PV.cells (List.getD (List.map enc b) (Int.toNat i) default)))=AV.pv (PV.rptr (PV.cells ((enc) y1)))∧(BZ y1=true∧((Go.Pl.preT (fun(x:Tm×Tm×Unit)=>tW x.1&&tW x.2.1&&decide (ZA x.1<N)) [KZ y0,KZ y1])=true∧(∃ y2:Bool,AV.pv (Zi (fun(x:Tm×Tm×Unit)=>JO x.1 x.2.1) [KZ y0,KZ y1])=AV.pv (enc y2)∧(if (!y2)=true then G ((.bool false))else(At (Tq N) 0 (Zb Da G) Di 0 32 [(1,(.pv (.sl 10 false (List.map enc b)))),(2,(.pv (.fn 24))),(15,(.pv (.sl 10 false (List.map enc a)))),(16,(.pv (.int .i64 (↑(List.length (List.map enc a)):Int)))),(17,(.pv (.int .i64 (IntKind.wrap IntKind.i64 (i+1)))))] [])))))))))else(G ((.bool true)))):At (Tq N) 0 (Zb Da G) Di 0 32 [(17,.pv (.int .i64 i)),(16,.pv (.int .i64 (a.map (enc:Tm->PV)).length)),(15,.pv (enc a)),(1,.pv (enc b)),(2,.pv (.fn 24))] []:=At.tp (dm [dr Tm,dv Bool] 22 0x2000146115115100f42) h
noncomputable def b0r:IC:=X5 Proofs.Tryz.f24
def b6b:List IRes:=[(.tmp 4)]
abbrev d0d:Nat:=72
noncomputable def c7q(N:Nat):ZE:=YB [(61,.pure (preT (fun x:List Int×List Int×Unit=>YG x.1)) (Zi (fun x:List Int×List Int×Unit=>decide (x.1=x.2.1)))),(62,.pure (preT (fun x:List Lin×List Lin×FnV 63×Unit=>YG x.1&&x.1.all Yp&&x.2.1.all Yp)) (Zi (fun x:List Lin×List Lin×FnV 63×Unit=>decide (x.1=x.2.1)))),(64,.pure (preT (fun x:List Tm×List Tm×FnV 24×Unit=>(tsW x.1&&tsW x.2.1)&&decide (ZP x.1<N))) (Zi (fun x:List Tm×List Tm×FnV 24×Unit=>Un x.1 x.2.1)))]
theorem d4y{G:PV->Prop}(N:Nat)(n:Nd)(ks:List Tm)(m:Nd)(ls:List Tm)(h:if (Nd.kind n==Nd.kind m)=true then if (Str.s (Nd.name n)==Str.s (Nd.name m))=true then if (Nd.num n==Nd.num m)=true then if (Str.s (Nd.elem n)==Str.s (Nd.elem m))=true then(Go.Pl.preT (fun(x:List Int×List Int×Unit)=>YG x.1) [(.sl 1 false (List.map enc (Nd.dims n))),(.sl 1 false (List.map enc (Nd.dims m)))])=true∧(∃ y0:Bool,AV.pv (Zi (fun(x:List Int×List Int×Unit)=>decide (x.1=x.2.1)) [(.sl 1 false (List.map enc (Nd.dims n))),(.sl 1 false (List.map enc (Nd.dims m)))])=AV.pv (enc y0)∧(if (y0)=true then(Go.Pl.preT (fun(x:List Int×List Int×Unit)=>YG x.1) [(.sl 1 false (List.map enc (Nd.data n))),(.sl 1 false (List.map enc (Nd.data m)))])=true∧(∃ y1:Bool,AV.pv (Zi (fun(x:List Int×List Int×Unit)=>decide (x.1=x.2.1)) [(.sl 1 false (List.map enc (Nd.data n))),(.sl 1 false (List.map enc (Nd.data m)))])=AV.pv (enc y1)∧(if (y1)=true then(Go.Pl.preT (fun(x:List Lin×List Lin×FnV 63×Unit)=>YG x.1&&List.all x.1 Yp&&List.all x.2.1 Yp) [(.sl 2 false (List.map enc (Nd.sizes n))),(.sl 2 false (List.map enc (Nd.sizes m))),(.fn 63)])=true∧(∃ y2:Bool,AV.pv (Zi (fun(x:List Lin×List Lin×FnV 63×Unit)=>decide (x.1=x.2.1)) [(.sl 2 false (List.map enc (Nd.sizes n))),(.sl 2 false (List.map enc (Nd.sizes m))),(.fn 63)])=AV.pv (enc y2)∧(if (y2)=true then(Go.Pl.preT (fun(x:List Int×List Int×Unit)=>YG x.1) [(.sl 1 false (List.map enc (Nd.ranks n))),(.sl 1 false (List.map enc (Nd.ranks m)))])=true∧(∃ y3:Bool,AV.pv (Zi (fun(x:List Int×List Int×Unit)=>decide (x.1=x.2.1)) [(.sl 1 false (List.map enc (Nd.ranks n))),(.sl 1 false (List.map enc (Nd.ranks m)))])=AV.pv (enc y3)∧(if (y3)=true then(Go.Pl.preT (fun(x:List Tm×List Tm×FnV 24×Unit)=>tsW x.1&&tsW x.2.1&&decide (ZP x.1<N)) [(.sl 10 false (List.map enc ks)),(.sl 10 false (List.map enc ls)),(.fn 24)])=true∧(∃ y4:Bool,AV.pv (Zi (fun(x:List Tm×List Tm×FnV 24×Unit)=>Un x.1 x.2.1) [(.sl 10 false (List.map enc ks)),(.sl 10 false (List.map enc ls)),(.fn 24)])=AV.pv (enc y4)∧(G ((.bool y4))))else(G ((.bool false)))))else(G ((.bool false)))))else(G ((.bool false)))))else(G ((.bool false)))))else(G ((.bool false)))else(G ((.bool false)))else(G ((.bool false)))else(G ((.bool false)))):Zc (c7q N) 0 (Zb b6b G) b0r [] (ZY 72 [.agg [enc n.kind,enc n.line,enc n.name,enc n.num,enc n.elem,enc n.dims,enc n.data,enc n.sizes,enc n.ranks,enc ks],.agg [enc m.kind,enc m.line,enc m.name,enc m.num,enc m.elem,enc m.dims,enc m.data,enc m.sizes,enc m.ranks,enc ls]]):=Zc.tp (dm [dv Bool] 334 0x22222222222222222222222222222222222222222222222222222022222222222222222222222222222222222222222222222022222222222222222222222222222222222222222022222222222222222222222222222222202222222222222222222222222022222222222222222022222222222022222025122220084251222201942512222030425122222204f42512222220764222222220a442222220d8422222211242) h
noncomputable def a9w:IC:=X5 Proofs.Tryz.f18
def b9k:List IRes:=[(.tmp 4)]
abbrev d2x:Nat:=10
noncomputable def c7m:ZE:=YB [(30,.pure (preT (fun x:Tm×Unit=>tW x.1)) (Zi (fun x:Tm×Unit=>YC x.1))),(24,.pure (preT (fun x:Tm×Tm×Unit=>tW x.1&&tW x.2.1)) (Zi (fun x:Tm×Tm×Unit=>JO x.1 x.2.1)))]
theorem d7i{G:PV->Prop}(n:Nd)(ks:List Tm)(m:Nd)(ls:List Tm)(h:(Go.Pl.preT (fun(x:Tm×Unit)=>tW x.1) (Jg n ks))=true∧(∃ y0:Tm,AV.pv (Zi (fun(x:Tm×Unit)=>YC x.1) (Jg n ks))=AV.pv (enc y0)∧((Go.Pl.preT (fun(x:Tm×Unit)=>tW x.1) [(.agg [(.int .i64 (Nd.kind m)),(.int .i64 (Nd.line m)),(.str (Str.s (Nd.name m))),(.int .i64 (Nd.num m)),(.str (Str.s (Nd.elem m))),(.sl 1 false (List.map enc (Nd.dims m))),(.sl 1 false (List.map enc (Nd.data m))),(.sl 2 false (List.map enc (Nd.sizes m))),(.sl 1 false (List.map enc (Nd.ranks m))),(.sl 10 false (List.map enc ls))])])=true∧(∃ y1:Tm,AV.pv (Zi (fun(x:Tm×Unit)=>YC x.1) [(.agg [(.int .i64 (Nd.kind m)),(.int .i64 (Nd.line m)),(.str (Str.s (Nd.name m))),(.int .i64 (Nd.num m)),(.str (Str.s (Nd.elem m))),(.sl 1 false (List.map enc (Nd.dims m))),(.sl 1 false (List.map enc (Nd.data m))),(.sl 2 false (List.map enc (Nd.sizes m))),(.sl 1 false (List.map enc (Nd.ranks m))),(.sl 10 false (List.map enc ls))])])=AV.pv (enc y1)∧((Go.Pl.preT (fun(x:Tm×Tm×Unit)=>tW x.1&&tW x.2.1) [enc y0,enc y1])=true∧(∃ y2:Bool,AV.pv (Zi (fun(x:Tm×Tm×Unit)=>JO x.1 x.2.1) [enc y0,enc y1])=AV.pv (enc y2)∧(G ((.bool y2))))))))):Zc c7m 0 (Zb b9k G) a9w [] (ZY 10 [.agg [enc n.kind,enc n.line,enc n.name,enc n.num,enc n.elem,enc n.dims,enc n.data,enc n.sizes,enc n.ranks,enc ks],.agg [enc m.kind,enc m.line,enc m.name,enc m.num,enc m.elem,enc m.dims,enc m.data,enc m.sizes,enc m.ranks,enc ls]]):=Zc.tp (dm [dv Tm,dv Bool] 8 0x615151) h
end Go.Pl
namespace Go.Pl
open Go.RowKit
open Enc (enc dec is)
open EncL (encL decL isL)
theorem a3l{α:Type}[BEq α][LawfulBEq α]{x y:α}{P Q:Prop}(h1:x=y->P)(h2:x≠y->Q):if (x==y)=true then P else Q:=by by_cases h:x=y;rw[if_pos (by simpa using h)];exact h1 h;rw[if_neg (by simpa using h)];exact h2 h
theorem b8d{l:Lin}(h:V9 l=true):Yp l=true:=by unfold V9 at h;rw[Bool.and_eq_true]at h;exact h.1
theorem Oq{ks:List Tm}{k:Tm}(h:k∈ks):ZA k<=ZP ks:=by
 induction ks with
 | nil=>cases h
 | cons a l ih=>
  rw[ZP]
  rcases List.mem_cons.1 h with rfl|h
  ·omega
  ·have:=ih h;omega
theorem b6g(a b:List Int)(ha:a.length<=9223372036854775807)(hab:a.length=b.length): ∀ (k i:Nat),k+i=a.length ->
  At TF 0 (Zb Dh (Zm (decide (a.drop i=b.drop i)))) DD 0 26 [(0,.pv (enc a)),(1,.pv (enc b)),(12,.pv (.int .i64 (a.map (enc:Int->PV)).length)),(13,.pv (.int .i64 i))] []:=by
 intro k
 induction k with
 | zero=>
  intro i hi
  rw[List.drop_of_length_le (by omega),List.drop_of_length_le (by omega)]
  exact b7c a b i (Yz (XA (by omega)) (ZI rfl))
 | succ k ih=>
  intro i hi
  have hlt:i<a.length:=by omega
  have hlt2:i<b.length:=by omega
  have h:=ih (i+1) (by omega)
  refine b7c a b i (Yq (Xb hlt) ⟨Zn hlt rfl,Zw hlt ⟨Zn hlt2 rfl,Zw hlt2 ?_⟩⟩)
  show if (a[i] != b[i])=true then _ else _
  refine P9 (fun e=>ZI ?_) fun e=> ?_
  ·rw[List.drop_eq_getElem_cons hlt,List.drop_eq_getElem_cons hlt2,JS e]
  ·rw[next (by omega),List.drop_eq_getElem_cons hlt,List.drop_eq_getElem_cons hlt2,Jn e]
   exact h
theorem c3g: ∀ x:List Int×List Int×Unit,YG x.1=true->Zc TF 0 (Zb Dh (Zm (decide (x.1=x.2.1)))) DD [] (ZY d1z (encL x)):=by
 rintro⟨a,b,⟨⟩⟩ h
 have h:=of_decide_eq_true h
 refine d6i a b (H6 (fun e=>ZI (Na e).symm) fun e=> ?_)
 exact(b6g a b h e a.length 0 (by omega))
theorem b2u(a b:List Lin)(ha:a.length<=9223372036854775807)(wa:a.all Yp=true)(wb:b.all Yp=true)(hab:a.length=b.length): ∀ (k i:Nat),k+i=a.length ->
  At TI 0 (Zb Df (Zm (decide (a.drop i=b.drop i)))) GJ 0 32 [(1,.pv (enc b)),(2,.pv (.fn 63)),(15,.pv (enc a)),(16,.pv (.int .i64 (a.map (enc:Lin->PV)).length)),(17,.pv (.int .i64 i))] []:=by
 intro k
 induction k with
 | zero=>
  intro i hi
  rw[List.drop_of_length_le (by omega),List.drop_of_length_le (by omega)]
  exact b9c a b i (Yz (XA (by omega)) (ZI rfl))
 | succ k ih=>
  intro i hi
  have h1:i<a.length:=by omega
  have h2:i<b.length:=by omega
  have h:=ih (i+1) (by omega)
  have ga:Yp a[i]=true:=List.all_eq_true.1 wa _ (List.getElem_mem h1)
  have gb:Yp b[i]=true:=List.all_eq_true.1 wb _ (List.getElem_mem h2)
  refine b9c a b i (Yq (Xb h1) ⟨Zn h1 rfl,Zw h1 ⟨Zn h2 rfl,Zw h2 ⟨Ze (a[i],b[i],()) rfl (by show(Yp _&&Yp _)=true;rw[ga,gb];rfl),Zd (a[i],b[i],()) rfl (U9 (fun e=>ZI ?_) fun e=> ?_)⟩⟩⟩)
  ·rw[List.drop_eq_getElem_cons h1,List.drop_eq_getElem_cons h2,JS (of_decide_eq_false e)]
  ·rw[next (by omega),List.drop_eq_getElem_cons h1,List.drop_eq_getElem_cons h2,Jn (of_decide_eq_true e)]
   exact h
theorem c0f: ∀ x:List Lin×List Lin×FnV 63×Unit,(YG x.1&&x.1.all Yp&&x.2.1.all Yp)=true->Zc TI 0 (Zb Df (Zm (decide (x.1=x.2.1)))) GJ [] (ZY d2v (encL x)):=by
 rintro⟨a,b,⟨⟩,⟨⟩⟩ h
 simp only[Bool.and_eq_true]at h
 obtain⟨⟨h,wa⟩,wb⟩:=h
 have h:=of_decide_eq_true h
 refine d8c a b (H6 (fun e=>ZI (Na e).symm) fun e=> ?_)
 exact(b2u a b h wa wb e a.length 0 (by omega))
theorem Py{ts:List Tm}(h:tsW ts=true):ts.length<=1048576∧ ∀ k∈ts,tW k=true:=by
 have h:VA ts<=1048576:=of_decide_eq_true h
 exact⟨by have:=Fj ts;omega,fun k hk=>decide_eq_true (Nat.le_trans (P5 hk) h)⟩
theorem b9j(N:Nat)(a b:List Tm)(ha:a.length<=1048576)(wa : ∀ k∈a,tW k=true)(wb : ∀ k∈b,tW k=true)(hd:ZP a<N)(hab:a.length=b.length): ∀ (k i:Nat),k+i=a.length ->
  At (Tq N) 0 (Zb Da (Zm (Un (a.drop i) (b.drop i)))) Di 0 32 [(1,.pv (enc b)),(2,.pv (.fn 24)),(15,.pv (enc a)),(16,.pv (.int .i64 (a.map (enc:Tm->PV)).length)),(17,.pv (.int .i64 i))] []:=by
 intro k
 induction k with
 | zero=>
  intro i hi
  rw[List.drop_of_length_le (by omega),List.drop_of_length_le (by omega)]
  exact a9k N a b i (Yz (XA (by omega)) (ZI rfl))
 | succ k ih=>
  intro i hi
  have h1:i<a.length:=by omega
  have h2:i<b.length:=by omega
  have h:=ih (i+1) (by omega)
  have hk:=Oq (List.getElem_mem h1)
  refine a9k N a b i (Yq (Xb h1) ⟨Zn h1 rfl,Zw h1 ⟨XL _,Zn h2 rfl,Zw h2 ⟨XL _,Ze (a[i],b[i],()) (a5v _ _) (by
   show(tW _&&tW _&&decide _)=true
   rw[wa _ (List.getElem_mem h1),wb _ (List.getElem_mem h2),decide_eq_true (show ZA a[i]<N by omega)];rfl),Zd (a[i],b[i],()) (a5v _ _) (U9 (fun e=>ZI ?_) fun e=> ?_)⟩⟩⟩)
  ·have e:JO a[i] b[i]=false:=e
   rw[List.drop_eq_getElem_cons h1,List.drop_eq_getElem_cons h2,Un,e];rfl
  ·have e:JO a[i] b[i]=true:=e
   rw[next (by omega),List.drop_eq_getElem_cons h1,List.drop_eq_getElem_cons h2,Un,e,Bool.true_and]
   exact h
theorem c0q(N:Nat): ∀ x:List Tm×List Tm×FnV 24×Unit,((tsW x.1&&tsW x.2.1)&&decide (ZP x.1<N))=true->Zc (Tq N) 0 (Zb Da (Zm (Un x.1 x.2.1))) Di [] (ZY d0v (encL x)):=by
 rintro⟨a,b,⟨⟩,⟨⟩⟩ h
 simp only[Bool.and_eq_true,decide_eq_true_eq]at h
 obtain⟨⟨wa,wb⟩,hd⟩:=h
 refine d9o N a b (H6 (fun e=>ZI (WG fun h=>e (Ho h))) fun e=> ?_)
 exact(b9j N a b (Py wa).1 (Py wa).2 (Py wb).2 hd e a.length 0 (by omega))
theorem b6p{n:Nd}{ks:List Tm}(h:tW (.mk n ks)=true):tsW ks=true:=by
 have h:Qi (.mk n ks)<=1048576:=of_decide_eq_true h
 rw[Qi]at h
 exact decide_eq_true (by omega)
theorem a2n{α:Type}{l:List α}(h:l.length<=1048576):YG l=true:=decide_eq_true (by omega)
theorem EP{n:Nd}{ks:List Tm}(h:tW (.mk n ks)=true):n.sizes.all Yp=true:=List.all_eq_true.2 fun l hl=>b8d (MK h l hl)
theorem c1s(N:Nat): ∀ x:Tm×Tm×Unit,((tW x.1&&tW x.2.1)&&decide (ZA x.1<N+1))=true->Zc (c7q N) 0 (Zb b6b (Zm (JO x.1 x.2.1))) b0r [] (ZY d0d (encL x)):=by
 rintro⟨⟨n,ks⟩,⟨m,ls⟩,⟨⟩⟩ h
 simp only[Bool.and_eq_true,decide_eq_true_eq]at h
 obtain⟨⟨hw,hv⟩,hd⟩:=h
 have hd:ZA (.mk n ks)<N+1:=hd
 rw[ZA]at hd
 have hn:=PU hw
 rw[<- a5e]
 refine d4y N n ks m ls (a3l (fun k1=> ?_) fun k=>ZI (WG fun h=>k (Yy.1 h).1.1))
 refine a3l (fun k2=> ?_) fun k=>ZI (WG fun h=>k (by rw[(Yy.1 h).1.2.1]))
 refine a3l (fun k3=> ?_) fun k=>ZI (WG fun h=>k (Yy.1 h).1.2.2.1)
 refine a3l (fun k4=> ?_) fun k=>ZI (WG fun h=>k (by rw[(Yy.1 h).1.2.2.2.1]))
 refine⟨Ze (n.dims,m.dims,()) rfl (a2n hn.dims),Zd (n.dims,m.dims,()) rfl (VB (fun k5=> ?_) fun k=>ZI (WG fun h=>of_decide_eq_false k (Yy.1 h).1.2.2.2.2.1))⟩
 refine⟨Ze (n.data,m.data,()) rfl (a2n hn.data),Zd (n.data,m.data,()) rfl (VB (fun k6=> ?_) fun k=>ZI (WG fun h=>of_decide_eq_false k (Yy.1 h).1.2.2.2.2.2.1))⟩
 have hs:(YG n.sizes&&n.sizes.all Yp&&m.sizes.all Yp)=true:=by rw[a2n hn.sizes,EP hw,EP hv];rfl
 refine⟨Ze (α:=List Lin×List Lin×FnV 63×Unit) (n.sizes,m.sizes,⟨()⟩,()) rfl hs,Zd (α:=List Lin×List Lin×FnV 63×Unit) (n.sizes,m.sizes,⟨()⟩,()) rfl (VB (fun k7=> ?_) fun k=>ZI (WG fun h=>of_decide_eq_false k (Yy.1 h).1.2.2.2.2.2.2.1))⟩
 refine⟨Ze (n.ranks,m.ranks,()) rfl (a2n hn.ranks),Zd (n.ranks,m.ranks,()) rfl (VB (fun k8=> ?_) fun k=>ZI (WG fun h=>of_decide_eq_false k (Yy.1 h).1.2.2.2.2.2.2.2))⟩
 have hk:(tsW ks&&tsW ls&&decide (ZP ks<N))=true:=by rw[b6p hw,b6p hv,decide_eq_true (show ZP ks<N by omega)];rfl
 refine⟨Ze (α:=List Tm×List Tm×FnV 24×Unit) (ks,ls,⟨()⟩,()) rfl hk,Zd (α:=List Tm×List Tm×FnV 24×Unit) (ks,ls,⟨()⟩,()) rfl (ZI ?_)⟩
 show Un ks ls=JO (.mk n ks) (.mk m ls)
 rw[Bool.eq_iff_iff,Yy]
 exact⟨fun h=>⟨⟨k1,stt k2,k3,stt k4,of_decide_eq_true k5,of_decide_eq_true k6,of_decide_eq_true k7,of_decide_eq_true k8⟩,h⟩,fun h=>h.2⟩
theorem c1b: ∀ x:Tm×Tm×Unit,(tW x.1&&tW x.2.1&&tW (YC x.1)&&tW (YC x.2.1))=true->Zc c7m 0 (Zb b9k (Zm (RU x.1 x.2.1))) a9w [] (ZY d2x (encL x)):=by
 rintro⟨⟨n,ks⟩,⟨m,ls⟩,⟨⟩⟩ h
 simp only[Bool.and_eq_true]at h
 obtain⟨⟨⟨h1,h2⟩,h3⟩,h4⟩:=h
 rw[<- a5e]
 have e1:([ndC n ks]:List PV)=encL ((Tm.mk n ks,()):Tm×Unit):=by rw[X9];rfl
 have e2:([ndC m ls]:List PV)=encL ((Tm.mk m ls,()):Tm×Unit):=by rw[X9];rfl
 refine d7i n ks m ls ⟨Ze (.mk n ks,()) e1 h1,Zd (.mk n ks,()) e1 ⟨Ze (.mk m ls,()) e2 h2,Zd (.mk m ls,()) e2 ⟨Ze (YC (.mk n ks),YC (.mk m ls),()) rfl ?_,Zd (YC (.mk n ks),YC (.mk m ls),()) rfl (ZI rfl)⟩⟩⟩
 show(tW _&&tW _)=true
 rw[h3,h4];rfl
end Go.Pl
namespace Go.Pl
open Go.RowKit
open Enc (enc dec is)
open EncL (encL decL isL)
set_option maxRecDepth 100000
noncomputable def a9r:IC:=X5 Proofs.Tryz.f50
def b5j:List IRes:=[(.cell true 10 2)]
abbrev d0o:Nat:=8
noncomputable def c7i:ZE:=YB [(51,.pure (preT (fun _:Str×Unit=>true)) (Zi (fun x:Str×Unit=>vT x.1)))]
theorem d8x{G:PV->Prop}(s:List UInt8)(h : ∃ y0:Tm,AV.pv (Zi (fun(x:Str×Unit)=>vT x.1) [(.str s)])=AV.pv (enc y0)∧(∃ y1:Tm,AV.pv (Zi (fun(x:Str×Unit)=>vT x.1) [(.str [(118:UInt8),(49:UInt8)])])=AV.pv (enc y1)∧((List.all [enc y0,enc y1] fun(x:PV)=>List.length (PV.cells x)==10&&PV.cellsOk x)=true∧(G ((.agg [(.int .i64 6),(.int .i64 0),(.str [(97:UInt8),(100:UInt8),(100:UInt8)]),(.int .i64 0),(.str []),(.sl 0 true []),(.sl 0 true []),(.sl 0 true []),(.sl 0 true []),(.sl 10 false [enc y0,enc y1])])))))):Zc c7i 0 (Zb b5j G) a9r [] (ZY 8 [.str s]):=Zc.tp (dm [dv Tm] 8 0x215252) h
noncomputable def b0l:IC:=X5 Proofs.Tryz.f12
def b8j:List IRes:=[(.tmp 0)]
abbrev d1g:Nat:=39
noncomputable def c8t:ZE:=YB [(51,.pure (preT (fun _:Str×Unit=>true)) (Zi (fun x:Str×Unit=>vT x.1))),(16,.pure (preT (fun _:Str×Tm×Tm×Unit=>true)) (Zi (fun x:Str×Tm×Tm×Unit=>K3 (Eb x.1 x.2.1 x.2.2.1)))),(50,.pure (preT (fun _:Str×Unit=>true)) (Zi (fun x:Str×Unit=>K3 (Ni x.1)))),(22,.pure (preT (fun x:Tm×Unit=>tW x.1)) (Zi (fun x:Tm×Unit=>Ue x.1))),(25,.pure (preT (fun x:Tm×Tm×Unit=>tW x.1&&tW x.2.1)) (Zi (fun x:Tm×Tm×Unit=>JO x.1 x.2.1))),(30,.pure (preT (fun x:Tm×Unit=>tW x.1)) (Zi (fun x:Tm×Unit=>YC x.1))),(21,.pure (preT (fun x:Tm×Unit=>tW x.1)) (Zi (fun x:Tm×Unit=>D9 x.1))),(18,.pure (preT (fun x:Tm×Tm×Unit=>tW x.1&&tW x.2.1&&tW (YC x.1)&&tW (YC x.2.1))) (Zi (fun x:Tm×Tm×Unit=>RU x.1 x.2.1))),(32,.pure (preT (fun x:Tm×Unit=>tW x.1)) (Zi (fun x:Tm×Unit=>WP x.1)))]
theorem d5p{G:PV->Prop}(h : ∃ y0:TS,AV.pv (Zi (fun(x:Str×Unit)=>K3 (Ni x.1)) [(.str [(98:UInt8)])])=AV.pv (enc y0)∧(∃ y1:Tm,AV.pv (Zi (fun(x:Str×Unit)=>vT x.1) [(.str [(120:UInt8)])])=AV.pv (enc y1)∧(∃ y2:Tm,AV.pv (Zi (fun(x:Str×Unit)=>vT x.1) [(.str [(97:UInt8)])])=AV.pv (enc y2)∧((Go.Pl.preT (fun(x:Str×Tm×Tm×Unit)=>true) [(.str [(98:UInt8)]),enc y2,(eS y0)])=true∧(∃ y3:TS,AV.pv (Zi (fun(x:Str×Tm×Tm×Unit)=>K3 (Eb x.1 x.2.1 x.2.2.1)) [(.str [(98:UInt8)]),enc y2,(eS y0)])=AV.pv (enc y3)∧((Go.Pl.preT (fun(x:Str×Tm×Tm×Unit)=>true) [(.str [(97:UInt8)]),enc y1,(eS y3)])=true∧(∃ y4:TS,AV.pv (Zi (fun(x:Str×Tm×Tm×Unit)=>K3 (Eb x.1 x.2.1 x.2.2.1)) [(.str [(97:UInt8)]),enc y1,(eS y3)])=AV.pv (enc y4)∧(∃ y5:Tm,AV.pv (Zi (fun(x:Str×Unit)=>vT x.1) [(.str [(120:UInt8)])])=AV.pv (enc y5)∧(∃ y6:Tm,AV.pv (Zi (fun(x:Str×Unit)=>vT x.1) [(.str [(118:UInt8),(50:UInt8)])])=AV.pv (enc y6)∧(∃ y7:TS,AV.pv (Zi (fun(x:Str×Unit)=>K3 (Ni x.1)) [(.str [(118:UInt8),(51:UInt8)])])=AV.pv (enc y7)∧((Go.Pl.preT (fun(x:Str×Tm×Tm×Unit)=>true) [(.str [(118:UInt8),(51:UInt8)]),enc y6,(eS y7)])=true∧(∃ y8:TS,AV.pv (Zi (fun(x:Str×Tm×Tm×Unit)=>K3 (Eb x.1 x.2.1 x.2.2.1)) [(.str [(118:UInt8),(51:UInt8)]),enc y6,(eS y7)])=AV.pv (enc y8)∧((Go.Pl.preT (fun(x:Str×Tm×Tm×Unit)=>true) [(.str [(118:UInt8),(50:UInt8)]),enc y5,(eS y8)])=true∧(∃ y9:TS,AV.pv (Zi (fun(x:Str×Tm×Tm×Unit)=>K3 (Eb x.1 x.2.1 x.2.2.1)) [(.str [(118:UInt8),(50:UInt8)]),enc y5,(eS y8)])=AV.pv (enc y9)∧((Go.Pl.preT (fun(x:Tm×Unit)=>tW x.1) [(eS y4)])=true∧(∃ y10:Bool,AV.pv (Zi (fun(x:Tm×Unit)=>Ue x.1) [(eS y4)])=AV.pv (enc y10)∧(if (y10)=true then(Go.Pl.preT (fun(x:Tm×Unit)=>tW x.1) [(eS y4)])=true∧(∃ y11:Tm,AV.pv (Zi (fun(x:Tm×Unit)=>YC x.1) [(eS y4)])=AV.pv (enc y11)∧((Go.Pl.preT (fun(x:Tm×Tm×Unit)=>tW x.1&&tW x.2.1) [enc y11,(eS y9)])=true∧(∃ y12:Bool,AV.pv (Zi (fun(x:Tm×Tm×Unit)=>JO x.1 x.2.1) [enc y11,(eS y9)])=AV.pv (enc y12)∧(if (y12)=true then(Go.Pl.preT (fun(x:Tm×Unit)=>tW x.1) [(eS y4)])=true∧(∃ y13:Int,AV.pv (Zi (fun(x:Tm×Unit)=>D9 x.1) [(eS y4)])=AV.pv (enc y13)∧(if (y13==7)=true then(Go.Pl.preT (fun(x:Tm×Tm×Unit)=>tW x.1&&tW x.2.1&&tW (YC x.1)&&tW (YC x.2.1)) [(eS y4),(eS y9)])=true∧(∃ y14:Bool,AV.pv (Zi (fun(x:Tm×Tm×Unit)=>RU x.1 x.2.1) [(eS y4),(eS y9)])=AV.pv (enc y14)∧(if (y14)=true then(Go.Pl.preT (fun(x:Tm×Unit)=>tW x.1) [(eS y4)])=true∧(∃ y15:List Str,AV.pv (Zi (fun(x:Tm×Unit)=>WP x.1) [(eS y4)])=AV.pv (enc y15)∧(G ((.bool ((↑(List.length (List.map enc y15)):Int)==1)))))else(G ((.bool false)))))else(G ((.bool false)))))else(G ((.bool false)))))))else(G ((.bool false)))))))))))))))))))):Zc c8t 0 (Zb b8j G) b0l [] (ZY 39 []):=Zc.tp (dm [dv TS,dv Tm,dv Bool,dv Int,dv (List Str)] 111 0x2222222222222222202222222222220222222220222202222912008427122016422281202942712261204247151515262625151626252) h
end Go.Pl
namespace Go.Pl
open Go.RowKit
open Enc (enc dec is)
open EncL (encL decL isL)
theorem c1j: ∀ x:Str×Unit,true=true->Zc c7i 0 (Zb b5j (Zm (Ni x.1))) a9r [] (ZY d0o (encL x)):=by
 rintro⟨s,⟨⟩⟩ _
 refine d8x s.s (Zd (s,()) rfl (Zd (⟨[118,49]⟩,()) rfl ⟨?_,?_⟩))
 ·simp only[List.all_cons,List.all_nil,vT,Zx]
  rfl
 ·have h:is (List Tm) (.sl 10 false [enc (vT s),enc (vT ⟨[118,49]⟩)])=true:=Enc.is_enc [vT s,vT ⟨[118,49]⟩]
  have h2:(dec (.sl 10 false [enc (vT s),enc (vT ⟨[118,49]⟩)]):List Tm)=[vT s,vT ⟨[118,49]⟩]:=Enc.dec_enc [vT s,vT ⟨[118,49]⟩]
  refine⟨?_,?_⟩
  ·simp[h]
  ·rw[b2g _ _ _ _ _ _ _ _ _ _ h,h2]
   simp[Ni,nd0,d5y]
theorem c5a: ∀ x:Unit,true=true->Zc c8t 0 (Zb b8j (Zm true)) b0l [] (ZY d1g (encL x)):=by
 rintro⟨⟩ _
 refine d5p (Zd (⟨[98]⟩,()) rfl (Zd (⟨[120]⟩,()) rfl (Zd (⟨[97]⟩,()) rfl ?_)))
 refine⟨Ze (⟨[98]⟩,vT ⟨[97]⟩,Ni ⟨[98]⟩,()) (MP _ _ _) rfl,Zd (⟨[98]⟩,vT ⟨[97]⟩,Ni ⟨[98]⟩,()) (MP _ _ _) ?_⟩
 refine⟨Ze (⟨[97]⟩,vT ⟨[120]⟩,Eb ⟨[98]⟩ (vT ⟨[97]⟩) (Ni ⟨[98]⟩),()) (MP _ _ _) rfl,Zd (⟨[97]⟩,vT ⟨[120]⟩,Eb ⟨[98]⟩ (vT ⟨[97]⟩) (Ni ⟨[98]⟩),()) (MP _ _ _) ?_⟩
 refine Zd (⟨[120]⟩,()) rfl (Zd (⟨[118,50]⟩,()) rfl (Zd (⟨[118,51]⟩,()) rfl ?_))
 refine⟨Ze (⟨[118,51]⟩,vT ⟨[118,50]⟩,Ni ⟨[118,51]⟩,()) (MP _ _ _) rfl,Zd (⟨[118,51]⟩,vT ⟨[118,50]⟩,Ni ⟨[118,51]⟩,()) (MP _ _ _) ?_⟩
 refine⟨Ze (⟨[118,50]⟩,vT ⟨[120]⟩,Eb ⟨[118,51]⟩ (vT ⟨[118,50]⟩) (Ni ⟨[118,51]⟩),()) (MP _ _ _) rfl,Zd (⟨[118,50]⟩,vT ⟨[120]⟩,Eb ⟨[118,51]⟩ (vT ⟨[118,50]⟩) (Ni ⟨[118,51]⟩),()) (MP _ _ _) ?_⟩
 refine⟨Ze (Kv,()) (a1S Kv) b7t,Zd (Kv,()) (a1S Kv) (Yq a8l ?_)⟩
 refine⟨Ze (Kv,()) (a1S Kv) b7t,Zd (Kv,()) (a1S Kv) ?_⟩
 refine⟨Ze (YC Kv,PE,()) (d8k _ PE) (by show(tW (YC Kv)&&tW PE)=true;rw[RV,c7e];rfl),Zd (YC Kv,PE,()) (d8k _ PE) (Yq (by show JO (YC Kv) PE=true;rw[RV];exact c8s) ?_)⟩
 refine⟨Ze (Kv,()) (a1S Kv) b7t,Zd (Kv,()) (a1S Kv) (Yq (by show(D9 Kv==7)=true;unfold D9;rw[c3t];rfl) ?_)⟩
 refine⟨Ze (Kv,PE,()) (d6p Kv PE) (by show(tW Kv&&tW PE&&tW (YC Kv)&&tW (YC PE))=true;rw[RV,a3p,b7t,c7e];rfl),Zd (Kv,PE,()) (d6p Kv PE) (Yq (by show JO (YC Kv) (YC PE)=true;rw[RV,a3p];exact c8s) ?_)⟩
 refine⟨Ze (Kv,()) (a1S Kv) b7t,Zd (Kv,()) (a1S Kv) (ZI ?_)⟩
 show(((List.map (enc:Str->PV) (WP Kv)).length:Int)==1)=true
 rw[List.length_map,b2a];rfl
theorem nd1(n:Nd)(ks:List Tm):([ndC n ks]:List PV)=encL (Tm.mk n ks,()):=by rw[X9];rfl
end Go.Pl
namespace Go.Pl
open Go.RowKit
open Enc (enc dec is)
open EncL (encL decL isL)
set_option maxRecDepth 100000
end Go.Pl
namespace Go.Pl
open Go.RowKit
open Enc (enc dec is)
open EncL (encL decL isL)
end Go.Pl
namespace Go.Pl
open Go.RowKit
open Enc (enc dec is)
open EncL (encL decL isL)
set_option maxRecDepth 100000
def Ws:IC:=(Vh [ZC 1 (.box 10 (.t 0)) 0,ZC 2 (.alloc (.agg [(.int .i64 0),(.int .i64 0),(.str []),(.int .i64 0),(.str []),(.sl 0 true []),(.sl 0 true []),(.sl 0 true []),(.sl 0 true []),(.sl 0 true [])])) 1] (.seq (.reg [ZC 5 (.faddr 4 (.t 1)) 0,ZC 6 (.faddr 0 (.t 5)) 0,ZC 7 (.load false [.str] (.t 6)) 0,ZC 8 (.faddr 4 (.t 1)) 0,ZC 9 (.faddr 1 (.t 8)) 0,ZC 10 (DV [(.sl 1)] (.t 9)) 0,ZC 11 (c'' 93 [(.t 10)]) 0,ZC 12 (.faddr 4 (.t 1)) 2,ZC 13 (.faddr 2 (.t 12)) 2,ZC 14 (DV [(.sl 1)] (.t 13)) 2,ZC 15 (c'' 93 [(.t 14)]) 2,ZC 16 (.build [(.str []),(.sl 0 true []),(.sl 0 true [])] [(0,(1,(.t 7))),(1,(1,(.t 11))),(2,(1,(.t 15)))]) 4,ZC 17 (.faddr 4 (.t 1)) 4,DW (.store 3 (.t 17) (.t 16)) 4] (some [[],[0],[1,0],[],[3],[4,3],[5,4,3],[],[7],[8,7],[9,6,8,7,5,4,3],[2,6,10,1,0,5,4,3,9,8,7],[0,1,2,3,4,5,6,7,8,9,10,11],[12,11,10,0,1,2,3,4,5,6,7,8,9]])) (Vh [ZC 18 (.faddr 8 (.t 1)) 0,ZC 19 (DV [(.sl 1)] (.t 18)) 0,ZC 20 (c'' 93 [(.t 19)]) 0,ZC 21 (.faddr 8 (.t 1)) 2,DW (.store 1 (.t 21) (.t 20)) 2] (Vh [ZC 22 (.faddr 7 (.t 1)) 0,ZC 23 (DV [(.sl 2)] (.t 22)) 0,ZC 24 (c'' 94 [(.t 23)]) 0,ZC 25 (.faddr 7 (.t 1)) 2,DW (.store 1 (.t 25) (.t 24)) 2] (.seq (Vh [ZC 26 (.faddr 7 (.t 1)) 0,ZC 27 (DV [(.sl 2)] (.t 26)) 0,ZC 28 (.len 1 (.t 27)) 0,ZC 29 (.mv (UF 0)) 0] (.block 0 (.loop [29,28,1,49,50,52,51,53,54,55,4,58,59,60,61,62,56,57,64,63,65,2,66] (Vh [ZC 30 (K5 .lss (.t 29) (.t 28)) 0] (.seq (.cond (.t 30) .skip (.exit 0)) (.seq (.block 1 (Vh [ZC 31 (WJ 29) 0,ZC 3 (WJ 31) 0] (.reg [ZC 32 (.faddr 7 (.t 1)) 0,ZC 33 (DV [(.sl 2)] (.t 32)) 0,ZC 34 (WJ 3) 0,ZC 35 (.faddr 7 (.t 1)) 0,ZC 36 (DV [(.sl 2)] (.t 35)) 0,ZC 37 (WJ 3) 0,ZC 38 (.iaddr 2 (.t 36) (.t 37)) 0,ZC 39 (.faddr 1 (.t 38)) 0,ZC 40 (DV [(.sl 2)] (.t 39)) 0,ZC 41 (c'' 95 [(.t 40)]) 0,ZC 42 (.iaddr 2 (.t 33) (.t 34)) 2,ZC 43 (.faddr 1 (.t 42)) 2,DW (.store 1 (.t 43) (.t 41)) 2] (some [[],[0],[],[],[3],[],[4,5,3],[6,4,5,3],[7,6,4,5,3],[8,7,6,4,5,3],[1,2,0,3,4,5,6,7,8,9],[10,0,1,2,3,4,5,6,7,8,9],[11,9,0,1,2,3,4,5,6,7,8,10]])))) (.reg [ZC 44 (K5 .add (.t 29) (UF 1)) 0,ZC 29 (WJ 44) 0] none))))))) (Vh [ZC 45 (.faddr 9 (.t 1)) 0,ZC 46 (DV [(.sl 10)] (.t 45)) 0,ZC 47 (c'' 96 [(.t 46)]) 0,ZC 48 (.faddr 9 (.t 1)) 2,DW (.store 1 (.t 48) (.t 47)) 2] (.ext 0 [1,49,50,52,51,53,54,55,4,58,59,60,61,62,56,57,64,63,65,2,66])))))))
def Qq:ZE:=YB [(93,.pure (preT (fun x:List Int×Unit=>decide (x.1.length<=2000000))) (Zi (fun x:List Int×Unit=>x.1))),(94,.own (Yl 2) (XO 62 2)),(95,.pure (preT (fun x:List Coef×Unit=>decide (x.1.length<=2000000))) (Zi (fun x:List Coef×Unit=>x.1))),(96,.own (Yl 10) (XO 28 10))]
theorem d2h{G:Zp->Prop}(RR:Nat->St->Prop)(n:Nd)(ks:List Tm)(h:(Go.Pl.preT (fun(x:List Int×Unit)=>decide (List.length x.1<=2000000)) [(.sl 1 false (List.map enc (Nd.dims n)))])=true∧(∃ y0:List Int,AV.pv (Zi (fun(x:List Int×Unit)=>x.1) [(.sl 1 false (List.map enc (Nd.dims n)))])=AV.pv (enc y0)∧((Go.Pl.preT (fun(x:List Int×Unit)=>decide (List.length x.1<=2000000)) [(.sl 1 false (List.map enc (Nd.data n)))])=true∧(∃ y1:List Int,AV.pv (Zi (fun(x:List Int×Unit)=>x.1) [(.sl 1 false (List.map enc (Nd.data n)))])=AV.pv (enc y1)∧((Go.Pl.preT (fun(x:List Int×Unit)=>decide (List.length x.1<=2000000)) [(.sl 1 false (List.map enc (Nd.ranks n)))])=true∧(∃ y2:List Int,AV.pv (Zi (fun(x:List Int×Unit)=>x.1) [(.sl 1 false (List.map enc (Nd.ranks n)))])=AV.pv (enc y2)∧((Yl 2 [(.pv (.sl 2 false (List.map enc (Nd.sizes n))))] [])=true∧(AtM Qq (Vt RR) 0 (fun st=>G st.heap) Ws 0 67 [(1,(.ptr 0 0)),(2,(.ptr 1 0)),(4,.undef),(28,(.pv (.int .i64 (↑(List.length (List.map enc (Nd.sizes n)) - 0):Int)))),(29,(.pv (.int .i64 0))),(49,.undef),(50,.undef),(51,.undef),(52,.undef),(53,.undef),(54,.undef),(55,.undef),(56,.undef),(57,.undef),(58,.undef),(59,.undef),(60,.undef),(61,.undef),(62,.undef),(63,.undef),(64,.undef),(65,.undef),(66,.undef)] [(.obj (.box [(.pv (.int .i64 (Nd.kind n))),(.pv (.int .i64 (Nd.line n))),(.pv (.str (Str.s (Nd.name n)))),(.pv (.int .i64 (Nd.num n))),(.pv (.str (Str.s (Nd.elem n)))),(.pv (.sl 1 false (List.map enc y0))),(.pv (.sl 1 false (List.map enc y1))),(.row 2 (List.length (List.map enc (Nd.sizes n))) 0 (List.length (List.map enc (Nd.sizes n)))),(.pv (.sl 1 false (List.map enc y2))),(.pv (.sl 10 false (List.map enc ks)))])),(.obj (.box [(.pv (.int .i64 0)),(.pv (.int .i64 0)),(.pv (.str [])),(.pv (.int .i64 0)),(.pv (.str [])),(.pv (.sl 0 true [])),(.pv (.sl 0 true [])),(.pv (.sl 0 true [])),(.pv (.sl 0 true [])),(.pv (.sl 0 true []))])),(.obj (.row false 62 2 (List.map enc (Nd.sizes n))))])))))))):Zu Qq (Vt RR) 0 (fun st=>G st.heap) (.inl Ws) [] (Wh 67 [.pv (.agg [enc n.kind,enc n.line,enc n.name,enc n.num,enc n.elem,enc n.dims,enc n.data,enc n.sizes,enc n.ranks,enc ks])] []):=Zu.mh (dm [dv (List Int)] 10 0x31515151) h
theorem a2p{G:Zp->Prop}(RR:Nat->St->Prop)(n:Nd)(ks:List Tm)(m:Nat)(L:List Lin)(i:Int)(h:if (decide (i<(↑m:Int)))=true then(decide (0<=i)&&decide (0+Int.toNat i<m)&&List.length (List.map enc L)==m)=true∧((List.length (List.map enc L)==m&&decide (0+Int.toNat i<List.length (List.map enc L)))=true∧((decide (0+1+List.length [Sh.sl 2]<=List.length (PV.cells (List.getD (List.map enc L) (0+Int.toNat i) default)))&&ZU (PV.cells (List.getD (List.map enc L) (0+Int.toNat i) default)) (0+1) [Sh.sl 2])=true∧((Go.Pl.preT (fun(x:List Coef×Unit)=>decide (List.length x.1<=2000000)) [(.sl 2 (PV.asT (List.getD (PV.cells (List.getD (List.map enc L) (0+Int.toNat i) default)) (0+1) default)) (PV.asXs (List.getD (PV.cells (List.getD (List.map enc L) (0+Int.toNat i) default)) (0+1) default)))])=true∧(∃ y0:List Coef,AV.pv (Zi (fun(x:List Coef×Unit)=>x.1) [(.sl 2 (PV.asT (List.getD (PV.cells (List.getD (List.map enc L) (0+Int.toNat i) default)) (0+1) default)) (PV.asXs (List.getD (PV.cells (List.getD (List.map enc L) (0+Int.toNat i) default)) (0+1) default)))])=AV.pv (enc y0)∧((decide (0<=i)&&decide (0+Int.toNat i<m)&&List.length (List.map enc L)==m)=true∧((List.length (List.map enc L)==m&&decide (0+Int.toNat i<List.length (List.map enc L))&&List.length (PV.cells (enc y0))==1&&decide (0+1+1<=List.length (PV.cells (List.getD (List.map enc L) (0+Int.toNat i) default)))&&PV.cellsOk (enc y0))=true∧(AtM Qq (Vt RR) 0 (fun st=>G st.heap) Ws 0 67 [(1,(.ptr 0 0)),(2,(.ptr 1 0)),(4,.undef),(28,(.pv (.int .i64 (↑m:Int)))),(29,(.pv (.int .i64 (IntKind.wrap IntKind.i64 (i+1))))),(49,.undef),(50,.undef),(51,.undef),(52,.undef),(53,.undef),(54,.undef),(55,.undef),(56,.undef),(57,.undef),(58,.undef),(59,.undef),(60,.undef),(61,.undef),(62,.undef),(63,.undef),(64,.undef),(65,.undef),(66,.undef)] [(.obj (.box [(.pv (.int .i64 (Nd.kind n))),(.pv (.int .i64 (Nd.line n))),(.pv (.str (Str.s (Nd.name n)))),(.pv (.int .i64 (Nd.num n))),(.pv (.str (Str.s (Nd.elem n)))),(.pv (.sl 1 false (List.map enc (Nd.dims n)))),(.pv (.sl 1 false (List.map enc (Nd.data n)))),(.row 2 m 0 m),(.pv (.sl 1 false (List.map enc (Nd.ranks n)))),(.pv (.sl 10 false (List.map enc ks)))])),(.obj (.box [(.pv (.int .i64 0)),(.pv (.int .i64 0)),(.pv (.str [])),(.pv (.int .i64 0)),(.pv (.str [])),(.pv (.sl 0 true [])),(.pv (.sl 0 true [])),(.pv (.sl 0 true [])),(.pv (.sl 0 true [])),(.pv (.sl 0 true []))])),(.obj (.row false 62 2 (List.set (List.map enc L) (0+Int.toNat i) (PV.withCells (List.getD (List.map enc L) (0+Int.toNat i) default) (splice (PV.cells (List.getD (List.map enc L) (0+Int.toNat i) default)) (0+1) (PV.cells (enc y0)))))))])))))))else((Yl 10 [(.pv (.sl 10 false (List.map enc ks)))] [])=true∧((Vt RR) 0 ⟨ZB 67 0 [(1,(.ptr 0 0)),(2,(.ptr 1 0)),(4,.undef),(49,.undef),(50,.undef),(51,.undef),(52,.undef),(53,.undef),(54,.undef),(55,.undef),(56,.undef),(57,.undef),(58,.undef),(59,.undef),(60,.undef),(61,.undef),(62,.undef),(63,.undef),(64,.undef),(65,.undef),(66,.undef)],[(.obj (.box [(.pv (.int .i64 (Nd.kind n))),(.pv (.int .i64 (Nd.line n))),(.pv (.str (Str.s (Nd.name n)))),(.pv (.int .i64 (Nd.num n))),(.pv (.str (Str.s (Nd.elem n)))),(.pv (.sl 1 false (List.map enc (Nd.dims n)))),(.pv (.sl 1 false (List.map enc (Nd.data n)))),(.row 2 m 0 m),(.pv (.sl 1 false (List.map enc (Nd.ranks n)))),(.row 3 (List.length (List.map enc ks)) 0 (List.length (List.map enc ks)))])),(.obj (.box [(.pv (.int .i64 0)),(.pv (.int .i64 0)),(.pv (.str [])),(.pv (.int .i64 0)),(.pv (.str [])),(.pv (.sl 0 true [])),(.pv (.sl 0 true [])),(.pv (.sl 0 true [])),(.pv (.sl 0 true [])),(.pv (.sl 0 true []))])),(.obj (.row false 62 2 (List.map enc L))),(.obj (.row false 28 10 (List.map enc ks)))]⟩ (fun x S'=>Um Qq (Vt RR) 0 (fun st=>G st.heap) Ws 0 x S')))):AtM Qq (Vt RR) 0 (fun st=>G st.heap) Ws 0 67 [(1,.ptr 0 0),(2,.ptr 1 0),(4,.undef),(28,.pv (.int .i64 m)),(29,.pv (.int .i64 i)),(49,.undef),(50,.undef),(51,.undef),(52,.undef),(53,.undef),(54,.undef),(55,.undef),(56,.undef),(57,.undef),(58,.undef),(59,.undef),(60,.undef),(61,.undef),(62,.undef),(63,.undef),(64,.undef),(65,.undef),(66,.undef)] [.obj (.box [.pv (enc n.kind),.pv (enc n.line),.pv (enc n.name),.pv (enc n.num),.pv (enc n.elem),.pv (enc n.dims),.pv (enc n.data),.row 2 m 0 m,.pv (enc n.ranks),.pv (enc ks)]),.obj (.box [.pv (.int .i64 0),.pv (.int .i64 0),.pv (.str []),.pv (.int .i64 0),.pv (.str []),.pv (.sl 0 true []),.pv (.sl 0 true []),.pv (.sl 0 true []),.pv (.sl 0 true []),.pv (.sl 0 true [])]),.obj (.row false 62 2 (L.map enc))]:=Zu.mh (dm [dv (List Coef)] 20 0x310213151113100b42) h
def Ky:IC:=Ws
def Dj:ZE:=YB [(93,.pure (preT (fun x:List Int×Unit=>decide (x.1.length<=2000000))) (Zi (fun x:List Int×Unit=>x.1))),(94,.pure (preT (fun x:List Lin×Unit=>x.1.isEmpty)) (Zi (fun x:List Lin×Unit=>x.1))),(95,.pure (preT (fun x:List Coef×Unit=>decide (x.1.length<=2000000))) (Zi (fun x:List Coef×Unit=>x.1))),(96,.own (Yl 10) (XO 28 10))]
theorem c9z{G:Zp->Prop}(RR:Nat->St->Prop)(n:Nd)(ks:List Tm)(h:(Go.Pl.preT (fun(x:List Int×Unit)=>decide (List.length x.1<=2000000)) [(.sl 1 false (List.map enc (Nd.dims n)))])=true∧(∃ y0:List Int,AV.pv (Zi (fun(x:List Int×Unit)=>x.1) [(.sl 1 false (List.map enc (Nd.dims n)))])=AV.pv (enc y0)∧((Go.Pl.preT (fun(x:List Int×Unit)=>decide (List.length x.1<=2000000)) [(.sl 1 false (List.map enc (Nd.data n)))])=true∧(∃ y1:List Int,AV.pv (Zi (fun(x:List Int×Unit)=>x.1) [(.sl 1 false (List.map enc (Nd.data n)))])=AV.pv (enc y1)∧((Go.Pl.preT (fun(x:List Int×Unit)=>decide (List.length x.1<=2000000)) [(.sl 1 false (List.map enc (Nd.ranks n)))])=true∧(∃ y2:List Int,AV.pv (Zi (fun(x:List Int×Unit)=>x.1) [(.sl 1 false (List.map enc (Nd.ranks n)))])=AV.pv (enc y2)∧((Go.Pl.preT (fun(x:List Lin×Unit)=>List.isEmpty x.1) [(.sl 2 false (List.map enc (Nd.sizes n)))])=true∧(∃ y3:List Lin,AV.pv (Zi (fun(x:List Lin×Unit)=>x.1) [(.sl 2 false (List.map enc (Nd.sizes n)))])=AV.pv (enc y3)∧(AtM Dj (Vt RR) 0 (fun st=>G st.heap) Ky 0 67 [(1,(.ptr 0 0)),(2,(.ptr 1 0)),(4,.undef),(28,(.pv (.int .i64 (↑(List.length (List.map enc y3)):Int)))),(29,(.pv (.int .i64 0))),(49,.undef),(50,.undef),(51,.undef),(52,.undef),(53,.undef),(54,.undef),(55,.undef),(56,.undef),(57,.undef),(58,.undef),(59,.undef),(60,.undef),(61,.undef),(62,.undef),(63,.undef),(64,.undef),(65,.undef),(66,.undef)] [(.obj (.box [(.pv (.int .i64 (Nd.kind n))),(.pv (.int .i64 (Nd.line n))),(.pv (.str (Str.s (Nd.name n)))),(.pv (.int .i64 (Nd.num n))),(.pv (.str (Str.s (Nd.elem n)))),(.pv (.sl 1 false (List.map enc y0))),(.pv (.sl 1 false (List.map enc y1))),(.pv (.sl 2 false (List.map enc y3))),(.pv (.sl 1 false (List.map enc y2))),(.pv (.sl 10 false (List.map enc ks)))])),(.obj (.box [(.pv (.int .i64 0)),(.pv (.int .i64 0)),(.pv (.str [])),(.pv (.int .i64 0)),(.pv (.str [])),(.pv (.sl 0 true [])),(.pv (.sl 0 true [])),(.pv (.sl 0 true [])),(.pv (.sl 0 true [])),(.pv (.sl 0 true []))]))]))))))))):Zu Dj (Vt RR) 0 (fun st=>G st.heap) (.inl Ky) [] (Wh 67 [.pv (.agg [enc n.kind,enc n.line,enc n.name,enc n.num,enc n.elem,enc n.dims,enc n.data,enc n.sizes,enc n.ranks,enc ks])] []):=Zu.mh (dm [dv (List Int),dv (List Lin)] 10 0x61515151) h
-- BAD 1 in a3s
theorem a3s{G:Zp->Prop}(RR:Nat->St->Prop)(n:Nd)(ks:List Tm)(m i:Int)(h:if (decide (i<m))=true then(decide (0<=i)&&decide (Int.toNat i<List.length (List.map enc (Nd.sizes n)))&&Enc.sz Lin==2)=true∧(∃ y0:Lin,AV.pv (PV.rptr (PV.cells (List.getD (List.map enc (Nd.sizes n)) (Int.toNat i) default)))=AV.pv (PV.rptr (PV.cells ((enc) y0)))∧((Go.Pl.preT (fun(x:List Coef×Unit)=>decide (List.length x.1<=2000000)) [(.sl 2 false (PV.asXs (List.getD (List.drop 1 (PV.cells (enc y0))) 0 default)))])=true∧(∃ y1:List Coef,AV.pv (Zi (fun(x:List Coef×Unit)=>x.1) [(.sl 2 false (PV.asXs (List.getD (List.drop 1 (PV.cells (enc y0))) 0 default)))])=AV.pv (enc y1)∧((decide (0<=i)&&decide (Int.toNat i<List.length (List.map enc (Nd.sizes n)))&&Enc.sz Lin==2)=true∧(∃ y2:Lin,AV.pv (PV.rptr (PV.cells (List.getD (List.map enc (Nd.sizes n)) (Int.toNat i) default)))=AV.pv (PV.rptr (PV.cells ((enc) y2)))∧(False))))))else((Yl 10 [(.pv (.sl 10 false (List.map enc ks)))] [])=true∧((Vt RR) 0 ⟨ZB 67 0 [(1,(.ptr 0 0)),(2,(.ptr 1 0)),(4,.undef),(49,.undef),(50,.undef),(51,.undef),(52,.undef),(53,.undef),(54,.undef),(55,.undef),(56,.undef),(57,.undef),(58,.undef),(59,.undef),(60,.undef),(61,.undef),(62,.undef),(63,.undef),(64,.undef),(65,.undef),(66,.undef)],[(.obj (.box [(.pv (.int .i64 (Nd.kind n))),(.pv (.int .i64 (Nd.line n))),(.pv (.str (Str.s (Nd.name n)))),(.pv (.int .i64 (Nd.num n))),(.pv (.str (Str.s (Nd.elem n)))),(.pv (.sl 1 false (List.map enc (Nd.dims n)))),(.pv (.sl 1 false (List.map enc (Nd.data n)))),(.pv (.sl 2 false (List.map enc (Nd.sizes n)))),(.pv (.sl 1 false (List.map enc (Nd.ranks n)))),(.row 2 (List.length (List.map enc ks)) 0 (List.length (List.map enc ks)))])),(.obj (.box [(.pv (.int .i64 0)),(.pv (.int .i64 0)),(.pv (.str [])),(.pv (.int .i64 0)),(.pv (.str [])),(.pv (.sl 0 true [])),(.pv (.sl 0 true [])),(.pv (.sl 0 true [])),(.pv (.sl 0 true [])),(.pv (.sl 0 true []))])),(.obj (.row false 28 10 (List.map enc ks)))]⟩ (fun x S'=>Um Dj (Vt RR) 0 (fun st=>G st.heap) Ky 0 x S')))):AtM Dj (Vt RR) 0 (fun st=>G st.heap) Ky 0 67 [(1,.ptr 0 0),(2,.ptr 1 0),(4,.undef),(28,.pv (.int .i64 m)),(29,.pv (.int .i64 i)),(49,.undef),(50,.undef),(51,.undef),(52,.undef),(53,.undef),(54,.undef),(55,.undef),(56,.undef),(57,.undef),(58,.undef),(59,.undef),(60,.undef),(61,.undef),(62,.undef),(63,.undef),(64,.undef),(65,.undef),(66,.undef)] [.obj (.box [.pv (enc n.kind),.pv (enc n.line),.pv (enc n.name),.pv (enc n.num),.pv (enc n.elem),.pv (enc n.dims),.pv (enc n.data),.pv (enc n.sizes),.pv (enc n.ranks),.pv (enc ks)]),.obj (.box [.pv (.int .i64 0),.pv (.int .i64 0),.pv (.str []),.pv (.int .i64 0),.pv (.str []),.pv (.sl 0 true []),.pv (.sl 0 true []),.pv (.sl 0 true []),.pv (.sl 0 true []),.pv (.sl 0 true [])])]:=Zu.mh (dm [dr Lin,dv (List Coef)] 17 0x310516125100842) h
def VL:IC:=Ws
def QB:ZE:=YB [(93,.pure (preT (fun x:List Int×Unit=>decide (x.1.length<=2000000))) (Zi (fun x:List Int×Unit=>x.1))),(94,.own (Yl 2) (XO 62 2)),(95,.pure (preT (fun x:List Coef×Unit=>decide (x.1.length<=2000000))) (Zi (fun x:List Coef×Unit=>x.1))),(96,.pure (preT (fun x:List Tm×Unit=>x.1.isEmpty)) (Zi (fun x:List Tm×Unit=>x.1)))]
theorem d3l{G:Zp->Prop}(RR:Nat->St->Prop)(n:Nd)(ks:List Tm)(h:(Go.Pl.preT (fun(x:List Int×Unit)=>decide (List.length x.1<=2000000)) [(.sl 1 false (List.map enc (Nd.dims n)))])=true∧(∃ y0:List Int,AV.pv (Zi (fun(x:List Int×Unit)=>x.1) [(.sl 1 false (List.map enc (Nd.dims n)))])=AV.pv (enc y0)∧((Go.Pl.preT (fun(x:List Int×Unit)=>decide (List.length x.1<=2000000)) [(.sl 1 false (List.map enc (Nd.data n)))])=true∧(∃ y1:List Int,AV.pv (Zi (fun(x:List Int×Unit)=>x.1) [(.sl 1 false (List.map enc (Nd.data n)))])=AV.pv (enc y1)∧((Go.Pl.preT (fun(x:List Int×Unit)=>decide (List.length x.1<=2000000)) [(.sl 1 false (List.map enc (Nd.ranks n)))])=true∧(∃ y2:List Int,AV.pv (Zi (fun(x:List Int×Unit)=>x.1) [(.sl 1 false (List.map enc (Nd.ranks n)))])=AV.pv (enc y2)∧((Yl 2 [(.pv (.sl 2 false (List.map enc (Nd.sizes n))))] [])=true∧(AtM QB (Vt RR) 0 (fun st=>G st.heap) VL 0 67 [(1,(.ptr 0 0)),(2,(.ptr 1 0)),(4,.undef),(28,(.pv (.int .i64 (↑(List.length (List.map enc (Nd.sizes n)) - 0):Int)))),(29,(.pv (.int .i64 0))),(49,.undef),(50,.undef),(51,.undef),(52,.undef),(53,.undef),(54,.undef),(55,.undef),(56,.undef),(57,.undef),(58,.undef),(59,.undef),(60,.undef),(61,.undef),(62,.undef),(63,.undef),(64,.undef),(65,.undef),(66,.undef)] [(.obj (.box [(.pv (.int .i64 (Nd.kind n))),(.pv (.int .i64 (Nd.line n))),(.pv (.str (Str.s (Nd.name n)))),(.pv (.int .i64 (Nd.num n))),(.pv (.str (Str.s (Nd.elem n)))),(.pv (.sl 1 false (List.map enc y0))),(.pv (.sl 1 false (List.map enc y1))),(.row 2 (List.length (List.map enc (Nd.sizes n))) 0 (List.length (List.map enc (Nd.sizes n)))),(.pv (.sl 1 false (List.map enc y2))),(.pv (.sl 10 false (List.map enc ks)))])),(.obj (.box [(.pv (.int .i64 0)),(.pv (.int .i64 0)),(.pv (.str [])),(.pv (.int .i64 0)),(.pv (.str [])),(.pv (.sl 0 true [])),(.pv (.sl 0 true [])),(.pv (.sl 0 true [])),(.pv (.sl 0 true [])),(.pv (.sl 0 true []))])),(.obj (.row false 62 2 (List.map enc (Nd.sizes n))))])))))))):Zu QB (Vt RR) 0 (fun st=>G st.heap) (.inl VL) [] (Wh 67 [.pv (.agg [enc n.kind,enc n.line,enc n.name,enc n.num,enc n.elem,enc n.dims,enc n.data,enc n.sizes,enc n.ranks,enc ks])] []):=Zu.mh (dm [dv (List Int)] 10 0x31515151) h
theorem a0x{G:Zp->Prop}(RR:Nat->St->Prop)(n:Nd)(ks:List Tm)(m:Nat)(L:List Lin)(i:Int)(h:if (decide (i<(↑m:Int)))=true then(decide (0<=i)&&decide (0+Int.toNat i<m)&&List.length (List.map enc L)==m)=true∧((List.length (List.map enc L)==m&&decide (0+Int.toNat i<List.length (List.map enc L)))=true∧((decide (0+1+List.length [Sh.sl 2]<=List.length (PV.cells (List.getD (List.map enc L) (0+Int.toNat i) default)))&&ZU (PV.cells (List.getD (List.map enc L) (0+Int.toNat i) default)) (0+1) [Sh.sl 2])=true∧((Go.Pl.preT (fun(x:List Coef×Unit)=>decide (List.length x.1<=2000000)) [(.sl 2 (PV.asT (List.getD (PV.cells (List.getD (List.map enc L) (0+Int.toNat i) default)) (0+1) default)) (PV.asXs (List.getD (PV.cells (List.getD (List.map enc L) (0+Int.toNat i) default)) (0+1) default)))])=true∧(∃ y0:List Coef,AV.pv (Zi (fun(x:List Coef×Unit)=>x.1) [(.sl 2 (PV.asT (List.getD (PV.cells (List.getD (List.map enc L) (0+Int.toNat i) default)) (0+1) default)) (PV.asXs (List.getD (PV.cells (List.getD (List.map enc L) (0+Int.toNat i) default)) (0+1) default)))])=AV.pv (enc y0)∧((decide (0<=i)&&decide (0+Int.toNat i<m)&&List.length (List.map enc L)==m)=true∧((List.length (List.map enc L)==m&&decide (0+Int.toNat i<List.length (List.map enc L))&&List.length (PV.cells (enc y0))==1&&decide (0+1+1<=List.length (PV.cells (List.getD (List.map enc L) (0+Int.toNat i) default)))&&PV.cellsOk (enc y0))=true∧(AtM QB (Vt RR) 0 (fun st=>G st.heap) VL 0 67 [(1,(.ptr 0 0)),(2,(.ptr 1 0)),(4,.undef),(28,(.pv (.int .i64 (↑m:Int)))),(29,(.pv (.int .i64 (IntKind.wrap IntKind.i64 (i+1))))),(49,.undef),(50,.undef),(51,.undef),(52,.undef),(53,.undef),(54,.undef),(55,.undef),(56,.undef),(57,.undef),(58,.undef),(59,.undef),(60,.undef),(61,.undef),(62,.undef),(63,.undef),(64,.undef),(65,.undef),(66,.undef)] [(.obj (.box [(.pv (.int .i64 (Nd.kind n))),(.pv (.int .i64 (Nd.line n))),(.pv (.str (Str.s (Nd.name n)))),(.pv (.int .i64 (Nd.num n))),(.pv (.str (Str.s (Nd.elem n)))),(.pv (.sl 1 false (List.map enc (Nd.dims n)))),(.pv (.sl 1 false (List.map enc (Nd.data n)))),(.row 2 m 0 m),(.pv (.sl 1 false (List.map enc (Nd.ranks n)))),(.pv (.sl 10 false (List.map enc ks)))])),(.obj (.box [(.pv (.int .i64 0)),(.pv (.int .i64 0)),(.pv (.str [])),(.pv (.int .i64 0)),(.pv (.str [])),(.pv (.sl 0 true [])),(.pv (.sl 0 true [])),(.pv (.sl 0 true [])),(.pv (.sl 0 true [])),(.pv (.sl 0 true []))])),(.obj (.row false 62 2 (List.set (List.map enc L) (0+Int.toNat i) (PV.withCells (List.getD (List.map enc L) (0+Int.toNat i) default) (splice (PV.cells (List.getD (List.map enc L) (0+Int.toNat i) default)) (0+1) (PV.cells (enc y0)))))))])))))))else((Go.Pl.preT (fun(x:List Tm×Unit)=>List.isEmpty x.1) [(.sl 10 false (List.map enc ks))])=true∧(∃ y1:List Tm,AV.pv (Zi (fun(x:List Tm×Unit)=>x.1) [(.sl 10 false (List.map enc ks))])=AV.pv (enc y1)∧((Vt RR) 0 ⟨ZB 67 0 [(1,(.ptr 0 0)),(2,(.ptr 1 0)),(4,.undef),(49,.undef),(50,.undef),(51,.undef),(52,.undef),(53,.undef),(54,.undef),(55,.undef),(56,.undef),(57,.undef),(58,.undef),(59,.undef),(60,.undef),(61,.undef),(62,.undef),(63,.undef),(64,.undef),(65,.undef),(66,.undef)],[(.obj (.box [(.pv (.int .i64 (Nd.kind n))),(.pv (.int .i64 (Nd.line n))),(.pv (.str (Str.s (Nd.name n)))),(.pv (.int .i64 (Nd.num n))),(.pv (.str (Str.s (Nd.elem n)))),(.pv (.sl 1 false (List.map enc (Nd.dims n)))),(.pv (.sl 1 false (List.map enc (Nd.data n)))),(.row 2 m 0 m),(.pv (.sl 1 false (List.map enc (Nd.ranks n)))),(.pv (.sl 10 false (List.map enc y1)))])),(.obj (.box [(.pv (.int .i64 0)),(.pv (.int .i64 0)),(.pv (.str [])),(.pv (.int .i64 0)),(.pv (.str [])),(.pv (.sl 0 true [])),(.pv (.sl 0 true [])),(.pv (.sl 0 true [])),(.pv (.sl 0 true [])),(.pv (.sl 0 true []))])),(.obj (.row false 62 2 (List.map enc L)))]⟩ (fun x S'=>Um QB (Vt RR) 0 (fun st=>G st.heap) VL 0 x S'))))):AtM QB (Vt RR) 0 (fun st=>G st.heap) VL 0 67 [(1,.ptr 0 0),(2,.ptr 1 0),(4,.undef),(28,.pv (.int .i64 m)),(29,.pv (.int .i64 i)),(49,.undef),(50,.undef),(51,.undef),(52,.undef),(53,.undef),(54,.undef),(55,.undef),(56,.undef),(57,.undef),(58,.undef),(59,.undef),(60,.undef),(61,.undef),(62,.undef),(63,.undef),(64,.undef),(65,.undef),(66,.undef)] [.obj (.box [.pv (enc n.kind),.pv (enc n.line),.pv (enc n.name),.pv (enc n.num),.pv (enc n.elem),.pv (enc n.dims),.pv (enc n.data),.row 2 m 0 m,.pv (enc n.ranks),.pv (enc ks)]),.obj (.box [.pv (.int .i64 0),.pv (.int .i64 0),.pv (.str []),.pv (.int .i64 0),.pv (.str []),.pv (.sl 0 true []),.pv (.sl 0 true []),.pv (.sl 0 true []),.pv (.sl 0 true []),.pv (.sl 0 true [])]),.obj (.row false 62 2 (L.map enc))]:=Zu.mh (dm [dv (List Coef),dv (List Tm)] 20 0x610213151113100b42) h
def KY:IC:=Ws
def Gw:ZE:=YB [(93,.pure (preT (fun x:List Int×Unit=>decide (x.1.length<=2000000))) (Zi (fun x:List Int×Unit=>x.1))),(94,.pure (preT (fun x:List Lin×Unit=>x.1.isEmpty)) (Zi (fun x:List Lin×Unit=>x.1))),(95,.pure (preT (fun x:List Coef×Unit=>decide (x.1.length<=2000000))) (Zi (fun x:List Coef×Unit=>x.1))),(96,.pure (preT (fun x:List Tm×Unit=>x.1.isEmpty)) (Zi (fun x:List Tm×Unit=>x.1)))]
theorem d3h{G:Zp->Prop}(RR:Nat->St->Prop)(n:Nd)(ks:List Tm)(h:(Go.Pl.preT (fun(x:List Int×Unit)=>decide (List.length x.1<=2000000)) [(.sl 1 false (List.map enc (Nd.dims n)))])=true∧(∃ y0:List Int,AV.pv (Zi (fun(x:List Int×Unit)=>x.1) [(.sl 1 false (List.map enc (Nd.dims n)))])=AV.pv (enc y0)∧((Go.Pl.preT (fun(x:List Int×Unit)=>decide (List.length x.1<=2000000)) [(.sl 1 false (List.map enc (Nd.data n)))])=true∧(∃ y1:List Int,AV.pv (Zi (fun(x:List Int×Unit)=>x.1) [(.sl 1 false (List.map enc (Nd.data n)))])=AV.pv (enc y1)∧((Go.Pl.preT (fun(x:List Int×Unit)=>decide (List.length x.1<=2000000)) [(.sl 1 false (List.map enc (Nd.ranks n)))])=true∧(∃ y2:List Int,AV.pv (Zi (fun(x:List Int×Unit)=>x.1) [(.sl 1 false (List.map enc (Nd.ranks n)))])=AV.pv (enc y2)∧((Go.Pl.preT (fun(x:List Lin×Unit)=>List.isEmpty x.1) [(.sl 2 false (List.map enc (Nd.sizes n)))])=true∧(∃ y3:List Lin,AV.pv (Zi (fun(x:List Lin×Unit)=>x.1) [(.sl 2 false (List.map enc (Nd.sizes n)))])=AV.pv (enc y3)∧(AtM Gw (Vt RR) 0 (fun st=>G st.heap) KY 0 67 [(1,(.ptr 0 0)),(2,(.ptr 1 0)),(4,.undef),(28,(.pv (.int .i64 (↑(List.length (List.map enc y3)):Int)))),(29,(.pv (.int .i64 0))),(49,.undef),(50,.undef),(51,.undef),(52,.undef),(53,.undef),(54,.undef),(55,.undef),(56,.undef),(57,.undef),(58,.undef),(59,.undef),(60,.undef),(61,.undef),(62,.undef),(63,.undef),(64,.undef),(65,.undef),(66,.undef)] [(.obj (.box [(.pv (.int .i64 (Nd.kind n))),(.pv (.int .i64 (Nd.line n))),(.pv (.str (Str.s (Nd.name n)))),(.pv (.int .i64 (Nd.num n))),(.pv (.str (Str.s (Nd.elem n)))),(.pv (.sl 1 false (List.map enc y0))),(.pv (.sl 1 false (List.map enc y1))),(.pv (.sl 2 false (List.map enc y3))),(.pv (.sl 1 false (List.map enc y2))),(.pv (.sl 10 false (List.map enc ks)))])),(.obj (.box [(.pv (.int .i64 0)),(.pv (.int .i64 0)),(.pv (.str [])),(.pv (.int .i64 0)),(.pv (.str [])),(.pv (.sl 0 true [])),(.pv (.sl 0 true [])),(.pv (.sl 0 true [])),(.pv (.sl 0 true [])),(.pv (.sl 0 true []))]))]))))))))):Zu Gw (Vt RR) 0 (fun st=>G st.heap) (.inl KY) [] (Wh 67 [.pv (.agg [enc n.kind,enc n.line,enc n.name,enc n.num,enc n.elem,enc n.dims,enc n.data,enc n.sizes,enc n.ranks,enc ks])] []):=Zu.mh (dm [dv (List Int),dv (List Lin)] 10 0x61515151) h
-- BAD 1 in a1v
theorem a1v{G:Zp->Prop}(RR:Nat->St->Prop)(n:Nd)(ks:List Tm)(m i:Int)(h:if (decide (i<m))=true then(decide (0<=i)&&decide (Int.toNat i<List.length (List.map enc (Nd.sizes n)))&&Enc.sz Lin==2)=true∧(∃ y0:Lin,AV.pv (PV.rptr (PV.cells (List.getD (List.map enc (Nd.sizes n)) (Int.toNat i) default)))=AV.pv (PV.rptr (PV.cells ((enc) y0)))∧((Go.Pl.preT (fun(x:List Coef×Unit)=>decide (List.length x.1<=2000000)) [(.sl 2 false (PV.asXs (List.getD (List.drop 1 (PV.cells (enc y0))) 0 default)))])=true∧(∃ y1:List Coef,AV.pv (Zi (fun(x:List Coef×Unit)=>x.1) [(.sl 2 false (PV.asXs (List.getD (List.drop 1 (PV.cells (enc y0))) 0 default)))])=AV.pv (enc y1)∧((decide (0<=i)&&decide (Int.toNat i<List.length (List.map enc (Nd.sizes n)))&&Enc.sz Lin==2)=true∧(∃ y2:Lin,AV.pv (PV.rptr (PV.cells (List.getD (List.map enc (Nd.sizes n)) (Int.toNat i) default)))=AV.pv (PV.rptr (PV.cells ((enc) y2)))∧(False))))))else((Go.Pl.preT (fun(x:List Tm×Unit)=>List.isEmpty x.1) [(.sl 10 false (List.map enc ks))])=true∧(∃ y3:List Tm,AV.pv (Zi (fun(x:List Tm×Unit)=>x.1) [(.sl 10 false (List.map enc ks))])=AV.pv (enc y3)∧((Vt RR) 0 ⟨ZB 67 0 [(1,(.ptr 0 0)),(2,(.ptr 1 0)),(4,.undef),(49,.undef),(50,.undef),(51,.undef),(52,.undef),(53,.undef),(54,.undef),(55,.undef),(56,.undef),(57,.undef),(58,.undef),(59,.undef),(60,.undef),(61,.undef),(62,.undef),(63,.undef),(64,.undef),(65,.undef),(66,.undef)],[(.obj (.box [(.pv (.int .i64 (Nd.kind n))),(.pv (.int .i64 (Nd.line n))),(.pv (.str (Str.s (Nd.name n)))),(.pv (.int .i64 (Nd.num n))),(.pv (.str (Str.s (Nd.elem n)))),(.pv (.sl 1 false (List.map enc (Nd.dims n)))),(.pv (.sl 1 false (List.map enc (Nd.data n)))),(.pv (.sl 2 false (List.map enc (Nd.sizes n)))),(.pv (.sl 1 false (List.map enc (Nd.ranks n)))),(.pv (.sl 10 false (List.map enc y3)))])),(.obj (.box [(.pv (.int .i64 0)),(.pv (.int .i64 0)),(.pv (.str [])),(.pv (.int .i64 0)),(.pv (.str [])),(.pv (.sl 0 true [])),(.pv (.sl 0 true [])),(.pv (.sl 0 true [])),(.pv (.sl 0 true [])),(.pv (.sl 0 true []))]))]⟩ (fun x S'=>Um Gw (Vt RR) 0 (fun st=>G st.heap) KY 0 x S'))))):AtM Gw (Vt RR) 0 (fun st=>G st.heap) KY 0 67 [(1,.ptr 0 0),(2,.ptr 1 0),(4,.undef),(28,.pv (.int .i64 m)),(29,.pv (.int .i64 i)),(49,.undef),(50,.undef),(51,.undef),(52,.undef),(53,.undef),(54,.undef),(55,.undef),(56,.undef),(57,.undef),(58,.undef),(59,.undef),(60,.undef),(61,.undef),(62,.undef),(63,.undef),(64,.undef),(65,.undef),(66,.undef)] [.obj (.box [.pv (enc n.kind),.pv (enc n.line),.pv (enc n.name),.pv (enc n.num),.pv (enc n.elem),.pv (enc n.dims),.pv (enc n.data),.pv (enc n.sizes),.pv (enc n.ranks),.pv (enc ks)]),.obj (.box [.pv (.int .i64 0),.pv (.int .i64 0),.pv (.str []),.pv (.int .i64 0),.pv (.str []),.pv (.sl 0 true []),.pv (.sl 0 true []),.pv (.sl 0 true []),.pv (.sl 0 true []),.pv (.sl 0 true [])])]:=Zu.mh (dm [dr Lin,dv (List Coef),dv (List Tm)] 17 0x710516125100842) h
end Go.Pl
