/-
  Texts of mine that belong together (packed by pack.py), for every input: QPr, QPa, GPz, GPt, QPt, QPz, GTd, GTv, QTg, VwU, QTv, QTd, GWy, QWy, GVa, QVa, QCo, GL7, QL7, GL9, QL9, TyRa, GRa, QGc, TyZ0, TyPq.
-/
import Derived.Test.YtbfjgcjjaoaaaaaGreatDoorChecked
import Derived.Test.YtbfjgcjjaoaaaaaGreatDoorProg
import Derived.Test.YtbfjgcjjaoaaaaaGreatDoorKT2
import Derived.Test.YtbfjgcjjaoaaaaaGreatDoorKT3
import Derived.KernelRfl
import Derived.Lib.ItoaLen
set_option linter.unusedVariables false
set_option linter.unusedSimpArgs false
namespace Go.Pl
open Go.RowKit
open Enc (enc dec is)
open EncL (encL decL isL)
theorem c1x: ∀ x:Str×Unit,decide (x.1.s.length<=1048576)=true->Ze a3j 0 (Za MO (Zi (!(ZN x.1.s)))) L9 [] (Z0 d0o (encL x)):=by
 rintro⟨⟨s⟩,⟨⟩⟩ h
 exact d5g s ⟨Zf ((⟨s⟩:Str),()) rfl h,Zd ((⟨s⟩:Str),()) rfl (ZA rfl)⟩
theorem c4l(l:List Str)(hs : ∀ s∈l,s.s.length<=1048576)(hl:l.length<=1048576): ∀ (m i:Nat),m+i=l.length->(∀ j (h:j<l.length),j<i->(!(ZN l[j].s))=false) ->
  At Rk 0 (Za Gh (Zi (XO (fun s:Str=> !(ZN s.s)) l))) Gs 0 19 [(0,.pv (enc l)),(1,.pv (.fn 45)),(7,.pv (.int .i64 l.length)),(8,.pv (.int .i64 i))] []:=by
 intro m
 induction m with
 | zero=>
  intro i hi hno
  refine b5q l i (YA (YR (by omega)) (QM ?_))
  rw[Lu _ _ (fun j hj=>hno j hj (by omega))]
 | succ m ih=>
  intro i hi hno
  have hlt:i<l.length:=by omega
  refine b5q l i (Yv (YO hlt) ⟨ZT hlt rfl,Yk hlt ⟨Zf (l[i],()) rfl (decide_eq_true (hs _ (List.getElem_mem hlt))),Zd (l[i],()) rfl (XR (fun hb=> ?_) fun hb=> ?_)⟩⟩)
  ·exact QM (Mv (fun s:Str=> !(ZN s.s)) l i hlt hno hb).symm
  ·rw[next (by omega)]
   refine ih (i+1) (by omega) fun j hj hji=> ?_
   by_cases he:j=i
   ·subst he;exact hb
   ·exact hno j hj (by omega)
theorem b1h{l:List Str}(h:UE l=true):l.length<=1048576∧ ∀ s∈l,s.s.length<=1048576:=by
 unfold UE at h
 simp only[Bool.and_eq_true,decide_eq_true_eq,List.all_eq_true]at h
 exact h
theorem c9a: ∀ x:List Str×FnV 45×Unit,UE x.1=true->Ze Rk 0 (Za Gh (Zi (XO (fun s:Str=> !(ZN s.s)) x.1))) Gs [] (Z0 d7t (encL x)):=by
 rintro⟨l,g,⟨⟩⟩ h
 have h:=b1h h
 refine d9v l ?_
 rw[List.length_map]
 exact c4l l h.2 h.1 l.length 0 (by omega) fun j hj hji=>by omega
theorem d0t: ∀ x:List Str×FnV 45×Unit,UE x.1=true->Ze b4u 0 (Za a0o (Zi (x.1.any fun s:Str=> !(ZN s.s)))) a2s [] (Z0 d4y (encL x)):=by
 rintro⟨l,g,⟨⟩⟩ h
 exact d9w l ⟨Zf (l,{},()) rfl h,Zd (l,{},()) rfl (ZA (Qs _ _))⟩
theorem a4p: ∀ x:List Str×Unit,UE x.1=true->Ze TT 0 (Za CO (Zi (x.1.all fun s:Str=>ZN s.s))) Bg [] (Z0 a9z (encL x)):=by
 rintro⟨l,⟨⟩⟩ h
 refine c2u l ⟨Zf (l,{},()) rfl h,Zd (l,{},()) rfl (ZA ?_)⟩
 exact Hy l
theorem Fp{t:Tm}(h:tW t=true):UE (V6 t)=true:=by
 have h1:=Jf h
 have hm : ∀ s∈V6 t,s∈YT t:=fun s hs=>by
  have:=JH t fun x=>decide (x∈YT t)
  rw[show((YT t).all fun x=>decide (x∈YT t))=true by simp,List.all_eq_true]at this
  exact of_decide_eq_true (this s hs)
 have h2:(V6 t).length<=1048576:=by
  unfold V6 WP
  rw[List.length_map,List.length_mergeSort,List.length_map]
  have h4:=Ch (YT t) []
  have h5:=Jr 1 t
  have h6:K7 t<=1048576:=of_decide_eq_true h
  have h7:(YT t).length=(((Yn 1 t).map (·.1)).flatMap Ut).length:=rfl
  simp only[List.length_nil,Nat.zero_add]at h4
  unfold Gt
  omega
 unfold UE
 rw[decide_eq_true h2,Bool.true_and,List.all_eq_true]
 exact fun s hs=>decide_eq_true (h1 s (hm s hs))
theorem a0v: ∀ x:Tm×Unit,tW x.1=true->Ze GY 0 (Za JN (Zi (Y3 x.1))) CS [] (Z0 a9v (encL x)):=by
 rintro⟨⟨n,ks⟩,⟨⟩⟩ h
 rw[<- YN]
 show Ze GY 0 (Za JN (Zi (Y3 (.mk n ks)))) _ _ _
 refine c3k n ks ⟨Zf (.mk n ks,()) (YN n ks) h,Zd (.mk n ks,()) (YN n ks) (XR (fun h1=> ?_) fun h1=> ?_)⟩
 ·refine⟨Zf (.mk n ks,()) (YN n ks) h,Zd (.mk n ks,()) (YN n ks) ⟨Zf (V6 (.mk n ks),()) rfl (Fp h),Zd (V6 (.mk n ks),()) rfl (ZA ?_)⟩⟩
  have h1:Y4 (.mk n ks)=true:=h1
  unfold Y3
  rw[h1,Bool.true_and]
 ·have h1:Y4 (.mk n ks)=false:=h1
  refine ZA ?_
  unfold Y3
  rw[h1,Bool.false_and]
theorem c0m: ∀ x:Str×Unit,true=true->Ze a2m 0 (Za Ll (Zi (Tk x.1))) Mr [] (Z0 d1t (encL x)):=by
 rintro⟨⟨s⟩,⟨⟩⟩ _
 refine d6j s (Yg (fun h=> ?_) fun h=> ?_)
 ·exact Zo (x:=((⟨[]⟩,3):Str×Int)) (by unfold Tk;rw[if_pos h])
 ·exact Zo (x:=((⟨s⟩,0):Str×Int)) (by unfold Tk;rw[if_neg h])
theorem b4a: ∀ ps:List PV,Az ps=true->Ze a4c 0 (Za Ny fun r=>r=Am ps) MS [] (Z0 c7c ps):=by
 intro ps h
 cases ps with
 | nil=>exact d6d rfl
 | cons a l=>cases h
def Qu(s:List UInt8)(l:List OpR):R3 Str Bool Bool:=match l.find? fun r=>r.n==s with
 | some r=>⟨⟨r.s⟩,r.u,true⟩
 | none=>⟨⟨[]⟩,false,false⟩
def Qt(s:List UInt8)(u:Bool)(l:List OpR):R3 Str Int Bool:=match l.find? fun r=>r.s==s&&r.u==u with
 | some r=>⟨⟨r.n⟩,r.l,true⟩
 | none=>⟨⟨[]⟩,0,false⟩
theorem Xm{s:List UInt8}{r:OpR}{l:List OpR}(a:r.n=s):Qu s (r::l)=⟨⟨r.s⟩,r.u,true⟩:=by unfold Qu;rw[List.find?_cons_of_pos (by rw[a];simp)]
theorem X5{s:List UInt8}{r:OpR}{l:List OpR}(a:r.n≠s):Qu s (r::l)=Qu s l:=by unfold Qu;rw[List.find?_cons_of_neg (by simpa using a)]
theorem Xj{s:List UInt8}{u:Bool}{r:OpR}{l:List OpR}(a:r.s=s)(b:r.u=u):Qt s u (r::l)=⟨⟨r.n⟩,r.l,true⟩:=by unfold Qt;rw[List.find?_cons_of_pos (by rw[a,b];simp)]
theorem Yu{s:List UInt8}{u:Bool}{r:OpR}{l:List OpR}(a : ¬ (r.s=s∧r.u=u)):Qt s u (r::l)=Qt s u l:=by unfold Qt;rw[List.find?_cons_of_neg (by simpa using a)]
theorem d4v(s:List UInt8){F:R3 Str Bool Bool}(e:Qu s (XL.drop 15)=F):At Z4 0 (Za ZJ (Zi F)) ZK 0 20 [(0,.pv (.str s)),(7,.pv ZR),(8,.pv (.int .i64 15))] []:=c1k s (Zo (x:=(⟨⟨[]⟩,false,false⟩:R3 Str Bool Bool)) e)
theorem d5m(s:List UInt8){F:R3 Str Bool Bool}(e:Qu s (XL.drop 14)=F):At Z4 0 (Za ZJ (Zi F)) ZK 0 20 [(0,.pv (.str s)),(7,.pv ZR),(8,.pv (.int .i64 14))] []:=b4d s (ZL (fun h=>Zo (β:=R3 Str Bool Bool) ((Xm h).symm.trans e)) fun h=>d4v s ((X5 h).symm.trans e))
theorem d3x(s:List UInt8){F:R3 Str Bool Bool}(e:Qu s (XL.drop 13)=F):At Z4 0 (Za ZJ (Zi F)) ZK 0 20 [(0,.pv (.str s)),(7,.pv ZR),(8,.pv (.int .i64 13))] []:=c4y s (ZL (fun h=>Zo (β:=R3 Str Bool Bool) ((Xm h).symm.trans e)) fun h=>d5m s ((X5 h).symm.trans e))
theorem d7u(s:List UInt8){F:R3 Str Bool Bool}(e:Qu s (XL.drop 12)=F):At Z4 0 (Za ZJ (Zi F)) ZK 0 20 [(0,.pv (.str s)),(7,.pv ZR),(8,.pv (.int .i64 12))] []:=b9l s (ZL (fun h=>Zo (β:=R3 Str Bool Bool) ((Xm h).symm.trans e)) fun h=>d3x s ((X5 h).symm.trans e))
theorem d3s(s:List UInt8){F:R3 Str Bool Bool}(e:Qu s (XL.drop 11)=F):At Z4 0 (Za ZJ (Zi F)) ZK 0 20 [(0,.pv (.str s)),(7,.pv ZR),(8,.pv (.int .i64 11))] []:=b8d s (ZL (fun h=>Zo (β:=R3 Str Bool Bool) ((Xm h).symm.trans e)) fun h=>d7u s ((X5 h).symm.trans e))
theorem d3j(s:List UInt8){F:R3 Str Bool Bool}(e:Qu s (XL.drop 10)=F):At Z4 0 (Za ZJ (Zi F)) ZK 0 20 [(0,.pv (.str s)),(7,.pv ZR),(8,.pv (.int .i64 10))] []:=b6u s (ZL (fun h=>Zo (β:=R3 Str Bool Bool) ((Xm h).symm.trans e)) fun h=>d3s s ((X5 h).symm.trans e))
theorem d4u(s:List UInt8){F:R3 Str Bool Bool}(e:Qu s (XL.drop 9)=F):At Z4 0 (Za ZJ (Zi F)) ZK 0 20 [(0,.pv (.str s)),(7,.pv ZR),(8,.pv (.int .i64 9))] []:=c5a s (ZL (fun h=>Zo (β:=R3 Str Bool Bool) ((Xm h).symm.trans e)) fun h=>d3j s ((X5 h).symm.trans e))
theorem d7h(s:List UInt8){F:R3 Str Bool Bool}(e:Qu s (XL.drop 8)=F):At Z4 0 (Za ZJ (Zi F)) ZK 0 20 [(0,.pv (.str s)),(7,.pv ZR),(8,.pv (.int .i64 8))] []:=b4q s (ZL (fun h=>Zo (β:=R3 Str Bool Bool) ((Xm h).symm.trans e)) fun h=>d4u s ((X5 h).symm.trans e))
theorem d8d(s:List UInt8){F:R3 Str Bool Bool}(e:Qu s (XL.drop 7)=F):At Z4 0 (Za ZJ (Zi F)) ZK 0 20 [(0,.pv (.str s)),(7,.pv ZR),(8,.pv (.int .i64 7))] []:=c0l s (ZL (fun h=>Zo (β:=R3 Str Bool Bool) ((Xm h).symm.trans e)) fun h=>d7h s ((X5 h).symm.trans e))
theorem d3i(s:List UInt8){F:R3 Str Bool Bool}(e:Qu s (XL.drop 6)=F):At Z4 0 (Za ZJ (Zi F)) ZK 0 20 [(0,.pv (.str s)),(7,.pv ZR),(8,.pv (.int .i64 6))] []:=c4x s (ZL (fun h=>Zo (β:=R3 Str Bool Bool) ((Xm h).symm.trans e)) fun h=>d8d s ((X5 h).symm.trans e))
theorem d5l(s:List UInt8){F:R3 Str Bool Bool}(e:Qu s (XL.drop 5)=F):At Z4 0 (Za ZJ (Zi F)) ZK 0 20 [(0,.pv (.str s)),(7,.pv ZR),(8,.pv (.int .i64 5))] []:=c2h s (ZL (fun h=>Zo (β:=R3 Str Bool Bool) ((Xm h).symm.trans e)) fun h=>d3i s ((X5 h).symm.trans e))
theorem d8j(s:List UInt8){F:R3 Str Bool Bool}(e:Qu s (XL.drop 4)=F):At Z4 0 (Za ZJ (Zi F)) ZK 0 20 [(0,.pv (.str s)),(7,.pv ZR),(8,.pv (.int .i64 4))] []:=c2b s (ZL (fun h=>Zo (β:=R3 Str Bool Bool) ((Xm h).symm.trans e)) fun h=>d5l s ((X5 h).symm.trans e))
theorem d6u(s:List UInt8){F:R3 Str Bool Bool}(e:Qu s (XL.drop 3)=F):At Z4 0 (Za ZJ (Zi F)) ZK 0 20 [(0,.pv (.str s)),(7,.pv ZR),(8,.pv (.int .i64 3))] []:=c2y s (ZL (fun h=>Zo (β:=R3 Str Bool Bool) ((Xm h).symm.trans e)) fun h=>d8j s ((X5 h).symm.trans e))
theorem d7f(s:List UInt8){F:R3 Str Bool Bool}(e:Qu s (XL.drop 2)=F):At Z4 0 (Za ZJ (Zi F)) ZK 0 20 [(0,.pv (.str s)),(7,.pv ZR),(8,.pv (.int .i64 2))] []:=b7l s (ZL (fun h=>Zo (β:=R3 Str Bool Bool) ((Xm h).symm.trans e)) fun h=>d6u s ((X5 h).symm.trans e))
theorem d8n(s:List UInt8){F:R3 Str Bool Bool}(e:Qu s (XL.drop 1)=F):At Z4 0 (Za ZJ (Zi F)) ZK 0 20 [(0,.pv (.str s)),(7,.pv ZR),(8,.pv (.int .i64 1))] []:=b7t s (ZL (fun h=>Zo (β:=R3 Str Bool Bool) ((Xm h).symm.trans e)) fun h=>d7f s ((X5 h).symm.trans e))
theorem d5r(s:List UInt8){F:R3 Str Bool Bool}(e:Qu s (XL.drop 0)=F):At Z4 0 (Za ZJ (Zi F)) ZK 0 20 [(0,.pv (.str s)),(7,.pv ZR),(8,.pv (.int .i64 0))] []:=b8e s (ZL (fun h=>Zo (β:=R3 Str Bool Bool) ((Xm h).symm.trans e)) fun h=>d8n s ((X5 h).symm.trans e))
theorem c3i(s:List UInt8)(u:Bool){F:R3 Str Int Bool}(e:Qt s u (XL.drop 15)=F):At ZG 0 (Za Zw (Zi F)) Zx 0 28 [(0,.pv (.str s)),(1,.pv (.bool u)),(9,.pv ZR),(10,.pv (.int .i64 15))] []:=b7u s u (Zo (x:=(⟨⟨[]⟩,0,false⟩:R3 Str Int Bool)) e)
theorem b5a(s:List UInt8)(u:Bool){F:R3 Str Int Bool}(e:Qt s u (XL.drop 14)=F):At ZG 0 (Za Zw (Zi F)) Zx 0 28 [(0,.pv (.str s)),(1,.pv (.bool u)),(9,.pv ZR),(10,.pv (.int .i64 14))] []:=b7c s u (ZL (fun h=>ZL (fun h2=>Zo (β:=R3 Str Int Bool) ((Xj h h2).symm.trans e)) fun h2=>c3i s u ((Yu fun x=>h2 x.2).symm.trans e)) fun h=>c3i s u ((Yu fun x=>h x.1).symm.trans e))
theorem b3m(s:List UInt8)(u:Bool){F:R3 Str Int Bool}(e:Qt s u (XL.drop 13)=F):At ZG 0 (Za Zw (Zi F)) Zx 0 28 [(0,.pv (.str s)),(1,.pv (.bool u)),(9,.pv ZR),(10,.pv (.int .i64 13))] []:=c4s s u (ZL (fun h=>ZL (fun h2=>Zo (β:=R3 Str Int Bool) ((Xj h h2).symm.trans e)) fun h2=>b5a s u ((Yu fun x=>h2 x.2).symm.trans e)) fun h=>b5a s u ((Yu fun x=>h x.1).symm.trans e))
theorem c4j(s:List UInt8)(u:Bool){F:R3 Str Int Bool}(e:Qt s u (XL.drop 12)=F):At ZG 0 (Za Zw (Zi F)) Zx 0 28 [(0,.pv (.str s)),(1,.pv (.bool u)),(9,.pv ZR),(10,.pv (.int .i64 12))] []:=b3j s u (ZL (fun h=>ZL (fun h2=>Zo (β:=R3 Str Int Bool) ((Xj h h2).symm.trans e)) fun h2=>b3m s u ((Yu fun x=>h2 x.2).symm.trans e)) fun h=>b3m s u ((Yu fun x=>h x.1).symm.trans e))
theorem b9n(s:List UInt8)(u:Bool){F:R3 Str Int Bool}(e:Qt s u (XL.drop 11)=F):At ZG 0 (Za Zw (Zi F)) Zx 0 28 [(0,.pv (.str s)),(1,.pv (.bool u)),(9,.pv ZR),(10,.pv (.int .i64 11))] []:=b3z s u (ZL (fun h=>ZL (fun h2=>Zo (β:=R3 Str Int Bool) ((Xj h h2).symm.trans e)) fun h2=>c4j s u ((Yu fun x=>h2 x.2).symm.trans e)) fun h=>c4j s u ((Yu fun x=>h x.1).symm.trans e))
theorem c2p(s:List UInt8)(u:Bool){F:R3 Str Int Bool}(e:Qt s u (XL.drop 10)=F):At ZG 0 (Za Zw (Zi F)) Zx 0 28 [(0,.pv (.str s)),(1,.pv (.bool u)),(9,.pv ZR),(10,.pv (.int .i64 10))] []:=c3d s u (ZL (fun h=>ZL (fun h2=>Zo (β:=R3 Str Int Bool) ((Xj h h2).symm.trans e)) fun h2=>b9n s u ((Yu fun x=>h2 x.2).symm.trans e)) fun h=>b9n s u ((Yu fun x=>h x.1).symm.trans e))
theorem b4g(s:List UInt8)(u:Bool){F:R3 Str Int Bool}(e:Qt s u (XL.drop 9)=F):At ZG 0 (Za Zw (Zi F)) Zx 0 28 [(0,.pv (.str s)),(1,.pv (.bool u)),(9,.pv ZR),(10,.pv (.int .i64 9))] []:=c4o s u (ZL (fun h=>ZL (fun h2=>Zo (β:=R3 Str Int Bool) ((Xj h h2).symm.trans e)) fun h2=>c2p s u ((Yu fun x=>h2 x.2).symm.trans e)) fun h=>c2p s u ((Yu fun x=>h x.1).symm.trans e))
theorem b7b(s:List UInt8)(u:Bool){F:R3 Str Int Bool}(e:Qt s u (XL.drop 8)=F):At ZG 0 (Za Zw (Zi F)) Zx 0 28 [(0,.pv (.str s)),(1,.pv (.bool u)),(9,.pv ZR),(10,.pv (.int .i64 8))] []:=b9z s u (ZL (fun h=>ZL (fun h2=>Zo (β:=R3 Str Int Bool) ((Xj h h2).symm.trans e)) fun h2=>b4g s u ((Yu fun x=>h2 x.2).symm.trans e)) fun h=>b4g s u ((Yu fun x=>h x.1).symm.trans e))
theorem c0h(s:List UInt8)(u:Bool){F:R3 Str Int Bool}(e:Qt s u (XL.drop 7)=F):At ZG 0 (Za Zw (Zi F)) Zx 0 28 [(0,.pv (.str s)),(1,.pv (.bool u)),(9,.pv ZR),(10,.pv (.int .i64 7))] []:=b4r s u (ZL (fun h=>ZL (fun h2=>Zo (β:=R3 Str Int Bool) ((Xj h h2).symm.trans e)) fun h2=>b7b s u ((Yu fun x=>h2 x.2).symm.trans e)) fun h=>b7b s u ((Yu fun x=>h x.1).symm.trans e))
theorem c1n(s:List UInt8)(u:Bool){F:R3 Str Int Bool}(e:Qt s u (XL.drop 6)=F):At ZG 0 (Za Zw (Zi F)) Zx 0 28 [(0,.pv (.str s)),(1,.pv (.bool u)),(9,.pv ZR),(10,.pv (.int .i64 6))] []:=c3g s u (ZL (fun h=>ZL (fun h2=>Zo (β:=R3 Str Int Bool) ((Xj h h2).symm.trans e)) fun h2=>c0h s u ((Yu fun x=>h2 x.2).symm.trans e)) fun h=>c0h s u ((Yu fun x=>h x.1).symm.trans e))
theorem b7v(s:List UInt8)(u:Bool){F:R3 Str Int Bool}(e:Qt s u (XL.drop 5)=F):At ZG 0 (Za Zw (Zi F)) Zx 0 28 [(0,.pv (.str s)),(1,.pv (.bool u)),(9,.pv ZR),(10,.pv (.int .i64 5))] []:=c4w s u (ZL (fun h=>ZL (fun h2=>Zo (β:=R3 Str Int Bool) ((Xj h h2).symm.trans e)) fun h2=>c1n s u ((Yu fun x=>h2 x.2).symm.trans e)) fun h=>c1n s u ((Yu fun x=>h x.1).symm.trans e))
theorem b3q(s:List UInt8)(u:Bool){F:R3 Str Int Bool}(e:Qt s u (XL.drop 4)=F):At ZG 0 (Za Zw (Zi F)) Zx 0 28 [(0,.pv (.str s)),(1,.pv (.bool u)),(9,.pv ZR),(10,.pv (.int .i64 4))] []:=c4q s u (ZL (fun h=>ZL (fun h2=>Zo (β:=R3 Str Int Bool) ((Xj h h2).symm.trans e)) fun h2=>b7v s u ((Yu fun x=>h2 x.2).symm.trans e)) fun h=>b7v s u ((Yu fun x=>h x.1).symm.trans e))
theorem c0n(s:List UInt8)(u:Bool){F:R3 Str Int Bool}(e:Qt s u (XL.drop 3)=F):At ZG 0 (Za Zw (Zi F)) Zx 0 28 [(0,.pv (.str s)),(1,.pv (.bool u)),(9,.pv ZR),(10,.pv (.int .i64 3))] []:=b9s s u (ZL (fun h=>ZL (fun h2=>Zo (β:=R3 Str Int Bool) ((Xj h h2).symm.trans e)) fun h2=>b3q s u ((Yu fun x=>h2 x.2).symm.trans e)) fun h=>b3q s u ((Yu fun x=>h x.1).symm.trans e))
theorem b5s(s:List UInt8)(u:Bool){F:R3 Str Int Bool}(e:Qt s u (XL.drop 2)=F):At ZG 0 (Za Zw (Zi F)) Zx 0 28 [(0,.pv (.str s)),(1,.pv (.bool u)),(9,.pv ZR),(10,.pv (.int .i64 2))] []:=b4w s u (ZL (fun h=>ZL (fun h2=>Zo (β:=R3 Str Int Bool) ((Xj h h2).symm.trans e)) fun h2=>c0n s u ((Yu fun x=>h2 x.2).symm.trans e)) fun h=>c0n s u ((Yu fun x=>h x.1).symm.trans e))
theorem b7e(s:List UInt8)(u:Bool){F:R3 Str Int Bool}(e:Qt s u (XL.drop 1)=F):At ZG 0 (Za Zw (Zi F)) Zx 0 28 [(0,.pv (.str s)),(1,.pv (.bool u)),(9,.pv ZR),(10,.pv (.int .i64 1))] []:=b5t s u (ZL (fun h=>ZL (fun h2=>Zo (β:=R3 Str Int Bool) ((Xj h h2).symm.trans e)) fun h2=>b5s s u ((Yu fun x=>h2 x.2).symm.trans e)) fun h=>b5s s u ((Yu fun x=>h x.1).symm.trans e))
theorem d6e(s:List UInt8)(u:Bool){F:R3 Str Int Bool}(e:Qt s u (XL.drop 0)=F):At ZG 0 (Za Zw (Zi F)) Zx 0 28 [(0,.pv (.str s)),(1,.pv (.bool u)),(9,.pv ZR),(10,.pv (.int .i64 0))] []:=b3k s u (ZL (fun h=>ZL (fun h2=>Zo (β:=R3 Str Int Bool) ((Xj h h2).symm.trans e)) fun h2=>b7e s u ((Yu fun x=>h2 x.2).symm.trans e)) fun h=>b7e s u ((Yu fun x=>h x.1).symm.trans e))
theorem b5v: ∀ x:Str×Unit,true=true->Ze Z4 0 (Za ZJ (Zi (KS x.1))) ZK [] (Z0 c8g (encL x)):=by
 rintro⟨⟨s⟩,⟨⟩⟩ _
 exact d5b s (d5r s rfl)
theorem b7f: ∀ x:Str×Bool×Unit,true=true->Ze ZG 0 (Za Zw (Zi (YJ x.1 x.2.1))) Zx [] (Z0 c5w (encL x)):=by
 rintro⟨⟨s⟩,u,⟨⟩⟩ _
 exact d6l s u (d6e s u rfl)
theorem c7j: ∀ x:Tm×Unit,tW x.1=true->Ze a7j 0 (Za Lv (Zi (Q7 x.1))) a3a [] (Z0 d8b (encL x)):=by
 rintro⟨⟨n,ks⟩,⟨⟩⟩ h
 rw[<- YN]
 show Ze a7j 0 (Za Lv (Zi (Q7 (.mk n ks)))) _ _ _
 have e0:Q7 (.mk n ks)=((⟨[]⟩,0):Str×Int)->Zi (Q7 (.mk n ks)) (.tup [.str [],.int .i64 0]):=fun e=>Zo (x:=((⟨[]⟩,0):Str×Int)) e.symm
 refine d8t n ks (Zd (n.name,()) rfl ?_)
 have hs:KS n.name=match GA n.name.s with|some r=>⟨⟨r.s⟩,r.u,true⟩|none=>⟨⟨[]⟩,false,false⟩:=rfl
 cases hq:GA n.name.s with
 | none=>
  have e:Q7 (.mk n ks)=((⟨[]⟩,0):Str×Int):=by rw[show Q7 (.mk n ks)=MM n ks.length from rfl];unfold MM Jh;simp[hq]
  rw[show KS n.name=⟨⟨[]⟩,false,false⟩from by rw[hs,hq]]
  exact e0 e
 | some r=>
  rw[show KS n.name=⟨⟨r.s⟩,r.u,true⟩from by rw[hs,hq]]
  have hn : ¬ (n.kind=6∧ks.length=(if r.u then 1 else 2)∧n.sizes=[]∧n.num=0∧n.ranks=[])->Q7 (.mk n ks)=((⟨[]⟩,0):Str×Int):=fun h=>by
   rw[show Q7 (.mk n ks)=MM n ks.length from rfl]
   unfold MM Jh
   simp only[hq]
   rw[if_neg h]
  have hy:(n.kind=6∧ks.length=(if r.u then 1 else 2)∧n.sizes=[]∧n.num=0∧n.ranks=[])->Q7 (.mk n ks)=((⟨r.s⟩,if r.u then 1 else 2):Str×Int):=fun h=>by
   rw[show Q7 (.mk n ks)=MM n ks.length from rfl]
   unfold MM Jh
   simp only[hq]
   rw[if_pos h]
  have hz : ∀ {α:Type} [Enc α] {l:List α},¬ ((List.length (List.map (enc:α->PV) l):Nat):Int)>0->l=[]:=fun {α} _ {l} h=>by
   cases l with
   | nil=>rfl
   | cons a l=>exact absurd (by simp) h
  have hz' : ∀ {α:Type} [Enc α] {l:List α},((List.length (List.map (enc:α->PV) l):Nat):Int)>0->l≠[]:=fun {α} _ {l} h e=>by
   subst e;simp at h
  have hb : ∀ {x y:Int} {P Q:Prop},(x≠y->P)->(x=y->Q)->if (x != y)=true then P else Q:=fun {x y P Q} h1 h2=>by
   by_cases hxy:x=y
   ·rw[if_neg (by simpa using hxy)];exact h2 hxy
   ·rw[if_pos (by simpa using hxy)];exact h1 hxy
  cases hu:r.u with
  | true=>
   rw[hu]at hn hy
   refine Yv rfl (YA (by simp) (hb (fun h1=>e0 (hn fun x=>h1 x.1)) fun h1=>hb (fun h2=>e0 (hn fun x=>h2 ?_)) fun h2=>Yg (fun h3=>e0 (hn fun x=>hz' h3 x.2.2.1)) fun h3=>hb (fun h4=>e0 (hn fun x=>h4 x.2.2.2.1)) fun h4=>Yg (fun h5=>e0 (hn fun x=>hz' h5 x.2.2.2.2)) fun h5=> ?_))
   ·rw[List.length_map,x.2.1];rfl
   ·exact Zo (x:=((⟨r.s⟩,1):Str×Int)) (hy ⟨h1,by rw[List.length_map]at h2;show _=1;omega,hz h3,h4,hz h5⟩).symm
  | false=>
   rw[hu]at hn hy
   refine YA (by simp) (YA (by simp) (hb (fun h1=>e0 (hn fun x=>h1 x.1)) fun h1=>hb (fun h2=>e0 (hn fun x=>h2 ?_)) fun h2=>Yg (fun h3=>e0 (hn fun x=>hz' h3 x.2.2.1)) fun h3=>hb (fun h4=>e0 (hn fun x=>h4 x.2.2.2.1)) fun h4=>Yg (fun h5=>e0 (hn fun x=>hz' h5 x.2.2.2.2)) fun h5=> ?_))
   ·rw[List.length_map,x.2.1];rfl
   ·exact Zo (x:=((⟨r.s⟩,2):Str×Int)) (hy ⟨h1,by rw[List.length_map]at h2;show _=2;omega,hz h3,h4,hz h5⟩).symm
theorem d4r: ∀ r∈XL,(YJ ⟨r.s⟩ r.u).b=r.l:=by decide
theorem LW{n:Nd}{k:Nat}{r:OpR}(h:Jh n k=some r):r∈XL∧k=(if r.u then 1 else 2):=by
 unfold Jh at h
 cases hq:GA n.name.s with
 | none=>simp[hq]at h
 | some q=>
  simp[hq]at h
  rw[<- h.2]
  exact⟨List.mem_of_find?_eq_some hq,h.1.2.1⟩
theorem c0d: ∀ x:Tm×Unit,tW x.1=true->Ze NA 0 (Za Aa (Zi (YV x.1))) LZ [] (Z0 d0v (encL x)):=by
 rintro⟨⟨n,ks⟩,⟨⟩⟩ h
 rw[<- YN]
 show Ze NA 0 (Za Aa (Zi (BP n ks.length))) _ _ _
 refine d5f n ks ⟨Zf (.mk n ks,()) (YN n ks) h,Zd (.mk n ks,()) (YN n ks) (ZL (fun h1=>QM ?_) fun h1=> ?_)⟩
 ·unfold BP;rw[if_pos h1]
 ·have eo:Q7 (.mk n ks)=MM n ks.length:=rfl
  rw[show Q7 ((.mk n ks:Tm),()).1=MM n ks.length from rfl]
  unfold BP
  rw[if_neg h1]
  cases ho:Jh n ks.length with
  | some r=>
   have e:MM n ks.length=((⟨r.s⟩,if r.u then 1 else 2):Str×Int):=by unfold MM;rw[ho]
   rw[e]
   have hb:((if r.u then 1 else 2:Int)==1)=r.u:=by cases r.u <;> rfl
   refine Yg (fun _=>Zd ((⟨r.s⟩:Str),((if r.u then 1 else 2:Int)==1),()) rfl (QM ?_)) fun hn=>absurd (show(if r.u then 1 else 2:Int)>0 by split <;> omega) hn
   show(YJ ⟨r.s⟩ ((if r.u then 1 else 2:Int)==1)).b=r.l
   rw[hb]
   exact d4r r (LW ho).1
  | none=>
   have e:MM n ks.length=((⟨[]⟩,0):Str×Int):=by unfold MM;rw[ho]
   rw[e]
   refine Yg (fun hn=>absurd hn (by show ¬ (0:Int)>0;omega)) fun _=>ZL (fun h2=>ZL (fun h3=>Yg (fun h4=>QM ?_) fun h4=>QM ?_) fun h3=>QM ?_) fun h2=>QM ?_
   ·have h3:n.name.s=Wo:=h3
    rw[if_pos ⟨h2,h3,h4⟩]
   ·rw[if_neg fun x=>h4 x.2.2]
   ·have h3 : ¬ n.name.s=Wo:=h3
    rw[if_neg fun x=>h3 x.2.1]
   ·rw[if_neg fun x=>h2 x.1]
theorem b0f: ∀ x:List Str×Unit,XQ x.1=true->Ze M4 0 (Za TM (Zi (Yh x.1))) TQ [] (Z0 b9g (encL x)):=by
 rintro⟨l,⟨⟩⟩ h
 exact c5n l ⟨Zf (l,(⟨[44,32]⟩:Str),()) rfl (by show(XQ l&&decide _)=true;rw[h,decide_eq_true rfl];rfl),Zd (l,(⟨[44,32]⟩:Str),()) rfl (Zo rfl)⟩
def Bn(m:List Str)(i:Nat):List Str:=m.take i++List.replicate (m.length - i) ⟨[]⟩
theorem LC(m:List Str)(i:Nat)(h:i<=m.length):(Bn m i).length=m.length:=by unfold Bn;rw[List.length_append,List.length_take,List.length_replicate];omega
theorem Sn(m:List Str):Bn m 0=List.replicate m.length ⟨[]⟩:=rfl
theorem NF(m:List Str):Bn m m.length=m:=by unfold Bn;rw[List.take_length,Nat.sub_self];simp
theorem Ff{m:List Str}{i:Nat}(h:i<m.length):(Bn m i).set i m[i]=Bn m (i+1):=by
 unfold Bn
 rw[List.set_append,if_neg (by rw[List.length_take];omega),show m.length - i=(m.length - (i+1))+1 by omega,List.replicate_succ,show i - (m.take i).length=0 by rw[List.length_take];omega,List.set_cons_zero,show m.take (i+1)=m.take i++[m[i]] by rw[List.take_add_one];simp[h],List.append_assoc]
 rfl
theorem a2g{o:List Str}{i:Nat}(h:i<o.length)(y:Str):List.set (List.map (enc:Str->PV) o) (0+Int.toNat (i:Int)) (PV.withCells (List.getD (List.map (enc:Str->PV) o) (0+Int.toNat (i:Int)) default) (splice (PV.cells (List.getD (List.map (enc:Str->PV) o) (0+Int.toNat (i:Int)) default)) 0 (PV.cells (enc y))))=(o.set i y).map enc:=by
 have e:List.getD (List.map (enc:Str->PV) o) i default=enc o[i]:=by simp[List.getD,h]
 rw[Nat.zero_add,Int.toNat_natCast,e,List.map_set]
 rfl
theorem a4n{n i:Nat}{o:List Str}(h:i<n)(ho:o.length=n):(decide (0<=(i:Int))&&decide (0+Int.toNat (i:Int)<n)&&List.length (List.map (enc:Str->PV) o)==n)=true:=by simp[ho];omega
theorem a3n{n i:Nat}{o:List Str}{y:Str}(h:i<n)(ho:o.length=n):(List.length (List.map (enc:Str->PV) o)==n&&decide (0+Int.toNat (i:Int)<List.length (List.map (enc:Str->PV) o))&&List.length (PV.cells (enc y))==1&&decide (0+1<=List.length (PV.cells (List.getD (List.map (enc:Str->PV) o) (0+Int.toNat (i:Int)) default)))&&PV.cellsOk (enc y))=true:=by
 have e:List.getD (List.map (enc:Str->PV) o) i default=enc o[i]:=by simp[List.getD,ho,h]
 subst ho
 rw[Nat.zero_add,Int.toNat_natCast,e,List.length_map,beq_self_eq_true,decide_eq_true h]
 rfl
theorem a1t{m:List Str}:List.drop 0 (List.take m.length (List.map (enc:Str->PV) m))=m.map enc:=by rw[List.drop_zero,List.take_of_length_le (by simp)]
theorem b4o(n:Nat)(h:n<=1048576):(decide (0<=(n:Int))&&(n:Int)==(n:Int)&&decide ((n:Int)*((16:Nat):Int)<=1099511627776)&&decide ((n:Int)<=1099511627776))=true:=by simp;omega
theorem Pt{l:List (List UInt8)}{c:Nat}(hc:c<=1048574)(hl:l.length<=1048576)(h : ∀ s∈l,s.length<=c):(Ya l).length<=1099511627776:=by
 have h1:=Xc l
 have h2:=Gj (f:=fun s:List UInt8=>s.length+2) (c:=1048576) (l:=l) fun s hs=>by have:=h s hs;show s.length+2<=_;omega
 have h3:1048576*l.length<=1048576*1048576:=Nat.mul_le_mul_left _ hl
 omega
theorem JA{l:Lin}(h:Zp l=true):Ws l=true:=by
 have h1:=Jy h
 unfold Ws X3
 rw[decide_eq_true (by omega),Bool.true_and,List.all_eq_true]
 exact fun c hc=>decide_eq_true (by
  have:=Jo (Ue h hc).1
  omega)
theorem a9w(l:List Lin)(hl:l.length<=1048576)(hp : ∀ x∈l,Zp x=true)(hj:XQ (l.map Yz)=true): ∀ (d i:Nat),d+i=l.length ->
  At Gb 0 (Za KA (Zi (Yh (l.map Yz)))) KU 0 27 [(1,.pv (.fn 29)),(5,.row 0 l.length 0 l.length),(11,.pv (enc l)),(12,.pv (.int .i64 l.length)),(13,.pv (.int .i64 i))] [.obj (.row false 9 1 ((Bn (l.map Yz) i).map enc))]:=by
 intro d
 induction d with
 | zero=>
  intro i hi
  have hil:i=l.length:=by omega
  subst hil
  have e:Bn (l.map Yz) l.length=l.map Yz:=by have:=NF (l.map Yz);rw[List.length_map]at this;exact this
  rw[e]
  have e2:=a1t (m:=l.map Yz)
  rw[List.length_map]at e2
  refine a6v l _ _ (YA (YR (by omega)) ⟨by simp,?_⟩)
  rw[e2]
  exact⟨Zf (l.map Yz,()) rfl hj,Zd (l.map Yz,()) rfl (Zo rfl)⟩
 | succ d ih=>
  intro i hi
  have hlt:i<l.length:=by omega
  have ho:(Bn (l.map Yz) i).length=l.length:=by rw[LC _ _ (by rw[List.length_map];omega),List.length_map]
  refine a6v l _ _ (Yv (YO hlt) ⟨ZT hlt rfl,Yk hlt ⟨Zf (l[i],()) rfl (JA (hp _ (List.getElem_mem hlt))),Zd (l[i],()) rfl ⟨a4n hlt ho,a3n hlt ho,?_⟩⟩⟩)
  have e:(Bn (l.map Yz) i).set i (Yz l[i])=Bn (l.map Yz) (i+1):=by
   have:=Ff (m:=l.map Yz) (i:=i) (by rw[List.length_map];exact hlt)
   rw[List.getElem_map]at this
   exact this
  have e2:=a2g (o:=Bn (l.map Yz) i) (i:=i) (by omega) (Yz l[i])
  rw[e]at e2
  rw[next (by omega)]
  have h:=ih (i+1) (by omega)
  rw[<- e2]at h
  exact h
theorem b7d: ∀ x:List Lin×FnV 29×Unit,(decide (x.1.length<=1048576)&&x.1.all Zp)=true->Ze Gb 0 (Za KA (Zi (Yh (x.1.map Yz)))) KU [] (Z0 c5t (encL x)):=by
 rintro⟨l,g,⟨⟩⟩ h
 simp only[Bool.and_eq_true,decide_eq_true_eq,List.all_eq_true]at h
 have hj:XQ (l.map Yz)=true:=by
  unfold XQ
  rw[decide_eq_true (by rw[List.length_map];exact h.1),Bool.true_and]
  refine decide_eq_true (Pt (c:=1000) (by omega) (by simp;exact h.1) fun s hs=> ?_)
  simp only[List.mem_map]at hs
  obtain⟨x,⟨y,_,rfl⟩,rfl⟩:=hs
  exact Vr y
 refine d5s l ⟨by rw[List.length_map];exact b4o _ h.1,?_⟩
 have:=a9w l h.1 h.2 hj l.length 0 (by omega)
 rw[Sn,List.map_replicate,List.length_map]at this
 rw[List.length_map,Int.toNat_natCast]
 exact this
theorem a9t(l:List Int)(hl:l.length<=1048576)(hp : ∀ x∈l,0<=x∧x<=6)(hj:XQ (l.map Zn)=true): ∀ (d i:Nat),d+i=l.length ->
  At Ha 0 (Za Q6 (Zi (Yh (l.map Zn)))) KT 0 27 [(1,.pv (.fn 51)),(5,.row 0 l.length 0 l.length),(11,.pv (enc l)),(12,.pv (.int .i64 l.length)),(13,.pv (.int .i64 i))] [.obj (.row false 9 1 ((Bn (l.map Zn) i).map enc))]:=by
 intro d
 induction d with
 | zero=>
  intro i hi
  have hil:i=l.length:=by omega
  subst hil
  have e:Bn (l.map Zn) l.length=l.map Zn:=by have:=NF (l.map Zn);rw[List.length_map]at this;exact this
  rw[e]
  have e2:=a1t (m:=l.map Zn)
  rw[List.length_map]at e2
  refine a6l l _ _ (YA (YR (by omega)) ⟨by simp,?_⟩)
  rw[e2]
  exact⟨Zf (l.map Zn,()) rfl hj,Zd (l.map Zn,()) rfl (Zo rfl)⟩
 | succ d ih=>
  intro i hi
  have hlt:i<l.length:=by omega
  have ho:(Bn (l.map Zn) i).length=l.length:=by rw[LC _ _ (by rw[List.length_map];omega),List.length_map]
  refine a6l l _ _ (Yv (YO hlt) ⟨ZT hlt rfl,Yk hlt ⟨Zf (l[i],()) rfl (by have:=hp _ (List.getElem_mem hlt);show(decide _&&decide _)=true;rw[decide_eq_true (by omega),decide_eq_true (by omega)];rfl),Zd (l[i],()) rfl ⟨a4n hlt ho,a3n hlt ho,?_⟩⟩⟩)
  have e:(Bn (l.map Zn) i).set i (Zn l[i])=Bn (l.map Zn) (i+1):=by
   have:=Ff (m:=l.map Zn) (i:=i) (by rw[List.length_map];exact hlt)
   rw[List.getElem_map]at this
   exact this
  have e2:=a2g (o:=Bn (l.map Zn) i) (i:=i) (by omega) (Zn l[i])
  rw[e]at e2
  rw[next (by omega)]
  have h:=ih (i+1) (by omega)
  rw[<- e2]at h
  exact h
theorem c3v: ∀ x:List Int×FnV 51×Unit,(decide (x.1.length<=1048576)&&Xw x.1)=true->Ze Ha 0 (Za Q6 (Zi (Yh (x.1.map Zn)))) KT [] (Z0 c6u (encL x)):=by
 rintro⟨l,g,⟨⟩⟩ h
 unfold Xw at h
 simp only[Bool.and_eq_true,decide_eq_true_eq,List.all_eq_true]at h
 have hj:XQ (l.map Zn)=true:=by
  unfold XQ
  rw[decide_eq_true (by rw[List.length_map];exact h.1),Bool.true_and]
  refine decide_eq_true (Pt (c:=1000) (by omega) (by simp;exact h.1) fun s hs=> ?_)
  simp only[List.mem_map]at hs
  obtain⟨x,⟨y,hy,rfl⟩,rfl⟩:=hs
  have:=Qh (n:=y) (by have:=h.2 y hy;omega)
  unfold Qw at this
  omega
 refine d5n l ⟨by rw[List.length_map];exact b4o _ h.1,?_⟩
 have:=a9t l h.1 h.2 hj l.length 0 (by omega)
 rw[Sn,List.map_replicate,List.length_map]at this
 rw[List.length_map,Int.toNat_natCast]
 exact this
theorem c4e: ∀ x:Tm×Unit,Uv x.1.nd=true->Ze L6 0 (Za AO (Zi (Ea x.1.nd))) NC [] (Z0 c9u (encL x)):=by
 rintro⟨⟨n,ks⟩,⟨⟩⟩ h
 rw[<- YN]
 show Ze L6 0 (Za AO (Zi (Ea n))) _ _ _
 have h:Uv n=true:=h
 refine d5j n ks (ZL (fun h1=>⟨Zf (n.num,()) rfl ?_,Zd (n.num,()) rfl (Zo ?_)⟩) fun h1=>Zd ((n.num==1),()) rfl (Zo ?_))
 ·have h1:n.name.s=Wo:=h1
  unfold Uv at h
  rw[if_neg (by rw[h1];decide)]at h
  simp only[Bool.and_eq_true,decide_eq_true_eq]at h
  show(decide _&&decide _)=true
  rw[decide_eq_true (by omega),decide_eq_true (by omega)];rfl
 ·have h1:n.name.s=Wo:=h1
  unfold Ea Cz
  rw[if_pos h1];rfl
 ·have h1 : ¬ n.name.s=Wo:=h1
  unfold Ea Cz d1a
  rw[if_neg h1]
  by_cases h2:n.num=1
  ·rw[h2];rfl
  ·rw[if_neg h2,show(n.num==1)=false by simpa using h2];rfl
theorem a9m: ∀ x:Tm×Unit,tW x.1=true->Ze AB 0 (Za Dt (Zi (Wt x.1))) Sy [] (Z0 b5f (encL x)):=by
 rintro⟨⟨n,ks⟩,⟨⟩⟩ h
 rw[<- YN]
 show Ze AB 0 (Za Dt (Zi (Wt (.mk n ks)))) _ _ _
 refine d1k n ks ⟨Zf (.mk n ks,()) (YN n ks) h,Zd (.mk n ks,()) (YN n ks) (VY (fun h1=> ?_) fun h1=> ?_)⟩
 ·have h1:Y3 (.mk n ks)=false:=h1
  exact Zo (x:=((⟨[]⟩,1):Str×Int)) (by unfold Wt;rw[h1];rfl)
 ·have h1:Y3 (.mk n ks)=true:=h1
  have hv:ZU (.mk n ks)=true:=Sd (by unfold Y3 at h1;rw[Bool.and_eq_true]at h1;exact h1.1)
  have h:tW (.mk n ks)=true:=h
  refine⟨Zf (.mk n ks,()) (YN n ks) (by show(tW (.mk n ks)&&ZU (.mk n ks))=true;rw[h,hv];rfl),Zd (.mk n ks,()) (YN n ks) (Zd (Zq (.mk n ks),()) rfl (Zo (x:=Tk (Zq (.mk n ks))) ?_))⟩
  unfold Wt;rw[h1];rfl
theorem Vi(a b:List UInt8):Zh (a++b)=Zh a++Zh b:=by unfold Zh;rw[List.map_append]
theorem d8v{t n:Nat}{xs:List PV}(pre ds:List UInt8):((AV.row 0 (n+(Zh pre).length+ds.length) 0 (n+(Zh pre).length+ds.length),[AObj.row false t 1 (xs++Zh pre++Zh ds)],[]):AV×List AObj×List AObj)=(OW n (pre++ds),[.row false t 1 (xs++Zh (pre++ds))],[]):=by
 unfold OW
 rw[Vi,UB,List.length_append,List.append_assoc,Nat.add_assoc]
theorem LD{n m:Nat}{xs:List PV}(h:xs.length=n)(hn:n+m<=1099511627776):(List.length xs==n&&n==n&&decide ((n+m)*1<=1099511627776)&&decide (n+m<=1099511627776))=true:=by
 rw[h,Nat.mul_one,decide_eq_true hn];simp
theorem PT{n:Nat}{u:Int}{xs:List PV}(h:xs.length=n)(h0:0<=u)(h1:u<18446744073709551616)(hn:n<=1099511620000):H6 5 [.row 0 n 0 n,.pv (.int .u64 u),.pv (.int .i64 10)] [.row false 5 1 xs]=true:=by
 show(5==5&&n==n&&xs.length==n&&decide (0<=u)&&decide (u<18446744073709551616)&&(10:Int)==10&&decide (n<=1099511620000))=true
 rw[h,decide_eq_true h0,decide_eq_true h1,decide_eq_true hn];simp
theorem Pm{n:Nat}{i:Int}{xs:List PV}(h:xs.length=n)(h0 : -9223372036854775808<=i)(h1:i<=9223372036854775807)(hn:n<=1099511610000):UC 5 [.row 0 n 0 n,.pv (.int .i64 i),.pv (.int .i64 10)] [.row false 5 1 xs]=true:=by
 show(5==5&&n==n&&xs.length==n&&decide (-9223372036854775808<=i)&&decide (i<=9223372036854775807)&&(10:Int)==10&&decide (n<=1099511610000))=true
 rw[h,decide_eq_true h0,decide_eq_true h1,decide_eq_true hn];simp
theorem c9k{i:Int}(h:i<0)(h0 : -9223372036854775808<=i):IntKind.wrap .u64 (-IntKind.wrap .u64 i)=(i.natAbs:Int):=by
 simp[IntKind.wrap,IntKind.bits,IntKind.signed]
 omega
theorem c7p{i:Int}(h : ¬ i<0)(h0:i<=9223372036854775807):IntKind.wrap .u64 i=(i.natAbs:Int):=by
 simp[IntKind.wrap,IntKind.bits,IntKind.signed]
 omega
theorem c6m: ∀ args os,UC 5 args os=true->Ze b6z os.length (Xt os.length a4l fun r=>r=Cq args os) a3m [] (Uz d5e args os):=by
 intro args os h
 unfold UC at h
 split at h
 ·rename_i n n' i b ty xs
  simp only[Bool.and_eq_true,beq_iff_eq,decide_eq_true_eq]at h
  obtain⟨⟨⟨⟨⟨⟨rfl,rfl⟩,hxl⟩,h0⟩,h1⟩,rfl⟩,hn⟩:=h
  refine d9z n' i xs (Yg (fun hi=> ?_) fun hi=> ?_)
  ·have e:Lib.itoa i=[45]++Lib.decDigits i.natAbs:=WR hi
   rw[c9k hi h0,Int.toNat_natCast]
   refine⟨LD hxl (by show n'+1<=_;omega),PT (by rw[List.length_append,hxl]) (by omega) (by omega) (by show n'+1<=_;omega),?_⟩
   show _=((OW n' (Lib.itoa i),[.row false 5 1 (xs++Zh (Lib.itoa i))],[]):AV×List AObj×List AObj)
   rw[e]
   exact d8v [45] _
  ·have e:Lib.itoa i=Lib.decDigits i.natAbs:=YH hi
   rw[c7p hi h1,Int.toNat_natCast]
   refine⟨PT hxl (by omega) (by omega) (by omega),?_⟩
   show _=((OW n' (Lib.itoa i),[.row false 5 1 (xs++Zh (Lib.itoa i))],[]):AV×List AObj×List AObj)
   rw[e]
   rfl
 ·cases h
theorem c5i: ∀ args os,UC 5 args os=true->Ze c1b os.length (Xt os.length a3b fun r=>r=Cq args os) ER [] (Uz d3f args os):=by
 intro args os h
 have h2:=h
 unfold UC at h
 split at h
 ·rename_i n n' i b ty xs
  simp only[Bool.and_eq_true,beq_iff_eq,decide_eq_true_eq]at h
  obtain⟨⟨⟨⟨⟨⟨rfl,rfl⟩,hxl⟩,h0⟩,h1⟩,rfl⟩,hn⟩:=h
  exact e0l n' i xs ⟨h2,rfl⟩
 ·cases h
theorem c7i: ∀ args os,KX 5 args os=true->Ze b8h os.length (Xt os.length EZ fun r=>r=Fg args os) a0b [] (Uz d5y args os):=by
 intro args os h
 unfold KX at h
 split at h
 ·rename_i i s n n' ty xs
  simp only[Bool.and_eq_true,beq_iff_eq,decide_eq_true_eq]at h
  obtain⟨⟨⟨⟨⟨rfl,rfl⟩,hxl⟩,h0⟩,h1⟩,hn⟩:=h
  refine d8u n' i s xs (XR (fun hs=> ?_) fun hs=> ?_)
  ·subst hs
   refine⟨LD hxl (by show n'+1<=_;omega),Pm (by rw[List.length_append,hxl]) h0 h1 (by show n'+1<=_;omega),?_⟩
   show(AV.tup [],[AObj.box [.row 1 (n'+1+(Lib.itoa i).length) 0 (n'+1+(Lib.itoa i).length)],.row false 5 1 (xs++Zh [32]++Zh (Lib.itoa i))],[])=((AV.tup [],[AObj.box [.row 1 (n'+(Uc true i).length) 0 (n'+(Uc true i).length)],.row false 5 1 (xs++Zh (Uc true i))],[]):AV×List AObj×List AObj)
   have e:Uc true i=[32]++Lib.itoa i:=rfl
   rw[e,Vi,List.length_append,List.append_assoc,Nat.add_assoc]
   rfl
  ·subst hs
   exact⟨Pm hxl h0 h1 (by omega),rfl⟩
 ·cases h
def apH(a:Arr)(o:List UInt8):ZI:=[.obj (.box [.pv (enc a.e),.pv (enc a.d),.pv (enc a.x)]),.obj (.box [.row 2 o.length 0 o.length]),.obj (.row false 5 1 (Zh o))]
theorem Si{i:Int}{s:Bool}{o:List UInt8}(h0 : -9223372036854775808<=i)(h1:i<=9223372036854775807)(hn:o.length<=1099511600000):KX 5 [.pv (.int .i64 i),.pv (.bool s),.ptr 0 0] [.box [.row 1 o.length 0 o.length],.row false 5 1 (Zh o)]=true:=by
 show(5==5&&o.length==o.length&&(Zh o).length==o.length&&decide (-9223372036854775808<=i)&&decide (i<=9223372036854775807)&&decide (o.length<=1099511600000))=true
 rw[UB,decide_eq_true h0,decide_eq_true h1,decide_eq_true hn];simp
theorem AR(s:Bool){i:Int}(h:i.natAbs<18446744073709551616):(Uc s i).length<=22:=by
 have h:=Qh h
 have h:(Lib.itoa i).length<=21:=h
 unfold Uc
 rw[List.length_append]
 cases s
 ·show 0+_<=_;omega
 ·show 1+_<=_;omega
def Yw(o:List UInt8):Bool->List Int->List UInt8
 | _,[]=>o
 | s,n::l=>Yw (o++Uc s n) true l
theorem d6i(o:List UInt8):(Zh o).all Gx=true:=by
 unfold Zh
 rw[List.all_eq_true]
 intro x hx
 obtain⟨b,_,rfl⟩:=List.mem_map.1 hx
 have:b.toNat<256:=b.toNat_lt
 simp[Gx]
 omega
theorem b8z(o:List UInt8):YX (Zh o)=o:=by
 unfold YX Zh
 rw[List.map_map]
 conv=>rhs;rw[<- List.map_id o]
 refine List.map_congr_left fun b _=> ?_
 show UInt8.ofNat ((b.toNat:Int).toNat)=b
 rw[Int.toNat_natCast,UInt8.ofNat_toNat]
theorem a8y(a:Arr)(G:PV->Prop)(hx : ∀ n∈a.x,n.natAbs<9223372036854775808)(hl:a.x.length<=2000000): ∀ (d i:Nat) (o:List UInt8),d+i=a.x.length->o.length<=100000000+22*i ->
  G (.tup [.str (Yw o true (a.x.drop i)++[93]),.int .i64 0]) ->
  At XU 0 (Za Xh G) Xd 1 56 [(1,.ptr 0 0),(4,.ptr 1 0),(5,.fn 60 [] [.ptr 1 0]),(40,.pv (.int .i64 a.x.length)),(41,.pv (.int .i64 i))] (apH a o):=by
 intro d
 induction d with
 | zero=>
  intro i o hi ho h
  rw[List.drop_eq_nil_of_le (by omega)]at h
  have el:(Zh o).length=o.length:=UB o
  refine PZ a o.length i (Zh o) (YA (YR (by omega)) ⟨LD el (by show o.length+1<=_;omega),?_,?_⟩)
  ·show((Zh o++Zh [93]).length==o.length+1&&(Zh o++Zh [93]).all Gx&&1==1)=true
   rw[<- Vi,UB,d6i,List.length_append];simp
  ·show G (.tup [.str (YX (List.drop 0 (List.take (o.length+1) (Zh o++Zh [93])))),.int .i64 0])
   rw[<- Vi,List.drop_zero,List.take_of_length_le (by rw[UB,List.length_append];exact Nat.le_refl _),b8z]
   exact h
 | succ d ih=>
  intro i o hi ho h
  have hlt:i<a.x.length:=by omega
  have hn:=hx _ (List.getElem_mem hlt)
  have hnl:=AR true (i:=a.x[i]) (by omega)
  rw[List.drop_eq_getElem_cons hlt]at h
  have k:=ih (i+1) (o++Uc true a.x[i]) (by omega) (by rw[List.length_append];omega) h
  refine PZ a o.length i (Zh o) (Yv (YO hlt) ⟨ZT hlt rfl,Yk hlt ⟨Si (by show _<=a.x[i];omega) (by show a.x[i]<=_;omega) (by omega),?_⟩⟩)
  rw[next (by omega)]
  unfold apH at k
  rw[Vi,List.length_append]at k
  exact k
theorem b0a(a:Arr)(G:PV->Prop)(hd : ∀ n∈a.d,n.natAbs<9223372036854775808)(hl:a.d.length<=2000000)
  (next1 : ∀ o:List UInt8,o.length<=44000010->G (.tup [.str (Yw (o++[58]) true a.x++[93]),.int .i64 0])->At XU 0 (Za Xh G) Xd 1 56 [(1,.ptr 0 0),(4,.ptr 1 0),(5,.fn 60 [] [.ptr 1 0]),(40,.pv (.int .i64 a.x.length)),(41,.pv (.int .i64 (0:Nat)))] (apH a (o++[58]))) : ∀ (d i:Nat) (o:List UInt8),d+i=a.d.length->o.length<=10+22*i ->
  G (.tup [.str (Yw (Yw o (decide (0<i)) (a.d.drop i)++[58]) true a.x++[93]),.int .i64 0]) ->
  At XU 0 (Za Xh G) Xd 0 56 [(1,.ptr 0 0),(4,.ptr 1 0),(5,.fn 60 [] [.ptr 1 0]),(21,.pv (.int .i64 a.d.length)),(22,.pv (.int .i64 i))] (apH a o):=by
 intro d
 induction d with
 | zero=>
  intro i o hi ho h
  rw[List.drop_eq_nil_of_le (by omega)]at h
  have el:(Zh o).length=o.length:=UB o
  have k:=next1 o (by omega) h
  unfold apH at k
  rw[Vi,List.length_append]at k
  refine Ph a o.length i (Zh o) (YA (YR (by omega)) ⟨LD el (by show o.length+1<=_;omega),?_⟩)
  rw[List.length_map]
  exact k
 | succ d ih=>
  intro i o hi ho h
  have hlt:i<a.d.length:=by omega
  have hn:=hd _ (List.getElem_mem hlt)
  have hnl:=AR (decide (0<i)) (i:=a.d[i]) (by omega)
  rw[List.drop_eq_getElem_cons hlt]at h
  have k:=ih (i+1) (o++Uc (decide (0<i)) a.d[i]) (by omega) (by rw[List.length_append];omega) (by rw[decide_eq_true (show 0<i+1 by omega)];exact h)
  refine Ph a o.length i (Zh o) (Yv (YO hlt) ⟨ZT hlt rfl,Yk hlt ⟨Si (by show _<=a.d[i];omega) (by show a.d[i]<=_;omega) (by omega),?_⟩⟩)
  rw[next (by omega)]
  have eg:decide ((i:Int)>0)=decide (0<i):=decide_eq_decide.2 (by omega)
  rw[eg]
  unfold apH at k
  rw[Vi,List.length_append]at k
  exact k
theorem Sa: ∀ (l:List Int) (o:List UInt8),Yw o true l=o++l.flatMap fun n=>[32]++Qw n
 | [],o=>by simp[Yw]
 | n::l,o=>by
  rw[Yw,Sa l,List.flatMap_cons,List.append_assoc]
  rfl
theorem C9: ∀ (l:List Int) (o:List UInt8),Yw o false l=o++Vh l
 | [],o=>by simp[Yw,Vh]
 | [n],o=>by simp only[Yw,Vh];rfl
 | n::m::r,o=>by
  rw[Yw,Vh]
  ·have h:=C9 (m::r) (o++Uc false n++[32])
   rw[Yw]at h ⊢
   have e:o++Uc false n++Uc true m=o++Uc false n++[32]++Uc false m:=by
    show o++Uc false n++([32]++Lib.itoa m)=_
    simp[Uc]
   rw[e,h]
   show o++([]++Lib.itoa n)++[32]++_=_
   simp[Qw,Zn]
  ·simp
theorem a0d: ∀ x:Arr×Unit,(WQ x.1&&X8 x.1)=true->Ze XU 0 (Za Xh (Zi (Q9 x.1))) Xd [] (Z0 b0y (encL x)):=by
 rintro⟨a,⟨⟩⟩ h
 rw[Bool.and_eq_true]at h
 have hs:WQ a=true:=h.1
 have hv:X8 a=true:=h.2
 have hsm:=hs
 unfold WQ at hsm
 simp only[Bool.and_eq_true,decide_eq_true_eq]at hsm
 obtain⟨hd,hx⟩:=Nv hv
 have fin : ∀ o:List UInt8,(o=if a.e.s=XJ then [35,98,91]else [35,91])->Zi (Q9 a) (.tup [.str (Yw (Yw o (decide (0<0)) (a.d.drop 0)++[58]) true a.x++[93]),.int .i64 0]):=fun o ho=>by
  have e:Yw (Yw o (decide (0<0)) (a.d.drop 0)++[58]) true a.x++[93]=CG a:=by
   rw[List.drop_zero,show decide (0<0)=false from rfl,C9,Sa,ho]
   rfl
  rw[e]
  exact Zo (x:=((⟨CG a⟩,0):Str×Int)) rfl
 have key : ∀ o:List UInt8,o.length<=10->Zi (Q9 a) (.tup [.str (Yw (Yw o (decide (0<0)) (a.d.drop 0)++[58]) true a.x++[93]),.int .i64 0])->_:=fun o ho k=>
  b0a a (Zi (Q9 a)) hd hsm.1 (fun o ho k=>a8y a (Zi (Q9 a)) hx hsm.2 a.x.length 0 (o++[58]) (by omega) (by rw[List.length_append];show _+1<=_;omega) k) a.d.length 0 o (by omega) (by omega) k
 refine b3u a ⟨Zf (a,()) rfl hs,Zd (a,()) rfl (VY (fun hn=> ?_) fun hn=>ZL (fun hb=> ?_) fun hb=> ?_)⟩
 ·have hn:X8 a=false:=hn
  rw[hv]at hn;cases hn
 ·rw[List.length_map]
  exact key [35,98,91] (by decide) (fin _ (by rw[if_pos (show a.e.s=XJ from hb)]))
 ·rw[List.length_map]
  exact key [35,91] (by decide) (fin _ (by rw[if_neg (show ¬ a.e.s=XJ from hb)]))
end Go.Pl
namespace Go.Pl
open Go.RowKit
open Enc (enc dec is)
open EncL (encL decL isL)
set_option maxRecDepth 100000
noncomputable def Ky:IC:=Xu Proofs.Tryz.f11
def KO:List IRes:=[(.tmp 2)]
abbrev d0u:Nat:=22
def H9(N:Nat):ZO:=YQ [(11,.pure (preT (fun x:Tm×Unit=>tW x.1&&decide (ZM x.1<N))) (Zb (fun x:Tm×Unit=>(ZM x.1:Int))))]
theorem d4b{G:PV->Prop}(N:Nat)(n:Nd)(ks:List Tm)(h:At (H9 N) 0 (Za KO G) Ky 0 22 [(1,(.ptr 0 0)),(3,(.pv (.int .i64 0))),(4,(.pv (.int .i64 0)))] [(.obj (.box (Z7 n ks)))]):Ze (H9 N) 0 (Za KO G) Ky [] (Z0 22 [.agg [enc n.kind,enc n.line,enc n.name,enc n.num,enc n.elem,enc n.dims,enc n.data,enc n.sizes,enc n.ranks,enc ks]]):=Ze.tp (.nil) h (by kernel_rfl)
theorem a5w{G:PV->Prop}(N:Nat)(n:Nd)(ks:List Tm)(m i:Int)(h:if (decide (i<(↑(List.length (List.map enc ks)):Int)))=true then(decide (0<=i)&&decide (Int.toNat i<List.length (List.map enc ks))&&Enc.sz Tm==10)=true∧(∃ y0:Tm,AV.pv (PV.rptr (PV.cells (List.getD (List.map enc ks) (Int.toNat i) default)))=AV.pv (PV.rptr (PV.cells ((enc) y0)))∧(Cb y0=true∧((Go.Pl.preT (fun(x:Tm×Unit)=>tW x.1&&decide (ZM x.1<N)) (Wd y0))=true∧(∃ y1:Int,AV.pv (Zb (fun(x:Tm×Unit)=>(↑(ZM x.1):Int)) (Wd y0))=AV.pv (enc y1)∧(At (H9 N) 0 (Za KO G) Ky 0 22 [(1,(.ptr 0 0)),(3,(.pv (.int .i64 (if true=true then if y1>m then y1 else m else if y1<m then y1 else m)))),(4,(.pv (.int .i64 (IntKind.wrap IntKind.i64 (i+1)))))] [(.obj (.box (Z7 n ks)))])))))else(G ((.int .i64 (IntKind.wrap IntKind.i64 (m+1)))))):At (H9 N) 0 (Za KO G) Ky 0 22 [(1,.ptr 0 0),(3,.pv (.int .i64 m)),(4,.pv (.int .i64 i))] [.obj (.box [.pv (enc n.kind),.pv (enc n.line),.pv (enc n.name),.pv (enc n.num),.pv (enc n.elem),.pv (enc n.dims),.pv (enc n.data),.pv (enc n.sizes),.pv (enc n.ranks),.pv (enc ks)])]:=At.tp (.lit (.ask (.req (.abs (Tm) (fun YY=>AV.pv (PV.rptr (PV.cells ((enc) YY)))) (.req (.req (.abs (Int) (fun YY=>AV.pv (enc YY)) (.lit (.nil))))))) (.lit (.nil)))) h (by kernel_rfl)
noncomputable def Qi:IC:=Xu Proofs.Tryz.f12
def Qe:List IRes:=[(.tmp 2)]
abbrev b6v:Nat:=21
def KN(N:Nat):ZO:=YQ [(12,.pure (preT (fun x:Tm×Unit=>tW x.1&&decide (ZM x.1<N))) (Zb (fun x:Tm×Unit=>(Yl x.1:Int))))]
theorem d1n{G:PV->Prop}(N:Nat)(n:Nd)(ks:List Tm)(h:At (KN N) 0 (Za Qe G) Qi 0 21 [(1,(.ptr 0 0)),(3,(.pv (.int .i64 1))),(4,(.pv (.int .i64 0)))] [(.obj (.box (Z7 n ks)))]):Ze (KN N) 0 (Za Qe G) Qi [] (Z0 21 [.agg [enc n.kind,enc n.line,enc n.name,enc n.num,enc n.elem,enc n.dims,enc n.data,enc n.sizes,enc n.ranks,enc ks]]):=Ze.tp (.nil) h (by kernel_rfl)
theorem EG{G:PV->Prop}(N:Nat)(n:Nd)(ks:List Tm)(m i:Int)(h:if (decide (i<(↑(List.length (List.map enc ks)):Int)))=true then(decide (0<=i)&&decide (Int.toNat i<List.length (List.map enc ks))&&Enc.sz Tm==10)=true∧(∃ y0:Tm,AV.pv (PV.rptr (PV.cells (List.getD (List.map enc ks) (Int.toNat i) default)))=AV.pv (PV.rptr (PV.cells ((enc) y0)))∧(Cb y0=true∧((Go.Pl.preT (fun(x:Tm×Unit)=>tW x.1&&decide (ZM x.1<N)) (Wd y0))=true∧(∃ y1:Int,AV.pv (Zb (fun(x:Tm×Unit)=>(↑(Yl x.1):Int)) (Wd y0))=AV.pv (enc y1)∧(At (KN N) 0 (Za Qe G) Qi 0 21 [(1,(.ptr 0 0)),(3,(.pv (.int .i64 (IntKind.wrap IntKind.i64 (m+y1))))),(4,(.pv (.int .i64 (IntKind.wrap IntKind.i64 (i+1)))))] [(.obj (.box (Z7 n ks)))])))))else(G ((.int .i64 m)))):At (KN N) 0 (Za Qe G) Qi 0 21 [(1,.ptr 0 0),(3,.pv (.int .i64 m)),(4,.pv (.int .i64 i))] [.obj (.box [.pv (enc n.kind),.pv (enc n.line),.pv (enc n.name),.pv (enc n.num),.pv (enc n.elem),.pv (enc n.dims),.pv (enc n.data),.pv (enc n.sizes),.pv (enc n.ranks),.pv (enc ks)])]:=At.tp (.lit (.ask (.req (.abs (Tm) (fun YY=>AV.pv (PV.rptr (PV.cells ((enc) YY)))) (.req (.req (.abs (Int) (fun YY=>AV.pv (enc YY)) (Zu 2)))))) (.nil))) h (by kernel_rfl)
noncomputable def Q4:IC:=Xu Proofs.Tryz.f13
def Ke:List IRes:=[(.tmp 2)]
abbrev c8q:Nat:=23
def Hf(N:Nat):ZO:=YQ [(13,.pure (preT (fun x:Tm×Unit=>tW x.1&&decide (ZM x.1<N))) (Zb (fun x:Tm×Unit=>Y6 x.1)))]
theorem d3e{G:PV->Prop}(N:Nat)(n:Nd)(ks:List Tm)(h:At (Hf N) 0 (Za Ke G) Q4 0 23 [(1,(.ptr 0 0)),(3,(.row 1 1 0 1)),(4,(.pv (.int .i64 0)))] [(.obj (.box (Z7 n ks))),(.obj (.row false 28 10 (V4 n ks)))]):Ze (Hf N) 0 (Za Ke G) Q4 [] (Z0 23 [.agg [enc n.kind,enc n.line,enc n.name,enc n.num,enc n.elem,enc n.dims,enc n.data,enc n.sizes,enc n.ranks,enc ks]]):=Ze.tp (.lit (.nil)) h (by kernel_rfl)
theorem a6p{G:PV->Prop}(N:Nat)(n:Nd)(ks:List Tm)(k:Nat)(i:Int)(o:List Tm)(h:if (decide (i<(↑(List.length (List.map enc ks)):Int)))=true then(decide (0<=i)&&decide (Int.toNat i<List.length (List.map enc ks))&&Enc.sz Tm==10)=true∧(∃ y0:Tm,AV.pv (PV.rptr (PV.cells (List.getD (List.map enc ks) (Int.toNat i) default)))=AV.pv (PV.rptr (PV.cells ((enc) y0)))∧(Cb y0=true∧((Go.Pl.preT (fun(x:Tm×Unit)=>tW x.1&&decide (ZM x.1<N)) (Wd y0))=true∧(∃ y1:List Tm,AV.pv (Zb (fun(x:Tm×Unit)=>Y6 x.1) (Wd y0))=AV.pv (enc y1)∧((List.isEmpty (List.map enc y1)||Enc.sz Tm==10)=true∧((List.length (List.map enc o)==k&&k==k&&decide ((k+List.length (List.map enc y1))*176<=1099511627776)&&decide (k+List.length (List.map enc y1)<=1099511627776))=true∧(At (Hf N) 0 (Za Ke G) Q4 0 23 [(1,(.ptr 0 0)),(3,(.row 1 (k+List.length (List.map enc y1)) 0 (k+List.length (List.map enc y1)))),(4,(.pv (.int .i64 (IntKind.wrap IntKind.i64 (i+1)))))] [(.obj (.box (Z7 n ks))),(.obj (.row false 28 10 (List.map enc o++List.map enc y1)))])))))))else((List.length (List.map enc o)==k)=true∧(G ((.sl 10 false (List.drop 0 (List.take k (List.map enc o)))))))):At (Hf N) 0 (Za Ke G) Q4 0 23 [(1,.ptr 0 0),(3,.row 1 k 0 k),(4,.pv (.int .i64 i))] [.obj (.box [.pv (enc n.kind),.pv (enc n.line),.pv (enc n.name),.pv (enc n.num),.pv (enc n.elem),.pv (enc n.dims),.pv (enc n.data),.pv (enc n.sizes),.pv (enc n.ranks),.pv (enc ks)]),.obj (.row false 28 10 (o.map enc))]:=At.tp (.lit (.ask (.req (.abs (Tm) (fun YY=>AV.pv (PV.rptr (PV.cells ((enc) YY)))) (.req (.req (.abs (List Tm) (fun YY=>AV.pv (enc YY)) (.req (.req (.lit (.nil))))))))) (.req (.nil)))) h (by kernel_rfl)
noncomputable def Vg:IC:=Xu Proofs.Tryz.f6
def WL:List IRes:=[(.tmp 4)]
abbrev c6g:Nat:=91
def V9:ZO:=YQ [(11,.pure (preT (fun x:Tm×Unit=>tW x.1)) (Zb (fun x:Tm×Unit=>(ZM x.1:Int)))),(12,.pure (preT (fun x:Tm×Unit=>tW x.1)) (Zb (fun x:Tm×Unit=>(Yl x.1:Int)))),(13,.pure (preT (fun x:Tm×Unit=>tW x.1)) (Zb (fun x:Tm×Unit=>Y6 x.1)))]
theorem d8f{G:PV->Prop}(n:Nd)(ks:List Tm)(m:Int)(h:(Go.Pl.preT (fun(x:Tm×Unit)=>tW x.1) (V4 n ks))=true∧(∃ y0:Int,AV.pv (Zb (fun(x:Tm×Unit)=>(↑(ZM x.1):Int)) (V4 n ks))=AV.pv (enc y0)∧(if (decide (y0>12))=true then G ((.bool false))else((Go.Pl.preT (fun(x:Tm×Unit)=>tW x.1) (V4 n ks))=true∧(∃ y1:Int,AV.pv (Zb (fun(x:Tm×Unit)=>(↑(Yl x.1):Int)) (V4 n ks))=AV.pv (enc y1)∧(if (decide (y1>m))=true then G ((.bool false))else((Go.Pl.preT (fun(x:Tm×Unit)=>tW x.1) (V4 n ks))=true∧(∃ y2:List Tm,AV.pv (Zb (fun(x:Tm×Unit)=>Y6 x.1) (V4 n ks))=AV.pv (enc y2)∧(At V9 0 (Za WL G) Vg 0 91 [(5,(.pv (.sl 10 false (List.map enc y2)))),(6,(.pv (.int .i64 0)))] []))))))))):Ze V9 0 (Za WL G) Vg [] (Z0 91 [.agg [enc n.kind,enc n.line,enc n.name,enc n.num,enc n.elem,enc n.dims,enc n.data,enc n.sizes,enc n.ranks,enc ks],.int .i64 m]):=Ze.tp (.req (.abs (Int) (fun YY=>AV.pv (enc YY)) (.lit (.ask (Zu 5) (.lit (.req (.abs (Int) (fun YY=>AV.pv (enc YY)) (Zl 4 (.ask (.nil) (.req (.abs (List Tm) (fun YY=>AV.pv (enc YY)) (.nil)))))))))))) h (by kernel_rfl)
theorem a8f{G:PV->Prop}(n:Nd)(ks:List Tm)(m:Int)(i:Int)(o:List Tm)(h:if (decide (i<(↑(List.length (List.map enc o)):Int)))=true then(decide (0<=i)&&decide (Int.toNat i<List.length (List.map enc o))&&Enc.sz Tm==10)=true∧(∃ y0:Tm,AV.pv (PV.rptr (PV.cells (List.getD (List.map enc o) (Int.toNat i) default)))=AV.pv (PV.rptr (PV.cells ((enc) y0)))∧((decide (0+List.length [Sh.str]<=List.length (List.drop 2 (PV.cells (enc y0))))&&Yx (List.drop 2 (PV.cells (enc y0))) 0 [Sh.str])=true∧(if (decide ((↑(List.length (PV.asStr (List.getD (List.drop 2 (PV.cells (enc y0))) 0 default))):Int)>40))=true then G ((.bool false))else((decide (0<=i)&&decide (Int.toNat i<List.length (List.map enc o))&&Enc.sz Tm==10)=true∧(∃ y1:Tm,AV.pv (PV.rptr (PV.cells (List.getD (List.map enc o) (Int.toNat i) default)))=AV.pv (PV.rptr (PV.cells ((enc) y1)))∧((decide (0+List.length [Sh.sl 1]<=List.length (List.drop 2 (List.drop 4 (PV.cells (enc y1)))))&&Yx (List.drop 2 (List.drop 4 (PV.cells (enc y1)))) 0 [Sh.sl 1])=true∧(if (decide ((↑(List.length (PV.asXs (List.getD (List.drop 2 (List.drop 4 (PV.cells (enc y1)))) 0 default))):Int)>30))=true then G ((.bool false))else((decide (0<=i)&&decide (Int.toNat i<List.length (List.map enc o))&&Enc.sz Tm==10)=true∧(∃ y2:Tm,AV.pv (PV.rptr (PV.cells (List.getD (List.map enc o) (Int.toNat i) default)))=AV.pv (PV.rptr (PV.cells ((enc) y2)))∧((decide (0+List.length [Sh.sl 1]<=List.length (List.drop 1 (List.drop 4 (PV.cells (enc y2)))))&&Yx (List.drop 1 (List.drop 4 (PV.cells (enc y2)))) 0 [Sh.sl 1])=true∧(if (decide ((↑(List.length (PV.asXs (List.getD (List.drop 1 (List.drop 4 (PV.cells (enc y2)))) 0 default))):Int)>8))=true then G ((.bool false))else((decide (0<=i)&&decide (Int.toNat i<List.length (List.map enc o))&&Enc.sz Tm==10)=true∧(∃ y3:Tm,AV.pv (PV.rptr (PV.cells (List.getD (List.map enc o) (Int.toNat i) default)))=AV.pv (PV.rptr (PV.cells ((enc) y3)))∧((decide (0+List.length [Sh.sl 2]<=List.length (List.drop 7 (PV.cells (enc y3))))&&Yx (List.drop 7 (PV.cells (enc y3))) 0 [Sh.sl 2])=true∧(if (decide ((↑(List.length (PV.asXs (List.getD (List.drop 7 (PV.cells (enc y3))) 0 default))):Int)>6))=true then G ((.bool false))else((decide (0<=i)&&decide (Int.toNat i<List.length (List.map enc o))&&Enc.sz Tm==10)=true∧(∃ y4:Tm,AV.pv (PV.rptr (PV.cells (List.getD (List.map enc o) (Int.toNat i) default)))=AV.pv (PV.rptr (PV.cells ((enc) y4)))∧((decide (0+List.length [Sh.sl 1]<=List.length (List.drop 8 (PV.cells (enc y4))))&&Yx (List.drop 8 (PV.cells (enc y4))) 0 [Sh.sl 1])=true∧(if (decide ((↑(List.length (PV.asXs (List.getD (List.drop 8 (PV.cells (enc y4))) 0 default))):Int)>10))=true then G ((.bool false))else(At V9 0 (Za WL G) Vg 1 91 [(5,(.pv (.sl 10 false (List.map enc o)))),(6,(.pv (.int .i64 i))),(7,(.pv (.int .i64 0)))] []))))))))))))))))))))else(G ((.bool true)))):At V9 0 (Za WL G) Vg 0 91 [(5,.pv (enc o)),(6,.pv (.int .i64 i))] []:=At.tp (.lit (.ask (.req (.abs (Tm) (fun YY=>AV.pv (PV.rptr (PV.cells ((enc) YY)))) (.req (.lit (.ask (Zu 34) (Zl 2 (.req (.abs (Tm) (fun YY=>AV.pv (PV.rptr (PV.cells ((enc) YY)))) (Zl 3 (.req (Zl 4 (.ask (Zu 25) (Zl 2 (.req (.abs (Tm) (fun YY=>AV.pv (PV.rptr (PV.cells ((enc) YY)))) (Zl 3 (.req (Zl 4 (.ask (Zu 16) (Zl 2 (.req (.abs (Tm) (fun YY=>AV.pv (PV.rptr (PV.cells ((enc) YY)))) (Zl 2 (.req (Zl 4 (.ask (Zu 8) (Zl 2 (.req (.abs (Tm) (fun YY=>AV.pv (PV.rptr (PV.cells ((enc) YY)))) (Zl 2 (.req (Zl 4 (.ask (.nil) (.nil)))))))))))))))))))))))))))))))))) (.nil))) h (by kernel_rfl)
theorem a6w{G:PV->Prop}(n:Nd)(ks:List Tm)(m:Int)(i j:Int)(o:List Tm)(h:(decide (0<=i)&&decide (Int.toNat i<List.length (List.map enc o))&&Enc.sz Tm==10)=true∧(∃ y0:Tm,AV.pv (PV.rptr (PV.cells (List.getD (List.map enc o) (Int.toNat i) default)))=AV.pv (PV.rptr (PV.cells ((enc) y0)))∧((decide (0+List.length [Sh.sl 2]<=List.length (List.drop 7 (PV.cells (enc y0))))&&Yx (List.drop 7 (PV.cells (enc y0))) 0 [Sh.sl 2])=true∧(if (decide (j<(↑(List.length (PV.asXs (List.getD (List.drop 7 (PV.cells (enc y0))) 0 default))):Int)))=true then(decide (0<=i)&&decide (Int.toNat i<List.length (List.map enc o))&&Enc.sz Tm==10)=true∧(∃ y1:Tm,AV.pv (PV.rptr (PV.cells (List.getD (List.map enc o) (Int.toNat i) default)))=AV.pv (PV.rptr (PV.cells ((enc) y1)))∧((decide (0+List.length [Sh.sl 2]<=List.length (List.drop 7 (PV.cells (enc y1))))&&Yx (List.drop 7 (PV.cells (enc y1))) 0 [Sh.sl 2])=true∧((decide (0<=j)&&decide (Int.toNat j<List.length (PV.asXs (List.getD (List.drop 7 (PV.cells (enc y1))) 0 default)))&&2==2)=true∧((decide (0+List.length [Sh.sl 2]<=List.length (List.drop 1 (PV.cells (List.getD (PV.asXs (List.getD (List.drop 7 (PV.cells (enc y1))) 0 default)) (Int.toNat j) default))))&&Yx (List.drop 1 (PV.cells (List.getD (PV.asXs (List.getD (List.drop 7 (PV.cells (enc y1))) 0 default)) (Int.toNat j) default))) 0 [Sh.sl 2])=true∧(if (decide ((↑(List.length (PV.asXs (List.getD (List.drop 1 (PV.cells (List.getD (PV.asXs (List.getD (List.drop 7 (PV.cells (enc y1))) 0 default)) (Int.toNat j) default))) 0 default))):Int)>6))=true then G ((.bool false))else(At V9 0 (Za WL G) Vg 1 91 [(5,(.pv (.sl 10 false (List.map enc o)))),(6,(.pv (.int .i64 i))),(7,(.pv (.int .i64 (IntKind.wrap IntKind.i64 (j+1)))))] []))))))else(At V9 0 (Za WL G) Vg 0 91 [(5,(.pv (.sl 10 false (List.map enc o)))),(6,(.pv (.int .i64 (IntKind.wrap IntKind.i64 (i+1)))))] []))))):At V9 0 (Za WL G) Vg 1 91 [(5,.pv (enc o)),(6,.pv (.int .i64 i)),(7,.pv (.int .i64 j))] []:=At.tp (.req (.abs (Tm) (fun YY=>AV.pv (PV.rptr (PV.cells ((enc) YY)))) (.req (.lit (.ask (.req (.abs (Tm) (fun YY=>AV.pv (PV.rptr (PV.cells ((enc) YY)))) (.req (.req (.keep (.req (.lit (.ask (.nil) (.lit (.nil)))))))))) (.lit (.nil))))))) h (by kernel_rfl)
noncomputable def b7s:IC:=Xu Proofs.Tryz.f10
def b8w:List IRes:=[(.cell true 10 2)]
abbrev e0c:Nat:=5
def d5d:ZO:=YQ []
theorem e1q{G:PV->Prop}(s:List UInt8)(h:G ((.agg [(.int .i64 1),(.int .i64 0),(.str s),(.int .i64 0),(.str []),(.sl 0 true []),(.sl 0 true []),(.sl 0 true []),(.sl 0 true []),(.sl 0 true [])]))):Ze d5d 0 (Za b8w G) b7s [] (Z0 5 [.str s]):=Ze.tp (.nil) h (by kernel_rfl)
noncomputable def SY:IC:=Xu Proofs.Tryz.f9
def Rt:List IRes:=[(.cell true 10 4)]
abbrev b6d:Nat:=8
def Mi:ZO:=YQ []
theorem c9n{G:PV->Prop}(s:List UInt8)(l:List Tm)(h:G ((.agg [(.int .i64 6),(.int .i64 0),(.str s),(.int .i64 0),(.str []),(.sl 0 true []),(.sl 0 true []),(.sl 0 true []),(.sl 0 true []),(.sl 10 false (List.map enc l))]))):Ze Mi 0 (Za Rt G) SY [] (Z0 8 [.str s,enc l]):=Ze.tp (.nil) h (by kernel_rfl)
noncomputable def Cw:IC:=Xu Proofs.Tryz.f5
def Be:List IRes:=[(.tmp 0)]
abbrev b1c:Nat:=47
def SH:ZO:=YQ [(10,.pure (preT (fun _:Str×Unit=>true)) (Zb (fun x:Str×Unit=>vT x.1))),(9,.pure (preT (fun _:Str×List Tm×Unit=>true)) (Zb (fun x:Str×List Tm×Unit=>cT x.1 x.2.1))),(7,.pure (preT (fun x:Tm×Unit=>tW x.1)) (Zb (fun x:Tm×Unit=>Wt x.1)))]
theorem b8s{G:PV->Prop}(h : ∃ y0:Tm,AV.pv (Zb (fun(x:Str×Unit)=>vT x.1) [(.str [(97:UInt8)])])=AV.pv (enc y0)∧(∃ y1:Tm,AV.pv (Zb (fun(x:Str×Unit)=>vT x.1) [(.str [(98:UInt8)])])=AV.pv (enc y1)∧(∃ y2:Tm,AV.pv (Zb (fun(x:Str×List Tm×Unit)=>cT x.1 x.2.1) [(.str [(110:UInt8),(101:UInt8),(103:UInt8)]),(.sl 10 false [(.agg [(.int .i64 2),(.int .i64 0),(.str [(105:UInt8),(110:UInt8),(116:UInt8)]),(.int .i64 5),(.str []),(.sl 0 true []),(.sl 0 true []),(.sl 0 true []),(.sl 0 true []),(.sl 0 true [])])])])=AV.pv (enc y2)∧((List.all [enc y1,enc y2] fun(x:PV)=>List.length (PV.cells x)==10&&PV.cellsOk x)=true∧((Go.Pl.preT (fun(x:Str×List Tm×Unit)=>true) [(.str [(115:UInt8),(117:UInt8),(98:UInt8)]),(.sl 10 false [enc y1,enc y2])])=true∧(∃ y3:Tm,AV.pv (Zb (fun(x:Str×List Tm×Unit)=>cT x.1 x.2.1) [(.str [(115:UInt8),(117:UInt8),(98:UInt8)]),(.sl 10 false [enc y1,enc y2])])=AV.pv (enc y3)∧((List.all [enc y0,enc y3] fun(x:PV)=>List.length (PV.cells x)==10&&PV.cellsOk x)=true∧((Go.Pl.preT (fun(x:Str×List Tm×Unit)=>true) [(.str [(115:UInt8),(117:UInt8),(98:UInt8)]),(.sl 10 false [enc y0,enc y3])])=true∧(∃ y4:Tm,AV.pv (Zb (fun(x:Str×List Tm×Unit)=>cT x.1 x.2.1) [(.str [(115:UInt8),(117:UInt8),(98:UInt8)]),(.sl 10 false [enc y0,enc y3])])=AV.pv (enc y4)∧((Go.Pl.preT (fun(x:Tm×Unit)=>tW x.1) [enc y4])=true∧(∃ y5:Str×Int,AV.pv (Zb (fun(x:Tm×Unit)=>Wt x.1) [enc y4])=AV.pv (enc y5)∧(∃ y6:Tm,AV.pv (Zb (fun(x:Str×Unit)=>vT x.1) [(.str [(97:UInt8)])])=AV.pv (enc y6)∧(∃ y7:Tm,AV.pv (Zb (fun(x:Str×Unit)=>vT x.1) [(.str [(98:UInt8)])])=AV.pv (enc y7)∧((List.all [enc y6,enc y7] fun(x:PV)=>List.length (PV.cells x)==10&&PV.cellsOk x)=true∧((Go.Pl.preT (fun(x:Str×List Tm×Unit)=>true) [(.str [(97:UInt8),(100:UInt8),(100:UInt8)]),(.sl 10 false [enc y6,enc y7])])=true∧(∃ y8:Tm,AV.pv (Zb (fun(x:Str×List Tm×Unit)=>cT x.1 x.2.1) [(.str [(97:UInt8),(100:UInt8),(100:UInt8)]),(.sl 10 false [enc y6,enc y7])])=AV.pv (enc y8)∧((List.all [enc y8,PV.agg [PV.int .i64 2,PV.int .i64 0,PV.str [(105:UInt8),(110:UInt8),(116:UInt8)],PV.int .i64 (-2:Int),PV.str [],PV.sl 0 true [],PV.sl 0 true [],PV.sl 0 true [],PV.sl 0 true [],PV.sl 0 true []]] fun(x:PV)=>List.length (PV.cells x)==10&&PV.cellsOk x)=true∧((Go.Pl.preT (fun(x:Str×List Tm×Unit)=>true) [(.str [(109:UInt8),(117:UInt8),(108:UInt8)]),(.sl 10 false [enc y8,(.agg [(.int .i64 2),(.int .i64 0),(.str [(105:UInt8),(110:UInt8),(116:UInt8)]),(.int .i64 (-2)),(.str []),(.sl 0 true []),(.sl 0 true []),(.sl 0 true []),(.sl 0 true []),(.sl 0 true [])])])])=true∧(∃ y9:Tm,AV.pv (Zb (fun(x:Str×List Tm×Unit)=>cT x.1 x.2.1) [(.str [(109:UInt8),(117:UInt8),(108:UInt8)]),(.sl 10 false [enc y8,(.agg [(.int .i64 2),(.int .i64 0),(.str [(105:UInt8),(110:UInt8),(116:UInt8)]),(.int .i64 (-2)),(.str []),(.sl 0 true []),(.sl 0 true []),(.sl 0 true []),(.sl 0 true []),(.sl 0 true [])])])])=AV.pv (enc y9)∧((Go.Pl.preT (fun(x:Tm×Unit)=>tW x.1) [enc y9])=true∧(∃ y10:Str×Int,AV.pv (Zb (fun(x:Tm×Unit)=>Wt x.1) [enc y9])=AV.pv (enc y10)∧(if (y5.2==0)=true then if (y10.2==0)=true then if (Str.s y5.1==[(97:UInt8),(32:UInt8),(45:UInt8),(32:UInt8),(40:UInt8),(98:UInt8),(32:UInt8),(45:UInt8),(32:UInt8),(45:UInt8),(40:UInt8),(53:UInt8),(41:UInt8),(41:UInt8)])=true then G ((.bool (Str.s y10.1==[(40:UInt8),(97:UInt8),(32:UInt8),(43:UInt8),(32:UInt8),(98:UInt8),(41:UInt8),(32:UInt8),(42:UInt8),(32:UInt8),(45:UInt8),(50:UInt8)])))else(G ((.bool false)))else(G ((.bool false)))else(G ((.bool false))))))))))))))))))))))))):Ze SH 0 (Za Be G) Cw [] (Z0 47 []):=Ze.tp (.lit (.abs (Tm) (fun YY=>AV.pv (enc YY)) (.lit (.abs (Tm) (fun YY=>AV.pv (enc YY)) (Zl 3 (.abs (Tm) (fun YY=>AV.pv (enc YY)) (.req (.lit (.req (.abs (Tm) (fun YY=>AV.pv (enc YY)) (.req (.lit (.req (.abs (Tm) (fun YY=>AV.pv (enc YY)) (.req (.abs (Str×Int) (fun YY=>AV.pv (enc YY)) (.lit (.abs (Tm) (fun YY=>AV.pv (enc YY)) (.lit (.abs (Tm) (fun YY=>AV.pv (enc YY)) (.req (.lit (.req (.abs (Tm) (fun YY=>AV.pv (enc YY)) (.req (.lit (.req (.abs (Tm) (fun YY=>AV.pv (enc YY)) (.req (.abs (Str×Int) (fun YY=>AV.pv (enc YY)) (.lit (.ask (Zl 3 (.ask (Zl 3 (.ask (Zu 3) (Zu 2))) (Zu 5))) (Zu 8))))))))))))))))))))))))))))))))) h (by kernel_rfl)
end Go.Pl
namespace Go.Pl
open Go.RowKit
open Enc (enc dec is)
open EncL (encL decL isL)
set_option maxRecDepth 100000
noncomputable def Q5:IC:=Xu Proofs.Tryz.f27
def Kk:List IRes:=[(.tmp 4)]
abbrev d1h:Nat:=27
def Ga(N:Nat):ZO:=YQ [(16,.pure (preT (fun x:Tm×Unit=>(tW x.1&&ZU x.1)&&decide (ZM x.1<N))) (Zb (fun x:Tm×Unit=>Zq x.1))),(28,.pure (preT (fun x:List Str×Unit=>XQ x.1)) (Zb (fun x:List Str×Unit=>Yh x.1)))]
theorem d5u{G:PV->Prop}(N:Nat)(l:List Tm)(h:(decide (0<=(↑(List.length (List.map enc l)):Int))&&(↑(List.length (List.map enc l)):Int)==(↑(List.length (List.map enc l)):Int)&&decide ((↑(List.length (List.map enc l)):Int)*(↑16:Int)<=1099511627776)&&decide ((↑(List.length (List.map enc l)):Int)<=1099511627776))=true∧(At (Ga N) 0 (Za Kk G) Q5 0 27 [(1,(.pv (.fn 16))),(5,(.row 0 (Int.toNat (↑(List.length (List.map enc l)):Int)) 0 (Int.toNat (↑(List.length (List.map enc l)):Int)))),(11,(.pv (.sl 10 false (List.map enc l)))),(12,(.pv (.int .i64 (↑(List.length (List.map enc l)):Int)))),(13,(.pv (.int .i64 0)))] [(.obj (.row false 9 1 (List.replicate (Int.toNat (↑(List.length (List.map enc l)):Int)) (PV.str []))))])):Ze (Ga N) 0 (Za Kk G) Q5 [] (Z0 27 [enc l,.fn 16]):=Ze.tp (.req (.nil)) h (by kernel_rfl)
theorem a8e{G:PV->Prop}(N:Nat)(l:List Tm)(i:Int)(o:List Str)(h:if (decide (i<(↑(List.length l):Int)))=true then(decide (0<=i)&&decide (Int.toNat i<List.length (List.map enc l))&&Enc.sz Tm==10)=true∧(∃ y0:Tm,AV.pv (PV.rptr (PV.cells (List.getD (List.map enc l) (Int.toNat i) default)))=AV.pv (PV.rptr (PV.cells ((enc) y0)))∧(Cb y0=true∧((Go.Pl.preT (fun(x:Tm×Unit)=>tW x.1&&ZU x.1&&decide (ZM x.1<N)) (Wd y0))=true∧(∃ y1:Str,AV.pv (Zb (fun(x:Tm×Unit)=>Zq x.1) (Wd y0))=AV.pv (enc y1)∧((decide (0<=i)&&decide (0+Int.toNat i<List.length l)&&List.length (List.map enc o)==List.length l)=true∧((List.length (List.map enc o)==List.length l&&decide (0+Int.toNat i<List.length (List.map enc o))&&List.length (PV.cells (enc y1))==1&&decide (0+1<=List.length (PV.cells (List.getD (List.map enc o) (0+Int.toNat i) default)))&&PV.cellsOk (enc y1))=true∧(At (Ga N) 0 (Za Kk G) Q5 0 27 [(1,(.pv (.fn 16))),(5,(.row 0 (List.length l) 0 (List.length l))),(11,(.pv (.sl 10 false (List.map enc l)))),(12,(.pv (.int .i64 (↑(List.length l):Int)))),(13,(.pv (.int .i64 (IntKind.wrap IntKind.i64 (i+1)))))] [(.obj (.row false 9 1 (List.set (List.map enc o) (0+Int.toNat i) (PV.withCells (List.getD (List.map enc o) (0+Int.toNat i) default) (splice (PV.cells (List.getD (List.map enc o) (0+Int.toNat i) default)) 0 (PV.cells (enc y1)))))))])))))))else((List.length (List.map enc o)==List.length l)=true∧((Go.Pl.preT (fun(x:List Str×Unit)=>XQ x.1) [(.sl 1 false (List.drop 0 (List.take (List.length l) (List.map enc o))))])=true∧(∃ y2:Str,AV.pv (Zb (fun(x:List Str×Unit)=>Yh x.1) [(.sl 1 false (List.drop 0 (List.take (List.length l) (List.map enc o))))])=AV.pv (enc y2)∧(G ((.str (Str.s y2)))))))):At (Ga N) 0 (Za Kk G) Q5 0 27 [(1,.pv (.fn 16)),(5,.row 0 l.length 0 l.length),(11,.pv (enc l)),(12,.pv (.int .i64 l.length)),(13,.pv (.int .i64 i))] [.obj (.row false 9 1 (o.map enc))]:=At.tp (.lit (.ask (.req (.abs (Tm) (fun YY=>AV.pv (PV.rptr (PV.cells ((enc) YY)))) (.req (.req (.abs (Str) (fun YY=>AV.pv (enc YY)) (.req (.keep (.req (.lit (.nil)))))))))) (.req (.req (.abs (Str) (fun YY=>AV.pv (enc YY)) (.nil)))))) h (by kernel_rfl)
noncomputable def SB:IC:=Xu Proofs.Tryz.f26
def GN:List IRes:=[(.tmp 2)]
abbrev c2n:Nat:=45
def Ay(N:Nat):ZO:=YQ [(53,.pure (preT (fun x:List Lin×FnV 29×Unit=>decide (x.1.length<=1048576)&&x.1.all Zp)) (Zb (fun x:List Lin×FnV 29×Unit=>Yh (x.1.map Yz)))),(51,.pure (preT (fun x:Int×Unit=>decide (-9223372036854775808<=x.1)&&decide (x.1<=9223372036854775807))) (Zb (fun x:Int×Unit=>Zn x.1))),(54,.pure (preT (fun x:List Int×FnV 51×Unit=>decide (x.1.length<=1048576)&&Xw x.1)) (Zb (fun x:List Int×FnV 51×Unit=>Yh (x.1.map Zn)))),(27,.pure (preT (fun x:List Tm×FnV 16×Unit=>(Ca x.1&&YP x.1)&&decide (ZW x.1<N))) (Zb (fun x:List Tm×FnV 16×Unit=>Yh (x.1.map Zq))))]
theorem c6o{G:PV->Prop}(N:Nat)(n:Nd)(ks:List Tm)(h:if (decide ((↑(List.length (List.map enc (Nd.sizes n))):Int)>0))=true then(Go.Pl.preT (fun(x:List Lin×FnV 29×Unit)=>decide (List.length x.1<=1048576)&&List.all x.1 Zp) [(.sl 2 false (List.map enc (Nd.sizes n))),(.fn 29)])=true∧(∃ y0:Str,AV.pv (Zb (fun(x:List Lin×FnV 29×Unit)=>Yh (List.map Yz x.1)) [(.sl 2 false (List.map enc (Nd.sizes n))),(.fn 29)])=AV.pv (enc y0)∧((decide (List.length [(91:UInt8)]+List.length (Str.s y0)<=1099511627776))=true∧((decide (List.length ([(91:UInt8)]++Str.s y0)+List.length [(93:UInt8)]<=1099511627776))=true∧((decide (List.length (Str.s (Nd.name n))+List.length ([(91:UInt8)]++Str.s y0++[(93:UInt8)])<=1099511627776))=true∧(if (Nd.num n != 0)=true then(Go.Pl.preT (fun(x:Int×Unit)=>decide ((-9223372036854775808:Int)<=x.1)&&decide (x.1<=9223372036854775807)) [(.int .i64 (Nd.num n))])=true∧(∃ y1:Str,AV.pv (Zb (fun(x:Int×Unit)=>Zn x.1) [(.int .i64 (Nd.num n))])=AV.pv (enc y1)∧((decide (List.length [(123:UInt8)]+List.length (Str.s y1)<=1099511627776))=true∧((decide (List.length ([(123:UInt8)]++Str.s y1)+List.length [(125:UInt8)]<=1099511627776))=true∧((decide (List.length (Str.s (Nd.name n)++([(91:UInt8)]++Str.s y0++[(93:UInt8)]))+List.length ([(123:UInt8)]++Str.s y1++[(125:UInt8)])<=1099511627776))=true∧(if (decide ((↑(List.length (List.map enc (Nd.ranks n))):Int)>0))=true then(Go.Pl.preT (fun(x:List Int×FnV 51×Unit)=>decide (List.length x.1<=1048576)&&Xw x.1) [(.sl 1 false (List.map enc (Nd.ranks n))),(.fn 51)])=true∧(∃ y2:Str,AV.pv (Zb (fun(x:List Int×FnV 51×Unit)=>Yh (List.map Zn x.1)) [(.sl 1 false (List.map enc (Nd.ranks n))),(.fn 51)])=AV.pv (enc y2)∧((decide (List.length [(64:UInt8),(40:UInt8)]+List.length (Str.s y2)<=1099511627776))=true∧((decide (List.length ([(64:UInt8),(40:UInt8)]++Str.s y2)+List.length [(41:UInt8)]<=1099511627776))=true∧((decide (List.length (Str.s (Nd.name n)++([(91:UInt8)]++Str.s y0++[(93:UInt8)])++([(123:UInt8)]++Str.s y1++[(125:UInt8)]))+List.length ([(64:UInt8),(40:UInt8)]++Str.s y2++[(41:UInt8)])<=1099511627776))=true∧((decide (List.length (Str.s (Nd.name n)++([(91:UInt8)]++Str.s y0++[(93:UInt8)])++([(123:UInt8)]++Str.s y1++[(125:UInt8)])++([(64:UInt8),(40:UInt8)]++Str.s y2++[(41:UInt8)]))+List.length [(40:UInt8)]<=1099511627776))=true∧((Go.Pl.preT (fun(x:List Tm×FnV 16×Unit)=>Ca x.1&&YP x.1&&decide (ZW x.1<N)) [(.sl 10 false (List.map enc ks)),(.fn 16)])=true∧(∃ y3:Str,AV.pv (Zb (fun(x:List Tm×FnV 16×Unit)=>Yh (List.map Zq x.1)) [(.sl 10 false (List.map enc ks)),(.fn 16)])=AV.pv (enc y3)∧((decide (List.length (Str.s (Nd.name n)++([(91:UInt8)]++Str.s y0++[(93:UInt8)])++([(123:UInt8)]++Str.s y1++[(125:UInt8)])++([(64:UInt8),(40:UInt8)]++Str.s y2++[(41:UInt8)])++[(40:UInt8)])+List.length (Str.s y3)<=1099511627776))=true∧((decide (List.length (Str.s (Nd.name n)++([(91:UInt8)]++Str.s y0++[(93:UInt8)])++([(123:UInt8)]++Str.s y1++[(125:UInt8)])++([(64:UInt8),(40:UInt8)]++Str.s y2++[(41:UInt8)])++[(40:UInt8)]++Str.s y3)+List.length [(41:UInt8)]<=1099511627776))=true∧(G ((.str (Str.s (Nd.name n)++([(91:UInt8)]++Str.s y0++[(93:UInt8)])++([(123:UInt8)]++Str.s y1++[(125:UInt8)])++([(64:UInt8),(40:UInt8)]++Str.s y2++[(41:UInt8)])++[(40:UInt8)]++Str.s y3++[(41:UInt8)])))))))))))))else((decide (List.length (Str.s (Nd.name n)++([(91:UInt8)]++Str.s y0++[(93:UInt8)])++([(123:UInt8)]++Str.s y1++[(125:UInt8)]))+List.length [(40:UInt8)]<=1099511627776))=true∧((Go.Pl.preT (fun(x:List Tm×FnV 16×Unit)=>Ca x.1&&YP x.1&&decide (ZW x.1<N)) [(.sl 10 false (List.map enc ks)),(.fn 16)])=true∧(∃ y4:Str,AV.pv (Zb (fun(x:List Tm×FnV 16×Unit)=>Yh (List.map Zq x.1)) [(.sl 10 false (List.map enc ks)),(.fn 16)])=AV.pv (enc y4)∧((decide (List.length (Str.s (Nd.name n)++([(91:UInt8)]++Str.s y0++[(93:UInt8)])++([(123:UInt8)]++Str.s y1++[(125:UInt8)])++[(40:UInt8)])+List.length (Str.s y4)<=1099511627776))=true∧((decide (List.length (Str.s (Nd.name n)++([(91:UInt8)]++Str.s y0++[(93:UInt8)])++([(123:UInt8)]++Str.s y1++[(125:UInt8)])++[(40:UInt8)]++Str.s y4)+List.length [(41:UInt8)]<=1099511627776))=true∧(G ((.str (Str.s (Nd.name n)++([(91:UInt8)]++Str.s y0++[(93:UInt8)])++([(123:UInt8)]++Str.s y1++[(125:UInt8)])++[(40:UInt8)]++Str.s y4++[(41:UInt8)]))))))))))))))else(if (decide ((↑(List.length (List.map enc (Nd.ranks n))):Int)>0))=true then(Go.Pl.preT (fun(x:List Int×FnV 51×Unit)=>decide (List.length x.1<=1048576)&&Xw x.1) [(.sl 1 false (List.map enc (Nd.ranks n))),(.fn 51)])=true∧(∃ y5:Str,AV.pv (Zb (fun(x:List Int×FnV 51×Unit)=>Yh (List.map Zn x.1)) [(.sl 1 false (List.map enc (Nd.ranks n))),(.fn 51)])=AV.pv (enc y5)∧((decide (List.length [(64:UInt8),(40:UInt8)]+List.length (Str.s y5)<=1099511627776))=true∧((decide (List.length ([(64:UInt8),(40:UInt8)]++Str.s y5)+List.length [(41:UInt8)]<=1099511627776))=true∧((decide (List.length (Str.s (Nd.name n)++([(91:UInt8)]++Str.s y0++[(93:UInt8)]))+List.length ([(64:UInt8),(40:UInt8)]++Str.s y5++[(41:UInt8)])<=1099511627776))=true∧((decide (List.length (Str.s (Nd.name n)++([(91:UInt8)]++Str.s y0++[(93:UInt8)])++([(64:UInt8),(40:UInt8)]++Str.s y5++[(41:UInt8)]))+List.length [(40:UInt8)]<=1099511627776))=true∧((Go.Pl.preT (fun(x:List Tm×FnV 16×Unit)=>Ca x.1&&YP x.1&&decide (ZW x.1<N)) [(.sl 10 false (List.map enc ks)),(.fn 16)])=true∧(∃ y6:Str,AV.pv (Zb (fun(x:List Tm×FnV 16×Unit)=>Yh (List.map Zq x.1)) [(.sl 10 false (List.map enc ks)),(.fn 16)])=AV.pv (enc y6)∧((decide (List.length (Str.s (Nd.name n)++([(91:UInt8)]++Str.s y0++[(93:UInt8)])++([(64:UInt8),(40:UInt8)]++Str.s y5++[(41:UInt8)])++[(40:UInt8)])+List.length (Str.s y6)<=1099511627776))=true∧((decide (List.length (Str.s (Nd.name n)++([(91:UInt8)]++Str.s y0++[(93:UInt8)])++([(64:UInt8),(40:UInt8)]++Str.s y5++[(41:UInt8)])++[(40:UInt8)]++Str.s y6)+List.length [(41:UInt8)]<=1099511627776))=true∧(G ((.str (Str.s (Nd.name n)++([(91:UInt8)]++Str.s y0++[(93:UInt8)])++([(64:UInt8),(40:UInt8)]++Str.s y5++[(41:UInt8)])++[(40:UInt8)]++Str.s y6++[(41:UInt8)])))))))))))))else((decide (List.length (Str.s (Nd.name n)++([(91:UInt8)]++Str.s y0++[(93:UInt8)]))+List.length [(40:UInt8)]<=1099511627776))=true∧((Go.Pl.preT (fun(x:List Tm×FnV 16×Unit)=>Ca x.1&&YP x.1&&decide (ZW x.1<N)) [(.sl 10 false (List.map enc ks)),(.fn 16)])=true∧(∃ y7:Str,AV.pv (Zb (fun(x:List Tm×FnV 16×Unit)=>Yh (List.map Zq x.1)) [(.sl 10 false (List.map enc ks)),(.fn 16)])=AV.pv (enc y7)∧((decide (List.length (Str.s (Nd.name n)++([(91:UInt8)]++Str.s y0++[(93:UInt8)])++[(40:UInt8)])+List.length (Str.s y7)<=1099511627776))=true∧((decide (List.length (Str.s (Nd.name n)++([(91:UInt8)]++Str.s y0++[(93:UInt8)])++[(40:UInt8)]++Str.s y7)+List.length [(41:UInt8)]<=1099511627776))=true∧(G ((.str (Str.s (Nd.name n)++([(91:UInt8)]++Str.s y0++[(93:UInt8)])++[(40:UInt8)]++Str.s y7++[(41:UInt8)])))))))))))))))else(if (Nd.num n != 0)=true then(Go.Pl.preT (fun(x:Int×Unit)=>decide ((-9223372036854775808:Int)<=x.1)&&decide (x.1<=9223372036854775807)) [(.int .i64 (Nd.num n))])=true∧(∃ y8:Str,AV.pv (Zb (fun(x:Int×Unit)=>Zn x.1) [(.int .i64 (Nd.num n))])=AV.pv (enc y8)∧((decide (List.length [(123:UInt8)]+List.length (Str.s y8)<=1099511627776))=true∧((decide (List.length ([(123:UInt8)]++Str.s y8)+List.length [(125:UInt8)]<=1099511627776))=true∧((decide (List.length (Str.s (Nd.name n))+List.length ([(123:UInt8)]++Str.s y8++[(125:UInt8)])<=1099511627776))=true∧(if (decide ((↑(List.length (List.map enc (Nd.ranks n))):Int)>0))=true then(Go.Pl.preT (fun(x:List Int×FnV 51×Unit)=>decide (List.length x.1<=1048576)&&Xw x.1) [(.sl 1 false (List.map enc (Nd.ranks n))),(.fn 51)])=true∧(∃ y9:Str,AV.pv (Zb (fun(x:List Int×FnV 51×Unit)=>Yh (List.map Zn x.1)) [(.sl 1 false (List.map enc (Nd.ranks n))),(.fn 51)])=AV.pv (enc y9)∧((decide (List.length [(64:UInt8),(40:UInt8)]+List.length (Str.s y9)<=1099511627776))=true∧((decide (List.length ([(64:UInt8),(40:UInt8)]++Str.s y9)+List.length [(41:UInt8)]<=1099511627776))=true∧((decide (List.length (Str.s (Nd.name n)++([(123:UInt8)]++Str.s y8++[(125:UInt8)]))+List.length ([(64:UInt8),(40:UInt8)]++Str.s y9++[(41:UInt8)])<=1099511627776))=true∧((decide (List.length (Str.s (Nd.name n)++([(123:UInt8)]++Str.s y8++[(125:UInt8)])++([(64:UInt8),(40:UInt8)]++Str.s y9++[(41:UInt8)]))+List.length [(40:UInt8)]<=1099511627776))=true∧((Go.Pl.preT (fun(x:List Tm×FnV 16×Unit)=>Ca x.1&&YP x.1&&decide (ZW x.1<N)) [(.sl 10 false (List.map enc ks)),(.fn 16)])=true∧(∃ y10:Str,AV.pv (Zb (fun(x:List Tm×FnV 16×Unit)=>Yh (List.map Zq x.1)) [(.sl 10 false (List.map enc ks)),(.fn 16)])=AV.pv (enc y10)∧((decide (List.length (Str.s (Nd.name n)++([(123:UInt8)]++Str.s y8++[(125:UInt8)])++([(64:UInt8),(40:UInt8)]++Str.s y9++[(41:UInt8)])++[(40:UInt8)])+List.length (Str.s y10)<=1099511627776))=true∧((decide (List.length (Str.s (Nd.name n)++([(123:UInt8)]++Str.s y8++[(125:UInt8)])++([(64:UInt8),(40:UInt8)]++Str.s y9++[(41:UInt8)])++[(40:UInt8)]++Str.s y10)+List.length [(41:UInt8)]<=1099511627776))=true∧(G ((.str (Str.s (Nd.name n)++([(123:UInt8)]++Str.s y8++[(125:UInt8)])++([(64:UInt8),(40:UInt8)]++Str.s y9++[(41:UInt8)])++[(40:UInt8)]++Str.s y10++[(41:UInt8)])))))))))))))else((decide (List.length (Str.s (Nd.name n)++([(123:UInt8)]++Str.s y8++[(125:UInt8)]))+List.length [(40:UInt8)]<=1099511627776))=true∧((Go.Pl.preT (fun(x:List Tm×FnV 16×Unit)=>Ca x.1&&YP x.1&&decide (ZW x.1<N)) [(.sl 10 false (List.map enc ks)),(.fn 16)])=true∧(∃ y11:Str,AV.pv (Zb (fun(x:List Tm×FnV 16×Unit)=>Yh (List.map Zq x.1)) [(.sl 10 false (List.map enc ks)),(.fn 16)])=AV.pv (enc y11)∧((decide (List.length (Str.s (Nd.name n)++([(123:UInt8)]++Str.s y8++[(125:UInt8)])++[(40:UInt8)])+List.length (Str.s y11)<=1099511627776))=true∧((decide (List.length (Str.s (Nd.name n)++([(123:UInt8)]++Str.s y8++[(125:UInt8)])++[(40:UInt8)]++Str.s y11)+List.length [(41:UInt8)]<=1099511627776))=true∧(G ((.str (Str.s (Nd.name n)++([(123:UInt8)]++Str.s y8++[(125:UInt8)])++[(40:UInt8)]++Str.s y11++[(41:UInt8)]))))))))))))))else(if (decide ((↑(List.length (List.map enc (Nd.ranks n))):Int)>0))=true then(Go.Pl.preT (fun(x:List Int×FnV 51×Unit)=>decide (List.length x.1<=1048576)&&Xw x.1) [(.sl 1 false (List.map enc (Nd.ranks n))),(.fn 51)])=true∧(∃ y12:Str,AV.pv (Zb (fun(x:List Int×FnV 51×Unit)=>Yh (List.map Zn x.1)) [(.sl 1 false (List.map enc (Nd.ranks n))),(.fn 51)])=AV.pv (enc y12)∧((decide (List.length [(64:UInt8),(40:UInt8)]+List.length (Str.s y12)<=1099511627776))=true∧((decide (List.length ([(64:UInt8),(40:UInt8)]++Str.s y12)+List.length [(41:UInt8)]<=1099511627776))=true∧((decide (List.length (Str.s (Nd.name n))+List.length ([(64:UInt8),(40:UInt8)]++Str.s y12++[(41:UInt8)])<=1099511627776))=true∧((decide (List.length (Str.s (Nd.name n)++([(64:UInt8),(40:UInt8)]++Str.s y12++[(41:UInt8)]))+List.length [(40:UInt8)]<=1099511627776))=true∧((Go.Pl.preT (fun(x:List Tm×FnV 16×Unit)=>Ca x.1&&YP x.1&&decide (ZW x.1<N)) [(.sl 10 false (List.map enc ks)),(.fn 16)])=true∧(∃ y13:Str,AV.pv (Zb (fun(x:List Tm×FnV 16×Unit)=>Yh (List.map Zq x.1)) [(.sl 10 false (List.map enc ks)),(.fn 16)])=AV.pv (enc y13)∧((decide (List.length (Str.s (Nd.name n)++([(64:UInt8),(40:UInt8)]++Str.s y12++[(41:UInt8)])++[(40:UInt8)])+List.length (Str.s y13)<=1099511627776))=true∧((decide (List.length (Str.s (Nd.name n)++([(64:UInt8),(40:UInt8)]++Str.s y12++[(41:UInt8)])++[(40:UInt8)]++Str.s y13)+List.length [(41:UInt8)]<=1099511627776))=true∧(G ((.str (Str.s (Nd.name n)++([(64:UInt8),(40:UInt8)]++Str.s y12++[(41:UInt8)])++[(40:UInt8)]++Str.s y13++[(41:UInt8)])))))))))))))else((decide (List.length (Str.s (Nd.name n))+List.length [(40:UInt8)]<=1099511627776))=true∧((Go.Pl.preT (fun(x:List Tm×FnV 16×Unit)=>Ca x.1&&YP x.1&&decide (ZW x.1<N)) [(.sl 10 false (List.map enc ks)),(.fn 16)])=true∧(∃ y14:Str,AV.pv (Zb (fun(x:List Tm×FnV 16×Unit)=>Yh (List.map Zq x.1)) [(.sl 10 false (List.map enc ks)),(.fn 16)])=AV.pv (enc y14)∧((decide (List.length (Str.s (Nd.name n)++[(40:UInt8)])+List.length (Str.s y14)<=1099511627776))=true∧((decide (List.length (Str.s (Nd.name n)++[(40:UInt8)]++Str.s y14)+List.length [(41:UInt8)]<=1099511627776))=true∧(G ((.str (Str.s (Nd.name n)++[(40:UInt8)]++Str.s y14++[(41:UInt8)])))))))))))):Ze (Ay N) 0 (Za GN G) SB [] (Z0 45 [.agg [enc n.kind,enc n.line,enc n.name,enc n.num,enc n.elem,enc n.dims,enc n.data,enc n.sizes,enc n.ranks,enc ks]]):=Ze.tp (.lit (.ask (.req (.abs (Str) (fun YY=>AV.pv (enc YY)) (.req (.req (.req (.lit (.ask (.req (.abs (Str) (fun YY=>AV.pv (enc YY)) (.req (.req (.req (.lit (.ask (.req (.abs (Str) (fun YY=>AV.pv (enc YY)) (.req (.req (.req (.req (.req (.abs (Str) (fun YY=>AV.pv (enc YY)) (.req (.req (.nil))))))))))) (.req (.req (.abs (Str) (fun YY=>AV.pv (enc YY)) (.req (.req (.nil))))))))))))) (.lit (.ask (.req (.abs (Str) (fun YY=>AV.pv (enc YY)) (.req (.req (.req (.req (.req (.abs (Str) (fun YY=>AV.pv (enc YY)) (.req (.req (.nil))))))))))) (.req (.req (.abs (Str) (fun YY=>AV.pv (enc YY)) (.req (.req (.nil))))))))))))))) (.lit (.ask (.req (.abs (Str) (fun YY=>AV.pv (enc YY)) (.req (.req (.req (.lit (.ask (.req (.abs (Str) (fun YY=>AV.pv (enc YY)) (.req (.req (.req (.req (.req (.abs (Str) (fun YY=>AV.pv (enc YY)) (.req (.req (.nil))))))))))) (.req (.req (.abs (Str) (fun YY=>AV.pv (enc YY)) (.req (.req (.nil))))))))))))) (.lit (.ask (.req (.abs (Str) (fun YY=>AV.pv (enc YY)) (.req (.req (.req (.req (.req (.abs (Str) (fun YY=>AV.pv (enc YY)) (.req (.req (.nil))))))))))) (.req (.req (.abs (Str) (fun YY=>AV.pv (enc YY)) (.req (.req (.nil)))))))))))) h (by kernel_rfl)
noncomputable def M8:IC:=Xu Proofs.Tryz.f23
def Lt:List IRes:=[(.tmp 5)]
abbrev c5j:Nat:=21
def a0q(N:Nat):ZO:=YQ [(16,.pure (preT (fun x:Tm×Unit=>(tW x.1&&ZU x.1)&&decide (ZM x.1<N))) (Zb (fun x:Tm×Unit=>Zq x.1)))]
theorem d6t{G:AV×List AObj×List AObj->Prop}(N:Nat)(n:Nd)(ks:List Tm)(k:Int)(b:Bool)(h:if (b)=true then(decide (0<=k)&&decide (Int.toNat k<List.length (List.map enc ks))&&Enc.sz Tm==10)=true∧(∃ y0:Tm,AV.pv (PV.rptr (PV.cells (List.getD (List.map enc ks) (Int.toNat k) default)))=AV.pv (PV.rptr (PV.cells ((enc) y0)))∧(Cb y0=true∧((Go.Pl.preT (fun(x:Tm×Unit)=>tW x.1&&ZU x.1&&decide (ZM x.1<N)) (Wd y0))=true∧(∃ y1:Str,AV.pv (Zb (fun(x:Tm×Unit)=>Zq x.1) (Wd y0))=AV.pv (enc y1)∧(G (((.pv (.str (Str.s y1))),([(.box (Z7 n ks))],[]))))))))else((decide (0<=k)&&decide (Int.toNat k<List.length (List.map enc ks))&&Enc.sz Tm==10)=true∧(∃ y2:Tm,AV.pv (PV.rptr (PV.cells (List.getD (List.map enc ks) (Int.toNat k) default)))=AV.pv (PV.rptr (PV.cells ((enc) y2)))∧(Cb y2=true∧((Go.Pl.preT (fun(x:Tm×Unit)=>tW x.1&&ZU x.1&&decide (ZM x.1<N)) (Wd y2))=true∧(∃ y3:Str,AV.pv (Zb (fun(x:Tm×Unit)=>Zq x.1) (Wd y2))=AV.pv (enc y3)∧((decide (List.length [(40:UInt8)]+List.length (Str.s y3)<=1099511627776))=true∧((decide (List.length ([(40:UInt8)]++Str.s y3)+List.length [(41:UInt8)]<=1099511627776))=true∧(G (((.pv (.str ([(40:UInt8)]++Str.s y3++[(41:UInt8)]))),([(.box (Z7 n ks))],[])))))))))))):Ze (a0q N) 1 (Xt 1 Lt G) M8 [] (Uz 21 [.pv (.int .i64 k),.pv (.bool b),.ptr 0 0] [.box [.pv (enc n.kind),.pv (enc n.line),.pv (enc n.name),.pv (enc n.num),.pv (enc n.elem),.pv (enc n.dims),.pv (enc n.data),.pv (enc n.sizes),.pv (enc n.ranks),.pv (enc ks)]]):=Ze.to (.ask (.req (.abs (Tm) (fun YY=>AV.pv (PV.rptr (PV.cells ((enc) YY)))) (.req (.req (.abs (Str) (fun YY=>AV.pv (enc YY)) (.nil)))))) (.req (.abs (Tm) (fun YY=>AV.pv (PV.rptr (PV.cells ((enc) YY)))) (.req (.req (.abs (Str) (fun YY=>AV.pv (enc YY)) (.req (.req (.nil))))))))) h (by kernel_rfl)
noncomputable def TB:IC:=Xu Proofs.Tryz.f16
def GV:List IRes:=[(.tmp 2)]
abbrev c3n:Nat:=179
def Ab(N:Nat):ZO:=YQ [(22,.pure (preT (fun x:Tm×Unit=>tW x.1)) (Zb (fun x:Tm×Unit=>Q7 x.1))),(24,.pure (preT (fun x:Tm×Unit=>tW x.1)) (Zb (fun x:Tm×Unit=>YV x.1))),(23,.own (Xq N) LU),(16,.pure (preT (fun x:Tm×Unit=>(tW x.1&&ZU x.1)&&decide (ZM x.1<N))) (Zb (fun x:Tm×Unit=>Zq x.1))),(25,.pure (preT (fun x:Tm×Unit=>Uv x.1.nd)) (Zb (fun x:Tm×Unit=>Ea x.1.nd))),(26,.pure (preT (fun x:Tm×Unit=>(tW x.1&&ZU x.1&&decide (x.1.nd.kind=6))&&decide (ZW x.1.ks<N))) (Zb (fun x:Tm×Unit=>Qf x.1))),(27,.pure (preT (fun x:List Tm×FnV 16×Unit=>(Ca x.1&&YP x.1)&&decide (ZW x.1<N))) (Zb (fun x:List Tm×FnV 16×Unit=>Yh (x.1.map Zq)))),(28,.pure (preT (fun x:List Str×Unit=>XQ x.1)) (Zb (fun x:List Str×Unit=>Yh x.1))),(29,.pure (preT (fun x:Lin×Unit=>Ws x.1)) (Zb (fun x:Lin×Unit=>(⟨ZY x.1⟩:Str)))),(30,.pure (preT (fun x:Arr×Unit=>WQ x.1&&X8 x.1)) (Zb (fun x:Arr×Unit=>Q9 x.1)))]
theorem d0z{G:PV->Prop}(N:Nat)(n:Nd)(ks:List Tm)(h:(Go.Pl.preT (fun(x:Tm×Unit)=>tW x.1) (V4 n ks))=true∧(∃ y0:Str×Int,AV.pv (Zb (fun(x:Tm×Unit)=>Q7 x.1) (V4 n ks))=AV.pv (enc y0)∧((Go.Pl.preT (fun(x:Tm×Unit)=>tW x.1) (V4 n ks))=true∧(∃ y1:Int,AV.pv (Zb (fun(x:Tm×Unit)=>YV x.1) (V4 n ks))=AV.pv (enc y1)∧(if (y0.2==2)=true then(decide (0<=0)&&decide (Int.toNat 0<List.length (List.map enc ks))&&Enc.sz Tm==10)=true∧(∃ y2:Tm,AV.pv (PV.rptr (PV.cells (List.getD (List.map enc ks) (Int.toNat 0) default)))=AV.pv (PV.rptr (PV.cells ((enc) y2)))∧(Cb y2=true∧((Go.Pl.preT (fun(x:Tm×Unit)=>tW x.1) (Wd y2))=true∧(∃ y3:Int,AV.pv (Zb (fun(x:Tm×Unit)=>YV x.1) (Wd y2))=AV.pv (enc y3)∧((decide (0<=1)&&decide (Int.toNat 1<List.length (List.map enc ks))&&Enc.sz Tm==10)=true∧(∃ y4:Tm,AV.pv (PV.rptr (PV.cells (List.getD (List.map enc ks) (Int.toNat 1) default)))=AV.pv (PV.rptr (PV.cells ((enc) y4)))∧(Cb y4=true∧((Go.Pl.preT (fun(x:Tm×Unit)=>tW x.1) (Wd y4))=true∧(∃ y5:Int,AV.pv (Zb (fun(x:Tm×Unit)=>YV x.1) (Wd y4))=AV.pv (enc y5)∧(if (decide (y3 ≥ y1))=true then if (y3 != 3)=true then(Xq N [(.pv (.int .i64 0)),(.pv (.bool true)),(.ptr 0 0)] [(.box (Z7 n ks))])=true∧((decide (List.length (Y9 (Z7 n ks) 0 true)+List.length [(32:UInt8)]<=1099511627776))=true∧((decide (List.length (Y9 (Z7 n ks) 0 true++[(32:UInt8)])+List.length (Str.s y0.1)<=1099511627776))=true∧((decide (List.length (Y9 (Z7 n ks) 0 true++[(32:UInt8)]++Str.s y0.1)+List.length [(32:UInt8)]<=1099511627776))=true∧((Xq N [(.pv (.int .i64 1)),(.pv (.bool (decide (y5>y1)))),(.ptr 0 0)] [(.box (Z7 n ks))])=true∧((decide (List.length (Y9 (Z7 n ks) 0 true++[(32:UInt8)]++Str.s y0.1++[(32:UInt8)])+List.length (Y9 (Z7 n ks) 1 (decide (y5>y1)))<=1099511627776))=true∧(G ((.str (Y9 (Z7 n ks) 0 true++[(32:UInt8)]++Str.s y0.1++[(32:UInt8)]++Y9 (Z7 n ks) 1 (decide (y5>y1)))))))))))else((Xq N [(.pv (.int .i64 0)),(.pv (.bool (y1 != 3))),(.ptr 0 0)] [(.box (Z7 n ks))])=true∧((decide (List.length (Y9 (Z7 n ks) 0 (y1 != 3))+List.length [(32:UInt8)]<=1099511627776))=true∧((decide (List.length (Y9 (Z7 n ks) 0 (y1 != 3)++[(32:UInt8)])+List.length (Str.s y0.1)<=1099511627776))=true∧((decide (List.length (Y9 (Z7 n ks) 0 (y1 != 3)++[(32:UInt8)]++Str.s y0.1)+List.length [(32:UInt8)]<=1099511627776))=true∧((Xq N [(.pv (.int .i64 1)),(.pv (.bool (decide (y5>y1)))),(.ptr 0 0)] [(.box (Z7 n ks))])=true∧((decide (List.length (Y9 (Z7 n ks) 0 (y1 != 3)++[(32:UInt8)]++Str.s y0.1++[(32:UInt8)])+List.length (Y9 (Z7 n ks) 1 (decide (y5>y1)))<=1099511627776))=true∧(G ((.str (Y9 (Z7 n ks) 0 (y1 != 3)++[(32:UInt8)]++Str.s y0.1++[(32:UInt8)]++Y9 (Z7 n ks) 1 (decide (y5>y1))))))))))))else((Xq N [(.pv (.int .i64 0)),(.pv (.bool false)),(.ptr 0 0)] [(.box (Z7 n ks))])=true∧((decide (List.length (Y9 (Z7 n ks) 0 false)+List.length [(32:UInt8)]<=1099511627776))=true∧((decide (List.length (Y9 (Z7 n ks) 0 false++[(32:UInt8)])+List.length (Str.s y0.1)<=1099511627776))=true∧((decide (List.length (Y9 (Z7 n ks) 0 false++[(32:UInt8)]++Str.s y0.1)+List.length [(32:UInt8)]<=1099511627776))=true∧((Xq N [(.pv (.int .i64 1)),(.pv (.bool (decide (y5>y1)))),(.ptr 0 0)] [(.box (Z7 n ks))])=true∧((decide (List.length (Y9 (Z7 n ks) 0 false++[(32:UInt8)]++Str.s y0.1++[(32:UInt8)])+List.length (Y9 (Z7 n ks) 1 (decide (y5>y1)))<=1099511627776))=true∧(G ((.str (Y9 (Z7 n ks) 0 false++[(32:UInt8)]++Str.s y0.1++[(32:UInt8)]++Y9 (Z7 n ks) 1 (decide (y5>y1))))))))))))))))))))))else(if (y0.2==1)=true then(decide (0<=0)&&decide (Int.toNat 0<List.length (List.map enc ks))&&Enc.sz Tm==10)=true∧(∃ y6:Tm,AV.pv (PV.rptr (PV.cells (List.getD (List.map enc ks) (Int.toNat 0) default)))=AV.pv (PV.rptr (PV.cells ((enc) y6)))∧(Cb y6=true∧(if (PV.asInt (List.getD (PV.cells (enc y6)) 0 default)==2)=true then if (PV.asStr (List.getD (PV.cells (enc y6)) (0+1+1) default)==[(105:UInt8),(110:UInt8),(116:UInt8)])=true then if (decide (PV.asInt (List.getD (PV.cells (enc y6)) (0+1+1+1) default) ≥ 0))=true then(Go.Pl.preT (fun(x:Tm×Unit)=>tW x.1) (Wd y6))=true∧(∃ y7:Int,AV.pv (Zb (fun(x:Tm×Unit)=>YV x.1) (Wd y6))=AV.pv (enc y7)∧(if (decide (y7 ≥ 6))=true then(Xq N [(.pv (.int .i64 0)),(.pv (.bool (!Str.s y0.1==[(45:UInt8)]))),(.ptr 0 0)] [(.box (Z7 n ks))])=true∧((decide (List.length (Str.s y0.1)+List.length (Y9 (Z7 n ks) 0 !Str.s y0.1==[(45:UInt8)])<=1099511627776))=true∧(G ((.str (Str.s y0.1++Y9 (Z7 n ks) 0 !Str.s y0.1==[(45:UInt8)])))))else((Xq N [(.pv (.int .i64 0)),(.pv (.bool false)),(.ptr 0 0)] [(.box (Z7 n ks))])=true∧((decide (List.length (Str.s y0.1)+List.length (Y9 (Z7 n ks) 0 false)<=1099511627776))=true∧(G ((.str (Str.s y0.1++Y9 (Z7 n ks) 0 false))))))))else((Go.Pl.preT (fun(x:Tm×Unit)=>tW x.1) (Wd y6))=true∧(∃ y8:Int,AV.pv (Zb (fun(x:Tm×Unit)=>YV x.1) (Wd y6))=AV.pv (enc y8)∧(if (decide (y8 ≥ 6))=true then(Xq N [(.pv (.int .i64 0)),(.pv (.bool true)),(.ptr 0 0)] [(.box (Z7 n ks))])=true∧((decide (List.length (Str.s y0.1)+List.length (Y9 (Z7 n ks) 0 !false)<=1099511627776))=true∧(G ((.str (Str.s y0.1++Y9 (Z7 n ks) 0 !false)))))else((Xq N [(.pv (.int .i64 0)),(.pv (.bool false)),(.ptr 0 0)] [(.box (Z7 n ks))])=true∧((decide (List.length (Str.s y0.1)+List.length (Y9 (Z7 n ks) 0 false)<=1099511627776))=true∧(G ((.str (Str.s y0.1++Y9 (Z7 n ks) 0 false)))))))))else((Go.Pl.preT (fun(x:Tm×Unit)=>tW x.1) (Wd y6))=true∧(∃ y9:Int,AV.pv (Zb (fun(x:Tm×Unit)=>YV x.1) (Wd y6))=AV.pv (enc y9)∧(if (decide (y9 ≥ 6))=true then(Xq N [(.pv (.int .i64 0)),(.pv (.bool true)),(.ptr 0 0)] [(.box (Z7 n ks))])=true∧((decide (List.length (Str.s y0.1)+List.length (Y9 (Z7 n ks) 0 !false)<=1099511627776))=true∧(G ((.str (Str.s y0.1++Y9 (Z7 n ks) 0 !false)))))else((Xq N [(.pv (.int .i64 0)),(.pv (.bool false)),(.ptr 0 0)] [(.box (Z7 n ks))])=true∧((decide (List.length (Str.s y0.1)+List.length (Y9 (Z7 n ks) 0 false)<=1099511627776))=true∧(G ((.str (Str.s y0.1++Y9 (Z7 n ks) 0 false)))))))))else((Go.Pl.preT (fun(x:Tm×Unit)=>tW x.1) (Wd y6))=true∧(∃ y10:Int,AV.pv (Zb (fun(x:Tm×Unit)=>YV x.1) (Wd y6))=AV.pv (enc y10)∧(if (decide (y10 ≥ 6))=true then(Xq N [(.pv (.int .i64 0)),(.pv (.bool true)),(.ptr 0 0)] [(.box (Z7 n ks))])=true∧((decide (List.length (Str.s y0.1)+List.length (Y9 (Z7 n ks) 0 !false)<=1099511627776))=true∧(G ((.str (Str.s y0.1++Y9 (Z7 n ks) 0 !false)))))else((Xq N [(.pv (.int .i64 0)),(.pv (.bool false)),(.ptr 0 0)] [(.box (Z7 n ks))])=true∧((decide (List.length (Str.s y0.1)+List.length (Y9 (Z7 n ks) 0 false)<=1099511627776))=true∧(G ((.str (Str.s y0.1++Y9 (Z7 n ks) 0 false))))))))))))else(if (Nd.kind n==5)=true then(decide (List.length [(108:UInt8),(101:UInt8),(116:UInt8),(32:UInt8)]+List.length (Str.s (Nd.name n))<=1099511627776))=true∧((decide (List.length ([(108:UInt8),(101:UInt8),(116:UInt8),(32:UInt8)]++Str.s (Nd.name n))+List.length [(32:UInt8),(61:UInt8),(32:UInt8)]<=1099511627776))=true∧((decide (0<=0)&&decide (Int.toNat 0<List.length (List.map enc ks))&&Enc.sz Tm==10)=true∧(∃ y11:Tm,AV.pv (PV.rptr (PV.cells (List.getD (List.map enc ks) (Int.toNat 0) default)))=AV.pv (PV.rptr (PV.cells ((enc) y11)))∧(Cb y11=true∧((Go.Pl.preT (fun(x:Tm×Unit)=>tW x.1&&ZU x.1&&decide (ZM x.1<N)) (Wd y11))=true∧(∃ y12:Str,AV.pv (Zb (fun(x:Tm×Unit)=>Zq x.1) (Wd y11))=AV.pv (enc y12)∧((decide (List.length ([(108:UInt8),(101:UInt8),(116:UInt8),(32:UInt8)]++Str.s (Nd.name n)++[(32:UInt8),(61:UInt8),(32:UInt8)])+List.length (Str.s y12)<=1099511627776))=true∧((decide (List.length ([(108:UInt8),(101:UInt8),(116:UInt8),(32:UInt8)]++Str.s (Nd.name n)++[(32:UInt8),(61:UInt8),(32:UInt8)]++Str.s y12)+List.length [(32:UInt8),(105:UInt8),(110:UInt8),(32:UInt8)]<=1099511627776))=true∧((decide (0<=1)&&decide (Int.toNat 1<List.length (List.map enc ks))&&Enc.sz Tm==10)=true∧(∃ y13:Tm,AV.pv (PV.rptr (PV.cells (List.getD (List.map enc ks) (Int.toNat 1) default)))=AV.pv (PV.rptr (PV.cells ((enc) y13)))∧(Cb y13=true∧((Go.Pl.preT (fun(x:Tm×Unit)=>tW x.1&&ZU x.1&&decide (ZM x.1<N)) (Wd y13))=true∧(∃ y14:Str,AV.pv (Zb (fun(x:Tm×Unit)=>Zq x.1) (Wd y13))=AV.pv (enc y14)∧((decide (List.length ([(108:UInt8),(101:UInt8),(116:UInt8),(32:UInt8)]++Str.s (Nd.name n)++[(32:UInt8),(61:UInt8),(32:UInt8)]++Str.s y12++[(32:UInt8),(105:UInt8),(110:UInt8),(32:UInt8)])+List.length (Str.s y14)<=1099511627776))=true∧(G ((.str ([(108:UInt8),(101:UInt8),(116:UInt8),(32:UInt8)]++Str.s (Nd.name n)++[(32:UInt8),(61:UInt8),(32:UInt8)]++Str.s y12++[(32:UInt8),(105:UInt8),(110:UInt8),(32:UInt8)]++Str.s y14))))))))))))))))))else(if (Nd.kind n==2)=true then(Go.Pl.preT (fun(x:Tm×Unit)=>Uv (Tm.nd x.1)) (V4 n ks))=true∧(∃ y15:Str,AV.pv (Zb (fun(x:Tm×Unit)=>Ea (Tm.nd x.1)) (V4 n ks))=AV.pv (enc y15)∧(G ((.str (Str.s y15)))))else(if (Nd.kind n==1)=true then G ((.str (Str.s (Nd.name n))))else(if (Nd.kind n==6)=true then(Go.Pl.preT (fun(x:Tm×Unit)=>tW x.1&&ZU x.1&&decide (Nd.kind (Tm.nd x.1)=6)&&decide (ZW (Tm.ks x.1)<N)) (V4 n ks))=true∧(∃ y16:Str,AV.pv (Zb (fun(x:Tm×Unit)=>Qf x.1) (V4 n ks))=AV.pv (enc y16)∧(G ((.str (Str.s y16)))))else(if (Nd.kind n==7)=true then(Go.Pl.preT (fun(x:List Tm×FnV 16×Unit)=>Ca x.1&&YP x.1&&decide (ZW x.1<N)) [(.sl 10 false (List.map enc ks)),(.fn 16)])=true∧(∃ y17:Str,AV.pv (Zb (fun(x:List Tm×FnV 16×Unit)=>Yh (List.map Zq x.1)) [(.sl 10 false (List.map enc ks)),(.fn 16)])=AV.pv (enc y17)∧((decide (List.length [(91:UInt8)]+List.length (Str.s y17)<=1099511627776))=true∧((decide (List.length ([(91:UInt8)]++Str.s y17)+List.length [(93:UInt8)]<=1099511627776))=true∧(G ((.str ([(91:UInt8)]++Str.s y17++[(93:UInt8)])))))))else(if (Nd.kind n==8)=true then(decide (0<=0)&&decide (Int.toNat 0<List.length (List.map enc ks))&&Enc.sz Tm==10)=true∧(∃ y18:Tm,AV.pv (PV.rptr (PV.cells (List.getD (List.map enc ks) (Int.toNat 0) default)))=AV.pv (PV.rptr (PV.cells ((enc) y18)))∧(Cb y18=true∧((Go.Pl.preT (fun(x:Tm×Unit)=>tW x.1&&ZU x.1&&decide (ZM x.1<N)) (Wd y18))=true∧(∃ y19:Str,AV.pv (Zb (fun(x:Tm×Unit)=>Zq x.1) (Wd y18))=AV.pv (enc y19)∧((decide (0<=1)&&decide (Int.toNat 1<List.length (List.map enc ks))&&Enc.sz Tm==10)=true∧(∃ y20:Tm,AV.pv (PV.rptr (PV.cells (List.getD (List.map enc ks) (Int.toNat 1) default)))=AV.pv (PV.rptr (PV.cells ((enc) y20)))∧(Cb y20=true∧((Go.Pl.preT (fun(x:Tm×Unit)=>tW x.1&&ZU x.1&&decide (ZM x.1<N)) (Wd y20))=true∧(∃ y21:Str,AV.pv (Zb (fun(x:Tm×Unit)=>Zq x.1) (Wd y20))=AV.pv (enc y21)∧((Go.Pl.preT (fun(x:List Str×Unit)=>XQ x.1) [(.sl 1 false [(.str (Str.s (Nd.name n))),(.str (Str.s y19)),(.str (Str.s y21))])])=true∧(∃ y22:Str,AV.pv (Zb (fun(x:List Str×Unit)=>Yh x.1) [(.sl 1 false [(.str (Str.s (Nd.name n))),(.str (Str.s y19)),(.str (Str.s y21))])])=AV.pv (enc y22)∧((decide (List.length [(102:UInt8),(111:UInt8),(108:UInt8),(100:UInt8),(40:UInt8)]+List.length (Str.s y22)<=1099511627776))=true∧((decide (List.length ([(102:UInt8),(111:UInt8),(108:UInt8),(100:UInt8),(40:UInt8)]++Str.s y22)+List.length [(41:UInt8)]<=1099511627776))=true∧(G ((.str ([(102:UInt8),(111:UInt8),(108:UInt8),(100:UInt8),(40:UInt8)]++Str.s y22++[(41:UInt8)])))))))))))))))))else(if (Nd.kind n==9)=true then(decide (0<=0)&&decide (Int.toNat 0<List.length (List.map enc ks))&&Enc.sz Tm==10)=true∧(∃ y23:Tm,AV.pv (PV.rptr (PV.cells (List.getD (List.map enc ks) (Int.toNat 0) default)))=AV.pv (PV.rptr (PV.cells ((enc) y23)))∧(Cb y23=true∧((Go.Pl.preT (fun(x:Tm×Unit)=>tW x.1&&ZU x.1&&decide (ZM x.1<N)) (Wd y23))=true∧(∃ y24:Str,AV.pv (Zb (fun(x:Tm×Unit)=>Zq x.1) (Wd y23))=AV.pv (enc y24)∧((Go.Pl.preT (fun(x:List Str×Unit)=>XQ x.1) [(.sl 1 false [(.str (Str.s (Nd.name n))),(.str (Str.s y24))])])=true∧(∃ y25:Str,AV.pv (Zb (fun(x:List Str×Unit)=>Yh x.1) [(.sl 1 false [(.str (Str.s (Nd.name n))),(.str (Str.s y24))])])=AV.pv (enc y25)∧((decide (List.length [(115:UInt8),(99:UInt8),(97:UInt8),(110:UInt8),(40:UInt8)]+List.length (Str.s y25)<=1099511627776))=true∧((decide (List.length ([(115:UInt8),(99:UInt8),(97:UInt8),(110:UInt8),(40:UInt8)]++Str.s y25)+List.length [(41:UInt8)]<=1099511627776))=true∧(G ((.str ([(115:UInt8),(99:UInt8),(97:UInt8),(110:UInt8),(40:UInt8)]++Str.s y25++[(41:UInt8)]))))))))))))else(if (Nd.kind n==4)=true then(decide (0<=0)&&decide (Int.toNat 0<List.length (List.map enc (Nd.sizes n)))&&Enc.sz Lin==2)=true∧(∃ y26:Lin,AV.pv (PV.rptr (PV.cells (List.getD (List.map enc (Nd.sizes n)) (Int.toNat 0) default)))=AV.pv (PV.rptr (PV.cells ((enc) y26)))∧((Go.Pl.preT (fun(x:Lin×Unit)=>Ws x.1) [(.agg [(.int .i64 (PV.asInt (List.getD (PV.cells (enc y26)) 0 default))),(.sl 2 false (PV.asXs (List.getD (PV.cells (enc y26)) (0+1) default)))])])=true∧(∃ y27:Str,AV.pv (Zb (fun(x:Lin×Unit)=>Str.mk (ZY x.1)) [(.agg [(.int .i64 (PV.asInt (List.getD (PV.cells (enc y26)) 0 default))),(.sl 2 false (PV.asXs (List.getD (PV.cells (enc y26)) (0+1) default)))])])=AV.pv (enc y27)∧((decide (List.length [(115:UInt8),(105:UInt8),(122:UInt8),(101:UInt8),(91:UInt8)]+List.length (Str.s y27)<=1099511627776))=true∧((decide (List.length ([(115:UInt8),(105:UInt8),(122:UInt8),(101:UInt8),(91:UInt8)]++Str.s y27)+List.length [(93:UInt8)]<=1099511627776))=true∧(G ((.str ([(115:UInt8),(105:UInt8),(122:UInt8),(101:UInt8),(91:UInt8)]++Str.s y27++[(93:UInt8)])))))))))else((Go.Pl.preT (fun(x:Arr×Unit)=>WQ x.1&&X8 x.1) [(.agg [(.str (Str.s (Nd.elem n))),(.sl 1 false (List.map enc (Nd.dims n))),(.sl 1 false (List.map enc (Nd.data n)))])])=true∧(∃ y28:Str×Int,AV.pv (Zb (fun(x:Arr×Unit)=>Q9 x.1) [(.agg [(.str (Str.s (Nd.elem n))),(.sl 1 false (List.map enc (Nd.dims n))),(.sl 1 false (List.map enc (Nd.data n)))])])=AV.pv (enc y28)∧(G ((.str (Str.s y28.1)))))))))))))))))))):Ze (Ab N) 0 (Za GV G) TB [] (Z0 179 [.agg [enc n.kind,enc n.line,enc n.name,enc n.num,enc n.elem,enc n.dims,enc n.data,enc n.sizes,enc n.ranks,enc ks]]):=Ze.tp (.req (.abs (Str×Int) (fun YY=>AV.pv (enc YY)) (.req (.abs (Int) (fun YY=>AV.pv (enc YY)) (.lit (.ask (.req (.abs (Tm) (fun YY=>AV.pv (PV.rptr (PV.cells ((enc) YY)))) (.req (.req (.abs (Int) (fun YY=>AV.pv (enc YY)) (.req (.abs (Tm) (fun YY=>AV.pv (PV.rptr (PV.cells ((enc) YY)))) (.req (.req (.abs (Int) (fun YY=>AV.pv (enc YY)) (.lit (.ask (Zl 3 (.ask (Zl 4 (.req (.keep (.req (.req (.req (.lit (.req (.keep (.req (.nil))))))))))) (Zl 5 (.req (.keep (.req (.req (.req (.lit (.req (.keep (.req (.nil))))))))))))) (Zl 4 (.req (.keep (.req (.req (.req (.lit (.req (.keep (.req (.nil))))))))))))))))))))))) (.lit (.ask (.req (.abs (Tm) (fun YY=>AV.pv (PV.rptr (PV.cells ((enc) YY)))) (.req (.lit (.ask (Zl 4 (.ask (Zl 4 (.ask (Zl 3 (.req (.abs (Int) (fun YY=>AV.pv (enc YY)) (.lit (.ask (Zl 2 (.req (.keep (.req (.nil))))) (Zl 2 (.req (.keep (.req (.nil)))))))))) (Zl 2 (.req (.abs (Int) (fun YY=>AV.pv (enc YY)) (.lit (.ask (Zl 2 (.req (.keep (.req (.nil))))) (Zl 2 (.req (.keep (.req (.nil)))))))))))) (Zl 6 (.req (.abs (Int) (fun YY=>AV.pv (enc YY)) (.lit (.ask (Zl 2 (.req (.keep (.req (.nil))))) (Zl 2 (.req (.keep (.req (.nil)))))))))))) (Zl 10 (.req (.abs (Int) (fun YY=>AV.pv (enc YY)) (.lit (.ask (Zl 2 (.req (.keep (.req (.nil))))) (Zl 2 (.req (.keep (.req (.nil))))))))))))))) (.lit (.ask (.req (.req (.req (.abs (Tm) (fun YY=>AV.pv (PV.rptr (PV.cells ((enc) YY)))) (.req (.req (.abs (Str) (fun YY=>AV.pv (enc YY)) (.req (.req (.req (.abs (Tm) (fun YY=>AV.pv (PV.rptr (PV.cells ((enc) YY)))) (.req (.req (.abs (Str) (fun YY=>AV.pv (enc YY)) (.req (.nil)))))))))))))))) (.lit (.ask (.req (.abs (Str) (fun YY=>AV.pv (enc YY)) (.nil))) (.lit (.ask (.nil) (.lit (.ask (.req (.abs (Str) (fun YY=>AV.pv (enc YY)) (.nil))) (.lit (.ask (.req (.abs (Str) (fun YY=>AV.pv (enc YY)) (.req (.req (.nil))))) (.lit (.ask (.req (.abs (Tm) (fun YY=>AV.pv (PV.rptr (PV.cells ((enc) YY)))) (.req (.req (.abs (Str) (fun YY=>AV.pv (enc YY)) (.req (.abs (Tm) (fun YY=>AV.pv (PV.rptr (PV.cells ((enc) YY)))) (.req (.req (.abs (Str) (fun YY=>AV.pv (enc YY)) (Zl 2 (.req (.abs (Str) (fun YY=>AV.pv (enc YY)) (.req (.req (.nil)))))))))))))))) (.lit (.ask (.req (.abs (Tm) (fun YY=>AV.pv (PV.rptr (PV.cells ((enc) YY)))) (.req (.req (.abs (Str) (fun YY=>AV.pv (enc YY)) (Zl 2 (.req (.abs (Str) (fun YY=>AV.pv (enc YY)) (.req (.req (.nil))))))))))) (.lit (.ask (.req (.abs (Lin) (fun YY=>AV.pv (PV.rptr (PV.cells ((enc) YY)))) (.lit (.req (.abs (Str) (fun YY=>AV.pv (enc YY)) (.req (.req (.nil)))))))) (.req (.abs (Str×Int) (fun YY=>AV.pv (enc YY)) (.nil))))))))))))))))))))))))))) h (by kernel_rfl)
end Go.Pl
namespace Go.Pl
open Go.RowKit
open Enc (enc dec is)
open EncL (encL decL isL)
theorem R9{ks:List Tm}{k:Tm}(h:k∈ks):ZM k<=ZW ks:=by
 induction ks with
 | nil=>cases h
 | cons a ks ih=>
  rw[ZW]
  rcases List.mem_cons.1 h with rfl|h
  ·omega
  ·have:=ih h;omega
theorem W9{N:Nat}{t:Tm}(h1:tW t=true)(h2:ZU t=true)(h3:ZM t<N):(fun x:Tm×Unit=>(tW x.1&&ZU x.1)&&decide (ZM x.1<N)) (t,())=true:=by
 show(tW t&&ZU t&&decide (ZM t<N))=true
 rw[h1,h2,decide_eq_true h3];rfl
structure TxP (N:Nat) (ks:List Tm):Prop where
 w:Us ks<=1048576
 v : ∀ k∈ks,ZU k=true
 d:ZW ks<N
theorem TxP.kid{N:Nat}{ks:List Tm}(h:TxP N ks){k:Tm}(hk:k∈ks):tW k=true∧ZU k=true∧ZM k<N:=
 ⟨decide_eq_true (Nat.le_trans (FH hk) h.w),h.v k hk,Nat.lt_of_le_of_lt (R9 hk) h.d⟩
theorem TxP.pre{N:Nat}{ks:List Tm}(h:TxP N ks):(fun x:List Tm×FnV 16×Unit=>(Ca x.1&&YP x.1)&&decide (ZW x.1<N)) (ks,{},())=true:=by
 show(Ca ks&&YP ks&&decide (ZW ks<N))=true
 rw[show Ca ks=true from decide_eq_true h.w,V7,List.all_eq_true.2 h.v,decide_eq_true h.d];rfl
theorem TxP.com{N:Nat}{ks:List Tm}(h:TxP N ks):(Ya (ks.map ZX)).length<=1153433600:=by
 have h1:=Xc (ks.map ZX)
 have h2:=JG ks (by rw[V7];exact List.all_eq_true.2 h.v)
 have h3:((ks.map ZX).map fun s=>s.length+2).sum<=((YC ks).map fun x=>x.2.2.length+4).sum:=by
  rw[WE,DZ,DZ]
  exact G6 fun x _=>by show(ZX x).length+2<=(ZX x).length+4;omega
 have:=h.w
 omega
theorem TxP.len{N:Nat}{ks:List Tm}(h:TxP N ks){k:Tm}(hk:k∈ks):(ZX k).length<=1153433592:=Tf (h.kid hk).1 (h.kid hk).2.1
theorem TxP.join{N:Nat}{ks:List Tm}(h:TxP N ks):XQ (ks.map Zq)=true:=by
 have h1:=h.com
 have h2:=Dn ks
 have h3:=h.w
 unfold XQ
 have e:=VH ks
 unfold Yh at e
 rw[decide_eq_true (by rw[List.length_map];omega),Bool.true_and]
 exact decide_eq_true (by rw[show Ya ((ks.map Zq).map (·.s))=Ya (ks.map ZX)from e];omega)
theorem b0o(N:Nat)(l:List Tm)(hl:l.length<=1048576)(hp:TxP N l)(hj:XQ (l.map Zq)=true): ∀ (d i:Nat),d+i=l.length ->
  At (Ga N) 0 (Za Kk (Zi (Yh (l.map Zq)))) Q5 0 27 [(1,.pv (.fn 16)),(5,.row 0 l.length 0 l.length),(11,.pv (enc l)),(12,.pv (.int .i64 l.length)),(13,.pv (.int .i64 i))] [.obj (.row false 9 1 ((Bn (l.map Zq) i).map enc))]:=by
 intro d
 induction d with
 | zero=>
  intro i hi
  have hil:i=l.length:=by omega
  subst hil
  have e:Bn (l.map Zq) l.length=l.map Zq:=by have:=NF (l.map Zq);rw[List.length_map]at this;exact this
  rw[e]
  have e2:=a1t (m:=l.map Zq)
  rw[List.length_map]at e2
  refine a8e N l _ _ (YA (YR (by omega)) ⟨by simp,?_⟩)
  rw[e2]
  exact⟨Zf (l.map Zq,()) rfl hj,Zd (l.map Zq,()) rfl (Zo rfl)⟩
 | succ d ih=>
  intro i hi
  have hlt:i<l.length:=by omega
  have hk:=hp.kid (List.getElem_mem hlt)
  have ho:(Bn (l.map Zq) i).length=l.length:=by rw[LC _ _ (by rw[List.length_map];omega),List.length_map]
  refine a8e N l _ _ (Yv (YO hlt) ⟨ZT hlt rfl,Yk hlt ⟨Xx _,Zf (l[i],()) (Yj _) (W9 hk.1 hk.2.1 hk.2.2),Zd (l[i],()) (Yj _) ⟨a4n hlt ho,a3n hlt ho,?_⟩⟩⟩)
  have e:(Bn (l.map Zq) i).set i (Zq l[i])=Bn (l.map Zq) (i+1):=by
   have:=Ff (m:=l.map Zq) (i:=i) (by rw[List.length_map];exact hlt)
   rw[List.getElem_map]at this
   exact this
  have e2:=a2g (o:=Bn (l.map Zq) i) (i:=i) (by omega) (Zq l[i])
  rw[e]at e2
  rw[next (by omega)]
  have h:=ih (i+1) (by omega)
  rw[<- e2]at h
  exact h
theorem c4t(N:Nat): ∀ x:List Tm×FnV 16×Unit,((Ca x.1&&YP x.1)&&decide (ZW x.1<N))=true->Ze (Ga N) 0 (Za Kk (Zi (Yh (x.1.map Zq)))) Q5 [] (Z0 d1h (encL x)):=by
 rintro⟨l,g,⟨⟩⟩ h
 have h':=h
 simp only[Bool.and_eq_true,decide_eq_true_eq,V7,List.all_eq_true]at h'
 have hp:TxP N l:=⟨of_decide_eq_true h'.1.1,h'.1.2,h'.2⟩
 have hl:l.length<=1048576:=Nat.le_trans (Dn l) hp.w
 refine d5u N l ⟨by rw[List.length_map];exact b4o _ hl,?_⟩
 have:=b0o N l hl hp hp.join l.length 0 (by omega)
 rw[Sn,List.map_replicate,List.length_map]at this
 rw[List.length_map,Int.toNat_natCast]
 exact this
theorem VA{α:Type}[Enc α]{l:List α}:(((List.length (List.map (enc:α->PV) l):Nat):Int)>0) ↔ l≠[]:=by
 cases l <;> simp
theorem Bj{x y:Int}{P Q:Prop}(h1:x≠y->P)(h2:x=y->Q):if (x != y)=true then P else Q:=by
 by_cases hxy:x=y
 ·rw[if_neg (by simpa using hxy)];exact h2 hxy
 ·rw[if_pos (by simpa using hxy)];exact h1 hxy
theorem ZE{a b:Nat}(h:a+b<=1099511627776):decide (a+b<=1099511627776)=true:=decide_eq_true h
theorem ZF{a b A B:Nat}(ha:a<=A)(hb:b<=B)(h:A+B<=1099511627776):decide (a+b<=1099511627776)=true:=decide_eq_true (by omega)
theorem ZB{a b:List UInt8}{A B:Nat}(ha:a.length<=A)(hb:b.length<=B):(a++b).length<=A+B:=by rw[List.length_append];omega
theorem SX{n:Nd}{k:Nat}(h:XK n k=true):n.name.s.length<=61∧(n.num.natAbs<=64∧0<=n.num)∧n.sizes.length<=4∧n.ranks.length<=8∧n.sizes.all Zp=true∧Xw n.ranks=true:=by
 unfold XK at h
 simp only[Bool.and_eq_true,decide_eq_true_eq,Bool.or_eq_true]at h
 refine⟨(Vz h.1.1.1.1.1.1.1).2.2,⟨by omega,by omega⟩,by omega,?_,h.1.2,h.2⟩
 rcases h.1.1.1.2 with hr|hr
 ·rw[List.isEmpty_iff.1 hr];simp
 ·omega
theorem b0g(N:Nat): ∀ x:Tm×Unit,(((tW x.1&&ZU x.1)&&decide (x.1.nd.kind=6))&&decide (ZW x.1.ks<N))=true->Ze (Ay N) 0 (Za GN (Zi (Qf x.1))) SB [] (Z0 c2n (encL x)):=by
 rintro⟨⟨n,ks⟩,⟨⟩⟩ h
 have h':=h
 simp only[Bool.and_eq_true,decide_eq_true_eq]at h'
 obtain⟨⟨⟨hw,hv⟩,hk⟩,hd⟩:=h'
 have hk:n.kind=6:=hk
 have hw:tW (.mk n ks)=true:=hw
 have hv:=Qd hv
 have hwk:Us ks<=1048576:=by have h1:K7 (.mk n ks)<=1048576:=of_decide_eq_true hw;rw[K7]at h1;omega
 have hp:TxP N ks:=⟨hwk,hv.2,hd⟩
 have hc:XK n ks.length=true:=by
  have h1:=hv.1
  unfold Wx YI at h1
  rw[hk]at h1
  simp at h1
  exact h1.2.2
 obtain⟨c1,c2,c3,c4,c5,c6⟩:=SX hc
 have l3:=hp.com
 rw[<- VH]at l3
 have l0:(Yh (n.sizes.map Yz)).s.length<=4008:=by
  rw[QX]
  have h1:=Xc (n.sizes.map ZY)
  rw[List.map_map]at h1
  have h2:=Gj (f:=(fun s:List UInt8=>s.length+2) ∘ ZY) (c:=1002) (l:=n.sizes) fun x _=>by
   have:=Vr x
   show(ZY x).length+2<=_
   omega
  omega
 have l1:(Zn n.num).s.length<=21:=Qh (by omega)
 have l2:(Yh (n.ranks.map Zn)).s.length<=184:=by
  rw[b7j]
  have h1:=Xc (n.ranks.map Qw)
  rw[List.map_map]at h1
  have h2:=Gj (f:=(fun s:List UInt8=>s.length+2) ∘ Qw) (c:=23) (l:=n.ranks) fun x hx=>by
   have h7:=List.all_eq_true.1 c6 x hx
   simp only[Bool.and_eq_true,decide_eq_true_eq]at h7
   have:=Qh (n:=x) (by omega)
   show(Qw x).length+2<=_
   omega
  omega
 have e0:=QX n.sizes
 have e2:=b7j n.ranks
 have e3:=VH ks
 have fin : ∀ s,s=V3 n (ks.map ZX)->Zi (Qf (.mk n ks)) (.str s):=fun s hs=>Zo (x:=(⟨s⟩:Str)) (by rw[hs];rfl)
 have p0:(fun x:List Lin×FnV 29×Unit=>decide (x.1.length<=1048576)&&x.1.all Zp) (n.sizes,{},())=true:=by show(decide (n.sizes.length<=1048576)&&n.sizes.all Zp)=true;rw[c5,decide_eq_true (by omega)];rfl
 have p1:(fun x:Int×Unit=>decide (-9223372036854775808<=x.1)&&decide (x.1<=9223372036854775807)) (n.num,())=true:=by show(decide _&&decide _)=true;rw[decide_eq_true (by omega),decide_eq_true (by omega)];rfl
 have p2:(fun x:List Int×FnV 51×Unit=>decide (x.1.length<=1048576)&&Xw x.1) (n.ranks,{},())=true:=by show(decide (n.ranks.length<=1048576)&&Xw n.ranks)=true;rw[c6,decide_eq_true (by omega)];rfl
 rw[<- ZH]
 show Ze (Ay N) 0 (Za GN (Zi (Qf (.mk n ks)))) _ _ _
 have s0:(Yh (List.map Yz ((n.sizes,({}:FnV 29),()):List Lin×FnV 29×Unit).1)).s=(Yh (n.sizes.map Yz)).s:=rfl
 refine c6o N n ks (Yg (fun hs=> ?_) fun hs=> ?_)
 ·rw[VA]at hs
  refine⟨Zf (n.sizes,{},()) rfl p0,Zd (n.sizes,{},()) rfl ⟨(ZE (by simp only[List.length_append,List.length_cons,List.length_nil];omega)),(ZE (by simp only[List.length_append,List.length_cons,List.length_nil];omega)),(ZE (by simp only[List.length_append,List.length_cons,List.length_nil];omega)),?_⟩⟩
  refine Bj (fun hm=> ?_) fun hm=> ?_
  ·refine⟨Zf (n.num,()) rfl p1,Zd (n.num,()) rfl ⟨(ZE (by simp only[List.length_append,List.length_cons,List.length_nil];omega)),(ZE (by simp only[List.length_append,List.length_cons,List.length_nil];omega)),(ZE (by simp only[List.length_append,List.length_cons,List.length_nil];omega)),?_⟩⟩
   refine Yg (fun hr=> ?_) fun hr=> ?_
   ·rw[VA]at hr
    refine⟨Zf (n.ranks,{},()) rfl p2,Zd (n.ranks,{},()) rfl ⟨(ZE (by simp only[List.length_append,List.length_cons,List.length_nil];omega)),(ZE (by simp only[List.length_append,List.length_cons,List.length_nil];omega)),(ZE (by simp only[List.length_append,List.length_cons,List.length_nil];omega)),?_⟩⟩
    exact⟨(ZE (by simp only[List.length_append,List.length_cons,List.length_nil];omega)),Zf (ks,{},()) rfl hp.pre,Zd (ks,{},()) rfl ⟨(ZE (by simp only[List.length_append,List.length_cons,List.length_nil];omega)),(ZE (by simp only[List.length_append,List.length_cons,List.length_nil];omega)),fin _ (by simp[V3,e0,e2,e3,Qw,List.append_assoc,hs,hm,hr])⟩⟩
   ·rw[VA,Classical.not_not]at hr
    exact⟨(ZE (by simp only[List.length_append,List.length_cons,List.length_nil];omega)),Zf (ks,{},()) rfl hp.pre,Zd (ks,{},()) rfl ⟨(ZE (by simp only[List.length_append,List.length_cons,List.length_nil];omega)),(ZE (by simp only[List.length_append,List.length_cons,List.length_nil];omega)),fin _ (by simp[V3,e0,e2,e3,Qw,List.append_assoc,hs,hm,hr])⟩⟩
  ·refine Yg (fun hr=> ?_) fun hr=> ?_
   ·rw[VA]at hr
    refine⟨Zf (n.ranks,{},()) rfl p2,Zd (n.ranks,{},()) rfl ⟨(ZE (by simp only[List.length_append,List.length_cons,List.length_nil];omega)),(ZE (by simp only[List.length_append,List.length_cons,List.length_nil];omega)),(ZE (by simp only[List.length_append,List.length_cons,List.length_nil];omega)),?_⟩⟩
    exact⟨(ZE (by simp only[List.length_append,List.length_cons,List.length_nil];omega)),Zf (ks,{},()) rfl hp.pre,Zd (ks,{},()) rfl ⟨(ZE (by simp only[List.length_append,List.length_cons,List.length_nil];omega)),(ZE (by simp only[List.length_append,List.length_cons,List.length_nil];omega)),fin _ (by simp[V3,e0,e2,e3,Qw,List.append_assoc,hs,hm,hr])⟩⟩
   ·rw[VA,Classical.not_not]at hr
    exact⟨(ZE (by simp only[List.length_append,List.length_cons,List.length_nil];omega)),Zf (ks,{},()) rfl hp.pre,Zd (ks,{},()) rfl ⟨(ZE (by simp only[List.length_append,List.length_cons,List.length_nil];omega)),(ZE (by simp only[List.length_append,List.length_cons,List.length_nil];omega)),fin _ (by simp[V3,e0,e2,e3,Qw,List.append_assoc,hs,hm,hr])⟩⟩
 ·rw[VA,Classical.not_not]at hs
  refine Bj (fun hm=> ?_) fun hm=> ?_
  ·refine⟨Zf (n.num,()) rfl p1,Zd (n.num,()) rfl ⟨(ZE (by simp only[List.length_append,List.length_cons,List.length_nil];omega)),(ZE (by simp only[List.length_append,List.length_cons,List.length_nil];omega)),(ZE (by simp only[List.length_append,List.length_cons,List.length_nil];omega)),?_⟩⟩
   refine Yg (fun hr=> ?_) fun hr=> ?_
   ·rw[VA]at hr
    refine⟨Zf (n.ranks,{},()) rfl p2,Zd (n.ranks,{},()) rfl ⟨(ZE (by simp only[List.length_append,List.length_cons,List.length_nil];omega)),(ZE (by simp only[List.length_append,List.length_cons,List.length_nil];omega)),(ZE (by simp only[List.length_append,List.length_cons,List.length_nil];omega)),?_⟩⟩
    exact⟨(ZE (by simp only[List.length_append,List.length_cons,List.length_nil];omega)),Zf (ks,{},()) rfl hp.pre,Zd (ks,{},()) rfl ⟨(ZE (by simp only[List.length_append,List.length_cons,List.length_nil];omega)),(ZE (by simp only[List.length_append,List.length_cons,List.length_nil];omega)),fin _ (by simp[V3,e0,e2,e3,Qw,List.append_assoc,hs,hm,hr])⟩⟩
   ·rw[VA,Classical.not_not]at hr
    exact⟨(ZE (by simp only[List.length_append,List.length_cons,List.length_nil];omega)),Zf (ks,{},()) rfl hp.pre,Zd (ks,{},()) rfl ⟨(ZE (by simp only[List.length_append,List.length_cons,List.length_nil];omega)),(ZE (by simp only[List.length_append,List.length_cons,List.length_nil];omega)),fin _ (by simp[V3,e0,e2,e3,Qw,List.append_assoc,hs,hm,hr])⟩⟩
  ·refine Yg (fun hr=> ?_) fun hr=> ?_
   ·rw[VA]at hr
    refine⟨Zf (n.ranks,{},()) rfl p2,Zd (n.ranks,{},()) rfl ⟨(ZE (by simp only[List.length_append,List.length_cons,List.length_nil];omega)),(ZE (by simp only[List.length_append,List.length_cons,List.length_nil];omega)),(ZE (by simp only[List.length_append,List.length_cons,List.length_nil];omega)),?_⟩⟩
    exact⟨(ZE (by simp only[List.length_append,List.length_cons,List.length_nil];omega)),Zf (ks,{},()) rfl hp.pre,Zd (ks,{},()) rfl ⟨(ZE (by simp only[List.length_append,List.length_cons,List.length_nil];omega)),(ZE (by simp only[List.length_append,List.length_cons,List.length_nil];omega)),fin _ (by simp[V3,e0,e2,e3,Qw,List.append_assoc,hs,hm,hr])⟩⟩
   ·rw[VA,Classical.not_not]at hr
    exact⟨(ZE (by simp only[List.length_append,List.length_cons,List.length_nil];omega)),Zf (ks,{},()) rfl hp.pre,Zd (ks,{},()) rfl ⟨(ZE (by simp only[List.length_append,List.length_cons,List.length_nil];omega)),(ZE (by simp only[List.length_append,List.length_cons,List.length_nil];omega)),fin _ (by simp[V3,e0,e2,e3,Qw,List.append_assoc,hs,hm,hr])⟩⟩
theorem b5y{xs:List AV}{t:Tm}(h:Ox xs=some t): ∃ n ks,t = .mk n ks∧xs=Z7 n ks:=by
 unfold Ox at h
 split at h
 ·split at h
  ·rename_i hc
   obtain⟨⟨n,ks⟩,e⟩:=a1l hc
   rw[e,Enc.dec_enc]at h
   cases h
   rw[Yy]at e
   cases e
   exact⟨n,ks,rfl,rfl⟩
  ·cases h
 ·cases h
theorem b7h(N:Nat): ∀ args os,Xq N args os=true->Ze (a0q N) os.length (Xt os.length Lt fun r=>r=LU args os) M8 [] (Uz c5j args os):=by
 intro args os h
 unfold Xq at h
 split at h
 ·rename_i k b xs
  unfold RF at h
  split at h
  ·rename_i t ht
   obtain⟨n,ks,rfl,rfl⟩:=b5y ht
   simp only[Bool.and_eq_true,decide_eq_true_eq]at h
   obtain⟨⟨⟨⟨hw,hv⟩,hd⟩,h0⟩,hk⟩:=h
   obtain⟨i,rfl⟩:=Int.eq_ofNat_of_zero_le h0
   have hwk:Us ks<=1048576:=by have h1:K7 (.mk n ks)<=1048576:=of_decide_eq_true hw;rw[K7]at h1;omega
   have hp:TxP N ks:=⟨hwk,(Qd hv).2,hd⟩
   have hlt:i<ks.length:=by have hk:(i:Int)<(ks.length:Int):=hk;omega
   have hki:=hp.kid (List.getElem_mem hlt)
   have hl:=hp.len (List.getElem_mem hlt)
   have e : ∀ b:Bool,Y9 (Z7 n ks) (i:Int) b=VZ (!b) (ZX ks[i]):=fun b=>by
    rw[Kj,Int.toNat_natCast]
    simp[List.getD,hlt]
   refine d6t N n ks (i:Int) b (XR (fun hb=> ?_) fun hb=> ?_)
   ·refine⟨ZT hlt rfl,Yk hlt ⟨Xx _,Zf (ks[i],()) (Yj _) (W9 hki.1 hki.2.1 hki.2.2),Zd (ks[i],()) (Yj _) ?_⟩⟩
    subst hb
    show _=((AV.pv (.str (Y9 (Z7 n ks) (i:Int) true)),[AObj.box (Z7 n ks)],[]):AV×List AObj×List AObj)
    rw[e]
    rfl
   ·refine⟨ZT hlt rfl,Yk hlt ⟨Xx _,Zf (ks[i],()) (Yj _) (W9 hki.1 hki.2.1 hki.2.2),Zd (ks[i],()) (Yj _) ⟨ZF (show _<=8 by decide) hl (by omega),ZF (ZB (show _<=8 by decide) hl) (show _<=8 by decide) (by omega),?_⟩⟩⟩
    subst hb
    show _=((AV.pv (.str (Y9 (Z7 n ks) (i:Int) false)),[AObj.box (Z7 n ks)],[]):AV×List AObj×List AObj)
    rw[e]
    rfl
  ·cases h
 ·cases h
theorem P5{n:Nd}{xs:List (Int×Bool×List UInt8)}(h:Jh n xs.length=none):Ql n xs=(if n.kind=1 then n.name.s
  else if n.kind=2 then Cz n
  else if n.kind=4 then [115,105,122,101,91]++(match n.sizes with|[]=>[]|l::_=>ZY l)++[93]
  else if n.kind=5 then [108,101,116,32]++n.name.s++[32,61,32]++(match xs with|[a,b]=>a.2.2++[32,105,110,32]++b.2.2|_=>[])
  else if n.kind=6 then V3 n (xs.map (·.2.2))
  else if n.kind=7 then [91]++Ya (xs.map (·.2.2))++[93]
  else if n.kind=8 then [102,111,108,100,40]++Ya (n.name.s::xs.map (·.2.2))++[41]
  else if n.kind=9 then [115,99,97,110,40]++Ya (n.name.s::xs.map (·.2.2))++[41]
  else CG (Ux n)):=by
 unfold Ql
 rw[h]
 rfl
theorem e0f(t:Tm):PV.asInt (List.getD (PV.cells (enc t)) 0 default)=t.nd.kind:=by obtain⟨n,ks⟩:=t;rw[Yy];rfl
theorem d8z(t:Tm):PV.asStr (List.getD (PV.cells (enc t)) (0+1+1) default)=t.nd.name.s:=by obtain⟨n,ks⟩:=t;rw[Yy];rfl
theorem d9b(t:Tm):PV.asInt (List.getD (PV.cells (enc t)) (0+1+1+1) default)=t.nd.num:=by obtain⟨n,ks⟩:=t;rw[Yy];rfl
theorem c2s{n:Nd}{k:Nat}{r:OpR}(h:Jh n k=some r):n.kind=6:=by
 unfold Jh at h
 cases hq:GA n.name.s with
 | none=>simp[hq]at h
 | some q=>
  simp[hq]at h
  exact h.1.1
theorem a5r{n:Nd}{k:Nat}{r:OpR}(h:Jh n k=some r):BP n k=r.l:=by
 unfold BP
 rw[if_neg (by rw[c2s h];decide),h]
theorem Gw(a b:List UInt8):(a==b)=decide (a=b):=by by_cases h:a=b <;> simp[h]
theorem A7{α:Type}{l:List α}(h:l.length=2): ∃ a b,l=[a,b]:=by
 match l,h with
 | [a,b],_=>exact⟨a,b,rfl⟩
theorem a6j{n:Nd}{r:OpR}{x y:Int×Bool×List UInt8}(h:Jh n 2=some r):Ql n [x,y]=VZ (decide (x.1<r.l)||(decide (x.1=3)&&decide (r.l=3))) x.2.2++[32]++r.s++[32]++VZ (decide (y.1<=r.l)) y.2.2:=by
 unfold Ql
 rw[show [x,y].length=2 from rfl,h]
theorem c1m{n:Nd}{r:OpR}{x:Int×Bool×List UInt8}(h:Jh n 1=some r):Ql n [x]=r.s++VZ (decide (x.1<6)||(decide (r.s=[45])&&x.2.1)) x.2.2:=by
 unfold Ql
 rw[show [x].length=1 from rfl,h]
theorem a8o(N:Nat): ∀ x:Tm×Unit,((tW x.1&&ZU x.1)&&decide (ZM x.1<N+1))=true->Ze (Ab N) 0 (Za GV (Zi (Zq x.1))) TB [] (Z0 c3n (encL x)):=by
 rintro⟨⟨n,ks⟩,⟨⟩⟩ h
 simp only[Bool.and_eq_true,decide_eq_true_eq]at h
 obtain⟨⟨hw,hva⟩,hd⟩:=h
 have hw:tW (.mk n ks)=true:=hw
 have hva:ZU (.mk n ks)=true:=hva
 have hd:ZM (.mk n ks)<N+1:=hd
 rw[ZM]at hd
 have hv:=Qd hva
 have hwk:Us ks<=1048576:=by have h1:K7 (.mk n ks)<=1048576:=of_decide_eq_true hw;rw[K7]at h1;omega
 have hp:TxP N ks:=⟨hwk,hv.2,by omega⟩
 have hln:=(EQ hw).name
 have hkb:YI n ks.length=true:=by
  have:=hv.1
  unfold Wx at this
  simp only[Bool.and_eq_true]at this
  exact this.2
 have fin : ∀ s,s=Ql n (YC ks)->Zi (Zq (.mk n ks)) (.str s):=fun s hs=>Zo (x:=(⟨s⟩:Str)) (by rw[hs,Zq,ZX])
 rw[<- ZH]
 show Ze (Ab N) 0 (Za GV (Zi (Zq (.mk n ks)))) _ _ _
 refine d0z N n ks ⟨Zf (.mk n ks,()) (ZH n ks) hw,Zd (.mk n ks,()) (ZH n ks) ⟨Zf (.mk n ks,()) (ZH n ks) hw,Zd (.mk n ks,()) (ZH n ks) ?_⟩⟩
 generalize Zi (Zq (.mk n ks))=G at fin ⊢
 have eo0:Q7 (.mk n ks)=MM n ks.length:=rfl
 have el0:YV (.mk n ks)=BP n ks.length:=rfl
 rw[show Q7 ((Tm.mk n ks,()):Tm×Unit).1=MM n ks.length from rfl,show YV ((Tm.mk n ks,()):Tm×Unit).1=BP n ks.length from rfl]
 cases ho:Jh n ks.length with
 | some r=>
  obtain⟨hm,hk⟩:=LW ho
  have hr:=(Bu ho).2
  have eo:MM n ks.length=((⟨r.s⟩,if r.u then 1 else 2):Str×Int):=by unfold MM;rw[ho]
  rw[eo,a5r ho]
  cases hu:r.u with
  | false=>
   rw[hu]at hk
   match ks,hk with
   | [a,b],_=>
    have ma:a∈[a,b]:=by simp
    have mb:b∈[a,b]:=by simp
    have ha:=hp.kid ma
    have hb:=hp.kid mb
    have la:=hp.len ma
    have lb:=hp.len mb
    have hV0 : ∀ f,(Y9 (Z7 n [a,b]) 0 f).length<=1153433594:=fun f=>by
     rw[Kj];have:=UH (!f) (ZX a);show(VZ (!f) (ZX a)).length<=_;omega
    have hV1 : ∀ f,(Y9 (Z7 n [a,b]) 1 f).length<=1153433594:=fun f=>by
     rw[Kj];have:=UH (!f) (ZX b);show(VZ (!f) (ZX b)).length<=_;omega
    have P0:RF N (Z7 n [a,b]) 0=true:=TL hw hva hp.d (by omega) (by simp)
    have P1:RF N (Z7 n [a,b]) 1=true:=TL hw hva hp.d (by omega) (by simp)
    have enod : ∀ f g:Bool,(!f)=(decide (YV a<r.l)||(decide (YV a=3)&&decide (r.l=3)))->g=decide (YV b>r.l)->Y9 (Z7 n [a,b]) 0 f++[32]++r.s++[32]++Y9 (Z7 n [a,b]) 1 g=Ql n (YC [a,b]):=fun f g hf hg=>by
     rw[Kj,Kj]
     simp only[YC]
     rw[a6j ho,hf,hg]
     show VZ _ (ZX a)++[32]++r.s++[32]++VZ (!decide (YV b>r.l)) (ZX b)=VZ _ (ZX a)++[32]++r.s++[32]++VZ (decide (YV b<=r.l)) (ZX b)
     rw[show(!decide (YV b>r.l))=decide (YV b<=r.l)from by rw[<- decide_not];exact decide_eq_decide.2 (by omega)]
    refine Yv rfl ⟨rfl,a,rfl,Xx a,Zf (a,()) (Yj a) ha.1,Zd (a,()) (Yj a) ⟨rfl,b,rfl,Xx b,Zf (b,()) (Yj b) hb.1,Zd (b,()) (Yj b) (Yg (fun h1=>Bj (fun h2=> ?_) fun h2=> ?_) fun h1=> ?_)⟩⟩
    ·refine⟨P0,ZF (hV0 _) (show _<=8 by decide) (by omega),ZF (ZB (hV0 _) (show _<=8 by decide)) hr (by omega),ZF (ZB (ZB (hV0 _) (show _<=8 by decide)) hr) (show _<=8 by decide) (by omega),P1,ZF (ZB (ZB (ZB (hV0 _) (show _<=8 by decide)) hr) (show _<=8 by decide)) (hV1 _) (by omega),fin _ (enod _ _ ?_ rfl)⟩
     have h1:YV a ≥ r.l:=h1
     have h2:YV a≠3:=h2
     simp[h2];omega
    ·refine⟨P0,ZF (hV0 _) (show _<=8 by decide) (by omega),ZF (ZB (hV0 _) (show _<=8 by decide)) hr (by omega),ZF (ZB (ZB (hV0 _) (show _<=8 by decide)) hr) (show _<=8 by decide) (by omega),P1,ZF (ZB (ZB (ZB (hV0 _) (show _<=8 by decide)) hr) (show _<=8 by decide)) (hV1 _) (by omega),fin _ (enod _ _ ?_ rfl)⟩
     have h1:YV a ≥ r.l:=h1
     have h2:YV a=3:=h2
     rw[h2,decide_eq_false (show ¬ (3:Int)<r.l by omega)]
     by_cases h3:r.l=3
     ·rw[h3];rfl
     ·simp[h3]
    ·refine⟨P0,ZF (hV0 _) (show _<=8 by decide) (by omega),ZF (ZB (hV0 _) (show _<=8 by decide)) hr (by omega),ZF (ZB (ZB (hV0 _) (show _<=8 by decide)) hr) (show _<=8 by decide) (by omega),P1,ZF (ZB (ZB (ZB (hV0 _) (show _<=8 by decide)) hr) (show _<=8 by decide)) (hV1 _) (by omega),fin _ (enod _ _ ?_ rfl)⟩
     have h1 : ¬ YV a ≥ r.l:=h1
     rw[decide_eq_true (show YV a<r.l by omega)];rfl
  | true=>
   rw[hu]at hk
   match ks,hk with
   | [a],_=>
    have ma:a∈[a]:=by simp
    have ha:=hp.kid ma
    have la:=hp.len ma
    have hV0 : ∀ f,(Y9 (Z7 n [a]) 0 f).length<=1153433594:=fun f=>by
     rw[Kj];have:=UH (!f) (ZX a);show(VZ (!f) (ZX a)).length<=_;omega
    have P0:RF N (Z7 n [a]) 0=true:=TL hw hva hp.d (by omega) (by simp)
    have enod : ∀ f:Bool,(!f)=(decide (YV a<6)||(decide (r.s=[45])&&CP a))->r.s++Y9 (Z7 n [a]) 0 f=Ql n (YC [a]):=fun f hf=>by
     rw[Kj]
     simp only[YC]
     rw[c1m ho,hf]
     rfl
    have e6:YV a ≥ 6->decide (YV a<6)=false:=fun h=>decide_eq_false (by omega)
    have e6' : ¬ YV a ≥ 6->decide (YV a<6)=true:=fun h=>decide_eq_true (by omega)
    refine YA (by simp) (Yv rfl ⟨rfl,a,rfl,Xx a,?_⟩)
    rw[e0f,d8z,d9b]
    have nn : ¬ (a.nd.kind=2∧a.nd.name.s=Wo∧a.nd.num ≥ 0)->CP a=false:=fun h=>by
     unfold CP
     rw[Bool.and_eq_false_iff,Bool.and_eq_false_iff,decide_eq_false_iff_not,decide_eq_false_iff_not,decide_eq_false_iff_not]
     by_cases q1:a.nd.kind=2
     ·by_cases q2:a.nd.name.s=Wo
      ·exact .inr fun q3=>h ⟨q1,q2,q3⟩
      ·exact .inl (.inr q2)
     ·exact .inl (.inl q1)
    refine ZL (fun h2=>ZL (fun h3=>Yg (fun h4=> ?_) fun h4=> ?_) fun h3=> ?_) fun h2=> ?_
    ·have en:CP a=true:=by unfold CP;rw[decide_eq_true h2,decide_eq_true (show a.nd.name.s=Wo from h3),decide_eq_true h4];rfl
     refine⟨Zf (a,()) (Yj a) ha.1,Zd (a,()) (Yj a) (Yg (fun h6=>⟨P0,ZF hr (hV0 _) (by omega),fin _ (enod _ ?_)⟩) fun h6=>⟨P0,ZF hr (hV0 _) (by omega),fin _ (enod _ ?_)⟩)⟩
     ·rw[e6 h6,en];simp[Gw]
     ·rw[e6' h6];rfl
    ·have en:=nn fun x=>h4 x.2.2
     refine⟨Zf (a,()) (Yj a) ha.1,Zd (a,()) (Yj a) (Yg (fun h6=>⟨P0,ZF hr (hV0 _) (by omega),fin _ (enod _ ?_)⟩) fun h6=>⟨P0,ZF hr (hV0 _) (by omega),fin _ (enod _ ?_)⟩)⟩
     ·rw[e6 h6,en];simp
     ·rw[e6' h6];rfl
    ·have en:=nn fun x=>h3 x.2.1
     refine⟨Zf (a,()) (Yj a) ha.1,Zd (a,()) (Yj a) (Yg (fun h6=>⟨P0,ZF hr (hV0 _) (by omega),fin _ (enod _ ?_)⟩) fun h6=>⟨P0,ZF hr (hV0 _) (by omega),fin _ (enod _ ?_)⟩)⟩
     ·rw[e6 h6,en];simp
     ·rw[e6' h6];rfl
    ·have en:=nn fun x=>h2 x.1
     refine⟨Zf (a,()) (Yj a) ha.1,Zd (a,()) (Yj a) (Yg (fun h6=>⟨P0,ZF hr (hV0 _) (by omega),fin _ (enod _ ?_)⟩) fun h6=>⟨P0,ZF hr (hV0 _) (by omega),fin _ (enod _ ?_)⟩)⟩
     ·rw[e6 h6,en];simp
     ·rw[e6' h6];rfl
 | none=>
  have eo:MM n ks.length=((⟨[]⟩,0):Str×Int):=by unfold MM;rw[ho]
  have hn:Ql n (YC ks)=_:=P5 (by rw[WE,List.length_map];exact ho)
  have et:(YC ks).map (·.2.2)=ks.map ZX:=by rw[WE,List.map_map];rfl
  rw[et]at hn
  rw[hn]at fin
  rw[eo]
  refine YA (by simp) (YA (by simp) (ZL (fun h=> ?_) fun h5=>ZL (fun h=> ?_) fun h2=>ZL (fun h=> ?_) fun h1=>ZL (fun h=> ?_) fun h6=>ZL (fun h=> ?_) fun h7=>ZL (fun h=> ?_) fun h8=>ZL (fun h=> ?_) fun h9=>ZL (fun h=> ?_) fun h4=> ?_))
  ·-- let
   have q:ZN n.name.s=true∧ks.length=2:=by
    have:=hkb
    unfold YI at this
    simp[h]at this
    exact⟨this.1.1.1.2,this.1.2⟩
   obtain⟨a,b,rfl⟩:=A7 q.2
   ·skip
    have ha:=hp.kid (show a∈[a,b] by simp)
    have hb:=hp.kid (show b∈[a,b] by simp)
    have la:(Zq a).s.length<=_:=hp.len (show a∈[a,b] by simp)
    have lb:(Zq b).s.length<=_:=hp.len (show b∈[a,b] by simp)
    refine⟨ZF (show _<=8 by decide) hln (by omega),ZF (ZB (show _<=8 by decide) hln) (show _<=8 by decide) (by omega),rfl,a,rfl,Xx a,Zf (a,()) (Yj a) (W9 ha.1 ha.2.1 ha.2.2),Zd (a,()) (Yj a) ⟨ZF (ZB (ZB (show _<=8 by decide) hln) (show _<=8 by decide)) la (by omega),ZF (ZB (ZB (ZB (show _<=8 by decide) hln) (show _<=8 by decide)) la) (show _<=8 by decide) (by omega),rfl,b,rfl,Xx b,Zf (b,()) (Yj b) (W9 hb.1 hb.2.1 hb.2.2),Zd (b,()) (Yj b) ⟨ZF (ZB (ZB (ZB (ZB (show _<=8 by decide) hln) (show _<=8 by decide)) la) (show _<=8 by decide)) lb (by omega),fin _ ?_⟩⟩⟩
    simp[h,YC,Zq]
  ·-- literals
   have q:Uv n=true:=by
    have:=hkb
    unfold YI at this
    simp[h]at this
    exact this.1.1.2
   exact⟨Zf (.mk n ks,()) (ZH n ks) q,Zd (.mk n ks,()) (ZH n ks) (fin _ (by simp[h,Ea,Tm.nd]))⟩
  ·exact fin _ (by simp[h])
  ·refine⟨Zf (.mk n ks,()) (ZH n ks) ?_,Zd (.mk n ks,()) (ZH n ks) (fin _ (by simp[h,Qf,Tm.nd,Tm.ks]))⟩
   show(tW (.mk n ks)&&ZU (.mk n ks)&&decide (n.kind=6)&&decide (ZW ks<N))=true
   rw[hw,hva,decide_eq_true h,decide_eq_true hp.d];rfl
  ·have hc:=hp.com
   have e3:=VH ks
   rw[<- e3]at hc
   refine⟨Zf (ks,{},()) rfl hp.pre,Zd (ks,{},()) rfl ⟨ZF (show _<=8 by decide) hc (by omega),ZF (ZB (show _<=8 by decide) hc) (show _<=8 by decide) (by omega),fin _ ?_⟩⟩
   simp[h,e3]
  ·-- fold
   have q:JV n.name.s=true∧ks.length=2:=by
    have:=hkb
    unfold YI at this
    simp[h]at this
    exact⟨this.1.1.1.2,this.1.2⟩
   obtain⟨a,b,rfl⟩:=A7 q.2
   ·skip
    have ha:=hp.kid (show a∈[a,b] by simp)
    have hb:=hp.kid (show b∈[a,b] by simp)
    have la:=hp.len (show a∈[a,b] by simp)
    have lb:=hp.len (show b∈[a,b] by simp)
    have hcl:(Yh [n.name,Zq a,Zq b]).s.length<=1099511620000:=Nat.le_trans (Xc _) (by simp[Zq];omega)
    have hj:XQ [n.name,Zq a,Zq b]=true:=by
     show(decide (3<=1048576)&&decide ((Yh [n.name,Zq a,Zq b]).s.length<=1099511627776))=true
     rw[decide_eq_true (show(Yh [n.name,Zq a,Zq b]).s.length<=1099511627776 by omega)];rfl
    refine⟨rfl,a,rfl,Xx a,Zf (a,()) (Yj a) (W9 ha.1 ha.2.1 ha.2.2),Zd (a,()) (Yj a) ⟨rfl,b,rfl,Xx b,Zf (b,()) (Yj b) (W9 hb.1 hb.2.1 hb.2.2),Zd (b,()) (Yj b) ⟨Zf ([n.name,Zq a,Zq b],()) rfl hj,Zd ([n.name,Zq a,Zq b],()) rfl ⟨ZF (show _<=8 by decide) hcl (by omega),ZF (ZB (show _<=8 by decide) hcl) (show _<=8 by decide) (by omega),fin _ ?_⟩⟩⟩⟩
    simp[h,Yh,Zq]
  ·-- scan
   have q:JV n.name.s=true∧ks.length=1:=by
    have:=hkb
    unfold YI at this
    simp[h]at this
    exact⟨this.1.1.1.2,this.1.2⟩
   obtain⟨a,rfl⟩:=List.length_eq_one_iff.1 q.2
   ·skip
    have ha:=hp.kid (show a∈[a] by simp)
    have la:=hp.len (show a∈[a] by simp)
    have hcl:(Yh [n.name,Zq a]).s.length<=1099511620000:=Nat.le_trans (Xc _) (by simp[Zq];omega)
    have hj:XQ [n.name,Zq a]=true:=by
     show(decide (2<=1048576)&&decide ((Yh [n.name,Zq a]).s.length<=1099511627776))=true
     rw[decide_eq_true (show(Yh [n.name,Zq a]).s.length<=1099511627776 by omega)];rfl
    refine⟨rfl,a,rfl,Xx a,Zf (a,()) (Yj a) (W9 ha.1 ha.2.1 ha.2.2),Zd (a,()) (Yj a) ⟨Zf ([n.name,Zq a],()) rfl hj,Zd ([n.name,Zq a],()) rfl ⟨ZF (show _<=8 by decide) hcl (by omega),ZF (ZB (show _<=8 by decide) hcl) (show _<=8 by decide) (by omega),fin _ ?_⟩⟩⟩
    simp[h,Yh,Zq]
  ·-- sizes
   have q:n.sizes.length=1∧n.sizes.all Zp=true:=by
    have:=hkb
    unfold YI at this
    simp[h]at this
    exact⟨this.1.1.2,by rw[List.all_eq_true];exact this.1.2⟩
   obtain⟨l,hs⟩:=List.length_eq_one_iff.1 q.1
   have hvl:Zp l=true:=by
    have:=q.2
    rw[hs,List.all_eq_true]at this
    exact this l (by simp)
   have hpl:=Vr l
   refine⟨by rw[hs];rfl,l,by rw[hs];rfl,Zf (l,()) rfl (JA hvl),Zd (l,()) rfl ⟨ZF (show _<=8 by decide) (show _<=1000 from hpl) (by omega),ZF (ZB (show _<=8 by decide) (show _<=1000 from hpl)) (show _<=8 by decide) (by omega),fin _ ?_⟩⟩
   simp[h,hs]
  ·have q:X8 (Ux n)=true:=by
    have:=hkb
    unfold YI at this
    simp[h1,h2,h4,h5,h6,h7,h8,h9]at this
    exact this.2.2
   refine⟨Zf (Ux n,()) rfl ?_,Zd (Ux n,()) rfl (fin _ ?_)⟩
   ·show(WQ (Ux n)&&X8 (Ux n))=true
    rw[MH hw,q];rfl
   ·simp[h1,h2,h4,h5,h6,h7,h8,h9,Q9]
theorem Al{N:Nat}{n:Nd}{ks:List Tm}(h:tW (.mk n ks)=true)(hd:ZW ks<N){k:Tm}(hk:k∈ks):(fun x:Tm×Unit=>tW x.1&&decide (ZM x.1<N)) (k,())=true:=by
 show(tW k&&decide (ZM k<N))=true
 rw[(Ju h).2 k hk,decide_eq_true (Nat.lt_of_le_of_lt (R9 hk) hd)];rfl
theorem SI{a b:Nat}(h:a+b<=4611686018427387904):IntKind.i64.wrap ((a:Int)+(b:Int))=((a+b:Nat):Int):=by rw[IntKind.wrap_i64];omega
theorem b0e(N:Nat)(n:Nd)(ks:List Tm)(hw:tW (.mk n ks)=true)(hd:ZW ks<N): ∀ (d i:Nat),d+i=ks.length ->
  At (H9 N) 0 (Za KO (Zi ((ZM (.mk n ks):Nat):Int))) Ky 0 22 [(1,.ptr 0 0),(3,.pv (.int .i64 (ZW (ks.take i):Nat))),(4,.pv (.int .i64 i))] [.obj (.box (Z7 n ks))]:=by
 intro d
 induction d with
 | zero=>
  intro i hi
  rw[List.take_of_length_le (by omega)]
  refine a5w N n ks _ i (YA (by rw[List.length_map];exact YR (by omega)) (QM ?_))
  have:=Fw (.mk n ks)
  have:=Du hw
  rw[ZM]at *
  exact next (by omega)
 | succ d ih=>
  intro i hi
  have hlt:i<ks.length:=by omega
  refine a5w N n ks _ i (Yv (by rw[List.length_map];exact YO hlt) ⟨ZT hlt rfl,Yk hlt ⟨Xx _,Zf (ks[i],()) (Yj _) (Al hw hd (List.getElem_mem hlt)),Zd (ks[i],()) (Yj _) ?_⟩⟩)
  rw[next (by have:=(Ju hw).1;omega)]
  have h:=ih (i+1) (by omega)
  rw[UZ hlt,b2c]at h
  have e:(if true=true then if ((ZM ks[i]:Nat):Int)>((ZW (ks.take i):Nat):Int)then((ZM ks[i]:Nat):Int)else((ZW (ks.take i):Nat):Int)else if ((ZM ks[i]:Nat):Int)<((ZW (ks.take i):Nat):Int)then((ZM ks[i]:Nat):Int)else((ZW (ks.take i):Nat):Int))=((max (ZW (ks.take i)) (ZM ks[i]):Nat):Int):=by
   rw[if_pos rfl]
   split <;> omega
  have h2:_:=h
  rw[<- e]at h2
  exact h2
theorem b6b(N:Nat): ∀ x:Tm×Unit,(tW x.1&&decide (ZM x.1<N+1))=true->Ze (H9 N) 0 (Za KO (Zi ((ZM x.1:Nat):Int))) Ky [] (Z0 d0u (encL x)):=by
 rintro⟨⟨n,ks⟩,⟨⟩⟩ h
 simp only[Bool.and_eq_true,decide_eq_true_eq]at h
 have hd:ZM (.mk n ks)<N+1:=h.2
 rw[ZM]at hd
 rw[<- ZH]
 exact d4b N n ks (b0e N n ks h.1 (by omega) ks.length 0 (by omega))
theorem ES(N:Nat)(n:Nd)(ks:List Tm)(hw:tW (.mk n ks)=true)(hd:ZW ks<N): ∀ (d i:Nat),d+i=ks.length ->
  At (KN N) 0 (Za Qe (Zi ((Yl (.mk n ks):Nat):Int))) Qi 0 21 [(1,.ptr 0 0),(3,.pv (.int .i64 (Z9 (ks.take i)+1:Nat))),(4,.pv (.int .i64 i))] [.obj (.box (Z7 n ks))]:=by
 intro d
 induction d with
 | zero=>
  intro i hi
  rw[List.take_of_length_le (by omega)]
  exact EG N n ks _ i (YA (by rw[List.length_map];exact YR (by omega)) (QM (by rw[Yl])))
 | succ d ih=>
  intro i hi
  have hlt:i<ks.length:=by omega
  refine EG N n ks _ i (Yv (by rw[List.length_map];exact YO hlt) ⟨ZT hlt rfl,Yk hlt ⟨Xx _,Zf (ks[i],()) (Yj _) (Al hw hd (List.getElem_mem hlt)),Zd (ks[i],()) (Yj _) ?_⟩⟩)
  have hs:=Du hw
  rw[Yl]at hs
  have ht:=Bt ks (i+1)
  have h:=ih (i+1) (by omega)
  rw[UZ hlt,KM]at h ht
  rw[next (by have:=(Ju hw).1;omega)]
  have e:IntKind.wrap IntKind.i64 (((Z9 (ks.take i)+1:Nat):Int)+((Yl ks[i]:Nat):Int))=((Z9 (ks.take i)+Yl ks[i]+1:Nat):Int):=by rw[SI (by omega)];congr 1;omega
  have h2:_:=h
  rw[<- e]at h2
  exact h2
theorem b0b(N:Nat): ∀ x:Tm×Unit,(tW x.1&&decide (ZM x.1<N+1))=true->Ze (KN N) 0 (Za Qe (Zi ((Yl x.1:Nat):Int))) Qi [] (Z0 b6v (encL x)):=by
 rintro⟨⟨n,ks⟩,⟨⟩⟩ h
 simp only[Bool.and_eq_true,decide_eq_true_eq]at h
 have hd:ZM (.mk n ks)<N+1:=h.2
 rw[ZM]at hd
 rw[<- ZH]
 exact d1n N n ks (ES N n ks h.1 (by omega) ks.length 0 (by omega))
def Qj(n:Nd)(ks:List Tm)(i:Nat):List Tm:=.mk n ks::(ks.take i).flatMap Y6
theorem b3w(n:Nd)(ks:List Tm)(i:Nat):(Qj n ks i).length=Z9 (ks.take i)+1:=by unfold Qj;rw[List.length_cons,M3]
theorem a9y(N:Nat)(n:Nd)(ks:List Tm)(hw:tW (.mk n ks)=true)(hd:ZW ks<N): ∀ (d i:Nat),d+i=ks.length ->
  At (Hf N) 0 (Za Ke (Zi (Y6 (.mk n ks)))) Q4 0 23 [(1,.ptr 0 0),(3,.row 1 (Qj n ks i).length 0 (Qj n ks i).length),(4,.pv (.int .i64 i))] [.obj (.box (Z7 n ks)),.obj (.row false 28 10 ((Qj n ks i).map enc))]:=by
 intro d
 induction d with
 | zero=>
  intro i hi
  refine a6p N n ks _ i (Qj n ks i) (YA (by rw[List.length_map];exact YR (by omega)) ⟨by simp,?_⟩)
  rw[List.drop_zero,List.take_of_length_le (by simp)]
  refine Zo (x:=Qj n ks i) ?_
  unfold Qj
  rw[List.take_of_length_le (by omega),c9g]
 | succ d ih=>
  intro i hi
  have hlt:i<ks.length:=by omega
  have hs:=Du hw
  rw[Yl]at hs
  have ht:=Bt ks (i+1)
  rw[UZ hlt,KM]at ht
  have hl:(List.map (enc:Tm->PV) (Y6 ks[i])).length=Yl ks[i]:=by rw[List.length_map,DF]
  have hk:=b3w n ks i
  refine a6p N n ks _ i (Qj n ks i) (Yv (by rw[List.length_map];exact YO hlt) ⟨ZT hlt rfl,Yk hlt ⟨Xx _,Zf (ks[i],()) (Yj _) (Al hw hd (List.getElem_mem hlt)),Zd (ks[i],()) (Yj _) ⟨?_,?_,?_⟩⟩⟩)
  ·show((List.map (enc:Tm->PV) (Y6 ks[i])).isEmpty||Enc.sz Tm==10)=true
   rw[show(Enc.sz Tm==10)=true from rfl,Bool.or_true]
  ·show(List.length (List.map (enc:Tm->PV) (Qj n ks i))==(Qj n ks i).length&&(Qj n ks i).length==(Qj n ks i).length&&decide (((Qj n ks i).length+(List.map (enc:Tm->PV) (Y6 ks[i])).length)*176<=1099511627776)&&decide ((Qj n ks i).length+(List.map (enc:Tm->PV) (Y6 ks[i])).length<=1099511627776))=true
   rw[List.length_map,hl,decide_eq_true (by omega),decide_eq_true (by omega)];simp
  ·rw[next (by have:=(Ju hw).1;omega)]
   have h:=ih (i+1) (by omega)
   have e:Qj n ks (i+1)=Qj n ks i++Y6 ks[i]:=by unfold Qj;rw[UZ hlt,List.flatMap_append,List.flatMap_cons,List.flatMap_nil,List.append_nil];rfl
   rw[e,List.map_append,List.length_append,<- show(List.map (enc:Tm->PV) (Y6 ks[i])).length=(Y6 ks[i]).length from List.length_map _]at h
   exact h
theorem c1q(N:Nat): ∀ x:Tm×Unit,(tW x.1&&decide (ZM x.1<N+1))=true->Ze (Hf N) 0 (Za Ke (Zi (Y6 x.1))) Q4 [] (Z0 c8q (encL x)):=by
 rintro⟨⟨n,ks⟩,⟨⟩⟩ h
 simp only[Bool.and_eq_true,decide_eq_true_eq]at h
 have hd:ZM (.mk n ks)<N+1:=h.2
 rw[ZM]at hd
 rw[<- ZH]
 refine d3e N n ks ?_
 have:=a9y N n ks h.1 (by omega) ks.length 0 (by omega)
 rw[show Qj n ks 0=[.mk n ks]from rfl]at this
 rw[ZH]
 exact this
theorem zs2(t:Tm):(decide (0+List.length [Sh.str]<=List.length (List.drop 2 (PV.cells (enc t))))&&Yx (List.drop 2 (PV.cells (enc t))) 0 [Sh.str])=true:=by obtain⟨n,ks⟩:=t;rw[Yy];rfl
theorem zv2(t:Tm):PV.asStr (List.getD (List.drop 2 (PV.cells (enc t))) 0 default)=t.nd.name.s:=by obtain⟨n,ks⟩:=t;rw[Yy];rfl
theorem e1o(t:Tm):(decide (0+List.length [Sh.sl 1]<=List.length (List.drop 2 (List.drop 4 (PV.cells (enc t)))))&&Yx (List.drop 2 (List.drop 4 (PV.cells (enc t)))) 0 [Sh.sl 1])=true:=by obtain⟨n,ks⟩:=t;rw[Yy];rfl
theorem e1y(t:Tm):PV.asXs (List.getD (List.drop 2 (List.drop 4 (PV.cells (enc t)))) 0 default)=t.nd.data.map enc:=by obtain⟨n,ks⟩:=t;rw[Yy];rfl
theorem e2j(t:Tm):(decide (0+List.length [Sh.sl 1]<=List.length (List.drop 1 (List.drop 4 (PV.cells (enc t)))))&&Yx (List.drop 1 (List.drop 4 (PV.cells (enc t)))) 0 [Sh.sl 1])=true:=by obtain⟨n,ks⟩:=t;rw[Yy];rfl
theorem e2d(t:Tm):PV.asXs (List.getD (List.drop 1 (List.drop 4 (PV.cells (enc t)))) 0 default)=t.nd.dims.map enc:=by obtain⟨n,ks⟩:=t;rw[Yy];rfl
theorem zs7(t:Tm):(decide (0+List.length [Sh.sl 2]<=List.length (List.drop 7 (PV.cells (enc t))))&&Yx (List.drop 7 (PV.cells (enc t))) 0 [Sh.sl 2])=true:=by obtain⟨n,ks⟩:=t;rw[Yy];rfl
theorem zv7(t:Tm):PV.asXs (List.getD (List.drop 7 (PV.cells (enc t))) 0 default)=t.nd.sizes.map enc:=by obtain⟨n,ks⟩:=t;rw[Yy];rfl
theorem zs8(t:Tm):(decide (0+List.length [Sh.sl 1]<=List.length (List.drop 8 (PV.cells (enc t))))&&Yx (List.drop 8 (PV.cells (enc t))) 0 [Sh.sl 1])=true:=by obtain⟨n,ks⟩:=t;rw[Yy];rfl
theorem zv8(t:Tm):PV.asXs (List.getD (List.drop 8 (PV.cells (enc t))) 0 default)=t.nd.ranks.map enc:=by obtain⟨n,ks⟩:=t;rw[Yy];rfl
theorem a4r(l:Lin):(decide (0+List.length [Sh.sl 2]<=List.length (List.drop 1 (PV.cells (enc l))))&&Yx (List.drop 1 (PV.cells (enc l))) 0 [Sh.sl 2])=true:=rfl
theorem a5d(l:Lin):PV.asXs (List.getD (List.drop 1 (PV.cells (enc l))) 0 default)=l.t.map enc:=rfl
theorem c7n(n:Nd)(ks:List Tm)(m:Int)(o:List Tm)(G:PV->Prop){i:Nat}(hlt:i<o.length)(hs:o[i].nd.sizes.length<=1048576)(hf:(o[i].nd.sizes.all fun l=>decide (l.t.length<=6))=false->G (.bool false))
  (hk:(o[i].nd.sizes.all fun l=>decide (l.t.length<=6))=true->At V9 0 (Za WL G) Vg 0 91 [(5,.pv (enc o)),(6,.pv (.int .i64 (IntKind.i64.wrap ((i:Int)+1))))] []) : ∀ (d j:Nat),d+j=o[i].nd.sizes.length->(∀ q (hq:q<o[i].nd.sizes.length),q<j->(o[i].nd.sizes[q]).t.length<=6) ->
  At V9 0 (Za WL G) Vg 1 91 [(5,.pv (enc o)),(6,.pv (.int .i64 i)),(7,.pv (.int .i64 j))] []:=by
 intro d
 induction d with
 | zero=>
  intro j hj hq
  refine a6w n ks m i j o ⟨ZT hlt rfl,Yk hlt ⟨zs7 _,?_⟩⟩
  rw[zv7,List.length_map]
  refine YA (YR (by omega)) (hk ?_)
  rw[List.all_eq_true]
  intro l hl
  obtain⟨q,hq2,rfl⟩:=List.getElem_of_mem hl
  exact decide_eq_true (hq q hq2 (by omega))
 | succ d ih=>
  intro j hj hq
  have hjl:j<o[i].nd.sizes.length:=by omega
  have eg:List.getD (o[i].nd.sizes.map (enc:Lin->PV)) (Int.toNat (j:Int)) default=enc o[i].nd.sizes[j]:=by rw[Int.toNat_natCast];simp[List.getD,hjl]
  refine a6w n ks m i j o ⟨ZT hlt rfl,Yk hlt ⟨zs7 _,?_⟩⟩
  rw[zv7]
  refine Yv (by rw[List.length_map];exact YO hjl) ⟨ZT hlt rfl,Yk hlt ⟨zs7 _,?_⟩⟩
  rw[zv7,eg,a5d]
  refine⟨by rw[List.length_map];simp;omega,a4r _,Yg (fun h=> ?_) fun h=> ?_⟩
  ·refine hf ?_
   rw[List.length_map]at h
   rw[List.all_eq_false]
   exact⟨_,List.getElem_mem hjl,by simp;omega⟩
  ·rw[List.length_map]at h
   rw[next (by omega)]
   refine ih (j+1) (by omega) fun q hq2 hqj=> ?_
   by_cases e:q=j
   ·subst e;omega
   ·exact hq q hq2 (by omega)
theorem a6s{t x:Tm}(h:tW t=true)(hx:x∈Y6 t):tW x=true:=by
 unfold Y6 at hx
 obtain⟨p,hp,rfl⟩:=List.mem_map.1 hx
 exact Dz h hp
theorem Jt{t:Tm}(h : ¬ (t.nd.name.s.length<=40∧t.nd.data.length<=30∧t.nd.dims.length<=8∧t.nd.sizes.length<=6∧t.nd.ranks.length<=10)):Ru t=false:=by
 rw[Bool.eq_false_iff]
 intro k
 unfold Ru at k
 simp only[Bool.and_eq_true,decide_eq_true_eq]at k
 exact h ⟨k.1.1.1.1.1,k.1.1.1.1.2,k.1.1.1.2,k.1.1.2,k.1.2⟩
theorem c1e{t:Tm}(h1:t.nd.name.s.length<=40)(h2:t.nd.data.length<=30)(h3:t.nd.dims.length<=8)(h4:t.nd.sizes.length<=6)(h5:t.nd.ranks.length<=10):Ru t=t.nd.sizes.all fun l=>decide (l.t.length<=6):=by
 unfold Ru
 rw[decide_eq_true h1,decide_eq_true h2,decide_eq_true h3,decide_eq_true h4,decide_eq_true h5];simp
theorem b3c(n:Nd)(ks:List Tm)(m:Int)(o:List Tm)(hw : ∀ x∈o,tW x=true)(hl:o.length<=1048576)(G:PV->Prop)(hG:G (.bool (o.all Ru))): ∀ (d i:Nat),d+i=o.length->(∀ q (hq:q<o.length),q<i->Ru o[q]=true) ->
  At V9 0 (Za WL G) Vg 0 91 [(5,.pv (enc o)),(6,.pv (.int .i64 i))] []:=by
 intro d
 induction d with
 | zero=>
  intro i hi hq
  have e:o.all Ru=true:=by
   rw[List.all_eq_true]
   intro x hx
   obtain⟨q,hq2,rfl⟩:=List.getElem_of_mem hx
   exact hq q hq2 (by omega)
  rw[e]at hG
  exact a8f n ks m i o (YA (by rw[List.length_map];exact YR (by omega)) hG)
 | succ d ih=>
  intro i hi hq
  have hlt:i<o.length:=by omega
  have hno:Ru o[i]=false->G (.bool false):=fun h=>by
   have e:o.all Ru=false:=by rw[List.all_eq_false];exact⟨_,List.getElem_mem hlt,by rw[h];simp⟩
   rw[e]at hG
   exact hG
  refine a8f n ks m i o (Yv (by rw[List.length_map];exact YO hlt) ⟨ZT hlt rfl,Yk hlt ⟨zs2 _,?_⟩⟩)
  rw[zv2]
  refine Yg (fun h=>hno (Jt fun k=>by omega)) fun h1=>⟨ZT hlt rfl,Yk hlt ⟨e1o _,?_⟩⟩
  rw[e1y,List.length_map]
  refine Yg (fun h=>hno (Jt fun k=>by omega)) fun h2=>⟨ZT hlt rfl,Yk hlt ⟨e2j _,?_⟩⟩
  rw[e2d,List.length_map]
  refine Yg (fun h=>hno (Jt fun k=>by omega)) fun h3=>⟨ZT hlt rfl,Yk hlt ⟨zs7 _,?_⟩⟩
  rw[zv7,List.length_map]
  refine Yg (fun h=>hno (Jt fun k=>by omega)) fun h4=>⟨ZT hlt rfl,Yk hlt ⟨zs8 _,?_⟩⟩
  rw[zv8,List.length_map]
  refine Yg (fun h=>hno (Jt fun k=>by omega)) fun h5=> ?_
  have ef:=c1e (t:=o[i]) (by omega) (by omega) (by omega) (by omega) (by omega)
  refine c7n n ks m o G hlt (by omega) (fun h=>hno (by rw[ef];exact h)) (fun h=> ?_) o[i].nd.sizes.length 0 (by omega) fun q hq hq2=>by omega
  rw[next (by omega)]
  refine ih (i+1) (by omega) fun q hq2 hqi=> ?_
  by_cases e:q=i
  ·subst e;rw[ef];exact h
  ·exact hq q hq2 (by omega)
theorem c1i: ∀ x:Tm×Int×Unit,tW x.1=true->Ze V9 0 (Za WL (Zi (Dr x.1 x.2.1))) Vg [] (Z0 c6g (encL x)):=by
 rintro⟨⟨n,ks⟩,m,⟨⟩⟩ h
 have h:tW (.mk n ks)=true:=h
 have ea:V4 n ks++[.int .i64 m]=encL ((.mk n ks,m,()):Tm×Int×Unit):=by rw[ZH];rfl
 rw[<- ea]
 show Ze V9 0 (Za WL (Zi (Dr (.mk n ks) m))) _ _ _
 refine d8f n ks m ⟨Zf (.mk n ks,()) (ZH n ks) h,Zd (.mk n ks,()) (ZH n ks) (Yg (fun h1=>ZA ?_) fun h1=>⟨Zf (.mk n ks,()) (ZH n ks) h,Zd (.mk n ks,()) (ZH n ks) (Yg (fun h2=>ZA ?_) fun h2=>⟨Zf (.mk n ks,()) (ZH n ks) h,Zd (.mk n ks,()) (ZH n ks) ?_⟩)⟩)⟩
 ·have h1:((ZM (.mk n ks):Nat):Int)>12:=h1
  unfold Dr
  rw[decide_eq_false (by omega)];rfl
 ·have h2:((Yl (.mk n ks):Nat):Int)>m:=h2
  unfold Dr
  rw[decide_eq_false (show ¬ ((Yl (.mk n ks):Nat):Int)<=m by omega),Bool.and_false];rfl
 ·have h1 : ¬ ((ZM (.mk n ks):Nat):Int)>12:=h1
  have h2 : ¬ ((Yl (.mk n ks):Nat):Int)>m:=h2
  have e:Dr (.mk n ks) m=(Y6 (.mk n ks)).all Ru:=by
   unfold Dr
   rw[decide_eq_true (by omega),decide_eq_true (show((Yl (.mk n ks):Nat):Int)<=m by omega)];simp
  refine b3c n ks m (Y6 (.mk n ks)) (fun x hx=>a6s h hx) (by rw[DF];exact Du h) _ (ZA e.symm) (Y6 (.mk n ks)).length 0 (by omega) fun q hq hq2=>by omega
theorem d3w: ∀ x:Str×Unit,true=true->Ze d5d 0 (Za b8w (Zi (vT x.1))) b7s [] (Z0 e0c (encL x)):=by
 rintro⟨⟨s⟩,⟨⟩⟩ _
 exact e1q s ⟨by simp,by simp[vT,nd0]⟩
theorem b1y: ∀ x:Str×List Tm×Unit,true=true->Ze Mi 0 (Za Rt (Zi (cT x.1 x.2.1))) SY [] (Z0 b6d (encL x)):=by
 rintro⟨⟨s⟩,l,⟨⟩⟩ _
 refine c9n s l ⟨?_,?_⟩
 ·have:is (List Tm) (.sl 10 false (l.map enc))=true:=Enc.is_enc l
  simp[this]
 ·have h:is (List Tm) (.sl 10 false (l.map enc))=true:=Enc.is_enc l
  have h2:(dec (.sl 10 false (l.map enc)):List Tm)=l:=Enc.dec_enc l
  rw[d4j _ _ _ _ _ _ _ _ _ _ h,h2]
  simp[cT,nd0]
theorem b5b(a b:Tm):(List.all [enc a,enc b] fun(x:PV)=>List.length (PV.cells x)==10&&PV.cellsOk x)=true:=by
 obtain⟨n,ks⟩:=a
 obtain⟨m,ls⟩:=b
 rw[Yy,Yy];rfl
theorem a4j: ∀ x:Unit,true=true->Ze SH 0 (Za Be (Zi true)) Cw [] (Z0 b1c (encL x)):=by
 rintro⟨⟩ _
 refine b8s (Zd ((⟨[97]⟩:Str),()) rfl (Zd ((⟨[98]⟩:Str),()) rfl ⟨cT ⟨[110,101,103]⟩ [nT 5],by kernel_rfl,b5b _ _,Zf ((⟨[115,117,98]⟩:Str),[vT ⟨[98]⟩,cT ⟨[110,101,103]⟩ [nT 5]],()) rfl rfl,Zd ((⟨[115,117,98]⟩:Str),[vT ⟨[98]⟩,cT ⟨[110,101,103]⟩ [nT 5]],()) rfl ⟨b5b _ _,Zf ((⟨[115,117,98]⟩:Str),[vT ⟨[97]⟩,cT ⟨[115,117,98]⟩ [vT ⟨[98]⟩,cT ⟨[110,101,103]⟩ [nT 5]]],()) rfl rfl,Zd ((⟨[115,117,98]⟩:Str),[vT ⟨[97]⟩,cT ⟨[115,117,98]⟩ [vT ⟨[98]⟩,cT ⟨[110,101,103]⟩ [nT 5]]],()) rfl ⟨Zf (ex1,()) rfl d8w,Zd (ex1,()) rfl ?_⟩⟩⟩))
 rw[show Wt ((ex1,()):Tm×Unit).1=(⟨tx1⟩,0)from b4y]
 refine Zd ((⟨[97]⟩:Str),()) rfl (Zd ((⟨[98]⟩:Str),()) rfl ⟨b5b _ _,Zf ((⟨[97,100,100]⟩:Str),[vT ⟨[97]⟩,vT ⟨[98]⟩],()) rfl rfl,Zd ((⟨[97,100,100]⟩:Str),[vT ⟨[97]⟩,vT ⟨[98]⟩],()) rfl ⟨by kernel_rfl,by kernel_rfl,ex2,by kernel_rfl,Zf (ex2,()) rfl d9q,Zd (ex2,()) rfl ?_⟩⟩)
 rw[show Wt ((ex2,()):Tm×Unit).1=(⟨tx2⟩,0)from b6h]
 exact Yv rfl (Yv rfl (Yv rfl (ZA rfl)))
end Go.Pl
namespace Go.Pl
open Go.RowKit
open Enc (enc dec is)
open EncL (encL decL isL)
set_option maxRecDepth 100000
noncomputable def a4i:IC:=Xu Proofs.Tryz.f48
def a0f:List IRes:=[(.tmp 2)]
abbrev d6r:Nat:=4
def b8o:ZO:=YQ []
theorem d9u{G:AV×List AObj×List AObj->Prop}(es:List (PV×PV))(h:G (((.fn 86 [] [(.ptr 1 0)]),([(.map es)],[(.box [(.map 0)])])))):Ze b8o 1 (Xt 1 a0f G) a4i [] (Uz 4 [.map 0] [.map es]):=Ze.to (.nil) h (by kernel_rfl)
noncomputable def TD:IC:=icx RN Proofs.Tryz.f21
def Bc:List IRes:=[(.tmp 2)]
abbrev d4i:Nat:=36
def D6:ZO:=YQ [(42,.own VR (Qn 74)),(48,.own JU (G9 86)),(47,.own (QA 86) Kr)]
theorem d9m{G:PV->Prop}(E:Vo)(n:Nd)(ks:List Tm)(h:(VR [(.pv (.agg [(.int .i64 (Nd.kind n)),(.int .i64 (Nd.line n)),(.str (Str.s (Nd.name n))),(.int .i64 (Nd.num n)),(.str (Str.s (Nd.elem n))),(.sl 1 false (List.map enc (Nd.dims n))),(.sl 1 false (List.map enc (Nd.data n))),(.sl 2 false (List.map enc (Nd.sizes n))),(.sl 1 false (List.map enc (Nd.ranks n))),(.sl 10 false (List.map enc ks))]))] [])=true∧(E 0 ⟨Xi 36 0 [(3,(.ptr 0 0)),(4,.undef),(6,.undef),(8,.undef),(11,(.fn 74 [] [(.ptr 1 0)])),(12,.undef),(14,.undef),(15,.undef),(16,.undef),(17,.undef),(18,.undef),(19,.undef),(20,.undef),(21,.undef),(22,.undef),(23,.undef),(24,.undef),(25,.undef),(26,.undef),(27,.undef),(28,.undef),(29,.undef),(30,.undef),(31,.undef),(32,.undef)],[(.obj (.box [(.map 2)])),(.obj (.box [(.pv (.int .i64 (Nd.kind n))),(.pv (.int .i64 (Nd.line n))),(.pv (.str (Str.s (Nd.name n)))),(.pv (.int .i64 (Nd.num n))),(.pv (.str (Str.s (Nd.elem n)))),(.pv (.sl 1 false (List.map enc (Nd.dims n)))),(.pv (.sl 1 false (List.map enc (Nd.data n)))),(.pv (.sl 2 false (List.map enc (Nd.sizes n)))),(.pv (.sl 1 false (List.map enc (Nd.ranks n)))),(.pv (.sl 10 false (List.map enc ks)))])),(.obj (.map []))]⟩ (fun x S'=>AfX D6 E 0 (Za Bc G) TD 0 x S'))):Y5 D6 E 0 (Za Bc G) (.inl TD) [] (Z0 36 [.agg [enc n.kind,enc n.line,enc n.name,enc n.num,enc n.elem,enc n.dims,enc n.data,enc n.sizes,enc n.ranks,enc ks]]):=Y5.mp (.req (.keep (.nil))) h (by kernel_rfl)
theorem d8q{G:PV->Prop}(E:Vo)(n:Nd)(ks:List Tm)(m:List Str)(h:(QA 86 [(.fn 86 [] [(.ptr 0 0)])] [(.box [(.map 1)]),(.map (Jm m))])=true∧(G ((.sl 1 false (List.map PV.str (WP (List.map Kq (Jm m)))))))):AfX D6 E 0 (Za Bc G) TD 0 .normal ⟨Xi 36 0 [(3,.ptr 0 0)],[.obj (.box [.map 1]),.obj (.map (Jm m))]⟩:=Y5.mp (.lit (.keep (.req (.keep (.nil))))) h (by kernel_rfl)
def Tg:IC:=(.reg [Yd 4 (.alloc (.agg [(.int .i64 0),(.int .i64 0),(.str []),(.int .i64 0),(.str []),(.sl 0 true []),(.sl 0 true []),(.sl 0 true []),(.sl 0 true []),(.sl 0 true [])])) 0,o'' (.store 10 (.t 4) (.t 12)) 1] none)
def d2c:ZO:=YQ [(42,.own VR (Qn 74)),(48,.own JU (G9 86)),(47,.own (QA 86) Kr)]
theorem d5h{G:ZI->Prop}(E:Vo)(n:Nd)(ks:List Tm)(m:List Str)(v:Int)(h:E 99 ⟨Xi 36 0 [(3,(.ptr 0 0)),(4,(.ptr 2 0))],[(.obj (.box [(.map 1)])),(.obj (.map (Jm m))),(.obj (.box [(.pv (.int .i64 (Nd.kind n))),(.pv (.int .i64 (Nd.line n))),(.pv (.str (Str.s (Nd.name n)))),(.pv (.int .i64 (Nd.num n))),(.pv (.str (Str.s (Nd.elem n)))),(.pv (.sl 1 false (List.map enc (Nd.dims n)))),(.pv (.sl 1 false (List.map enc (Nd.data n)))),(.pv (.sl 2 false (List.map enc (Nd.sizes n)))),(.pv (.sl 1 false (List.map enc (Nd.ranks n)))),(.pv (.sl 10 false (List.map enc ks)))]))]⟩ (fun x S'=>AfX d2c E 2 (fun st=>G st.heap) Tg 99 x S')):Y5 d2c E 2 (fun st=>G st.heap) (.inl Tg) [.seq (.ext 99 [3,4])] ⟨Xi 36 0 [(3,.ptr 0 0),(12,.pv (.agg [enc n.kind,enc n.line,enc n.name,enc n.num,enc n.elem,enc n.dims,enc n.data,enc n.sizes,enc n.ranks,enc ks])),(13,.pv (.int .i64 v))],[.obj (.box [.map 1]),.obj (.map (Jm m))]⟩:=Y5.mh (.nil) h (by kernel_rfl)
def Vk:IC:=(.block 1 (V5 [Yd 14 (.faddr 7 (.t 4)) 0,Yd 15 (l'' [(.sl 2)] (.t 14)) 0,Yd 16 (.len 1 (.t 15)) 0,Yd 17 (.mv (WN 0)) 0] (.block 2 (.loop [17,16,15,3] (V5 [Yd 18 (Gz .lss (.t 17) (.t 16)) 0] (.seq (.cond (.t 18) .skip (.exit 2)) (.seq (.block 3 (V5 [Yd 19 (.iaddr 2 (.t 15) (.t 17)) 0,Yd 20 (.load true [(.int .i64),(.sl 2)] (.t 19)) 0,Yd 6 (.alloc (.agg [(.int .i64 0),(.sl 0 true [])])) 0,o'' (.store 2 (.t 6) (.t 20)) 1] (V5 [Yd 21 (.faddr 1 (.t 6)) 0,Yd 22 (l'' [(.sl 2)] (.t 21)) 0,Yd 23 (.len 1 (.t 22)) 0,Yd 24 (.mv (WN 0)) 0] (.block 4 (.loop [24,23,22,3,17,16,15] (V5 [Yd 25 (Gz .lss (.t 24) (.t 23)) 0] (.seq (.cond (.t 25) .skip (.exit 4)) (.seq (.block 5 (V5 [Yd 26 (.iaddr 2 (.t 22) (.t 24)) 0,Yd 27 (.load true [.str,(.int .i64)] (.t 26)) 0,Yd 8 (.alloc (.agg [(.str []),(.int .i64 0)])) 0,o'' (.store 2 (.t 8) (.t 27)) 1] (.reg [Yd 28 (.load false [.any] (.t 3)) 0,Yd 29 (.faddr 0 (.t 8)) 0,Yd 30 (.load false [.str] (.t 29)) 0,o'' (.mapupd true (.t 28) (.t 30) (.c (.bool true))) 0] none))) (.reg [Yd 31 (Gz .add (.t 24) (WN 1)) 0,Yd 24 (Vt 31) 0] none))))))))) (.reg [Yd 32 (Gz .add (.t 17) (WN 1)) 0,Yd 17 (Vt 32) 0] none))))))))
def KZ:ZO:=YQ [(42,.own VR (Qn 74)),(48,.own JU (G9 86)),(47,.own (QA 86) Kr)]
theorem c5d{G:ZI->Prop}(E:Vo)(n:Nd)(ks:List Tm)(m:List Str)(i:Int)(h:if (decide (i<(↑(List.length (Nd.sizes n)):Int)))=true then(decide (0<=i)&&decide (Int.toNat i<List.length (List.map enc (Nd.sizes n)))&&Enc.sz Lin==2)=true∧(∃ y0:Lin,AV.pv (PV.rptr (PV.cells (List.getD (List.map enc (Nd.sizes n)) (Int.toNat i) default)))=AV.pv (PV.rptr (PV.cells ((enc) y0)))∧(AtS [.seq (.ext 99 [])] KZ E 3 (fun st=>G st.heap) Vk 1 36 [(3,(.ptr 0 0)),(15,(.pv (.sl 2 false (List.map enc (Nd.sizes n))))),(16,(.pv (.int .i64 (↑(List.length (Nd.sizes n)):Int)))),(17,(.pv (.int .i64 i))),(22,(.pv (.sl 2 false (PV.asXs (List.getD (PV.cells (enc y0)) (0+1) default))))),(23,(.pv (.int .i64 (↑(List.length (PV.asXs (List.getD (PV.cells (enc y0)) (0+1) default))):Int)))),(24,(.pv (.int .i64 0)))] [(.obj (.box [(.map 1)])),(.obj (.map (Jm m))),(.obj (.box [(.pv (.int .i64 (Nd.kind n))),(.pv (.int .i64 (Nd.line n))),(.pv (.str (Str.s (Nd.name n)))),(.pv (.int .i64 (Nd.num n))),(.pv (.str (Str.s (Nd.elem n)))),(.pv (.sl 1 false (List.map enc (Nd.dims n)))),(.pv (.sl 1 false (List.map enc (Nd.data n)))),(.pv (.sl 2 false (List.map enc (Nd.sizes n)))),(.pv (.sl 1 false (List.map enc (Nd.ranks n)))),(.pv (.sl 10 false (List.map enc ks)))]))]))else(E 99 ⟨Xi 36 0 [],[(.obj (.box [(.map 1)])),(.obj (.map (Jm m))),(.obj (.box [(.pv (.int .i64 (Nd.kind n))),(.pv (.int .i64 (Nd.line n))),(.pv (.str (Str.s (Nd.name n)))),(.pv (.int .i64 (Nd.num n))),(.pv (.str (Str.s (Nd.elem n)))),(.pv (.sl 1 false (List.map enc (Nd.dims n)))),(.pv (.sl 1 false (List.map enc (Nd.data n)))),(.pv (.sl 2 false (List.map enc (Nd.sizes n)))),(.pv (.sl 1 false (List.map enc (Nd.ranks n)))),(.pv (.sl 10 false (List.map enc ks)))]))]⟩ (fun x S'=>AfX KZ E 3 (fun st=>G st.heap) Vk 99 x S'))):AtS [.seq (.ext 99 [])] KZ E 3 (fun st=>G st.heap) Vk 0 36 [(3,.ptr 0 0),(15,.pv (enc n.sizes)),(16,.pv (.int .i64 n.sizes.length)),(17,.pv (.int .i64 i))] [.obj (.box [.map 1]),.obj (.map (Jm m)),.obj (.box [.pv (enc n.kind),.pv (enc n.line),.pv (enc n.name),.pv (enc n.num),.pv (enc n.elem),.pv (enc n.dims),.pv (enc n.data),.pv (enc n.sizes),.pv (enc n.ranks),.pv (enc ks)])]:=Y5.mh (.lit (.ask (.req (.abs (Lin) (fun YY=>AV.pv (PV.rptr (PV.cells ((enc) YY)))) (.lit (.nil)))) (.nil))) h (by kernel_rfl)
theorem c3r{G:ZI->Prop}(E:Vo)(n:Nd)(ks:List Tm)(m:List Str)(i j:Int)(l:Lin)(h:if (decide (j<(↑(List.length l.t):Int)))=true then(decide (0<=j)&&decide (Int.toNat j<List.length (List.map enc l.t))&&Enc.sz Coef==2)=true∧(∃ y0:Coef,AV.pv (PV.rptr (PV.cells (List.getD (List.map enc l.t) (Int.toNat j) default)))=AV.pv (PV.rptr (PV.cells ((enc) y0)))∧((a5s (Sh.co Sh.str (List.getD (PV.cells (enc y0)) 0 default)) (PV.bool true) (Jm m))=true∧(AtS [.seq (.ext 99 [])] KZ E 3 (fun st=>G st.heap) Vk 1 36 [(3,(.ptr 0 0)),(15,(.pv (.sl 2 false (List.map enc (Nd.sizes n))))),(16,(.pv (.int .i64 (↑(List.length (Nd.sizes n)):Int)))),(17,(.pv (.int .i64 i))),(22,(.pv (.sl 2 false (List.map enc l.t)))),(23,(.pv (.int .i64 (↑(List.length l.t):Int)))),(24,(.pv (.int .i64 (IntKind.wrap IntKind.i64 (j+1)))))] [(.obj (.box [(.map 1)])),(.obj (.map (a1f (Sh.co Sh.str (List.getD (PV.cells (enc y0)) 0 default)) (PV.bool true) (Jm m)))),(.obj (.box [(.pv (.int .i64 (Nd.kind n))),(.pv (.int .i64 (Nd.line n))),(.pv (.str (Str.s (Nd.name n)))),(.pv (.int .i64 (Nd.num n))),(.pv (.str (Str.s (Nd.elem n)))),(.pv (.sl 1 false (List.map enc (Nd.dims n)))),(.pv (.sl 1 false (List.map enc (Nd.data n)))),(.pv (.sl 2 false (List.map enc (Nd.sizes n)))),(.pv (.sl 1 false (List.map enc (Nd.ranks n)))),(.pv (.sl 10 false (List.map enc ks)))]))])))else(AtS [.seq (.ext 99 [])] KZ E 3 (fun st=>G st.heap) Vk 0 36 [(3,(.ptr 0 0)),(15,(.pv (.sl 2 false (List.map enc (Nd.sizes n))))),(16,(.pv (.int .i64 (↑(List.length (Nd.sizes n)):Int)))),(17,(.pv (.int .i64 (IntKind.wrap IntKind.i64 (i+1)))))] [(.obj (.box [(.map 1)])),(.obj (.map (Jm m))),(.obj (.box [(.pv (.int .i64 (Nd.kind n))),(.pv (.int .i64 (Nd.line n))),(.pv (.str (Str.s (Nd.name n)))),(.pv (.int .i64 (Nd.num n))),(.pv (.str (Str.s (Nd.elem n)))),(.pv (.sl 1 false (List.map enc (Nd.dims n)))),(.pv (.sl 1 false (List.map enc (Nd.data n)))),(.pv (.sl 2 false (List.map enc (Nd.sizes n)))),(.pv (.sl 1 false (List.map enc (Nd.ranks n)))),(.pv (.sl 10 false (List.map enc ks)))]))])):AtS [.seq (.ext 99 [])] KZ E 3 (fun st=>G st.heap) Vk 1 36 [(3,.ptr 0 0),(15,.pv (enc n.sizes)),(16,.pv (.int .i64 n.sizes.length)),(17,.pv (.int .i64 i)),(22,.pv (enc l.t)),(23,.pv (.int .i64 l.t.length)),(24,.pv (.int .i64 j))] [.obj (.box [.map 1]),.obj (.map (Jm m)),.obj (.box [.pv (enc n.kind),.pv (enc n.line),.pv (enc n.name),.pv (enc n.num),.pv (enc n.elem),.pv (enc n.dims),.pv (enc n.data),.pv (enc n.sizes),.pv (enc n.ranks),.pv (enc ks)])]:=Y5.mh (.lit (.ask (.req (.abs (Coef) (fun YY=>AV.pv (PV.rptr (PV.cells ((enc) YY)))) (.lit (.req (.lit (.nil)))))) (.lit (.nil)))) h (by kernel_rfl)
theorem d7e{G:ZI->Prop}(E:Vo)(n:Nd)(ks:List Tm)(m:List Str)(h:AtS [.seq (.ext 99 [])] KZ E 3 (fun st=>G st.heap) Vk 0 36 [(3,(.ptr 0 0)),(15,(.pv (.sl 2 false (List.map enc (Nd.sizes n))))),(16,(.pv (.int .i64 (↑(List.length (List.map enc (Nd.sizes n))):Int)))),(17,(.pv (.int .i64 0)))] [(.obj (.box [(.map 1)])),(.obj (.map (Jm m))),(.obj (.box [(.pv (.int .i64 (Nd.kind n))),(.pv (.int .i64 (Nd.line n))),(.pv (.str (Str.s (Nd.name n)))),(.pv (.int .i64 (Nd.num n))),(.pv (.str (Str.s (Nd.elem n)))),(.pv (.sl 1 false (List.map enc (Nd.dims n)))),(.pv (.sl 1 false (List.map enc (Nd.data n)))),(.pv (.sl 2 false (List.map enc (Nd.sizes n)))),(.pv (.sl 1 false (List.map enc (Nd.ranks n)))),(.pv (.sl 10 false (List.map enc ks)))]))]):Y5 KZ E 3 (fun st=>G st.heap) (.inl Vk) [.seq (.ext 99 [])] ⟨Xi 36 0 [(3,.ptr 0 0),(4,.ptr 2 0)],[.obj (.box [.map 1]),.obj (.map (Jm m)),.obj (.box [.pv (enc n.kind),.pv (enc n.line),.pv (enc n.name),.pv (enc n.num),.pv (enc n.elem),.pv (enc n.dims),.pv (enc n.data),.pv (enc n.sizes),.pv (enc n.ranks),.pv (enc ks)])]⟩:=Y5.mh (.nil) h (by kernel_rfl)
end Go.Pl
namespace Go.Pl
open Go.RowKit
open Enc (enc dec is)
open EncL (encL decL isL)
set_option maxRecDepth 100000
noncomputable def NT:IC:=Xu Proofs.Tryz.f42
def Mw:List IRes:=[(.tmp 2)]
abbrev c8b:Nat:=4
def a1r:ZO:=YQ []
theorem d7d{G:AV×List AObj×List AObj->Prop}(n:Nd)(ks:List Tm)(h:G (((.fn 74 [] [(.ptr 0 0)]),([],[(.box [(.pv (.int .i64 (Nd.kind n))),(.pv (.int .i64 (Nd.line n))),(.pv (.str (Str.s (Nd.name n)))),(.pv (.int .i64 (Nd.num n))),(.pv (.str (Str.s (Nd.elem n)))),(.pv (.sl 1 false (List.map enc (Nd.dims n)))),(.pv (.sl 1 false (List.map enc (Nd.data n)))),(.pv (.sl 2 false (List.map enc (Nd.sizes n)))),(.pv (.sl 1 false (List.map enc (Nd.ranks n)))),(.pv (.sl 10 false (List.map enc ks)))])])))):Ze a1r 0 (Xt 0 Mw G) NT [] (Uz 4 [.pv (.agg [enc n.kind,enc n.line,enc n.name,enc n.num,enc n.elem,enc n.dims,enc n.data,enc n.sizes,enc n.ranks,enc ks])] []):=Ze.to (.nil) h (by kernel_rfl)
noncomputable def CZ:IC:=icx RN Proofs.Tryz.f19
def Hz:List IRes:=[(.cell false 1 2)]
abbrev d3h:Nat:=23
def J2:ZO:=YQ [(42,.own VR (Qn 74)),(43,.pure (preT (fun x:Tm×Unit=>tW x.1)) (Zb (fun x:Tm×Unit=>Jp x.1)))]
theorem d9f{G:PV->Prop}(E:Vo)(n:Nd)(ks:List Tm)(h:(VR [(.pv (.agg [(.int .i64 (Nd.kind n)),(.int .i64 (Nd.line n)),(.str (Str.s (Nd.name n))),(.int .i64 (Nd.num n)),(.str (Str.s (Nd.elem n))),(.sl 1 false (List.map enc (Nd.dims n))),(.sl 1 false (List.map enc (Nd.data n))),(.sl 2 false (List.map enc (Nd.sizes n))),(.sl 1 false (List.map enc (Nd.ranks n))),(.sl 10 false (List.map enc ks))]))] [])=true∧(E 0 ⟨Xi 23 0 [(2,(.ptr 0 0)),(3,(.ptr 1 0)),(4,.undef),(5,.undef),(7,(.fn 74 [] [(.ptr 2 0)])),(8,.undef),(9,.undef),(10,.undef),(11,.undef),(12,.undef),(13,.undef),(14,.undef),(15,.undef),(16,.undef),(17,.undef),(18,.undef),(19,.undef),(20,.undef),(21,.undef),(22,.undef)],[(.obj (.box [(.pv (.bool false))])),(.obj (.box [(.pv (.int .i64 0))])),(.obj (.box [(.pv (.int .i64 (Nd.kind n))),(.pv (.int .i64 (Nd.line n))),(.pv (.str (Str.s (Nd.name n)))),(.pv (.int .i64 (Nd.num n))),(.pv (.str (Str.s (Nd.elem n)))),(.pv (.sl 1 false (List.map enc (Nd.dims n)))),(.pv (.sl 1 false (List.map enc (Nd.data n)))),(.pv (.sl 2 false (List.map enc (Nd.sizes n)))),(.pv (.sl 1 false (List.map enc (Nd.ranks n)))),(.pv (.sl 10 false (List.map enc ks)))]))]⟩ (fun x S'=>AfX J2 E 0 (Za Hz G) CZ 0 x S'))):Y5 J2 E 0 (Za Hz G) (.inl CZ) [] (Z0 23 [.agg [enc n.kind,enc n.line,enc n.name,enc n.num,enc n.elem,enc n.dims,enc n.data,enc n.sizes,enc n.ranks,enc ks]]):=Y5.mp (.req (.keep (.nil))) h (by kernel_rfl)
theorem d6c{G:PV->Prop}(E:Vo)(n:Nd)(ks:List Tm)(c:Int)(h:G ((.bool true))):AfX J2 E 0 (Za Hz G) CZ 0 .normal ⟨Xi 23 0 [(2,.ptr 0 0),(3,.ptr 1 0)],[.obj (.box [.pv (.bool false)]),.obj (.box [.pv (.int .i64 c)])]⟩:=Y5.mp (.nil) h (by kernel_rfl)
theorem d0x{G:PV->Prop}(E:Vo)(n:Nd)(ks:List Tm)(c:Int)(rest:List Slot)(h:G ((.bool false))):AfX J2 E 0 (Za Hz G) CZ 0 .ret ⟨Xi 23 0 [(2,.ptr 0 0),(3,.ptr 1 0)],(.obj (.box [.pv (.bool false)]):: .obj (.box [.pv (.int .i64 c)])::rest)⟩:=Y5.mp (.nil) h (by kernel_rfl)
def TN:IC:=(V5 [Yd 4 (.alloc (.agg [(.int .i64 0),(.int .i64 0),(.str []),(.int .i64 0),(.str []),(.sl 0 true []),(.sl 0 true []),(.sl 0 true []),(.sl 0 true []),(.sl 0 true [])])) 0,o'' (.store 10 (.t 4) (.t 8)) 1] (.reg [Yd 5 (Vt 9) 0] none))
def d2b:ZO:=YQ [(42,.own VR (Qn 74)),(43,.pure (preT (fun x:Tm×Unit=>tW x.1)) (Zb (fun x:Tm×Unit=>Jp x.1)))]
theorem d4d{G:ZI->Prop}(E:Vo)(n:Nd)(ks:List Tm)(c v:Int)(h:E 99 ⟨Xi 23 0 [(2,(.ptr 0 0)),(3,(.ptr 1 0)),(4,(.ptr 2 0)),(5,(.pv (.int .i64 v)))],[(.obj (.box [(.pv (.bool false))])),(.obj (.box [(.pv (.int .i64 c))])),(.obj (.box [(.pv (.int .i64 (Nd.kind n))),(.pv (.int .i64 (Nd.line n))),(.pv (.str (Str.s (Nd.name n)))),(.pv (.int .i64 (Nd.num n))),(.pv (.str (Str.s (Nd.elem n)))),(.pv (.sl 1 false (List.map enc (Nd.dims n)))),(.pv (.sl 1 false (List.map enc (Nd.data n)))),(.pv (.sl 2 false (List.map enc (Nd.sizes n)))),(.pv (.sl 1 false (List.map enc (Nd.ranks n)))),(.pv (.sl 10 false (List.map enc ks)))]))]⟩ (fun x S'=>AfX d2b E 2 (fun st=>G st.heap) TN 99 x S')):Y5 d2b E 2 (fun st=>G st.heap) (.inl TN) [.seq (.ext 99 [2,3,4,5])] ⟨Xi 23 0 [(2,.ptr 0 0),(3,.ptr 1 0),(8,.pv (.agg [enc n.kind,enc n.line,enc n.name,enc n.num,enc n.elem,enc n.dims,enc n.data,enc n.sizes,enc n.ranks,enc ks])),(9,.pv (.int .i64 v))],[.obj (.box [.pv (.bool false)]),.obj (.box [.pv (.int .i64 c)])]⟩:=Y5.mh (.nil) h (by kernel_rfl)
def Tq:IC:=(.block 1 (V5 [Yd 10 (l'' [(.int .i64)] (.t 3)) 0,Yd 11 (Gz .add (.t 10) (WN 1)) 0,o'' (.store 1 (.t 3) (.t 11)) 0] (V5 [Yd 12 (l'' [(.int .i64)] (.t 3)) 0,Yd 13 (Gz .gtr (.t 12) (WN 400)) 0,Yd 14 (Vt 13) 0,FE 15 (Vt 5) 0 14,FE 16 (Gz .gtr (.t 15) (WN 40)) 0 14,Yd 17 (.pick (.t 14) (.c (.bool true)) (.t 16)) 0,Yd 18 (Vt 17) 0,FE 19 (.load true [(.int .i64),(.int .i64),.str,(.int .i64),.str,(.sl 1),(.sl 1),(.sl 2),(.sl 1),(.sl 10)] (.t 4)) 0 18,FE 20 (c'' 43 [(.t 19)]) 0 18,FE 21 (.un .not (.t 20)) 2 18,Yd 22 (.pick (.t 18) (.c (.bool true)) (.t 21)) 2] (.cond (.t 22) (V5 [o'' (.store 1 (.t 2) (.c (.bool false))) 0] .ret) .skip))))
def d2w:ZO:=YQ [(42,.own VR (Qn 74)),(43,.pure (preT (fun x:Tm×Unit=>tW x.1)) (Zb (fun x:Tm×Unit=>Jp x.1)))]
theorem d7r{G:ZI->Prop}(E:Vo)(n:Nd)(ks:List Tm)(c v:Int)(h:if (decide (IntKind.wrap IntKind.i64 (c+1)>400))=true then G ([(.obj (.box [(.pv (.bool false))])),(.obj (.box [(.pv (.int .i64 (IntKind.wrap IntKind.i64 (c+1))))])),(.obj (.box [(.pv (.int .i64 (Nd.kind n))),(.pv (.int .i64 (Nd.line n))),(.pv (.str (Str.s (Nd.name n)))),(.pv (.int .i64 (Nd.num n))),(.pv (.str (Str.s (Nd.elem n)))),(.pv (.sl 1 false (List.map enc (Nd.dims n)))),(.pv (.sl 1 false (List.map enc (Nd.data n)))),(.pv (.sl 2 false (List.map enc (Nd.sizes n)))),(.pv (.sl 1 false (List.map enc (Nd.ranks n)))),(.pv (.sl 10 false (List.map enc ks)))])),.fresh,.fresh])else(if (decide (v>40))=true then G ([(.obj (.box [(.pv (.bool false))])),(.obj (.box [(.pv (.int .i64 (IntKind.wrap IntKind.i64 (c+1))))])),(.obj (.box [(.pv (.int .i64 (Nd.kind n))),(.pv (.int .i64 (Nd.line n))),(.pv (.str (Str.s (Nd.name n)))),(.pv (.int .i64 (Nd.num n))),(.pv (.str (Str.s (Nd.elem n)))),(.pv (.sl 1 false (List.map enc (Nd.dims n)))),(.pv (.sl 1 false (List.map enc (Nd.data n)))),(.pv (.sl 2 false (List.map enc (Nd.sizes n)))),(.pv (.sl 1 false (List.map enc (Nd.ranks n)))),(.pv (.sl 10 false (List.map enc ks)))])),.fresh,.fresh])else((Go.Pl.preT (fun(x:Tm×Unit)=>tW x.1) [(.agg [(.int .i64 (Nd.kind n)),(.int .i64 (Nd.line n)),(.str (Str.s (Nd.name n))),(.int .i64 (Nd.num n)),(.str (Str.s (Nd.elem n))),(.sl 1 false (List.map enc (Nd.dims n))),(.sl 1 false (List.map enc (Nd.data n))),(.sl 2 false (List.map enc (Nd.sizes n))),(.sl 1 false (List.map enc (Nd.ranks n))),(.sl 10 false (List.map enc ks))])])=true∧(∃ y0:Bool,AV.pv (Zb (fun(x:Tm×Unit)=>Jp x.1) [(.agg [(.int .i64 (Nd.kind n)),(.int .i64 (Nd.line n)),(.str (Str.s (Nd.name n))),(.int .i64 (Nd.num n)),(.str (Str.s (Nd.elem n))),(.sl 1 false (List.map enc (Nd.dims n))),(.sl 1 false (List.map enc (Nd.data n))),(.sl 2 false (List.map enc (Nd.sizes n))),(.sl 1 false (List.map enc (Nd.ranks n))),(.sl 10 false (List.map enc ks))])])=AV.pv (enc y0)∧(if (!y0)=true then G ([(.obj (.box [(.pv (.bool false))])),(.obj (.box [(.pv (.int .i64 (IntKind.wrap IntKind.i64 (c+1))))])),(.obj (.box [(.pv (.int .i64 (Nd.kind n))),(.pv (.int .i64 (Nd.line n))),(.pv (.str (Str.s (Nd.name n)))),(.pv (.int .i64 (Nd.num n))),(.pv (.str (Str.s (Nd.elem n)))),(.pv (.sl 1 false (List.map enc (Nd.dims n)))),(.pv (.sl 1 false (List.map enc (Nd.data n)))),(.pv (.sl 2 false (List.map enc (Nd.sizes n)))),(.pv (.sl 1 false (List.map enc (Nd.ranks n)))),(.pv (.sl 10 false (List.map enc ks)))])),.fresh,.fresh])else(E 99 ⟨Xi 23 0 [],[(.obj (.box [(.pv (.bool false))])),(.obj (.box [(.pv (.int .i64 (IntKind.wrap IntKind.i64 (c+1))))])),(.obj (.box [(.pv (.int .i64 (Nd.kind n))),(.pv (.int .i64 (Nd.line n))),(.pv (.str (Str.s (Nd.name n)))),(.pv (.int .i64 (Nd.num n))),(.pv (.str (Str.s (Nd.elem n)))),(.pv (.sl 1 false (List.map enc (Nd.dims n)))),(.pv (.sl 1 false (List.map enc (Nd.data n)))),(.pv (.sl 2 false (List.map enc (Nd.sizes n)))),(.pv (.sl 1 false (List.map enc (Nd.ranks n)))),(.pv (.sl 10 false (List.map enc ks)))]))]⟩ (fun x S'=>AfX d2w E 3 (fun st=>G st.heap) Tq 99 x S'))))))):Y5 d2w E 3 (fun st=>G st.heap) (.inl Tq) [.seq (.ext 99 [])] ⟨Xi 23 0 [(2,.ptr 0 0),(3,.ptr 1 0),(4,.ptr 2 0),(5,.pv (.int .i64 v))],[.obj (.box [.pv (.bool false)]),.obj (.box [.pv (.int .i64 c)]),.obj (.box [.pv (enc n.kind),.pv (enc n.line),.pv (enc n.name),.pv (enc n.num),.pv (enc n.elem),.pv (enc n.dims),.pv (enc n.data),.pv (enc n.sizes),.pv (enc n.ranks),.pv (enc ks)])]⟩:=Y5.mh (Zl 2 (.ask (Zu 7) (Zl 3 (.ask (Zu 4) (.lit (.req (.abs (Bool) (fun YY=>AV.pv (enc YY)) (Zl 2 (.ask (.nil) (.nil)))))))))) h (by kernel_rfl)
end Go.Pl
namespace Go.Pl
open Go.RowKit
open Enc (enc dec is)
open EncL (encL decL isL)
theorem c6z{s:Str}:(s=⟨[]⟩) ↔ s.s=[]:=by cases s;simp
theorem c6b(n:Nd):YF n 0 0=Rs n:=by
 unfold YF Rs
 cases n.sizes <;> cases n.ranks <;> simp <;> omega
theorem c7o(k:Nat):((k:Int)=1) ↔ k=1:=by omega
theorem c8r(k:Nat):((k:Int)=2) ↔ k=2:=by omega
theorem d1s(k:Nat):((1:Int)<=(k:Int)) ↔ 1<=k:=by omega
theorem c4f(k:Nat):((k:Int)<=16) ↔ k<=16:=by omega
theorem c2a(n:Nd):YF n 1 0=(decide (n.sizes.length<=1)&&n.sizes.all Zp&&n.ranks.isEmpty):=by
 unfold YF
 rw[show decide ((n.sizes.length:Int)<=1)=decide (n.sizes.length<=1)from decide_eq_decide.2 (by omega),show decide ((n.ranks.length:Int)<=0)=n.ranks.isEmpty by cases n.ranks <;> simp <;> omega,Bool.and_assoc,Bool.and_assoc,Bool.and_comm n.ranks.isEmpty]
set_option maxHeartbeats 2000000 in
theorem a9g: ∀ x:Tm×Unit,tW x.1=true->Ze Ad 0 (Za DD (Zi (Jp x.1))) Rn [] (Z0 b8u (encL x)):=by
 rintro⟨⟨n,ks⟩,⟨⟩⟩ ht
 rw[<- YN]
 show Ze Ad 0 (Za DD (Zi (Wx n ks.length))) _ _ _
 have hnm:decide (n.name.s.length<=1048576)=true:=decide_eq_true (EQ ht).name
 have har:WQ (Ux n)=true:=MH ht
 have leaf : ∀ b:Bool,Wx n ks.length=b->Zi (Wx n ks.length) (.bool b):=fun b h=>ZA h.symm
 refine c5s n ks ?_
 refine Yg (fun h1=>leaf _ ?_) fun h1=>Yg (fun h2=>leaf _ ?_) fun h2=> ?_
 ·unfold Wx;rw[decide_eq_false (by omega)];rfl
 ·unfold Wx;rw[decide_eq_false (show ¬ n.line<=10000 by omega)];simp
 have hk:Wx n ks.length=YI n ks.length:=by
  unfold Wx;rw[decide_eq_true (by omega),decide_eq_true (show n.line<=10000 by omega)];simp
 rw[hk]at leaf ⊢
 repeat' (first
  | refine ZL (fun h=> ?_) (fun h=> ?_)
  | refine Yg (fun h=> ?_) (fun h=> ?_)
  | refine XR (fun h=> ?_) (fun h=> ?_)
  | refine⟨Zf (n.name,()) rfl hnm,Zd (n.name,()) rfl ?_⟩
  | refine⟨Zf (.mk n ks,0,0,()) (Qa n ks 0 0) ht,Zd (.mk n ks,0,0,()) (Qa n ks 0 0) ?_⟩
  | refine⟨Zf (.mk n ks,1,0,()) (Qa n ks 1 0) ht,Zd (.mk n ks,1,0,()) (Qa n ks 1 0) ?_⟩
  | refine⟨Zf (.mk n ks,()) (YN n ks) ht,Zd (.mk n ks,()) (YN n ks) ?_⟩
  | refine⟨Zf (Ux n,()) rfl har,Zd (Ux n,()) rfl ?_⟩
  | refine leaf _ ?_)
 all_goals clear ht hnm har leaf hk
 all_goals (unfold YI Tx;simp_all[c6z,Tm.nd,Tm.ks,c6b,Ux,c7o,c8r,d1s,c4f,c2a])
 intro hk
 omega
end Go.Pl
namespace Go.Proofs.YtbfjgcjjaoaaaaaGreatDoor
open Go.RowKit Go.Pl
open Enc (enc dec is)
open EncL (encL decL isL)
set_option maxRecDepth 100000
def ndC(n:Nd)(ks:List Tm):List PV:=[enc n.kind,enc n.line,enc n.name,enc n.num,enc n.elem,enc n.dims,enc n.data,enc n.sizes,enc n.ranks,enc ks]
abbrev wkT:ZO:=YQ []
def eW(L:List (Nat×AV)):List AV:=Xi 28 0 L
def wk0(n:Nd)(ks:List Tm)(lev:Int)(l:Nat):List (Nat×AV):=[(0,.pv (.agg (ndC n ks))),(1,.pv (.int .i64 lev)),(2,.yld l)]
def wk1(n:Nd)(ks:List Tm)(lev:Int)(l:Nat):List (Nat×AV):=wk0 n ks lev l++[(3,.ptr 0 0),(6,.pv (.bool false))]
def wk2(n:Nd)(ks:List Tm)(lev:Int)(l:Nat):List (Nat×AV):=wk1 n ks lev l++[(9,.yld l),(10,.pv (.agg (ndC n ks))),(11,.pv (.int .i64 lev))]
def wk3(n:Nd)(ks:List Tm)(lev:Int)(l:Nat)(b:Bool):List (Nat×AV):=wk2 n ks lev l++[(12,.pv (.bool b))]
def wk4(n:Nd)(ks:List Tm)(lev:Int)(l:Nat)(b:Bool):List (Nat×AV):=wk3 n ks lev l b++[(13,.pv (.bool (!b)))]
def wk5(n:Nd)(ks:List Tm)(lev:Int)(l:Nat):List (Nat×AV):=wk4 n ks lev l true++[(14,.ptr 0 9),(15,.pv (enc ks)),(16,.pv (.int .i64 (ks.map enc).length)),(17,.pv (.int .i64 0))]
def wl0(ks:List Tm)(lev:Int)(l:Nat)(i:Int):List (Nat×AV):=[(17,.pv (.int .i64 i)),(16,.pv (.int .i64 (ks.map enc).length)),(15,.pv (enc ks)),(1,.pv (.int .i64 lev)),(2,.yld l)]
def wl1(ks:List Tm)(lev:Int)(l:Nat)(i:Int):List (Nat×AV):=wl0 ks lev l i++[(18,.pv (.bool (decide (i<((ks.map enc).length:Int)))))]
def wl5(ks:List Tm)(lev:Int)(l:Nat)(i:Int)(n:Nd)(kk:List Tm):List (Nat×AV):=wl1 ks lev l i++[(19,.pv (.rptr (ndC n kk))),(20,.pv (.agg (ndC n kk))),(8,.ptr 0 0)]
def wl6(ks:List Tm)(lev:Int)(l:Nat)(i:Int)(n:Nd)(kk:List Tm):List (Nat×AV):=wl5 ks lev l i n kk++[(21,.pv (.agg (ndC n kk))),(22,.pv (.int .i64 lev)),(23,.pv (.int .i64 (IntKind.i64.wrap (lev+1)))),(24,.yld l)]
def wl7(ks:List Tm)(lev:Int)(l:Nat)(i:Int)(b:Bool):List (Nat×AV):=wl0 ks lev l i++[(25,.pv (.bool b))]
def wl8(ks:List Tm)(lev:Int)(l:Nat)(i:Int)(b:Bool):List (Nat×AV):=wl7 ks lev l i b++[(26,.pv (.bool (!b)))]
def wl9(ks:List Tm)(lev:Int)(l:Nat)(i:Int):List (Nat×AV):=[(27,.pv (.int .i64 (IntKind.i64.wrap (i+1)))),(17,.pv (.int .i64 (IntKind.i64.wrap (i+1)))),(16,.pv (.int .i64 (ks.map enc).length)),(15,.pv (enc ks)),(1,.pv (.int .i64 lev)),(2,.yld l)]
def bx(n:Nd)(ks:List Tm):ZI:=[.obj (.box ((ndC n ks).map .pv))]
theorem a3s{T:ZO}{base d L sz:Nat}{env:List AV}{σ:ZI}{x i:IOp}{t:Bool}{xs:List PV}{n:Nat}{k:IntKind}{p:PV}{ps:List PI}(hx:ev env x = .pv (.sl sz t xs))(hi:ev env i = .pv (.int k (n:Int)))(hp:xs[n]? = some p):
  QO T base (⟨some d,.iaddr sz x i,L,none⟩::ps) ⟨env,σ⟩=QO T base ps ⟨env.set d (.pv (.rptr p.cells)),σ⟩:=by
 have hlt:n<xs.length:=(List.getElem?_eq_some_iff.1 hp).1
 have hg:xs[n]=p:=(List.getElem?_eq_some_iff.1 hp).2
 have h:(XW T (base+L) env (.iaddr sz x i)).run σ=some (.pv (.rptr p.cells),σ):=by
  simp only[XW,Xe,hx,hi]
  simp[HM.run,hlt,hg]
 show(DN T base ⟨some d,.iaddr sz x i,L,none⟩ ⟨env,σ⟩).bind (QO T base ps)=_
 simp only[DN,Xv,h,Option.map_some,Option.bind_some,YG]
set_option maxHeartbeats 1000000 in
theorem d6h: ∃ (o0 o1 o2 o3 o4 o5 o6 o7 o8 o9:Array Oper) (a1 b1 a6 b6:List Oper) (y c:Oper) (t1 t2:Array TypeId),
  Tryz.f75.body=some ((Code.region 0 o0 false).seq (((Code.region 1 o1 false).seq (Code.cond (.tmp 13) ((Code.region 2 o2 false).seq .ret) .skip)).seq (((Code.region 3 o3 false).seq (Code.block 0
   (Code.loop ((Code.region 4 o4 false).seq ((Code.cond (.tmp 18) .skip (.exit 0)).seq ((Code.block 1 ((Code.region 5 o5 false).seq ((Code.region 6 o6 false).seq (Code.cond (.tmp 26) ((Code.region 7 o7 false).seq .ret) .skip)))).seq (Code.region 8 o8 false))))))).seq ((Code.region 9 o9 false).seq .ret)))) ∧
  o1.toList=a1++y::b1∧y.op = .call {callee:=.value (.tmp 9),args:=#[.tmp 10,.tmp 11],argTypes:=t1}∧y.guard=none∧y.dst=some 12 ∧
  o6.toList=a6++c::b6∧c.op = .call {callee:=.value (.func 75),args:=#[.tmp 21,.tmp 23,.tmp 24],argTypes:=t2}∧c.guard=none∧c.dst=some 25 ∧
  (∀ n ks lev l,Ku Tryz.prog wkT o0 o0.toList ⟨eW (wk0 n ks lev l),[]⟩=some ⟨eW (wk1 n ks lev l),bx n ks⟩) ∧
  (∀ n ks lev l,Ku Tryz.prog wkT o1 a1 ⟨eW (wk1 n ks lev l),bx n ks⟩=some ⟨eW (wk2 n ks lev l),bx n ks⟩) ∧
  (∀ n ks lev l b,Ku Tryz.prog wkT o1 b1 ⟨eW (wk3 n ks lev l b),bx n ks⟩=some ⟨eW (wk4 n ks lev l b),bx n ks⟩) ∧
  (∀ L,Ku Tryz.prog wkT o2 o2.toList ⟨eW L,[]⟩=some ⟨(eW L).set 6 (.pv (.bool false)),[]⟩) ∧
  (∀ n ks lev l,Ku Tryz.prog wkT o3 o3.toList ⟨eW (wk4 n ks lev l true),bx n ks⟩=some ⟨eW (wk5 n ks lev l),bx n ks⟩) ∧
  (∀ ks lev l i,Ku Tryz.prog wkT o4 o4.toList ⟨eW (wl0 ks lev l i),[]⟩=some ⟨eW (wl1 ks lev l i),[]⟩) ∧
  (∀ ks lev l (i:Nat) n kk,ks[i]? = some (.mk n kk)->Ku Tryz.prog wkT o5 o5.toList ⟨eW (wl1 ks lev l i),[]⟩=some ⟨eW (wl5 ks lev l i n kk),bx n kk⟩) ∧
  (∀ ks lev l i n kk,Ku Tryz.prog wkT o6 a6 ⟨eW (wl5 ks lev l i n kk),bx n kk⟩=some ⟨eW (wl6 ks lev l i n kk),bx n kk⟩) ∧
  (∀ ks lev l i b,Ku Tryz.prog wkT o6 b6 ⟨eW (wl7 ks lev l i b),[]⟩=some ⟨eW (wl8 ks lev l i b),[]⟩) ∧
  (∀ L,Ku Tryz.prog wkT o7 o7.toList ⟨eW L,[]⟩=some ⟨(eW L).set 6 (.pv (.bool false)),[]⟩) ∧
  (∀ ks lev l i,Ku Tryz.prog wkT o8 o8.toList ⟨eW (wl0 ks lev l i),[]⟩=some ⟨eW (wl9 ks lev l i),[]⟩) ∧
  (∀ L,Ku Tryz.prog wkT o9 o9.toList ⟨eW L,[]⟩=some ⟨(eW L).set 6 (.pv (.bool true)),[]⟩):=by
 refine⟨_,_,_,_,_,_,_,_,_,_,[_,_,_],[_],[_,_,_,_],[_],_,_,_,_,rfl,rfl,rfl,rfl,rfl,rfl,rfl,rfl,rfl,?_,?_,?_,?_,?_,?_,?_,?_,?_,?_,?_,?_⟩
 ·intro n ks lev l;kernel_rfl
 ·intro n ks lev l;kernel_rfl
 ·intro n ks lev l b;kernel_rfl
 ·intro L;kernel_rfl
 ·intro n ks lev l;kernel_rfl
 ·intro ks lev l i;kernel_rfl
 ·intro ks lev l i n kk h
  unfold Ku
  refine(Option.bind_eq_some_iff).2 ⟨_,(show Y8 _ _ _ _=some [⟨some 19,.iaddr 10 (.t 15) (.t 17),0,none⟩,⟨some 20,.load true [.int .i64,.int .i64,.str,.int .i64,.str,.sl 1,.sl 1,.sl 2,.sl 1,.sl 10] (.t 19),0,none⟩,⟨some 8,.alloc (.agg [.int .i64 0,.int .i64 0,.str [],.int .i64 0,.str [],.sl 0 true [],.sl 0 true [],.sl 0 true [],.sl 0 true [],.sl 0 true []]),0,none⟩,⟨none,.store 10 (.t 8) (.t 20),1,none⟩] by kernel_rfl),?_⟩
  have hk:(ks.map (enc:Tm->PV))[i]? = some (.agg (ndC n kk)):=by
   rw[List.getElem?_map,h,Option.map_some,Yy];rfl
  refine(a3s (t:=false) (xs:=ks.map enc) (k:=.i64) (n:=i) rfl rfl hk).trans ?_
  kernel_rfl
 ·intro ks lev l i n kk;kernel_rfl
 ·intro ks lev l i b;kernel_rfl
 ·intro L;kernel_rfl
 ·intro ks lev l i;kernel_rfl
 ·intro L;kernel_rfl
def encNd(x:Tm×Int):List PV:=[enc x.1,.int .i64 x.2]
def a0h(J:Nat->Yb->(Nat->Prop)->World->Prop)(Jx:Yb->(Nat->Prop)->World->Prop)(k:Nat)(Φ:Yb)(X:Nat->Prop)(W:World)(e:Ending)(W':World):Prop:=
 ∃ Φ',Φ.le Φ'∧(∀ b,X b->W'.heap[b]? = W.heap[b]?)∧((e = .returned (.bool true)∧J k Φ' X W')∨(e = .returned (.bool false)∧Jx Φ' X W'))
theorem KM(a b:List Tm):Z9 (a++b)=Z9 a+Z9 b:=by rw[Ho,Ho,Ho,List.map_append,List.sum_append]
theorem El(l:Nat)(a b:List Tm):Yf l (a++b)=Yf l a++Yf l b:=by rw[KC,KC,KC,List.flatMap_append]
theorem E8{ks:List Tm}{k:Tm}(h:k∈ks):Yl k<=Z9 ks:=by
 induction ks with
 | nil=>cases h
 | cons a ks ih=>
  rw[Z9]
  rcases List.mem_cons.1 h with rfl|h
  ·omega
  ·have:=ih h;omega
theorem b0z(t:Tm):1<=Yl t:=by cases t;rw[Yl];omega
theorem a3z(ks:List Tm):ks.length<=Z9 ks:=by
 induction ks with
 | nil=>simp
 | cons a ks ih=>have:=b0z a;rw[Z9,List.length_cons];omega
theorem GU(n:Nd)(ks:List Tm):a4x (bx n ks):=by
 intro l o h ty sz xs e
 subst e
 match l,h with
 | 0,h=>cases h
 | l+1,h=>simp[bx]at h
theorem QT:a4x []:=by
 intro l o h
 simp at h
theorem Kt{Φ:Yb}{W:World}{a:Act}{env:List AV}(hg:GlobOK Φ)(hp:WS Φ W)(he:XH (fun _ _=>none) Φ a.tmps env)(hd:a.defers=[]):WW (entry (fun _ _=>none) Φ [] W) ⟨env,[]⟩ a W:=⟨_,Φ,Q0 hg hp,he,hd⟩
theorem Ub{μ':Mu}{Φ Φ':Yb}{σ':ZI}{W W':World}{X:Nat->Prop}(j1:Go.Pl.Good (entry (fun _ _=>none) Φ [] W) μ' Φ' σ' W')(hs:a4x σ')(hx : ∀ b,X b->b<W.heap.size∧Φ b=none):
  Go.Pl.Steps X X Φ Φ' W W'∧(∀ b,X b->W'.heap[b]? = W.heap[b]?):=by
 obtain⟨h1,h2,h3⟩:=Pz j1 hs hx
 exact⟨h1.drop fun b h=>.inl h,h2⟩
theorem KE{μ:Mu}{Φ:Yb}{a:Act}{env:List AV}{x:Operand}{y:IOp}{b:Bool}(h:XH μ Φ a.tmps env)(hx:Yt x=some y)(he:ev env y = .pv (.bool b)):a.eval x = .bool b:=by
 have:=Z8 h hx
 rw[he]at this
 generalize a.eval x=v at this ⊢
 cases YD this
 rfl
theorem d8e{μ:Mu}{Φ:Yb}{a:Act}{env:List AV}{x:Operand}{y:IOp}{k:IntKind}{n:Int}(h:XH μ Φ a.tmps env)(hx:Yt x=some y)(he:ev env y = .pv (.int k n)):a.eval x = .int k n:=by
 have:=Z8 h hx
 rw[he]at this
 generalize a.eval x=v at this ⊢
 cases YD this
 rfl
theorem a4q{μ:Mu}{Φ:Yb}{a:Act}{env:List AV}{x:Operand}{y:IOp}{l:Nat}(h:XH μ Φ a.tmps env)(hx:Yt x=some y)(he:ev env y = .yld l):a.eval x = .func (.yield l) #[] #[]:=by
 have:=Z8 h hx
 rw[he]at this
 generalize a.eval x=v at this ⊢
 cases this
 rfl
theorem a5n{μ:Mu}{Φ:Yb}{a:Act}{env:List AV}{x:Operand}{y:IOp}{p:PV}(h:XH μ Φ a.tmps env)(hx:Yt x=some y)(he:ev env y = .pv p):RP Φ (a.eval x) p:=by
 have:=Z8 h hx
 rw[he]at this
 exact YD this
theorem d4p{id:Nat}{ops:Array Oper}{b:Bool}{Q:Xa}{a:Act}{w:World}{Φ:Yb}{X:Nat->Prop}{J:Yb->(Nat->Prop)->World->Prop}(hJ:JOK J)(hj:J Φ X w)(hd:a.defers=[])(hsz:a.tmps.size=28)
  (h : ∀ L,Ku Tryz.prog wkT ops ops.toList ⟨eW L,[]⟩=some ⟨(eW L).set 6 (.pv (.bool b)),[]⟩)
  (hQ : ∀ (a':Act) w' Φ',a'.defers=[]->a'.tmps.getD 6 undef = .bool b->Φ.le Φ'->(∀ b,X b->w'.heap[b]? = w.heap[b]?)->J Φ' X w'->Q .ret a' w'):((Code.region id ops false).seq .ret).wpIn (Y1 none) 4 Tryz.prog Q a w:=by
 refine wpIn_seq (CJ Zg (h []) (Kt (hJ.glob hj) (hJ.phi hj) (LB (L:=[]) (n:=28) hsz (fun p hp=>by cases hp)) hd) ?_)
 rintro a' w' ⟨μ',Φ',hg,he,hd'⟩
 refine wpIn_ret ?_
 obtain⟨s1,s2⟩:=Ub hg QT (fun b hb=>hJ.out hj hb)
 exact hQ a' w' Φ' hd' (KE (x:=.tmp 6) (y:=.t 6) he rfl (by cases b <;> kernel_rfl)) hg.Φle s2 (hJ.step hj s1)
theorem e0t{Φ:Yb}{v:Value}{n:Nd}{ks:List Tm}{lev:Nat}{l:Nat}(hv:RP Φ v (.agg (ndC n ks))):XH (fun _ _=>none) Φ (#[v,.int .i64 lev,.func (.yield l) #[] #[]]++Array.replicate 25 undef) (eW (wk0 n ks lev l)):=by
 refine LB (by simp) ?_
 intro q hq u hu
 simp only[wk0,List.mem_cons,List.not_mem_nil,or_false]at hq
 rcases hq with rfl|rfl|rfl
 ·simp[Array.getElem?_append]at hu
  subst hu
  exact .pv _ _ hv
 ·simp[Array.getElem?_append]at hu
  subst hu
  exact .pv _ _ (.int _ _)
 ·simp[Array.getElem?_append]at hu
  subst hu
  exact .yld l
theorem a4s{μ:Mu}{Φ:Yb}{t:Array Value}{L:List (Nat×AV)}(h:XH μ Φ t (eW L)):t.size=28:=(b5j (n:=28) h).1
set_option maxHeartbeats 4000000 in
theorem c9o{l:Nat}{J:Nat->Yb->(Nat->Prop)->World->Prop}{Jx:Yb->(Nat->Prop)->World->Prop}{xs:List (Tm×Int)}(hJok : ∀ k,JOK (J k))(hJxok:JOK Jx)(hY:a8c Tryz.prog l encNd xs J Jx):
  ∀ (m:Nat) (t:Tm),SizeOf.sizeOf t<m-> ∀ (lev k:Nat) (Φ:Yb) (X:Nat->Prop) (W:World) (v:Value),J k Φ X W->RP Φ v (enc t)->(∀ i x,(Yn lev t)[i]? = some x->xs[k+i]? = some x)->lev+Yl t<=4611686018427387904 ->
   Calls Tryz.prog 75 #[v,.int .i64 lev,.func (.yield l) #[] #[]] W (a0h J Jx (k+Yl t) Φ X W):=by
 intro m
 induction m with
 | zero=>intro t h;omega
 | succ m ih=>
  intro t ht lev k Φ X W v hj hv hx hlev
  obtain⟨n,ks⟩:=t
  obtain⟨o0,o1,o2,o3,o4,o5,o6,o7,o8,o9,a1,b1,a6,b6,y,c,t1,t2,hbody,e1,y1,y2,y3,e6,c1,c2,c3,h0,h1,h1b,h2,h3,h4,h5,h6,h6b,h7,h8,h9⟩:=d6h
  rw[Yy]at hv
  refine callsIn_wide.1 (callsIn_of_wp (F:=Fence.wide) (n:=4) Tryz.func75 hbody trivial ?_ rfl)
  have hE0:XH (fun _ _=>none) Φ (#[v,.int .i64 lev,.func (.yield l) #[] #[]]++Array.replicate 25 undef) (eW (wk0 n ks lev l)):=e0t hv
  have hX0 : ∀ b,X b->b<W.heap.size∧Φ b=none:=fun b hb=>(hJok k).out hj hb
  refine wpIn_seq (CJ (nn:=4) Zg (h0 n ks lev l) (Kt ((hJok k).glob hj) ((hJok k).phi hj) hE0 rfl) ?_)
  intro a w hr
  refine wpIn_seq (wpIn_seq (wpIn_region_list ?_))
  rw[e1]
  refine Hq Zg (fun o ho=>by rw[e1];simp[ho]) (h1 n ks lev l) hr ?_
  rintro a2 w2 ⟨μ2,Φ2,hg2,he2,hd2⟩
  obtain⟨s2,k2,n2⟩:=Pz hg2 (GU n ks) hX0
  have hj2:=(hJok k).step hj s2
  have hx0:xs[k]? = some (.mk n ks,(lev:Int)):=hx 0 _ (by rw[Yn];rfl)
  have r10:RP Φ2 (a2.eval (.tmp 10)) (enc (Tm.mk n ks)):=by
   rw[Yy]
   exact a5n he2 (y:=.t 10) rfl (by kernel_rfl)
  have r11:RP Φ2 (a2.eval (.tmp 11)) (.int .i64 lev):=a5n he2 (y:=.t 11) rfl (by kernel_rfl)
  have hvs:Wy Φ2 (#[a2.eval (.tmp 10),a2.eval (.tmp 11)]:Array Value).toList (encNd (.mk n ks,(lev:Int))):=d6b r10 (d6b r11 a7y)
  refine c4m y1 y2 y3 (a4q he2 (y:=.t 9) rfl (by kernel_rfl)) (vs:=#[a2.eval (.tmp 10),a2.eval (.tmp 11)]) (by simp) (hY 3 k _ Φ2 _ w2 _ hx0 hj2 hvs) ?_
  rintro e w3 ⟨Φ3,hle3,hkeep3,hres⟩
  -- both answers
  have both : ∀ (b:Bool) (JJ:Yb->(Nat->Prop)->World->Prop),JOK JJ->JJ Φ3 (fun b=>X b∨Cm μ2 (bx n ks) b) w3-> 
    WW (entry μ2 Φ3 (bx n ks) w3) ⟨eW (wk3 n ks lev l b),bx n ks⟩ (a2.put (some 12) (.bool b)) w3:=by
   intro b JJ hJJ hjj
   refine⟨μ2,Φ3,hg2.moved (hJJ.glob hjj) hle3 (hJJ.phi hjj) (fun q hq=>hkeep3 q (.inr hq)) (fun q hq=>(hJJ.out hjj (.inr hq)).2) (GU n ks),?_,by rw[WB];exact hd2⟩
   have:=Kn (d:=some 12) (he2.mono (.refl _) hle3) (.pv _ _ (.bool b))
   exact this
  have fin : ∀ (b:Bool) (a':Act) (w':World) (Φ':Yb),a'.defers=[]->a'.tmps.getD 6 undef = .bool b->(a0h J Jx (k+Yl (.mk n ks)) Φ X W (.returned (.bool b)) w')->bodyPost Tryz.prog Tryz.f75 (a0h J Jx (k+Yl (.mk n ks)) Φ X W) .ret a' w':=by
   intro b a' w' Φ' hd h6 hp
   refine bodyPost_ret (results_tmp rfl _ _ _) hd ?_
   rw[h6]
   exact hp
  rcases hres with ⟨rfl,hj3⟩|⟨rfl,hj3⟩
  ·refine⟨_,rfl,?_⟩
   rw[<- List.append_nil b1]
   refine Hq Zg (fun o ho=>by rw[e1];simp[ho]) (h1b n ks lev l true) (both true _ (hJok _) hj3) ?_
   intro a4 w4 hr4
   have he4:=hr4
   obtain⟨μ4,Φ4,hg4,he4,hd4⟩:=he4
   refine wpIn_cond (t:=false) (KE (x:=.tmp 13) (y:=.t 13) he4 rfl (by kernel_rfl)) (wpIn_skip ?_)
   refine wpIn_seq (wpIn_seq (CJ (nn:=4) Zg (h3 n ks lev l) hr4 ?_))
   rintro a5 w5 ⟨μ5,Φ5,hg5,he5,hd5⟩
   have hX3 : ∀ b,X b->b<w3.heap.size∧Φ3 b=none:=fun b hb=>(hJok _).out hj3 (.inl hb)
   obtain⟨s5,k5⟩:=Cy hg5 (GU n ks) hX3 n2
   have hj5:=(hJok _).step hj3 (s5.drop (Y:=X) fun b h=>.inl h)
   have hk5 : ∀ b,X b->w5.heap[b]? = W.heap[b]? :=fun b hb=>(k5 b hb).trans ((hkeep3 b (.inl hb)).trans (k2 b hb))
   have hle5:Φ.le Φ5:=hg2.Φle.trans (hle3.trans hg5.Φle)
   have he5':XH (fun _ _=>none) Φ5 a5.tmps (eW (wl0 ks lev l 0)):=c8l (n:=28) he5 (.refl _) (by
    intro p hp
    simp only[wl0,List.mem_cons,List.not_mem_nil,or_false]at hp
    rcases hp with rfl|rfl|rfl|rfl|rfl <;> exact⟨by simp,rfl,rfl⟩)
   clear both hr4 hg4 he4 hd4 hE0 hr hg2 he2 hd2 r10 r11 hvs
   refine wpIn_block (wpIn_loop_ghost (fun(z:Nat) (a:Act) (w:World)=> ∃ (i:Nat) (Φ':Yb),z=ks.length - i∧i<=ks.length∧Φ.le Φ'∧(∀ b,X b->w.heap[b]? = W.heap[b]?)∧J (k+1+Z9 (ks.take i)) Φ' X w∧XH (fun _ _=>none) Φ' a.tmps (eW (wl0 ks lev l i))∧a.defers=[]) _
    ⟨0,Φ5,rfl,Nat.zero_le _,hle5,hk5,hj5,he5',hd5⟩ ?_)
   clear hj5 hk5 hle5 he5' hd5 s5 k5 hg5 he5
   rintro z a w ⟨i,Φi,rfl,hi,hle,hk,hj,he,hd⟩
   have hXi : ∀ b,X b->b<w.heap.size∧Φi b=none:=fun b hb=>(hJok _).out hj hb
   refine wpIn_seq (CJ (nn:=4) Zg (h4 ks lev l i) (Kt ((hJok _).glob hj) ((hJok _).phi hj) he hd) ?_)
   intro a7 w7 hr7
   have hr7':=hr7
   obtain⟨μ7,Φ7,hg7,he7,hd7⟩:=hr7'
   by_cases hlt:i<ks.length
   ·have hb:decide ((i:Int)<((ks.map (enc:Tm->PV)).length:Int))=true:=by simpa using hlt
    refine wpIn_seq (wpIn_cond (t:=true) (KE (x:=.tmp 18) (y:=.t 18) he7 rfl (by rw[<- hb];kernel_rfl)) (wpIn_skip ?_))
    obtain⟨kn,kk,hkk⟩ : ∃ kn kk,ks[i]? = some (.mk kn kk):=by
     cases hki:ks[i]with
     | mk kn kk=>exact⟨kn,kk,by rw[List.getElem?_eq_getElem hlt,hki]⟩
    refine wpIn_seq (wpIn_block (wpIn_seq (CJ (nn:=4) Zg (h5 ks lev l i kn kk hkk) hr7 ?_)))
    intro a8 w8 hr8
    refine wpIn_seq (wpIn_region_list ?_)
    rw[e6]
    refine Hq Zg (fun o ho=>by rw[e6];simp[ho]) (h6 ks lev l i kn kk) hr8 ?_
    rintro a9 w9 ⟨μ9,Φ9,hg9,he9,hd9⟩
    obtain⟨s9,k9⟩:=Ub hg9 (GU kn kk) hXi
    have hj9:=(hJok _).step hj s9
    have hmem:Tm.mk kn kk∈ks:=List.mem_of_getElem? hkk
    have hsz:=d7o (n:=n) hmem
    have hdm:=E8 hmem
    have hdp:Yl (.mk n ks)=Z9 ks+1:=by rw[Yl]
    have hkl:=a3z ks
    have hcut:ks=ks.take i++(.mk kn kk)::ks.drop (i+1):=by
     have h:=List.getElem?_eq_some_iff.1 hkk
     obtain⟨h1,h2⟩:=h
     rw[<- h2,List.getElem_cons_drop,List.take_append_drop]
    have r21:RP Φ9 (a9.eval (.tmp 21)) (enc (Tm.mk kn kk)):=by
     rw[Yy]
     exact a5n he9 (y:=.t 21) rfl (by kernel_rfl)
    have e23:a9.eval (.tmp 23) = .int .i64 ((lev+1:Nat):Int):=by
     have:=d8e (x:=.tmp 23) (y:=.t 23) he9 rfl (by kernel_rfl:_=AV.pv (.int .i64 (IntKind.i64.wrap ((lev:Int)+1))))
     rw[this,next (by omega)]
    have e24:a9.eval (.tmp 24) = .func (.yield l) #[] #[]:=a4q he9 (y:=.t 24) rfl (by kernel_rfl)
    have hxk : ∀ j x,(Yn (lev+1) (.mk kn kk))[j]? = some x->xs[k+1+Z9 (ks.take i)+j]? = some x:=by
     intro j x hjx
     have:(Yn lev (.mk n ks))[1+Z9 (ks.take i)+j]? = some x:=by
      rw[Yn,show 1+Z9 (ks.take i)+j=(Z9 (ks.take i)+j)+1 by omega,List.getElem?_cons_succ,hcut,El,Yf,<- hcut,<- Hm (lev+1) (ks.take i),
       List.getElem?_append_right (by omega),Nat.add_sub_cancel_left,List.getElem?_append_left (List.getElem?_eq_some_iff.1 hjx).1,hjx]
     have:=hx _ _ this
     rw[<- this]
     congr 1
     omega
    have hcall:=ih (.mk kn kk) (by omega) (lev+1) (k+1+Z9 (ks.take i)) Φ9 X w9 _ hj9 r21 hxk (by omega)
    refine F9 c1 c2 c3 Tryz.func75 rfl (by kernel_rfl) (vs:=#[a9.eval (.tmp 21),.int .i64 ((lev+1:Nat):Int),.func (.yield l) #[] #[]]) (by simp only[List.map_toArray,List.map_cons,List.map_nil,e23,e24]) hcall ?_
    rintro e w10 ⟨Φ10,hle10,hkeep10,hres⟩
    have hks : ∀ b,X b->w10.heap[b]? = W.heap[b]? :=fun b hb=>(hkeep10 b hb).trans ((k9 b hb).trans (hk b hb))
    have he10 : ∀ b,XH (fun _ _=>none) Φ10 (a9.put (some 25) (.bool b)).tmps (eW (wl7 ks lev l i b)):=by
     intro b
     have h:=Kn (d:=some 25) (he9.mono (.refl _) hle10) (.pv _ _ (.bool b))
     refine c8l (n:=28) (L:=wl6 ks lev l i kn kk++[(25,.pv (.bool b))]) h (.refl _) ?_
     intro p hp
     simp only[wl7,wl0,List.mem_cons,List.mem_append,List.not_mem_nil,or_false]at hp
     rcases hp with (rfl|rfl|rfl|rfl|rfl)|rfl <;> exact⟨by simp,rfl,rfl⟩
    have hsz10:ks.take (i+1)=ks.take i++[.mk kn kk]:=by rw[List.take_add_one,hkk];rfl
    rcases hres with ⟨rfl,hj10⟩|⟨rfl,hj10⟩
    ·refine⟨_,rfl,?_⟩
     rw[<- List.append_nil b6]
     refine Hq Zg (fun o ho=>by rw[e6];simp[ho]) (h6b ks lev l i true) (Kt ((hJok _).glob hj10) ((hJok _).phi hj10) (he10 true) (by rw[WB];exact hd9)) ?_
     intro a11 w11 hr11
     obtain⟨μ11,Φ11,hg11,he11,hd11⟩:=hr11
     obtain⟨s11,k11⟩:=Ub hg11 QT (fun b hb=>(hJok _).out hj10 hb)
     have hj11:=(hJok _).step hj10 s11
     refine wpIn_cond (t:=false) (KE (x:=.tmp 26) (y:=.t 26) he11 rfl (by kernel_rfl)) (wpIn_skip ?_)
     have he11':XH (fun _ _=>none) Φ11 a11.tmps (eW (wl0 ks lev l i)):=c8l (n:=28) he11 (.refl _) (by
      intro p hp
      simp only[wl0,List.mem_cons,List.not_mem_nil,or_false]at hp
      rcases hp with rfl|rfl|rfl|rfl|rfl <;> exact⟨by simp,rfl,rfl⟩)
     refine CJ (nn:=4) Zg (h8 ks lev l i) (Kt ((hJok _).glob hj11) ((hJok _).phi hj11) he11' hd11) ?_
     rintro a12 w12 ⟨μ12,Φ12,hg12,he12,hd12⟩
     obtain⟨s12,k12⟩:=Ub hg12 QT (fun b hb=>(hJok _).out hj11 hb)
     have hj12:=(hJok _).step hj11 s12
     refine⟨ks.length - (i+1),by omega,i+1,Φ12,rfl,hlt,hle.trans (hg9.Φle.trans (hle10.trans (hg11.Φle.trans hg12.Φle))),fun b hb=>(k12 b hb).trans ((k11 b hb).trans (hks b hb)),?_,?_,hd12⟩
     ·rw[hsz10,KM,Z9,Z9,Nat.add_zero,<- Nat.add_assoc]
      exact hj12
     ·refine c8l (n:=28) he12 (.refl _) ?_
      intro p hp
      simp only[wl0,List.mem_cons,List.not_mem_nil,or_false]at hp
      rcases hp with rfl|rfl|rfl|rfl|rfl
      ·exact⟨by simp,by rw[<- next (show i<9223372036854775807 by omega)];rfl,rfl⟩
      all_goals exact⟨by simp,rfl,rfl⟩
    ·refine⟨_,rfl,?_⟩
     rw[<- List.append_nil b6]
     refine Hq Zg (fun o ho=>by rw[e6];simp[ho]) (h6b ks lev l i false) (Kt (hJxok.glob hj10) (hJxok.phi hj10) (he10 false) (by rw[WB];exact hd9)) ?_
     rintro a11 w11 ⟨μ11,Φ11,hg11,he11,hd11⟩
     obtain⟨s11,k11⟩:=Ub hg11 QT (fun b hb=>hJxok.out hj10 hb)
     have hj11:=hJxok.step hj10 s11
     refine wpIn_cond (t:=true) (KE (x:=.tmp 26) (y:=.t 26) he11 rfl (by kernel_rfl)) ?_
     refine d4p hJxok hj11 hd11 (a4s he11) h7 ?_
     intro a' w' Φ' hd' h6' hle' hk' hj'
     refine fin false a' w' Φ' hd' h6' ⟨Φ',?_,fun b hb=>(hk' b hb).trans ((k11 b hb).trans (hks b hb)),.inr ⟨rfl,hj'⟩⟩
     exact hle.trans (hg9.Φle.trans (hle10.trans (hg11.Φle.trans hle')))
   ·have hb:decide ((i:Int)<((ks.map (enc:Tm->PV)).length:Int))=false:=by simpa using hlt
    refine wpIn_seq (wpIn_cond (t:=false) (KE (x:=.tmp 18) (y:=.t 18) he7 rfl (by rw[<- hb];kernel_rfl)) (wpIn_exit ?_))
    obtain⟨s7,k7⟩:=Ub hg7 QT hXi
    have hj7:=(hJok _).step hj s7
    have hii:i=ks.length:=by omega
    subst hii
    rw[List.take_length]at hj7
    show((Code.region 9 o9 false).seq .ret).wpIn _ _ _ _ _ _
    refine d4p (hJok _) hj7 hd7 (a4s he7) h9 ?_
    intro a' w' Φ' hd' h6' hle' hk' hj'
    refine fin true a' w' Φ' hd' h6' ⟨Φ',hle.trans (hg7.Φle.trans hle'),fun b hb=>(hk' b hb).trans ((k7 b hb).trans (hk b hb)),.inl ⟨rfl,?_⟩⟩
    rw[Yl,show k+(Z9 ks+1)=k+1+Z9 ks by omega]
    exact hj'
  ·refine⟨_,rfl,?_⟩
   rw[<- List.append_nil b1]
   refine Hq Zg (fun o ho=>by rw[e1];simp[ho]) (h1b n ks lev l false) (both false _ hJxok hj3) ?_
   rintro a4 w4 ⟨μ4,Φ4,hg4,he4,hd4⟩
   refine wpIn_cond (t:=true) (KE (x:=.tmp 13) (y:=.t 13) he4 rfl (by kernel_rfl)) ?_
   obtain⟨s4,k4⟩:=Cy hg4 (GU n ks) (fun b hb=>hJxok.out hj3 (.inl hb)) n2
   have hj4:=hJxok.step hj3 (s4.drop (Y:=X) fun b h=>.inl h)
   refine d4p hJxok hj4 hd4 (a4s he4) h2 ?_
   intro a' w' Φ' hd' h6' hle' hk' hj'
   exact fin false a' w' Φ' hd' h6' ⟨Φ',hg2.Φle.trans (hle3.trans (hg4.Φle.trans hle')),fun b hb=>(hk' b hb).trans ((k4 b hb).trans ((hkeep3 b (.inl hb)).trans (k2 b hb))),.inr ⟨rfl,hj'⟩⟩
def d9p(pss:List (List PV)):Tm:=match pss with
 | [ps]=>dec (.agg ps)
 | _=>.mk nd0 []
def pre_ndI(pss:List (List PV)):Bool:=match pss with
 | [ps]=>can Tm (.agg ps)&&decide (Yl (dec (.agg ps))<=1048576)
 | _=>false
def F_ndI(pss:List (List PV)):List (Tm×Int):=Yn 1 (d9p pss)
theorem tmOf_nd(n:Nd)(ks:List Tm):d9p [ndC n ks] = .mk n ks:=by
 show dec (PV.agg (ndC n ks))=_
 rw[show(PV.agg (ndC n ks))=enc (Tm.mk n ks)from(Yy n ks).symm,Enc.dec_enc]
theorem pre_nd{n:Nd}{ks:List Tm}(h:Yl (.mk n ks)<=1048576):pre_ndI [ndC n ks]=true:=by
 show(can Tm (.agg (ndC n ks))&&decide (Yl (dec (PV.agg (ndC n ks)))<=1048576))=true
 rw[show(PV.agg (ndC n ks))=enc (Tm.mk n ks)from(Yy n ks).symm,Enc.dec_enc,A8,Bool.true_and]
 exact decide_eq_true h
theorem d3g: ∃ (o:Array Oper) (a:List Oper) (c:Oper) (t:Array TypeId),Tryz.f74.body=some (.region 0 o false)∧o.toList=a++[c] ∧
  c.op = .call {callee:=.value (.func 75),args:=#[.tmp 3,.const (.int .i64 1),.tmp 4],argTypes:=t}∧c.guard=none∧c.dst=some 5 ∧
  ∀ n ks l,Ku Tryz.prog wkT o a ⟨Xi 6 0 [(0,.yld l),(1,.pv (.rptr (ndC n ks)))],[]⟩=some ⟨Xi 6 0 [(0,.yld l),(1,.pv (.rptr (ndC n ks))),(3,.pv (.agg (ndC n ks))),(4,.yld l)],[]⟩:=by
 refine⟨_,[_,_],_,_,rfl,rfl,rfl,rfl,rfl,?_⟩
 intro n ks l
 kernel_rfl
set_option maxHeartbeats 1000000 in
theorem FC:b4m Tryz.prog 74 encNd pre_ndI F_ndI:=by
 refine⟨⟨_,Tryz.func74,rfl,rfl⟩,?_⟩
 intro pss hpre Φ0 lb l J Jx W hcaps hJok hJxok hY h0
 unfold pre_ndI at hpre
 split at hpre
 ·rename_i ps
  simp only[Bool.and_eq_true,decide_eq_true_eq]at hpre
  obtain⟨hc,hsz⟩:=hpre
  obtain⟨t,ht⟩:=a1l hc
  obtain⟨n,ks⟩:=t
  rw[ht,Enc.dec_enc]at hsz
  rw[Yy]at ht
  obtain rfl:ps=ndC n ks:=by injection ht
  have hF:F_ndI [ndC n ks]=Yn 1 (.mk n ks):=by unfold F_ndI;rw[tmOf_nd]
  rw[hF]at hY ⊢
  obtain⟨lb⟩:=lb
  match lb,hcaps.1 with
  | [p1],_=>
   obtain⟨B1,c1,rfl,g1,r1,o1⟩:=hcaps.2 0 p1 _ rfl rfl
   have k1:=b1s g1 r1 o1
   obtain⟨o,a,c,t,hbody,e1,c1,c2,c3,hgo⟩:=d3g
   refine callsIn_wide.1 (callsIn_of_wp (F:=Fence.wide) (n:=4) Tryz.func74 hbody trivial ?_ rfl)
   have hE:XH (fun _ _=>none) Φ0 ((#[Value.func (.yield l) #[] #[]]++ #[Value.pointer (some ⟨B1,0,none⟩)])++Array.replicate 4 undef) (Xi 6 0 [(0,.yld l),(1,.pv (.rptr (ndC n ks)))]):=by
    refine LB (by simp) ?_
    intro q hq u hu
    simp only[List.mem_cons,List.not_mem_nil,or_false]at hq
    rcases hq with rfl|rfl
    ·simp[Array.getElem?_append]at hu
     subst hu
     exact .yld l
    ·simp[Array.getElem?_append]at hu
     subst hu
     exact .pv _ _ k1
   refine wpIn_region_list ?_
   rw[e1]
   refine Hq (nn:=4) Zg (fun x hx=>by rw[e1];simp[hx]) (hgo n ks l) (Kt ((hJok 0).glob h0) ((hJok 0).phi h0) hE rfl) ?_
   rintro a2 w2 ⟨μ2,Φ2,hg2,he2,hd2⟩
   obtain⟨s2,k2⟩:=Ub (X:=fun _=>False) hg2 QT (fun b hb=>hb.elim)
   have hj2:=(hJok _).step h0 s2
   have r3:RP Φ2 (a2.eval (.tmp 3)) (enc (Tm.mk n ks)):=by
    rw[Yy]
    exact a5n he2 (y:=.t 3) rfl (by kernel_rfl)
   have e4:a2.eval (.tmp 4) = .func (.yield l) #[] #[]:=a4q he2 (y:=.t 4) rfl (by kernel_rfl)
   have hcall:=c9o hJok hJxok hY (SizeOf.sizeOf (Tm.mk n ks)+1) (.mk n ks) (Nat.lt_succ_self _) 1 0 Φ2 _ w2 _ hj2 r3 (fun i x h=>by rw[Nat.zero_add];exact h) (by omega)
   refine F9 c1 c2 c3 Tryz.func75 rfl (by kernel_rfl) (vs:=#[a2.eval (.tmp 3),.int .i64 ((1:Nat):Int),.func (.yield l) #[] #[]]) (by simp only[List.map_toArray,List.map_cons,List.map_nil,e4];rfl) hcall ?_
   rintro e w3 ⟨Φ3,hle3,hkeep3,hres⟩
   have fin : ∀ v,(∃ Φ' X',J (Yn 1 (.mk n ks)).length Φ' X' w3∨Jx Φ' X' w3)->wpListIn (Y1 none) 4 Tryz.prog o (bodyPost Tryz.prog Tryz.f74 fun e W'=>(∃ v,e = .returned v)∧ ∃ Φ' X',(J (Yn 1 (.mk n ks)).length Φ' X' W'∨Jx Φ' X' W')) [] (a2.put (some 5) v) w3:=by
    intro v hv
    exact⟨by rw[WB];exact hd2,_,results_none rfl _ _ _,⟨_,rfl⟩,hv⟩
   rcases hres with ⟨rfl,hj3⟩|⟨rfl,hj3⟩
   ·refine⟨_,rfl,fin _ ⟨Φ3,fun _=>False,.inl ?_⟩⟩
    rw[QW,<- Nat.zero_add (Yl _)]
    exact hj3
   ·exact⟨_,rfl,fin _ ⟨Φ3,_,.inr hj3⟩⟩
 ·cases hpre
end Go.Proofs.YtbfjgcjjaoaaaaaGreatDoor
namespace Go.Pl
open Go.RowKit
open Enc (enc dec is)
open EncL (encL decL isL)
open Go.Proofs.YtbfjgcjjaoaaaaaGreatDoor (ndC encNd pre_ndI F_ndI tmOf_nd pre_nd)
theorem c3h: ∀ args os,VR args os=true->Ze a1r os.length (Xt os.length Mw fun r=>r=Qn 74 args os) NT [] (Uz c8b args os):=by
 intro args os h
 unfold VR at h
 split at h
 ·obtain⟨⟨n,ks⟩,rfl⟩:=a1l h
  rw[Yy]
  exact d7d n ks rfl
 ·cases h
def tvI(t:Tm)(k:Nat)(σ:ZI):Prop:=(∀ j p,j<k->(Yn 1 t)[j]? = some p->okN j p=true)∧k<=400∧σ=[.obj (.box [.pv (.bool false)]),.obj (.box [.pv (.int .i64 k)])]
def tvX(t:Tm)(σ:ZI):Prop:=Y4 t=false∧ ∃ (c:Int) (r:List Slot),σ = .obj (.box [.pv (.bool false)]):: .obj (.box [.pv (.int .i64 c)])::r
def tvE:Vo:=fun n st q=>n=0∧a1x J2 0 (.t 7) 74 [8,9] TN Tq encNd pre_ndI F_ndI st q
def tvM(t:Tm)(k:Nat)(x:Tm×Int)(st:St):Prop:=(∀ j p,j<k->(Yn 1 t)[j]? = some p->okN j p=true)∧k<=400 ∧
 st=⟨Xi 23 0 [(2,.ptr 0 0),(3,.ptr 1 0),(4,.ptr 2 0),(5,.pv (.int .i64 x.2))],[.obj (.box [.pv (.bool false)]),.obj (.box [.pv (.int .i64 k)]),.obj (.box ((ndC x.1.nd x.1.ks).map .pv))]⟩
theorem c9p: ∀ x:Tm×Unit,tW x.1=true->J5 J2 tvE 0 (Za Hz (Zi (Y4 x.1))) CZ [] (Z0 d3h (encL x)):=by
 rintro⟨t,⟨⟩⟩ ht
 have ht:tW t=true:=ht
 obtain⟨n,ks⟩:=t
 rw[<- YN]
 show J5 J2 tvE 0 (Za Hz (Zi (Y4 (.mk n ks)))) _ _ _
 have hsz:Yl (.mk n ks)<=1048576:=Nat.le_trans (GQ _) (of_decide_eq_true ht)
 have hF:F_ndI [ndC n ks]=Yn 1 (.mk n ks):=by unfold F_ndI;rw[tmOf_nd]
 refine d9f tvE n ks ⟨?_,rfl,[2],[ndC n ks],[2,3],[2,3,4,5],[],⟨Xi 23 0 [(2,.ptr 0 0),(3,.ptr 1 0)],[.obj (.box [.pv (.bool false)]),.obj (.box [.pv (.int .i64 0)])]⟩,tvI (.mk n ks),tvX (.mk n ks),tvM (.mk n ks),
  rfl,by simp,rfl,?_,by kernel_rfl,pre_nd hsz,⟨fun j p hj=>by omega,by omega,rfl⟩,?_,?_,?_,?_⟩
 ·show can Tm (PV.agg (ndC n ks))=true
  rw[show(PV.agg (ndC n ks))=enc (Tm.mk n ks)from(Yy n ks).symm,A8]
 ·intro j l ps hl hps
  match j with
  | 0=>cases hl;cases hps;rfl
  | j+1=>simp at hl
 ·rintro k ⟨⟨xn,xk⟩,v⟩ σ hx ⟨hall,hk,rfl⟩
  have e:Tt [8,9] ((encNd (.mk xn xk,v)).map .pv) (Xi 23 0 [(2,.ptr 0 0),(3,.ptr 1 0)])=Xi 23 0 [(2,.ptr 0 0),(3,.ptr 1 0),(8,.pv (.agg (ndC xn xk))),(9,.pv (.int .i64 v))]:=by
   show Tt [8,9] (([enc (Tm.mk xn xk),.int .i64 v]).map .pv) _=_
   rw[Yy]
   kernel_rfl
  rw[e]
  exact d4d (G:=fun _=>False) _ xn xk k v ⟨rfl,hall,hk,rfl⟩
 ·rintro k ⟨⟨xn,xk⟩,v⟩ st hx ⟨hall,hk,rfl⟩
  rw[hF]at hx
  have hno:=fun h=>b8y (.mk n ks) hx h
  have hw:IntKind.i64.wrap ((k:Int)+1)=((k+1:Nat):Int):=next (by omega)
  refine d7r (G:=tvX (.mk n ks)) _ xn xk k v ?_
  rw[hw]
  have bad:okN k (.mk xn xk,v)=false-> ∀ r,tvX (.mk n ks) (.obj (.box [.pv (.bool false)]):: .obj (.box [.pv (.int .i64 ((k+1:Nat):Int))])::r):=fun h r=>⟨hno h,_,r,rfl⟩
  refine Yg (fun h1=>bad ?_ _) fun h1=>Yg (fun h2=>bad ?_ _) fun h2=>⟨Zf (.mk xn xk,()) (YN xn xk) (Dz ht (List.mem_of_getElem? hx)),Zd (.mk xn xk,()) (YN xn xk) (VY (fun h3=>bad ?_ _) fun h3=>⟨rfl,⟨Xi 23 0 [(2,.ptr 0 0),(3,.ptr 1 0)],[.obj (.box [.pv (.bool false)]),.obj (.box [.pv (.int .i64 ((k+1:Nat):Int))])]⟩,by kernel_rfl,rfl,?_,?_,rfl⟩)⟩
  ·unfold okN;rw[decide_eq_false (show ¬ k<400 by omega)];rfl
  ·unfold okN;rw[decide_eq_false (show ¬ v<=40 by omega),Bool.and_false];rfl
  ·have h3:Jp (.mk xn xk)=false:=h3
   unfold okN;rw[h3,Bool.and_false]
  ·have h3:Jp (.mk xn xk)=true:=h3
   intro j p hj hp
   rw[Nat.lt_succ_iff_lt_or_eq]at hj
   rcases hj with hj|rfl
   ·exact hall j p hj hp
   ·rw[hx]at hp
    cases hp
    unfold okN
    rw[h3,decide_eq_true (show j<400 by omega),decide_eq_true (show v<=40 by omega)];rfl
  ·omega
 ·rintro σ ⟨hall,hk,rfl⟩
  refine d6c tvE n ks _ (ZA (a9l _ fun j p hp=>hall j p ?_ hp).symm)
  rw[hF]
  exact(List.getElem?_eq_some_iff.1 hp).1
 ·rintro σ ⟨hv,c,r,rfl⟩
  exact d0x tvE n ks c r (ZA hv.symm)
theorem d0c: ∀ args os,JU args os=true->Ze b8o os.length (Xt os.length a0f fun r=>r=G9 86 args os) a4i [] (Uz d6r args os):=by
 intro args os h
 unfold JU at h
 split at h
 ·exact d9u _ rfl
 ·cases h
def tdH(m:List Str)(n:Nd)(ks:List Tm):ZI:=[.obj (.box [.map 1]),.obj (.map (Jm m)),.obj (.box ((ndC n ks).map .pv))]
def tdN(N:ZI->Prop):Vo:=fun n S' _=>n=99∧N S'.heap
theorem b1f{N G:ZI->Prop}(n:Nd)(ks:List Tm)(i:Int)(l:Lin)(hl:l.t.length<=1048576): ∀ (d j:Nat) (m:List Str),d+j=l.t.length ->
  AtS [.seq (.ext 99 [])] KZ (tdN N) 3 (fun st=>G st.heap) Vk 0 36 [(3,.ptr 0 0),(15,.pv (enc n.sizes)),(16,.pv (.int .i64 n.sizes.length)),(17,.pv (.int .i64 (IntKind.i64.wrap (i+1))))] (tdH (((l.t.drop j).map (·.v)).foldl Ko m) n ks) ->
  AtS [.seq (.ext 99 [])] KZ (tdN N) 3 (fun st=>G st.heap) Vk 1 36 [(3,.ptr 0 0),(15,.pv (enc n.sizes)),(16,.pv (.int .i64 n.sizes.length)),(17,.pv (.int .i64 i)),(22,.pv (enc l.t)),(23,.pv (.int .i64 l.t.length)),(24,.pv (.int .i64 j))] (tdH m n ks):=by
 intro d
 induction d with
 | zero=>
  intro j m hj h
  rw[List.drop_eq_nil_of_le (by omega)]at h
  exact c3r (tdN N) n ks m i j l (YA (YR (by omega)) h)
 | succ d ih=>
  intro j m hj h
  have hlt:j<l.t.length:=by omega
  obtain⟨u1,u2⟩:=d4k m l.t[j].v
  refine c3r (tdN N) n ks m i j l (Yv (YO hlt) ⟨ZT hlt rfl,Yk hlt ⟨u1,?_⟩⟩)
  have e:a1f (Sh.co Sh.str (List.getD (PV.cells (enc l.t[j])) 0 default)) (PV.bool true) (Jm m)=Jm (Ko m l.t[j].v):=u2
  rw[e,next (by omega)]
  refine ih (j+1) _ (by omega) ?_
  rw[List.drop_eq_getElem_cons hlt,List.map_cons,List.foldl_cons]at h
  exact h
theorem a9c{N G:ZI->Prop}(n:Nd)(ks:List Tm)(hn:NdB n 1048576): ∀ (d i:Nat) (m:List Str),d+i=n.sizes.length->N (tdH (((n.sizes.drop i).flatMap fun l=>l.t.map (·.v)).foldl Ko m) n ks) ->
  AtS [.seq (.ext 99 [])] KZ (tdN N) 3 (fun st=>G st.heap) Vk 0 36 [(3,.ptr 0 0),(15,.pv (enc n.sizes)),(16,.pv (.int .i64 n.sizes.length)),(17,.pv (.int .i64 i))] (tdH m n ks):=by
 intro d
 induction d with
 | zero=>
  intro i m hi h
  rw[List.drop_eq_nil_of_le (by omega)]at h
  exact c5d (tdN N) n ks m i (YA (YR (by omega)) ⟨rfl,h⟩)
 | succ d ih=>
  intro i m hi h
  have hlt:i<n.sizes.length:=by omega
  have hs:=hn.sizes
  refine c5d (tdN N) n ks m i (Yv (YO hlt) ⟨ZT hlt rfl,Yk hlt ?_⟩)
  rw[List.drop_eq_getElem_cons hlt,List.flatMap_cons,List.foldl_append]at h
  have hl:n.sizes[i].t.length<=1048576:=hn.lens _ (List.getElem_mem hlt)
  generalize n.sizes[i]=l at h hl ⊢
  have:=b1f (N:=N) (G:=G) n ks i l hl l.t.length 0 m (by omega) (by
   rw[next (by omega),List.drop_zero]
   exact ih (i+1) _ (by omega) h)
  show AtS [.seq (.ext 99 [])] KZ (tdN N) 3 (fun st=>G st.heap) Vk 1 36 [(3,.ptr 0 0),(15,.pv (enc n.sizes)),(16,.pv (.int .i64 n.sizes.length)),(17,.pv (.int .i64 i)),(22,.pv (enc l.t)),(23,.pv (.int .i64 ((l.t.map (enc:Coef->PV)).length:Int))),(24,.pv (.int .i64 (0:Nat)))] (tdH m n ks)
  rw[List.length_map]
  exact this
def tdI(t:Tm)(k:Nat)(σ:ZI):Prop:=σ=[.obj (.box [.map 1]),.obj (.map (Jm (Gt (((Y6 t).take k).flatMap Ut))))]
def tdM(t:Tm)(k:Nat)(x:Tm×Int)(st:St):Prop:=st=⟨Xi 36 0 [(3,.ptr 0 0),(4,.ptr 2 0)],tdH (Gt (((Y6 t).take k).flatMap Ut)) x.1.nd x.1.ks⟩
def tdE:Vo:=fun n st q=>n=0∧a1x D6 0 (.t 11) 74 [12,13] Tg Vk encNd pre_ndI F_ndI st q
theorem c8w: ∀ x:Tm×Unit,tW x.1=true->J5 D6 tdE 0 (Za Bc (Zi (V6 x.1))) TD [] (Z0 d4i (encL x)):=by
 rintro⟨t,⟨⟩⟩ ht
 have ht:tW t=true:=ht
 obtain⟨n,ks⟩:=t
 rw[<- YN]
 show J5 D6 tdE 0 (Za Bc (Zi (V6 (.mk n ks)))) _ _ _
 have hsz:Yl (.mk n ks)<=1048576:=Nat.le_trans (GQ _) (of_decide_eq_true ht)
 have hF:F_ndI [ndC n ks]=Yn 1 (.mk n ks):=by unfold F_ndI;rw[tmOf_nd]
 refine d9m tdE n ks ⟨?_,rfl,[1],[ndC n ks],[3],[3,4],[],⟨Xi 36 0 [(3,.ptr 0 0)],[.obj (.box [.map 1]),.obj (.map [])]⟩,tdI (.mk n ks),fun _=>False,tdM (.mk n ks),
  rfl,by simp,rfl,?_,by kernel_rfl,pre_nd hsz,rfl,?_,?_,?_,fun σ h=>h.elim⟩
 ·show can Tm (PV.agg (ndC n ks))=true
  rw[show(PV.agg (ndC n ks))=enc (Tm.mk n ks)from(Yy n ks).symm,A8]
 ·intro j l ps hl hps
  match j with
  | 0=>cases hl;cases hps;rfl
  | j+1=>simp at hl
 ·rintro k ⟨⟨xn,xk⟩,v⟩ σ hx rfl
  have e:Tt [12,13] ((encNd (.mk xn xk,v)).map .pv) (Xi 36 0 [(3,.ptr 0 0)])=Xi 36 0 [(3,.ptr 0 0),(12,.pv (.agg (ndC xn xk))),(13,.pv (.int .i64 v))]:=by
   show Tt [12,13] (([enc (Tm.mk xn xk),.int .i64 v]).map .pv) _=_
   rw[Yy]
   kernel_rfl
  rw[e]
  exact d5h (G:=fun _=>False) _ xn xk _ v ⟨rfl,rfl⟩
 ·rintro k ⟨⟨xn,xk⟩,v⟩ st hx rfl
  rw[hF]at hx
  have hw:tW (.mk xn xk)=true:=Dz ht (List.mem_of_getElem? hx)
  have hp:(Y6 (.mk n ks))[k]? = some (.mk xn xk):=by unfold Y6;rw[List.getElem?_map,hx];rfl
  refine d7e (G:=fun _=>False) (tdN fun σ=> ∃ S2,Qm 0 [3] ⟨Xi 36 0 [(3,.ptr 0 0)],σ⟩=some S2∧S2.env=Xi 36 0 [(3,.ptr 0 0)]∧tdI (.mk n ks) (k+1) S2.heap) xn xk _ ?_
  rw[List.length_map]
  refine a9c (N:=fun σ=> ∃ S2,Qm 0 [3] ⟨Xi 36 0 [(3,.ptr 0 0)],σ⟩=some S2∧S2.env=Xi 36 0 [(3,.ptr 0 0)]∧tdI (.mk n ks) (k+1) S2.heap) (G:=fun _=>False) xn xk (EQ hw) xn.sizes.length 0 _ (by omega) ⟨⟨Xi 36 0 [(3,.ptr 0 0)],[.obj (.box [.map 1]),.obj (.map (Jm (((xn.sizes.drop 0).flatMap fun l=>l.t.map (·.v)).foldl Ko (Gt (((Y6 (.mk n ks)).take k).flatMap Ut)))))]⟩,by kernel_rfl,rfl,?_⟩
  unfold tdI
  have e:(Y6 (.mk n ks)).take (k+1)=(Y6 (.mk n ks)).take k++[.mk xn xk]:=by rw[List.take_add_one,hp];rfl
  rw[e,List.flatMap_append,List.flatMap_cons,List.flatMap_nil,List.append_nil,List.drop_zero]
  unfold Gt
  rw[List.foldl_append]
  rfl
 ·rintro σ rfl
  rw[hF,List.take_of_length_le (by unfold Y6;rw[List.length_map];exact Nat.le_refl _)]
  refine d8q tdE n ks (Gt (YT (.mk n ks))) ⟨?_,?_⟩
  ·show(86==86&&GG (Jm (Gt (YT (.mk n ks)))))=true
   rw[d9k ht,beq_self_eq_true];rfl
  ·have:=Zo (x:=V6 (.mk n ks)) rfl
   unfold V6 at this ⊢
   rw[a6q]
   have e:(enc ((WP ((Gt (YT (.mk n ks))).map (·.s))).map Str.mk):PV) = .sl 1 false ((WP ((Gt (YT (.mk n ks))).map (·.s))).map PV.str):=by
    show PV.sl 1 false (List.map enc (List.map Str.mk _))=_
    rw[List.map_map]
    rfl
   rw[e]at this
   exact this
end Go.Pl
namespace Go.Pl
open Go.RowKit
open Enc (enc dec is)
open EncL (encL decL isL)
set_option maxRecDepth 100000
noncomputable def a4e:IC:=Xu Proofs.Tryz.f154
def a4g:List IRes:=[(.tmp 4)]
abbrev d4w:Nat:=22
def c4z:ZO:=YQ []
theorem e0m{G:PV->Prop}(e:List UInt8)(n:Int)(h:if (e==[(105:UInt8),(110:UInt8),(116:UInt8)])=true then if (decide (n ≥ (-2147483648:Int)))=true then G ((.bool (decide (n<=2147483647))))else(G ((.bool false)))else(if (e==[(98:UInt8),(111:UInt8),(111:UInt8),(108:UInt8)])=true then if (n==0)=true then G ((.bool true))else(G ((.bool (n==1))))else(G ((.bool false))))):Ze c4z 0 (Za a4g G) a4e [] (Z0 22 [.str e,.int .i64 n]):=Ze.tp (.lit (.ask (.lit (.ask (Zu 3) (Zu 2))) (.lit (.ask (.lit (.ask (Zu 2) (Zu 3))) (.nil))))) h (by kernel_rfl)
noncomputable def a3c:IC:=Xu Proofs.Tryz.f153
def a2l:List IRes:=[(.tmp 3)]
abbrev d7j:Nat:=8
def c1c:ZO:=YQ [(154,.pure (preT (fun _:Str×Int×Unit=>true)) (Zb (fun x:Str×Int×Unit=>X4 x.1 x.2.1)))]
theorem d9t{G:AV×List AObj×List AObj->Prop}(e:List UInt8)(n:Int)(h : ∃ y0:Bool,AV.pv (Zb (fun(x:Str×Int×Unit)=>X4 x.1 x.2.1) [(.str e),(.int .i64 n)])=AV.pv (enc y0)∧(G (((.pv (.bool !y0)),([(.box [(.pv (.str e))])],[]))))):Ze c1c 1 (Xt 1 a2l G) a3c [] (Uz 8 [.pv (.int .i64 n),.ptr 0 0] [.box [.pv (.str e)]]):=Ze.to (.lit (.abs (Bool) (fun YY=>AV.pv (enc YY)) (.nil))) h (by kernel_rfl)
noncomputable def Gq:IC:=Je
def Hr:List IRes:=[(.tmp 4)]
abbrev b6a:Nat:=19
def TG:ZO:=YQ [(153,.own Ak Lf)]
theorem d9r{G:AV×List AObj×List AObj->Prop}(e:List UInt8)(l:List Int)(t:Bool)(h:At TG 1 (Xt 1 Hr G) Gq 0 19 [(0,(.pv (.sl 1 t (List.map enc l)))),(1,(.fn 153 [] [(.ptr 0 0)])),(7,(.pv (.int .i64 (↑(List.length (List.map enc l)):Int)))),(8,(.pv (.int .i64 0)))] [(.obj (.box [(.pv (.str e))]))]):Ze TG 1 (Xt 1 Hr G) Gq [] (Uz 19 [.pv (.sl 1 t (l.map enc)),.fn 153 [] [.ptr 0 0]] [.box [.pv (.str e)]]):=Ze.to (.nil) h (by kernel_rfl)
theorem b9p{G:AV×List AObj×List AObj->Prop}(e:List UInt8)(l:List Int)(t:Bool)(i:Int)(h:if (decide (i<(↑(List.length l):Int)))=true then(decide (0<=i)&&decide (Int.toNat i<List.length (List.map enc l))&&1==1)=true∧(∃ y0:Int,AV.pv (PV.rptr (PV.cells (List.getD (List.map enc l) (Int.toNat i) default)))=AV.pv (PV.rptr (PV.cells ((enc) y0)))∧(if (!X4 (Str.mk e) (PV.asInt (List.getD (PV.cells (enc y0)) 0 default)))=true then G (((.pv (.int .i64 i)),([(.box [(.pv (.str e))])],[])))else(At TG 1 (Xt 1 Hr G) Gq 0 19 [(0,(.pv (.sl 1 t (List.map enc l)))),(1,(.fn 153 [] [(.ptr 0 0)])),(7,(.pv (.int .i64 (↑(List.length l):Int)))),(8,(.pv (.int .i64 (IntKind.wrap IntKind.i64 (i+1)))))] [(.obj (.box [(.pv (.str e))]))])))else(G (((.pv (.int .i64 (-1))),([(.box [(.pv (.str e))])],[]))))):At TG 1 (Xt 1 Hr G) Gq 0 19 [(0,.pv (.sl 1 t (l.map enc))),(1,.fn 153 [] [.ptr 0 0]),(7,.pv (.int .i64 l.length)),(8,.pv (.int .i64 i))] [.obj (.box [.pv (.str e)])]:=At.to (.lit (.ask (.req (.abs (Int) (fun YY=>AV.pv (PV.rptr (PV.cells ((enc) YY)))) (Zl 2 (.keep (.ask (.nil) (.lit (.nil))))))) (.nil))) h (by kernel_rfl)
noncomputable def a3e:IC:=ME
def a0n:List IRes:=[(.tmp 4)]
abbrev d4x:Nat:=9
def c0y:ZO:=YQ [(130,.own VF AL)]
theorem d9e{G:AV×List AObj×List AObj->Prop}(e:List UInt8)(l:List Int)(t:Bool)(h:(VF [(.pv (.sl 1 t (List.map enc l))),(.fn 153 [] [(.ptr 0 0)])] [(.box [(.pv (.str e))])])=true∧(G (((.pv (.bool (decide (QD (Str.mk e) (List.map dec (List.map enc l)) 0 ≥ 0)))),([(.box [(.pv (.str e))])],[]))))):Ze c0y 1 (Xt 1 a0n G) a3e [] (Uz 9 [.pv (.sl 1 t (l.map enc)),.fn 153 [] [.ptr 0 0]] [.box [.pv (.str e)]]):=Ze.to (.req (.keep (.lit (.nil)))) h (by kernel_rfl)
noncomputable def Jd:IC:=Xu Proofs.Tryz.f118
def Jb:List IRes:=[(.tmp 4)]
abbrev FV:Nat:=9
def J9:ZO:=YQ [(104,.own VF Nr)]
theorem a2q{G:PV->Prop}(e:List UInt8)(l:List Int)(h:(VF [(.pv (.sl 1 false (List.map enc l))),(.fn 153 [] [(.ptr 0 0)])] [(.box [(.pv (.str e))])])=true∧(G ((.bool (!decide (0<=QD (Str.mk e) (List.map dec (List.map enc l)) 0)))))):Ze J9 0 (Za Jb G) Jd [] (Z0 9 [.str e,enc l]):=Ze.tp (.req (.keep (.nil))) h (by kernel_rfl)
noncomputable def NN:IC:=Xu Proofs.Tryz.f96
def Lc:List IRes:=[(.cell true 3 6),(.tmp 7)]
abbrev c5y:Nat:=45
def a4v:ZO:=YQ [(117,.pure (preT (fun _:List Int×Unit=>true)) (Zb (fun x:List Int×Unit=>Y2 x.1))),(118,.pure (preT (fun x:Str×List Int×Unit=>decide (x.2.1.length<=2000000))) (Zb (fun x:Str×List Int×Unit=>x.2.1.all (X4 x.1)))),(119,.pure (preT (fun x:List Int×Unit=>decide (x.1.length<=2000000))) (Zb (fun x:List Int×Unit=>x.1)))]
theorem d8l{G:PV->Prop}(e:List UInt8)(d x:List Int)(h:if (!e==[(105:UInt8),(110:UInt8),(116:UInt8)])=true then if (!e==[(98:UInt8),(111:UInt8),(111:UInt8),(108:UInt8)])=true then G ((.tup [(.agg [(.str []),(.sl 0 true []),(.sl 0 true [])]),(.int .i64 12)]))else((Go.Pl.preT (fun(x:List Int×Unit)=>true) [(.sl 1 false (List.map enc d))])=true∧(∃ y0:Int×Int,AV.pv (Zb (fun(x:List Int×Unit)=>Y2 x.1) [(.sl 1 false (List.map enc d))])=AV.pv (enc y0)∧(if (y0.2 != 0)=true then G ((.tup [(.agg [(.str []),(.sl 0 true []),(.sl 0 true [])]),(.int .i64 y0.2)]))else(if ((↑(List.length (List.map enc x)):Int) != y0.1)=true then G ((.tup [(.agg [(.str []),(.sl 0 true []),(.sl 0 true [])]),(.int .i64 1)]))else((Go.Pl.preT (fun(x:Str×List Int×Unit)=>decide (List.length x.2.1<=2000000)) [(.str e),(.sl 1 false (List.map enc x))])=true∧(∃ y1:Bool,AV.pv (Zb (fun(x:Str×List Int×Unit)=>List.all x.2.1 (X4 x.1)) [(.str e),(.sl 1 false (List.map enc x))])=AV.pv (enc y1)∧(if (!y1)=true then G ((.tup [(.agg [(.str []),(.sl 0 true []),(.sl 0 true [])]),(.int .i64 2)]))else((Go.Pl.preT (fun(x:List Int×Unit)=>decide (List.length x.1<=2000000)) [(.sl 1 false (List.map enc d))])=true∧(∃ y2:List Int,AV.pv (Zb (fun(x:List Int×Unit)=>x.1) [(.sl 1 false (List.map enc d))])=AV.pv (enc y2)∧((Go.Pl.preT (fun(x:List Int×Unit)=>decide (List.length x.1<=2000000)) [(.sl 1 false (List.map enc x))])=true∧(∃ y3:List Int,AV.pv (Zb (fun(x:List Int×Unit)=>x.1) [(.sl 1 false (List.map enc x))])=AV.pv (enc y3)∧(G ((.tup [(.agg [(.str e),(.sl 1 false (List.map enc y2)),(.sl 1 false (List.map enc y3))]),(.int .i64 0)]))))))))))))))else((Go.Pl.preT (fun(x:List Int×Unit)=>true) [(.sl 1 false (List.map enc d))])=true∧(∃ y4:Int×Int,AV.pv (Zb (fun(x:List Int×Unit)=>Y2 x.1) [(.sl 1 false (List.map enc d))])=AV.pv (enc y4)∧(if (y4.2 != 0)=true then G ((.tup [(.agg [(.str []),(.sl 0 true []),(.sl 0 true [])]),(.int .i64 y4.2)]))else(if ((↑(List.length (List.map enc x)):Int) != y4.1)=true then G ((.tup [(.agg [(.str []),(.sl 0 true []),(.sl 0 true [])]),(.int .i64 1)]))else((Go.Pl.preT (fun(x:Str×List Int×Unit)=>decide (List.length x.2.1<=2000000)) [(.str e),(.sl 1 false (List.map enc x))])=true∧(∃ y5:Bool,AV.pv (Zb (fun(x:Str×List Int×Unit)=>List.all x.2.1 (X4 x.1)) [(.str e),(.sl 1 false (List.map enc x))])=AV.pv (enc y5)∧(if (!y5)=true then G ((.tup [(.agg [(.str []),(.sl 0 true []),(.sl 0 true [])]),(.int .i64 2)]))else((Go.Pl.preT (fun(x:List Int×Unit)=>decide (List.length x.1<=2000000)) [(.sl 1 false (List.map enc d))])=true∧(∃ y6:List Int,AV.pv (Zb (fun(x:List Int×Unit)=>x.1) [(.sl 1 false (List.map enc d))])=AV.pv (enc y6)∧((Go.Pl.preT (fun(x:List Int×Unit)=>decide (List.length x.1<=2000000)) [(.sl 1 false (List.map enc x))])=true∧(∃ y7:List Int,AV.pv (Zb (fun(x:List Int×Unit)=>x.1) [(.sl 1 false (List.map enc x))])=AV.pv (enc y7)∧(G ((.tup [(.agg [(.str e),(.sl 1 false (List.map enc y6)),(.sl 1 false (List.map enc y7))]),(.int .i64 0)]))))))))))))))):Ze a4v 0 (Za Lc G) NN [] (Z0 45 [.str e,enc d,enc x]):=Ze.tp (.lit (.ask (Zl 3 (.ask (.nil) (.req (.abs (Int×Int) (fun YY=>AV.pv (enc YY)) (.lit (.ask (.nil) (.lit (.ask (.nil) (.req (.abs (Bool) (fun YY=>AV.pv (enc YY)) (.ask (.nil) (.req (.abs (List Int) (fun YY=>AV.pv (enc YY)) (.req (.abs (List Int) (fun YY=>AV.pv (enc YY)) (.nil)))))))))))))))) (Zl 3 (.req (.abs (Int×Int) (fun YY=>AV.pv (enc YY)) (.lit (.ask (.nil) (.lit (.ask (.nil) (.req (.abs (Bool) (fun YY=>AV.pv (enc YY)) (.ask (.nil) (.req (.abs (List Int) (fun YY=>AV.pv (enc YY)) (.req (.abs (List Int) (fun YY=>AV.pv (enc YY)) (.nil))))))))))))))))) h (by kernel_rfl)
noncomputable def a1u:IC:=Xu Proofs.Tryz.f59
def a4y:List IRes:=[(.tmp 2)]
abbrev d7q:Nat:=17
def b3t:ZO:=YQ [(96,.pure (preT (fun x:Str×List Int×List Int×Unit=>decide (x.2.1.length<=2000000)&&decide (x.2.2.1.length<=2000000))) (Zb (fun x:Str×List Int×List Int×Unit=>KD x.1 x.2.1 x.2.2.1)))]
theorem e0y{G:PV->Prop}(a:Arr)(h:(Go.Pl.preT (fun(x:Str×List Int×List Int×Unit)=>decide (List.length x.2.1<=2000000)&&decide (List.length x.2.2.1<=2000000)) [(.str (Str.s (Arr.e a))),(.sl 1 false (List.map enc (Arr.d a))),(.sl 1 false (List.map enc (Arr.x a)))])=true∧(∃ y0:Arr×Int,AV.pv (Zb (fun(x:Str×List Int×List Int×Unit)=>KD x.1 x.2.1 x.2.2.1) [(.str (Str.s (Arr.e a))),(.sl 1 false (List.map enc (Arr.d a))),(.sl 1 false (List.map enc (Arr.x a)))])=AV.pv (enc y0)∧(G ((.bool (y0.2==0)))))):Ze b3t 0 (Za a4y G) a1u [] (Z0 17 [enc a]):=Ze.tp (.req (.abs (Arr×Int) (fun YY=>AV.pv (enc YY)) (.lit (.nil)))) h (by kernel_rfl)
end Go.Pl
namespace Go.Pl
open Go.RowKit
open Enc (enc dec is)
open EncL (encL decL isL)
theorem c5l: ∀ a:Str×Int×Unit,true=true->Ze c4z 0 (Za a4g (Zi (X4 a.1 a.2.1))) a4e [] (Z0 d4w (encL a)):=by
 rintro⟨⟨e⟩,n,⟨⟩⟩ _
 refine e0m e n ?_
 simp only[beq_iff_eq,decide_eq_true_eq,Zi,a6g,Fy,true_and,X4,Wo,XJ,ge_iff_le]
 split
 ·split <;> simp[*]
 ·split
  ·split <;> simp[*]
  ·simp[*]
theorem c7r: ∀ args os,Ak args os=true->Ze c1c os.length (Xt os.length a2l fun r=>r=Lf args os) a3c [] (Uz d7j args os):=by
 intro args os hp
 unfold Ak at hp
 split at hp
 ·rename_i n e
  refine d9t e n ?_
  exact Zd (⟨e⟩,n,()) rfl rfl
 ·cases hp
theorem SQ(e:Str): ∀ (l:List Int) (k:Nat),decide (0<=QD e l k) = !l.all (X4 e)
 | [],k=>by simp[QD]
 | n::l,k=>by
  simp only[QD,List.all_cons]
  by_cases h:X4 e n=true
  ·simp only[h,if_true,Bool.true_and];exact SQ e l (k+1)
  ·simp only[Bool.not_eq_true]at h;simp[h]
theorem c2l(e:List UInt8)(l:List Int)(t:Bool)(hl:l.length<=2000000)(r:AV×List AObj×List AObj): ∀ (m k:Nat),m+k=l.length->r=(.pv (.int .i64 (QD ⟨e⟩ (l.drop k) k)),[.box [.pv (.str e)]],[]) ->
  At TG 1 (Xt 1 Hr fun x=>x=r) Gq 0 b6a [(0,.pv (.sl 1 t (l.map enc))),(1,.fn 153 [] [.ptr 0 0]),(7,.pv (.int .i64 l.length)),(8,.pv (.int .i64 k))] [.obj (.box [.pv (.str e)])]:=by
 intro m
 induction m with
 | zero=>
  intro k hk hr
  refine b9p e l t k ?_
  rw[if_neg (by simp;omega),hr,List.drop_of_length_le (by omega)]
  rfl
 | succ m ih=>
  intro k hk hr
  have hlt:k<l.length:=by omega
  refine b9p e l t k ?_
  rw[if_pos (by simp;omega)]
  refine⟨by simp;omega,l[k],by rw[WA _ hlt],?_⟩
  rw[List.drop_eq_getElem_cons hlt,QD]at hr
  show if (!X4 ⟨e⟩ l[k])=true then _ else _
  cases h:X4 ⟨e⟩ l[k]with
  | true=>
   rw[if_neg (by simp),next (by omega)]
   rw[h,if_pos rfl]at hr
   exact ih (k+1) (by omega) hr
  | false=>
   rw[if_pos (by decide)]
   rw[h,if_neg (by simp)]at hr
   exact hr.symm
theorem c6j: ∀ args os,VF args os=true->Ze TG os.length (Xt os.length Hr fun r=>r=AL args os) Gq [] (Uz b6a args os):=by
 intro args os hp
 unfold VF at hp
 split at hp
 ·rename_i t xs e
  simp only[Bool.and_eq_true,decide_eq_true_eq]at hp
  rw[a5i hp.1]
  have hl:(xs.map (dec:PV->Int)).length<=2000000:=by simpa using hp.2
  generalize xs.map (dec:PV->Int)=l at hl ⊢
  refine d9r e l t ?_
  rw[List.length_map]
  refine c2l e l t hl _ l.length 0 (by omega) ?_
  simp[AL]
 ·cases hp
theorem c7x: ∀ args os,VF args os=true->Ze c0y os.length (Xt os.length a0n fun r=>r=Nr args os) a3e [] (Uz d4x args os):=by
 intro args os hp
 have hp':=hp
 unfold VF at hp
 split at hp
 ·rename_i t xs e
  simp only[Bool.and_eq_true,decide_eq_true_eq]at hp
  rw[a5i hp.1]at hp' ⊢
  exact d9e e _ t ⟨hp',rfl⟩
 ·cases hp
theorem Nu: ∀ a:Str×List Int×Unit,decide (a.2.1.length<=2000000)=true->Ze J9 0 (Za Jb (Zi (a.2.1.all (X4 a.1)))) Jd [] (Z0 FV (encL a)):=by
 rintro⟨⟨e⟩,l,⟨⟩⟩ hp
 refine a2q e l ⟨?_,rfl,?_⟩
 ·simpa [VF]using hp
 ·simp[SQ]
theorem b8x: ∀ a:Str×List Int×List Int×Unit,(decide (a.2.1.length<=2000000)&&decide (a.2.2.1.length<=2000000))=true->Ze a4v 0 (Za Lc (Zi (KD a.1 a.2.1 a.2.2.1))) NN [] (Z0 c5y (encL a)):=by
 rintro⟨⟨e⟩,d,x,⟨⟩⟩ hp
 simp only[Bool.and_eq_true,decide_eq_true_eq]at hp
 refine d8l e d x ?_
 have hp1:=hp.1
 have hp2:=hp.2
 simp only[preT,Zb,Oo,a7x,PN,Ov,d2e,Rl,b9m,a6o,b5z,Br,List.isEmpty_iff,Bool.and_true,beq_self_eq_true,Bool.or_true,Bool.true_and,decide_eq_true_eq,AV.pv.injEq,c4g,exists_eq_left',hp1,hp2,true_and,Enc.sz,List.length_map,Zi,d3z,d7i,d3m,d1v,c6t,d0d,List.all_nil,List.isEmpty_nil,Bool.true_or,List.map_nil,Bool.not_eq_true',beq_eq_false_iff_ne,bne_iff_ne,KD,Wo,XJ]
 by_cases h1:e=[105,110,116]
 ·simp only[h1,ne_eq,not_true,if_false,false_and]
  split
  ·rfl
  ·split
   ·rfl
   ·split
    ·simp_all
    ·simp_all
 ·simp only[h1,ne_eq,not_false_eq_true,if_true,true_and]
  split
  ·rfl
  ·split
   ·rfl
   ·split
    ·rfl
    ·split
     ·simp_all
     ·simp_all
theorem c6s: ∀ a:Arr×Unit,WQ a.1=true->Ze b3t 0 (Za a4y (Zi (X8 a.1))) a1u [] (Z0 d7q (encL a)):=by
 rintro⟨a,⟨⟩⟩ hp
 refine e0y a ⟨Zf (a.e,a.d,a.x,()) rfl hp,Zd (a.e,a.d,a.x,()) rfl ?_⟩
 exact⟨rfl,rfl⟩
end Go.Pl
namespace Go.Pl
open Go.RowKit
set_option maxRecDepth 100000
def YK:IC:=(V5 [Yd 2 (.mv (WN 0)) 0,Yd 3 (.mv (WN 0)) 0] (.seq (V5 [Yd 8 (Vt 0) 0,Yd 9 (.len 1 (.t 8)) 0,Yd 10 (Gz .gtr (.t 9) (WN 6)) 0] (.cond (.t 10) (V5 [Yd 2 (.mv (WN 0)) 0,Yd 3 (.mv (WN 13)) 0] .ret) .skip)) (V5 [Yd 4 (f'' false) 0] (.seq (V5 [Yd 5 (.mv (WN 0)) 0] (.block 0 (.loop [5,0,4] (.seq (V5 [Yd 11 (Vt 5) 0,Yd 12 (Vt 0) 0,Yd 13 (.len 1 (.t 12)) 0,Yd 14 (Gz .lss (.t 11) (.t 13)) 0] (.cond (.t 14) .skip (.exit 0))) (.seq (.block 1 (.seq (V5 [Yd 17 (Vt 0) 0,Yd 18 (Vt 5) 0,Yd 19 (.iaddr 1 (.t 17) (.t 18)) 0,Yd 20 (l'' [(.int .i64)] (.t 19)) 0,Yd 21 (Gz .lss (.t 20) (WN 0)) 0,Yd 22 (Vt 21) 0,FE 23 (Vt 0) 0 22,FE 24 (Vt 5) 0 22,FE 25 (.iaddr 1 (.t 23) (.t 24)) 0 22,FE 26 (l'' [(.int .i64)] (.t 25)) 0 22,FE 27 (Gz .gtr (.t 26) (WN 4096)) 0 22,Yd 28 (.pick (.t 22) (.c (.bool true)) (.t 27)) 0] (.cond (.t 28) (V5 [Yd 2 (.mv (WN 0)) 0,Yd 3 (.mv (WN 2)) 0] .ret) .skip)) (.reg [Yd 29 (Vt 4) 0,Yd 30 (Vt 29) 0,FE 31 (Vt 0) 0 30,FE 32 (Vt 5) 0 30,FE 33 (.iaddr 1 (.t 31) (.t 32)) 0 30,FE 34 (l'' [(.int .i64)] (.t 33)) 0 30,FE 35 (Gz .eql (.t 34) (WN 0)) 0 30,Yd 36 (.pick (.t 30) (.c (.bool true)) (.t 35)) 0,Yd 4 (Vt 36) 0] none))) (.reg [Yd 15 (Vt 5) 0,Yd 16 (Gz .add (.t 15) (WN 1)) 0,Yd 5 (Vt 16) 0] none)))))) (.seq (V5 [Yd 37 (Vt 4) 0] (.cond (.t 37) (V5 [Yd 2 (.mv (WN 0)) 0,Yd 3 (.mv (WN 0)) 0] .ret) .skip)) (V5 [Yd 6 (.mv (WN 1)) 0] (.seq (V5 [Yd 7 (.mv (WN 0)) 0] (.block 2 (.loop [7,0,6] (.seq (V5 [Yd 38 (Vt 7) 0,Yd 39 (Vt 0) 0,Yd 40 (.len 1 (.t 39)) 0,Yd 41 (Gz .lss (.t 38) (.t 40)) 0] (.cond (.t 41) .skip (.exit 2))) (.seq (.block 3 (V5 [Yd 44 (Vt 6) 0,Yd 45 (Vt 0) 0,Yd 46 (Vt 7) 0,Yd 47 (.iaddr 1 (.t 45) (.t 46)) 0,Yd 48 (l'' [(.int .i64)] (.t 47)) 0,Yd 49 (Gz .mul (.t 44) (.t 48)) 0,Yd 6 (Vt 49) 0] (V5 [Yd 50 (Vt 6) 0,Yd 51 (Gz .gtr (.t 50) (WN 4096)) 0] (.cond (.t 51) (V5 [Yd 2 (.mv (WN 0)) 0,Yd 3 (.mv (WN 3)) 0] .ret) .skip)))) (.reg [Yd 42 (Vt 7) 0,Yd 43 (Gz .add (.t 42) (WN 1)) 0,Yd 7 (Vt 43) 0] none)))))) (V5 [Yd 52 (Vt 6) 0,Yd 2 (Vt 52) 0,Yd 3 (.mv (WN 0)) 0] .ret))))))))
def YM:List IRes:=[(.tmp 2),(.tmp 3)]
def Y0:ZO:=YQ []
theorem a9d{r:PV}(ns:List Int)(t:Bool)(h0:(decide ((↑(Zv ns).length:Int)>6))=true)(hr:(.tup [(.int .i64 0),(.int .i64 13)])=r):Ze Y0 0 (fun st=>fin st YM=some r) YK [] (Z0 53 [.sl 1 t (Zv ns)]):=Ze.w (.lit (.ans true (.nil))) (And.intro h0 hr) (by kernel_rfl)
theorem b0l{r:PV}(ns:List Int)(t:Bool)(h0:(decide ((↑(Zv ns).length:Int)>6))=false)(hn:At Y0 0 (fun st=>fin st YM=some r) YK 0 53 [(0,(.pv (.sl 1 t (Zv ns)))),(4,(.pv (.bool false))),(5,(.pv (.int .i64 0)))] []):Ze Y0 0 (fun st=>fin st YM=some r) YK [] (Z0 53 [.sl 1 t (Zv ns)]):=Ze.w (.lit (.ans false (.nil))) (And.intro h0 hn) (by kernel_rfl)
theorem a2j{r:PV}(ns:List Int)(t:Bool)(i:Int)(z:Bool)(h0:(decide (i<(↑(Zv ns).length:Int)))=true)(h1:(decide (0<=i)&&decide (i.toNat<(Zv ns).length)&&1==1)=true)(h2:(decide (0+[Sh.int .i64].length<=((Zv ns).getD i.toNat default).cells.length)&&Yx ((Zv ns).getD i.toNat default).cells 0 [Sh.int .i64])=true)(h3:(decide ((((Zv ns).getD i.toNat default).cells.getD 0 default).asInt<0))=true)(hr:(.tup [(.int .i64 0),(.int .i64 2)])=r):At Y0 0 (fun st=>fin st YM=some r) YK 0 53 [(0,.pv (.sl 1 t (Zv ns))),(4,.pv (.bool z)),(5,.pv (.int .i64 i))] []:=At.w (.lit (.ans true (.req (.req (.lit (.ans true (.lit (.lit (.lit (.lit (.lit (.lit (.nil))))))))))))) (And.intro h0 (And.intro h1 (And.intro h2 (And.intro h3 hr)))) (by kernel_rfl)
theorem a4u{r:PV}(ns:List Int)(t:Bool)(i:Int)(z:Bool)(h0:(decide (i<(↑(Zv ns).length:Int)))=true)(h1:(decide (0<=i)&&decide (i.toNat<(Zv ns).length)&&1==1)=true)(h2:(decide (0+[Sh.int .i64].length<=((Zv ns).getD i.toNat default).cells.length)&&Yx ((Zv ns).getD i.toNat default).cells 0 [Sh.int .i64])=true)(h3:(decide ((((Zv ns).getD i.toNat default).cells.getD 0 default).asInt<0))=false)(h4:(decide ((((Zv ns).getD i.toNat default).cells.getD 0 default).asInt>4096))=true)(hr:(.tup [(.int .i64 0),(.int .i64 2)])=r):At Y0 0 (fun st=>fin st YM=some r) YK 0 53 [(0,.pv (.sl 1 t (Zv ns))),(4,.pv (.bool z)),(5,.pv (.int .i64 i))] []:=At.w (.lit (.ans true (.req (.req (.lit (.ans false (.lit (.lit (.req (.lit (.req (.lit (.lit (.lit (.ans true (.nil)))))))))))))))) (And.intro h0 (And.intro h1 (And.intro h2 (And.intro h3 (And.intro h1 (And.intro h2 (And.intro h4 hr))))))) (by kernel_rfl)
theorem a0m{r:PV}(ns:List Int)(t:Bool)(i:Int)(z:Bool)(h0:(decide (i<(↑(Zv ns).length:Int)))=true)(h1:(decide (0<=i)&&decide (i.toNat<(Zv ns).length)&&1==1)=true)(h2:(decide (0+[Sh.int .i64].length<=((Zv ns).getD i.toNat default).cells.length)&&Yx ((Zv ns).getD i.toNat default).cells 0 [Sh.int .i64])=true)(h3:(decide ((((Zv ns).getD i.toNat default).cells.getD 0 default).asInt<0))=false)(h4:(decide ((((Zv ns).getD i.toNat default).cells.getD 0 default).asInt>4096))=false)(h5:(z)=true)(hn:At Y0 0 (fun st=>fin st YM=some r) YK 0 53 [(0,(.pv (.sl 1 t (Zv ns)))),(4,(.pv (.bool true))),(5,(.pv (.int .i64 (IntKind.i64.wrap (i+1)))))] []):At Y0 0 (fun st=>fin st YM=some r) YK 0 53 [(0,.pv (.sl 1 t (Zv ns))),(4,.pv (.bool z)),(5,.pv (.int .i64 i))] []:=At.w (.lit (.ans true (.req (.req (.lit (.ans false (.lit (.lit (.req (.lit (.req (.lit (.lit (.lit (.ans false (.ans true (.lit (.lit (.lit (.lit (.lit (.lit (.nil))))))))))))))))))))))) (And.intro h0 (And.intro h1 (And.intro h2 (And.intro h3 (And.intro h1 (And.intro h2 (And.intro h4 (And.intro h5 hn)))))))) (by kernel_rfl)
theorem EX{r:PV}(ns:List Int)(t:Bool)(i:Int)(z:Bool)(h0:(decide (i<(↑(Zv ns).length:Int)))=true)(h1:(decide (0<=i)&&decide (i.toNat<(Zv ns).length)&&1==1)=true)(h2:(decide (0+[Sh.int .i64].length<=((Zv ns).getD i.toNat default).cells.length)&&Yx ((Zv ns).getD i.toNat default).cells 0 [Sh.int .i64])=true)(h3:(decide ((((Zv ns).getD i.toNat default).cells.getD 0 default).asInt<0))=false)(h4:(decide ((((Zv ns).getD i.toNat default).cells.getD 0 default).asInt>4096))=false)(h5:(z)=false)(hn:At Y0 0 (fun st=>fin st YM=some r) YK 0 53 [(0,(.pv (.sl 1 t (Zv ns)))),(4,(.pv (.bool ((((Zv ns).getD i.toNat default).cells.getD 0 default).asInt==0)))),(5,(.pv (.int .i64 (IntKind.i64.wrap (i+1)))))] []):At Y0 0 (fun st=>fin st YM=some r) YK 0 53 [(0,.pv (.sl 1 t (Zv ns))),(4,.pv (.bool z)),(5,.pv (.int .i64 i))] []:=At.w (.lit (.ans true (.req (.req (.lit (.ans false (.lit (.lit (.req (.lit (.req (.lit (.lit (.lit (.ans false (.ans false (.lit (.lit (.req (.lit (.req (.lit (.lit (.lit (.lit (.nil)))))))))))))))))))))))))) (And.intro h0 (And.intro h1 (And.intro h2 (And.intro h3 (And.intro h1 (And.intro h2 (And.intro h4 (And.intro h5 (And.intro h1 (And.intro h2 hn)))))))))) (by kernel_rfl)
theorem a3i{r:PV}(ns:List Int)(t:Bool)(i:Int)(z:Bool)(h0:(decide (i<(↑(Zv ns).length:Int)))=false)(h1:(z)=true)(hr:(.tup [(.int .i64 0),(.int .i64 0)])=r):At Y0 0 (fun st=>fin st YM=some r) YK 0 53 [(0,.pv (.sl 1 t (Zv ns))),(4,.pv (.bool z)),(5,.pv (.int .i64 i))] []:=At.w (.lit (.ans false (.ans true (.nil)))) (And.intro h0 (And.intro h1 hr)) (by kernel_rfl)
theorem a1e{r:PV}(ns:List Int)(t:Bool)(i:Int)(z:Bool)(h0:(decide (i<(↑(Zv ns).length:Int)))=false)(h1:(z)=false)(hn:At Y0 0 (fun st=>fin st YM=some r) YK 1 53 [(0,(.pv (.sl 1 t (Zv ns)))),(6,(.pv (.int .i64 1))),(7,(.pv (.int .i64 0)))] []):At Y0 0 (fun st=>fin st YM=some r) YK 0 53 [(0,.pv (.sl 1 t (Zv ns))),(4,.pv (.bool z)),(5,.pv (.int .i64 i))] []:=At.w (.lit (.ans false (.ans false (.nil)))) (And.intro h0 (And.intro h1 hn)) (by kernel_rfl)
theorem a1b{r:PV}(ns:List Int)(t:Bool)(i n:Int)(h0:(decide (i<(↑(Zv ns).length:Int)))=true)(h1:(decide (0<=i)&&decide (i.toNat<(Zv ns).length)&&1==1)=true)(h2:(decide (0+[Sh.int .i64].length<=((Zv ns).getD i.toNat default).cells.length)&&Yx ((Zv ns).getD i.toNat default).cells 0 [Sh.int .i64])=true)(h3:(decide (IntKind.i64.wrap (n*(((Zv ns).getD i.toNat default).cells.getD 0 default).asInt)>4096))=true)(hr:(.tup [(.int .i64 0),(.int .i64 3)])=r):At Y0 0 (fun st=>fin st YM=some r) YK 1 53 [(0,.pv (.sl 1 t (Zv ns))),(6,.pv (.int .i64 n)),(7,.pv (.int .i64 i))] []:=At.w (.lit (.ans true (.req (.req (.lit (.lit (.ans true (.nil)))))))) (And.intro h0 (And.intro h1 (And.intro h2 (And.intro h3 hr)))) (by kernel_rfl)
theorem a3q{r:PV}(ns:List Int)(t:Bool)(i n:Int)(h0:(decide (i<(↑(Zv ns).length:Int)))=true)(h1:(decide (0<=i)&&decide (i.toNat<(Zv ns).length)&&1==1)=true)(h2:(decide (0+[Sh.int .i64].length<=((Zv ns).getD i.toNat default).cells.length)&&Yx ((Zv ns).getD i.toNat default).cells 0 [Sh.int .i64])=true)(h3:(decide (IntKind.i64.wrap (n*(((Zv ns).getD i.toNat default).cells.getD 0 default).asInt)>4096))=false)(hn:At Y0 0 (fun st=>fin st YM=some r) YK 1 53 [(0,(.pv (.sl 1 t (Zv ns)))),(6,(.pv (.int .i64 (IntKind.i64.wrap (n*(((Zv ns).getD i.toNat default).cells.getD 0 default).asInt))))),(7,(.pv (.int .i64 (IntKind.i64.wrap (i+1)))))] []):At Y0 0 (fun st=>fin st YM=some r) YK 1 53 [(0,.pv (.sl 1 t (Zv ns))),(6,.pv (.int .i64 n)),(7,.pv (.int .i64 i))] []:=At.w (.lit (.ans true (.req (.req (.lit (.lit (.ans false (.lit (.nil))))))))) (And.intro h0 (And.intro h1 (And.intro h2 (And.intro h3 hn)))) (by kernel_rfl)
theorem a3o{r:PV}(ns:List Int)(t:Bool)(i n:Int)(h0:(decide (i<(↑(Zv ns).length:Int)))=false)(hr:(.tup [(.int .i64 n),(.int .i64 0)])=r):At Y0 0 (fun st=>fin st YM=some r) YK 1 53 [(0,.pv (.sl 1 t (Zv ns))),(6,.pv (.int .i64 n)),(7,.pv (.int .i64 i))] []:=At.w (.lit (.ans false (.nil))) (And.intro h0 hr) (by kernel_rfl)
def VK:IC:=(V5 [Yd 4 (.mv (WN 0)) 0] (.seq (V5 [Yd 6 (Vt 0) 0,Yd 7 (.len 1 (.t 6)) 0,Yd 8 (.mv (WN 0)) 0] (.block 0 (.loop [8,7,1,0] (V5 [Yd 9 (Gz .lss (.t 8) (.t 7)) 0] (.seq (.cond (.t 9) .skip (.exit 0)) (.seq (.block 1 (V5 [Yd 10 (Vt 8) 0,Yd 5 (Vt 10) 0] (V5 [Yd 11 (Vt 1) 0,Yd 12 (Vt 0) 0,Yd 13 (Vt 5) 0,Yd 14 (.iaddr 1 (.t 12) (.t 13)) 0,Yd 15 (l'' [(.int .i64)] (.t 14)) 0,Yd 16 (Gz .eql (.t 11) (.t 15)) 0] (.cond (.t 16) (V5 [Yd 17 (Vt 5) 0,Yd 4 (Vt 17) 0] .ret) .skip)))) (.reg [Yd 18 (Gz .add (.t 8) (WN 1)) 0,Yd 8 (Vt 18) 0] none))))))) (V5 [Yd 4 (.mv (.c (.int .i64 (-1)))) 0] .ret)))
def VI:List IRes:=[(.tmp 4)]
def UX:ZO:=YQ []
theorem b1o{r:PV}(ns:List Int)(t:Bool)(v:Int)(hn:At UX 0 (fun st=>fin st VI=some r) VK 0 19 [(0,(.pv (.sl 1 t (Zv ns)))),(1,(.pv (.int .i64 v))),(7,(.pv (.int .i64 (↑(Zv ns).length:Int)))),(8,(.pv (.int .i64 0)))] []):Ze UX 0 (fun st=>fin st VI=some r) VK [] (Z0 19 [.sl 1 t (Zv ns),.int .i64 v]):=Ze.w (.nil) hn (by kernel_rfl)
theorem a2e{r:PV}(ns:List Int)(t:Bool)(v:Int)(i:Int)(h0:(decide (i<(↑(Zv ns).length:Int)))=true)(h1:(decide (0<=i)&&decide (i.toNat<(Zv ns).length)&&1==1)=true)(h2:(decide (0+[Sh.int .i64].length<=((Zv ns).getD i.toNat default).cells.length)&&Yx ((Zv ns).getD i.toNat default).cells 0 [Sh.int .i64])=true)(h3:(v==(((Zv ns).getD i.toNat default).cells.getD 0 default).asInt)=true)(hr:(.int .i64 i)=r):At UX 0 (fun st=>fin st VI=some r) VK 0 19 [(0,.pv (.sl 1 t (Zv ns))),(1,.pv (.int .i64 v)),(7,.pv (.int .i64 (Zv ns).length)),(8,.pv (.int .i64 i))] []:=At.w (.lit (.ans true (.req (.req (.lit (.ans true (.nil))))))) (And.intro h0 (And.intro h1 (And.intro h2 (And.intro h3 hr)))) (by kernel_rfl)
theorem a0r{r:PV}(ns:List Int)(t:Bool)(v:Int)(i:Int)(h0:(decide (i<(↑(Zv ns).length:Int)))=true)(h1:(decide (0<=i)&&decide (i.toNat<(Zv ns).length)&&1==1)=true)(h2:(decide (0+[Sh.int .i64].length<=((Zv ns).getD i.toNat default).cells.length)&&Yx ((Zv ns).getD i.toNat default).cells 0 [Sh.int .i64])=true)(h3:(v==(((Zv ns).getD i.toNat default).cells.getD 0 default).asInt)=false)(hn:At UX 0 (fun st=>fin st VI=some r) VK 0 19 [(0,(.pv (.sl 1 t (Zv ns)))),(1,(.pv (.int .i64 v))),(7,(.pv (.int .i64 (↑(Zv ns).length:Int)))),(8,(.pv (.int .i64 (IntKind.i64.wrap (i+1)))))] []):At UX 0 (fun st=>fin st VI=some r) VK 0 19 [(0,.pv (.sl 1 t (Zv ns))),(1,.pv (.int .i64 v)),(7,.pv (.int .i64 (Zv ns).length)),(8,.pv (.int .i64 i))] []:=At.w (.lit (.ans true (.req (.req (.lit (.ans false (.lit (.nil)))))))) (And.intro h0 (And.intro h1 (And.intro h2 (And.intro h3 hn)))) (by kernel_rfl)
theorem a3l{r:PV}(ns:List Int)(t:Bool)(v:Int)(i:Int)(h0:(decide (i<(↑(Zv ns).length:Int)))=false)(hr:(.int .i64 (-1))=r):At UX 0 (fun st=>fin st VI=some r) VK 0 19 [(0,.pv (.sl 1 t (Zv ns))),(1,.pv (.int .i64 v)),(7,.pv (.int .i64 (Zv ns).length)),(8,.pv (.int .i64 i))] []:=At.w (.lit (.ans false (.nil))) (And.intro h0 hr) (by kernel_rfl)
end Go.Pl
namespace Go.Pl
open Go.RowKit
theorem Og{r:PV}(ns:List Int)(t:Bool)(h6:ns.length<=6)(ha:ns.all UM=true): ∀ (m k:Nat) (n:Int),m+k=ns.length->0<=n->n<=4096 ->
  r=(match Bv n (ns.drop k)with|some n=>.tup [.int .i64 n,.int .i64 0]|none=>.tup [.int .i64 0,.int .i64 3]) ->
  At Y0 0 (fun st=>fin st YM=some r) YK 1 53 [(0,.pv (.sl 1 t (Zv ns))),(6,.pv (.int .i64 n)),(7,.pv (.int .i64 k))] []:=by
 intro m
 induction m with
 | zero=>
  intro k n hk h0 h1 hr
  have:ns.drop k=[]:=List.drop_of_length_le (by omega)
  rw[this]at hr
  exact a3o ns t k n (by simp;omega) hr.symm
 | succ m ih=>
  intro k n hk h0 h1 hr
  have hlt:k<ns.length:=by omega
  have hd:0<=ns[k]∧ns[k]<=4096:=by
   have:=List.all_eq_true.1 ha _ (List.getElem_mem hlt)
   simpa [UM]using this
  have hp:0<=n*ns[k]∧n*ns[k]<=4096*4096:=⟨Int.mul_nonneg h0 hd.1,Int.mul_le_mul h1 hd.2 hd.1 (by omega)⟩
  have hw:IntKind.i64.wrap (n*ns[k])=n*ns[k]:=Vn (by omega) (by omega)
  rw[List.drop_eq_getElem_cons hlt,Bv]at hr
  have e:=Jg hlt
  by_cases hb:4096<n*ns[k]
  ·simp only[hb,decide_true,cond_true]at hr
   refine a1b ns t k n (by simp;omega) (by simp;omega) (by rw[e];rfl) ?_ hr.symm
   rw[e]
   simpa [PV.cells,PV.asInt,hw]using hb
  ·simp only[hb,decide_false,cond_false]at hr
   refine a3q ns t k n (by simp;omega) (by simp;omega) (by rw[e];rfl) ?_ ?_
   ·rw[e]
    simpa [PV.cells,PV.asInt,hw]using Int.not_lt.1 hb
   ·rw[e,next (by omega)]
    simp only[PV.cells,List.getD_cons_zero,PV.asInt,hw]
    exact ih (k+1) (n*ns[k]) (by omega) hp.1 (by omega) hr
theorem Ew(ns:List Int)(t:Bool)(h6:ns.length<=6): ∀ (m k:Nat) (z:Bool),m+k=ns.length->(∀ j (hj:j<ns.length),j<k->UM ns[j]=true)->z=(ns.take k).any (· == 0) ->
  At Y0 0 (fun st=>fin st YM=some (Y7 [.sl 1 t (Zv ns)])) YK 0 53 [(0,.pv (.sl 1 t (Zv ns))),(4,.pv (.bool z)),(5,.pv (.int .i64 k))] []:=by
 intro m
 induction m with
 | zero=>
  intro k z hk hd hz
  have ha:ns.all UM=true:=by
   rw[List.all_eq_true]
   intro x hx
   obtain⟨j,hj,rfl⟩:=List.getElem_of_mem hx
   exact hd j hj (by omega)
  rw[List.take_of_length_le (by omega)]at hz
  cases z with
  | true=>
   refine a3i ns t k _ (by simp;omega) rfl ?_
   simp[Y7,Y2,Xl,ha,<- hz,Nat.not_lt.2 h6]
  | false=>
   refine a1e ns t k _ (by simp;omega) rfl ?_
   refine Og ns t h6 ha ns.length 0 1 (by omega) (by omega) (by omega) ?_
   simp only[Y7,Y2,Xl,ha,<- hz,Nat.not_lt.2 h6,decide_false,cond_false,cond_true,List.drop_zero]
   cases Bv 1 ns <;> rfl
 | succ m ih=>
  intro k z hk hd hz
  have hlt:k<ns.length:=by omega
  have e:=Jg hlt
  have hbad:UM ns[k]=false->Y7 [.sl 1 t (Zv ns)] = .tup [.int .i64 0,.int .i64 2]:=by
   intro hb
   have ha:ns.all UM=false:=by
    rw[List.all_eq_false]
    exact⟨_,List.getElem_mem hlt,by simp[hb]⟩
   simp[Y7,Y2,Xl,ha,Nat.not_lt.2 h6]
  have hn:(ns.take (k+1)).any (· == 0)=(z||ns[k]==0):=by
   rw[List.take_succ_eq_append_getElem hlt,List.any_append,hz];simp
  have hd':UM ns[k]=true-> ∀ j (hj:j<ns.length),j<k+1->UM ns[j]=true:=by
   intro hb j hj hjk
   by_cases he:j=k
   ·subst he;exact hb
   ·exact hd j hj (by omega)
  by_cases h1:ns[k]<0
  ·refine a2j ns t k z (by simp;omega) (by simp;omega) (by rw[e];rfl) (by rw[e];simpa [PV.cells,PV.asInt]using h1) (hbad ?_).symm
   simp[UM];omega
  ·by_cases h2:4096<ns[k]
   ·refine a4u ns t k z (by simp;omega) (by simp;omega) (by rw[e];rfl) (by rw[e];simpa [PV.cells,PV.asInt]using h1) (by rw[e];simpa [PV.cells,PV.asInt]using h2) (hbad ?_).symm
    simp[UM];omega
   ·have hb:UM ns[k]=true:=by simp[UM];omega
    cases z with
    | true=>
     refine a0m ns t k true (by simp;omega) (by simp;omega) (by rw[e];rfl) (by rw[e];simpa [PV.cells,PV.asInt]using h1) (by rw[e];simpa [PV.cells,PV.asInt]using h2) rfl ?_
     rw[next (by omega)]
     exact ih (k+1) true (by omega) (hd' hb) (by rw[hn];rfl)
    | false=>
     refine EX ns t k false (by simp;omega) (by simp;omega) (by rw[e];rfl) (by rw[e];simpa [PV.cells,PV.asInt]using h1) (by rw[e];simpa [PV.cells,PV.asInt]using h2) rfl ?_
     rw[next (by omega),e]
     exact ih (k+1) _ (by omega) (hd' hb) (by rw[hn];rfl)
theorem b2p: ∀ ps,QG ps=true->Ze Y0 0 (fun st=>fin st YM=some (Y7 ps)) YK [] (Z0 53 ps):=by
 intro ps hp
 unfold QG at hp
 split at hp
 ·rename_i t xs
  obtain⟨ns,rfl⟩:=Ae hp
  by_cases h6:6<ns.length
  ·refine a9d ns t (by simp;omega) ?_
   simp[Y7,Y2,Xl,h6]
  ·refine b0l ns t (by simp;omega) ?_
   exact Ew ns t (by omega) ns.length 0 false (by omega) (fun j hj h=>by omega) (by simp)
 ·cases hp
def a0c(v:Int):List Int->Nat->Int
 | [],_=> -1
 | n::r,i=>bif v==n then i else a0c v r (i+1)
theorem b8n{v:Int}: ∀ {l:List Int} {i:Nat},decide (0<=a0c v l i)=l.any (· == v):=by
 intro l
 induction l with
 | nil=>intro i;rfl
 | cons n r ih=>
  intro i
  simp only[a0c,List.any_cons]
  by_cases h:v=n
  ·subst h;simp
  ·have h1:(v==n)=false:=by simpa using h
   have h2:(n==v)=false:=by simp;omega
   simp only[h1,h2,cond_false,Bool.false_or]
   exact ih
def JO:List PV->PV
 | [.sl _ _ xs,.int _ v]=>.int .i64 (a0c v (xs.map PV.asInt) 0)
 | _=>.nilp
theorem a1s(ns:List Int)(t:Bool)(v:Int)(hl:ns.length<=1099511627776){r:PV}: ∀ (m k:Nat),m+k=ns.length->r = .int .i64 (a0c v (ns.drop k) k) ->
  At UX 0 (fun st=>fin st VI=some r) VK 0 19 [(0,.pv (.sl 1 t (Zv ns))),(1,.pv (.int .i64 v)),(7,.pv (.int .i64 (Zv ns).length)),(8,.pv (.int .i64 k))] []:=by
 intro m
 induction m with
 | zero=>
  intro k hk hr
  rw[List.drop_of_length_le (by omega)]at hr
  exact a3l ns t v k (by simp;omega) hr.symm
 | succ m ih=>
  intro k hk hr
  have hlt:k<ns.length:=by omega
  have e:=Jg hlt
  rw[List.drop_eq_getElem_cons hlt,a0c]at hr
  cases hb:v==ns[k]with
  | true=>
   rw[hb,cond_true]at hr
   exact a2e ns t v k (by simp;omega) (by simp;omega) (by rw[e];rfl) (by rw[e];exact hb) hr.symm
  | false=>
   rw[hb,cond_false]at hr
   refine a0r ns t v k (by simp;omega) (by simp;omega) (by rw[e];rfl) (by rw[e];exact hb) ?_
   rw[next (by omega)]
   exact ih (k+1) (by omega) hr
theorem b2z: ∀ ps,YE ps=true->Ze UX 0 (fun st=>fin st VI=some (JO ps)) VK [] (Z0 19 ps):=by
 intro ps hp
 unfold YE at hp
 split at hp
 ·rename_i t xs v
  simp only[Bool.and_eq_true,decide_eq_true_eq]at hp
  obtain⟨ns,rfl⟩:=Ae hp.1
  refine b1o ns t v ?_
  exact a1s ns t v (by have:=hp.2;rwa [BH]at this) ns.length 0 (by omega) (by simp[JO])
 ·cases hp
def PV.ns(p:PV):List Int:=p.asXs.map PV.asInt
def Jc:IC:=(V5 [Yd 4 (f'' false) 0] (V5 [Yd 5 (Vt 0) 0,Yd 6 (Vt 1) 0,Yd 7 (c'' 172 [(.t 5),(.t 6)]) 0,Yd 8 (Gz .geq (.t 7) (WN 0)) 2,Yd 4 (Vt 8) 2] .ret))
def Jn:List IRes:=[(.tmp 4)]
abbrev EH:Nat:=9
def H7:ZO:=YQ [(172,.pure YE JO)]
theorem MZ{r:PV}(ns:List Int)(t:Bool)(v:Int)(h0:(YE [(.sl 1 t (Zv ns)),(.int .i64 v)])=true)(hr:(.bool (decide (a0c v (List.map PV.asInt (Zv ns)) 0 ≥ 0)))=r):Ze H7 0 (fun st=>fin st Jn=some r) Jc [] (Z0 9 [.sl 1 t (Zv ns),.int .i64 v]):=Ze.w (.req (.lit (.nil))) (And.intro h0 hr) (by kernel_rfl)
theorem ND: ∀ ps,YE ps=true->Ze H7 0 (fun st=>fin st Jn=some (UO ps)) Jc [] (Z0 EH ps):=by
 intro ps hp
 have hp':=hp
 unfold YE at hp
 split at hp
 ·rename_i t xs v
  simp only[Bool.and_eq_true,decide_eq_true_eq]at hp
  obtain⟨ns,rfl⟩:=Ae hp.1
  refine MZ ns t v hp' ?_
  have:=b8n (v:=v) (l:=ns) (i:=0)
  simp only[Xl,UO,Tn,ge_iff_le]
  rw[<- this]
 ·cases hp
end Go.Pl
namespace Go.Pl
open Go.RowKit
open Enc (enc dec is)
open EncL (encL decL isL)
set_option maxRecDepth 100000
noncomputable def XT:IC:=Xu Proofs.Tryz.f93
def We:List IRes:=[(.tmp 2)]
abbrev c0t:Nat:=67
def Vf:ZO:=YQ [(114,.pure (preT (fun _:Str×Str×Unit=>true)) (Zb (fun x:Str×Str×Unit=>x.2.1.s.isPrefixOf x.1.s))),(115,.pure (preT (fun x:Str×Unit=>decide (x.1.s.length<=1000000))) (Zb (fun x:Str×Unit=>YL x.1))),(51,.pure (preT (fun x:Int×Unit=>decide (-9223372036854775808<=x.1)&&decide (x.1<=9223372036854775807))) (Zb (fun x:Int×Unit=>Zn x.1)))]
theorem c7d{G:PV->Prop}(s:List UInt8)(h : ∃ y0:Bool,AV.pv (Zb (fun(x:Str×Str×Unit)=>List.isPrefixOf (Str.s x.2.1) (Str.s x.1)) [(.str s),(.str [(95:UInt8)])])=AV.pv (enc y0)∧(if (y0)=true then(decide (0<=1)&&true&&decide (Int.toNat 1<=List.length s)&&decide (List.length s<=List.length s))=true∧((Go.Pl.preT (fun(x:Str×Unit)=>decide (List.length (Str.s x.1)<=1000000)) [(.str (List.drop (Int.toNat 1) (List.take (List.length s) s)))])=true∧(∃ y1:Int×Er,AV.pv (Zb (fun(x:Str×Unit)=>YL x.1) [(.str (List.drop (Int.toNat 1) (List.take (List.length s) s)))])=AV.pv (enc y1)∧((Sk (enc y1.2)&&Prod.fst (true,PV.bool (U3 (enc y1.2))))=true∧(if (U3 (enc y1.2))=true then if (decide (y1.1>0))=true then if (decide ((↑(List.length s):Int)<=10))=true then(Go.Pl.preT (fun(x:Int×Unit)=>decide ((-9223372036854775808:Int)<=x.1)&&decide (x.1<=9223372036854775807)) [(.int .i64 y1.1)])=true∧(∃ y2:Str,AV.pv (Zb (fun(x:Int×Unit)=>Zn x.1) [(.int .i64 y1.1)])=AV.pv (enc y2)∧((decide (0<=1)&&true&&decide (Int.toNat 1<=List.length s)&&decide (List.length s<=List.length s))=true∧(G ((.bool (Str.s y2==List.drop (Int.toNat 1) (List.take (List.length s) s)))))))else(G ((.bool false)))else(G ((.bool false)))else(G ((.bool false)))))))else(At Vf 0 (Za We G) XT 0 67 [(0,(.pv (.str s))),(34,(.pv (.sl 1 false (Zh s)))),(35,(.pv (.int .i64 (↑(List.length (Zh s)):Int)))),(36,(.pv (.int .i64 0)))] []))):Ze Vf 0 (Za We G) XT [] (Z0 67 [.str s]):=Ze.tp (.lit (.abs (Bool) (fun YY=>AV.pv (enc YY)) (.ask (.req (.req (.abs (Int×Er) (fun YY=>AV.pv (enc YY)) (.req (.ask (Zl 3 (.ask (Zl 4 (.ask (.lit (.req (.abs (Str) (fun YY=>AV.pv (enc YY)) (Zl 2 (.req (Zu 3)))))) (Zu 5))) (Zu 9))) (Zu 12)))))) (.nil)))) h (by kernel_rfl)
theorem Eo{G:PV->Prop}(s:List UInt8)(i:Int)(h:if (decide (i<(↑(List.length (Zh s)):Int)))=true then(decide (0<=i)&&decide (Int.toNat i<List.length (Zh s))&&1==1)=true∧((decide (0+List.length [Sh.int IntKind.u8]<=List.length (PV.cells (List.getD (Zh s) (Int.toNat i) default)))&&Yx (PV.cells (List.getD (Zh s) (Int.toNat i) default)) 0 [Sh.int IntKind.u8])=true∧(if (decide (PV.asInt (List.getD (PV.cells (List.getD (Zh s) (Int.toNat i) default)) 0 default)<97))=true then if (i==0)=true then G ((.bool false))else(if (decide (PV.asInt (List.getD (PV.cells (List.getD (Zh s) (Int.toNat i) default)) 0 default)<48))=true then G ((.bool false))else(if (decide (PV.asInt (List.getD (PV.cells (List.getD (Zh s) (Int.toNat i) default)) 0 default)>57))=true then G ((.bool false))else(At Vf 0 (Za We G) XT 0 67 [(0,(.pv (.str s))),(34,(.pv (.sl 1 false (Zh s)))),(35,(.pv (.int .i64 (↑(List.length (Zh s)):Int)))),(36,(.pv (.int .i64 (IntKind.wrap IntKind.i64 (i+1)))))] [])))else(if (decide (PV.asInt (List.getD (PV.cells (List.getD (Zh s) (Int.toNat i) default)) 0 default)>122))=true then if (i==0)=true then G ((.bool false))else(if (decide (PV.asInt (List.getD (PV.cells (List.getD (Zh s) (Int.toNat i) default)) 0 default)<48))=true then G ((.bool false))else(if (decide (PV.asInt (List.getD (PV.cells (List.getD (Zh s) (Int.toNat i) default)) 0 default)>57))=true then G ((.bool false))else(At Vf 0 (Za We G) XT 0 67 [(0,(.pv (.str s))),(34,(.pv (.sl 1 false (Zh s)))),(35,(.pv (.int .i64 (↑(List.length (Zh s)):Int)))),(36,(.pv (.int .i64 (IntKind.wrap IntKind.i64 (i+1)))))] [])))else(At Vf 0 (Za We G) XT 0 67 [(0,(.pv (.str s))),(34,(.pv (.sl 1 false (Zh s)))),(35,(.pv (.int .i64 (↑(List.length (Zh s)):Int)))),(36,(.pv (.int .i64 (IntKind.wrap IntKind.i64 (i+1)))))] []))))else(if (!s==[])=true then G ((.bool (decide ((↑(List.length s):Int)<=30))))else(G ((.bool false))))):At Vf 0 (Za We G) XT 0 67 [(0,.pv (.str s)),(34,.pv (.sl 1 false (Zh s))),(35,.pv (.int .i64 (Zh s).length)),(36,.pv (.int .i64 i))] []:=At.tp (.lit (.ask (.req (.keep (.req (.lit (.ask (Zl 6 (.ask (Zu 10) (Zl 5 (.ask (Zu 5) (Zl 5 (.ask (.nil) (.lit (.nil)))))))) (Zl 3 (.ask (Zl 3 (.ask (Zu 10) (Zl 5 (.ask (Zu 5) (Zl 5 (.ask (.nil) (.lit (.nil)))))))) (Zu 8)))))))) (.lit (.ask (Zu 4) (Zu 3))))) h (by kernel_rfl)
noncomputable def WK:IC:=WU
def WH:List IRes:=[(.tmp 2)]
abbrev a8v:Nat:=54
def VQ:ZO:=YQ [(94,.pure (preT (fun _:Int×Unit=>true)) (Zb (fun x:Int×Unit=>Yp x.1))),(93,.pure (preT (fun x:Str×Unit=>decide (x.1.s.length<=1000000))) (Zb (fun x:Str×Unit=>Yq x.1)))]
theorem b9b{G:PV->Prop}(l:Lin)(h:At VQ 0 (Za WH G) WK 0 54 [(1,(.ptr 0 0)),(6,(.pv (.sl 2 false (List.map enc l.t)))),(7,(.pv (.int .i64 (↑(List.length (List.map enc l.t)):Int)))),(8,(.pv (.int .i64 0)))] [(.obj (.box [(.pv (.int .i64 l.k)),(.pv (.sl 2 false (List.map enc l.t)))]))]):Ze VQ 0 (Za WH G) WK [] (Z0 54 [enc l]):=Ze.tp (.nil) h (by kernel_rfl)
theorem PQ{G:PV->Prop}(l:Lin)(i:Int)(h:if (decide (i<(↑(List.length l.t):Int)))=true then(decide (0<=i)&&decide (Int.toNat i<List.length (List.map enc l.t))&&Enc.sz Coef==2)=true∧(∃ y0:Coef,AV.pv (PV.rptr (PV.cells (List.getD (List.map enc l.t) (Int.toNat i) default)))=AV.pv (PV.rptr (PV.cells ((enc) y0)))∧((Go.Pl.preT (fun(x:Str×Unit)=>decide (List.length (Str.s x.1)<=1000000)) [(.str (PV.asStr (List.getD (PV.cells (enc y0)) 0 default)))])=true∧(∃ y1:Bool,AV.pv (Zb (fun(x:Str×Unit)=>Yq x.1) [(.str (PV.asStr (List.getD (PV.cells (enc y0)) 0 default)))])=AV.pv (enc y1)∧(if (!y1)=true then G ((.bool false))else(if (PV.asInt (List.getD (PV.cells (enc y0)) (0+1) default)==0)=true then G ((.bool false))else(∃ y2:Bool,AV.pv (Zb (fun(x:Int×Unit)=>Yp x.1) [(.int .i64 (PV.asInt (List.getD (PV.cells (enc y0)) (0+1) default)))])=AV.pv (enc y2)∧(if (!y2)=true then G ((.bool false))else(if (decide (i>0))=true then(decide (0<=IntKind.wrap IntKind.i64 (i - 1))&&decide (Int.toNat (IntKind.wrap IntKind.i64 (i - 1))<List.length (List.map enc l.t))&&Enc.sz Coef==2)=true∧(∃ y3:Coef,AV.pv (PV.rptr (PV.cells (List.getD (List.map enc l.t) (Int.toNat (IntKind.wrap IntKind.i64 (i - 1))) default)))=AV.pv (PV.rptr (PV.cells ((enc) y3)))∧(if (!Op.bytesLess (PV.asStr (List.getD (List.drop 0 (PV.cells (enc y3))) 0 default)) (PV.asStr (List.getD (PV.cells (enc y0)) 0 default)))=true then G ((.bool false))else(At VQ 0 (Za WH G) WK 0 54 [(1,(.ptr 0 0)),(6,(.pv (.sl 2 false (List.map enc l.t)))),(7,(.pv (.int .i64 (↑(List.length l.t):Int)))),(8,(.pv (.int .i64 (IntKind.wrap IntKind.i64 (i+1)))))] [(.obj (.box [(.pv (.int .i64 l.k)),(.pv (.sl 2 false (List.map enc l.t)))]))])))else(At VQ 0 (Za WH G) WK 0 54 [(1,(.ptr 0 0)),(6,(.pv (.sl 2 false (List.map enc l.t)))),(7,(.pv (.int .i64 (↑(List.length l.t):Int)))),(8,(.pv (.int .i64 (IntKind.wrap IntKind.i64 (i+1)))))] [(.obj (.box [(.pv (.int .i64 l.k)),(.pv (.sl 2 false (List.map enc l.t)))]))])))))))))else(∃ y4:Bool,AV.pv (Zb (fun(x:Int×Unit)=>Yp x.1) [(.int .i64 l.k)])=AV.pv (enc y4)∧(if (y4)=true then G ((.bool (decide ((↑(List.length (List.map enc l.t)):Int)<=12))))else(G ((.bool false)))))):At VQ 0 (Za WH G) WK 0 54 [(1,.ptr 0 0),(6,.pv (enc l.t)),(7,.pv (.int .i64 l.t.length)),(8,.pv (.int .i64 i))] [.obj (.box [.pv (.int .i64 l.k),.pv (enc l.t)])]:=At.tp (.lit (.ask (.req (.abs (Coef) (fun YY=>AV.pv (PV.rptr (PV.cells ((enc) YY)))) (.lit (.req (.abs (Bool) (fun YY=>AV.pv (enc YY)) (.ask (Zu 14) (Zl 4 (.ask (Zu 10) (Zl 3 (.abs (Bool) (fun YY=>AV.pv (enc YY)) (Zl 2 (.ask (Zu 5) (Zl 3 (.ask (Zl 5 (.req (.abs (Coef) (fun YY=>AV.pv (PV.rptr (PV.cells ((enc) YY)))) (Zl 10 (.ask (.nil) (.lit (.nil))))))) (Zu 14))))))))))))))) (.lit (.abs (Bool) (fun YY=>AV.pv (enc YY)) (.ask (Zu 5) (Zu 4)))))) h (by kernel_rfl)
end Go.Pl
namespace Go.Pl
open Go.RowKit
open Enc (enc dec is)
open EncL (encL decL isL)
theorem OQ{s:List UInt8}{i:Nat}(h:i<s.length):List.getD (Zh s) (Int.toNat (i:Int)) default = .int .u8 (s[i].toNat:Int):=by
 simp[Zh,List.getD,h]
theorem U1(s:List UInt8):(Zh s).length=s.length:=by simp[Zh]
def O9(c:UInt8):Bool:=lowB c||digB c
theorem LA{c:UInt8}:lowB c=true ↔ 97<=c.toNat∧c.toNat<=122:=by
 simp only[lowB,Bool.and_eq_true,decide_eq_true_eq,UInt8.le_iff_toNat_le]
 have e1:(97:UInt8).toNat=97:=rfl
 have e2:(122:UInt8).toNat=122:=rfl
 rw[e1,e2]
theorem JK{c:UInt8}(h : ¬ (97<=c.toNat∧c.toNat<=122)):lowB c=false:=by
 cases e:lowB c
 ·rfl
 ·exact absurd (LA.1 e) h
theorem Jz{c:UInt8}(h : ¬ (48<=c.toNat∧c.toNat<=57)):digB c=false:=by
 cases e:digB c
 ·rfl
 ·exact absurd (WT.1 e) h
def XV(s:List UInt8)(i:Nat):Bool:=(match i with|0=>(match s with|[]=>true|c::r=>lowB c&&r.all O9)|i+1=>(s.drop (i+1)).all O9)&&(!(s==[]))&&decide (s.length<=30)
theorem PY{s:List UInt8}{i:Nat}(h:i<s.length)(hb:lowB s[i]=true∨(i≠0∧digB s[i]=true)):XV s i=XV s (i+1):=by
 cases i with
 | zero=>
  cases s with
  | nil=>simp at h
  | cons c r=>
   rcases hb with hb|hb
   ·have hb:lowB c=true:=hb
    simp[XV,hb]
   ·exact absurd rfl hb.1
 | succ i=>
  unfold XV
  simp only
  rw[List.drop_eq_getElem_cons h,List.all_cons]
  have:O9 s[i+1]=true:=by
   rcases hb with hb|hb
   ·simp[O9,hb]
   ·simp[O9,hb.2]
  rw[this,Bool.true_and]
theorem PW{s:List UInt8}{i:Nat}(h:i<s.length)(hb:lowB s[i]=false∧(i=0∨digB s[i]=false)):XV s i=false:=by
 cases i with
 | zero=>
  cases s with
  | nil=>simp at h
  | cons c r=>
   have hb:lowB c=false:=hb.1
   simp[XV,hb]
 | succ i=>
  unfold XV
  simp only
  rw[List.drop_eq_getElem_cons h,List.all_cons]
  have:O9 s[i+1]=false:=by
   rcases hb.2 with h0|h0
   ·cases h0
   ·simp[O9,hb.1,h0]
  rw[this];simp
theorem a5f(s:List UInt8)(hs:s.length<=1000000): ∀ (m i:Nat),m+i=s.length->At Vf 0 (Za We (Zi (XV s i))) XT 0 67 [(0,.pv (.str s)),(34,.pv (.sl 1 false (Zh s))),(35,.pv (.int .i64 (Zh s).length)),(36,.pv (.int .i64 i))] []:=by
 intro m
 induction m with
 | zero=>
  intro i hi
  have e:XV s i=(!(s==[])&&decide (s.length<=30)):=by
   unfold XV
   cases i with
   | zero=>cases s with
    | nil=>rfl
    | cons c r=>simp at hi
   | succ i=>simp only;rw[List.drop_of_length_le (show s.length<=i+1 by omega)];simp
  rw[e]
  refine Eo s i (YA (YR (by rw[U1];omega)) (XR (fun h=>ZA ?_) fun h=>ZA ?_))
  ·rw[h,Bool.true_and];exact decide_eq_decide.2 (by omega)
  ·rw[h,Bool.false_and]
 | succ m ih=>
  intro i hi
  have hlt:i<s.length:=by omega
  have h:=ih (i+1) (by omega)
  refine Eo s i ?_
  rw[OQ hlt,next (by omega)]
  have stop:(lowB s[i]=false∧(i=0∨digB s[i]=false))->Zi (XV s i) (.bool false):=fun hb=>ZA (PW hlt hb).symm
  have go:(lowB s[i]=true∨(i≠0∧digB s[i]=true))->At Vf 0 (Za We (Zi (XV s i))) XT 0 67 [(0,.pv (.str s)),(34,.pv (.sl 1 false (Zh s))),(35,.pv (.int .i64 (Zh s).length)),(36,.pv (.int .i64 ((i+1:Nat):Int)))] []:=fun hb=>by rw[PY hlt hb];exact h
  have rest:lowB s[i]=false->(if ((i:Int)==0)=true then Zi (XV s i) (.bool false)else if decide ((s[i].toNat:Int)<48)=true then Zi (XV s i) (.bool false)else if decide ((s[i].toNat:Int)>57)=true then Zi (XV s i) (.bool false)else At Vf 0 (Za We (Zi (XV s i))) XT 0 67 [(0,.pv (.str s)),(34,.pv (.sl 1 false (Zh s))),(35,.pv (.int .i64 (Zh s).length)),(36,.pv (.int .i64 ((i+1:Nat):Int)))] []):=by
   intro hl
   refine ZL (fun h0=>stop ⟨hl,.inl (by omega)⟩) fun h0=>Yg (fun h1=>stop ⟨hl,.inr (Jz (by omega))⟩) fun h1=>Yg (fun h2=>stop ⟨hl,.inr (Jz (by omega))⟩) fun h2=>go (.inr ⟨by omega,WT.2 (by omega)⟩)
  refine Yv (YO (by rw[U1];exact hlt)) ⟨by rw[U1];simp[hlt],by rfl,?_⟩
  refine Yg (fun h1=>rest (JK ?_)) fun h1=>Yg (fun h2=>rest (JK ?_)) fun h2=>go (.inl (LA.2 ?_))
  ·have h1:(s[i].toNat:Int)<97:=h1
   omega
  ·have h2:(s[i].toNat:Int)>122:=h2
   omega
  ·have h1 : ¬ (s[i].toNat:Int)<97:=h1
   have h2 : ¬ (s[i].toNat:Int)>122:=h2
   omega
theorem Ng{s:List UInt8}(h:[95].isPrefixOf s=false):Yq ⟨s⟩=XV s 0:=by
 cases s with
 | nil=>rfl
 | cons c r=>
  have hc : ¬ c=95:=by intro e;subst e;simp at h
  have e:decide ((c::r).length<=30)=decide (r.length<=29):=decide_eq_decide.2 (by simp)
  unfold XV
  rw[e]
  simp only[Yq,if_neg hc]
  show _=(lowB c&&r.all O9&& !((c::r)==[])&&_)
  have e2:((c::r)==[])=false:=rfl
  rw[e2]
  simp only[Bool.not_false,Bool.and_true]
  rfl
theorem Ti(s:Str): -9223372036854775808<=(YL s).1∧((YL s).1<=9223372036854775807):=by
 unfold YL
 split
 ·rename_i v hv;exact Lib.atoiAll_bounds hv
 ·have:=Lib.atoiSat_bounds s.s
  exact⟨by show _<=Lib.atoiSat s.s;omega,by show Lib.atoiSat s.s<=_;omega⟩
 ·exact⟨by show(-9223372036854775808:Int)<=0;omega,by show(0:Int)<=_;omega⟩
theorem b1i: ∀ a:Str×Unit,decide (a.1.s.length<=1000000)=true->Ze Vf 0 (Za We (Zi (Yq a.1))) XT [] (Z0 c0t (encL a)):=by
 rintro⟨⟨s⟩,⟨⟩⟩ hl
 have hl:s.length<=1000000:=by simpa using hl
 refine c7d s (Zd (⟨s⟩,⟨[95]⟩,()) rfl (XR (fun h=> ?_) fun h=> ?_))
 ·have h:[95].isPrefixOf s=true:=h
  obtain⟨r,rfl⟩ : ∃ r,s=95::r:=by
   cases s with
   | nil=>simp at h
   | cons c r=>
    have:95=c:=by simpa using h
    exact⟨r,by rw[this]⟩
  have e1:List.drop (Int.toNat 1) (List.take (List.length (95::r)) (95::r))=r:=by rw[List.take_of_length_le (Nat.le_refl _)];rfl
  simp only[e1]
  refine⟨by simp,Zf (⟨r⟩,()) rfl (by simp at hl ⊢;omega),Zd (⟨r⟩,()) rfl ⟨by show(Sk (enc (YL ⟨r⟩).2)&&true)=true;rw[d2s];rfl,?_⟩⟩
  show if U3 (enc (YL ⟨r⟩).2)=true then(if decide ((YL ⟨r⟩).1>0)=true then(if _ then _ else Zi (Yq ⟨95::r⟩) _)else Zi (Yq ⟨95::r⟩) _)else Zi (Yq ⟨95::r⟩) _
  rw[OX]
  by_cases h9:r.length<=9
  ·rw[<- a5x r h9,decide_eq_true h9,Bool.and_true]
   refine XR (fun h1=>XR (fun h2=>Yv (by simp;omega) ⟨Zf ((YL ⟨r⟩).1,()) rfl (by have:=Ti ⟨r⟩;simp;omega),Zd ((YL ⟨r⟩).1,()) rfl ⟨by simp,ZA ?_⟩⟩) fun h2=>ZA ?_) fun h1=>ZA ?_
   ·rw[h1,h2];simp only[Bool.true_and,Bool.and_true];rfl
   ·rw[h2];simp
   ·rw[h1];simp
  ·rw[decide_eq_false h9,Bool.and_false]
   refine XR (fun h1=>XR (fun h2=>YA (by simp;omega) (ZA rfl)) fun h2=>ZA rfl) fun h1=>ZA rfl
 ·have h:[95].isPrefixOf s=false:=h
  show At Vf 0 (Za We (Zi (Yq ⟨s⟩))) XT 0 67 _ _
  rw[Ng h]
  exact a5f s hl s.length 0 (by omega)
theorem FN(l:Lin)(hl:l.t.length<=9223372036854775807)(hs:l.t.all (fun t=>decide (t.v.s.length<=1000000))=true): ∀ (j i:Nat),j+i=l.t.length->At VQ 0 (Za WH (Zi (CB (OD l.t i) (l.t.drop i)&&(Yp l.k&&decide (l.t.length<=12))))) WK 0 54 [(1,.ptr 0 0),(6,.pv (enc l.t)),(7,.pv (.int .i64 l.t.length)),(8,.pv (.int .i64 i))] [.obj (.box [.pv (.int .i64 l.k),.pv (enc l.t)])]:=by
 intro j
 induction j with
 | zero=>
  intro i hi
  refine PQ l i (YA (YR (by omega)) (Zd (l.k,()) rfl ?_))
  rw[List.drop_of_length_le (show l.t.length<=i by omega)]
  refine XR (fun h=>ZA ?_) fun h=>ZA ?_
  ·have h:Yp l.k=true:=h
   rw[h]
   show _=(true&&(true&&_))
   rw[Bool.true_and,Bool.true_and]
   exact decide_eq_decide.2 (by simp;omega)
  ·have h:Yp l.k=false:=h
   rw[h];simp
 | succ j ih=>
  intro i hi
  have hlt:i<l.t.length:=by omega
  have h:=ih (i+1) (by omega)
  have hsi:l.t[i].v.s.length<=1000000:=by rw[List.all_eq_true]at hs;simpa using hs _ (List.getElem_mem hlt)
  refine PQ l i ?_
  refine Yv (YO hlt) ⟨ZT hlt rfl,Yk hlt ⟨Zf (l.t[i].v,()) rfl (by simpa using hsi),Zd (l.t[i].v,()) rfl (VY (fun hn=> ?_) fun hn=>ZL (fun hc=> ?_) fun hc=>Zd (l.t[i].c,()) rfl (VY (fun hk=> ?_) fun hk=> ?_))⟩⟩
  all_goals rw[List.drop_eq_getElem_cons hlt,Ja]
  ·have hn:Yq l.t[i].v=false:=hn
   exact ZA (by simp[hn])
  ·have hc:l.t[i].c=0:=hc
   exact ZA (by simp[hc])
  ·have hk:Yp l.t[i].c=false:=hk
   exact ZA (by simp[hk])
  have hn:Yq l.t[i].v=true:=hn
  have hk:Yp l.t[i].c=true:=hk
  have hc:l.t[i].c≠0:=hc
  rw[next (by omega),hn,hk,decide_eq_true hc]
  have ep:OD l.t (i+1)=some l.t[i].v.s:=by simp[OD,hlt]
  rw[ep]at h
  cases i with
  | zero=>exact YA (by simp) h
  | succ i=>
   refine Yv (by simp) ?_
   rw[M5 (by omega)]
   refine⟨ZT (by omega) rfl,Yk (by omega) ?_⟩
   have e2:OD l.t (i+1)=some l.t[i].v.s:=by simp[OD,show i<l.t.length by omega]
   rw[e2]
   refine VY (fun hb=> ?_) fun hb=> ?_
   all_goals
    have hb':=(X6 l.t[i].v.s l.t[i+1].v.s).symm.trans hb
    simp only[hb',Bool.and_true,Bool.true_and,Bool.and_false,Bool.false_and]
   ·exact ZA rfl
   ·exact h
theorem EY: ∀ a:Lin×Unit,Ws a.1=true->Ze VQ 0 (Za WH (Zi (Zp a.1))) WK [] (Z0 a8v (encL a)):=by
 rintro⟨l,⟨⟩⟩ hl
 simp only[Ws,X3,Bool.and_eq_true,decide_eq_true_eq]at hl
 refine b9b l ?_
 show At VQ 0 (Za WH (Zi (Zp l))) WK 0 54 _ _
 have e:Zp l=(CB (OD l.t 0) (l.t.drop 0)&&(Yp l.k&&decide (l.t.length<=12))):=by rw[Ry,Bool.and_comm];rfl
 rw[e,List.length_map]
 exact FN l hl.1 hl.2 l.t.length 0 (by omega)
end Go.Pl
namespace Go.Pl
open Go.RowKit
open Enc (enc dec is)
open EncL (encL decL isL)
set_option maxRecDepth 100000
noncomputable def Nt:IC:=Xu Proofs.Tryz.f57
def MX:List IRes:=[]
abbrev c6v:Nat:=33
def a3w:ZO:=YQ [(51,.pure (preT (fun x:Int×Unit=>decide (-9223372036854775808<=x.1)&&decide (x.1<=9223372036854775807))) (Zb (fun x:Int×Unit=>Zn x.1))),(58,.pure (preT (fun x:Str×Str×Unit=>decide (x.1.s.length<=1000000))) (Zb (fun x:Str×Str×Unit=>(⟨Lib.trimSuffix x.1.s x.2.1.s⟩:Str))))]
theorem d7l{G:AV×List AObj×List AObj->Prop}(n:Int)(s o:List UInt8)(h:(Go.Pl.preT (fun(x:Int×Unit)=>decide ((-9223372036854775808:Int)<=x.1)&&decide (x.1<=9223372036854775807)) [(.int .i64 n)])=true∧(∃ y0:Str,AV.pv (Zb (fun(x:Int×Unit)=>Zn x.1) [(.int .i64 n)])=AV.pv (enc y0)∧(if (!s==[])=true then if (n==1)=true then(Go.Pl.preT (fun(x:Str×Str×Unit)=>decide (List.length (Str.s x.1)<=1000000)) [(.str (Str.s y0)),(.str [(49:UInt8)])])=true∧(∃ y1:Str,AV.pv (Zb (fun(x:Str×Str×Unit)=>Str.mk (Lib.trimSuffix (Str.s x.1) (Str.s x.2.1))) [(.str (Str.s y0)),(.str [(49:UInt8)])])=AV.pv (enc y1)∧(if (decide (n ≥ 0))=true then if (!o==[])=true then(decide (List.length o+List.length [(43:UInt8)]<=1099511627776))=true∧((decide (List.length (Str.s y1)+List.length s<=1099511627776))=true∧((decide (List.length (o++[(43:UInt8)])+List.length (Str.s y1++s)<=1099511627776))=true∧(G (((.tup []),([(.box [(.pv (.str (o++[(43:UInt8)]++(Str.s y1++s))))])],[]))))))else((decide (List.length (Str.s y1)+List.length s<=1099511627776))=true∧((decide (List.length o+List.length (Str.s y1++s)<=1099511627776))=true∧(G (((.tup []),([(.box [(.pv (.str (o++(Str.s y1++s))))])],[]))))))else((decide (List.length (Str.s y1)+List.length s<=1099511627776))=true∧((decide (List.length o+List.length (Str.s y1++s)<=1099511627776))=true∧(G (((.tup []),([(.box [(.pv (.str (o++(Str.s y1++s))))])],[]))))))))else(if (n==(-1:Int))=true then(Go.Pl.preT (fun(x:Str×Str×Unit)=>decide (List.length (Str.s x.1)<=1000000)) [(.str (Str.s y0)),(.str [(49:UInt8)])])=true∧(∃ y2:Str,AV.pv (Zb (fun(x:Str×Str×Unit)=>Str.mk (Lib.trimSuffix (Str.s x.1) (Str.s x.2.1))) [(.str (Str.s y0)),(.str [(49:UInt8)])])=AV.pv (enc y2)∧(if (decide (n ≥ 0))=true then if (!o==[])=true then(decide (List.length o+List.length [(43:UInt8)]<=1099511627776))=true∧((decide (List.length (Str.s y2)+List.length s<=1099511627776))=true∧((decide (List.length (o++[(43:UInt8)])+List.length (Str.s y2++s)<=1099511627776))=true∧(G (((.tup []),([(.box [(.pv (.str (o++[(43:UInt8)]++(Str.s y2++s))))])],[]))))))else((decide (List.length (Str.s y2)+List.length s<=1099511627776))=true∧((decide (List.length o+List.length (Str.s y2++s)<=1099511627776))=true∧(G (((.tup []),([(.box [(.pv (.str (o++(Str.s y2++s))))])],[]))))))else((decide (List.length (Str.s y2)+List.length s<=1099511627776))=true∧((decide (List.length o+List.length (Str.s y2++s)<=1099511627776))=true∧(G (((.tup []),([(.box [(.pv (.str (o++(Str.s y2++s))))])],[]))))))))else(if (decide (n ≥ 0))=true then if (!o==[])=true then(decide (List.length o+List.length [(43:UInt8)]<=1099511627776))=true∧((decide (List.length (Str.s y0)+List.length s<=1099511627776))=true∧((decide (List.length (o++[(43:UInt8)])+List.length (Str.s y0++s)<=1099511627776))=true∧(G (((.tup []),([(.box [(.pv (.str (o++[(43:UInt8)]++(Str.s y0++s))))])],[]))))))else((decide (List.length (Str.s y0)+List.length s<=1099511627776))=true∧((decide (List.length o+List.length (Str.s y0++s)<=1099511627776))=true∧(G (((.tup []),([(.box [(.pv (.str (o++(Str.s y0++s))))])],[]))))))else((decide (List.length (Str.s y0)+List.length s<=1099511627776))=true∧((decide (List.length o+List.length (Str.s y0++s)<=1099511627776))=true∧(G (((.tup []),([(.box [(.pv (.str (o++(Str.s y0++s))))])],[]))))))))else(if (decide (n ≥ 0))=true then if (!o==[])=true then(decide (List.length o+List.length [(43:UInt8)]<=1099511627776))=true∧((decide (List.length (Str.s y0)+List.length s<=1099511627776))=true∧((decide (List.length (o++[(43:UInt8)])+List.length (Str.s y0++s)<=1099511627776))=true∧(G (((.tup []),([(.box [(.pv (.str (o++[(43:UInt8)]++(Str.s y0++s))))])],[]))))))else((decide (List.length (Str.s y0)+List.length s<=1099511627776))=true∧((decide (List.length o+List.length (Str.s y0++s)<=1099511627776))=true∧(G (((.tup []),([(.box [(.pv (.str (o++(Str.s y0++s))))])],[]))))))else((decide (List.length (Str.s y0)+List.length s<=1099511627776))=true∧((decide (List.length o+List.length (Str.s y0++s)<=1099511627776))=true∧(G (((.tup []),([(.box [(.pv (.str (o++(Str.s y0++s))))])],[])))))))))):Ze a3w 1 (Xt 1 MX G) Nt [] (Uz 33 [.pv (enc n),.pv (.str s),.ptr 0 0] [.box [.pv (.str o)]]):=Ze.to (.req (.abs (Str) (fun YY=>AV.pv (enc YY)) (.lit (.ask (Zl 3 (.ask (Zl 5 (.req (.abs (Str) (fun YY=>AV.pv (enc YY)) (.lit (.ask (Zl 3 (.ask (.req (.req (.req (.nil)))) (.req (.req (.nil))))) (Zl 3 (.req (.req (.nil))))))))) (Zl 5 (.ask (.req (.abs (Str) (fun YY=>AV.pv (enc YY)) (.lit (.ask (Zl 3 (.ask (.req (.req (.req (.nil)))) (.req (.req (.nil))))) (Zl 3 (.req (.req (.nil)))))))) (.lit (.ask (Zl 3 (.ask (.req (.req (.req (.nil)))) (.req (.req (.nil))))) (Zl 3 (.req (.req (.nil)))))))))) (Zl 6 (.ask (Zl 3 (.ask (.req (.req (.req (.nil)))) (.req (.req (.nil))))) (Zl 3 (.req (.req (.nil)))))))))) h (by kernel_rfl)
noncomputable def Ua:IC:=Xu Proofs.Tryz.f29
def Vu:List IRes:=[(.tmp 2)]
abbrev b0n:Nat:=37
def Uw:ZO:=YQ [(56,.pure (preT (fun x:Lin×Unit=>Ws x.1)) (Zb (fun x:Lin×Unit=>Zp x.1))),(57,.own Wz GX)]
theorem b7z{G:PV->Prop}(l:Lin)(h:(Go.Pl.preT (fun(x:Lin×Unit)=>Ws x.1) [(.agg [(.int .i64 l.k),(.sl 2 false (List.map enc l.t))])])=true∧(∃ y0:Bool,AV.pv (Zb (fun(x:Lin×Unit)=>Zp x.1) [(.agg [(.int .i64 l.k),(.sl 2 false (List.map enc l.t))])])=AV.pv (enc y0)∧(if (!y0)=true then G ((.str []))else(At Uw 0 (Za Vu G) Ua 0 37 [(1,(.ptr 0 0)),(3,(.ptr 1 0)),(4,(.fn 57 [] [(.ptr 1 0)])),(12,(.pv (.sl 2 false (List.map enc l.t)))),(13,(.pv (.int .i64 (↑(List.length (List.map enc l.t)):Int)))),(14,(.pv (.int .i64 0)))] [(.obj (.box [(.pv (.int .i64 l.k)),(.pv (.sl 2 false (List.map enc l.t)))])),(.obj (.box [(.pv (.str []))]))])))):Ze Uw 0 (Za Vu G) Ua [] (Z0 37 [enc l]):=Ze.tp (.req (.abs (Bool) (fun YY=>AV.pv (enc YY)) (.ask (.nil) (.nil)))) h (by kernel_rfl)
theorem Ps{G:PV->Prop}(l:Lin)(o:List UInt8)(i:Int)(h:if (decide (i<(↑(List.length l.t):Int)))=true then(decide (0<=i)&&decide (Int.toNat i<List.length (List.map enc l.t))&&Enc.sz Coef==2)=true∧(∃ y0:Coef,AV.pv (PV.rptr (PV.cells (List.getD (List.map enc l.t) (Int.toNat i) default)))=AV.pv (PV.rptr (PV.cells ((enc) y0)))∧((Wz [(.pv (.int .i64 (PV.asInt (List.getD (PV.cells (enc y0)) (0+1) default)))),(.pv (.str (PV.asStr (List.getD (PV.cells (enc y0)) 0 default)))),(.ptr 0 0)] [(.box [(.pv (.str o))])])=true∧(At Uw 0 (Za Vu G) Ua 0 37 [(1,(.ptr 0 0)),(3,(.ptr 1 0)),(4,(.fn 57 [] [(.ptr 1 0)])),(12,(.pv (.sl 2 false (List.map enc l.t)))),(13,(.pv (.int .i64 (↑(List.length l.t):Int)))),(14,(.pv (.int .i64 (IntKind.wrap IntKind.i64 (i+1)))))] [(.obj (.box [(.pv (.int .i64 l.k)),(.pv (.sl 2 false (List.map enc l.t)))])),(.obj (.box [(.pv (.str (XP o (PV.asInt (List.getD (PV.cells (enc y0)) (0+1) default)) (PV.asStr (List.getD (PV.cells (enc y0)) 0 default)))))]))])))else(if (l.k != 0)=true then(Wz [(.pv (.int .i64 l.k)),(.pv (.str [])),(.ptr 0 0)] [(.box [(.pv (.str o))])])=true∧(G ((.str (XP o l.k []))))else(if (o==[])=true then(Wz [(.pv (.int .i64 l.k)),(.pv (.str [])),(.ptr 0 0)] [(.box [(.pv (.str o))])])=true∧(G ((.str (XP o l.k []))))else(G ((.str o)))))):At Uw 0 (Za Vu G) Ua 0 37 [(1,.ptr 0 0),(3,.ptr 1 0),(4,.fn 57 [] [.ptr 1 0]),(12,.pv (enc l.t)),(13,.pv (.int .i64 l.t.length)),(14,.pv (.int .i64 i))] [.obj (.box [.pv (.int .i64 l.k),.pv (enc l.t)]),.obj (.box [.pv (.str o)])]:=At.tp (.lit (.ask (.req (.abs (Coef) (fun YY=>AV.pv (PV.rptr (PV.cells ((enc) YY)))) (.lit (.req (.keep (.lit (.nil))))))) (.lit (.ask (Zl 3 (.req (.keep (.nil)))) (Zl 3 (.ask (.req (.keep (.nil))) (.nil))))))) h (by kernel_rfl)
end Go.Pl
namespace Go.Pl
open Go.RowKit
open Enc (enc dec is)
open EncL (encL decL isL)
theorem Fj(s p:List UInt8):(Lib.trimSuffix s p).length<=s.length:=by
 unfold Lib.trimSuffix
 split
 ·rw[List.length_take];omega
 ·exact Nat.le_refl _
theorem b7g: ∀ args os,Wz args os=true->Ze a3w os.length (Xt os.length MX fun r=>r=GX args os) Nt [] (Uz c6v args os):=by
 intro args os h
 unfold Wz at h
 split at h
 ·rename_i n s o
  simp only[Bool.and_eq_true,decide_eq_true_eq]at h
  obtain⟨⟨⟨n1,n2⟩,hs⟩,ho⟩:=h
  have ev:GX [.pv (.int .i64 n),.pv (.str s),.ptr 0 0] [.box [.pv (.str o)]]=(.tup [],[.box [.pv (.str (XP o n s))]],[]):=rfl
  rw[ev]
  have hi:=Lib.itoa_length_le n n1 n2
  have hi:(Zn n).s.length<=21:=hi
  have ht:=Fj (Zn n).s [49]
  have fin : ∀ (b:Bool) (x:List UInt8),x.length<=21->(decide (s≠[])&&(decide (n=1)||decide (n = -1)))=b->x=(if b then Lib.trimSuffix (Zn n).s [49]else(Zn n).s) ->
    (if decide (n ≥ 0)=true then(if (!o==[])=true then(decide (o.length+List.length [(43:UInt8)]<=1099511627776)=true∧(decide (x.length+s.length<=1099511627776)=true∧(decide (List.length (o++[(43:UInt8)])+List.length (x++s)<=1099511627776)=true∧((AV.tup [],[AObj.box [.pv (.str (o++[(43:UInt8)]++(x++s)))]],([]:List AObj))=(.tup [],[.box [.pv (.str (XP o n s))]],[])))))
     else(decide (x.length+s.length<=1099511627776)=true∧(decide (o.length+List.length (x++s)<=1099511627776)=true∧((AV.tup [],[AObj.box [.pv (.str (o++(x++s)))]],([]:List AObj))=(.tup [],[.box [.pv (.str (XP o n s))]],[])))))
    else(decide (x.length+s.length<=1099511627776)=true∧(decide (o.length+List.length (x++s)<=1099511627776)=true∧((AV.tup [],[AObj.box [.pv (.str (o++(x++s)))]],([]:List AObj))=(.tup [],[.box [.pv (.str (XP o n s))]],[]))))):=by
   intro b x hx hb hxe
   have hp : ∀ o2:List UInt8,o2=(if decide (n ≥ 0)&&decide (o≠[])then o++[43]else o)->XP o n s=o2++(x++s):=by
    intro o2 h2
    unfold XP
    rw[hb,<- h2,<- hxe]
   refine Yg (fun h0=>Gd (fun h1=> ?_) fun h1=> ?_) fun h0=> ?_
   ·have h1:o≠[]:=by simpa using h1
    refine⟨by simp;omega,by simp;omega,by simp;omega,?_⟩
    rw[hp (o++[43]) (by simp[h0,h1])]
   ·have h1:o=[]:=by simpa using h1
    refine⟨by simp;omega,by simp;omega,?_⟩
    rw[hp o (by simp[h1])]
   ·refine⟨by simp;omega,by simp;omega,?_⟩
    rw[hp o (by simp[h0])]
  refine d7l n s o ⟨Zf (n,()) rfl (by show(decide (-9223372036854775808<=n)&&decide (n<=9223372036854775807))=true;rw[decide_eq_true n1,decide_eq_true n2];rfl),Zd (n,()) rfl (Gd (fun h1=> ?_) fun h1=> ?_)⟩
  ·have h1:s≠[]:=by simpa using h1
   have htr:decide ((Zn n).s.length<=1000000)=true:=decide_eq_true (by omega)
   refine ZL (fun h2=> ?_) fun h2=>ZL (fun h3=> ?_) fun h3=> ?_
   ·have h2:n=1:=h2
    exact⟨Zf (Zn n,(⟨[49]⟩:Str),()) rfl htr,Zd (Zn n,(⟨[49]⟩:Str),()) rfl (fin true _ (by show(Lib.trimSuffix (Zn n).s [49]).length<=21;omega) (by simp[h1,h2]) rfl)⟩
   ·have h3:n = -1:=h3
    exact⟨Zf (Zn n,(⟨[49]⟩:Str),()) rfl htr,Zd (Zn n,(⟨[49]⟩:Str),()) rfl (fin true _ (by show(Lib.trimSuffix (Zn n).s [49]).length<=21;omega) (by simp[h1,h3]) rfl)⟩
   ·have h2:n≠1:=h2
    have h3:n ≠ -1:=h3
    exact fin false _ hi (by simp[h2,h3]) rfl
  ·have h1:s=[]:=by simpa using h1
   exact fin false _ hi (by simp[h1]) rfl
 ·cases h
theorem b3x(o:List UInt8)(n:Int)(s:List UInt8)(n1 : -9223372036854775808<=n)(n2:n<=9223372036854775807):(XP o n s).length<=o.length+1+21+s.length:=by
 have hi:=Lib.itoa_length_le n n1 n2
 have hi:(Zn n).s.length<=21:=hi
 have ht:=Fj (Zn n).s [49]
 unfold XP
 split <;> split <;> simp <;> omega
theorem Ep(l:Lin)(hv:Zp l=true): ∀ (m i:Nat) (o:List UInt8),m+i=l.t.length->o.length<=100*i ->
  At Uw 0 (Za Vu (Zi (⟨if decide (l.k≠0)||decide ((l.t.drop i).foldl (fun o t=>XP o t.c t.v.s) o=[])then XP ((l.t.drop i).foldl (fun o t=>XP o t.c t.v.s) o) l.k []else(l.t.drop i).foldl (fun o t=>XP o t.c t.v.s) o⟩:Str))) Ua 0 37 [(1,.ptr 0 0),(3,.ptr 1 0),(4,.fn 57 [] [.ptr 1 0]),(12,.pv (enc l.t)),(13,.pv (.int .i64 l.t.length)),(14,.pv (.int .i64 i))] [.obj (.box [.pv (.int .i64 l.k),.pv (enc l.t)]),.obj (.box [.pv (.str o)])]:=by
 have hlen:=Jy hv
 have hk:=MJ hv
 intro m
 induction m with
 | zero=>
  intro i o hi ho
  have ed:l.t.drop i=[]:=List.drop_of_length_le (by omega)
  rw[ed,List.foldl_nil]
  have hp:Wz [.pv (.int .i64 l.k),.pv (.str []),.ptr 0 0] [.box [.pv (.str o)]]=true:=by
   simp only[Wz,Bool.and_eq_true,decide_eq_true_eq,List.length_nil]
   exact⟨⟨⟨by omega,by omega⟩,by omega⟩,by omega⟩
  refine Ps l o i (YA (YR (by omega)) (Gd (fun h1=>⟨hp,?_⟩) fun h1=>ZL (fun h2=>⟨hp,?_⟩) fun h2=> ?_))
  ·have h1:l.k≠0:=by simpa using h1
   rw[if_pos (by simp[h1])]
   exact⟨rfl,rfl⟩
  ·have h2:o=[]:=h2
   rw[if_pos (by simp[h2])]
   exact⟨rfl,rfl⟩
  ·have h1:l.k=0:=by simpa using h1
   have h2:o≠[]:=h2
   rw[if_neg (by simp[h1,h2])]
   exact⟨rfl,rfl⟩
 | succ m ih=>
  intro i o hi ho
  have hlt:i<l.t.length:=by omega
  have ed:l.t.drop i=l.t[i]::l.t.drop (i+1):=List.drop_eq_getElem_cons hlt
  rw[ed,List.foldl_cons]
  obtain⟨c0,c1,c2,c3⟩:=Ue hv (List.getElem_mem hlt)
  have hn:=Jo c0
  have hpl:=b3x o l.t[i].c l.t[i].v.s (by omega) (by omega)
  refine Ps l o i (Yv (YO hlt) ⟨ZT hlt rfl,Yk hlt ⟨?_,?_⟩⟩)
  ·have hp:Wz [.pv (.int .i64 l.t[i].c),.pv (.str l.t[i].v.s),.ptr 0 0] [.box [.pv (.str o)]]=true:=by
    simp only[Wz,Bool.and_eq_true,decide_eq_true_eq]
    exact⟨⟨⟨by omega,by omega⟩,by omega⟩,by omega⟩
   exact hp
  ·rw[next (by omega)]
   exact ih (i+1) (XP o l.t[i].c l.t[i].v.s) (by omega) (by omega)
theorem a0t: ∀ a:Lin×Unit,Ws a.1=true->Ze Uw 0 (Za Vu (Zi (⟨ZY a.1⟩:Str))) Ua [] (Z0 b0n (encL a)):=by
 rintro⟨l,⟨⟩⟩ h
 show Ze Uw 0 (Za Vu (Zi (⟨ZY l⟩:Str))) _ _ _
 refine b7z l ⟨Zf (l,()) rfl h,Zd (l,()) rfl (VY (fun hv=> ?_) fun hv=> ?_)⟩
 ·have hv:Zp l=false:=hv
  unfold ZY
  rw[hv]
  exact⟨rfl,rfl⟩
 ·have hv:Zp l=true:=hv
  unfold ZY
  rw[hv,if_pos rfl,List.length_map]
  exact Ep l hv l.t.length 0 [] (by omega) (by simp)
structure BoxT where
 v:List Str
 m:Int
 deriving DecidableEq
instance:Enc BoxT where
 sz:=2
 enc x:=.agg [enc x.v,enc x.m]
 dec | .agg [a,b]=>⟨dec a,dec b⟩|_=>⟨[],0⟩
 is | .agg [a,b]=>is (List Str) a&&is Int b|_=>false
 is_enc v:=by simp
 dec_enc v:=by simp
 sub p h:=by
  cases p with
  | agg xs=>
   match xs,h with
   | [a,b],h=>
    simp only[Bool.and_eq_true]at h
    exact .agg (.cons (Enc.sub a h.1).2 (.cons (Enc.sub b h.2).2 .nil))
  | _=>cases h
@[simp] theorem e1e (a b : PV) : is BoxT (.agg [a, b]) = (is (List Str) a && is Int b) := rfl
@[simp] theorem e0r (a b : PV) : (dec (.agg [a, b]) : BoxT) = ⟨dec a, dec b⟩ := rfl
structure Mono where
 c:Int
 v:List Str
 deriving DecidableEq
instance:Enc Mono where
 sz:=2
 enc x:=.agg [enc x.c,enc x.v]
 dec | .agg [a,b]=>⟨dec a,dec b⟩|_=>⟨0,[]⟩
 is | .agg [a,b]=>is Int a&&is (List Str) b|_=>false
 is_enc v:=by simp
 dec_enc v:=by simp
 sub p h:=by
  cases p with
  | agg xs=>
   match xs,h with
   | [a,b],h=>
    simp only[Bool.and_eq_true]at h
    exact .agg (.cons (Enc.sub a h.1).2 (.cons (Enc.sub b h.2).2 .nil))
  | _=>cases h
@[simp] theorem e1f (a b : PV) : is Mono (.agg [a, b]) = (is Int a && is (List Str) b) := rfl
@[simp] theorem e0v (a b : PV) : (dec (.agg [a, b]) : Mono) = ⟨dec a, dec b⟩ := rfl
structure NilS where
 deriving DecidableEq
instance:Enc NilS where
 sz:=1
 enc _:=.sl 0 true []
 dec _:=⟨⟩
 is | .sl 0 true []=>true|_=>false
 is_enc _:=rfl
 dec_enc _:=rfl
 sub p h:=by
  cases p with
  | sl s t xs=>
   cases xs with
   | nil=>cases s with
    | zero=>cases t with
     | true=>exact .refl _
     | false=>cases h
    | succ s=>cases h
   | cons x xs=>cases s <;> cases t <;> cases h
  | _=>cases h
end Go.Pl
namespace Go.Pl
open Go.RowKit
open Enc (enc dec is)
open EncL (encL decL isL)
set_option maxRecDepth 100000
-- IMPOSSIBLE
noncomputable def XC:IC:=XT
def XB:List IRes:=[(.tmp 2)]
abbrev b3d:Nat:=67
def Wj:ZO:=YQ [(114,.pure (preT (fun _:Str×Str×Unit=>true)) (Zb (fun x:Str×Str×Unit=>x.2.1.s.isPrefixOf x.1.s))),(115,.pure (preT (fun x:Str×Unit=>decide (x.1.s.length<=281474976710656))) (Zb (fun x:Str×Unit=>YL x.1))),(51,.pure (preT (fun x:Int×Unit=>decide (-9223372036854775808<=x.1)&&decide (x.1<=9223372036854775807))) (Zb (fun x:Int×Unit=>Zn x.1)))]
theorem c4u{G:PV->Prop}(s:List UInt8)(h : ∃ y0:Bool,AV.pv (Zb (fun(x:Str×Str×Unit)=>List.isPrefixOf (Str.s x.2.1) (Str.s x.1)) [(.str s),(.str [(95:UInt8)])])=AV.pv (enc y0)∧(if (y0)=true then(decide (0<=1)&&true&&decide (Int.toNat 1<=List.length s)&&decide (List.length s<=List.length s))=true∧((Go.Pl.preT (fun(x:Str×Unit)=>decide (List.length (Str.s x.1)<=281474976710656)) [(.str (List.drop (Int.toNat 1) (List.take (List.length s) s)))])=true∧(∃ y1:Int×Er,AV.pv (Zb (fun(x:Str×Unit)=>YL x.1) [(.str (List.drop (Int.toNat 1) (List.take (List.length s) s)))])=AV.pv (enc y1)∧((Sk (enc y1.2)&&Prod.fst (true,PV.bool (U3 (enc y1.2))))=true∧(if (U3 (enc y1.2))=true then if (decide (y1.1>0))=true then if (decide ((↑(List.length s):Int)<=10))=true then(Go.Pl.preT (fun(x:Int×Unit)=>decide ((-9223372036854775808:Int)<=x.1)&&decide (x.1<=9223372036854775807)) [(.int .i64 y1.1)])=true∧(∃ y2:Str,AV.pv (Zb (fun(x:Int×Unit)=>Zn x.1) [(.int .i64 y1.1)])=AV.pv (enc y2)∧((decide (0<=1)&&true&&decide (Int.toNat 1<=List.length s)&&decide (List.length s<=List.length s))=true∧(G ((.bool (Str.s y2==List.drop (Int.toNat 1) (List.take (List.length s) s)))))))else(G ((.bool false)))else(G ((.bool false)))else(G ((.bool false)))))))else(At Wj 0 (Za XB G) XC 0 67 [(0,(.pv (.str s))),(34,(.pv (.sl 1 false (Zh s)))),(35,(.pv (.int .i64 (↑(List.length (Zh s)):Int)))),(36,(.pv (.int .i64 0)))] []))):Ze Wj 0 (Za XB G) XC [] (Z0 67 [.str s]):=Ze.tp (.lit (.abs (Bool) (fun YY=>AV.pv (enc YY)) (.ask (.req (.req (.abs (Int×Er) (fun YY=>AV.pv (enc YY)) (.req (.ask (Zl 3 (.ask (Zl 4 (.ask (.lit (.req (.abs (Str) (fun YY=>AV.pv (enc YY)) (Zl 2 (.req (Zu 3)))))) (Zu 5))) (Zu 9))) (Zu 12)))))) (.nil)))) h (by kernel_rfl)
theorem Pp{G:PV->Prop}(s:List UInt8)(i:Int)(h:if (decide (i<(↑(List.length (Zh s)):Int)))=true then(decide (0<=i)&&decide (Int.toNat i<List.length (Zh s))&&1==1)=true∧((decide (0+List.length [Sh.int IntKind.u8]<=List.length (PV.cells (List.getD (Zh s) (Int.toNat i) default)))&&Yx (PV.cells (List.getD (Zh s) (Int.toNat i) default)) 0 [Sh.int IntKind.u8])=true∧(if (decide (PV.asInt (List.getD (PV.cells (List.getD (Zh s) (Int.toNat i) default)) 0 default)<97))=true then if (i==0)=true then G ((.bool false))else(if (decide (PV.asInt (List.getD (PV.cells (List.getD (Zh s) (Int.toNat i) default)) 0 default)<48))=true then G ((.bool false))else(if (decide (PV.asInt (List.getD (PV.cells (List.getD (Zh s) (Int.toNat i) default)) 0 default)>57))=true then G ((.bool false))else(At Wj 0 (Za XB G) XC 0 67 [(0,(.pv (.str s))),(34,(.pv (.sl 1 false (Zh s)))),(35,(.pv (.int .i64 (↑(List.length (Zh s)):Int)))),(36,(.pv (.int .i64 (IntKind.wrap IntKind.i64 (i+1)))))] [])))else(if (decide (PV.asInt (List.getD (PV.cells (List.getD (Zh s) (Int.toNat i) default)) 0 default)>122))=true then if (i==0)=true then G ((.bool false))else(if (decide (PV.asInt (List.getD (PV.cells (List.getD (Zh s) (Int.toNat i) default)) 0 default)<48))=true then G ((.bool false))else(if (decide (PV.asInt (List.getD (PV.cells (List.getD (Zh s) (Int.toNat i) default)) 0 default)>57))=true then G ((.bool false))else(At Wj 0 (Za XB G) XC 0 67 [(0,(.pv (.str s))),(34,(.pv (.sl 1 false (Zh s)))),(35,(.pv (.int .i64 (↑(List.length (Zh s)):Int)))),(36,(.pv (.int .i64 (IntKind.wrap IntKind.i64 (i+1)))))] [])))else(At Wj 0 (Za XB G) XC 0 67 [(0,(.pv (.str s))),(34,(.pv (.sl 1 false (Zh s)))),(35,(.pv (.int .i64 (↑(List.length (Zh s)):Int)))),(36,(.pv (.int .i64 (IntKind.wrap IntKind.i64 (i+1)))))] []))))else(if (!s==[])=true then G ((.bool (decide ((↑(List.length s):Int)<=30))))else(G ((.bool false))))):At Wj 0 (Za XB G) XC 0 67 [(0,.pv (.str s)),(34,.pv (.sl 1 false (Zh s))),(35,.pv (.int .i64 (Zh s).length)),(36,.pv (.int .i64 i))] []:=At.tp (.lit (.ask (.req (.keep (.req (.lit (.ask (Zl 6 (.ask (Zu 10) (Zl 5 (.ask (Zu 5) (Zl 5 (.ask (.nil) (.lit (.nil)))))))) (Zl 3 (.ask (Zl 3 (.ask (Zu 10) (Zl 5 (.ask (Zu 5) (Zl 5 (.ask (.nil) (.lit (.nil)))))))) (Zu 8)))))))) (.lit (.ask (Zu 4) (Zu 3))))) h (by kernel_rfl)
end Go.Pl
namespace Go.Pl
open Go.RowKit
open Enc (enc dec is)
open EncL (encL decL isL)
theorem Et(s:List UInt8)(hs:s.length<=281474976710656): ∀ (m i:Nat),m+i=s.length->At Wj 0 (Za XB (Zi (XV s i))) XC 0 67 [(0,.pv (.str s)),(34,.pv (.sl 1 false (Zh s))),(35,.pv (.int .i64 (Zh s).length)),(36,.pv (.int .i64 i))] []:=by
 intro m
 induction m with
 | zero=>
  intro i hi
  have e:XV s i=(!(s==[])&&decide (s.length<=30)):=by
   unfold XV
   cases i with
   | zero=>cases s with
    | nil=>rfl
    | cons c r=>simp at hi
   | succ i=>simp only;rw[List.drop_of_length_le (show s.length<=i+1 by omega)];simp
  rw[e]
  refine Pp s i (YA (YR (by rw[U1];omega)) (XR (fun h=>ZA ?_) fun h=>ZA ?_))
  ·rw[h,Bool.true_and];exact decide_eq_decide.2 (by omega)
  ·rw[h,Bool.false_and]
 | succ m ih=>
  intro i hi
  have hlt:i<s.length:=by omega
  have h:=ih (i+1) (by omega)
  refine Pp s i ?_
  rw[OQ hlt,next (by omega)]
  have stop:(lowB s[i]=false∧(i=0∨digB s[i]=false))->Zi (XV s i) (.bool false):=fun hb=>ZA (PW hlt hb).symm
  have go:(lowB s[i]=true∨(i≠0∧digB s[i]=true))->At Wj 0 (Za XB (Zi (XV s i))) XC 0 67 [(0,.pv (.str s)),(34,.pv (.sl 1 false (Zh s))),(35,.pv (.int .i64 (Zh s).length)),(36,.pv (.int .i64 ((i+1:Nat):Int)))] []:=fun hb=>by rw[PY hlt hb];exact h
  have rest:lowB s[i]=false->(if ((i:Int)==0)=true then Zi (XV s i) (.bool false)else if decide ((s[i].toNat:Int)<48)=true then Zi (XV s i) (.bool false)else if decide ((s[i].toNat:Int)>57)=true then Zi (XV s i) (.bool false)else At Wj 0 (Za XB (Zi (XV s i))) XC 0 67 [(0,.pv (.str s)),(34,.pv (.sl 1 false (Zh s))),(35,.pv (.int .i64 (Zh s).length)),(36,.pv (.int .i64 ((i+1:Nat):Int)))] []):=by
   intro hl
   refine ZL (fun h0=>stop ⟨hl,.inl (by omega)⟩) fun h0=>Yg (fun h1=>stop ⟨hl,.inr (Jz (by omega))⟩) fun h1=>Yg (fun h2=>stop ⟨hl,.inr (Jz (by omega))⟩) fun h2=>go (.inr ⟨by omega,WT.2 (by omega)⟩)
  refine Yv (YO (by rw[U1];exact hlt)) ⟨by rw[U1];simp[hlt],by rfl,?_⟩
  refine Yg (fun h1=>rest (JK ?_)) fun h1=>Yg (fun h2=>rest (JK ?_)) fun h2=>go (.inl (LA.2 ?_))
  ·have h1:(s[i].toNat:Int)<97:=h1
   omega
  ·have h2:(s[i].toNat:Int)>122:=h2
   omega
  ·have h1 : ¬ (s[i].toNat:Int)<97:=h1
   have h2 : ¬ (s[i].toNat:Int)>122:=h2
   omega
theorem a4h: ∀ a:Str×Unit,decide (a.1.s.length<=281474976710656)=true->Ze Wj 0 (Za XB (Zi (Yq a.1))) XC [] (Z0 b3d (encL a)):=by
 rintro⟨⟨s⟩,⟨⟩⟩ hl
 have hl:s.length<=281474976710656:=by simpa using hl
 refine c4u s (Zd (⟨s⟩,⟨[95]⟩,()) rfl (XR (fun h=> ?_) fun h=> ?_))
 ·have h:[95].isPrefixOf s=true:=h
  obtain⟨r,rfl⟩ : ∃ r,s=95::r:=by
   cases s with
   | nil=>simp at h
   | cons c r=>
    have:95=c:=by simpa using h
    exact⟨r,by rw[this]⟩
  have e1:List.drop (Int.toNat 1) (List.take (List.length (95::r)) (95::r))=r:=by rw[List.take_of_length_le (Nat.le_refl _)];rfl
  simp only[e1]
  refine⟨by simp,Zf (⟨r⟩,()) rfl (by simp at hl ⊢;omega),Zd (⟨r⟩,()) rfl ⟨by show(Sk (enc (YL ⟨r⟩).2)&&true)=true;rw[d2s];rfl,?_⟩⟩
  show if U3 (enc (YL ⟨r⟩).2)=true then(if decide ((YL ⟨r⟩).1>0)=true then(if _ then _ else Zi (Yq ⟨95::r⟩) _)else Zi (Yq ⟨95::r⟩) _)else Zi (Yq ⟨95::r⟩) _
  rw[OX]
  by_cases h9:r.length<=9
  ·rw[<- a5x r h9,decide_eq_true h9,Bool.and_true]
   refine XR (fun h1=>XR (fun h2=>Yv (by simp;omega) ⟨Zf ((YL ⟨r⟩).1,()) rfl (by have:=Ti ⟨r⟩;simp;omega),Zd ((YL ⟨r⟩).1,()) rfl ⟨by simp,ZA ?_⟩⟩) fun h2=>ZA ?_) fun h1=>ZA ?_
   ·rw[h1,h2];simp only[Bool.true_and,Bool.and_true];rfl
   ·rw[h2];simp
   ·rw[h1];simp
  ·rw[decide_eq_false h9,Bool.and_false]
   refine XR (fun h1=>XR (fun h2=>YA (by simp;omega) (ZA rfl)) fun h2=>ZA rfl) fun h1=>ZA rfl
 ·have h:[95].isPrefixOf s=false:=h
  show At Wj 0 (Za XB (Zi (Yq ⟨s⟩))) XC 0 67 _ _
  rw[Ng h]
  exact Et s hl s.length 0 (by omega)
end Go.Pl
namespace Go.Pl
theorem c5x{T:ZO}{k:Nat}{ic:IC}{K:List Fr}{st:St}{rs:List IRes}{p:PV}(h:Ze T k (Za rs fun r=>r=p) ic K st):Ze T k (fun st=>fin st rs=some p) ic K st:=by
 have e:Za rs (fun r=>r=p)=fun st=>fin st rs=some p:=by
  funext st
  apply propext
  constructor
  ·rintro⟨q,k,rfl⟩;exact k
  ·intro k;exact⟨p,k,rfl⟩
 rw[<- e];exact h
end Go.Pl
namespace Go.Pl
open Go.RowKit
open Enc (enc dec is)
open EncL (encL decL isL)
def Z6(n:Nd)(a b c d e:Bool):Bool:=
 (a||decide (n.name.s=[]))&&(b||decide (n.num=0))&&(c||(decide (n.elem.s=[])&&decide (n.dims.length+n.data.length=0)))&&(d||decide (n.sizes.length=0))&&(e||decide (n.ranks.length=0))
def e0u:List (List UInt8):=[[124,124],[38,38],[61,61],[33,61],[60],[60,61],[62],[62,61],[43],[45],[42],[47],[37],[33]]
def Hd(t:Tm):R3 Str Int Bool:=match Jh t.nd t.ks.length with
 | none=>⟨⟨[]⟩,0,false⟩
 | some r=>⟨⟨r.s⟩,r.l,r.u⟩
def VE(b:Bool)(t:Tm):Str:=⟨VZ b (ZX t)⟩
def K6(y:Tm)(b:Bool):List PV:=Wd y++[.bool b]
theorem b4f(t:Tm)(b:Bool):K6 t b=encL (t,b,()):=by unfold K6;rw[Yj];rfl
def WM(n:Nd)(ks:List Tm)(a b c d e:Bool):List PV:=V4 n ks++[.bool a,.bool b,.bool c,.bool d,.bool e]
theorem LV(n:Nd)(ks:List Tm)(a b c d e:Bool):WM n ks a b c d e=encL (Tm.mk n ks,a,b,c,d,e,()):=by unfold WM;rw[ZH];rfl
def Zz:List PV:=e0u.map .str
end Go.Pl
