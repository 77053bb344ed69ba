/-
  Texts of mine that belong together (packed by pack.py), for every input: QPr, QPa, GPz, GPt, QPt, QPz, GTd, GTv, QTg, VwU, QTv, QTd, GWy, QWy, GVa, QVa, QCo, GL7, QL7, GL9, QL9, GRa, QGc, TyZ0.
-/
import Derived.Test.YtkpppjbhmmabeaaGreatDoorChecked
import Derived.Test.YtkpppjbhmmabeaaGreatDoorProg
import Derived.Test.YtkpppjbhmmabeaaGreatDoorKM2
import Derived.Test.YtkpppjbhmmabeaaGreatDoorKM3
import Derived.KernelRfl
import Derived.Lib.ItoaLen
set_option linter.unusedVariables false
set_option linter.unusedSimpArgs false
namespace Go.Pl
open Go.RowKit
open Enc (enc dec is)
open EncL (encL decL isL)
theorem d8w: ∀ x:Str×Unit,decide (x.1.s.length<=1048576)=true->Zd c7j 0 (Za b6t (Zf (!(nameI x.1.s)))) b5k [] (Zx e2v (encL x)):=by
 rintro⟨⟨s⟩,⟨⟩⟩ h
 exact f7x s ⟨Zc ((⟨s⟩:Str),()) rfl h,Zb ((⟨s⟩:Str),()) rfl (Zl rfl)⟩
theorem c6n(l:List Str)(hs : ∀ s∈l,s.s.length<=1048576)(hl:l.length<=1048576): ∀ (m i:Nat),m+i=l.length->(∀ j (h:j<l.length),j<i->(!(nameI l[j].s))=false) ->
  At Fp 0 (Za BN (Zf (Yt (fun s:Str=> !(nameI s.s)) l))) Sk 0 19 [(0,.pv (enc l)),(1,.pv (.fn 29)),(7,.pv (.int .i64 l.length)),(8,.pv (.int .i64 i))] []:=by
 intro m
 induction m with
 | zero=>
  intro i hi b
  refine c6b l i (ZU (Yv (by omega)) (UR ?_))
  rw[Gv _ _ (fun j e=>b j e (by omega))]
 | succ m ih=>
  intro i hi b
  have a:i<l.length:=by omega
  refine c6b l i (ZT (Yq a) ⟨Zp a rfl,ZB a ⟨Zc (l[i],()) rfl (decide_eq_true (hs _ (List.getElem_mem a))),Zb (l[i],()) rfl (YV (fun hb=> ?_) fun hb=> ?_)⟩⟩)
  ·exact UR (GM (fun s:Str=> !(nameI s.s)) l i a b hb).symm
  ·rw[next (by omega)]
   refine ih (i+1) (by omega) fun j e hji=> ?_
   by_cases he:j=i
   ·subst he;exact hb
   ·exact b j e (by omega)
theorem Fj{l:List Str}(h:Xi l=true):l.length<=1048576∧ ∀ s∈l,s.s.length<=1048576:=by
 unfold Xi at h
 simp only[Bool.and_eq_true,decide_eq_true_eq,List.all_eq_true]at h
 exact h
theorem e8k: ∀ x:List Str×FnV 29×Unit,Xi x.1=true->Zd Fp 0 (Za BN (Zf (Yt (fun s:Str=> !(nameI s.s)) x.1))) Sk [] (Zx f9k (encL x)):=by
 rintro⟨l,g,⟨⟩⟩ h
 have h:=Fj h
 refine g4u l ?_
 rw[List.length_map]
 exact c6n l h.2 h.1 l.length 0 (by omega) fun j hj hji=>by omega
theorem e9h: ∀ x:List Str×FnV 29×Unit,Xi x.1=true->Zd f1p 0 (Za d5d (Zf (x.1.any fun s:Str=> !(nameI s.s)))) d8f [] (Zx f6i (encL x)):=by
 rintro⟨l,g,⟨⟩⟩ h
 exact g3k l ⟨Zc (l,{},()) rfl h,Zb (l,{},()) rfl (Zl (Ww _ _))⟩
theorem b0m: ∀ x:List Str×Unit,Xi x.1=true->Zd a3a 0 (Za Fh (Zf (x.1.all fun s:Str=>nameI s.s))) MK [] (Zx c3d (encL x)):=by
 rintro⟨l,⟨⟩⟩ h
 refine d1w l ⟨Zc (l,{},()) rfl h,Zb (l,{},()) rfl (Zl ?_)⟩
 exact Ch l
theorem a5g{t:Tm}(h:tW t=true):Xi (Uh t)=true:=by
 have h1:=Hg h
 have hm : ∀ s∈Uh t,s∈YX t:=fun s hs=>by
  have:=GG t fun x=>decide (x∈YX t)
  rw[show((YX t).all fun x=>decide (x∈YX t))=true by simp,List.all_eq_true]at this
  exact of_decide_eq_true (this s hs)
 have h2:(Uh t).length<=1048576:=by
  unfold Uh Vd
  rw[List.length_map,List.length_mergeSort,List.length_map]
  have a:=AA (YX t) []
  have h5:=Hz 1 t
  have h6:J8 t<=1048576:=of_decide_eq_true h
  have h7:(YX t).length=(((Yg 1 t).map (·.1)).flatMap UY).length:=rfl
  simp only[List.length_nil,Nat.zero_add]at a
  unfold DK
  omega
 unfold Xi
 rw[decide_eq_true h2,Bool.true_and,List.all_eq_true]
 exact fun s hs=>decide_eq_true (h1 s (hm s hs))
theorem b0w: ∀ x:Tm×Unit,tW x.1=true->Zd Pv 0 (Za Au (Zf (YK x.1))) Lj [] (Zx c2j (encL x)):=by
 rintro⟨⟨n,ks⟩,⟨⟩⟩ h
 rw[<- YQ]
 show Zd Pv 0 (Za Au (Zf (YK (.mk n ks)))) _ _ _
 refine c8v n ks ⟨Zc (.mk n ks,()) (YQ n ks) h,Zb (.mk n ks,()) (YQ n ks) (YV (fun h1=> ?_) fun h1=> ?_)⟩
 ·refine⟨Zc (.mk n ks,()) (YQ n ks) h,Zb (.mk n ks,()) (YQ n ks) ⟨Zc (Uh (.mk n ks),()) rfl (a5g h),Zb (Uh (.mk n ks),()) rfl (Zl ?_)⟩⟩
  have h1:Y6 (.mk n ks)=true:=h1
  unfold YK
  rw[h1,Bool.true_and]
 ·have h1:Y6 (.mk n ks)=false:=h1
  refine Zl ?_
  unfold YK
  rw[h1,Bool.false_and]
theorem c7q: ∀ x:Str×Unit,true=true->Zd c7t 0 (Za b4t (Zf (Qi x.1))) b4e [] (Zx f0q (encL x)):=by
 rintro⟨⟨s⟩,⟨⟩⟩ _
 refine g0h s (ZO (fun h=> ?_) fun h=> ?_)
 ·exact Zg (x:=((⟨[]⟩,3):Str×Int)) (by unfold Qi;rw[if_pos h])
 ·exact Zg (x:=((⟨s⟩,0):Str×Int)) (by unfold Qi;rw[if_neg h])
theorem c6t: ∀ ps:List PV,TS ps=true->Zd b2l 0 (Za FZ fun r=>r=TY ps) O6 [] (Zx e3g ps):=by
 intro ps h
 cases ps with
 | nil=>exact f5x rfl
 | cons a l=>cases h
def Kw(s:List UInt8)(l:List OpR):R3 Str Bool Bool:=match l.find? fun r=>r.n==s with
 | some r=>⟨⟨r.s⟩,r.u,true⟩
 | none=>⟨⟨[]⟩,false,false⟩
def Ko(s:List UInt8)(u:Bool)(l:List OpR):R3 Str Int Bool:=match l.find? fun r=>r.s==s&&r.u==u with
 | some r=>⟨⟨r.n⟩,r.l,true⟩
 | none=>⟨⟨[]⟩,0,false⟩
theorem Xo{s:List UInt8}{r:OpR}{l:List OpR}(a:r.n=s):Kw s (r::l)=⟨⟨r.s⟩,r.u,true⟩:=by unfold Kw;rw[List.find?_cons_of_pos (by rw[a];simp)]
theorem X7{s:List UInt8}{r:OpR}{l:List OpR}(a:r.n≠s):Kw s (r::l)=Kw s l:=by unfold Kw;rw[List.find?_cons_of_neg (by simpa using a)]
theorem Xq{s:List UInt8}{u:Bool}{r:OpR}{l:List OpR}(a:r.s=s)(b:r.u=u):Ko s u (r::l)=⟨⟨r.n⟩,r.l,true⟩:=by unfold Ko;rw[List.find?_cons_of_pos (by rw[a,b];simp)]
theorem Yn{s:List UInt8}{u:Bool}{r:OpR}{l:List OpR}(a : ¬ (r.s=s∧r.u=u)):Ko s u (r::l)=Ko s u l:=by unfold Ko;rw[List.find?_cons_of_neg (by simpa using a)]
theorem f8x(s:List UInt8){F:R3 Str Bool Bool}(e:Kw s (XM.drop 15)=F):At ZX 0 (Za ZH (Zf F)) ZJ 0 20 [(0,.pv (.str s)),(7,.pv ZZ),(8,.pv (.int .i64 15))] []:=d1q s (Zg (x:=(⟨⟨[]⟩,false,false⟩:R3 Str Bool Bool)) e)
theorem f4c(s:List UInt8){F:R3 Str Bool Bool}(e:Kw s (XM.drop 14)=F):At ZX 0 (Za ZH (Zf F)) ZJ 0 20 [(0,.pv (.str s)),(7,.pv ZZ),(8,.pv (.int .i64 14))] []:=c7o s (ZA (fun h=>Zg (β:=R3 Str Bool Bool) ((Xo h).symm.trans e)) fun h=>f8x s ((X7 h).symm.trans e))
theorem f3r(s:List UInt8){F:R3 Str Bool Bool}(e:Kw s (XM.drop 13)=F):At ZX 0 (Za ZH (Zf F)) ZJ 0 20 [(0,.pv (.str s)),(7,.pv ZZ),(8,.pv (.int .i64 13))] []:=e0n s (ZA (fun h=>Zg (β:=R3 Str Bool Bool) ((Xo h).symm.trans e)) fun h=>f4c s ((X7 h).symm.trans e))
theorem f7o(s:List UInt8){F:R3 Str Bool Bool}(e:Kw s (XM.drop 12)=F):At ZX 0 (Za ZH (Zf F)) ZJ 0 20 [(0,.pv (.str s)),(7,.pv ZZ),(8,.pv (.int .i64 12))] []:=d5y s (ZA (fun h=>Zg (β:=R3 Str Bool Bool) ((Xo h).symm.trans e)) fun h=>f3r s ((X7 h).symm.trans e))
theorem f4o(s:List UInt8){F:R3 Str Bool Bool}(e:Kw s (XM.drop 11)=F):At ZX 0 (Za ZH (Zf F)) ZJ 0 20 [(0,.pv (.str s)),(7,.pv ZZ),(8,.pv (.int .i64 11))] []:=d1h s (ZA (fun h=>Zg (β:=R3 Str Bool Bool) ((Xo h).symm.trans e)) fun h=>f7o s ((X7 h).symm.trans e))
theorem g0b(s:List UInt8){F:R3 Str Bool Bool}(e:Kw s (XM.drop 10)=F):At ZX 0 (Za ZH (Zf F)) ZJ 0 20 [(0,.pv (.str s)),(7,.pv ZZ),(8,.pv (.int .i64 10))] []:=d1o s (ZA (fun h=>Zg (β:=R3 Str Bool Bool) ((Xo h).symm.trans e)) fun h=>f4o s ((X7 h).symm.trans e))
theorem f6o(s:List UInt8){F:R3 Str Bool Bool}(e:Kw s (XM.drop 9)=F):At ZX 0 (Za ZH (Zf F)) ZJ 0 20 [(0,.pv (.str s)),(7,.pv ZZ),(8,.pv (.int .i64 9))] []:=d7t s (ZA (fun h=>Zg (β:=R3 Str Bool Bool) ((Xo h).symm.trans e)) fun h=>g0b s ((X7 h).symm.trans e))
theorem f5c(s:List UInt8){F:R3 Str Bool Bool}(e:Kw s (XM.drop 8)=F):At ZX 0 (Za ZH (Zf F)) ZJ 0 20 [(0,.pv (.str s)),(7,.pv ZZ),(8,.pv (.int .i64 8))] []:=e0u s (ZA (fun h=>Zg (β:=R3 Str Bool Bool) ((Xo h).symm.trans e)) fun h=>f6o s ((X7 h).symm.trans e))
theorem f7n(s:List UInt8){F:R3 Str Bool Bool}(e:Kw s (XM.drop 7)=F):At ZX 0 (Za ZH (Zf F)) ZJ 0 20 [(0,.pv (.str s)),(7,.pv ZZ),(8,.pv (.int .i64 7))] []:=d5c s (ZA (fun h=>Zg (β:=R3 Str Bool Bool) ((Xo h).symm.trans e)) fun h=>f5c s ((X7 h).symm.trans e))
theorem f5a(s:List UInt8){F:R3 Str Bool Bool}(e:Kw s (XM.drop 6)=F):At ZX 0 (Za ZH (Zf F)) ZJ 0 20 [(0,.pv (.str s)),(7,.pv ZZ),(8,.pv (.int .i64 6))] []:=e2e s (ZA (fun h=>Zg (β:=R3 Str Bool Bool) ((Xo h).symm.trans e)) fun h=>f7n s ((X7 h).symm.trans e))
theorem f3o(s:List UInt8){F:R3 Str Bool Bool}(e:Kw s (XM.drop 5)=F):At ZX 0 (Za ZH (Zf F)) ZJ 0 20 [(0,.pv (.str s)),(7,.pv ZZ),(8,.pv (.int .i64 5))] []:=d3c s (ZA (fun h=>Zg (β:=R3 Str Bool Bool) ((Xo h).symm.trans e)) fun h=>f5a s ((X7 h).symm.trans e))
theorem f5d(s:List UInt8){F:R3 Str Bool Bool}(e:Kw s (XM.drop 4)=F):At ZX 0 (Za ZH (Zf F)) ZJ 0 20 [(0,.pv (.str s)),(7,.pv ZZ),(8,.pv (.int .i64 4))] []:=c7c s (ZA (fun h=>Zg (β:=R3 Str Bool Bool) ((Xo h).symm.trans e)) fun h=>f3o s ((X7 h).symm.trans e))
theorem f4w(s:List UInt8){F:R3 Str Bool Bool}(e:Kw s (XM.drop 3)=F):At ZX 0 (Za ZH (Zf F)) ZJ 0 20 [(0,.pv (.str s)),(7,.pv ZZ),(8,.pv (.int .i64 3))] []:=e0r s (ZA (fun h=>Zg (β:=R3 Str Bool Bool) ((Xo h).symm.trans e)) fun h=>f5d s ((X7 h).symm.trans e))
theorem f9t(s:List UInt8){F:R3 Str Bool Bool}(e:Kw s (XM.drop 2)=F):At ZX 0 (Za ZH (Zf F)) ZJ 0 20 [(0,.pv (.str s)),(7,.pv ZZ),(8,.pv (.int .i64 2))] []:=d7g s (ZA (fun h=>Zg (β:=R3 Str Bool Bool) ((Xo h).symm.trans e)) fun h=>f4w s ((X7 h).symm.trans e))
theorem f4r(s:List UInt8){F:R3 Str Bool Bool}(e:Kw s (XM.drop 1)=F):At ZX 0 (Za ZH (Zf F)) ZJ 0 20 [(0,.pv (.str s)),(7,.pv ZZ),(8,.pv (.int .i64 1))] []:=d4l s (ZA (fun h=>Zg (β:=R3 Str Bool Bool) ((Xo h).symm.trans e)) fun h=>f9t s ((X7 h).symm.trans e))
theorem f5o(s:List UInt8){F:R3 Str Bool Bool}(e:Kw s (XM.drop 0)=F):At ZX 0 (Za ZH (Zf F)) ZJ 0 20 [(0,.pv (.str s)),(7,.pv ZZ),(8,.pv (.int .i64 0))] []:=d9d s (ZA (fun h=>Zg (β:=R3 Str Bool Bool) ((Xo h).symm.trans e)) fun h=>f4r s ((X7 h).symm.trans e))
theorem c9r(s:List UInt8)(u:Bool){F:R3 Str Int Bool}(e:Ko s u (XM.drop 15)=F):At ZW 0 (Za ZG (Zf F)) ZI 0 28 [(0,.pv (.str s)),(1,.pv (.bool u)),(9,.pv ZZ),(10,.pv (.int .i64 15))] []:=d4e s u (Zg (x:=(⟨⟨[]⟩,0,false⟩:R3 Str Int Bool)) e)
theorem e1p(s:List UInt8)(u:Bool){F:R3 Str Int Bool}(e:Ko s u (XM.drop 14)=F):At ZW 0 (Za ZG (Zf F)) ZI 0 28 [(0,.pv (.str s)),(1,.pv (.bool u)),(9,.pv ZZ),(10,.pv (.int .i64 14))] []:=d2s s u (ZA (fun h=>ZA (fun h2=>Zg (β:=R3 Str Int Bool) ((Xq h h2).symm.trans e)) fun h2=>c9r s u ((Yn fun x=>h2 x.2).symm.trans e)) fun h=>c9r s u ((Yn fun x=>h x.1).symm.trans e))
theorem c7w(s:List UInt8)(u:Bool){F:R3 Str Int Bool}(e:Ko s u (XM.drop 13)=F):At ZW 0 (Za ZG (Zf F)) ZI 0 28 [(0,.pv (.str s)),(1,.pv (.bool u)),(9,.pv ZZ),(10,.pv (.int .i64 13))] []:=e0b s u (ZA (fun h=>ZA (fun h2=>Zg (β:=R3 Str Int Bool) ((Xq h h2).symm.trans e)) fun h2=>e1p s u ((Yn fun x=>h2 x.2).symm.trans e)) fun h=>e1p s u ((Yn fun x=>h x.1).symm.trans e))
theorem c5z(s:List UInt8)(u:Bool){F:R3 Str Int Bool}(e:Ko s u (XM.drop 12)=F):At ZW 0 (Za ZG (Zf F)) ZI 0 28 [(0,.pv (.str s)),(1,.pv (.bool u)),(9,.pv ZZ),(10,.pv (.int .i64 12))] []:=d3x s u (ZA (fun h=>ZA (fun h2=>Zg (β:=R3 Str Int Bool) ((Xq h h2).symm.trans e)) fun h2=>c7w s u ((Yn fun x=>h2 x.2).symm.trans e)) fun h=>c7w s u ((Yn fun x=>h x.1).symm.trans e))
theorem d4t(s:List UInt8)(u:Bool){F:R3 Str Int Bool}(e:Ko s u (XM.drop 11)=F):At ZW 0 (Za ZG (Zf F)) ZI 0 28 [(0,.pv (.str s)),(1,.pv (.bool u)),(9,.pv ZZ),(10,.pv (.int .i64 11))] []:=d3e s u (ZA (fun h=>ZA (fun h2=>Zg (β:=R3 Str Int Bool) ((Xq h h2).symm.trans e)) fun h2=>c5z s u ((Yn fun x=>h2 x.2).symm.trans e)) fun h=>c5z s u ((Yn fun x=>h x.1).symm.trans e))
theorem d9k(s:List UInt8)(u:Bool){F:R3 Str Int Bool}(e:Ko s u (XM.drop 10)=F):At ZW 0 (Za ZG (Zf F)) ZI 0 28 [(0,.pv (.str s)),(1,.pv (.bool u)),(9,.pv ZZ),(10,.pv (.int .i64 10))] []:=c8l s u (ZA (fun h=>ZA (fun h2=>Zg (β:=R3 Str Int Bool) ((Xq h h2).symm.trans e)) fun h2=>d4t s u ((Yn fun x=>h2 x.2).symm.trans e)) fun h=>d4t s u ((Yn fun x=>h x.1).symm.trans e))
theorem d2m(s:List UInt8)(u:Bool){F:R3 Str Int Bool}(e:Ko s u (XM.drop 9)=F):At ZW 0 (Za ZG (Zf F)) ZI 0 28 [(0,.pv (.str s)),(1,.pv (.bool u)),(9,.pv ZZ),(10,.pv (.int .i64 9))] []:=d5a s u (ZA (fun h=>ZA (fun h2=>Zg (β:=R3 Str Int Bool) ((Xq h h2).symm.trans e)) fun h2=>d9k s u ((Yn fun x=>h2 x.2).symm.trans e)) fun h=>d9k s u ((Yn fun x=>h x.1).symm.trans e))
theorem e1z(s:List UInt8)(u:Bool){F:R3 Str Int Bool}(e:Ko s u (XM.drop 8)=F):At ZW 0 (Za ZG (Zf F)) ZI 0 28 [(0,.pv (.str s)),(1,.pv (.bool u)),(9,.pv ZZ),(10,.pv (.int .i64 8))] []:=d9x s u (ZA (fun h=>ZA (fun h2=>Zg (β:=R3 Str Int Bool) ((Xq h h2).symm.trans e)) fun h2=>d2m s u ((Yn fun x=>h2 x.2).symm.trans e)) fun h=>d2m s u ((Yn fun x=>h x.1).symm.trans e))
theorem d8u(s:List UInt8)(u:Bool){F:R3 Str Int Bool}(e:Ko s u (XM.drop 7)=F):At ZW 0 (Za ZG (Zf F)) ZI 0 28 [(0,.pv (.str s)),(1,.pv (.bool u)),(9,.pv ZZ),(10,.pv (.int .i64 7))] []:=c6v s u (ZA (fun h=>ZA (fun h2=>Zg (β:=R3 Str Int Bool) ((Xq h h2).symm.trans e)) fun h2=>e1z s u ((Yn fun x=>h2 x.2).symm.trans e)) fun h=>e1z s u ((Yn fun x=>h x.1).symm.trans e))
theorem d2y(s:List UInt8)(u:Bool){F:R3 Str Int Bool}(e:Ko s u (XM.drop 6)=F):At ZW 0 (Za ZG (Zf F)) ZI 0 28 [(0,.pv (.str s)),(1,.pv (.bool u)),(9,.pv ZZ),(10,.pv (.int .i64 6))] []:=e0m s u (ZA (fun h=>ZA (fun h2=>Zg (β:=R3 Str Int Bool) ((Xq h h2).symm.trans e)) fun h2=>d8u s u ((Yn fun x=>h2 x.2).symm.trans e)) fun h=>d8u s u ((Yn fun x=>h x.1).symm.trans e))
theorem d7k(s:List UInt8)(u:Bool){F:R3 Str Int Bool}(e:Ko s u (XM.drop 5)=F):At ZW 0 (Za ZG (Zf F)) ZI 0 28 [(0,.pv (.str s)),(1,.pv (.bool u)),(9,.pv ZZ),(10,.pv (.int .i64 5))] []:=d3h s u (ZA (fun h=>ZA (fun h2=>Zg (β:=R3 Str Int Bool) ((Xq h h2).symm.trans e)) fun h2=>d2y s u ((Yn fun x=>h2 x.2).symm.trans e)) fun h=>d2y s u ((Yn fun x=>h x.1).symm.trans e))
theorem d6n(s:List UInt8)(u:Bool){F:R3 Str Int Bool}(e:Ko s u (XM.drop 4)=F):At ZW 0 (Za ZG (Zf F)) ZI 0 28 [(0,.pv (.str s)),(1,.pv (.bool u)),(9,.pv ZZ),(10,.pv (.int .i64 4))] []:=d7n s u (ZA (fun h=>ZA (fun h2=>Zg (β:=R3 Str Int Bool) ((Xq h h2).symm.trans e)) fun h2=>d7k s u ((Yn fun x=>h2 x.2).symm.trans e)) fun h=>d7k s u ((Yn fun x=>h x.1).symm.trans e))
theorem d6w(s:List UInt8)(u:Bool){F:R3 Str Int Bool}(e:Ko s u (XM.drop 3)=F):At ZW 0 (Za ZG (Zf F)) ZI 0 28 [(0,.pv (.str s)),(1,.pv (.bool u)),(9,.pv ZZ),(10,.pv (.int .i64 3))] []:=e2k s u (ZA (fun h=>ZA (fun h2=>Zg (β:=R3 Str Int Bool) ((Xq h h2).symm.trans e)) fun h2=>d6n s u ((Yn fun x=>h2 x.2).symm.trans e)) fun h=>d6n s u ((Yn fun x=>h x.1).symm.trans e))
theorem d3s(s:List UInt8)(u:Bool){F:R3 Str Int Bool}(e:Ko s u (XM.drop 2)=F):At ZW 0 (Za ZG (Zf F)) ZI 0 28 [(0,.pv (.str s)),(1,.pv (.bool u)),(9,.pv ZZ),(10,.pv (.int .i64 2))] []:=e0w s u (ZA (fun h=>ZA (fun h2=>Zg (β:=R3 Str Int Bool) ((Xq h h2).symm.trans e)) fun h2=>d6w s u ((Yn fun x=>h2 x.2).symm.trans e)) fun h=>d6w s u ((Yn fun x=>h x.1).symm.trans e))
theorem c7e(s:List UInt8)(u:Bool){F:R3 Str Int Bool}(e:Ko s u (XM.drop 1)=F):At ZW 0 (Za ZG (Zf F)) ZI 0 28 [(0,.pv (.str s)),(1,.pv (.bool u)),(9,.pv ZZ),(10,.pv (.int .i64 1))] []:=d7x s u (ZA (fun h=>ZA (fun h2=>Zg (β:=R3 Str Int Bool) ((Xq h h2).symm.trans e)) fun h2=>d3s s u ((Yn fun x=>h2 x.2).symm.trans e)) fun h=>d3s s u ((Yn fun x=>h x.1).symm.trans e))
theorem g0l(s:List UInt8)(u:Bool){F:R3 Str Int Bool}(e:Ko s u (XM.drop 0)=F):At ZW 0 (Za ZG (Zf F)) ZI 0 28 [(0,.pv (.str s)),(1,.pv (.bool u)),(9,.pv ZZ),(10,.pv (.int .i64 0))] []:=d1k s u (ZA (fun h=>ZA (fun h2=>Zg (β:=R3 Str Int Bool) ((Xq h h2).symm.trans e)) fun h2=>c7e s u ((Yn fun x=>h2 x.2).symm.trans e)) fun h=>c7e s u ((Yn fun x=>h x.1).symm.trans e))
theorem c6f: ∀ x:Str×Unit,true=true->Zd ZX 0 (Za ZH (Zf (JU x.1))) ZJ [] (Zx e9e (encL x)):=by
 rintro⟨⟨s⟩,⟨⟩⟩ _
 exact f9d s (f5o s rfl)
theorem d0n: ∀ x:Str×Bool×Unit,true=true->Zd ZW 0 (Za ZG (Zf (Va x.1 x.2.1))) ZI [] (Zx e9d (encL x)):=by
 rintro⟨⟨s⟩,u,⟨⟩⟩ _
 exact g0g s u (g0l s u rfl)
theorem e9m: ∀ x:Tm×Unit,tW x.1=true->Zd d3f 0 (Za b0y (Zf (Jl x.1))) c8g [] (Zx g1c (encL x)):=by
 rintro⟨⟨n,ks⟩,⟨⟩⟩ h
 rw[<- YQ]
 show Zd d3f 0 (Za b0y (Zf (Jl (.mk n ks)))) _ _ _
 have b:Jl (.mk n ks)=((⟨[]⟩,0):Str×Int)->Zf (Jl (.mk n ks)) (.tup [.str [],.int .i64 0]):=fun e=>Zg (x:=((⟨[]⟩,0):Str×Int)) e.symm
 refine g4r n ks (Zb (n.name,()) rfl ?_)
 have hs:JU n.name=match CR n.name.s with|some r=>⟨⟨r.s⟩,r.u,true⟩|none=>⟨⟨[]⟩,false,false⟩:=rfl
 cases k:CR n.name.s with
 | none=>
  have e:Jl (.mk n ks)=((⟨[]⟩,0):Str×Int):=by rw[show Jl (.mk n ks)=Oo n ks.length from rfl];unfold Oo Hw;simp[k]
  rw[show JU n.name=⟨⟨[]⟩,false,false⟩from by rw[hs,k]]
  exact b e
 | some r=>
  rw[show JU n.name=⟨⟨r.s⟩,r.u,true⟩from by rw[hs,k]]
  have hn : ¬ (n.kind=6∧ks.length=(if r.u then 1 else 2)∧n.sizes=[]∧n.num=0∧n.ranks=[])->Jl (.mk n ks)=((⟨[]⟩,0):Str×Int):=fun h=>by
   rw[show Jl (.mk n ks)=Oo n ks.length from rfl]
   unfold Oo Hw
   simp only[k]
   rw[if_neg h]
  have m:(n.kind=6∧ks.length=(if r.u then 1 else 2)∧n.sizes=[]∧n.num=0∧n.ranks=[])->Jl (.mk n ks)=((⟨r.s⟩,if r.u then 1 else 2):Str×Int):=fun h=>by
   rw[show Jl (.mk n ks)=Oo n ks.length from rfl]
   unfold Oo Hw
   simp only[k]
   rw[if_pos h]
  have q : ∀ {α:Type} [Enc α] {l:List α},¬ ((List.length (List.map (enc:α->PV) l):Nat):Int)>0->l=[]:=fun {α} _ {l} h=>by
   cases l with
   | nil=>rfl
   | cons a l=>exact absurd (by simp) h
  have g : ∀ {α:Type} [Enc α] {l:List α},((List.length (List.map (enc:α->PV) l):Nat):Int)>0->l≠[]:=fun {α} _ {l} h e=>by
   subst e;simp at h
  have hb : ∀ {x y:Int} {P Q:Prop},(x≠y->P)->(x=y->Q)->if (x != y)=true then P else Q:=fun {x y P Q} h1 h2=>by
   by_cases hxy:x=y
   ·rw[if_neg (by simpa using hxy)];exact h2 hxy
   ·rw[if_pos (by simpa using hxy)];exact h1 hxy
  cases hu:r.u with
  | true=>
   rw[hu]at hn m
   refine ZT rfl (ZU (by simp) (hb (fun h1=>b (hn fun x=>h1 x.1)) fun h1=>hb (fun h2=>b (hn fun x=>h2 ?_)) fun h2=>ZO (fun h3=>b (hn fun x=>g h3 x.2.2.1)) fun h3=>hb (fun i=>b (hn fun x=>i x.2.2.2.1)) fun i=>ZO (fun j=>b (hn fun x=>g j x.2.2.2.2)) fun j=> ?_))
   ·rw[List.length_map,x.2.1];rfl
   ·exact Zg (x:=((⟨r.s⟩,1):Str×Int)) (m ⟨h1,by rw[List.length_map]at h2;show _=1;omega,q h3,i,q j⟩).symm
  | false=>
   rw[hu]at hn m
   refine ZU (by simp) (ZU (by simp) (hb (fun h1=>b (hn fun x=>h1 x.1)) fun h1=>hb (fun h2=>b (hn fun x=>h2 ?_)) fun h2=>ZO (fun h3=>b (hn fun x=>g h3 x.2.2.1)) fun h3=>hb (fun i=>b (hn fun x=>i x.2.2.2.1)) fun i=>ZO (fun j=>b (hn fun x=>g j x.2.2.2.2)) fun j=> ?_))
   ·rw[List.length_map,x.2.1];rfl
   ·exact Zg (x:=((⟨r.s⟩,2):Str×Int)) (m ⟨h1,by rw[List.length_map]at h2;show _=2;omega,q h3,i,q j⟩).symm
theorem f6j: ∀ r∈XM,(Va ⟨r.s⟩ r.u).b=r.l:=by decide
theorem ES{n:Nd}{k:Nat}{r:OpR}(h:Hw n k=some r):r∈XM∧k=(if r.u then 1 else 2):=by
 unfold Hw at h
 cases a:CR n.name.s with
 | none=>simp[a]at h
 | some q=>
  simp[a]at h
  rw[<- h.2]
  exact⟨List.mem_of_find?_eq_some a,h.1.2.1⟩
theorem d0d: ∀ x:Tm×Unit,tW x.1=true->Zd a7u 0 (Za OA (Zf (X8 x.1))) b6s [] (Zx e8z (encL x)):=by
 rintro⟨⟨n,ks⟩,⟨⟩⟩ h
 rw[<- YQ]
 show Zd a7u 0 (Za OA (Zf (TC n ks.length))) _ _ _
 refine f6k n ks ⟨Zc (.mk n ks,()) (YQ n ks) h,Zb (.mk n ks,()) (YQ n ks) (ZA (fun h1=>UR ?_) fun h1=> ?_)⟩
 ·unfold TC;rw[if_pos h1]
 ·have eo:Jl (.mk n ks)=Oo n ks.length:=rfl
  rw[show Jl ((.mk n ks:Tm),()).1=Oo n ks.length from rfl]
  unfold TC
  rw[if_neg h1]
  cases ho:Hw n ks.length with
  | some r=>
   have e:Oo n ks.length=((⟨r.s⟩,if r.u then 1 else 2):Str×Int):=by unfold Oo;rw[ho]
   rw[e]
   have hb:((if r.u then 1 else 2:Int)==1)=r.u:=by cases r.u <;> rfl
   refine ZO (fun _=>Zb ((⟨r.s⟩:Str),((if r.u then 1 else 2:Int)==1),()) rfl (UR ?_)) fun hn=>absurd (show(if r.u then 1 else 2:Int)>0 by split <;> omega) hn
   show(Va ⟨r.s⟩ ((if r.u then 1 else 2:Int)==1)).b=r.l
   rw[hb]
   exact f6j r (ES ho).1
  | none=>
   have e:Oo n ks.length=((⟨[]⟩,0):Str×Int):=by unfold Oo;rw[ho]
   rw[e]
   refine ZO (fun hn=>absurd hn (by show ¬ (0:Int)>0;omega)) fun _=>ZA (fun h2=>ZA (fun h3=>ZO (fun a=>UR ?_) fun a=>UR ?_) fun h3=>UR ?_) fun h2=>UR ?_
   ·have h3:n.name.s=Xa:=h3
    rw[if_pos ⟨h2,h3,a⟩]
   ·rw[if_neg fun x=>a x.2.2]
   ·have h3 : ¬ n.name.s=Xa:=h3
    rw[if_neg fun x=>h3 x.2.1]
   ·rw[if_neg fun x=>h2 x.1]
theorem c0i: ∀ x:List Str×Unit,YP x.1=true->Zd b6x 0 (Za a2y (Zf (Yi x.1))) a1j [] (Zx c7d (encL x)):=by
 rintro⟨l,⟨⟩⟩ h
 exact e6q l ⟨Zc (l,(⟨[44,32]⟩:Str),()) rfl (by show(YP l&&decide _)=true;rw[h,decide_eq_true rfl];rfl),Zb (l,(⟨[44,32]⟩:Str),()) rfl (Zg rfl)⟩
def Dq(m:List Str)(i:Nat):List Str:=m.take i++List.replicate (m.length - i) ⟨[]⟩
theorem TK(m:List Str)(i:Nat)(h:i<=m.length):(Dq m i).length=m.length:=by unfold Dq;rw[List.length_append,List.length_take,List.length_replicate];omega
theorem CP(m:List Str):Dq m 0=List.replicate m.length ⟨[]⟩:=rfl
theorem T9(m:List Str):Dq m m.length=m:=by unfold Dq;rw[List.take_length,Nat.sub_self];simp
theorem TQ{m:List Str}{i:Nat}(h:i<m.length):(Dq m i).set i m[i]=Dq m (i+1):=by
 unfold Dq
 rw[List.set_append,if_neg (by rw[List.length_take];omega),show m.length - i=(m.length - (i+1))+1 by omega,List.replicate_succ,show i - (m.take i).length=0 by rw[List.length_take];omega,List.set_cons_zero,show m.take (i+1)=m.take i++[m[i]] by rw[List.take_add_one];simp[h],List.append_assoc]
 rfl
theorem OL{o:List Str}{i:Nat}(h:i<o.length)(y:Str):List.set (List.map (enc:Str->PV) o) (0+Int.toNat (i:Int)) (PV.withCells (List.getD (List.map (enc:Str->PV) o) (0+Int.toNat (i:Int)) default) (splice (PV.cells (List.getD (List.map (enc:Str->PV) o) (0+Int.toNat (i:Int)) default)) 0 (PV.cells (enc y))))=(o.set i y).map enc:=by
 have e:List.getD (List.map (enc:Str->PV) o) i default=enc o[i]:=by simp[List.getD,h]
 rw[Nat.zero_add,Int.toNat_natCast,e,List.map_set]
 rfl
theorem Ox{n i:Nat}{o:List Str}(h:i<n)(ho:o.length=n):(decide (0<=(i:Int))&&decide (0+Int.toNat (i:Int)<n)&&List.length (List.map (enc:Str->PV) o)==n)=true:=by simp[ho];omega
theorem EL{n i:Nat}{o:List Str}{y:Str}(h:i<n)(ho:o.length=n):(List.length (List.map (enc:Str->PV) o)==n&&decide (0+Int.toNat (i:Int)<List.length (List.map (enc:Str->PV) o))&&List.length (PV.cells (enc y))==1&&decide (0+1<=List.length (PV.cells (List.getD (List.map (enc:Str->PV) o) (0+Int.toNat (i:Int)) default)))&&PV.cellsOk (enc y))=true:=by
 have e:List.getD (List.map (enc:Str->PV) o) i default=enc o[i]:=by simp[List.getD,ho,h]
 subst ho
 rw[Nat.zero_add,Int.toNat_natCast,e,List.length_map,beq_self_eq_true,decide_eq_true h]
 rfl
theorem Ap{m:List Str}:List.drop 0 (List.take m.length (List.map (enc:Str->PV) m))=m.map enc:=by rw[List.drop_zero,List.take_of_length_le (by simp)]
theorem b3u(n:Nat)(h:n<=1048576):(decide (0<=(n:Int))&&(n:Int)==(n:Int)&&decide ((n:Int)*((16:Nat):Int)<=1099511627776)&&decide ((n:Int)<=1099511627776))=true:=by simp;omega
theorem MX{l:List (List UInt8)}{c:Nat}(hc:c<=1048574)(a:l.length<=1048576)(h : ∀ s∈l,s.length<=c):(Zu l).length<=1099511627776:=by
 have h1:=YU l
 have h2:=QW (f:=fun s:List UInt8=>s.length+2) (c:=1048576) (l:=l) fun s hs=>by have:=h s hs;show s.length+2<=_;omega
 have h3:1048576*l.length<=1048576*1048576:=Nat.mul_le_mul_left _ a
 omega
theorem Uu{l:Lin}(h:Zh l=true):Wn l=true:=by
 have h1:=Uj h
 unfold Wn XK
 rw[decide_eq_true (by omega),Bool.true_and,List.all_eq_true]
 exact fun c hc=>decide_eq_true (by
  have:=Vg (WK h hc).1
  omega)
theorem c3o(l:List Lin)(hl:l.length<=1048576)(k : ∀ x∈l,Zh x=true)(j:YP (l.map Yu)=true): ∀ (d i:Nat),d+i=l.length ->
  At A7 0 (Za Gd (Zf (Yi (l.map Yu)))) Gw 0 27 [(1,.pv (.fn 58)),(5,.row 0 l.length 0 l.length),(11,.pv (enc l)),(12,.pv (.int .i64 l.length)),(13,.pv (.int .i64 i))] [.obj (.row false 9 1 ((Dq (l.map Yu) i).map enc))]:=by
 intro d
 induction d with
 | zero=>
  intro i hi
  have g:i=l.length:=by omega
  subst g
  have e:Dq (l.map Yu) l.length=l.map Yu:=by have:=T9 (l.map Yu);rw[List.length_map]at this;exact this
  rw[e]
  have b:=Ap (m:=l.map Yu)
  rw[List.length_map]at b
  refine b7g l _ _ (ZU (Yv (by omega)) ⟨by simp,?_⟩)
  rw[b]
  exact⟨Zc (l.map Yu,()) rfl j,Zb (l.map Yu,()) rfl (Zg rfl)⟩
 | succ d ih=>
  intro i hi
  have a:i<l.length:=by omega
  have ho:(Dq (l.map Yu) i).length=l.length:=by rw[TK _ _ (by rw[List.length_map];omega),List.length_map]
  refine b7g l _ _ (ZT (Yq a) ⟨Zp a rfl,ZB a ⟨Zc (l[i],()) rfl (Uu (k _ (List.getElem_mem a))),Zb (l[i],()) rfl ⟨Ox a ho,EL a ho,?_⟩⟩⟩)
  have e:(Dq (l.map Yu) i).set i (Yu l[i])=Dq (l.map Yu) (i+1):=by
   have:=TQ (m:=l.map Yu) (i:=i) (by rw[List.length_map];exact a)
   rw[List.getElem_map]at this
   exact this
  have b:=OL (o:=Dq (l.map Yu) i) (i:=i) (by omega) (Yu l[i])
  rw[e]at b
  rw[next (by omega)]
  have h:=ih (i+1) (by omega)
  rw[<- b]at h
  exact h
theorem c8a: ∀ x:List Lin×FnV 58×Unit,(decide (x.1.length<=1048576)&&x.1.all Zh)=true->Zd A7 0 (Za Gd (Zf (Yi (x.1.map Yu)))) Gw [] (Zx e5v (encL x)):=by
 rintro⟨l,g,⟨⟩⟩ h
 simp only[Bool.and_eq_true,decide_eq_true_eq,List.all_eq_true]at h
 have a:YP (l.map Yu)=true:=by
  unfold YP
  rw[decide_eq_true (by rw[List.length_map];exact h.1),Bool.true_and]
  refine decide_eq_true (MX (c:=1000) (by omega) (by simp;exact h.1) fun s hs=> ?_)
  simp only[List.mem_map]at hs
  obtain⟨x,⟨y,_,rfl⟩,rfl⟩:=hs
  exact Wt y
 refine f6l l ⟨by rw[List.length_map];exact b3u _ h.1,?_⟩
 have:=c3o l h.1 h.2 a l.length 0 (by omega)
 rw[CP,List.map_replicate,List.length_map]at this
 rw[List.length_map,Int.toNat_natCast]
 exact this
theorem c2e(l:List Int)(hl:l.length<=1048576)(k : ∀ x∈l,0<=x∧x<=6)(j:YP (l.map Zq)=true): ∀ (d i:Nat),d+i=l.length ->
  At Ah 0 (Za Gi (Zf (Yi (l.map Zq)))) Gx 0 27 [(1,.pv (.fn 87)),(5,.row 0 l.length 0 l.length),(11,.pv (enc l)),(12,.pv (.int .i64 l.length)),(13,.pv (.int .i64 i))] [.obj (.row false 9 1 ((Dq (l.map Zq) i).map enc))]:=by
 intro d
 induction d with
 | zero=>
  intro i hi
  have g:i=l.length:=by omega
  subst g
  have e:Dq (l.map Zq) l.length=l.map Zq:=by have:=T9 (l.map Zq);rw[List.length_map]at this;exact this
  rw[e]
  have b:=Ap (m:=l.map Zq)
  rw[List.length_map]at b
  refine b9e l _ _ (ZU (Yv (by omega)) ⟨by simp,?_⟩)
  rw[b]
  exact⟨Zc (l.map Zq,()) rfl j,Zb (l.map Zq,()) rfl (Zg rfl)⟩
 | succ d ih=>
  intro i hi
  have a:i<l.length:=by omega
  have ho:(Dq (l.map Zq) i).length=l.length:=by rw[TK _ _ (by rw[List.length_map];omega),List.length_map]
  refine b9e l _ _ (ZT (Yq a) ⟨Zp a rfl,ZB a ⟨Zc (l[i],()) rfl (by have:=k _ (List.getElem_mem a);show(decide _&&decide _)=true;rw[decide_eq_true (by omega),decide_eq_true (by omega)];rfl),Zb (l[i],()) rfl ⟨Ox a ho,EL a ho,?_⟩⟩⟩)
  have e:(Dq (l.map Zq) i).set i (Zq l[i])=Dq (l.map Zq) (i+1):=by
   have:=TQ (m:=l.map Zq) (i:=i) (by rw[List.length_map];exact a)
   rw[List.getElem_map]at this
   exact this
  have b:=OL (o:=Dq (l.map Zq) i) (i:=i) (by omega) (Zq l[i])
  rw[e]at b
  rw[next (by omega)]
  have h:=ih (i+1) (by omega)
  rw[<- b]at h
  exact h
theorem c7h: ∀ x:List Int×FnV 87×Unit,(decide (x.1.length<=1048576)&&Wd x.1)=true->Zd Ah 0 (Za Gi (Zf (Yi (x.1.map Zq)))) Gx [] (Zx f0o (encL x)):=by
 rintro⟨l,g,⟨⟩⟩ h
 unfold Wd at h
 simp only[Bool.and_eq_true,decide_eq_true_eq,List.all_eq_true]at h
 have a:YP (l.map Zq)=true:=by
  unfold YP
  rw[decide_eq_true (by rw[List.length_map];exact h.1),Bool.true_and]
  refine decide_eq_true (MX (c:=1000) (by omega) (by simp;exact h.1) fun s hs=> ?_)
  simp only[List.mem_map]at hs
  obtain⟨x,⟨y,b,rfl⟩,rfl⟩:=hs
  have:=QP (n:=y) (by have:=h.2 y b;omega)
  unfold Kl at this
  omega
 refine g0d l ⟨by rw[List.length_map];exact b3u _ h.1,?_⟩
 have:=c2e l h.1 h.2 a l.length 0 (by omega)
 rw[CP,List.map_replicate,List.length_map]at this
 rw[List.length_map,Int.toNat_natCast]
 exact this
theorem d8v: ∀ x:Tm×Unit,UK x.1.nd=true->Zd b2x 0 (Za EE (Zf (a3j x.1.nd))) b7x [] (Zx e7e (encL x)):=by
 rintro⟨⟨n,ks⟩,⟨⟩⟩ h
 rw[<- YQ]
 show Zd b2x 0 (Za EE (Zf (a3j n))) _ _ _
 have h:UK n=true:=h
 refine f6g n ks (ZA (fun h1=>⟨Zc (n.num,()) rfl ?_,Zb (n.num,()) rfl (Zg ?_)⟩) fun h1=>Zb ((n.num==1),()) rfl (Zg ?_))
 ·have h1:n.name.s=Xa:=h1
  unfold UK at h
  rw[if_neg (by rw[h1];decide)]at h
  simp only[Bool.and_eq_true,decide_eq_true_eq]at h
  show(decide _&&decide _)=true
  rw[decide_eq_true (by omega),decide_eq_true (by omega)];rfl
 ·have h1:n.name.s=Xa:=h1
  unfold a3j BO
  rw[if_pos h1];rfl
 ·have h1 : ¬ n.name.s=Xa:=h1
  unfold a3j BO e7m
  rw[if_neg h1]
  by_cases h2:n.num=1
  ·rw[h2];rfl
  ·rw[if_neg h2,show(n.num==1)=false by simpa using h2];rfl
theorem c3w: ∀ x:Tm×Unit,tW x.1=true->Zd El 0 (Za Pn (Zf (K7 x.1))) a2x [] (Zx d0e (encL x)):=by
 rintro⟨⟨n,ks⟩,⟨⟩⟩ h
 rw[<- YQ]
 show Zd El 0 (Za Pn (Zf (K7 (.mk n ks)))) _ _ _
 refine e8t n ks ⟨Zc (.mk n ks,()) (YQ n ks) h,Zb (.mk n ks,()) (YQ n ks) (YY (fun h1=> ?_) fun h1=> ?_)⟩
 ·have h1:YK (.mk n ks)=false:=h1
  exact Zg (x:=((⟨[]⟩,1):Str×Int)) (by unfold K7;rw[h1];rfl)
 ·have h1:YK (.mk n ks)=true:=h1
  have a:Ya (.mk n ks)=true:=JP (by unfold YK at h1;rw[Bool.and_eq_true]at h1;exact h1.1)
  have h:tW (.mk n ks)=true:=h
  refine⟨Zc (.mk n ks,()) (YQ n ks) (by show(tW (.mk n ks)&&Ya (.mk n ks))=true;rw[h,a];rfl),Zb (.mk n ks,()) (YQ n ks) (Zb (Zt (.mk n ks),()) rfl (Zg (x:=Qi (Zt (.mk n ks))) ?_))⟩
  unfold K7;rw[h1];rfl
theorem Vx(a b:List UInt8):Zk (a++b)=Zk a++Zk b:=by unfold Zk;rw[List.map_append]
theorem g3b{t n:Nat}{xs:List PV}(pre ds:List UInt8):((AV.row 0 (n+(Zk pre).length+ds.length) 0 (n+(Zk pre).length+ds.length),[AObj.row false t 1 (xs++Zk pre++Zk ds)],[]):AV×List AObj×List AObj)=(a2t n (pre++ds),[.row false t 1 (xs++Zk (pre++ds))],[]):=by
 unfold a2t
 rw[Vx,U4,List.length_append,List.append_assoc,Nat.add_assoc]
theorem F3{n m:Nat}{xs:List PV}(h:xs.length=n)(hn:n+m<=1099511627776):(List.length xs==n&&n==n&&decide ((n+m)*1<=1099511627776)&&decide (n+m<=1099511627776))=true:=by
 rw[h,Nat.mul_one,decide_eq_true hn];simp
theorem MF{n:Nat}{u:Int}{xs:List PV}(h:xs.length=n)(a:0<=u)(h1:u<18446744073709551616)(hn:n<=1099511620000):DV 5 [.row 0 n 0 n,.pv (.int .u64 u),.pv (.int .i64 10)] [.row false 5 1 xs]=true:=by
 show(5==5&&n==n&&xs.length==n&&decide (0<=u)&&decide (u<18446744073709551616)&&(10:Int)==10&&decide (n<=1099511620000))=true
 rw[h,decide_eq_true a,decide_eq_true h1,decide_eq_true hn];simp
theorem M9{n:Nat}{i:Int}{xs:List PV}(h:xs.length=n)(a : -9223372036854775808<=i)(h1:i<=9223372036854775807)(hn:n<=1099511610000):U2 5 [.row 0 n 0 n,.pv (.int .i64 i),.pv (.int .i64 10)] [.row false 5 1 xs]=true:=by
 show(5==5&&n==n&&xs.length==n&&decide (-9223372036854775808<=i)&&decide (i<=9223372036854775807)&&(10:Int)==10&&decide (n<=1099511610000))=true
 rw[h,decide_eq_true a,decide_eq_true h1,decide_eq_true hn];simp
theorem e8g{i:Int}(h:i<0)(h0 : -9223372036854775808<=i):IntKind.wrap .u64 (-IntKind.wrap .u64 i)=(i.natAbs:Int):=by
 simp[IntKind.wrap,IntKind.bits,IntKind.signed]
 omega
theorem e4w{i:Int}(h : ¬ i<0)(h0:i<=9223372036854775807):IntKind.wrap .u64 i=(i.natAbs:Int):=by
 simp[IntKind.wrap,IntKind.bits,IntKind.signed]
 omega
theorem e9x: ∀ args os,U2 5 args os=true->Zd d4a os.length (Xw os.length b2z fun r=>r=Ad args os) a7j [] (U3 f7s args os):=by
 intro args os h
 unfold U2 at h
 split at h
 ·rename_i n a i b ty xs
  simp only[Bool.and_eq_true,beq_iff_eq,decide_eq_true_eq]at h
  obtain⟨⟨⟨⟨⟨⟨rfl,rfl⟩,hxl⟩,h0⟩,h1⟩,rfl⟩,hn⟩:=h
  refine g5f a i xs (ZO (fun hi=> ?_) fun hi=> ?_)
  ·have e:Lib.itoa i=[45]++Lib.decDigits i.natAbs:=Vi hi
   rw[e8g hi h0,Int.toNat_natCast]
   refine⟨F3 hxl (by show a+1<=_;omega),MF (by rw[List.length_append,hxl]) (by omega) (by omega) (by show a+1<=_;omega),?_⟩
   show _=((a2t a (Lib.itoa i),[.row false 5 1 (xs++Zk (Lib.itoa i))],[]):AV×List AObj×List AObj)
   rw[e]
   exact g3b [45] _
  ·have e:Lib.itoa i=Lib.decDigits i.natAbs:=YF hi
   rw[e4w hi h1,Int.toNat_natCast]
   refine⟨MF hxl (by omega) (by omega) (by omega),?_⟩
   show _=((a2t a (Lib.itoa i),[.row false 5 1 (xs++Zk (Lib.itoa i))],[]):AV×List AObj×List AObj)
   rw[e]
   rfl
 ·cases h
theorem f0j: ∀ args os,U2 5 args os=true->Zd c6y os.length (Xw os.length b3i fun r=>r=Ad args os) b1r [] (U3 f5l args os):=by
 intro args os h
 have h2:=h
 unfold U2 at h
 split at h
 ·rename_i n a i b ty xs
  simp only[Bool.and_eq_true,beq_iff_eq,decide_eq_true_eq]at h
  obtain⟨⟨⟨⟨⟨⟨rfl,rfl⟩,hxl⟩,h0⟩,h1⟩,rfl⟩,hn⟩:=h
  exact g6l a i xs ⟨h2,rfl⟩
 ·cases h
theorem e5n: ∀ args os,JH 5 args os=true->Zd d5p os.length (Xw os.length b1d fun r=>r=OE args os) a8x [] (U3 f8y args os):=by
 intro args os h
 unfold JH at h
 split at h
 ·rename_i i s n a ty xs
  simp only[Bool.and_eq_true,beq_iff_eq,decide_eq_true_eq]at h
  obtain⟨⟨⟨⟨⟨rfl,rfl⟩,hxl⟩,h0⟩,h1⟩,hn⟩:=h
  refine g2z a i s xs (YV (fun hs=> ?_) fun hs=> ?_)
  ·subst hs
   refine⟨F3 hxl (by show a+1<=_;omega),M9 (by rw[List.length_append,hxl]) h0 h1 (by show a+1<=_;omega),?_⟩
   show(AV.tup [],[AObj.box [.row 1 (a+1+(Lib.itoa i).length) 0 (a+1+(Lib.itoa i).length)],.row false 5 1 (xs++Zk [32]++Zk (Lib.itoa i))],[])=((AV.tup [],[AObj.box [.row 1 (a+(Ur true i).length) 0 (a+(Ur true i).length)],.row false 5 1 (xs++Zk (Ur true i))],[]):AV×List AObj×List AObj)
   have e:Ur true i=[32]++Lib.itoa i:=rfl
   rw[e,Vx,List.length_append,List.append_assoc,Nat.add_assoc]
   rfl
  ·subst hs
   exact⟨M9 hxl h0 h1 (by omega),rfl⟩
 ·cases h
def apH(a:Arr)(o:List UInt8):ZF:=[.obj (.box [.pv (enc a.e),.pv (enc a.d),.pv (enc a.x)]),.obj (.box [.row 2 o.length 0 o.length]),.obj (.row false 5 1 (Zk o))]
theorem Ru{i:Int}{s:Bool}{o:List UInt8}(a : -9223372036854775808<=i)(h1:i<=9223372036854775807)(hn:o.length<=1099511600000):JH 5 [.pv (.int .i64 i),.pv (.bool s),.ptr 0 0] [.box [.row 1 o.length 0 o.length],.row false 5 1 (Zk o)]=true:=by
 show(5==5&&o.length==o.length&&(Zk o).length==o.length&&decide (-9223372036854775808<=i)&&decide (i<=9223372036854775807)&&decide (o.length<=1099511600000))=true
 rw[U4,decide_eq_true a,decide_eq_true h1,decide_eq_true hn];simp
theorem TF(s:Bool){i:Int}(h:i.natAbs<18446744073709551616):(Ur s i).length<=22:=by
 have h:=QP h
 have h:(Lib.itoa i).length<=21:=h
 unfold Ur
 rw[List.length_append]
 cases s
 ·show 0+_<=_;omega
 ·show 1+_<=_;omega
def Yr(o:List UInt8):Bool->List Int->List UInt8
 | _,[]=>o
 | s,n::l=>Yr (o++Ur s n) true l
theorem f4p(o:List UInt8):(Zk o).all DC=true:=by
 unfold Zk
 rw[List.all_eq_true]
 intro x a
 obtain⟨b,_,rfl⟩:=List.mem_map.1 a
 have:b.toNat<256:=b.toNat_lt
 simp[DC]
 omega
theorem d3w(o:List UInt8):Y0 (Zk o)=o:=by
 unfold Y0 Zk
 rw[List.map_map]
 conv=>rhs;rw[<- List.map_id o]
 refine List.map_congr_left fun b _=> ?_
 show UInt8.ofNat ((b.toNat:Int).toNat)=b
 rw[Int.toNat_natCast,UInt8.ofNat_toNat]
theorem c5p(a:Arr)(G:PV->Prop)(e : ∀ n∈a.x,n.natAbs<9223372036854775808)(hl:a.x.length<=2000000): ∀ (d i:Nat) (o:List UInt8),d+i=a.x.length->o.length<=100000000+22*i ->
  G (.tup [.str (Yr o true (a.x.drop i)++[93]),.int .i64 0]) ->
  At Wl 0 (Za XC G) XG 1 56 [(1,.ptr 0 0),(4,.ptr 1 0),(5,.fn 95 [] [.ptr 1 0]),(40,.pv (.int .i64 a.x.length)),(41,.pv (.int .i64 i))] (apH a o):=by
 intro d
 induction d with
 | zero=>
  intro i o hi ho h
  rw[List.drop_eq_nil_of_le (by omega)]at h
  have g:(Zk o).length=o.length:=U4 o
  refine MO a o.length i (Zk o) (ZU (Yv (by omega)) ⟨F3 g (by show o.length+1<=_;omega),?_,?_⟩)
  ·show((Zk o++Zk [93]).length==o.length+1&&(Zk o++Zk [93]).all DC&&1==1)=true
   rw[<- Vx,U4,f4p,List.length_append];simp
  ·show G (.tup [.str (Y0 (List.drop 0 (List.take (o.length+1) (Zk o++Zk [93])))),.int .i64 0])
   rw[<- Vx,List.drop_zero,List.take_of_length_le (by rw[U4,List.length_append];exact Nat.le_refl _),d3w]
   exact h
 | succ d ih=>
  intro i o hi ho h
  have b:i<a.x.length:=by omega
  have hn:=e _ (List.getElem_mem b)
  have hnl:=TF true (i:=a.x[i]) (by omega)
  rw[List.drop_eq_getElem_cons b]at h
  have k:=ih (i+1) (o++Ur true a.x[i]) (by omega) (by rw[List.length_append];omega) h
  refine MO a o.length i (Zk o) (ZT (Yq b) ⟨Zp b rfl,ZB b ⟨Ru (by show _<=a.x[i];omega) (by show a.x[i]<=_;omega) (by omega),?_⟩⟩)
  rw[next (by omega)]
  unfold apH at k
  rw[Vx,List.length_append]at k
  exact k
theorem c0h(a:Arr)(G:PV->Prop)(hd : ∀ n∈a.d,n.natAbs<9223372036854775808)(hl:a.d.length<=2000000)
  (e : ∀ o:List UInt8,o.length<=44000010->G (.tup [.str (Yr (o++[58]) true a.x++[93]),.int .i64 0])->At Wl 0 (Za XC G) XG 1 56 [(1,.ptr 0 0),(4,.ptr 1 0),(5,.fn 95 [] [.ptr 1 0]),(40,.pv (.int .i64 a.x.length)),(41,.pv (.int .i64 (0:Nat)))] (apH a (o++[58]))) : ∀ (d i:Nat) (o:List UInt8),d+i=a.d.length->o.length<=10+22*i ->
  G (.tup [.str (Yr (Yr o (decide (0<i)) (a.d.drop i)++[58]) true a.x++[93]),.int .i64 0]) ->
  At Wl 0 (Za XC G) XG 0 56 [(1,.ptr 0 0),(4,.ptr 1 0),(5,.fn 95 [] [.ptr 1 0]),(21,.pv (.int .i64 a.d.length)),(22,.pv (.int .i64 i))] (apH a o):=by
 intro d
 induction d with
 | zero=>
  intro i o hi ho h
  rw[List.drop_eq_nil_of_le (by omega)]at h
  have g:(Zk o).length=o.length:=U4 o
  have k:=e o (by omega) h
  unfold apH at k
  rw[Vx,List.length_append]at k
  refine LD a o.length i (Zk o) (ZU (Yv (by omega)) ⟨F3 g (by show o.length+1<=_;omega),?_⟩)
  rw[List.length_map]
  exact k
 | succ d ih=>
  intro i o hi ho h
  have b:i<a.d.length:=by omega
  have hn:=hd _ (List.getElem_mem b)
  have hnl:=TF (decide (0<i)) (i:=a.d[i]) (by omega)
  rw[List.drop_eq_getElem_cons b]at h
  have k:=ih (i+1) (o++Ur (decide (0<i)) a.d[i]) (by omega) (by rw[List.length_append];omega) (by rw[decide_eq_true (show 0<i+1 by omega)];exact h)
  refine LD a o.length i (Zk o) (ZT (Yq b) ⟨Zp b rfl,ZB b ⟨Ru (by show _<=a.d[i];omega) (by show a.d[i]<=_;omega) (by omega),?_⟩⟩)
  rw[next (by omega)]
  have j:decide ((i:Int)>0)=decide (0<i):=decide_eq_decide.2 (by omega)
  rw[j]
  unfold apH at k
  rw[Vx,List.length_append]at k
  exact k
theorem Nc: ∀ (l:List Int) (o:List UInt8),Yr o true l=o++l.flatMap fun n=>[32]++Kl n
 | [],o=>by simp[Yr]
 | n::l,o=>by
  rw[Yr,Nc l,List.flatMap_cons,List.append_assoc]
  rfl
theorem AR: ∀ (l:List Int) (o:List UInt8),Yr o false l=o++Vt l
 | [],o=>by simp[Yr,Vt]
 | [n],o=>by simp only[Yr,Vt];rfl
 | n::m::r,o=>by
  rw[Yr,Vt]
  ·have h:=AR (m::r) (o++Ur false n++[32])
   rw[Yr]at h ⊢
   have e:o++Ur false n++Ur true m=o++Ur false n++[32]++Ur false m:=by
    show o++Ur false n++([32]++Lib.itoa m)=_
    simp[Ur]
   rw[e,h]
   show o++([]++Lib.itoa n)++[32]++_=_
   simp[Kl,Zq]
  ·simp
theorem b1f: ∀ x:Arr×Unit,(VH x.1&&WE x.1)=true->Zd Wl 0 (Za XC (Zf (J7 x.1))) XG [] (Zx c4q (encL x)):=by
 rintro⟨a,⟨⟩⟩ h
 rw[Bool.and_eq_true]at h
 have hs:VH a=true:=h.1
 have i:WE a=true:=h.2
 have b:=hs
 unfold VH at b
 simp only[Bool.and_eq_true,decide_eq_true_eq]at b
 obtain⟨hd,j⟩:=O3 i
 have fin : ∀ o:List UInt8,(o=if a.e.s=YN then [35,98,91]else [35,91])->Zf (J7 a) (.tup [.str (Yr (Yr o (decide (0<0)) (a.d.drop 0)++[58]) true a.x++[93]),.int .i64 0]):=fun o ho=>by
  have e:Yr (Yr o (decide (0<0)) (a.d.drop 0)++[58]) true a.x++[93]=BS a:=by
   rw[List.drop_zero,show decide (0<0)=false from rfl,AR,Nc,ho]
   rfl
  rw[e]
  exact Zg (x:=((⟨BS a⟩,0):Str×Int)) rfl
 have g : ∀ o:List UInt8,o.length<=10->Zf (J7 a) (.tup [.str (Yr (Yr o (decide (0<0)) (a.d.drop 0)++[58]) true a.x++[93]),.int .i64 0])->_:=fun o ho k=>
  c0h a (Zf (J7 a)) hd b.1 (fun o ho k=>c5p a (Zf (J7 a)) j b.2 a.x.length 0 (o++[58]) (by omega) (by rw[List.length_append];show _+1<=_;omega) k) a.d.length 0 o (by omega) (by omega) k
 refine d7c a ⟨Zc (a,()) rfl hs,Zb (a,()) rfl (YY (fun hn=> ?_) fun hn=>ZA (fun hb=> ?_) fun hb=> ?_)⟩
 ·have hn:WE a=false:=hn
  rw[i]at hn;cases hn
 ·rw[List.length_map]
  exact g [35,98,91] (by decide) (fin _ (by rw[if_pos (show a.e.s=YN from hb)]))
 ·rw[List.length_map]
  exact g [35,91] (by decide) (fin _ (by rw[if_neg (show ¬ a.e.s=YN from hb)]))
end Go.Pl
namespace Go.Pl
open Go.RowKit
open Enc (enc dec is)
open EncL (encL decL isL)
set_option maxRecDepth 100000
abbrev g1h(N:Nat)(ps:List PV)(k:Int->Prop):Prop:=Ym (fun(x:Tm×Unit)=>tW (Prod.fst x)&&decide (Z4 (Prod.fst x)<N)) (fun(x:Tm×Unit)=>(↑(Z4 (Prod.fst x)):Int)) ps k
abbrev g4s(N:Nat)(ps:List PV)(k:Int->Prop):Prop:=Ym (fun(x:Tm×Unit)=>tW (Prod.fst x)&&decide (Z4 (Prod.fst x)<N)) (fun(x:Tm×Unit)=>(↑(Yb (Prod.fst x)):Int)) ps k
abbrev g2h(N:Nat)(ps:List PV)(k:List Tm->Prop):Prop:=Ym (fun(x:Tm×Unit)=>tW (Prod.fst x)&&decide (Z4 (Prod.fst x)<N)) (fun(x:Tm×Unit)=>Xb (Prod.fst x)) ps k
abbrev g6n(ps:List PV)(k:Int->Prop):Prop:=Ym (fun(x:Tm×Unit)=>tW (Prod.fst x)) (fun(x:Tm×Unit)=>(↑(Z4 (Prod.fst x)):Int)) ps k
abbrev g5n(ps:List PV)(k:Int->Prop):Prop:=Ym (fun(x:Tm×Unit)=>tW (Prod.fst x)) (fun(x:Tm×Unit)=>(↑(Yb (Prod.fst x)):Int)) ps k
abbrev g6v(ps:List PV)(k:List Tm->Prop):Prop:=Ym (fun(x:Tm×Unit)=>tW (Prod.fst x)) (fun(x:Tm×Unit)=>Xb (Prod.fst x)) ps k
abbrev d2k(ps:List PV)(k:Tm->Prop):Prop:=ceP (fun(x:Str×Unit)=>vT (Prod.fst x)) ps k
abbrev g5t(ps:List PV)(k:Tm->Prop):Prop:=ceP (fun(x:Str×List Tm×Unit)=>cT (Prod.fst x) (Prod.fst (Prod.snd x))) ps k
abbrev b4n(ps:List PV)(k:Tm->Prop):Prop:=Ym (fun(x:Str×List Tm×Unit)=>true) (fun(x:Str×List Tm×Unit)=>cT (Prod.fst x) (Prod.fst (Prod.snd x))) ps k
abbrev f3c(ps:List PV)(k:Str×Int->Prop):Prop:=Ym (fun(x:Tm×Unit)=>tW (Prod.fst x)) (fun(x:Tm×Unit)=>K7 (Prod.fst x)) ps k
noncomputable def Gl:IC:=YI Proofs.Tryz.f47
def Gu:List IRes:=[(.tmp 2)]
abbrev e5c:Nat:=22
def BZ(N:Nat):ZC:=Yh [(47,.pure (preT (fun x:Tm×Unit=>tW x.1&&decide (Z4 x.1<N))) (Zi (fun x:Tm×Unit=>(Z4 x.1:Int))))]
theorem f4g{G:PV->Prop}(N:Nat)(n:Nd)(ks:List Tm)(h:At (BZ N) 0 (Za Gu G) Gl 0 22 [(1,(.ptr 0 0)),(3,(.pv (.int .i64 0))),(4,(.pv (.int .i64 0)))] [(.obj (.box (ZY n ks)))]):Zd (BZ N) 0 (Za Gu G) Gl [] (Zx 22 [.agg [enc n.kind,enc n.line,enc n.name,enc n.num,enc n.elem,enc n.dims,enc n.data,enc n.sizes,enc n.ranks,enc ks]]):=Zd.tp (.nil) h
theorem b7b{G:PV->Prop}(N:Nat)(n:Nd)(ks:List Tm)(m i:Int)(h:if (Cm ks i)=true then(Y1 ks i 10 fun b=>(BK b=true∧((g1h N (Kz b) fun a=>(At (BZ N) 0 (Za Gu G) Gl 0 22 [(1,(.ptr 0 0)),(3,(.pv (.int .i64 (if true=true then if a>m then a else m else if a<m then a else m)))),(4,(.pv (.int .i64 (IntKind.wrap IntKind.i64 (i+1)))))] [(.obj (.box (ZY n ks)))])))))else(G ((.int .i64 (IntKind.wrap IntKind.i64 (m+1)))))):At (BZ N) 0 (Za Gu G) Gl 0 22 [(1,.ptr 0 0),(3,.pv (.int .i64 m)),(4,.pv (.int .i64 i))] [.obj (.box [.pv (enc n.kind),.pv (enc n.line),.pv (enc n.name),.pv (enc n.num),.pv (enc n.elem),.pv (enc n.dims),.pv (enc n.data),.pv (enc n.sizes),.pv (enc n.ranks),.pv (enc ks)])]:=At.tp (dm [dr Tm,dv Int] 15 0x2026115100742) h
noncomputable def KC:IC:=YI Proofs.Tryz.f48
def KV:List IRes:=[(.tmp 2)]
abbrev d4j:Nat:=21
def Gb(N:Nat):ZC:=Yh [(48,.pure (preT (fun x:Tm×Unit=>tW x.1&&decide (Z4 x.1<N))) (Zi (fun x:Tm×Unit=>(Yb x.1:Int))))]
theorem f0w{G:PV->Prop}(N:Nat)(n:Nd)(ks:List Tm)(h:At (Gb N) 0 (Za KV G) KC 0 21 [(1,(.ptr 0 0)),(3,(.pv (.int .i64 1))),(4,(.pv (.int .i64 0)))] [(.obj (.box (ZY n ks)))]):Zd (Gb N) 0 (Za KV G) KC [] (Zx 21 [.agg [enc n.kind,enc n.line,enc n.name,enc n.num,enc n.elem,enc n.dims,enc n.data,enc n.sizes,enc n.ranks,enc ks]]):=Zd.tp (.nil) h
theorem a3x{G:PV->Prop}(N:Nat)(n:Nd)(ks:List Tm)(m i:Int)(h:if (Cm ks i)=true then(Y1 ks i 10 fun a=>(BK a=true∧((g4s N (Kz a) fun b=>(At (Gb N) 0 (Za KV G) KC 0 21 [(1,(.ptr 0 0)),(3,(.pv (.int .i64 (IntKind.wrap IntKind.i64 (m+b))))),(4,(.pv (.int .i64 (IntKind.wrap IntKind.i64 (i+1)))))] [(.obj (.box (ZY n ks)))])))))else(G ((.int .i64 m)))):At (Gb N) 0 (Za KV G) KC 0 21 [(1,.ptr 0 0),(3,.pv (.int .i64 m)),(4,.pv (.int .i64 i))] [.obj (.box [.pv (enc n.kind),.pv (enc n.line),.pv (enc n.name),.pv (enc n.num),.pv (enc n.elem),.pv (enc n.dims),.pv (enc n.data),.pv (enc n.sizes),.pv (enc n.ranks),.pv (enc ks)])]:=At.tp (dm [dr Tm,dv Int] 15 0x226115100842) h
noncomputable def GR:IC:=YI Proofs.Tryz.f49
def Gs:List IRes:=[(.tmp 2)]
abbrev e3i:Nat:=23
def Sy(N:Nat):ZC:=Yh [(49,.pure (preT (fun x:Tm×Unit=>tW x.1&&decide (Z4 x.1<N))) (Zi (fun x:Tm×Unit=>Xb x.1)))]
theorem f5u{G:PV->Prop}(N:Nat)(n:Nd)(ks:List Tm)(h:At (Sy N) 0 (Za Gs G) GR 0 23 [(1,(.ptr 0 0)),(3,(.row 1 1 0 1)),(4,(.pv (.int .i64 0)))] [(.obj (.box (ZY n ks))),(.obj (.row false 29 10 (Dc n ks)))]):Zd (Sy N) 0 (Za Gs G) GR [] (Zx 23 [.agg [enc n.kind,enc n.line,enc n.name,enc n.num,enc n.elem,enc n.dims,enc n.data,enc n.sizes,enc n.ranks,enc ks]]):=Zd.tp (.lit (.nil)) h
theorem b3t{G:PV->Prop}(N:Nat)(n:Nd)(ks:List Tm)(k:Nat)(i:Int)(o:List Tm)(h:if (Cm ks i)=true then(Y1 ks i 10 fun b=>(BK b=true∧((g2h N (Kz b) fun a=>((List.isEmpty (List.map enc a)||Enc.sz Tm==10)=true∧((List.length (List.map enc o)==k&&k==k&&decide ((k+List.length (List.map enc a))*176<=1099511627776)&&decide (k+List.length (List.map enc a)<=1099511627776))=true∧(At (Sy N) 0 (Za Gs G) GR 0 23 [(1,(.ptr 0 0)),(3,(.row 1 (k+List.length (List.map enc a)) 0 (k+List.length (List.map enc a)))),(4,(.pv (.int .i64 (IntKind.wrap IntKind.i64 (i+1)))))] [(.obj (.box (ZY n ks))),(.obj (.row false 29 10 (List.map enc o++List.map enc a)))])))))))else((List.length (List.map enc o)==k)=true∧(G ((.sl 10 false (List.drop 0 (List.take k (List.map enc o)))))))):At (Sy N) 0 (Za Gs G) GR 0 23 [(1,.ptr 0 0),(3,.row 1 k 0 k),(4,.pv (.int .i64 i))] [.obj (.box [.pv (enc n.kind),.pv (enc n.line),.pv (enc n.name),.pv (enc n.num),.pv (enc n.elem),.pv (enc n.dims),.pv (enc n.data),.pv (enc n.sizes),.pv (enc n.ranks),.pv (enc ks)]),.obj (.row false 29 10 (o.map enc))]:=At.tp (dm [dr Tm,dv (List Tm)] 17 0x102116115100942) h
noncomputable def V7:IC:=YI Proofs.Tryz.f25
def Vq:List IRes:=[(.tmp 4)]
abbrev e7q:Nat:=91
def U7:ZC:=Yh [(47,.pure (preT (fun x:Tm×Unit=>tW x.1)) (Zi (fun x:Tm×Unit=>(Z4 x.1:Int)))),(48,.pure (preT (fun x:Tm×Unit=>tW x.1)) (Zi (fun x:Tm×Unit=>(Yb x.1:Int)))),(49,.pure (preT (fun x:Tm×Unit=>tW x.1)) (Zi (fun x:Tm×Unit=>Xb x.1)))]
theorem f6p{G:PV->Prop}(n:Nd)(ks:List Tm)(m:Int)(h:(g6n (Dc n ks) fun b=>(if (decide (b>12))=true then G ((.bool false))else((g5n (Dc n ks) fun e=>(if (decide (e>m))=true then G ((.bool false))else((g6v (Dc n ks) fun a=>(At U7 0 (Za Vq G) V7 0 91 [(5,(.pv (.sl 10 false (List.map enc a)))),(6,(.pv (.int .i64 0)))] []))))))))):Zd U7 0 (Za Vq G) V7 [] (Zx 91 [.agg [enc n.kind,enc n.line,enc n.name,enc n.num,enc n.elem,enc n.dims,enc n.data,enc n.sizes,enc n.ranks,enc ks],.int .i64 m]):=Zd.tp (dm [dv Int,dv (List Tm)] 29 0x610001422225120222220064251) h
abbrev b3m(a:List Tm):Nat×AV:=(5,(.pv (.sl 10 false (List.map enc a))))
theorem b7q{G:PV->Prop}(n:Nd)(ks:List Tm)(m:Int)(i:Int)(o:List Tm)(h:if (Cm o i)=true then(Y1 o i 10 fun e=>((decide (0+List.length [Sh.str]<=List.length (List.drop 2 (PV.cells (enc e))))&&Yk (List.drop 2 (PV.cells (enc e))) 0 [Sh.str])=true∧(if (decide ((↑(List.length (PV.asStr (List.getD (List.drop 2 (PV.cells (enc e))) 0 default))):Int)>40))=true then G ((.bool false))else((Y1 o i 10 fun g=>((decide (0+List.length [Sh.sl 1]<=List.length (List.drop 2 (List.drop 4 (PV.cells (enc g)))))&&Yk (List.drop 2 (List.drop 4 (PV.cells (enc g)))) 0 [Sh.sl 1])=true∧(if (decide ((↑(List.length (PV.asXs (List.getD (List.drop 2 (List.drop 4 (PV.cells (enc g)))) 0 default))):Int)>30))=true then G ((.bool false))else((Y1 o i 10 fun a=>((decide (0+List.length [Sh.sl 1]<=List.length (List.drop 1 (List.drop 4 (PV.cells (enc a)))))&&Yk (List.drop 1 (List.drop 4 (PV.cells (enc a)))) 0 [Sh.sl 1])=true∧(if (decide ((↑(List.length (PV.asXs (List.getD (List.drop 1 (List.drop 4 (PV.cells (enc a)))) 0 default))):Int)>8))=true then G ((.bool false))else((Y1 o i 10 fun b=>((decide (0+List.length [Sh.sl 2]<=List.length (List.drop 7 (PV.cells (enc b))))&&Yk (List.drop 7 (PV.cells (enc b))) 0 [Sh.sl 2])=true∧(if (decide ((↑(List.length (PV.asXs (List.getD (List.drop 7 (PV.cells (enc b))) 0 default))):Int)>6))=true then G ((.bool false))else((Y1 o i 10 fun j=>((decide (0+List.length [Sh.sl 1]<=List.length (List.drop 8 (PV.cells (enc j))))&&Yk (List.drop 8 (PV.cells (enc j))) 0 [Sh.sl 1])=true∧(if (decide ((↑(List.length (PV.asXs (List.getD (List.drop 8 (PV.cells (enc j))) 0 default))):Int)>10))=true then G ((.bool false))else(At U7 0 (Za Vq G) V7 1 91 [(b3m o),(6,(.pv (.int .i64 i))),(7,(.pv (.int .i64 0)))] []))))))))))))))))))))else(G ((.bool true)))):At U7 0 (Za Vq G) V7 0 91 [(5,.pv (enc o)),(6,.pv (.int .i64 i))] []:=At.tp (dm [dr Tm] 166 0x14222212251220222222220094222212251220222222222222222201142222122251220222222222222222222222222201a4222212225122022222222222222222222222222222222220234215109f42) h
theorem b4k{G:PV->Prop}(n:Nd)(ks:List Tm)(m:Int)(i j:Int)(o:List Tm)(h:(Y1 o i 10 fun b=>((decide (0+List.length [Sh.sl 2]<=List.length (List.drop 7 (PV.cells (enc b))))&&Yk (List.drop 7 (PV.cells (enc b))) 0 [Sh.sl 2])=true∧(if (decide (j<(↑(List.length (PV.asXs (List.getD (List.drop 7 (PV.cells (enc b))) 0 default))):Int)))=true then(Y1 o i 10 fun a=>((decide (0+List.length [Sh.sl 2]<=List.length (List.drop 7 (PV.cells (enc a))))&&Yk (List.drop 7 (PV.cells (enc a))) 0 [Sh.sl 2])=true∧((decide (0<=j)&&decide (Int.toNat j<List.length (PV.asXs (List.getD (List.drop 7 (PV.cells (enc a))) 0 default)))&&2==2)=true∧((decide (0+List.length [Sh.sl 2]<=List.length (List.drop 1 (PV.cells (List.getD (PV.asXs (List.getD (List.drop 7 (PV.cells (enc a))) 0 default)) (Int.toNat j) default))))&&Yk (List.drop 1 (PV.cells (List.getD (PV.asXs (List.getD (List.drop 7 (PV.cells (enc a))) 0 default)) (Int.toNat j) default))) 0 [Sh.sl 2])=true∧(if (decide ((↑(List.length (PV.asXs (List.getD (List.drop 1 (PV.cells (List.getD (PV.asXs (List.getD (List.drop 7 (PV.cells (enc a))) 0 default)) (Int.toNat j) default))) 0 default))):Int)>6))=true then G ((.bool false))else(At U7 0 (Za Vq G) V7 1 91 [(b3m o),(6,(.pv (.int .i64 i))),(7,(.pv (.int .i64 (IntKind.wrap IntKind.i64 (j+1)))))] []))))))else(At U7 0 (Za Vq G) V7 0 91 [(b3m o),(6,(.pv (.int .i64 (IntKind.wrap IntKind.i64 (i+1)))))] []))))):At U7 0 (Za Vq G) V7 1 91 [(5,.pv (enc o)),(6,.pv (.int .i64 i)),(7,.pv (.int .i64 j))] []:=At.tp (dm [dr Tm] 25 0x20200014213115100e42151) h
noncomputable def f1g:IC:=YI Proofs.Tryz.f6
def f2h:List IRes:=[(.cell true 10 2)]
abbrev g2c:Nat:=5
def g2a:ZC:=Yh []
theorem g7j{G:PV->Prop}(s:List UInt8)(h:G ((.agg [(.int .i64 1),(.int .i64 0),(.str s),(.int .i64 0),(.str []),(.sl 0 true []),(.sl 0 true []),(.sl 0 true []),(.sl 0 true []),(.sl 0 true [])]))):Zd g2a 0 (Za f2h G) f1g [] (Zx 5 [.str s]):=Zd.tp (.nil) h
noncomputable def a3s:IC:=YI Proofs.Tryz.f13
def a4p:List IRes:=[(.cell true 10 4)]
abbrev e2n:Nat:=8
def b3p:ZC:=Yh []
theorem e6b{G:PV->Prop}(s:List UInt8)(l:List Tm)(h:G ((.agg [(.int .i64 6),(.int .i64 0),(.str s),(.int .i64 0),(.str []),(.sl 0 true []),(.sl 0 true []),(.sl 0 true []),(.sl 0 true []),(.sl 10 false (List.map enc l))]))):Zd b3p 0 (Za a4p G) a3s [] (Zx 8 [.str s,enc l]):=Zd.tp (.nil) h
noncomputable def Fs:IC:=YI Proofs.Tryz.f5
def Ls:List IRes:=[(.tmp 0)]
abbrev c5o:Nat:=47
def a5c:ZC:=Yh [(6,.pure (preT (fun _:Str×Unit=>true)) (Zi (fun x:Str×Unit=>vT x.1))),(13,.pure (preT (fun _:Str×List Tm×Unit=>true)) (Zi (fun x:Str×List Tm×Unit=>cT x.1 x.2.1))),(12,.pure (preT (fun x:Tm×Unit=>tW x.1)) (Zi (fun x:Tm×Unit=>K7 x.1)))]
theorem e0p{G:PV->Prop}(h:Ty (fun(x:Str×Unit)=>vT x.1) [(.str [(97:UInt8)])] fun l:Tm=>d2k [(.str [(98:UInt8)])] fun m=>(g5t [(.str [(110:UInt8),(101:UInt8),(103:UInt8)]),(.sl 10 false [(.agg [(.int .i64 2),(.int .i64 0),(.str [(105:UInt8),(110:UInt8),(116:UInt8)]),(.int .i64 5),(.str []),(.sl 0 true []),(.sl 0 true []),(.sl 0 true []),(.sl 0 true []),(.sl 0 true [])])])] fun b=>((List.all [enc m,enc b] fun(x:PV)=>List.length (PV.cells x)==10&&PV.cellsOk x)=true∧((b4n [(.str [(115:UInt8),(117:UInt8),(98:UInt8)]),(.sl 10 false [enc m,enc b])] fun g=>((List.all [enc l,enc g] fun(x:PV)=>List.length (PV.cells x)==10&&PV.cellsOk x)=true∧((b4n [(.str [(115:UInt8),(117:UInt8),(98:UInt8)]),(.sl 10 false [enc l,enc g])] fun r=>((f3c [enc r] fun k=>(d2k [(.str [(97:UInt8)])] fun e=>(d2k [(.str [(98:UInt8)])] fun i=>((List.all [enc e,enc i] fun(x:PV)=>List.length (PV.cells x)==10&&PV.cellsOk x)=true∧((b4n [(.str [(97:UInt8),(100:UInt8),(100:UInt8)]),(.sl 10 false [enc e,enc i])] fun j=>((List.all [enc j,PV.agg [PV.int .i64 2,PV.int .i64 0,PV.str [(105:UInt8),(110:UInt8),(116:UInt8)],PV.int .i64 (-2:Int),PV.str [],PV.sl 0 true [],PV.sl 0 true [],PV.sl 0 true [],PV.sl 0 true [],PV.sl 0 true []]] fun(x:PV)=>List.length (PV.cells x)==10&&PV.cellsOk x)=true∧((b4n [(.str [(109:UInt8),(117:UInt8),(108:UInt8)]),(.sl 10 false [enc j,(.agg [(.int .i64 2),(.int .i64 0),(.str [(105:UInt8),(110:UInt8),(116:UInt8)]),(.int .i64 (-2)),(.str []),(.sl 0 true []),(.sl 0 true []),(.sl 0 true []),(.sl 0 true []),(.sl 0 true [])])])] fun q=>((f3c [enc q] fun a=>(if (k.2==0)=true then if (a.2==0)=true then if (Str.s k.1==[(97:UInt8),(32:UInt8),(45:UInt8),(32:UInt8),(40:UInt8),(98:UInt8),(32:UInt8),(45:UInt8),(32:UInt8),(45:UInt8),(40:UInt8),(53:UInt8),(41:UInt8),(41:UInt8)])=true then G ((.bool (Str.s a.1==[(40:UInt8),(97:UInt8),(32:UInt8),(43:UInt8),(32:UInt8),(98:UInt8),(41:UInt8),(32:UInt8),(42:UInt8),(32:UInt8),(45:UInt8),(50:UInt8)])))else(G ((.bool false)))else(G ((.bool false)))else(G ((.bool false)))))))))))))))))))))))):Zd a5c 0 (Za Ls G) Fs [] (Zx 47 []):=Zd.tp (dm [dv Tm,dv (Str×Int)] 74 0x222222220222220220222004422200e422201b4261512151215252615121512152225252) h
end Go.Pl
namespace Go.Pl
open Go.RowKit
open Enc (enc dec is)
open EncL (encL decL isL)
set_option maxRecDepth 100000
abbrev Ti(N:Nat)(ps:List PV)(k:Str->Prop):Prop:=Ym (fun(x:Tm×Unit)=>tW (Prod.fst x)&&Ya (Prod.fst x)&&decide (Z4 (Prod.fst x)<N)) (fun(x:Tm×Unit)=>Zt (Prod.fst x)) ps k
abbrev c7r(ps:List PV)(k:Str->Prop):Prop:=Ym (fun(x:List Str×Unit)=>YP (Prod.fst x)) (fun(x:List Str×Unit)=>Yi (Prod.fst x)) ps k
abbrev g1l(ps:List PV)(k:Str->Prop):Prop:=Ym (fun(x:List Lin×FnV 58×Unit)=>decide (List.length (Prod.fst x)<=1048576)&&List.all (Prod.fst x) Zh) (fun(x:List Lin×FnV 58×Unit)=>Yi (List.map Yu (Prod.fst x))) ps k
abbrev f1d(ps:List PV)(k:Str->Prop):Prop:=Ym (fun(x:Int×Unit)=>decide ((-9223372036854775808:Int)<=Prod.fst x)&&decide (Prod.fst x<=9223372036854775807)) (fun(x:Int×Unit)=>Zq (Prod.fst x)) ps k
abbrev b4s(ps:List PV)(k:Str->Prop):Prop:=Ym (fun(x:List Int×FnV 87×Unit)=>decide (List.length (Prod.fst x)<=1048576)&&Wd (Prod.fst x)) (fun(x:List Int×FnV 87×Unit)=>Yi (List.map Zq (Prod.fst x))) ps k
abbrev Bn(N:Nat)(ps:List PV)(k:Str->Prop):Prop:=Ym (fun(x:List Tm×FnV 27×Unit)=>tsW (Prod.fst x)&&Ws (Prod.fst x)&&decide (Yc (Prod.fst x)<N)) (fun(x:List Tm×FnV 27×Unit)=>Yi (List.map Zt (Prod.fst x))) ps k
abbrev g1g(ps:List PV)(k:Str×Int->Prop):Prop:=Ym (fun(x:Tm×Unit)=>tW (Prod.fst x)) (fun(x:Tm×Unit)=>Jl (Prod.fst x)) ps k
abbrev Rn(ps:List PV)(k:Int->Prop):Prop:=Ym (fun(x:Tm×Unit)=>tW (Prod.fst x)) (fun(x:Tm×Unit)=>X8 (Prod.fst x)) ps k
abbrev g2x(ps:List PV)(k:Str->Prop):Prop:=Ym (fun(x:Tm×Unit)=>UK (Tm.nd (Prod.fst x))) (fun(x:Tm×Unit)=>a3j (Tm.nd (Prod.fst x))) ps k
abbrev g3f(N:Nat)(ps:List PV)(k:Str->Prop):Prop:=Ym (fun(x:Tm×Unit)=>tW (Prod.fst x)&&Ya (Prod.fst x)&&decide (Nd.kind (Tm.nd (Prod.fst x))=6)&&decide (Yc (Tm.ks (Prod.fst x))<N)) (fun(x:Tm×Unit)=>Q6 (Prod.fst x)) ps k
abbrev f6h(ps:List PV)(k:Str->Prop):Prop:=Ym (fun(x:Lin×Unit)=>Wn (Prod.fst x)) (fun(x:Lin×Unit)=>Str.mk (ZE (Prod.fst x))) ps k
abbrev f6s(ps:List PV)(k:Str×Int->Prop):Prop:=Ym (fun(x:Arr×Unit)=>VH (Prod.fst x)&&WE (Prod.fst x)) (fun(x:Arr×Unit)=>J7 (Prod.fst x)) ps k
noncomputable def Gh:IC:=YI Proofs.Tryz.f57
def Gc:List IRes:=[(.tmp 4)]
abbrev e6y:Nat:=27
def Sd(N:Nat):ZC:=Yh [(27,.pure (preT (fun x:Tm×Unit=>(tW x.1&&Ya x.1)&&decide (Z4 x.1<N))) (Zi (fun x:Tm×Unit=>Zt x.1))),(15,.pure (preT (fun x:List Str×Unit=>YP x.1)) (Zi (fun x:List Str×Unit=>Yi x.1)))]
theorem f9y{G:PV->Prop}(N:Nat)(l:List Tm)(h:(decide (0<=(↑(List.length (List.map enc l)):Int))&&(↑(List.length (List.map enc l)):Int)==(↑(List.length (List.map enc l)):Int)&&decide ((↑(List.length (List.map enc l)):Int)*(↑16:Int)<=1099511627776)&&decide ((↑(List.length (List.map enc l)):Int)<=1099511627776))=true∧(At (Sd N) 0 (Za Gc G) Gh 0 27 [(1,(.pv (.fn 27))),(5,(.row 0 (Int.toNat (↑(List.length (List.map enc l)):Int)) 0 (Int.toNat (↑(List.length (List.map enc l)):Int)))),(11,(.pv (.sl 10 false (List.map enc l)))),(12,(.pv (.int .i64 (↑(List.length (List.map enc l)):Int)))),(13,(.pv (.int .i64 0)))] [(.obj (.row false 9 1 (List.replicate (Int.toNat (↑(List.length (List.map enc l)):Int)) (PV.str []))))])):Zd (Sd N) 0 (Za Gc G) Gh [] (Zx 27 [enc l,.fn 27]):=Zd.tp (.req (.nil)) h
theorem b6a{G:PV->Prop}(N:Nat)(l:List Tm)(i:Int)(o:List Str)(h:if (decide (i<(↑(List.length l):Int)))=true then(Y1 l i 10 fun b=>(BK b=true∧((Ti N (Kz b) fun a=>((decide (0<=i)&&decide (0+Int.toNat i<List.length l)&&List.length (List.map enc o)==List.length l)=true∧((List.length (List.map enc o)==List.length l&&decide (0+Int.toNat i<List.length (List.map enc o))&&List.length (PV.cells (enc a))==1&&decide (0+1<=List.length (PV.cells (List.getD (List.map enc o) (0+Int.toNat i) default)))&&PV.cellsOk (enc a))=true∧(At (Sd N) 0 (Za Gc G) Gh 0 27 [(1,(.pv (.fn 27))),(5,(.row 0 (List.length l) 0 (List.length l))),(11,(.pv (.sl 10 false (List.map enc l)))),(12,(.pv (.int .i64 (↑(List.length l):Int)))),(13,(.pv (.int .i64 (IntKind.wrap IntKind.i64 (i+1)))))] [(.obj (.row false 9 1 (List.set (List.map enc o) (0+Int.toNat i) (PV.withCells (List.getD (List.map enc o) (0+Int.toNat i) default) (splice (PV.cells (List.getD (List.map enc o) (0+Int.toNat i) default)) 0 (PV.cells (enc a)))))))])))))))else((List.length (List.map enc o)==List.length l)=true∧((c7r [(.sl 1 false (List.drop 0 (List.take (List.length l) (List.map enc o))))] fun e=>(G ((.str (Str.s e)))))))):At (Sd N) 0 (Za Gc G) Gh 0 27 [(1,.pv (.fn 27)),(5,.row 0 l.length 0 l.length),(11,.pv (enc l)),(12,.pv (.int .i64 l.length)),(13,.pv (.int .i64 i))] [.obj (.row false 9 1 (o.map enc))]:=At.tp (dm [dr Tm,dv Str] 20 0x611021316115100a42) h
noncomputable def a5p:IC:=YI Proofs.Tryz.f56
def Pw:List IRes:=[(.tmp 2)]
abbrev d0l:Nat:=45
def Oi(N:Nat):ZC:=Yh [(89,.pure (preT (fun x:List Lin×FnV 58×Unit=>decide (x.1.length<=1048576)&&x.1.all Zh)) (Zi (fun x:List Lin×FnV 58×Unit=>Yi (x.1.map Yu)))),(87,.pure (preT (fun x:Int×Unit=>decide (-9223372036854775808<=x.1)&&decide (x.1<=9223372036854775807))) (Zi (fun x:Int×Unit=>Zq x.1))),(90,.pure (preT (fun x:List Int×FnV 87×Unit=>decide (x.1.length<=1048576)&&Wd x.1)) (Zi (fun x:List Int×FnV 87×Unit=>Yi (x.1.map Zq)))),(57,.pure (preT (fun x:List Tm×FnV 27×Unit=>(tsW x.1&&Ws x.1)&&decide (Yc x.1<N))) (Zi (fun x:List Tm×FnV 27×Unit=>Yi (x.1.map Zt))))]
theorem e6o{G:PV->Prop}(N:Nat)(n:Nd)(ks:List Tm)(h:if (decide ((↑(List.length (List.map enc (Nd.sizes n))):Int)>0))=true then(g1l [(.sl 2 false (List.map enc (Nd.sizes n))),(.fn 58)] fun a=>(Zz [(91:UInt8)] (Str.s a)∧(Zz ([(91:UInt8)]++Str.s a) [(93:UInt8)]∧(Zz (Str.s (Nd.name n)) ([(91:UInt8)]++Str.s a++[(93:UInt8)])∧(if (Nd.num n != 0)=true then(f1d [(.int .i64 (Nd.num n))] fun e=>(Zz [(123:UInt8)] (Str.s e)∧(Zz ([(123:UInt8)]++Str.s e) [(125:UInt8)]∧(Zz (Str.s (Nd.name n)++([(91:UInt8)]++Str.s a++[(93:UInt8)])) ([(123:UInt8)]++Str.s e++[(125:UInt8)])∧(if (decide ((↑(List.length (List.map enc (Nd.ranks n))):Int)>0))=true then(b4s [(.sl 1 false (List.map enc (Nd.ranks n))),(.fn 87)] fun k=>(Zz [(64:UInt8),(40:UInt8)] (Str.s k)∧(Zz ([(64:UInt8),(40:UInt8)]++Str.s k) [(41:UInt8)]∧(Zz (Str.s (Nd.name n)++([(91:UInt8)]++Str.s a++[(93:UInt8)])++([(123:UInt8)]++Str.s e++[(125:UInt8)])) ([(64:UInt8),(40:UInt8)]++Str.s k++[(41:UInt8)])∧(Zz (Str.s (Nd.name n)++([(91:UInt8)]++Str.s a++[(93:UInt8)])++([(123:UInt8)]++Str.s e++[(125:UInt8)])++([(64:UInt8),(40:UInt8)]++Str.s k++[(41:UInt8)])) [(40:UInt8)]∧((Bn N [(.sl 10 false (List.map enc ks)),(.fn 27)] fun A=>(Zz (Str.s (Nd.name n)++([(91:UInt8)]++Str.s a++[(93:UInt8)])++([(123:UInt8)]++Str.s e++[(125:UInt8)])++([(64:UInt8),(40:UInt8)]++Str.s k++[(41:UInt8)])++[(40:UInt8)]) (Str.s A)∧(Zz (Str.s (Nd.name n)++([(91:UInt8)]++Str.s a++[(93:UInt8)])++([(123:UInt8)]++Str.s e++[(125:UInt8)])++([(64:UInt8),(40:UInt8)]++Str.s k++[(41:UInt8)])++[(40:UInt8)]++Str.s A) [(41:UInt8)]∧(G ((.str (Str.s (Nd.name n)++([(91:UInt8)]++Str.s a++[(93:UInt8)])++([(123:UInt8)]++Str.s e++[(125:UInt8)])++([(64:UInt8),(40:UInt8)]++Str.s k++[(41:UInt8)])++[(40:UInt8)]++Str.s A++[(41:UInt8)])))))))))))))else(Zz (Str.s (Nd.name n)++([(91:UInt8)]++Str.s a++[(93:UInt8)])++([(123:UInt8)]++Str.s e++[(125:UInt8)])) [(40:UInt8)]∧((Bn N [(.sl 10 false (List.map enc ks)),(.fn 27)] fun z=>(Zz (Str.s (Nd.name n)++([(91:UInt8)]++Str.s a++[(93:UInt8)])++([(123:UInt8)]++Str.s e++[(125:UInt8)])++[(40:UInt8)]) (Str.s z)∧(Zz (Str.s (Nd.name n)++([(91:UInt8)]++Str.s a++[(93:UInt8)])++([(123:UInt8)]++Str.s e++[(125:UInt8)])++[(40:UInt8)]++Str.s z) [(41:UInt8)]∧(G ((.str (Str.s (Nd.name n)++([(91:UInt8)]++Str.s a++[(93:UInt8)])++([(123:UInt8)]++Str.s e++[(125:UInt8)])++[(40:UInt8)]++Str.s z++[(41:UInt8)]))))))))))))))else(if (decide ((↑(List.length (List.map enc (Nd.ranks n))):Int)>0))=true then(b4s [(.sl 1 false (List.map enc (Nd.ranks n))),(.fn 87)] fun m=>(Zz [(64:UInt8),(40:UInt8)] (Str.s m)∧(Zz ([(64:UInt8),(40:UInt8)]++Str.s m) [(41:UInt8)]∧(Zz (Str.s (Nd.name n)++([(91:UInt8)]++Str.s a++[(93:UInt8)])) ([(64:UInt8),(40:UInt8)]++Str.s m++[(41:UInt8)])∧(Zz (Str.s (Nd.name n)++([(91:UInt8)]++Str.s a++[(93:UInt8)])++([(64:UInt8),(40:UInt8)]++Str.s m++[(41:UInt8)])) [(40:UInt8)]∧((Bn N [(.sl 10 false (List.map enc ks)),(.fn 27)] fun u=>(Zz (Str.s (Nd.name n)++([(91:UInt8)]++Str.s a++[(93:UInt8)])++([(64:UInt8),(40:UInt8)]++Str.s m++[(41:UInt8)])++[(40:UInt8)]) (Str.s u)∧(Zz (Str.s (Nd.name n)++([(91:UInt8)]++Str.s a++[(93:UInt8)])++([(64:UInt8),(40:UInt8)]++Str.s m++[(41:UInt8)])++[(40:UInt8)]++Str.s u) [(41:UInt8)]∧(G ((.str (Str.s (Nd.name n)++([(91:UInt8)]++Str.s a++[(93:UInt8)])++([(64:UInt8),(40:UInt8)]++Str.s m++[(41:UInt8)])++[(40:UInt8)]++Str.s u++[(41:UInt8)])))))))))))))else(Zz (Str.s (Nd.name n)++([(91:UInt8)]++Str.s a++[(93:UInt8)])) [(40:UInt8)]∧((Bn N [(.sl 10 false (List.map enc ks)),(.fn 27)] fun y=>(Zz (Str.s (Nd.name n)++([(91:UInt8)]++Str.s a++[(93:UInt8)])++[(40:UInt8)]) (Str.s y)∧(Zz (Str.s (Nd.name n)++([(91:UInt8)]++Str.s a++[(93:UInt8)])++[(40:UInt8)]++Str.s y) [(41:UInt8)]∧(G ((.str (Str.s (Nd.name n)++([(91:UInt8)]++Str.s a++[(93:UInt8)])++[(40:UInt8)]++Str.s y++[(41:UInt8)])))))))))))))))else(if (Nd.num n != 0)=true then(f1d [(.int .i64 (Nd.num n))] fun g=>(Zz [(123:UInt8)] (Str.s g)∧(Zz ([(123:UInt8)]++Str.s g) [(125:UInt8)]∧(Zz (Str.s (Nd.name n)) ([(123:UInt8)]++Str.s g++[(125:UInt8)])∧(if (decide ((↑(List.length (List.map enc (Nd.ranks n))):Int)>0))=true then(b4s [(.sl 1 false (List.map enc (Nd.ranks n))),(.fn 87)] fun l=>(Zz [(64:UInt8),(40:UInt8)] (Str.s l)∧(Zz ([(64:UInt8),(40:UInt8)]++Str.s l) [(41:UInt8)]∧(Zz (Str.s (Nd.name n)++([(123:UInt8)]++Str.s g++[(125:UInt8)])) ([(64:UInt8),(40:UInt8)]++Str.s l++[(41:UInt8)])∧(Zz (Str.s (Nd.name n)++([(123:UInt8)]++Str.s g++[(125:UInt8)])++([(64:UInt8),(40:UInt8)]++Str.s l++[(41:UInt8)])) [(40:UInt8)]∧((Bn N [(.sl 10 false (List.map enc ks)),(.fn 27)] fun i=>(Zz (Str.s (Nd.name n)++([(123:UInt8)]++Str.s g++[(125:UInt8)])++([(64:UInt8),(40:UInt8)]++Str.s l++[(41:UInt8)])++[(40:UInt8)]) (Str.s i)∧(Zz (Str.s (Nd.name n)++([(123:UInt8)]++Str.s g++[(125:UInt8)])++([(64:UInt8),(40:UInt8)]++Str.s l++[(41:UInt8)])++[(40:UInt8)]++Str.s i) [(41:UInt8)]∧(G ((.str (Str.s (Nd.name n)++([(123:UInt8)]++Str.s g++[(125:UInt8)])++([(64:UInt8),(40:UInt8)]++Str.s l++[(41:UInt8)])++[(40:UInt8)]++Str.s i++[(41:UInt8)])))))))))))))else(Zz (Str.s (Nd.name n)++([(123:UInt8)]++Str.s g++[(125:UInt8)])) [(40:UInt8)]∧((Bn N [(.sl 10 false (List.map enc ks)),(.fn 27)] fun j=>(Zz (Str.s (Nd.name n)++([(123:UInt8)]++Str.s g++[(125:UInt8)])++[(40:UInt8)]) (Str.s j)∧(Zz (Str.s (Nd.name n)++([(123:UInt8)]++Str.s g++[(125:UInt8)])++[(40:UInt8)]++Str.s j) [(41:UInt8)]∧(G ((.str (Str.s (Nd.name n)++([(123:UInt8)]++Str.s g++[(125:UInt8)])++[(40:UInt8)]++Str.s j++[(41:UInt8)]))))))))))))))else(if (decide ((↑(List.length (List.map enc (Nd.ranks n))):Int)>0))=true then(b4s [(.sl 1 false (List.map enc (Nd.ranks n))),(.fn 87)] fun b=>(Zz [(64:UInt8),(40:UInt8)] (Str.s b)∧(Zz ([(64:UInt8),(40:UInt8)]++Str.s b) [(41:UInt8)]∧(Zz (Str.s (Nd.name n)) ([(64:UInt8),(40:UInt8)]++Str.s b++[(41:UInt8)])∧(Zz (Str.s (Nd.name n)++([(64:UInt8),(40:UInt8)]++Str.s b++[(41:UInt8)])) [(40:UInt8)]∧((Bn N [(.sl 10 false (List.map enc ks)),(.fn 27)] fun r=>(Zz (Str.s (Nd.name n)++([(64:UInt8),(40:UInt8)]++Str.s b++[(41:UInt8)])++[(40:UInt8)]) (Str.s r)∧(Zz (Str.s (Nd.name n)++([(64:UInt8),(40:UInt8)]++Str.s b++[(41:UInt8)])++[(40:UInt8)]++Str.s r) [(41:UInt8)]∧(G ((.str (Str.s (Nd.name n)++([(64:UInt8),(40:UInt8)]++Str.s b++[(41:UInt8)])++[(40:UInt8)]++Str.s r++[(41:UInt8)])))))))))))))else(Zz (Str.s (Nd.name n)) [(40:UInt8)]∧((Bn N [(.sl 10 false (List.map enc ks)),(.fn 27)] fun q=>(Zz (Str.s (Nd.name n)++[(40:UInt8)]) (Str.s q)∧(Zz (Str.s (Nd.name n)++[(40:UInt8)]++Str.s q) [(41:UInt8)]∧(G ((.str (Str.s (Nd.name n)++[(40:UInt8)]++Str.s q++[(41:UInt8)])))))))))))):Zd (Oi N) 0 (Za Pw G) a5p [] (Zx 45 [.agg [enc n.kind,enc n.line,enc n.name,enc n.num,enc n.elem,enc n.dims,enc n.data,enc n.sizes,enc n.ranks,enc ks]]):=Zd.tp (dm [dv Str] 119 0x115110115111115100b420115110115111115100b421115101b420115110115111115100b420115110115111115100b421115101b421115103b42) h
noncomputable def Ej:IC:=YI Proofs.Tryz.f53
def Oy:List IRes:=[(.tmp 5)]
abbrev f0t:Nat:=21
def a7k(N:Nat):ZC:=Yh [(27,.pure (preT (fun x:Tm×Unit=>(tW x.1&&Ya x.1)&&decide (Z4 x.1<N))) (Zi (fun x:Tm×Unit=>Zt x.1)))]
theorem f8w{G:AV×List AObj×List AObj->Prop}(N:Nat)(n:Nd)(ks:List Tm)(k:Int)(b:Bool)(h:if (b)=true then(Y1 ks k 10 fun g=>(BK g=true∧((Ti N (Kz g) fun i=>(G (((.pv (.str (Str.s i))),([(.box (ZY n ks))],[]))))))))else((Y1 ks k 10 fun e=>(BK e=true∧((Ti N (Kz e) fun a=>(Zz [(40:UInt8)] (Str.s a)∧(Zz ([(40:UInt8)]++Str.s a) [(41:UInt8)]∧(G (((.pv (.str ([(40:UInt8)]++Str.s a++[(41:UInt8)]))),([(.box (ZY n ks))],[])))))))))))):Zd (a7k N) 1 (Xw 1 Oy G) Ej [] (U3 21 [.pv (.int .i64 k),.pv (.bool b),.ptr 0 0] [.box [.pv (enc n.kind),.pv (enc n.line),.pv (enc n.name),.pv (enc n.num),.pv (enc n.elem),.pv (enc n.dims),.pv (enc n.data),.pv (enc n.sizes),.pv (enc n.ranks),.pv (enc ks)]]):=Zd.to (dm [dr Tm,dv Str] 19 0x11611510611510064) h
noncomputable def a1u:IC:=YI Proofs.Tryz.f27
def Rp:List IRes:=[(.tmp 2)]
abbrev d6g:Nat:=179
def OG(N:Nat):ZC:=Yh [(52,.pure (preT (fun x:Tm×Unit=>tW x.1)) (Zi (fun x:Tm×Unit=>Jl x.1))),(54,.pure (preT (fun x:Tm×Unit=>tW x.1)) (Zi (fun x:Tm×Unit=>X8 x.1))),(53,.own (Xt N) O5),(27,.pure (preT (fun x:Tm×Unit=>(tW x.1&&Ya x.1)&&decide (Z4 x.1<N))) (Zi (fun x:Tm×Unit=>Zt x.1))),(55,.pure (preT (fun x:Tm×Unit=>UK x.1.nd)) (Zi (fun x:Tm×Unit=>a3j x.1.nd))),(56,.pure (preT (fun x:Tm×Unit=>(tW x.1&&Ya x.1&&decide (x.1.nd.kind=6))&&decide (Yc x.1.ks<N))) (Zi (fun x:Tm×Unit=>Q6 x.1))),(57,.pure (preT (fun x:List Tm×FnV 27×Unit=>(tsW x.1&&Ws x.1)&&decide (Yc x.1<N))) (Zi (fun x:List Tm×FnV 27×Unit=>Yi (x.1.map Zt)))),(15,.pure (preT (fun x:List Str×Unit=>YP x.1)) (Zi (fun x:List Str×Unit=>Yi x.1))),(58,.pure (preT (fun x:Lin×Unit=>Wn x.1)) (Zi (fun x:Lin×Unit=>(⟨ZE x.1⟩:Str)))),(59,.pure (preT (fun x:Arr×Unit=>VH x.1&&WE x.1)) (Zi (fun x:Arr×Unit=>J7 x.1)))]
theorem e8o{G:PV->Prop}(N:Nat)(n:Nd)(ks:List Tm)(h:(g1g (Dc n ks) fun a=>((Rn (Dc n ks) fun b=>(if (a.2==2)=true then(Y1 ks 0 10 fun L=>(BK L=true∧((Rn (Kz L) fun M=>((Y1 ks 1 10 fun K=>(BK K=true∧((Rn (Kz K) fun g=>(if (decide (M ≥ b))=true then if (M != 3)=true then(Xt N [(.pv (.int .i64 0)),(.pv (.bool true)),(.ptr 0 0)] [(.box (ZY n ks))])=true∧(Zz (Xe (ZY n ks) 0 true) [(32:UInt8)]∧(Zz (Xe (ZY n ks) 0 true++[(32:UInt8)]) (Str.s a.1)∧(Zz (Xe (ZY n ks) 0 true++[(32:UInt8)]++Str.s a.1) [(32:UInt8)]∧((Xt N [(.pv (.int .i64 1)),(.pv (.bool (decide (g>b)))),(.ptr 0 0)] [(.box (ZY n ks))])=true∧(Zz (Xe (ZY n ks) 0 true++[(32:UInt8)]++Str.s a.1++[(32:UInt8)]) (Xe (ZY n ks) 1 (decide (g>b)))∧(G ((.str (Xe (ZY n ks) 0 true++[(32:UInt8)]++Str.s a.1++[(32:UInt8)]++Xe (ZY n ks) 1 (decide (g>b)))))))))))else((Xt N [(.pv (.int .i64 0)),(.pv (.bool (b != 3))),(.ptr 0 0)] [(.box (ZY n ks))])=true∧(Zz (Xe (ZY n ks) 0 (b != 3)) [(32:UInt8)]∧(Zz (Xe (ZY n ks) 0 (b != 3)++[(32:UInt8)]) (Str.s a.1)∧(Zz (Xe (ZY n ks) 0 (b != 3)++[(32:UInt8)]++Str.s a.1) [(32:UInt8)]∧((Xt N [(.pv (.int .i64 1)),(.pv (.bool (decide (g>b)))),(.ptr 0 0)] [(.box (ZY n ks))])=true∧(Zz (Xe (ZY n ks) 0 (b != 3)++[(32:UInt8)]++Str.s a.1++[(32:UInt8)]) (Xe (ZY n ks) 1 (decide (g>b)))∧(G ((.str (Xe (ZY n ks) 0 (b != 3)++[(32:UInt8)]++Str.s a.1++[(32:UInt8)]++Xe (ZY n ks) 1 (decide (g>b))))))))))))else((Xt N [(.pv (.int .i64 0)),(.pv (.bool false)),(.ptr 0 0)] [(.box (ZY n ks))])=true∧(Zz (Xe (ZY n ks) 0 false) [(32:UInt8)]∧(Zz (Xe (ZY n ks) 0 false++[(32:UInt8)]) (Str.s a.1)∧(Zz (Xe (ZY n ks) 0 false++[(32:UInt8)]++Str.s a.1) [(32:UInt8)]∧((Xt N [(.pv (.int .i64 1)),(.pv (.bool (decide (g>b)))),(.ptr 0 0)] [(.box (ZY n ks))])=true∧(Zz (Xe (ZY n ks) 0 false++[(32:UInt8)]++Str.s a.1++[(32:UInt8)]) (Xe (ZY n ks) 1 (decide (g>b)))∧(G ((.str (Xe (ZY n ks) 0 false++[(32:UInt8)]++Str.s a.1++[(32:UInt8)]++Xe (ZY n ks) 1 (decide (g>b))))))))))))))))))))))else(if (a.2==1)=true then(Y1 ks 0 10 fun i=>(BK i=true∧(if (PV.asInt (Vy i)==2)=true then if (PV.asStr (List.getD (PV.cells (enc i)) (0+1+1) default)==[(105:UInt8),(110:UInt8),(116:UInt8)])=true then if (decide (PV.asInt (List.getD (PV.cells (enc i)) (0+1+1+1) default) ≥ 0))=true then(Rn (Kz i) fun O=>(if (decide (O ≥ 6))=true then(Xt N [(.pv (.int .i64 0)),(.pv (.bool (!Str.s a.1==[(45:UInt8)]))),(.ptr 0 0)] [(.box (ZY n ks))])=true∧(Zz (Str.s a.1) (Xe (ZY n ks) 0 !Str.s a.1==[(45:UInt8)])∧(G ((.str (Str.s a.1++Xe (ZY n ks) 0 !Str.s a.1==[(45:UInt8)])))))else((Xt N [(.pv (.int .i64 0)),(.pv (.bool false)),(.ptr 0 0)] [(.box (ZY n ks))])=true∧(Zz (Str.s a.1) (Xe (ZY n ks) 0 false)∧(G ((.str (Str.s a.1++Xe (ZY n ks) 0 false))))))))else((Rn (Kz i) fun Q=>(if (decide (Q ≥ 6))=true then(Xt N [(.pv (.int .i64 0)),(.pv (.bool true)),(.ptr 0 0)] [(.box (ZY n ks))])=true∧(Zz (Str.s a.1) (Xe (ZY n ks) 0 !false)∧(G ((.str (Str.s a.1++Xe (ZY n ks) 0 !false)))))else((Xt N [(.pv (.int .i64 0)),(.pv (.bool false)),(.ptr 0 0)] [(.box (ZY n ks))])=true∧(Zz (Str.s a.1) (Xe (ZY n ks) 0 false)∧(G ((.str (Str.s a.1++Xe (ZY n ks) 0 false)))))))))else((Rn (Kz i) fun P=>(if (decide (P ≥ 6))=true then(Xt N [(.pv (.int .i64 0)),(.pv (.bool true)),(.ptr 0 0)] [(.box (ZY n ks))])=true∧(Zz (Str.s a.1) (Xe (ZY n ks) 0 !false)∧(G ((.str (Str.s a.1++Xe (ZY n ks) 0 !false)))))else((Xt N [(.pv (.int .i64 0)),(.pv (.bool false)),(.ptr 0 0)] [(.box (ZY n ks))])=true∧(Zz (Str.s a.1) (Xe (ZY n ks) 0 false)∧(G ((.str (Str.s a.1++Xe (ZY n ks) 0 false)))))))))else((Rn (Kz i) fun E=>(if (decide (E ≥ 6))=true then(Xt N [(.pv (.int .i64 0)),(.pv (.bool true)),(.ptr 0 0)] [(.box (ZY n ks))])=true∧(Zz (Str.s a.1) (Xe (ZY n ks) 0 !false)∧(G ((.str (Str.s a.1++Xe (ZY n ks) 0 !false)))))else((Xt N [(.pv (.int .i64 0)),(.pv (.bool false)),(.ptr 0 0)] [(.box (ZY n ks))])=true∧(Zz (Str.s a.1) (Xe (ZY n ks) 0 false)∧(G ((.str (Str.s a.1++Xe (ZY n ks) 0 false))))))))))))else(if (Nd.kind n==5)=true then Zz [(108:UInt8),(101:UInt8),(116:UInt8),(32:UInt8)] (Str.s (Nd.name n))∧(Zz ([(108:UInt8),(101:UInt8),(116:UInt8),(32:UInt8)]++Str.s (Nd.name n)) [(32:UInt8),(61:UInt8),(32:UInt8)]∧((Y1 ks 0 10 fun z=>(BK z=true∧((Ti N (Kz z) fun e=>(Zz ([(108:UInt8),(101:UInt8),(116:UInt8),(32:UInt8)]++Str.s (Nd.name n)++[(32:UInt8),(61:UInt8),(32:UInt8)]) (Str.s e)∧(Zz ([(108:UInt8),(101:UInt8),(116:UInt8),(32:UInt8)]++Str.s (Nd.name n)++[(32:UInt8),(61:UInt8),(32:UInt8)]++Str.s e) [(32:UInt8),(105:UInt8),(110:UInt8),(32:UInt8)]∧((Y1 ks 1 10 fun B=>(BK B=true∧((Ti N (Kz B) fun A=>(Zz ([(108:UInt8),(101:UInt8),(116:UInt8),(32:UInt8)]++Str.s (Nd.name n)++[(32:UInt8),(61:UInt8),(32:UInt8)]++Str.s e++[(32:UInt8),(105:UInt8),(110:UInt8),(32:UInt8)]) (Str.s A)∧(G ((.str ([(108:UInt8),(101:UInt8),(116:UInt8),(32:UInt8)]++Str.s (Nd.name n)++[(32:UInt8),(61:UInt8),(32:UInt8)]++Str.s e++[(32:UInt8),(105:UInt8),(110:UInt8),(32:UInt8)]++Str.s A))))))))))))))))))else(if (Nd.kind n==2)=true then(g2x (Dc n ks) fun H=>(G ((.str (Str.s H)))))else(if (Nd.kind n==1)=true then G ((.str (Str.s (Nd.name n))))else(if (Nd.kind n==6)=true then(g3f N (Dc n ks) fun C=>(G ((.str (Str.s C)))))else(if (Nd.kind n==7)=true then(Bn N [(.sl 10 false (List.map enc ks)),(.fn 27)] fun m=>(Zz [(91:UInt8)] (Str.s m)∧(Zz ([(91:UInt8)]++Str.s m) [(93:UInt8)]∧(G ((.str ([(91:UInt8)]++Str.s m++[(93:UInt8)])))))))else(if (Nd.kind n==8)=true then(Y1 ks 0 10 fun y=>(BK y=true∧((Ti N (Kz y) fun F=>((Y1 ks 1 10 fun q=>(BK q=true∧((Ti N (Kz q) fun D=>((c7r [(.sl 1 false [(.str (Str.s (Nd.name n))),(.str (Str.s F)),(.str (Str.s D))])] fun j=>(Zz [(102:UInt8),(111:UInt8),(108:UInt8),(100:UInt8),(40:UInt8)] (Str.s j)∧(Zz ([(102:UInt8),(111:UInt8),(108:UInt8),(100:UInt8),(40:UInt8)]++Str.s j) [(41:UInt8)]∧(G ((.str ([(102:UInt8),(111:UInt8),(108:UInt8),(100:UInt8),(40:UInt8)]++Str.s j++[(41:UInt8)])))))))))))))))))else(if (Nd.kind n==9)=true then(Y1 ks 0 10 fun r=>(BK r=true∧((Ti N (Kz r) fun J=>((c7r [(.sl 1 false [(.str (Str.s (Nd.name n))),(.str (Str.s J))])] fun k=>(Zz [(115:UInt8),(99:UInt8),(97:UInt8),(110:UInt8),(40:UInt8)] (Str.s k)∧(Zz ([(115:UInt8),(99:UInt8),(97:UInt8),(110:UInt8),(40:UInt8)]++Str.s k) [(41:UInt8)]∧(G ((.str ([(115:UInt8),(99:UInt8),(97:UInt8),(110:UInt8),(40:UInt8)]++Str.s k++[(41:UInt8)]))))))))))))else(if (Nd.kind n==4)=true then(Y1 (Nd.sizes n) 0 2 fun u=>((f6h [(.agg [(.int .i64 (PV.asInt (Vy u))),(.sl 2 false (PV.asXs (Tv u)))])] fun l=>(Zz [(115:UInt8),(105:UInt8),(122:UInt8),(101:UInt8),(91:UInt8)] (Str.s l)∧(Zz ([(115:UInt8),(105:UInt8),(122:UInt8),(101:UInt8),(91:UInt8)]++Str.s l) [(93:UInt8)]∧(G ((.str ([(115:UInt8),(105:UInt8),(122:UInt8),(101:UInt8),(91:UInt8)]++Str.s l++[(93:UInt8)])))))))))else((f6s [(.agg [(.str (Str.s (Nd.elem n))),(.sl 1 false (List.map enc (Nd.dims n))),(.sl 1 false (List.map enc (Nd.data n)))])] fun I=>(G ((.str (Str.s I.1)))))))))))))))))))):Zd (OG N) 0 (Za Rp G) a1u [] (Zx 179 [.agg [enc n.kind,enc n.line,enc n.name,enc n.num,enc n.elem,enc n.dims,enc n.data,enc n.sizes,enc n.ranks,enc ks]]):=Zd.tp (dm [dv (Str×Int),dv Int,dr Tm,dv Str,dr Lin] 309 0x51011812910084201181228117100c42011812281171811710114201181005420810034200014208100342018117111811711101042013122013122006426122222222220131220131220064261222222013122013122006426122013122013122006426122201642222033422220544217107942013121113122220131211131222220131211131222200e4222024426117161171041426151) h
end Go.Pl
namespace Go.Pl
open Go.RowKit
open Enc (enc dec is)
open EncL (encL decL isL)
theorem Ll{ks:List Tm}{k:Tm}(h:k∈ks):Z4 k<=Yc ks:=by
 induction ks with
 | nil=>cases h
 | cons a ks ih=>
  rw[Yc]
  rcases List.mem_cons.1 h with rfl|h
  ·omega
  ·have:=ih h;omega
theorem Vf{N:Nat}{t:Tm}(h1:tW t=true)(h2:Ya t=true)(h3:Z4 t<N):(fun x:Tm×Unit=>(tW x.1&&Ya x.1)&&decide (Z4 x.1<N)) (t,())=true:=by
 show(tW t&&Ya t&&decide (Z4 t<N))=true
 rw[h1,h2,decide_eq_true h3];rfl
structure TxP (N:Nat) (ks:List Tm):Prop where
 w:UI ks<=1048576
 v : ∀ k∈ks,Ya k=true
 d:Yc ks<N
theorem TxP.kid{N:Nat}{ks:List Tm}(h:TxP N ks){k:Tm}(a:k∈ks):tW k=true∧Ya k=true∧Z4 k<N:=
 ⟨decide_eq_true (Nat.le_trans (a6k a) h.w),h.v k a,Nat.lt_of_le_of_lt (Ll a) h.d⟩
theorem TxP.pre{N:Nat}{ks:List Tm}(h:TxP N ks):(fun x:List Tm×FnV 27×Unit=>(tsW x.1&&Ws x.1)&&decide (Yc x.1<N)) (ks,{},())=true:=by
 show(tsW ks&&Ws ks&&decide (Yc ks<N))=true
 rw[show tsW ks=true from decide_eq_true h.w,Um,List.all_eq_true.2 h.v,decide_eq_true h.d];rfl
theorem TxP.com{N:Nat}{ks:List Tm}(h:TxP N ks):(Zu (ks.map ZN)).length<=1153433600:=by
 have h1:=YU (ks.map ZN)
 have h2:=Db ks (by rw[Um];exact List.all_eq_true.2 h.v)
 have h3:((ks.map ZN).map fun s=>s.length+2).sum<=((Yy ks).map fun x=>x.2.2.length+4).sum:=by
  rw[WM,BG,BG]
  exact BD fun x _=>by show(ZN x).length+2<=(ZN x).length+4;omega
 have:=h.w
 omega
theorem TxP.len{N:Nat}{ks:List Tm}(h:TxP N ks){k:Tm}(a:k∈ks):(ZN k).length<=1153433592:=JM (h.kid a).1 (h.kid a).2.1
theorem TxP.join{N:Nat}{ks:List Tm}(h:TxP N ks):YP (ks.map Zt)=true:=by
 have h1:=h.com
 have h2:=Bo ks
 have h3:=h.w
 unfold YP
 have e:=VZ ks
 unfold Yi at e
 rw[decide_eq_true (by rw[List.length_map];omega),Bool.true_and]
 exact decide_eq_true (by rw[show Zu ((ks.map Zt).map (·.s))=Zu (ks.map ZN)from e];omega)
theorem c5l(N:Nat)(l:List Tm)(hl:l.length<=1048576)(q:TxP N l)(k:YP (l.map Zt)=true): ∀ (d i:Nat),d+i=l.length ->
  At (Sd N) 0 (Za Gc (Zf (Yi (l.map Zt)))) Gh 0 27 [(1,.pv (.fn 27)),(5,.row 0 l.length 0 l.length),(11,.pv (enc l)),(12,.pv (.int .i64 l.length)),(13,.pv (.int .i64 i))] [.obj (.row false 9 1 ((Dq (l.map Zt) i).map enc))]:=by
 intro d
 induction d with
 | zero=>
  intro i hi
  have j:i=l.length:=by omega
  subst j
  have e:Dq (l.map Zt) l.length=l.map Zt:=by have:=T9 (l.map Zt);rw[List.length_map]at this;exact this
  rw[e]
  have b:=Ap (m:=l.map Zt)
  rw[List.length_map]at b
  refine b6a N l _ _ (ZU (Yv (by omega)) ⟨by simp,?_⟩)
  rw[b]
  exact⟨Zc (l.map Zt,()) rfl k,Zb (l.map Zt,()) rfl (Zg rfl)⟩
 | succ d ih=>
  intro i hi
  have a:i<l.length:=by omega
  have g:=q.kid (List.getElem_mem a)
  have ho:(Dq (l.map Zt) i).length=l.length:=by rw[TK _ _ (by rw[List.length_map];omega),List.length_map]
  refine b6a N l _ _ (ZT (Yq a) ⟨Zp a rfl,ZB a ⟨Xz _,Zc (l[i],()) (Yd _) (Vf g.1 g.2.1 g.2.2),Zb (l[i],()) (Yd _) ⟨Ox a ho,EL a ho,?_⟩⟩⟩)
  have e:(Dq (l.map Zt) i).set i (Zt l[i])=Dq (l.map Zt) (i+1):=by
   have:=TQ (m:=l.map Zt) (i:=i) (by rw[List.length_map];exact a)
   rw[List.getElem_map]at this
   exact this
  have b:=OL (o:=Dq (l.map Zt) i) (i:=i) (by omega) (Zt l[i])
  rw[e]at b
  rw[next (by omega)]
  have h:=ih (i+1) (by omega)
  rw[<- b]at h
  exact h
theorem d0x(N:Nat): ∀ x:List Tm×FnV 27×Unit,((tsW x.1&&Ws x.1)&&decide (Yc x.1<N))=true->Zd (Sd N) 0 (Za Gc (Zf (Yi (x.1.map Zt)))) Gh [] (Zx e6y (encL x)):=by
 rintro⟨l,g,⟨⟩⟩ h
 have a:=h
 simp only[Bool.and_eq_true,decide_eq_true_eq,Um,List.all_eq_true]at a
 have b:TxP N l:=⟨of_decide_eq_true a.1.1,a.1.2,a.2⟩
 have e:l.length<=1048576:=Nat.le_trans (Bo l) b.w
 refine f9y N l ⟨by rw[List.length_map];exact b3u _ e,?_⟩
 have:=c5l N l e b b.join l.length 0 (by omega)
 rw[CP,List.map_replicate,List.length_map]at this
 rw[List.length_map,Int.toNat_natCast]
 exact this
theorem VO{α:Type}[Enc α]{l:List α}:(((List.length (List.map (enc:α->PV) l):Nat):Int)>0) ↔ l≠[]:=by
 cases l <;> simp
theorem Aq{x y:Int}{P Q:Prop}(h1:x≠y->P)(h2:x=y->Q):if (x != y)=true then P else Q:=by
 by_cases hxy:x=y
 ·rw[if_neg (by simpa using hxy)];exact h2 hxy
 ·rw[if_pos (by simpa using hxy)];exact h1 hxy
theorem Zj{a b:Nat}(h:a+b<=1099511627776):decide (a+b<=1099511627776)=true:=decide_eq_true h
theorem Zy{a b A B:Nat}(ha:a<=A)(hb:b<=B)(h:A+B<=1099511627776):decide (a+b<=1099511627776)=true:=decide_eq_true (by omega)
theorem Zv{a b:List UInt8}{A B:Nat}(ha:a.length<=A)(hb:b.length<=B):(a++b).length<=A+B:=by rw[List.length_append];omega
theorem Nh{n:Nd}{k:Nat}(h:XI n k=true):n.name.s.length<=61∧(n.num.natAbs<=64∧0<=n.num)∧n.sizes.length<=4∧n.ranks.length<=8∧n.sizes.all Zh=true∧Wd n.ranks=true:=by
 unfold XI at h
 simp only[Bool.and_eq_true,decide_eq_true_eq,Bool.or_eq_true]at h
 refine⟨(VJ h.1.1.1.1.1.1.1).2.2,⟨by omega,by omega⟩,by omega,?_,h.1.2,h.2⟩
 rcases h.1.1.1.2 with hr|hr
 ·rw[List.isEmpty_iff.1 hr];simp
 ·omega
theorem c0m(N:Nat): ∀ x:Tm×Unit,(((tW x.1&&Ya x.1)&&decide (x.1.nd.kind=6))&&decide (Yc x.1.ks<N))=true->Zd (Oi N) 0 (Za Pw (Zf (Q6 x.1))) a5p [] (Zx d0l (encL x)):=by
 rintro⟨⟨n,ks⟩,⟨⟩⟩ h
 have u:=h
 simp only[Bool.and_eq_true,decide_eq_true_eq]at u
 obtain⟨⟨⟨q,i⟩,k⟩,hd⟩:=u
 have k:n.kind=6:=k
 have q:tW (.mk n ks)=true:=q
 have i:=Qy i
 have m:UI ks<=1048576:=by have h1:J8 (.mk n ks)<=1048576:=of_decide_eq_true q;rw[J8]at h1;omega
 have a:TxP N ks:=⟨m,i.2,hd⟩
 have hc:XI n ks.length=true:=by
  have h1:=i.1
  unfold WC YJ at h1
  rw[k]at h1
  simp at h1
  exact h1.2.2
 obtain⟨c1,c2,c3,c4,z,r⟩:=Nh hc
 have D:=a.com
 rw[<- VZ]at D
 have l0:(Yi (n.sizes.map Yu)).s.length<=4008:=by
  rw[KD]
  have h1:=YU (n.sizes.map ZE)
  rw[List.map_map]at h1
  have h2:=QW (f:=(fun s:List UInt8=>s.length+2) ∘ ZE) (c:=1002) (l:=n.sizes) fun x _=>by
   have:=Wt x
   show(ZE x).length+2<=_
   omega
  omega
 have l1:(Zq n.num).s.length<=21:=QP (by omega)
 have l2:(Yi (n.ranks.map Zq)).s.length<=184:=by
  rw[d5j]
  have h1:=YU (n.ranks.map Kl)
  rw[List.map_map]at h1
  have h2:=QW (f:=(fun s:List UInt8=>s.length+2) ∘ Kl) (c:=23) (l:=n.ranks) fun x A=>by
   have C:=List.all_eq_true.1 r x A
   simp only[Bool.and_eq_true,decide_eq_true_eq]at C
   have:=QP (n:=x) (by omega)
   show(Kl x).length+2<=_
   omega
  omega
 have e:=KD n.sizes
 have g:=d5j n.ranks
 have b:=VZ ks
 have fin : ∀ s,s=Ui n (ks.map ZN)->Zf (Q6 (.mk n ks)) (.str s):=fun s hs=>Zg (x:=(⟨s⟩:Str)) (by rw[hs];rfl)
 have B:(fun x:List Lin×FnV 58×Unit=>decide (x.1.length<=1048576)&&x.1.all Zh) (n.sizes,{},())=true:=by show(decide (n.sizes.length<=1048576)&&n.sizes.all Zh)=true;rw[z,decide_eq_true (by omega)];rfl
 have y:(fun x:Int×Unit=>decide (-9223372036854775808<=x.1)&&decide (x.1<=9223372036854775807)) (n.num,())=true:=by show(decide _&&decide _)=true;rw[decide_eq_true (by omega),decide_eq_true (by omega)];rfl
 have j:(fun x:List Int×FnV 87×Unit=>decide (x.1.length<=1048576)&&Wd x.1) (n.ranks,{},())=true:=by show(decide (n.ranks.length<=1048576)&&Wd n.ranks)=true;rw[r,decide_eq_true (by omega)];rfl
 rw[<- ZP]
 show Zd (Oi N) 0 (Za Pw (Zf (Q6 (.mk n ks)))) _ _ _
 have s0:(Yi (List.map Yu ((n.sizes,({}:FnV 58),()):List Lin×FnV 58×Unit).1)).s=(Yi (n.sizes.map Yu)).s:=rfl
 refine e6o N n ks (ZO (fun hs=> ?_) fun hs=> ?_)
 ·rw[VO]at hs
  refine⟨Zc (n.sizes,{},()) rfl B,Zb (n.sizes,{},()) rfl ⟨(Zj (by simp only[List.length_append,List.length_cons,List.length_nil];omega)),(Zj (by simp only[List.length_append,List.length_cons,List.length_nil];omega)),(Zj (by simp only[List.length_append,List.length_cons,List.length_nil];omega)),?_⟩⟩
  refine Aq (fun hm=> ?_) fun hm=> ?_
  ·refine⟨Zc (n.num,()) rfl y,Zb (n.num,()) rfl ⟨(Zj (by simp only[List.length_append,List.length_cons,List.length_nil];omega)),(Zj (by simp only[List.length_append,List.length_cons,List.length_nil];omega)),(Zj (by simp only[List.length_append,List.length_cons,List.length_nil];omega)),?_⟩⟩
   refine ZO (fun hr=> ?_) fun hr=> ?_
   ·rw[VO]at hr
    refine⟨Zc (n.ranks,{},()) rfl j,Zb (n.ranks,{},()) rfl ⟨(Zj (by simp only[List.length_append,List.length_cons,List.length_nil];omega)),(Zj (by simp only[List.length_append,List.length_cons,List.length_nil];omega)),(Zj (by simp only[List.length_append,List.length_cons,List.length_nil];omega)),?_⟩⟩
    exact⟨(Zj (by simp only[List.length_append,List.length_cons,List.length_nil];omega)),Zc (ks,{},()) rfl a.pre,Zb (ks,{},()) rfl ⟨(Zj (by simp only[List.length_append,List.length_cons,List.length_nil];omega)),(Zj (by simp only[List.length_append,List.length_cons,List.length_nil];omega)),fin _ (by simp[Ui,e,g,b,Kl,List.append_assoc,hs,hm,hr])⟩⟩
   ·rw[VO,Classical.not_not]at hr
    exact⟨(Zj (by simp only[List.length_append,List.length_cons,List.length_nil];omega)),Zc (ks,{},()) rfl a.pre,Zb (ks,{},()) rfl ⟨(Zj (by simp only[List.length_append,List.length_cons,List.length_nil];omega)),(Zj (by simp only[List.length_append,List.length_cons,List.length_nil];omega)),fin _ (by simp[Ui,e,g,b,Kl,List.append_assoc,hs,hm,hr])⟩⟩
  ·refine ZO (fun hr=> ?_) fun hr=> ?_
   ·rw[VO]at hr
    refine⟨Zc (n.ranks,{},()) rfl j,Zb (n.ranks,{},()) rfl ⟨(Zj (by simp only[List.length_append,List.length_cons,List.length_nil];omega)),(Zj (by simp only[List.length_append,List.length_cons,List.length_nil];omega)),(Zj (by simp only[List.length_append,List.length_cons,List.length_nil];omega)),?_⟩⟩
    exact⟨(Zj (by simp only[List.length_append,List.length_cons,List.length_nil];omega)),Zc (ks,{},()) rfl a.pre,Zb (ks,{},()) rfl ⟨(Zj (by simp only[List.length_append,List.length_cons,List.length_nil];omega)),(Zj (by simp only[List.length_append,List.length_cons,List.length_nil];omega)),fin _ (by simp[Ui,e,g,b,Kl,List.append_assoc,hs,hm,hr])⟩⟩
   ·rw[VO,Classical.not_not]at hr
    exact⟨(Zj (by simp only[List.length_append,List.length_cons,List.length_nil];omega)),Zc (ks,{},()) rfl a.pre,Zb (ks,{},()) rfl ⟨(Zj (by simp only[List.length_append,List.length_cons,List.length_nil];omega)),(Zj (by simp only[List.length_append,List.length_cons,List.length_nil];omega)),fin _ (by simp[Ui,e,g,b,Kl,List.append_assoc,hs,hm,hr])⟩⟩
 ·rw[VO,Classical.not_not]at hs
  refine Aq (fun hm=> ?_) fun hm=> ?_
  ·refine⟨Zc (n.num,()) rfl y,Zb (n.num,()) rfl ⟨(Zj (by simp only[List.length_append,List.length_cons,List.length_nil];omega)),(Zj (by simp only[List.length_append,List.length_cons,List.length_nil];omega)),(Zj (by simp only[List.length_append,List.length_cons,List.length_nil];omega)),?_⟩⟩
   refine ZO (fun hr=> ?_) fun hr=> ?_
   ·rw[VO]at hr
    refine⟨Zc (n.ranks,{},()) rfl j,Zb (n.ranks,{},()) rfl ⟨(Zj (by simp only[List.length_append,List.length_cons,List.length_nil];omega)),(Zj (by simp only[List.length_append,List.length_cons,List.length_nil];omega)),(Zj (by simp only[List.length_append,List.length_cons,List.length_nil];omega)),?_⟩⟩
    exact⟨(Zj (by simp only[List.length_append,List.length_cons,List.length_nil];omega)),Zc (ks,{},()) rfl a.pre,Zb (ks,{},()) rfl ⟨(Zj (by simp only[List.length_append,List.length_cons,List.length_nil];omega)),(Zj (by simp only[List.length_append,List.length_cons,List.length_nil];omega)),fin _ (by simp[Ui,e,g,b,Kl,List.append_assoc,hs,hm,hr])⟩⟩
   ·rw[VO,Classical.not_not]at hr
    exact⟨(Zj (by simp only[List.length_append,List.length_cons,List.length_nil];omega)),Zc (ks,{},()) rfl a.pre,Zb (ks,{},()) rfl ⟨(Zj (by simp only[List.length_append,List.length_cons,List.length_nil];omega)),(Zj (by simp only[List.length_append,List.length_cons,List.length_nil];omega)),fin _ (by simp[Ui,e,g,b,Kl,List.append_assoc,hs,hm,hr])⟩⟩
  ·refine ZO (fun hr=> ?_) fun hr=> ?_
   ·rw[VO]at hr
    refine⟨Zc (n.ranks,{},()) rfl j,Zb (n.ranks,{},()) rfl ⟨(Zj (by simp only[List.length_append,List.length_cons,List.length_nil];omega)),(Zj (by simp only[List.length_append,List.length_cons,List.length_nil];omega)),(Zj (by simp only[List.length_append,List.length_cons,List.length_nil];omega)),?_⟩⟩
    exact⟨(Zj (by simp only[List.length_append,List.length_cons,List.length_nil];omega)),Zc (ks,{},()) rfl a.pre,Zb (ks,{},()) rfl ⟨(Zj (by simp only[List.length_append,List.length_cons,List.length_nil];omega)),(Zj (by simp only[List.length_append,List.length_cons,List.length_nil];omega)),fin _ (by simp[Ui,e,g,b,Kl,List.append_assoc,hs,hm,hr])⟩⟩
   ·rw[VO,Classical.not_not]at hr
    exact⟨(Zj (by simp only[List.length_append,List.length_cons,List.length_nil];omega)),Zc (ks,{},()) rfl a.pre,Zb (ks,{},()) rfl ⟨(Zj (by simp only[List.length_append,List.length_cons,List.length_nil];omega)),(Zj (by simp only[List.length_append,List.length_cons,List.length_nil];omega)),fin _ (by simp[Ui,e,g,b,Kl,List.append_assoc,hs,hm,hr])⟩⟩
theorem d6y{xs:List AV}{t:Tm}(h:a6h xs=some t): ∃ n ks,t = .mk n ks∧xs=ZY n ks:=by
 unfold a6h at h
 split at h
 ·split at h
  ·rename_i hc
   obtain⟨⟨n,ks⟩,e⟩:=b2s hc
   rw[e,Enc.dec_enc]at h
   cases h
   rw[Yl]at e
   cases e
   exact⟨n,ks,rfl,rfl⟩
  ·cases h
 ·cases h
theorem c6u(N:Nat): ∀ args os,Xt N args os=true->Zd (a7k N) os.length (Xw os.length Oy fun r=>r=O5 args os) Ej [] (U3 f0t args os):=by
 intro args os h
 unfold Xt at h
 split at h
 ·rename_i k b xs
  unfold Rq at h
  split at h
  ·rename_i t ht
   obtain⟨n,ks,rfl,rfl⟩:=d6y ht
   simp only[Bool.and_eq_true,decide_eq_true_eq]at h
   obtain⟨⟨⟨⟨s,u⟩,hd⟩,h0⟩,m⟩:=h
   obtain⟨i,rfl⟩:=Int.eq_ofNat_of_zero_le h0
   have j:UI ks<=1048576:=by have h1:J8 (.mk n ks)<=1048576:=of_decide_eq_true s;rw[J8]at h1;omega
   have q:TxP N ks:=⟨j,(Qy u).2,hd⟩
   have a:i<ks.length:=by have m:(i:Int)<(ks.length:Int):=m;omega
   have g:=q.kid (List.getElem_mem a)
   have l:=q.len (List.getElem_mem a)
   have e : ∀ b:Bool,Xe (ZY n ks) (i:Int) b=Ue (!b) (ZN ks[i]):=fun b=>by
    rw[JG,Int.toNat_natCast]
    simp[List.getD,a]
   refine f8w N n ks (i:Int) b (YV (fun hb=> ?_) fun hb=> ?_)
   ·refine⟨Zp a rfl,ZB a ⟨Xz _,Zc (ks[i],()) (Yd _) (Vf g.1 g.2.1 g.2.2),Zb (ks[i],()) (Yd _) ?_⟩⟩
    subst hb
    show _=((AV.pv (.str (Xe (ZY n ks) (i:Int) true)),[AObj.box (ZY n ks)],[]):AV×List AObj×List AObj)
    rw[e]
    rfl
   ·refine⟨Zp a rfl,ZB a ⟨Xz _,Zc (ks[i],()) (Yd _) (Vf g.1 g.2.1 g.2.2),Zb (ks[i],()) (Yd _) ⟨Zy (show _<=8 by decide) l (by omega),Zy (Zv (show _<=8 by decide) l) (show _<=8 by decide) (by omega),?_⟩⟩⟩
    subst hb
    show _=((AV.pv (.str (Xe (ZY n ks) (i:Int) false)),[AObj.box (ZY n ks)],[]):AV×List AObj×List AObj)
    rw[e]
    rfl
  ·cases h
 ·cases h
theorem MV{n:Nd}{xs:List (Int×Bool×List UInt8)}(h:Hw n xs.length=none):Q4 n xs=(if n.kind=1 then n.name.s
  else if n.kind=2 then BO n
  else if n.kind=4 then [115,105,122,101,91]++(match n.sizes with|[]=>[]|l::_=>ZE l)++[93]
  else if n.kind=5 then [108,101,116,32]++n.name.s++[32,61,32]++(match xs with|[a,b]=>a.2.2++[32,105,110,32]++b.2.2|_=>[])
  else if n.kind=6 then Ui n (xs.map (·.2.2))
  else if n.kind=7 then [91]++Zu (xs.map (·.2.2))++[93]
  else if n.kind=8 then [102,111,108,100,40]++Zu (n.name.s::xs.map (·.2.2))++[41]
  else if n.kind=9 then [115,99,97,110,40]++Zu (n.name.s::xs.map (·.2.2))++[41]
  else BS (U1 n)):=by
 unfold Q4
 rw[h]
 rfl
theorem g4e(t:Tm):PV.asInt (List.getD (PV.cells (enc t)) 0 default)=t.nd.kind:=by obtain⟨n,ks⟩:=t;rw[Yl];rfl
theorem g1z(t:Tm):PV.asStr (List.getD (PV.cells (enc t)) (0+1+1) default)=t.nd.name.s:=by obtain⟨n,ks⟩:=t;rw[Yl];rfl
theorem g2j(t:Tm):PV.asInt (List.getD (PV.cells (enc t)) (0+1+1+1) default)=t.nd.num:=by obtain⟨n,ks⟩:=t;rw[Yl];rfl
theorem d9t{n:Nd}{k:Nat}{r:OpR}(h:Hw n k=some r):n.kind=6:=by
 unfold Hw at h
 cases a:CR n.name.s with
 | none=>simp[a]at h
 | some q=>
  simp[a]at h
  exact h.1.1
theorem b8c{n:Nd}{k:Nat}{r:OpR}(h:Hw n k=some r):TC n k=r.l:=by
 unfold TC
 rw[if_neg (by rw[d9t h];decide),h]
theorem Ca(a b:List UInt8):(a==b)=decide (a=b):=by by_cases h:a=b <;> simp[h]
theorem Ri{α:Type}{l:List α}(h:l.length=2): ∃ a b,l=[a,b]:=by
 match l,h with
 | [a,b],_=>exact⟨a,b,rfl⟩
theorem b9a{n:Nd}{r:OpR}{x y:Int×Bool×List UInt8}(h:Hw n 2=some r):Q4 n [x,y]=Ue (decide (x.1<r.l)||(decide (x.1=3)&&decide (r.l=3))) x.2.2++[32]++r.s++[32]++Ue (decide (y.1<=r.l)) y.2.2:=by
 unfold Q4
 rw[show [x,y].length=2 from rfl,h]
theorem c9e{n:Nd}{r:OpR}{x:Int×Bool×List UInt8}(h:Hw n 1=some r):Q4 n [x]=r.s++Ue (decide (x.1<6)||(decide (r.s=[45])&&x.2.1)) x.2.2:=by
 unfold Q4
 rw[show [x].length=1 from rfl,h]
theorem c2b(N:Nat): ∀ x:Tm×Unit,((tW x.1&&Ya x.1)&&decide (Z4 x.1<N+1))=true->Zd (OG N) 0 (Za Rp (Zf (Zt x.1))) a1u [] (Zx d6g (encL x)):=by
 rintro⟨⟨n,ks⟩,⟨⟩⟩ h
 simp only[Bool.and_eq_true,decide_eq_true_eq]at h
 obtain⟨⟨C,m⟩,hd⟩:=h
 have C:tW (.mk n ks)=true:=C
 have m:Ya (.mk n ks)=true:=m
 have hd:Z4 (.mk n ks)<N+1:=hd
 rw[Z4]at hd
 have hv:=Qy m
 have O:UI ks<=1048576:=by have h1:J8 (.mk n ks)<=1048576:=of_decide_eq_true C;rw[J8]at h1;omega
 have j:TxP N ks:=⟨O,hv.2,by omega⟩
 have A:=(ndB C).name
 have y:YJ n ks.length=true:=by
  have:=hv.1
  unfold WC at this
  simp only[Bool.and_eq_true]at this
  exact this.2
 have fin : ∀ s,s=Q4 n (Yy ks)->Zf (Zt (.mk n ks)) (.str s):=fun s hs=>Zg (x:=(⟨s⟩:Str)) (by rw[hs,Zt,ZN])
 rw[<- ZP]
 show Zd (OG N) 0 (Za Rp (Zf (Zt (.mk n ks)))) _ _ _
 refine e8o N n ks ⟨Zc (.mk n ks,()) (ZP n ks) C,Zb (.mk n ks,()) (ZP n ks) ⟨Zc (.mk n ks,()) (ZP n ks) C,Zb (.mk n ks,()) (ZP n ks) ?_⟩⟩
 generalize Zf (Zt (.mk n ks))=G at fin ⊢
 have eo0:Jl (.mk n ks)=Oo n ks.length:=rfl
 have el0:X8 (.mk n ks)=TC n ks.length:=rfl
 rw[show Jl ((Tm.mk n ks,()):Tm×Unit).1=Oo n ks.length from rfl,show X8 ((Tm.mk n ks,()):Tm×Unit).1=TC n ks.length from rfl]
 cases ho:Hw n ks.length with
 | some r=>
  obtain⟨hm,L⟩:=ES ho
  have hr:=(S9 ho).2
  have U:Oo n ks.length=((⟨r.s⟩,if r.u then 1 else 2):Str×Int):=by unfold Oo;rw[ho]
  rw[U,b8c ho]
  cases hu:r.u with
  | false=>
   rw[hu]at L
   match ks,L with
   | [a,b],_=>
    have K:a∈[a,b]:=by simp
    have mb:b∈[a,b]:=by simp
    have ha:=j.kid K
    have hb:=j.kid mb
    have F:=j.len K
    have T:=j.len mb
    have e : ∀ f,(Xe (ZY n [a,b]) 0 f).length<=1153433594:=fun f=>by
     rw[JG];have:=Qb (!f) (ZN a);show(Ue (!f) (ZN a)).length<=_;omega
    have E : ∀ f,(Xe (ZY n [a,b]) 1 f).length<=1153433594:=fun f=>by
     rw[JG];have:=Qb (!f) (ZN b);show(Ue (!f) (ZN b)).length<=_;omega
    have z:Rq N (ZY n [a,b]) 0=true:=Rw C m j.d (by omega) (by simp)
    have V:Rq N (ZY n [a,b]) 1=true:=Rw C m j.d (by omega) (by simp)
    have i : ∀ f g:Bool,(!f)=(decide (X8 a<r.l)||(decide (X8 a=3)&&decide (r.l=3)))->g=decide (X8 b>r.l)->Xe (ZY n [a,b]) 0 f++[32]++r.s++[32]++Xe (ZY n [a,b]) 1 g=Q4 n (Yy [a,b]):=fun f g S hg=>by
     rw[JG,JG]
     simp only[Yy]
     rw[b9a ho,S,hg]
     show Ue _ (ZN a)++[32]++r.s++[32]++Ue (!decide (X8 b>r.l)) (ZN b)=Ue _ (ZN a)++[32]++r.s++[32]++Ue (decide (X8 b<=r.l)) (ZN b)
     rw[show(!decide (X8 b>r.l))=decide (X8 b<=r.l)from by rw[<- decide_not];exact decide_eq_decide.2 (by omega)]
    refine ZT rfl ⟨rfl,a,rfl,Xz a,Zc (a,()) (Yd a) ha.1,Zb (a,()) (Yd a) ⟨rfl,b,rfl,Xz b,Zc (b,()) (Yd b) hb.1,Zb (b,()) (Yd b) (ZO (fun h1=>Aq (fun h2=> ?_) fun h2=> ?_) fun h1=> ?_)⟩⟩
    ·refine⟨z,Zy (e _) (show _<=8 by decide) (by omega),Zy (Zv (e _) (show _<=8 by decide)) hr (by omega),Zy (Zv (Zv (e _) (show _<=8 by decide)) hr) (show _<=8 by decide) (by omega),V,Zy (Zv (Zv (Zv (e _) (show _<=8 by decide)) hr) (show _<=8 by decide)) (E _) (by omega),fin _ (i _ _ ?_ rfl)⟩
     have h1:X8 a ≥ r.l:=h1
     have h2:X8 a≠3:=h2
     simp[h2];omega
    ·refine⟨z,Zy (e _) (show _<=8 by decide) (by omega),Zy (Zv (e _) (show _<=8 by decide)) hr (by omega),Zy (Zv (Zv (e _) (show _<=8 by decide)) hr) (show _<=8 by decide) (by omega),V,Zy (Zv (Zv (Zv (e _) (show _<=8 by decide)) hr) (show _<=8 by decide)) (E _) (by omega),fin _ (i _ _ ?_ rfl)⟩
     have h1:X8 a ≥ r.l:=h1
     have h2:X8 a=3:=h2
     rw[h2,decide_eq_false (show ¬ (3:Int)<r.l by omega)]
     by_cases h3:r.l=3
     ·rw[h3];rfl
     ·simp[h3]
    ·refine⟨z,Zy (e _) (show _<=8 by decide) (by omega),Zy (Zv (e _) (show _<=8 by decide)) hr (by omega),Zy (Zv (Zv (e _) (show _<=8 by decide)) hr) (show _<=8 by decide) (by omega),V,Zy (Zv (Zv (Zv (e _) (show _<=8 by decide)) hr) (show _<=8 by decide)) (E _) (by omega),fin _ (i _ _ ?_ rfl)⟩
     have h1 : ¬ X8 a ≥ r.l:=h1
     rw[decide_eq_true (show X8 a<r.l by omega)];rfl
  | true=>
   rw[hu]at L
   match ks,L with
   | [a],_=>
    have K:a∈[a]:=by simp
    have ha:=j.kid K
    have F:=j.len K
    have e : ∀ f,(Xe (ZY n [a]) 0 f).length<=1153433594:=fun f=>by
     rw[JG];have:=Qb (!f) (ZN a);show(Ue (!f) (ZN a)).length<=_;omega
    have z:Rq N (ZY n [a]) 0=true:=Rw C m j.d (by omega) (by simp)
    have i : ∀ f:Bool,(!f)=(decide (X8 a<6)||(decide (r.s=[45])&&BQ a))->r.s++Xe (ZY n [a]) 0 f=Q4 n (Yy [a]):=fun f S=>by
     rw[JG]
     simp only[Yy]
     rw[c9e ho,S]
     rfl
    have M:X8 a ≥ 6->decide (X8 a<6)=false:=fun h=>decide_eq_false (by omega)
    have D : ¬ X8 a ≥ 6->decide (X8 a<6)=true:=fun h=>decide_eq_true (by omega)
    refine ZU (by simp) (ZT rfl ⟨rfl,a,rfl,Xz a,?_⟩)
    rw[g4e,g1z,g2j]
    have nn : ¬ (a.nd.kind=2∧a.nd.name.s=Xa∧a.nd.num ≥ 0)->BQ a=false:=fun h=>by
     unfold BQ
     rw[Bool.and_eq_false_iff,Bool.and_eq_false_iff,decide_eq_false_iff_not,decide_eq_false_iff_not,decide_eq_false_iff_not]
     by_cases X:a.nd.kind=2
     ·by_cases W:a.nd.name.s=Xa
      ·exact .inr fun q3=>h ⟨X,W,q3⟩
      ·exact .inl (.inr W)
     ·exact .inl (.inl X)
    refine ZA (fun h2=>ZA (fun h3=>ZO (fun I=> ?_) fun I=> ?_) fun h3=> ?_) fun h2=> ?_
    ·have H:BQ a=true:=by unfold BQ;rw[decide_eq_true h2,decide_eq_true (show a.nd.name.s=Xa from h3),decide_eq_true I];rfl
     refine⟨Zc (a,()) (Yd a) ha.1,Zb (a,()) (Yd a) (ZO (fun k=>⟨z,Zy hr (e _) (by omega),fin _ (i _ ?_)⟩) fun k=>⟨z,Zy hr (e _) (by omega),fin _ (i _ ?_)⟩)⟩
     ·rw[M k,H];simp[Ca]
     ·rw[D k];rfl
    ·have H:=nn fun x=>I x.2.2
     refine⟨Zc (a,()) (Yd a) ha.1,Zb (a,()) (Yd a) (ZO (fun k=>⟨z,Zy hr (e _) (by omega),fin _ (i _ ?_)⟩) fun k=>⟨z,Zy hr (e _) (by omega),fin _ (i _ ?_)⟩)⟩
     ·rw[M k,H];simp
     ·rw[D k];rfl
    ·have H:=nn fun x=>h3 x.2.1
     refine⟨Zc (a,()) (Yd a) ha.1,Zb (a,()) (Yd a) (ZO (fun k=>⟨z,Zy hr (e _) (by omega),fin _ (i _ ?_)⟩) fun k=>⟨z,Zy hr (e _) (by omega),fin _ (i _ ?_)⟩)⟩
     ·rw[M k,H];simp
     ·rw[D k];rfl
    ·have H:=nn fun x=>h2 x.1
     refine⟨Zc (a,()) (Yd a) ha.1,Zb (a,()) (Yd a) (ZO (fun k=>⟨z,Zy hr (e _) (by omega),fin _ (i _ ?_)⟩) fun k=>⟨z,Zy hr (e _) (by omega),fin _ (i _ ?_)⟩)⟩
     ·rw[M k,H];simp
     ·rw[D k];rfl
 | none=>
  have U:Oo n ks.length=((⟨[]⟩,0):Str×Int):=by unfold Oo;rw[ho]
  have hn:Q4 n (Yy ks)=_:=MV (by rw[WM,List.length_map];exact ho)
  have et:(Yy ks).map (·.2.2)=ks.map ZN:=by rw[WM,List.map_map];rfl
  rw[et]at hn
  rw[hn]at fin
  rw[U]
  refine ZU (by simp) (ZU (by simp) (ZA (fun h=> ?_) fun h5=>ZA (fun h=> ?_) fun h2=>ZA (fun h=> ?_) fun h1=>ZA (fun h=> ?_) fun k=>ZA (fun h=> ?_) fun h7=>ZA (fun h=> ?_) fun h8=>ZA (fun h=> ?_) fun Z=>ZA (fun h=> ?_) fun I=> ?_))
  ·-- let
   have q:nameI n.name.s=true∧ks.length=2:=by
    have:=y
    unfold YJ at this
    simp[h]at this
    exact⟨this.1.1.1.2,this.1.2⟩
   obtain⟨a,b,rfl⟩:=Ri q.2
   ·skip
    have ha:=j.kid (show a∈[a,b] by simp)
    have hb:=j.kid (show b∈[a,b] by simp)
    have F:(Zt a).s.length<=_:=j.len (show a∈[a,b] by simp)
    have T:(Zt b).s.length<=_:=j.len (show b∈[a,b] by simp)
    refine⟨Zy (show _<=8 by decide) A (by omega),Zy (Zv (show _<=8 by decide) A) (show _<=8 by decide) (by omega),rfl,a,rfl,Xz a,Zc (a,()) (Yd a) (Vf ha.1 ha.2.1 ha.2.2),Zb (a,()) (Yd a) ⟨Zy (Zv (Zv (show _<=8 by decide) A) (show _<=8 by decide)) F (by omega),Zy (Zv (Zv (Zv (show _<=8 by decide) A) (show _<=8 by decide)) F) (show _<=8 by decide) (by omega),rfl,b,rfl,Xz b,Zc (b,()) (Yd b) (Vf hb.1 hb.2.1 hb.2.2),Zb (b,()) (Yd b) ⟨Zy (Zv (Zv (Zv (Zv (show _<=8 by decide) A) (show _<=8 by decide)) F) (show _<=8 by decide)) T (by omega),fin _ ?_⟩⟩⟩
    simp[h,Yy,Zt]
  ·-- literals
   have q:UK n=true:=by
    have:=y
    unfold YJ at this
    simp[h]at this
    exact this.1.1.2
   exact⟨Zc (.mk n ks,()) (ZP n ks) q,Zb (.mk n ks,()) (ZP n ks) (fin _ (by simp[h,a3j,Tm.nd]))⟩
  ·exact fin _ (by simp[h])
  ·refine⟨Zc (.mk n ks,()) (ZP n ks) ?_,Zb (.mk n ks,()) (ZP n ks) (fin _ (by simp[h,Q6,Tm.nd,Tm.ks]))⟩
   show(tW (.mk n ks)&&Ya (.mk n ks)&&decide (n.kind=6)&&decide (Yc ks<N))=true
   rw[C,m,decide_eq_true h,decide_eq_true j.d];rfl
  ·have hc:=j.com
   have Y:=VZ ks
   rw[<- Y]at hc
   refine⟨Zc (ks,{},()) rfl j.pre,Zb (ks,{},()) rfl ⟨Zy (show _<=8 by decide) hc (by omega),Zy (Zv (show _<=8 by decide) hc) (show _<=8 by decide) (by omega),fin _ ?_⟩⟩
   simp[h,Y]
  ·-- fold
   have q:Bq n.name.s=true∧ks.length=2:=by
    have:=y
    unfold YJ at this
    simp[h]at this
    exact⟨this.1.1.1.2,this.1.2⟩
   obtain⟨a,b,rfl⟩:=Ri q.2
   ·skip
    have ha:=j.kid (show a∈[a,b] by simp)
    have hb:=j.kid (show b∈[a,b] by simp)
    have F:=j.len (show a∈[a,b] by simp)
    have T:=j.len (show b∈[a,b] by simp)
    have B:(Yi [n.name,Zt a,Zt b]).s.length<=1099511620000:=Nat.le_trans (YU _) (by simp[Zt];omega)
    have Q:YP [n.name,Zt a,Zt b]=true:=by
     show(decide (3<=1048576)&&decide ((Yi [n.name,Zt a,Zt b]).s.length<=1099511627776))=true
     rw[decide_eq_true (show(Yi [n.name,Zt a,Zt b]).s.length<=1099511627776 by omega)];rfl
    refine⟨rfl,a,rfl,Xz a,Zc (a,()) (Yd a) (Vf ha.1 ha.2.1 ha.2.2),Zb (a,()) (Yd a) ⟨rfl,b,rfl,Xz b,Zc (b,()) (Yd b) (Vf hb.1 hb.2.1 hb.2.2),Zb (b,()) (Yd b) ⟨Zc ([n.name,Zt a,Zt b],()) rfl Q,Zb ([n.name,Zt a,Zt b],()) rfl ⟨Zy (show _<=8 by decide) B (by omega),Zy (Zv (show _<=8 by decide) B) (show _<=8 by decide) (by omega),fin _ ?_⟩⟩⟩⟩
    simp[h,Yi,Zt]
  ·-- scan
   have q:Bq n.name.s=true∧ks.length=1:=by
    have:=y
    unfold YJ at this
    simp[h]at this
    exact⟨this.1.1.1.2,this.1.2⟩
   obtain⟨a,rfl⟩:=List.length_eq_one_iff.1 q.2
   ·skip
    have ha:=j.kid (show a∈[a] by simp)
    have F:=j.len (show a∈[a] by simp)
    have B:(Yi [n.name,Zt a]).s.length<=1099511620000:=Nat.le_trans (YU _) (by simp[Zt];omega)
    have Q:YP [n.name,Zt a]=true:=by
     show(decide (2<=1048576)&&decide ((Yi [n.name,Zt a]).s.length<=1099511627776))=true
     rw[decide_eq_true (show(Yi [n.name,Zt a]).s.length<=1099511627776 by omega)];rfl
    refine⟨rfl,a,rfl,Xz a,Zc (a,()) (Yd a) (Vf ha.1 ha.2.1 ha.2.2),Zb (a,()) (Yd a) ⟨Zc ([n.name,Zt a],()) rfl Q,Zb ([n.name,Zt a],()) rfl ⟨Zy (show _<=8 by decide) B (by omega),Zy (Zv (show _<=8 by decide) B) (show _<=8 by decide) (by omega),fin _ ?_⟩⟩⟩
    simp[h,Yi,Zt]
  ·-- sizes
   have q:n.sizes.length=1∧n.sizes.all Zh=true:=by
    have:=y
    unfold YJ at this
    simp[h]at this
    exact⟨this.1.1.2,by rw[List.all_eq_true];exact this.1.2⟩
   obtain⟨l,hs⟩:=List.length_eq_one_iff.1 q.1
   have P:Zh l=true:=by
    have:=q.2
    rw[hs,List.all_eq_true]at this
    exact this l (by simp)
   have J:=Wt l
   refine⟨by rw[hs];rfl,l,by rw[hs];rfl,Zc (l,()) rfl (Uu P),Zb (l,()) rfl ⟨Zy (show _<=8 by decide) (show _<=1000 from J) (by omega),Zy (Zv (show _<=8 by decide) (show _<=1000 from J)) (show _<=8 by decide) (by omega),fin _ ?_⟩⟩
   simp[h,hs]
  ·have q:WE (U1 n)=true:=by
    have:=y
    unfold YJ at this
    simp[h1,h2,I,h5,k,h7,h8,Z]at this
    exact this.2.2
   refine⟨Zc (U1 n,()) rfl ?_,Zb (U1 n,()) rfl (fin _ ?_)⟩
   ·show(VH (U1 n)&&WE (U1 n))=true
    rw[Ew C,q];rfl
   ·simp[h1,h2,I,h5,k,h7,h8,Z,J7]
theorem TG{N:Nat}{n:Nd}{ks:List Tm}(h:tW (.mk n ks)=true)(hd:Yc ks<N){k:Tm}(a:k∈ks):(fun x:Tm×Unit=>tW x.1&&decide (Z4 x.1<N)) (k,())=true:=by
 show(tW k&&decide (Z4 k<N))=true
 rw[(G7 h).2 k a,decide_eq_true (Nat.lt_of_le_of_lt (Ll a) hd)];rfl
theorem RF{a b:Nat}(h:a+b<=4611686018427387904):IntKind.i64.wrap ((a:Int)+(b:Int))=((a+b:Nat):Int):=by rw[IntKind.wrap_i64];omega
theorem c2l(N:Nat)(n:Nd)(ks:List Tm)(b:tW (.mk n ks)=true)(hd:Yc ks<N): ∀ (d i:Nat),d+i=ks.length ->
  At (BZ N) 0 (Za Gu (Zf ((Z4 (.mk n ks):Nat):Int))) Gl 0 22 [(1,.ptr 0 0),(3,.pv (.int .i64 (Yc (ks.take i):Nat))),(4,.pv (.int .i64 i))] [.obj (.box (ZY n ks))]:=by
 intro d
 induction d with
 | zero=>
  intro i hi
  rw[List.take_of_length_le (by omega)]
  refine b7b N n ks _ i (ZU (XR (by omega)) (UR ?_))
  have:=a4w (.mk n ks)
  have:=BB b
  rw[Z4]at *
  exact next (by omega)
 | succ d ih=>
  intro i hi
  have a:i<ks.length:=by omega
  refine b7b N n ks _ i (ZT (Xv a) ⟨Zp a rfl,ZB a ⟨Xz _,Zc (ks[i],()) (Yd _) (TG b hd (List.getElem_mem a)),Zb (ks[i],()) (Yd _) ?_⟩⟩)
  rw[next (by have:=(G7 b).1;omega)]
  have h:=ih (i+1) (by omega)
  rw[Qv a,c1m]at h
  have e:(if true=true then if ((Z4 ks[i]:Nat):Int)>((Yc (ks.take i):Nat):Int)then((Z4 ks[i]:Nat):Int)else((Yc (ks.take i):Nat):Int)else if ((Z4 ks[i]:Nat):Int)<((Yc (ks.take i):Nat):Int)then((Z4 ks[i]:Nat):Int)else((Yc (ks.take i):Nat):Int))=((max (Yc (ks.take i)) (Z4 ks[i]):Nat):Int):=by
   rw[if_pos rfl]
   split <;> omega
  have h2:_:=h
  rw[<- e]at h2
  exact h2
theorem d0m(N:Nat): ∀ x:Tm×Unit,(tW x.1&&decide (Z4 x.1<N+1))=true->Zd (BZ N) 0 (Za Gu (Zf ((Z4 x.1:Nat):Int))) Gl [] (Zx e5c (encL x)):=by
 rintro⟨⟨n,ks⟩,⟨⟩⟩ h
 simp only[Bool.and_eq_true,decide_eq_true_eq]at h
 have hd:Z4 (.mk n ks)<N+1:=h.2
 rw[Z4]at hd
 rw[<- ZP]
 exact f4g N n ks (c2l N n ks h.1 (by omega) ks.length 0 (by omega))
theorem b1x(N:Nat)(n:Nd)(ks:List Tm)(b:tW (.mk n ks)=true)(hd:Yc ks<N): ∀ (d i:Nat),d+i=ks.length ->
  At (Gb N) 0 (Za KV (Zf ((Yb (.mk n ks):Nat):Int))) KC 0 21 [(1,.ptr 0 0),(3,.pv (.int .i64 (Z0 (ks.take i)+1:Nat))),(4,.pv (.int .i64 i))] [.obj (.box (ZY n ks))]:=by
 intro d
 induction d with
 | zero=>
  intro i hi
  rw[List.take_of_length_le (by omega)]
  exact a3x N n ks _ i (ZU (XR (by omega)) (UR (by rw[Yb])))
 | succ d ih=>
  intro i hi
  have a:i<ks.length:=by omega
  refine a3x N n ks _ i (ZT (Xv a) ⟨Zp a rfl,ZB a ⟨Xz _,Zc (ks[i],()) (Yd _) (TG b hd (List.getElem_mem a)),Zb (ks[i],()) (Yd _) ?_⟩⟩)
  have hs:=BB b
  rw[Yb]at hs
  have ht:=SQ ks (i+1)
  have h:=ih (i+1) (by omega)
  rw[Qv a,Jn]at h ht
  rw[next (by have:=(G7 b).1;omega)]
  have e:IntKind.wrap IntKind.i64 (((Z0 (ks.take i)+1:Nat):Int)+((Yb ks[i]:Nat):Int))=((Z0 (ks.take i)+Yb ks[i]+1:Nat):Int):=by rw[RF (by omega)];congr 1;omega
  have h2:_:=h
  rw[<- e]at h2
  exact h2
theorem c2w(N:Nat): ∀ x:Tm×Unit,(tW x.1&&decide (Z4 x.1<N+1))=true->Zd (Gb N) 0 (Za KV (Zf ((Yb x.1:Nat):Int))) KC [] (Zx d4j (encL x)):=by
 rintro⟨⟨n,ks⟩,⟨⟩⟩ h
 simp only[Bool.and_eq_true,decide_eq_true_eq]at h
 have hd:Z4 (.mk n ks)<N+1:=h.2
 rw[Z4]at hd
 rw[<- ZP]
 exact f0w N n ks (b1x N n ks h.1 (by omega) ks.length 0 (by omega))
def QZ(n:Nd)(ks:List Tm)(i:Nat):List Tm:=.mk n ks::(ks.take i).flatMap Xb
theorem e0o(n:Nd)(ks:List Tm)(i:Nat):(QZ n ks i).length=Z0 (ks.take i)+1:=by unfold QZ;rw[List.length_cons,F4]
theorem b9t(N:Nat)(n:Nd)(ks:List Tm)(b:tW (.mk n ks)=true)(hd:Yc ks<N): ∀ (d i:Nat),d+i=ks.length ->
  At (Sy N) 0 (Za Gs (Zf (Xb (.mk n ks)))) GR 0 23 [(1,.ptr 0 0),(3,.row 1 (QZ n ks i).length 0 (QZ n ks i).length),(4,.pv (.int .i64 i))] [.obj (.box (ZY n ks)),.obj (.row false 29 10 ((QZ n ks i).map enc))]:=by
 intro d
 induction d with
 | zero=>
  intro i hi
  refine b3t N n ks _ i (QZ n ks i) (ZU (XR (by omega)) ⟨by simp,?_⟩)
  rw[List.drop_zero,List.take_of_length_le (by simp)]
  refine Zg (x:=QZ n ks i) ?_
  unfold QZ
  rw[List.take_of_length_le (by omega),f0n]
 | succ d ih=>
  intro i hi
  have a:i<ks.length:=by omega
  have hs:=BB b
  rw[Yb]at hs
  have ht:=SQ ks (i+1)
  rw[Qv a,Jn]at ht
  have g:(List.map (enc:Tm->PV) (Xb ks[i])).length=Yb ks[i]:=by rw[List.length_map,Bw]
  have hk:=e0o n ks i
  refine b3t N n ks _ i (QZ n ks i) (ZT (Xv a) ⟨Zp a rfl,ZB a ⟨Xz _,Zc (ks[i],()) (Yd _) (TG b hd (List.getElem_mem a)),Zb (ks[i],()) (Yd _) ⟨?_,?_,?_⟩⟩⟩)
  ·show((List.map (enc:Tm->PV) (Xb ks[i])).isEmpty||Enc.sz Tm==10)=true
   rw[show(Enc.sz Tm==10)=true from rfl,Bool.or_true]
  ·show(List.length (List.map (enc:Tm->PV) (QZ n ks i))==(QZ n ks i).length&&(QZ n ks i).length==(QZ n ks i).length&&decide (((QZ n ks i).length+(List.map (enc:Tm->PV) (Xb ks[i])).length)*176<=1099511627776)&&decide ((QZ n ks i).length+(List.map (enc:Tm->PV) (Xb ks[i])).length<=1099511627776))=true
   rw[List.length_map,g,decide_eq_true (by omega),decide_eq_true (by omega)];simp
  ·rw[next (by have:=(G7 b).1;omega)]
   have h:=ih (i+1) (by omega)
   have e:QZ n ks (i+1)=QZ n ks i++Xb ks[i]:=by unfold QZ;rw[Qv a,List.flatMap_append,List.flatMap_cons,List.flatMap_nil,List.append_nil];rfl
   rw[e,List.map_append,List.length_append,<- show(List.map (enc:Tm->PV) (Xb ks[i])).length=(Xb ks[i]).length from List.length_map _]at h
   exact h
theorem c5w(N:Nat): ∀ x:Tm×Unit,(tW x.1&&decide (Z4 x.1<N+1))=true->Zd (Sy N) 0 (Za Gs (Zf (Xb x.1))) GR [] (Zx e3i (encL x)):=by
 rintro⟨⟨n,ks⟩,⟨⟩⟩ h
 simp only[Bool.and_eq_true,decide_eq_true_eq]at h
 have hd:Z4 (.mk n ks)<N+1:=h.2
 rw[Z4]at hd
 rw[<- ZP]
 refine f5u N n ks ?_
 have:=b9t N n ks h.1 (by omega) ks.length 0 (by omega)
 rw[show QZ n ks 0=[.mk n ks]from rfl]at this
 rw[ZP]
 exact this
theorem zs2(t:Tm):(decide (0+List.length [Sh.str]<=List.length (List.drop 2 (PV.cells (enc t))))&&Yk (List.drop 2 (PV.cells (enc t))) 0 [Sh.str])=true:=by obtain⟨n,ks⟩:=t;rw[Yl];rfl
theorem zv2(t:Tm):PV.asStr (List.getD (List.drop 2 (PV.cells (enc t))) 0 default)=t.nd.name.s:=by obtain⟨n,ks⟩:=t;rw[Yl];rfl
theorem g8f(t:Tm):(decide (0+List.length [Sh.sl 1]<=List.length (List.drop 2 (List.drop 4 (PV.cells (enc t)))))&&Yk (List.drop 2 (List.drop 4 (PV.cells (enc t)))) 0 [Sh.sl 1])=true:=by obtain⟨n,ks⟩:=t;rw[Yl];rfl
theorem g7m(t:Tm):PV.asXs (List.getD (List.drop 2 (List.drop 4 (PV.cells (enc t)))) 0 default)=t.nd.data.map enc:=by obtain⟨n,ks⟩:=t;rw[Yl];rfl
theorem g7y(t:Tm):(decide (0+List.length [Sh.sl 1]<=List.length (List.drop 1 (List.drop 4 (PV.cells (enc t)))))&&Yk (List.drop 1 (List.drop 4 (PV.cells (enc t)))) 0 [Sh.sl 1])=true:=by obtain⟨n,ks⟩:=t;rw[Yl];rfl
theorem g8b(t:Tm):PV.asXs (List.getD (List.drop 1 (List.drop 4 (PV.cells (enc t)))) 0 default)=t.nd.dims.map enc:=by obtain⟨n,ks⟩:=t;rw[Yl];rfl
theorem zs7(t:Tm):(decide (0+List.length [Sh.sl 2]<=List.length (List.drop 7 (PV.cells (enc t))))&&Yk (List.drop 7 (PV.cells (enc t))) 0 [Sh.sl 2])=true:=by obtain⟨n,ks⟩:=t;rw[Yl];rfl
theorem zv7(t:Tm):PV.asXs (List.getD (List.drop 7 (PV.cells (enc t))) 0 default)=t.nd.sizes.map enc:=by obtain⟨n,ks⟩:=t;rw[Yl];rfl
theorem zs8(t:Tm):(decide (0+List.length [Sh.sl 1]<=List.length (List.drop 8 (PV.cells (enc t))))&&Yk (List.drop 8 (PV.cells (enc t))) 0 [Sh.sl 1])=true:=by obtain⟨n,ks⟩:=t;rw[Yl];rfl
theorem zv8(t:Tm):PV.asXs (List.getD (List.drop 8 (PV.cells (enc t))) 0 default)=t.nd.ranks.map enc:=by obtain⟨n,ks⟩:=t;rw[Yl];rfl
theorem b0c(l:Lin):(decide (0+List.length [Sh.sl 2]<=List.length (List.drop 1 (PV.cells (enc l))))&&Yk (List.drop 1 (PV.cells (enc l))) 0 [Sh.sl 2])=true:=rfl
theorem NV(l:Lin):PV.asXs (List.getD (List.drop 1 (PV.cells (enc l))) 0 default)=l.t.map enc:=rfl
theorem e4g(n:Nd)(ks:List Tm)(m:Int)(o:List Tm)(G:PV->Prop){i:Nat}(a:i<o.length)(hs:o[i].nd.sizes.length<=1048576)(y:(o[i].nd.sizes.all fun l=>decide (l.t.length<=6))=false->G (.bool false))
  (s:(o[i].nd.sizes.all fun l=>decide (l.t.length<=6))=true->At U7 0 (Za Vq G) V7 0 91 [(5,.pv (enc o)),(6,.pv (.int .i64 (IntKind.i64.wrap ((i:Int)+1))))] []) : ∀ (d j:Nat),d+j=o[i].nd.sizes.length->(∀ q (k:q<o[i].nd.sizes.length),q<j->(o[i].nd.sizes[q]).t.length<=6) ->
  At U7 0 (Za Vq G) V7 1 91 [(5,.pv (enc o)),(6,.pv (.int .i64 i)),(7,.pv (.int .i64 j))] []:=by
 intro d
 induction d with
 | zero=>
  intro j u k
  refine b4k n ks m i j o ⟨Zp a rfl,ZB a ⟨zs7 _,?_⟩⟩
  rw[zv7,List.length_map]
  refine ZU (Yv (by omega)) (s ?_)
  rw[List.all_eq_true]
  intro l r
  obtain⟨q,g,rfl⟩:=List.getElem_of_mem r
  exact decide_eq_true (k q g (by omega))
 | succ d ih=>
  intro j u k
  have b:j<o[i].nd.sizes.length:=by omega
  have z:List.getD (o[i].nd.sizes.map (enc:Lin->PV)) (Int.toNat (j:Int)) default=enc o[i].nd.sizes[j]:=by rw[Int.toNat_natCast];simp[List.getD,b]
  refine b4k n ks m i j o ⟨Zp a rfl,ZB a ⟨zs7 _,?_⟩⟩
  rw[zv7]
  refine ZT (Xv b) ⟨Zp a rfl,ZB a ⟨zs7 _,?_⟩⟩
  rw[zv7,z,NV]
  refine⟨by rw[List.length_map];simp;omega,b0c _,ZO (fun h=> ?_) fun h=> ?_⟩
  ·refine y ?_
   rw[List.length_map]at h
   rw[List.all_eq_false]
   exact⟨_,List.getElem_mem b,by simp;omega⟩
  ·rw[List.length_map]at h
   rw[next (by omega)]
   refine ih (j+1) (by omega) fun q g hqj=> ?_
   by_cases e:q=j
   ·subst e;omega
   ·exact k q g (by omega)
theorem b4w{t x:Tm}(h:tW t=true)(a:x∈Xb t):tW x=true:=by
 unfold Xb at a
 obtain⟨p,b,rfl⟩:=List.mem_map.1 a
 exact CS h b
theorem Hq{t:Tm}(h : ¬ (t.nd.name.s.length<=40∧t.nd.data.length<=30∧t.nd.dims.length<=8∧t.nd.sizes.length<=6∧t.nd.ranks.length<=10)):P7 t=false:=by
 rw[Bool.eq_false_iff]
 intro k
 unfold P7 at k
 simp only[Bool.and_eq_true,decide_eq_true_eq]at k
 exact h ⟨k.1.1.1.1.1,k.1.1.1.1.2,k.1.1.1.2,k.1.1.2,k.1.2⟩
theorem d6m{t:Tm}(h1:t.nd.name.s.length<=40)(h2:t.nd.data.length<=30)(h3:t.nd.dims.length<=8)(a:t.nd.sizes.length<=6)(b:t.nd.ranks.length<=10):P7 t=t.nd.sizes.all fun l=>decide (l.t.length<=6):=by
 unfold P7
 rw[decide_eq_true h1,decide_eq_true h2,decide_eq_true h3,decide_eq_true a,decide_eq_true b];simp
theorem c4d(n:Nd)(ks:List Tm)(m:Int)(o:List Tm)(hw : ∀ x∈o,tW x=true)(hl:o.length<=1048576)(G:PV->Prop)(l:G (.bool (o.all P7))): ∀ (d i:Nat),d+i=o.length->(∀ q (j:q<o.length),q<i->P7 o[q]=true) ->
  At U7 0 (Za Vq G) V7 0 91 [(5,.pv (enc o)),(6,.pv (.int .i64 i))] []:=by
 intro d
 induction d with
 | zero=>
  intro i hi j
  have e:o.all P7=true:=by
   rw[List.all_eq_true]
   intro x s
   obtain⟨q,g,rfl⟩:=List.getElem_of_mem s
   exact j q g (by omega)
  rw[e]at l
  exact b7q n ks m i o (ZU (XR (by omega)) l)
 | succ d ih=>
  intro i hi j
  have a:i<o.length:=by omega
  have b:P7 o[i]=false->G (.bool false):=fun h=>by
   have e:o.all P7=false:=by rw[List.all_eq_false];exact⟨_,List.getElem_mem a,by rw[h];simp⟩
   rw[e]at l
   exact l
  refine b7q n ks m i o (ZT (Xv a) ⟨Zp a rfl,ZB a ⟨zs2 _,?_⟩⟩)
  rw[zv2]
  refine ZO (fun h=>b (Hq fun k=>by omega)) fun h1=>⟨Zp a rfl,ZB a ⟨g8f _,?_⟩⟩
  rw[g7m,List.length_map]
  refine ZO (fun h=>b (Hq fun k=>by omega)) fun h2=>⟨Zp a rfl,ZB a ⟨g7y _,?_⟩⟩
  rw[g8b,List.length_map]
  refine ZO (fun h=>b (Hq fun k=>by omega)) fun h3=>⟨Zp a rfl,ZB a ⟨zs7 _,?_⟩⟩
  rw[zv7,List.length_map]
  refine ZO (fun h=>b (Hq fun k=>by omega)) fun h4=>⟨Zp a rfl,ZB a ⟨zs8 _,?_⟩⟩
  rw[zv8,List.length_map]
  refine ZO (fun h=>b (Hq fun k=>by omega)) fun h5=> ?_
  have r:=d6m (t:=o[i]) (by omega) (by omega) (by omega) (by omega) (by omega)
  refine e4g n ks m o G a (by omega) (fun h=>b (by rw[r];exact h)) (fun h=> ?_) o[i].nd.sizes.length 0 (by omega) fun q j g=>by omega
  rw[next (by omega)]
  refine ih (i+1) (by omega) fun q g hqi=> ?_
  by_cases e:q=i
  ·subst e;rw[r];exact h
  ·exact j q g (by omega)
theorem c8f: ∀ x:Tm×Int×Unit,tW x.1=true->Zd U7 0 (Za Vq (Zf (K5 x.1 x.2.1))) V7 [] (Zx e7q (encL x)):=by
 rintro⟨⟨n,ks⟩,m,⟨⟩⟩ h
 have h:tW (.mk n ks)=true:=h
 have a:Dc n ks++[.int .i64 m]=encL ((.mk n ks,m,()):Tm×Int×Unit):=by rw[ZP];rfl
 rw[<- a]
 show Zd U7 0 (Za Vq (Zf (K5 (.mk n ks) m))) _ _ _
 refine f6p n ks m ⟨Zc (.mk n ks,()) (ZP n ks) h,Zb (.mk n ks,()) (ZP n ks) (ZO (fun h1=>Zl ?_) fun h1=>⟨Zc (.mk n ks,()) (ZP n ks) h,Zb (.mk n ks,()) (ZP n ks) (ZO (fun h2=>Zl ?_) fun h2=>⟨Zc (.mk n ks,()) (ZP n ks) h,Zb (.mk n ks,()) (ZP n ks) ?_⟩)⟩)⟩
 ·have h1:((Z4 (.mk n ks):Nat):Int)>12:=h1
  unfold K5
  rw[decide_eq_false (by omega)];rfl
 ·have h2:((Yb (.mk n ks):Nat):Int)>m:=h2
  unfold K5
  rw[decide_eq_false (show ¬ ((Yb (.mk n ks):Nat):Int)<=m by omega),Bool.and_false];rfl
 ·have h1 : ¬ ((Z4 (.mk n ks):Nat):Int)>12:=h1
  have h2 : ¬ ((Yb (.mk n ks):Nat):Int)>m:=h2
  have e:K5 (.mk n ks) m=(Xb (.mk n ks)).all P7:=by
   unfold K5
   rw[decide_eq_true (by omega),decide_eq_true (show((Yb (.mk n ks):Nat):Int)<=m by omega)];simp
  refine c4d n ks m (Xb (.mk n ks)) (fun x b=>b4w h b) (by rw[Bw];exact BB h) _ (Zl e.symm) (Xb (.mk n ks)).length 0 (by omega) fun q hq hq2=>by omega
theorem f8u: ∀ x:Str×Unit,true=true->Zd g2a 0 (Za f2h (Zf (vT x.1))) f1g [] (Zx g2c (encL x)):=by
 rintro⟨⟨s⟩,⟨⟩⟩ _
 exact g7j s ⟨by simp,by simp[vT,nd0]⟩
theorem c3t: ∀ x:Str×List Tm×Unit,true=true->Zd b3p 0 (Za a4p (Zf (cT x.1 x.2.1))) a3s [] (Zx e2n (encL x)):=by
 rintro⟨⟨s⟩,l,⟨⟩⟩ _
 refine e6b s l ⟨?_,?_⟩
 ·have:is (List Tm) (.sl 10 false (l.map enc))=true:=Enc.is_enc l
  simp[this]
 ·have h:is (List Tm) (.sl 10 false (l.map enc))=true:=Enc.is_enc l
  have h2:(dec (.sl 10 false (l.map enc)):List Tm)=l:=Enc.dec_enc l
  rw[g1f _ _ _ _ _ _ _ _ _ _ h,h2]
  simp[cT,nd0]
theorem d2w(a b:Tm):(List.all [enc a,enc b] fun(x:PV)=>List.length (PV.cells x)==10&&PV.cellsOk x)=true:=by
 obtain⟨n,ks⟩:=a
 obtain⟨m,ls⟩:=b
 rw[Yl,Yl];rfl
theorem a8w: ∀ x:Unit,true=true->Zd a5c 0 (Za Ls (Zf true)) Fs [] (Zx c5o (encL x)):=by
 rintro⟨⟩ _
 refine e0p (Zb ((⟨[97]⟩:Str),()) rfl (Zb ((⟨[98]⟩:Str),()) rfl ⟨cT ⟨[110,101,103]⟩ [nT 5],by kernel_rfl,d2w _ _,Zc ((⟨[115,117,98]⟩:Str),[vT ⟨[98]⟩,cT ⟨[110,101,103]⟩ [nT 5]],()) rfl rfl,Zb ((⟨[115,117,98]⟩:Str),[vT ⟨[98]⟩,cT ⟨[110,101,103]⟩ [nT 5]],()) rfl ⟨d2w _ _,Zc ((⟨[115,117,98]⟩:Str),[vT ⟨[97]⟩,cT ⟨[115,117,98]⟩ [vT ⟨[98]⟩,cT ⟨[110,101,103]⟩ [nT 5]]],()) rfl rfl,Zb ((⟨[115,117,98]⟩:Str),[vT ⟨[97]⟩,cT ⟨[115,117,98]⟩ [vT ⟨[98]⟩,cT ⟨[110,101,103]⟩ [nT 5]]],()) rfl ⟨Zc (ex1,()) rfl g5a,Zb (ex1,()) rfl ?_⟩⟩⟩))
 rw[show K7 ((ex1,()):Tm×Unit).1=(⟨tx1⟩,0)from d6a]
 refine Zb ((⟨[97]⟩:Str),()) rfl (Zb ((⟨[98]⟩:Str),()) rfl ⟨d2w _ _,Zc ((⟨[97,100,100]⟩:Str),[vT ⟨[97]⟩,vT ⟨[98]⟩],()) rfl rfl,Zb ((⟨[97,100,100]⟩:Str),[vT ⟨[97]⟩,vT ⟨[98]⟩],()) rfl ⟨by kernel_rfl,by kernel_rfl,ex2,by kernel_rfl,Zc (ex2,()) rfl g5i,Zb (ex2,()) rfl ?_⟩⟩)
 rw[show K7 ((ex2,()):Tm×Unit).1=(⟨tx2⟩,0)from d6c]
 exact ZT rfl (ZT rfl (ZT rfl (Zl rfl)))
end Go.Pl
namespace Go.Pl
open Go.RowKit
open Enc (enc dec is)
open EncL (encL decL isL)
set_option maxRecDepth 100000
noncomputable def b2j:IC:=YI Proofs.Tryz.f84
def a8t:List IRes:=[(.tmp 2)]
abbrev f4h:Nat:=4
def c7m:ZC:=Yh []
theorem g1u{G:AV×List AObj×List AObj->Prop}(es:List (PV×PV))(h:G (((.fn 124 [] [(.ptr 1 0)]),([(.map es)],[(.box [(.map 0)])])))):Zd c7m 1 (Xw 1 a8t G) b2j [] (U3 4 [.map 0] [.map es]):=Zd.to (.nil) h
noncomputable def RZ:IC:=icx NR Proofs.Tryz.f51
def SA:List IRes:=[(.tmp 2)]
abbrev f5i:Nat:=36
def Bd:ZC:=Yh [(81,.own VN (Q7 116)),(84,.own GA (CJ 124)),(83,.own (Km 124) Js)]
theorem g4n{G:PV->Prop}(E:Vr)(n:Nd)(ks:List Tm)(h:(VN [(.pv (.agg [(.int .i64 (Nd.kind n)),(.int .i64 (Nd.line n)),(.str (Str.s (Nd.name n))),(.int .i64 (Nd.num n)),(.str (Str.s (Nd.elem n))),(.sl 1 false (List.map enc (Nd.dims n))),(.sl 1 false (List.map enc (Nd.data n))),(.sl 2 false (List.map enc (Nd.sizes n))),(.sl 1 false (List.map enc (Nd.ranks n))),(.sl 10 false (List.map enc ks))]))] [])=true∧(E 0 ⟨Xm 36 0 [(3,(.ptr 0 0)),(4,.undef),(6,.undef),(8,.undef),(11,(.fn 116 [] [(.ptr 1 0)])),(12,.undef),(14,.undef),(15,.undef),(16,.undef),(17,.undef),(18,.undef),(19,.undef),(20,.undef),(21,.undef),(22,.undef),(23,.undef),(24,.undef),(25,.undef),(26,.undef),(27,.undef),(28,.undef),(29,.undef),(30,.undef),(31,.undef),(32,.undef)],[(.obj (.box [(.map 2)])),(.obj (.box [(.pv (.int .i64 (Nd.kind n))),(.pv (.int .i64 (Nd.line n))),(.pv (.str (Str.s (Nd.name n)))),(.pv (.int .i64 (Nd.num n))),(.pv (.str (Str.s (Nd.elem n)))),(.pv (.sl 1 false (List.map enc (Nd.dims n)))),(.pv (.sl 1 false (List.map enc (Nd.data n)))),(.pv (.sl 2 false (List.map enc (Nd.sizes n)))),(.pv (.sl 1 false (List.map enc (Nd.ranks n)))),(.pv (.sl 10 false (List.map enc ks)))])),(.obj (.map []))]⟩ (fun x a=>AfX Bd E 0 (Za SA G) RZ 0 x a))):Y9 Bd E 0 (Za SA G) (.inl RZ) [] (Zx 36 [.agg [enc n.kind,enc n.line,enc n.name,enc n.num,enc n.elem,enc n.dims,enc n.data,enc n.sizes,enc n.ranks,enc ks]]):=Y9.mp (.req (.keep (.nil))) h
theorem f6x{G:PV->Prop}(E:Vr)(n:Nd)(ks:List Tm)(m:List Str)(h:(Km 124 [(.fn 124 [] [(.ptr 0 0)])] [(.box [(.map 1)]),(.map (Hm m))])=true∧(G ((.sl 1 false (List.map PV.str (Vd (List.map JK (Hm m)))))))):AfX Bd E 0 (Za SA G) RZ 0 .normal ⟨Xm 36 0 [(3,.ptr 0 0)],[.obj (.box [.map 1]),.obj (.map (Hm m))]⟩:=Y9.mp (.lit (.keep (.req (.keep (.nil))))) h
def RY:IC:=(.reg [Z6 4 (.alloc (.agg [(.int .i64 0),(.int .i64 0),(.str []),(.int .i64 0),(.str []),(.sl 0 true []),(.sl 0 true []),(.sl 0 true []),(.sl 0 true []),(.sl 0 true [])])) 0,o'' (.store 10 (.t 4) (.t 12)) 1] none)
def f2u:ZC:=Yh [(81,.own VN (Q7 116)),(84,.own GA (CJ 124)),(83,.own (Km 124) Js)]
theorem f8q{G:ZF->Prop}(E:Vr)(n:Nd)(ks:List Tm)(m:List Str)(v:Int)(h:E 99 ⟨Xm 36 0 [(3,(.ptr 0 0)),(4,(.ptr 2 0))],[(.obj (.box [(.map 1)])),(.obj (.map (Hm m))),(.obj (.box [(.pv (.int .i64 (Nd.kind n))),(.pv (.int .i64 (Nd.line n))),(.pv (.str (Str.s (Nd.name n)))),(.pv (.int .i64 (Nd.num n))),(.pv (.str (Str.s (Nd.elem n)))),(.pv (.sl 1 false (List.map enc (Nd.dims n)))),(.pv (.sl 1 false (List.map enc (Nd.data n)))),(.pv (.sl 2 false (List.map enc (Nd.sizes n)))),(.pv (.sl 1 false (List.map enc (Nd.ranks n)))),(.pv (.sl 10 false (List.map enc ks)))]))]⟩ (fun x a=>AfX f2u E 2 (fun st=>G st.heap) RY 99 x a)):Y9 f2u E 2 (fun st=>G st.heap) (.inl RY) [.seq (.ext 99 [3,4])] ⟨Xm 36 0 [(3,.ptr 0 0),(12,.pv (.agg [enc n.kind,enc n.line,enc n.name,enc n.num,enc n.elem,enc n.dims,enc n.data,enc n.sizes,enc n.ranks,enc ks])),(13,.pv (.int .i64 v))],[.obj (.box [.map 1]),.obj (.map (Hm m))]⟩:=Y9.mh (.nil) h
def Vs:IC:=(.block 1 (Ug [Z6 14 (.faddr 7 (.t 4)) 0,Z6 15 (l'' [(.sl 2)] (.t 14)) 0,Z6 16 (.len 1 (.t 15)) 0,Z6 17 (.mv (W9 0)) 0] (.block 2 (.loop [17,16,15,3] (Ug [Z6 18 (Cn .lss (.t 17) (.t 16)) 0] (.seq (.cond (.t 18) .skip (.exit 2)) (.seq (.block 3 (Ug [Z6 19 (.iaddr 2 (.t 15) (.t 17)) 0,Z6 20 (.load true [(.int .i64),(.sl 2)] (.t 19)) 0,Z6 6 (.alloc (.agg [(.int .i64 0),(.sl 0 true [])])) 0,o'' (.store 2 (.t 6) (.t 20)) 1] (Ug [Z6 21 (.faddr 1 (.t 6)) 0,Z6 22 (l'' [(.sl 2)] (.t 21)) 0,Z6 23 (.len 1 (.t 22)) 0,Z6 24 (.mv (W9 0)) 0] (.block 4 (.loop [24,23,22,3,17,16,15] (Ug [Z6 25 (Cn .lss (.t 24) (.t 23)) 0] (.seq (.cond (.t 25) .skip (.exit 4)) (.seq (.block 5 (Ug [Z6 26 (.iaddr 2 (.t 22) (.t 24)) 0,Z6 27 (.load true [.str,(.int .i64)] (.t 26)) 0,Z6 8 (.alloc (.agg [(.str []),(.int .i64 0)])) 0,o'' (.store 2 (.t 8) (.t 27)) 1] (.reg [Z6 28 (.load false [.any] (.t 3)) 0,Z6 29 (.faddr 0 (.t 8)) 0,Z6 30 (.load false [.str] (.t 29)) 0,o'' (.mapupd true (.t 28) (.t 30) (.c (.bool true))) 0] none))) (.reg [Z6 31 (Cn .add (.t 24) (W9 1)) 0,Z6 24 (VG 31) 0] none))))))))) (.reg [Z6 32 (Cn .add (.t 17) (W9 1)) 0,Z6 17 (VG 32) 0] none))))))))
def JX:ZC:=Yh [(81,.own VN (Q7 116)),(84,.own GA (CJ 124)),(83,.own (Km 124) Js)]
theorem d2d{G:ZF->Prop}(E:Vr)(n:Nd)(ks:List Tm)(m:List Str)(i:Int)(h:if (decide (i<(↑(List.length (Nd.sizes n)):Int)))=true then(Y1 (Nd.sizes n) i 2 fun a=>(AtS [.seq (.ext 99 [])] JX E 3 (fun st=>G st.heap) Vs 1 36 [(3,(.ptr 0 0)),(15,(.pv (.sl 2 false (List.map enc (Nd.sizes n))))),(16,(.pv (.int .i64 (↑(List.length (Nd.sizes n)):Int)))),(17,(.pv (.int .i64 i))),(22,(.pv (.sl 2 false (PV.asXs (Tv a))))),(23,(.pv (.int .i64 (↑(List.length (PV.asXs (Tv a))):Int)))),(24,(.pv (.int .i64 0)))] [(.obj (.box [(.map 1)])),(.obj (.map (Hm m))),(.obj (.box [(.pv (.int .i64 (Nd.kind n))),(.pv (.int .i64 (Nd.line n))),(.pv (.str (Str.s (Nd.name n)))),(.pv (.int .i64 (Nd.num n))),(.pv (.str (Str.s (Nd.elem n)))),(.pv (.sl 1 false (List.map enc (Nd.dims n)))),(.pv (.sl 1 false (List.map enc (Nd.data n)))),(.pv (.sl 2 false (List.map enc (Nd.sizes n)))),(.pv (.sl 1 false (List.map enc (Nd.ranks n)))),(.pv (.sl 10 false (List.map enc ks)))]))]))else(E 99 ⟨Xm 36 0 [],[(.obj (.box [(.map 1)])),(.obj (.map (Hm m))),(.obj (.box [(.pv (.int .i64 (Nd.kind n))),(.pv (.int .i64 (Nd.line n))),(.pv (.str (Str.s (Nd.name n)))),(.pv (.int .i64 (Nd.num n))),(.pv (.str (Str.s (Nd.elem n)))),(.pv (.sl 1 false (List.map enc (Nd.dims n)))),(.pv (.sl 1 false (List.map enc (Nd.data n)))),(.pv (.sl 2 false (List.map enc (Nd.sizes n)))),(.pv (.sl 1 false (List.map enc (Nd.ranks n)))),(.pv (.sl 10 false (List.map enc ks)))]))]⟩ (fun x b=>AfX JX E 3 (fun st=>G st.heap) Vs 99 x b))):AtS [.seq (.ext 99 [])] JX E 3 (fun st=>G st.heap) Vs 0 36 [(3,.ptr 0 0),(15,.pv (enc n.sizes)),(16,.pv (.int .i64 n.sizes.length)),(17,.pv (.int .i64 i))] [.obj (.box [.map 1]),.obj (.map (Hm m)),.obj (.box [.pv (enc n.kind),.pv (enc n.line),.pv (enc n.name),.pv (enc n.num),.pv (enc n.elem),.pv (enc n.dims),.pv (enc n.data),.pv (enc n.sizes),.pv (enc n.ranks),.pv (enc ks)])]:=Y9.mh (dm [dr Lin] 11 0x25100442) h
theorem d5v{G:ZF->Prop}(E:Vr)(n:Nd)(ks:List Tm)(m:List Str)(i j:Int)(l:Lin)(h:if (decide (j<(↑(List.length l.t):Int)))=true then(Y1 l.t j 2 fun a=>((b8h (Sh.co Sh.str (Vy a)) (PV.bool true) (Hm m))=true∧(AtS [.seq (.ext 99 [])] JX E 3 (fun st=>G st.heap) Vs 1 36 [(3,(.ptr 0 0)),(15,(.pv (.sl 2 false (List.map enc (Nd.sizes n))))),(16,(.pv (.int .i64 (↑(List.length (Nd.sizes n)):Int)))),(17,(.pv (.int .i64 i))),(22,(.pv (.sl 2 false (List.map enc l.t)))),(23,(.pv (.int .i64 (↑(List.length l.t):Int)))),(24,(.pv (.int .i64 (IntKind.wrap IntKind.i64 (j+1)))))] [(.obj (.box [(.map 1)])),(.obj (.map (a8z (Sh.co Sh.str (Vy a)) (PV.bool true) (Hm m)))),(.obj (.box [(.pv (.int .i64 (Nd.kind n))),(.pv (.int .i64 (Nd.line n))),(.pv (.str (Str.s (Nd.name n)))),(.pv (.int .i64 (Nd.num n))),(.pv (.str (Str.s (Nd.elem n)))),(.pv (.sl 1 false (List.map enc (Nd.dims n)))),(.pv (.sl 1 false (List.map enc (Nd.data n)))),(.pv (.sl 2 false (List.map enc (Nd.sizes n)))),(.pv (.sl 1 false (List.map enc (Nd.ranks n)))),(.pv (.sl 10 false (List.map enc ks)))]))])))else(AtS [.seq (.ext 99 [])] JX E 3 (fun st=>G st.heap) Vs 0 36 [(3,(.ptr 0 0)),(15,(.pv (.sl 2 false (List.map enc (Nd.sizes n))))),(16,(.pv (.int .i64 (↑(List.length (Nd.sizes n)):Int)))),(17,(.pv (.int .i64 (IntKind.wrap IntKind.i64 (i+1)))))] [(.obj (.box [(.map 1)])),(.obj (.map (Hm m))),(.obj (.box [(.pv (.int .i64 (Nd.kind n))),(.pv (.int .i64 (Nd.line n))),(.pv (.str (Str.s (Nd.name n)))),(.pv (.int .i64 (Nd.num n))),(.pv (.str (Str.s (Nd.elem n)))),(.pv (.sl 1 false (List.map enc (Nd.dims n)))),(.pv (.sl 1 false (List.map enc (Nd.data n)))),(.pv (.sl 2 false (List.map enc (Nd.sizes n)))),(.pv (.sl 1 false (List.map enc (Nd.ranks n)))),(.pv (.sl 10 false (List.map enc ks)))]))])):AtS [.seq (.ext 99 [])] JX E 3 (fun st=>G st.heap) Vs 1 36 [(3,.ptr 0 0),(15,.pv (enc n.sizes)),(16,.pv (.int .i64 n.sizes.length)),(17,.pv (.int .i64 i)),(22,.pv (enc l.t)),(23,.pv (.int .i64 l.t.length)),(24,.pv (.int .i64 j))] [.obj (.box [.map 1]),.obj (.map (Hm m)),.obj (.box [.pv (enc n.kind),.pv (enc n.line),.pv (enc n.name),.pv (enc n.num),.pv (enc n.elem),.pv (enc n.dims),.pv (enc n.data),.pv (enc n.sizes),.pv (enc n.ranks),.pv (enc ks)])]:=Y9.mh (dm [dr Coef] 14 0x202125100642) h
theorem f3t{G:ZF->Prop}(E:Vr)(n:Nd)(ks:List Tm)(m:List Str)(h:AtS [.seq (.ext 99 [])] JX E 3 (fun st=>G st.heap) Vs 0 36 [(3,(.ptr 0 0)),(15,(.pv (.sl 2 false (List.map enc (Nd.sizes n))))),(16,(.pv (.int .i64 (↑(List.length (List.map enc (Nd.sizes n))):Int)))),(17,(.pv (.int .i64 0)))] [(.obj (.box [(.map 1)])),(.obj (.map (Hm m))),(.obj (.box [(.pv (.int .i64 (Nd.kind n))),(.pv (.int .i64 (Nd.line n))),(.pv (.str (Str.s (Nd.name n)))),(.pv (.int .i64 (Nd.num n))),(.pv (.str (Str.s (Nd.elem n)))),(.pv (.sl 1 false (List.map enc (Nd.dims n)))),(.pv (.sl 1 false (List.map enc (Nd.data n)))),(.pv (.sl 2 false (List.map enc (Nd.sizes n)))),(.pv (.sl 1 false (List.map enc (Nd.ranks n)))),(.pv (.sl 10 false (List.map enc ks)))]))]):Y9 JX E 3 (fun st=>G st.heap) (.inl Vs) [.seq (.ext 99 [])] ⟨Xm 36 0 [(3,.ptr 0 0),(4,.ptr 2 0)],[.obj (.box [.map 1]),.obj (.map (Hm m)),.obj (.box [.pv (enc n.kind),.pv (enc n.line),.pv (enc n.name),.pv (enc n.num),.pv (enc n.elem),.pv (enc n.dims),.pv (enc n.data),.pv (enc n.sizes),.pv (enc n.ranks),.pv (enc ks)])]⟩:=Y9.mh (.nil) h
end Go.Pl
namespace Go.Pl
open Go.RowKit
open Enc (enc dec is)
open EncL (encL decL isL)
set_option maxRecDepth 100000
abbrev g5u(ps:List PV)(k:Bool->Prop):Prop:=Ym (fun(x:Tm×Unit)=>tW (Prod.fst x)) (fun(x:Tm×Unit)=>H5 (Prod.fst x)) ps k
noncomputable def O1:IC:=YI Proofs.Tryz.f81
def ED:List IRes:=[(.tmp 2)]
abbrev f0e:Nat:=4
def b2v:ZC:=Yh []
theorem f8n{G:AV×List AObj×List AObj->Prop}(n:Nd)(ks:List Tm)(h:G (((.fn 116 [] [(.ptr 0 0)]),([],[(.box [(.pv (.int .i64 (Nd.kind n))),(.pv (.int .i64 (Nd.line n))),(.pv (.str (Str.s (Nd.name n)))),(.pv (.int .i64 (Nd.num n))),(.pv (.str (Str.s (Nd.elem n)))),(.pv (.sl 1 false (List.map enc (Nd.dims n)))),(.pv (.sl 1 false (List.map enc (Nd.data n)))),(.pv (.sl 2 false (List.map enc (Nd.sizes n)))),(.pv (.sl 1 false (List.map enc (Nd.ranks n)))),(.pv (.sl 10 false (List.map enc ks)))])])))):Zd b2v 0 (Xw 0 ED G) O1 [] (U3 4 [.pv (.agg [enc n.kind,enc n.line,enc n.name,enc n.num,enc n.elem,enc n.dims,enc n.data,enc n.sizes,enc n.ranks,enc ks])] []):=Zd.to (.nil) h
noncomputable def Sn:IC:=icx NR Proofs.Tryz.f50
def Dy:List IRes:=[(.cell false 1 2)]
abbrev f5b:Nat:=23
def Dl:ZC:=Yh [(81,.own VN (Q7 116)),(82,.pure (preT (fun x:Tm×Unit=>tW x.1)) (Zi (fun x:Tm×Unit=>H5 x.1)))]
theorem g2f{G:PV->Prop}(E:Vr)(n:Nd)(ks:List Tm)(h:(VN [(.pv (.agg [(.int .i64 (Nd.kind n)),(.int .i64 (Nd.line n)),(.str (Str.s (Nd.name n))),(.int .i64 (Nd.num n)),(.str (Str.s (Nd.elem n))),(.sl 1 false (List.map enc (Nd.dims n))),(.sl 1 false (List.map enc (Nd.data n))),(.sl 2 false (List.map enc (Nd.sizes n))),(.sl 1 false (List.map enc (Nd.ranks n))),(.sl 10 false (List.map enc ks))]))] [])=true∧(E 0 ⟨Xm 23 0 [(2,(.ptr 0 0)),(3,(.ptr 1 0)),(4,.undef),(5,.undef),(7,(.fn 116 [] [(.ptr 2 0)])),(8,.undef),(9,.undef),(10,.undef),(11,.undef),(12,.undef),(13,.undef),(14,.undef),(15,.undef),(16,.undef),(17,.undef),(18,.undef),(19,.undef),(20,.undef),(21,.undef),(22,.undef)],[(.obj (.box [(.pv (.bool false))])),(.obj (.box [(.pv (.int .i64 0))])),(.obj (.box [(.pv (.int .i64 (Nd.kind n))),(.pv (.int .i64 (Nd.line n))),(.pv (.str (Str.s (Nd.name n)))),(.pv (.int .i64 (Nd.num n))),(.pv (.str (Str.s (Nd.elem n)))),(.pv (.sl 1 false (List.map enc (Nd.dims n)))),(.pv (.sl 1 false (List.map enc (Nd.data n)))),(.pv (.sl 2 false (List.map enc (Nd.sizes n)))),(.pv (.sl 1 false (List.map enc (Nd.ranks n)))),(.pv (.sl 10 false (List.map enc ks)))]))]⟩ (fun x a=>AfX Dl E 0 (Za Dy G) Sn 0 x a))):Y9 Dl E 0 (Za Dy G) (.inl Sn) [] (Zx 23 [.agg [enc n.kind,enc n.line,enc n.name,enc n.num,enc n.elem,enc n.dims,enc n.data,enc n.sizes,enc n.ranks,enc ks]]):=Y9.mp (.req (.keep (.nil))) h
theorem f3m{G:PV->Prop}(E:Vr)(n:Nd)(ks:List Tm)(c:Int)(h:G ((.bool true))):AfX Dl E 0 (Za Dy G) Sn 0 .normal ⟨Xm 23 0 [(2,.ptr 0 0),(3,.ptr 1 0)],[.obj (.box [.pv (.bool false)]),.obj (.box [.pv (.int .i64 c)])]⟩:=Y9.mp (.nil) h
theorem e6x{G:PV->Prop}(E:Vr)(n:Nd)(ks:List Tm)(c:Int)(rest:List Slot)(h:G ((.bool false))):AfX Dl E 0 (Za Dy G) Sn 0 .ret ⟨Xm 23 0 [(2,.ptr 0 0),(3,.ptr 1 0)],(.obj (.box [.pv (.bool false)]):: .obj (.box [.pv (.int .i64 c)])::rest)⟩:=Y9.mp (.nil) h
def Rz:IC:=(Ug [Z6 4 (.alloc (.agg [(.int .i64 0),(.int .i64 0),(.str []),(.int .i64 0),(.str []),(.sl 0 true []),(.sl 0 true []),(.sl 0 true []),(.sl 0 true []),(.sl 0 true [])])) 0,o'' (.store 10 (.t 4) (.t 8)) 1] (.reg [Z6 5 (VG 9) 0] none))
def f2v:ZC:=Yh [(81,.own VN (Q7 116)),(82,.pure (preT (fun x:Tm×Unit=>tW x.1)) (Zi (fun x:Tm×Unit=>H5 x.1)))]
theorem g0x{G:ZF->Prop}(E:Vr)(n:Nd)(ks:List Tm)(c v:Int)(h:E 99 ⟨Xm 23 0 [(2,(.ptr 0 0)),(3,(.ptr 1 0)),(4,(.ptr 2 0)),(5,(.pv (.int .i64 v)))],[(.obj (.box [(.pv (.bool false))])),(.obj (.box [(.pv (.int .i64 c))])),(.obj (.box [(.pv (.int .i64 (Nd.kind n))),(.pv (.int .i64 (Nd.line n))),(.pv (.str (Str.s (Nd.name n)))),(.pv (.int .i64 (Nd.num n))),(.pv (.str (Str.s (Nd.elem n)))),(.pv (.sl 1 false (List.map enc (Nd.dims n)))),(.pv (.sl 1 false (List.map enc (Nd.data n)))),(.pv (.sl 2 false (List.map enc (Nd.sizes n)))),(.pv (.sl 1 false (List.map enc (Nd.ranks n)))),(.pv (.sl 10 false (List.map enc ks)))]))]⟩ (fun x a=>AfX f2v E 2 (fun st=>G st.heap) Rz 99 x a)):Y9 f2v E 2 (fun st=>G st.heap) (.inl Rz) [.seq (.ext 99 [2,3,4,5])] ⟨Xm 23 0 [(2,.ptr 0 0),(3,.ptr 1 0),(8,.pv (.agg [enc n.kind,enc n.line,enc n.name,enc n.num,enc n.elem,enc n.dims,enc n.data,enc n.sizes,enc n.ranks,enc ks])),(9,.pv (.int .i64 v))],[.obj (.box [.pv (.bool false)]),.obj (.box [.pv (.int .i64 c)])]⟩:=Y9.mh (.nil) h
def PW:IC:=(.block 1 (Ug [Z6 10 (l'' [(.int .i64)] (.t 3)) 0,Z6 11 (Cn .add (.t 10) (W9 1)) 0,o'' (.store 1 (.t 3) (.t 11)) 0] (Ug [Z6 12 (l'' [(.int .i64)] (.t 3)) 0,Z6 13 (Cn .gtr (.t 12) (W9 400)) 0,Z6 14 (VG 13) 0,r'' 15 (VG 5) 0 14,r'' 16 (Cn .gtr (.t 15) (W9 40)) 0 14,Z6 17 (.pick (.t 14) (.c (.bool true)) (.t 16)) 0,Z6 18 (VG 17) 0,r'' 19 (.load true [(.int .i64),(.int .i64),.str,(.int .i64),.str,(.sl 1),(.sl 1),(.sl 2),(.sl 1),(.sl 10)] (.t 4)) 0 18,r'' 20 (c'' 82 [(.t 19)]) 0 18,r'' 21 (.un .not (.t 20)) 2 18,Z6 22 (.pick (.t 18) (.c (.bool true)) (.t 21)) 2] (.cond (.t 22) (Ug [o'' (.store 1 (.t 2) (.c (.bool false))) 0] .ret) .skip))))
def f2c:ZC:=Yh [(81,.own VN (Q7 116)),(82,.pure (preT (fun x:Tm×Unit=>tW x.1)) (Zi (fun x:Tm×Unit=>H5 x.1)))]
theorem f3h{G:ZF->Prop}(E:Vr)(n:Nd)(ks:List Tm)(c v:Int)(h:if (decide (IntKind.wrap IntKind.i64 (c+1)>400))=true then G ([(.obj (.box [(.pv (.bool false))])),(.obj (.box [(.pv (.int .i64 (IntKind.wrap IntKind.i64 (c+1))))])),(.obj (.box [(.pv (.int .i64 (Nd.kind n))),(.pv (.int .i64 (Nd.line n))),(.pv (.str (Str.s (Nd.name n)))),(.pv (.int .i64 (Nd.num n))),(.pv (.str (Str.s (Nd.elem n)))),(.pv (.sl 1 false (List.map enc (Nd.dims n)))),(.pv (.sl 1 false (List.map enc (Nd.data n)))),(.pv (.sl 2 false (List.map enc (Nd.sizes n)))),(.pv (.sl 1 false (List.map enc (Nd.ranks n)))),(.pv (.sl 10 false (List.map enc ks)))])),.fresh,.fresh])else(if (decide (v>40))=true then G ([(.obj (.box [(.pv (.bool false))])),(.obj (.box [(.pv (.int .i64 (IntKind.wrap IntKind.i64 (c+1))))])),(.obj (.box [(.pv (.int .i64 (Nd.kind n))),(.pv (.int .i64 (Nd.line n))),(.pv (.str (Str.s (Nd.name n)))),(.pv (.int .i64 (Nd.num n))),(.pv (.str (Str.s (Nd.elem n)))),(.pv (.sl 1 false (List.map enc (Nd.dims n)))),(.pv (.sl 1 false (List.map enc (Nd.data n)))),(.pv (.sl 2 false (List.map enc (Nd.sizes n)))),(.pv (.sl 1 false (List.map enc (Nd.ranks n)))),(.pv (.sl 10 false (List.map enc ks)))])),.fresh,.fresh])else((g5u [(.agg [(.int .i64 (Nd.kind n)),(.int .i64 (Nd.line n)),(.str (Str.s (Nd.name n))),(.int .i64 (Nd.num n)),(.str (Str.s (Nd.elem n))),(.sl 1 false (List.map enc (Nd.dims n))),(.sl 1 false (List.map enc (Nd.data n))),(.sl 2 false (List.map enc (Nd.sizes n))),(.sl 1 false (List.map enc (Nd.ranks n))),(.sl 10 false (List.map enc ks))])] fun b=>(if (!b)=true then G ([(.obj (.box [(.pv (.bool false))])),(.obj (.box [(.pv (.int .i64 (IntKind.wrap IntKind.i64 (c+1))))])),(.obj (.box [(.pv (.int .i64 (Nd.kind n))),(.pv (.int .i64 (Nd.line n))),(.pv (.str (Str.s (Nd.name n)))),(.pv (.int .i64 (Nd.num n))),(.pv (.str (Str.s (Nd.elem n)))),(.pv (.sl 1 false (List.map enc (Nd.dims n)))),(.pv (.sl 1 false (List.map enc (Nd.data n)))),(.pv (.sl 2 false (List.map enc (Nd.sizes n)))),(.pv (.sl 1 false (List.map enc (Nd.ranks n)))),(.pv (.sl 10 false (List.map enc ks)))])),.fresh,.fresh])else(E 99 ⟨Xm 23 0 [],[(.obj (.box [(.pv (.bool false))])),(.obj (.box [(.pv (.int .i64 (IntKind.wrap IntKind.i64 (c+1))))])),(.obj (.box [(.pv (.int .i64 (Nd.kind n))),(.pv (.int .i64 (Nd.line n))),(.pv (.str (Str.s (Nd.name n)))),(.pv (.int .i64 (Nd.num n))),(.pv (.str (Str.s (Nd.elem n)))),(.pv (.sl 1 false (List.map enc (Nd.dims n)))),(.pv (.sl 1 false (List.map enc (Nd.data n)))),(.pv (.sl 2 false (List.map enc (Nd.sizes n)))),(.pv (.sl 1 false (List.map enc (Nd.ranks n)))),(.pv (.sl 10 false (List.map enc ks)))]))]⟩ (fun x a=>AfX f2c E 3 (fun st=>G st.heap) PW 99 x a))))))):Y9 f2c E 3 (fun st=>G st.heap) (.inl PW) [.seq (.ext 99 [])] ⟨Xm 23 0 [(2,.ptr 0 0),(3,.ptr 1 0),(4,.ptr 2 0),(5,.pv (.int .i64 v))],[.obj (.box [.pv (.bool false)]),.obj (.box [.pv (.int .i64 c)]),.obj (.box [.pv (enc n.kind),.pv (enc n.line),.pv (enc n.name),.pv (enc n.num),.pv (enc n.elem),.pv (enc n.dims),.pv (enc n.data),.pv (enc n.sizes),.pv (enc n.ranks),.pv (enc ks)])]⟩:=Y9.mh (dm [dv Bool] 38 0x142251202222005422202222222008422) h
end Go.Pl
namespace Go.Pl
open Go.RowKit
open Enc (enc dec is)
open EncL (encL decL isL)
theorem e8u{s:Str}:(s=⟨[]⟩) ↔ s.s=[]:=by cases s;simp
theorem e8w(n:Nd):Xk n 0 0=Rt n:=by
 unfold Xk Rt
 cases n.sizes <;> cases n.ranks <;> simp <;> omega
theorem e6t(k:Nat):((k:Int)=1) ↔ k=1:=by omega
theorem e7f(k:Nat):((k:Int)=2) ↔ k=2:=by omega
theorem e3o(k:Nat):((1:Int)<=(k:Int)) ↔ 1<=k:=by omega
theorem d3p(k:Nat):((k:Int)<=16) ↔ k<=16:=by omega
theorem d0h(n:Nd):Xk n 1 0=(decide (n.sizes.length<=1)&&n.sizes.all Zh&&n.ranks.isEmpty):=by
 unfold Xk
 rw[show decide ((n.sizes.length:Int)<=1)=decide (n.sizes.length<=1)from decide_eq_decide.2 (by omega),show decide ((n.ranks.length:Int)<=0)=n.ranks.isEmpty by cases n.ranks <;> simp <;> omega,Bool.and_assoc,Bool.and_assoc,Bool.and_comm n.ranks.isEmpty]
set_option maxHeartbeats 2000000 in
theorem b9r: ∀ x:Tm×Unit,tW x.1=true->Zd O7 0 (Za PX (Zf (H5 x.1))) a2m [] (Zx d4n (encL x)):=by
 rintro⟨⟨n,ks⟩,⟨⟩⟩ ht
 rw[<- YQ]
 show Zd O7 0 (Za PX (Zf (WC n ks.length))) _ _ _
 have a:decide (n.name.s.length<=1048576)=true:=decide_eq_true (ndB ht).name
 have e:VH (U1 n)=true:=Ew ht
 have leaf : ∀ b:Bool,WC n ks.length=b->Zf (WC n ks.length) (.bool b):=fun b h=>Zl h.symm
 refine e4s n ks ?_
 refine ZO (fun h1=>leaf _ ?_) fun h1=>ZO (fun h2=>leaf _ ?_) fun h2=> ?_
 ·unfold WC;rw[decide_eq_false (by omega)];rfl
 ·unfold WC;rw[decide_eq_false (show ¬ n.line<=10000 by omega)];simp
 have g:WC n ks.length=YJ n ks.length:=by
  unfold WC;rw[decide_eq_true (by omega),decide_eq_true (show n.line<=10000 by omega)];simp
 rw[g]at leaf ⊢
 repeat' (first
  | refine ZA (fun h=> ?_) (fun h=> ?_)
  | refine ZO (fun h=> ?_) (fun h=> ?_)
  | refine YV (fun h=> ?_) (fun h=> ?_)
  | refine⟨Zc (n.name,()) rfl a,Zb (n.name,()) rfl ?_⟩
  | refine⟨Zc (.mk n ks,0,0,()) (QF n ks 0 0) ht,Zb (.mk n ks,0,0,()) (QF n ks 0 0) ?_⟩
  | refine⟨Zc (.mk n ks,1,0,()) (QF n ks 1 0) ht,Zb (.mk n ks,1,0,()) (QF n ks 1 0) ?_⟩
  | refine⟨Zc (.mk n ks,()) (YQ n ks) ht,Zb (.mk n ks,()) (YQ n ks) ?_⟩
  | refine⟨Zc (U1 n,()) rfl e,Zb (U1 n,()) rfl ?_⟩
  | refine leaf _ ?_)
 all_goals clear ht a e leaf g
 all_goals (unfold YJ P8;simp_all[e8u,Tm.nd,Tm.ks,e8w,U1,e6t,e7f,e3o,d3p,d0h])
 intro g
 omega
end Go.Pl
namespace Go.Proofs.YtkpppjbhmmabeaaGreatDoor
open Go.RowKit Go.Pl
open Enc (enc dec is)
open EncL (encL decL isL)
set_option maxRecDepth 100000
def ndC(n:Nd)(ks:List Tm):List PV:=[enc n.kind,enc n.line,enc n.name,enc n.num,enc n.elem,enc n.dims,enc n.data,enc n.sizes,enc n.ranks,enc ks]
abbrev wkT:ZC:=Yh []
def eW(L:List (Nat×AV)):List AV:=Xm 28 0 L
def wk0(n:Nd)(ks:List Tm)(a:Int)(l:Nat):List (Nat×AV):=[(0,.pv (.agg (ndC n ks))),(1,.pv (.int .i64 a)),(2,.yld l)]
def wk1(n:Nd)(ks:List Tm)(a:Int)(l:Nat):List (Nat×AV):=wk0 n ks a l++[(3,.ptr 0 0),(6,.pv (.bool false))]
def wk2(n:Nd)(ks:List Tm)(a:Int)(l:Nat):List (Nat×AV):=wk1 n ks a l++[(9,.yld l),(10,.pv (.agg (ndC n ks))),(11,.pv (.int .i64 a))]
def wk3(n:Nd)(ks:List Tm)(a:Int)(l:Nat)(b:Bool):List (Nat×AV):=wk2 n ks a l++[(12,.pv (.bool b))]
def wk4(n:Nd)(ks:List Tm)(a:Int)(l:Nat)(b:Bool):List (Nat×AV):=wk3 n ks a l b++[(13,.pv (.bool (!b)))]
def wk5(n:Nd)(ks:List Tm)(a:Int)(l:Nat):List (Nat×AV):=wk4 n ks a l true++[(14,.ptr 0 9),(15,.pv (enc ks)),(16,.pv (.int .i64 (ks.map enc).length)),(17,.pv (.int .i64 0))]
def wl0(ks:List Tm)(a:Int)(l:Nat)(i:Int):List (Nat×AV):=[(17,.pv (.int .i64 i)),(16,.pv (.int .i64 (ks.map enc).length)),(15,.pv (enc ks)),(1,.pv (.int .i64 a)),(2,.yld l)]
def wl1(ks:List Tm)(a:Int)(l:Nat)(i:Int):List (Nat×AV):=wl0 ks a l i++[(18,.pv (.bool (decide (i<((ks.map enc).length:Int)))))]
def wl5(ks:List Tm)(a:Int)(l:Nat)(i:Int)(n:Nd)(b:List Tm):List (Nat×AV):=wl1 ks a l i++[(19,.pv (.rptr (ndC n b))),(20,.pv (.agg (ndC n b))),(8,.ptr 0 0)]
def wl6(ks:List Tm)(a:Int)(l:Nat)(i:Int)(n:Nd)(b:List Tm):List (Nat×AV):=wl5 ks a l i n b++[(21,.pv (.agg (ndC n b))),(22,.pv (.int .i64 a)),(23,.pv (.int .i64 (IntKind.i64.wrap (a+1)))),(24,.yld l)]
def wl7(ks:List Tm)(a:Int)(l:Nat)(i:Int)(b:Bool):List (Nat×AV):=wl0 ks a l i++[(25,.pv (.bool b))]
def wl8(ks:List Tm)(a:Int)(l:Nat)(i:Int)(b:Bool):List (Nat×AV):=wl7 ks a l i b++[(26,.pv (.bool (!b)))]
def wl9(ks:List Tm)(a:Int)(l:Nat)(i:Int):List (Nat×AV):=[(27,.pv (.int .i64 (IntKind.i64.wrap (i+1)))),(17,.pv (.int .i64 (IntKind.i64.wrap (i+1)))),(16,.pv (.int .i64 (ks.map enc).length)),(15,.pv (enc ks)),(1,.pv (.int .i64 a)),(2,.yld l)]
def bx(n:Nd)(ks:List Tm):ZF:=[.obj (.box ((ndC n ks).map .pv))]
theorem b2u{T:ZC}{base d L sz:Nat}{env:List AV}{σ:ZF}{x i:IOp}{t:Bool}{xs:List PV}{n:Nat}{k:IntKind}{p:PV}{ps:List PI}(g:ev env x = .pv (.sl sz t xs))(hi:ev env i = .pv (.int k (n:Int)))(b:xs[n]? = some p):
  K3 T base (⟨some d,.iaddr sz x i,L,none⟩::ps) ⟨env,σ⟩=K3 T base ps ⟨env.set d (.pv (.rptr p.cells)),σ⟩:=by
 have a:n<xs.length:=(List.getElem?_eq_some_iff.1 b).1
 have e:xs[n]=p:=(List.getElem?_eq_some_iff.1 b).2
 have h:(Wq T (base+L) env (.iaddr sz x i)).run σ=some (.pv (.rptr p.cells),σ):=by
  simp only[Wq,XP,g,hi]
  simp[HM.run,a,e]
 show(CU T base ⟨some d,.iaddr sz x i,L,none⟩ ⟨env,σ⟩).bind (K3 T base ps)=_
 simp only[CU,Xx,h,Option.map_some,Option.bind_some,YD]
set_option maxHeartbeats 1000000 in
theorem f3z: ∃ (A g z B s m j u q r:Array Oper) (D b1 C E:List Oper) (y c:Oper) (H I:Array TypeId),
  Tryz.f117.body=some ((Code.region 0 A false).seq (((Code.region 1 g false).seq (Code.cond (.tmp 13) ((Code.region 2 z false).seq .ret) .skip)).seq (((Code.region 3 B false).seq (Code.block 0
   (Code.loop ((Code.region 4 s false).seq ((Code.cond (.tmp 18) .skip (.exit 0)).seq ((Code.block 1 ((Code.region 5 m false).seq ((Code.region 6 j false).seq (Code.cond (.tmp 26) ((Code.region 7 u false).seq .ret) .skip)))).seq (Code.region 8 q false))))))).seq ((Code.region 9 r false).seq .ret)))) ∧
  g.toList=D++y::b1∧y.op = .call {callee:=.value (.tmp 9),args:=#[.tmp 10,.tmp 11],argTypes:=H}∧y.guard=none∧y.dst=some 12 ∧
  j.toList=C++c::E∧c.op = .call {callee:=.value (.func 117),args:=#[.tmp 21,.tmp 23,.tmp 24],argTypes:=I}∧c.guard=none∧c.dst=some 25 ∧
  (∀ n ks a l,JV Tryz.prog wkT A A.toList ⟨eW (wk0 n ks a l),[]⟩=some ⟨eW (wk1 n ks a l),bx n ks⟩) ∧
  (∀ n ks a l,JV Tryz.prog wkT g D ⟨eW (wk1 n ks a l),bx n ks⟩=some ⟨eW (wk2 n ks a l),bx n ks⟩) ∧
  (∀ n ks a l b,JV Tryz.prog wkT g b1 ⟨eW (wk3 n ks a l b),bx n ks⟩=some ⟨eW (wk4 n ks a l b),bx n ks⟩) ∧
  (∀ L,JV Tryz.prog wkT z z.toList ⟨eW L,[]⟩=some ⟨(eW L).set 6 (.pv (.bool false)),[]⟩) ∧
  (∀ n ks a l,JV Tryz.prog wkT B B.toList ⟨eW (wk4 n ks a l true),bx n ks⟩=some ⟨eW (wk5 n ks a l),bx n ks⟩) ∧
  (∀ ks a l i,JV Tryz.prog wkT s s.toList ⟨eW (wl0 ks a l i),[]⟩=some ⟨eW (wl1 ks a l i),[]⟩) ∧
  (∀ ks a l (i:Nat) n e,ks[i]? = some (.mk n e)->JV Tryz.prog wkT m m.toList ⟨eW (wl1 ks a l i),[]⟩=some ⟨eW (wl5 ks a l i n e),bx n e⟩) ∧
  (∀ ks a l i n e,JV Tryz.prog wkT j C ⟨eW (wl5 ks a l i n e),bx n e⟩=some ⟨eW (wl6 ks a l i n e),bx n e⟩) ∧
  (∀ ks a l i b,JV Tryz.prog wkT j E ⟨eW (wl7 ks a l i b),[]⟩=some ⟨eW (wl8 ks a l i b),[]⟩) ∧
  (∀ L,JV Tryz.prog wkT u u.toList ⟨eW L,[]⟩=some ⟨(eW L).set 6 (.pv (.bool false)),[]⟩) ∧
  (∀ ks a l i,JV Tryz.prog wkT q q.toList ⟨eW (wl0 ks a l i),[]⟩=some ⟨eW (wl9 ks a l i),[]⟩) ∧
  (∀ L,JV Tryz.prog wkT r r.toList ⟨eW L,[]⟩=some ⟨(eW L).set 6 (.pv (.bool true)),[]⟩):=by
 refine⟨_,_,_,_,_,_,_,_,_,_,[_,_,_],[_],[_,_,_,_],[_],_,_,_,_,rfl,rfl,rfl,rfl,rfl,rfl,rfl,rfl,rfl,?_,?_,?_,?_,?_,?_,?_,?_,?_,?_,?_,?_⟩
 ·intro n ks a l;kernel_rfl
 ·intro n ks a l;kernel_rfl
 ·intro n ks a l b;kernel_rfl
 ·intro L;kernel_rfl
 ·intro n ks a l;kernel_rfl
 ·intro ks a l i;kernel_rfl
 ·intro ks a l i n e h
  unfold JV
  refine(Option.bind_eq_some_iff).2 ⟨_,(show Xf _ _ _ _=some [⟨some 19,.iaddr 10 (.t 15) (.t 17),0,none⟩,⟨some 20,.load true [.int .i64,.int .i64,.str,.int .i64,.str,.sl 1,.sl 1,.sl 2,.sl 1,.sl 10] (.t 19),0,none⟩,⟨some 8,.alloc (.agg [.int .i64 0,.int .i64 0,.str [],.int .i64 0,.str [],.sl 0 true [],.sl 0 true [],.sl 0 true [],.sl 0 true [],.sl 0 true []]),0,none⟩,⟨none,.store 10 (.t 8) (.t 20),1,none⟩] by kernel_rfl),?_⟩
  have F:(ks.map (enc:Tm->PV))[i]? = some (.agg (ndC n e)):=by
   rw[List.getElem?_map,h,Option.map_some,Yl];rfl
  refine(b2u (t:=false) (xs:=ks.map enc) (k:=.i64) (n:=i) rfl rfl F).trans ?_
  kernel_rfl
 ·intro ks a l i n e;kernel_rfl
 ·intro ks a l i b;kernel_rfl
 ·intro L;kernel_rfl
 ·intro ks a l i;kernel_rfl
 ·intro L;kernel_rfl
def encNd(x:Tm×Int):List PV:=[enc x.1,.int .i64 x.2]
def b1o(J:Nat->Z5->(Nat->Prop)->World->Prop)(a:Z5->(Nat->Prop)->World->Prop)(k:Nat)(Φ:Z5)(X:Nat->Prop)(W:World)(e:Ending)(W':World):Prop:=
 ∃ Φ',Φ.le Φ'∧(∀ b,X b->W'.heap[b]? = W.heap[b]?)∧((e = .returned (.bool true)∧J k Φ' X W')∨(e = .returned (.bool false)∧a Φ' X W'))
theorem Jn(a b:List Tm):Z0 (a++b)=Z0 a+Z0 b:=by rw[DD,DD,DD,List.map_append,List.sum_append]
theorem a6b(l:Nat)(a b:List Tm):Z8 l (a++b)=Z8 l a++Z8 l b:=by rw[JO,JO,JO,List.flatMap_append]
theorem b1s{ks:List Tm}{k:Tm}(h:k∈ks):Yb k<=Z0 ks:=by
 induction ks with
 | nil=>cases h
 | cons a ks ih=>
  rw[Z0]
  rcases List.mem_cons.1 h with rfl|h
  ·omega
  ·have:=ih h;omega
theorem c3v(t:Tm):1<=Yb t:=by cases t;rw[Yb];omega
theorem a8q(ks:List Tm):ks.length<=Z0 ks:=by
 induction ks with
 | nil=>simp
 | cons a ks ih=>have:=c3v a;rw[Z0,List.length_cons];omega
theorem CY(n:Nd)(ks:List Tm):a9z (bx n ks):=by
 intro l o h ty sz xs e
 subst e
 match l,h with
 | 0,h=>cases h
 | l+1,h=>simp[bx]at h
theorem KG:a9z []:=by
 intro l o h
 simp at h
theorem Jz{Φ:Z5}{W:World}{a:Act}{env:List AV}(g:GlobOK Φ)(e:Vm Φ W)(b:XO (fun _ _=>none) Φ a.tmps env)(hd:a.defers=[]):Vn (entry (fun _ _=>none) Φ [] W) ⟨env,[]⟩ a W:=⟨_,Φ,JW g e,b,hd⟩
theorem Uw{μ':Mu}{Φ Φ':Z5}{a:ZF}{W W':World}{X:Nat->Prop}(g:Go.Pl.Good (entry (fun _ _=>none) Φ [] W) μ' Φ' a W')(hs:a9z a)(e : ∀ b,X b->b<W.heap.size∧Φ b=none):
  Go.Pl.Steps X X Φ Φ' W W'∧(∀ b,X b->W'.heap[b]? = W.heap[b]?):=by
 obtain⟨h1,h2,h3⟩:=Ml g hs e
 exact⟨h1.drop fun b h=>.inl h,h2⟩
theorem Jy{μ:Mu}{Φ:Z5}{a:Act}{env:List AV}{x:Operand}{y:IOp}{b:Bool}(h:XO μ Φ a.tmps env)(e:YA x=some y)(g:ev env y = .pv (.bool b)):a.eval x = .bool b:=by
 have:=Z9 h e
 rw[g]at this
 generalize a.eval x=v at this ⊢
 cases YE this
 rfl
theorem f4i{μ:Mu}{Φ:Z5}{a:Act}{env:List AV}{x:Operand}{y:IOp}{k:IntKind}{n:Int}(h:XO μ Φ a.tmps env)(b:YA x=some y)(e:ev env y = .pv (.int k n)):a.eval x = .int k n:=by
 have:=Z9 h b
 rw[e]at this
 generalize a.eval x=v at this ⊢
 cases YE this
 rfl
theorem a9h{μ:Mu}{Φ:Z5}{a:Act}{env:List AV}{x:Operand}{y:IOp}{l:Nat}(h:XO μ Φ a.tmps env)(b:YA x=some y)(e:ev env y = .yld l):a.eval x = .func (.yield l) #[] #[]:=by
 have:=Z9 h b
 rw[e]at this
 generalize a.eval x=v at this ⊢
 cases this
 rfl
theorem b8y{μ:Mu}{Φ:Z5}{a:Act}{env:List AV}{x:Operand}{y:IOp}{p:PV}(h:XO μ Φ a.tmps env)(b:YA x=some y)(e:ev env y = .pv p):RP Φ (a.eval x) p:=by
 have:=Z9 h b
 rw[e]at this
 exact YE this
theorem f7z{id:Nat}{ops:Array Oper}{b:Bool}{Q:Xh}{a:Act}{w:World}{Φ:Z5}{X:Nat->Prop}{J:Z5->(Nat->Prop)->World->Prop}(e:JOK J)(g:J Φ X w)(hd:a.defers=[])(i:a.tmps.size=28)
  (h : ∀ L,JV Tryz.prog wkT ops ops.toList ⟨eW L,[]⟩=some ⟨(eW L).set 6 (.pv (.bool b)),[]⟩)
  (l : ∀ (a':Act) w' Φ',a'.defers=[]->a'.tmps.getD 6 undef = .bool b->Φ.le Φ'->(∀ b,X b->w'.heap[b]? = w.heap[b]?)->J Φ' X w'->Q .ret a' w'):((Code.region id ops false).seq .ret).wpIn (Y4 none) 4 Tryz.prog Q a w:=by
 refine wpIn_seq (Aj Ze (h []) (Jz (e.glob g) (e.phi g) (Oj (L:=[]) (n:=28) i (fun p k=>by cases k)) hd) ?_)
 rintro a' w' ⟨μ',Φ',hg,he,hd'⟩
 refine wpIn_ret ?_
 obtain⟨m,j⟩:=Uw hg KG (fun b hb=>e.out g hb)
 exact l a' w' Φ' hd' (Jy (x:=.tmp 6) (y:=.t 6) he rfl (by cases b <;> kernel_rfl)) hg.Φle j (e.step g m)
theorem g4k{Φ:Z5}{v:Value}{n:Nd}{ks:List Tm}{a:Nat}{l:Nat}(e:RP Φ v (.agg (ndC n ks))):XO (fun _ _=>none) Φ (#[v,.int .i64 a,.func (.yield l) #[] #[]]++Array.replicate 25 undef) (eW (wk0 n ks a l)):=by
 refine Oj (by simp) ?_
 intro q b u hu
 simp only[wk0,List.mem_cons,List.not_mem_nil,or_false]at b
 rcases b with rfl|rfl|rfl
 ·simp[Array.getElem?_append]at hu
  subst hu
  exact .pv _ _ e
 ·simp[Array.getElem?_append]at hu
  subst hu
  exact .pv _ _ (.int _ _)
 ·simp[Array.getElem?_append]at hu
  subst hu
  exact .yld l
theorem a7i{μ:Mu}{Φ:Z5}{t:Array Value}{L:List (Nat×AV)}(h:XO μ Φ t (eW L)):t.size=28:=(d1z (n:=28) h).1
set_option maxHeartbeats 4000000 in
theorem e3z{l:Nat}{J:Nat->Z5->(Nat->Prop)->World->Prop}{Jx:Z5->(Nat->Prop)->World->Prop}{xs:List (Tm×Int)}(r : ∀ k,JOK (J k))(s:JOK Jx)(hY:b5g Tryz.prog l encNd xs J Jx):
  ∀ (m:Nat) (t:Tm),SizeOf.sizeOf t<m-> ∀ (g k:Nat) (Φ:Z5) (X:Nat->Prop) (W:World) (v:Value),J k Φ X W->RP Φ v (enc t)->(∀ i x,(Yg g t)[i]? = some x->xs[k+i]? = some x)->g+Yb t<=4611686018427387904 ->
   Calls Tryz.prog 117 #[v,.int .i64 g,.func (.yield l) #[] #[]] W (b1o J Jx (k+Yb t) Φ X W):=by
 intro m
 induction m with
 | zero=>intro t h;omega
 | succ m ih=>
  intro t ht g k Φ X W v P hv hx hlev
  obtain⟨n,ks⟩:=t
  obtain⟨o0,o1,o2,o3,o4,o5,o6,o7,o8,o9,a1,b1,a6,b6,y,c,t1,t2,hbody,e1,y1,y2,y3,e6,c1,c2,c3,h0,h1,h1b,h2,h3,h4,h5,h6,h6b,h7,h8,h9⟩:=f3z
  rw[Yl]at hv
  refine callsIn_wide.1 (callsIn_of_wp (F:=Fence.wide) (n:=4) Tryz.func117 hbody trivial ?_ rfl)
  have hE0:XO (fun _ _=>none) Φ (#[v,.int .i64 g,.func (.yield l) #[] #[]]++Array.replicate 25 undef) (eW (wk0 n ks g l)):=g4k hv
  have hX0 : ∀ b,X b->b<W.heap.size∧Φ b=none:=fun b hb=>(r k).out P hb
  refine wpIn_seq (Aj (nn:=4) Ze (h0 n ks g l) (Jz ((r k).glob P) ((r k).phi P) hE0 rfl) ?_)
  intro a w hr
  refine wpIn_seq (wpIn_seq (wpIn_region_list ?_))
  rw[e1]
  refine Cj Ze (fun o ho=>by rw[e1];simp[ho]) (h1 n ks g l) hr ?_
  rintro a2 w2 ⟨μ2,Φ2,hg2,he2,hd2⟩
  obtain⟨s2,k2,n2⟩:=Ml hg2 (CY n ks) hX0
  have hj2:=(r k).step P s2
  have hx0:xs[k]? = some (.mk n ks,(g:Int)):=hx 0 _ (by rw[Yg];rfl)
  have r10:RP Φ2 (a2.eval (.tmp 10)) (enc (Tm.mk n ks)):=by
   rw[Yl]
   exact b8y he2 (y:=.t 10) rfl (by kernel_rfl)
  have r11:RP Φ2 (a2.eval (.tmp 11)) (.int .i64 g):=b8y he2 (y:=.t 11) rfl (by kernel_rfl)
  have hvs:WL Φ2 (#[a2.eval (.tmp 10),a2.eval (.tmp 11)]:Array Value).toList (encNd (.mk n ks,(g:Int))):=g0j r10 (g0j r11 b7i)
  refine d9a y1 y2 y3 (a9h he2 (y:=.t 9) rfl (by kernel_rfl)) (vs:=#[a2.eval (.tmp 10),a2.eval (.tmp 11)]) (by simp) (hY 3 k _ Φ2 _ w2 _ hx0 hj2 hvs) ?_
  rintro e w3 ⟨Φ3,hle3,hkeep3,hres⟩
  -- E answers
  have E : ∀ (b:Bool) (JJ:Z5->(Nat->Prop)->World->Prop),JOK JJ->JJ Φ3 (fun b=>X b∨Ae μ2 (bx n ks) b) w3-> 
    Vn (entry μ2 Φ3 (bx n ks) w3) ⟨eW (wk3 n ks g l b),bx n ks⟩ (a2.put (some 12) (.bool b)) w3:=by
   intro b JJ hJJ hjj
   refine⟨μ2,Φ3,hg2.moved (hJJ.glob hjj) hle3 (hJJ.phi hjj) (fun q hq=>hkeep3 q (.inr hq)) (fun q hq=>(hJJ.out hjj (.inr hq)).2) (CY n ks),?_,by rw[WR];exact hd2⟩
   have:=Ji (d:=some 12) (he2.mono (.refl _) hle3) (.pv _ _ (.bool b))
   exact this
  have fin : ∀ (b:Bool) (a':Act) (w':World) (Φ':Z5),a'.defers=[]->a'.tmps.getD 6 undef = .bool b->(b1o J Jx (k+Yb (.mk n ks)) Φ X W (.returned (.bool b)) w')->bodyPost Tryz.prog Tryz.f117 (b1o J Jx (k+Yb (.mk n ks)) Φ X W) .ret a' w':=by
   intro b a' w' Φ' hd h6 K
   refine bodyPost_ret (results_tmp rfl _ _ _) hd ?_
   rw[h6]
   exact K
  rcases hres with ⟨rfl,D⟩|⟨rfl,D⟩
  ·refine⟨_,rfl,?_⟩
   rw[<- List.append_nil b1]
   refine Cj Ze (fun o ho=>by rw[e1];simp[ho]) (h1b n ks g l true) (E true _ (r _) D) ?_
   intro a4 w4 hr4
   have C:=hr4
   obtain⟨μ4,Φ4,hg4,C,hd4⟩:=C
   refine wpIn_cond (t:=false) (Jy (x:=.tmp 13) (y:=.t 13) C rfl (by kernel_rfl)) (wpIn_skip ?_)
   refine wpIn_seq (wpIn_seq (Aj (nn:=4) Ze (h3 n ks g l) hr4 ?_))
   rintro a5 w5 ⟨μ5,Φ5,hg5,he5,hd5⟩
   have hX3 : ∀ b,X b->b<w3.heap.size∧Φ3 b=none:=fun b hb=>(r _).out D (.inl hb)
   obtain⟨s5,k5⟩:=Aw hg5 (CY n ks) hX3 n2
   have hj5:=(r _).step D (s5.drop (Y:=X) fun b h=>.inl h)
   have hk5 : ∀ b,X b->w5.heap[b]? = W.heap[b]? :=fun b hb=>(k5 b hb).trans ((hkeep3 b (.inl hb)).trans (k2 b hb))
   have U:Φ.le Φ5:=hg2.Φle.trans (hle3.trans hg5.Φle)
   have V:XO (fun _ _=>none) Φ5 a5.tmps (eW (wl0 ks g l 0)):=e9a (n:=28) he5 (.refl _) (by
    intro p K
    simp only[wl0,List.mem_cons,List.not_mem_nil,or_false]at K
    rcases K with rfl|rfl|rfl|rfl|rfl <;> exact⟨by simp,rfl,rfl⟩)
   clear E hr4 hg4 C hd4 hE0 hr hg2 he2 hd2 r10 r11 hvs
   refine wpIn_block (wpIn_loop_ghost (fun(z:Nat) (a:Act) (w:World)=> ∃ (i:Nat) (Φ':Z5),z=ks.length - i∧i<=ks.length∧Φ.le Φ'∧(∀ b,X b->w.heap[b]? = W.heap[b]?)∧J (k+1+Z0 (ks.take i)) Φ' X w∧XO (fun _ _=>none) Φ' a.tmps (eW (wl0 ks g l i))∧a.defers=[]) _
    ⟨0,Φ5,rfl,Nat.zero_le _,U,hk5,hj5,V,hd5⟩ ?_)
   clear hj5 hk5 U V hd5 s5 k5 hg5 he5
   rintro z a w ⟨i,Φi,rfl,hi,hle,hk,P,he,hd⟩
   have hXi : ∀ b,X b->b<w.heap.size∧Φi b=none:=fun b hb=>(r _).out P hb
   refine wpIn_seq (Aj (nn:=4) Ze (h4 ks g l i) (Jz ((r _).glob P) ((r _).phi P) he hd) ?_)
   intro a7 w7 hr7
   have hr7':=hr7
   obtain⟨μ7,Φ7,hg7,he7,hd7⟩:=hr7'
   by_cases hlt:i<ks.length
   ·have hb:decide ((i:Int)<((ks.map (enc:Tm->PV)).length:Int))=true:=by simpa using hlt
    refine wpIn_seq (wpIn_cond (t:=true) (Jy (x:=.tmp 18) (y:=.t 18) he7 rfl (by rw[<- hb];kernel_rfl)) (wpIn_skip ?_))
    obtain⟨H,I,Q⟩ : ∃ H I,ks[i]? = some (.mk H I):=by
     cases hki:ks[i]with
     | mk H I=>exact⟨H,I,by rw[List.getElem?_eq_getElem hlt,hki]⟩
    refine wpIn_seq (wpIn_block (wpIn_seq (Aj (nn:=4) Ze (h5 ks g l i H I Q) hr7 ?_)))
    intro a8 w8 hr8
    refine wpIn_seq (wpIn_region_list ?_)
    rw[e6]
    refine Cj Ze (fun o ho=>by rw[e6];simp[ho]) (h6 ks g l i H I) hr8 ?_
    rintro a9 w9 ⟨μ9,Φ9,hg9,he9,hd9⟩
    obtain⟨s9,k9⟩:=Uw hg9 (CY H I) hXi
    have hj9:=(r _).step P s9
    have S:Tm.mk H I∈ks:=List.mem_of_getElem? Q
    have hsz:=f7e (n:=n) S
    have hdm:=b1s S
    have hdp:Yb (.mk n ks)=Z0 ks+1:=by rw[Yb]
    have hkl:=a8q ks
    have Z:ks=ks.take i++(.mk H I)::ks.drop (i+1):=by
     have h:=List.getElem?_eq_some_iff.1 Q
     obtain⟨h1,h2⟩:=h
     rw[<- h2,List.getElem_cons_drop,List.take_append_drop]
    have r21:RP Φ9 (a9.eval (.tmp 21)) (enc (Tm.mk H I)):=by
     rw[Yl]
     exact b8y he9 (y:=.t 21) rfl (by kernel_rfl)
    have e23:a9.eval (.tmp 23) = .int .i64 ((g+1:Nat):Int):=by
     have:=f4i (x:=.tmp 23) (y:=.t 23) he9 rfl (by kernel_rfl:_=AV.pv (.int .i64 (IntKind.i64.wrap ((g:Int)+1))))
     rw[this,next (by omega)]
    have e24:a9.eval (.tmp 24) = .func (.yield l) #[] #[]:=a9h he9 (y:=.t 24) rfl (by kernel_rfl)
    have hxk : ∀ j x,(Yg (g+1) (.mk H I))[j]? = some x->xs[k+1+Z0 (ks.take i)+j]? = some x:=by
     intro j x hjx
     have:(Yg g (.mk n ks))[1+Z0 (ks.take i)+j]? = some x:=by
      rw[Yg,show 1+Z0 (ks.take i)+j=(Z0 (ks.take i)+j)+1 by omega,List.getElem?_cons_succ,Z,a6b,Z8,<- Z,<- Ce (g+1) (ks.take i),
       List.getElem?_append_right (by omega),Nat.add_sub_cancel_left,List.getElem?_append_left (List.getElem?_eq_some_iff.1 hjx).1,hjx]
     have:=hx _ _ this
     rw[<- this]
     congr 1
     omega
    have hcall:=ih (.mk H I) (by omega) (g+1) (k+1+Z0 (ks.take i)) Φ9 X w9 _ hj9 r21 hxk (by omega)
    refine a4r c1 c2 c3 Tryz.func117 rfl (by kernel_rfl) (vs:=#[a9.eval (.tmp 21),.int .i64 ((g+1:Nat):Int),.func (.yield l) #[] #[]]) (by simp only[List.map_toArray,List.map_cons,List.map_nil,e23,e24]) hcall ?_
    rintro e w10 ⟨Φ10,hle10,hkeep10,hres⟩
    have hks : ∀ b,X b->w10.heap[b]? = W.heap[b]? :=fun b hb=>(hkeep10 b hb).trans ((k9 b hb).trans (hk b hb))
    have T : ∀ b,XO (fun _ _=>none) Φ10 (a9.put (some 25) (.bool b)).tmps (eW (wl7 ks g l i b)):=by
     intro b
     have h:=Ji (d:=some 25) (he9.mono (.refl _) hle10) (.pv _ _ (.bool b))
     refine e9a (n:=28) (L:=wl6 ks g l i H I++[(25,.pv (.bool b))]) h (.refl _) ?_
     intro p K
     simp only[wl7,wl0,List.mem_cons,List.mem_append,List.not_mem_nil,or_false]at K
     rcases K with (rfl|rfl|rfl|rfl|rfl)|rfl <;> exact⟨by simp,rfl,rfl⟩
    have hsz10:ks.take (i+1)=ks.take i++[.mk H I]:=by rw[List.take_add_one,Q];rfl
    rcases hres with ⟨rfl,u⟩|⟨rfl,u⟩
    ·refine⟨_,rfl,?_⟩
     rw[<- List.append_nil b6]
     refine Cj Ze (fun o ho=>by rw[e6];simp[ho]) (h6b ks g l i true) (Jz ((r _).glob u) ((r _).phi u) (T true) (by rw[WR];exact hd9)) ?_
     intro a11 w11 hr11
     obtain⟨μ11,Φ11,hg11,he11,hd11⟩:=hr11
     obtain⟨s11,k11⟩:=Uw hg11 KG (fun b hb=>(r _).out u hb)
     have A:=(r _).step u s11
     refine wpIn_cond (t:=false) (Jy (x:=.tmp 26) (y:=.t 26) he11 rfl (by kernel_rfl)) (wpIn_skip ?_)
     have he11':XO (fun _ _=>none) Φ11 a11.tmps (eW (wl0 ks g l i)):=e9a (n:=28) he11 (.refl _) (by
      intro p K
      simp only[wl0,List.mem_cons,List.not_mem_nil,or_false]at K
      rcases K with rfl|rfl|rfl|rfl|rfl <;> exact⟨by simp,rfl,rfl⟩)
     refine Aj (nn:=4) Ze (h8 ks g l i) (Jz ((r _).glob A) ((r _).phi A) he11' hd11) ?_
     rintro a12 w12 ⟨μ12,Φ12,hg12,he12,hd12⟩
     obtain⟨s12,k12⟩:=Uw hg12 KG (fun b hb=>(r _).out A hb)
     have hj12:=(r _).step A s12
     refine⟨ks.length - (i+1),by omega,i+1,Φ12,rfl,hlt,hle.trans (hg9.Φle.trans (hle10.trans (hg11.Φle.trans hg12.Φle))),fun b hb=>(k12 b hb).trans ((k11 b hb).trans (hks b hb)),?_,?_,hd12⟩
     ·rw[hsz10,Jn,Z0,Z0,Nat.add_zero,<- Nat.add_assoc]
      exact hj12
     ·refine e9a (n:=28) he12 (.refl _) ?_
      intro p K
      simp only[wl0,List.mem_cons,List.not_mem_nil,or_false]at K
      rcases K with rfl|rfl|rfl|rfl|rfl
      ·exact⟨by simp,by rw[<- next (show i<9223372036854775807 by omega)];rfl,rfl⟩
      all_goals exact⟨by simp,rfl,rfl⟩
    ·refine⟨_,rfl,?_⟩
     rw[<- List.append_nil b6]
     refine Cj Ze (fun o ho=>by rw[e6];simp[ho]) (h6b ks g l i false) (Jz (s.glob u) (s.phi u) (T false) (by rw[WR];exact hd9)) ?_
     rintro a11 w11 ⟨μ11,Φ11,hg11,he11,hd11⟩
     obtain⟨s11,k11⟩:=Uw hg11 KG (fun b hb=>s.out u hb)
     have A:=s.step u s11
     refine wpIn_cond (t:=true) (Jy (x:=.tmp 26) (y:=.t 26) he11 rfl (by kernel_rfl)) ?_
     refine f7z s A hd11 (a7i he11) h7 ?_
     intro a' w' Φ' hd' N B M O
     refine fin false a' w' Φ' hd' N ⟨Φ',?_,fun b hb=>(M b hb).trans ((k11 b hb).trans (hks b hb)),.inr ⟨rfl,O⟩⟩
     exact hle.trans (hg9.Φle.trans (hle10.trans (hg11.Φle.trans B)))
   ·have hb:decide ((i:Int)<((ks.map (enc:Tm->PV)).length:Int))=false:=by simpa using hlt
    refine wpIn_seq (wpIn_cond (t:=false) (Jy (x:=.tmp 18) (y:=.t 18) he7 rfl (by rw[<- hb];kernel_rfl)) (wpIn_exit ?_))
    obtain⟨s7,k7⟩:=Uw hg7 KG hXi
    have hj7:=(r _).step P s7
    have hii:i=ks.length:=by omega
    subst hii
    rw[List.take_length]at hj7
    show((Code.region 9 o9 false).seq .ret).wpIn _ _ _ _ _ _
    refine f7z (r _) hj7 hd7 (a7i he7) h9 ?_
    intro a' w' Φ' hd' N B M O
    refine fin true a' w' Φ' hd' N ⟨Φ',hle.trans (hg7.Φle.trans B),fun b hb=>(M b hb).trans ((k7 b hb).trans (hk b hb)),.inl ⟨rfl,?_⟩⟩
    rw[Yb,show k+(Z0 ks+1)=k+1+Z0 ks by omega]
    exact O
  ·refine⟨_,rfl,?_⟩
   rw[<- List.append_nil b1]
   refine Cj Ze (fun o ho=>by rw[e1];simp[ho]) (h1b n ks g l false) (E false _ s D) ?_
   rintro a4 w4 ⟨μ4,Φ4,hg4,C,hd4⟩
   refine wpIn_cond (t:=true) (Jy (x:=.tmp 13) (y:=.t 13) C rfl (by kernel_rfl)) ?_
   obtain⟨s4,k4⟩:=Aw hg4 (CY n ks) (fun b hb=>s.out D (.inl hb)) n2
   have hj4:=s.step D (s4.drop (Y:=X) fun b h=>.inl h)
   refine f7z s hj4 hd4 (a7i C) h2 ?_
   intro a' w' Φ' hd' N B M O
   exact fin false a' w' Φ' hd' N ⟨Φ',hg2.Φle.trans (hle3.trans (hg4.Φle.trans B)),fun b hb=>(M b hb).trans ((k4 b hb).trans ((hkeep3 b (.inl hb)).trans (k2 b hb))),.inr ⟨rfl,O⟩⟩
def g3r(a:List (List PV)):Tm:=match a with
 | [ps]=>dec (.agg ps)
 | _=>.mk nd0 []
def pre_ndI(a:List (List PV)):Bool:=match a with
 | [ps]=>can Tm (.agg ps)&&decide (Yb (dec (.agg ps))<=1048576)
 | _=>false
def F_ndI(a:List (List PV)):List (Tm×Int):=Yg 1 (g3r a)
theorem tmOf_nd(n:Nd)(ks:List Tm):g3r [ndC n ks] = .mk n ks:=by
 show dec (PV.agg (ndC n ks))=_
 rw[show(PV.agg (ndC n ks))=enc (Tm.mk n ks)from(Yl n ks).symm,Enc.dec_enc]
theorem pre_nd{n:Nd}{ks:List Tm}(h:Yb (.mk n ks)<=1048576):pre_ndI [ndC n ks]=true:=by
 show(can Tm (.agg (ndC n ks))&&decide (Yb (dec (PV.agg (ndC n ks)))<=1048576))=true
 rw[show(PV.agg (ndC n ks))=enc (Tm.mk n ks)from(Yl n ks).symm,Enc.dec_enc,Rh,Bool.true_and]
 exact decide_eq_true h
theorem f7m: ∃ (o:Array Oper) (a:List Oper) (c:Oper) (t:Array TypeId),Tryz.f116.body=some (.region 0 o false)∧o.toList=a++[c] ∧
  c.op = .call {callee:=.value (.func 117),args:=#[.tmp 3,.const (.int .i64 1),.tmp 4],argTypes:=t}∧c.guard=none∧c.dst=some 5 ∧
  ∀ n ks l,JV Tryz.prog wkT o a ⟨Xm 6 0 [(0,.yld l),(1,.pv (.rptr (ndC n ks)))],[]⟩=some ⟨Xm 6 0 [(0,.yld l),(1,.pv (.rptr (ndC n ks))),(3,.pv (.agg (ndC n ks))),(4,.yld l)],[]⟩:=by
 refine⟨_,[_,_],_,_,rfl,rfl,rfl,rfl,rfl,?_⟩
 intro n ks l
 kernel_rfl
set_option maxHeartbeats 1000000 in
theorem a1z:d2z Tryz.prog 116 encNd pre_ndI F_ndI:=by
 refine⟨⟨_,Tryz.func116,rfl,rfl⟩,?_⟩
 intro pss g Φ0 D l J K W k j s O E
 unfold pre_ndI at g
 split at g
 ·rename_i ps
  simp only[Bool.and_eq_true,decide_eq_true_eq]at g
  obtain⟨hc,I⟩:=g
  obtain⟨t,ht⟩:=b2s hc
  obtain⟨n,ks⟩:=t
  rw[ht,Enc.dec_enc]at I
  rw[Yl]at ht
  obtain rfl:ps=ndC n ks:=by injection ht
  have hF:F_ndI [ndC n ks]=Yg 1 (.mk n ks):=by unfold F_ndI;rw[tmOf_nd]
  rw[hF]at O ⊢
  obtain⟨D⟩:=D
  match D,k.1 with
  | [p1],_=>
   obtain⟨B1,L,rfl,Q,T,Z⟩:=k.2 0 p1 _ rfl rfl
   have U:=c4i Q T Z
   obtain⟨o,a,c,t,r,N,L,S,Y,H⟩:=f7m
   refine callsIn_wide.1 (callsIn_of_wp (F:=Fence.wide) (n:=4) Tryz.func116 r trivial ?_ rfl)
   have hE:XO (fun _ _=>none) Φ0 ((#[Value.func (.yield l) #[] #[]]++ #[Value.pointer (some ⟨B1,0,none⟩)])++Array.replicate 4 undef) (Xm 6 0 [(0,.yld l),(1,.pv (.rptr (ndC n ks)))]):=by
    refine Oj (by simp) ?_
    intro q M u hu
    simp only[List.mem_cons,List.not_mem_nil,or_false]at M
    rcases M with rfl|rfl
    ·simp[Array.getElem?_append]at hu
     subst hu
     exact .yld l
    ·simp[Array.getElem?_append]at hu
     subst hu
     exact .pv _ _ U
   refine wpIn_region_list ?_
   rw[N]
   refine Cj (nn:=4) Ze (fun x hx=>by rw[N];simp[hx]) (H n ks l) (Jz ((j 0).glob E) ((j 0).phi E) hE rfl) ?_
   rintro A w2 ⟨μ2,Φ2,hg2,he2,hd2⟩
   obtain⟨P,k2⟩:=Uw (X:=fun _=>False) hg2 KG (fun b hb=>hb.elim)
   have C:=(j _).step E P
   have r3:RP Φ2 (A.eval (.tmp 3)) (enc (Tm.mk n ks)):=by
    rw[Yl]
    exact b8y he2 (y:=.t 3) rfl (by kernel_rfl)
   have V:A.eval (.tmp 4) = .func (.yield l) #[] #[]:=a9h he2 (y:=.t 4) rfl (by kernel_rfl)
   have m:=e3z j s O (SizeOf.sizeOf (Tm.mk n ks)+1) (.mk n ks) (Nat.lt_succ_self _) 1 0 Φ2 _ w2 _ C r3 (fun i x h=>by rw[Nat.zero_add];exact h) (by omega)
   refine a4r L S Y Tryz.func117 rfl (by kernel_rfl) (vs:=#[A.eval (.tmp 3),.int .i64 ((1:Nat):Int),.func (.yield l) #[] #[]]) (by simp only[List.map_toArray,List.map_cons,List.map_nil,V];rfl) m ?_
   rintro e B ⟨Φ3,hle3,hkeep3,hres⟩
   have fin : ∀ v,(∃ Φ' X',J (Yg 1 (.mk n ks)).length Φ' X' B∨K Φ' X' B)->wpListIn (Y4 none) 4 Tryz.prog o (bodyPost Tryz.prog Tryz.f116 fun e W'=>(∃ v,e = .returned v)∧ ∃ Φ' X',(J (Yg 1 (.mk n ks)).length Φ' X' W'∨K Φ' X' W')) [] (A.put (some 5) v) B:=by
    intro v hv
    exact⟨by rw[WR];exact hd2,_,results_none rfl _ _ _,⟨_,rfl⟩,hv⟩
   rcases hres with ⟨rfl,z⟩|⟨rfl,z⟩
   ·refine⟨_,rfl,fin _ ⟨Φ3,fun _=>False,.inl ?_⟩⟩
    rw[KA,<- Nat.zero_add (Yb _)]
    exact z
   ·exact⟨_,rfl,fin _ ⟨Φ3,_,.inr z⟩⟩
 ·cases g
end Go.Proofs.YtkpppjbhmmabeaaGreatDoor
namespace Go.Pl
open Go.RowKit
open Enc (enc dec is)
open EncL (encL decL isL)
open Go.Proofs.YtkpppjbhmmabeaaGreatDoor (ndC encNd pre_ndI F_ndI tmOf_nd pre_nd)
theorem c6x: ∀ args os,VN args os=true->Zd b2v os.length (Xw os.length ED fun r=>r=Q7 116 args os) O1 [] (U3 f0e args os):=by
 intro args os h
 unfold VN at h
 split at h
 ·obtain⟨⟨n,ks⟩,rfl⟩:=b2s h
  rw[Yl]
  exact f8n n ks rfl
 ·cases h
def tvI(t:Tm)(k:Nat)(σ:ZF):Prop:=(∀ j p,j<k->(Yg 1 t)[j]? = some p->okN j p=true)∧k<=400∧σ=[.obj (.box [.pv (.bool false)]),.obj (.box [.pv (.int .i64 k)])]
def tvX(t:Tm)(σ:ZF):Prop:=Y6 t=false∧ ∃ (c:Int) (r:List Slot),σ = .obj (.box [.pv (.bool false)]):: .obj (.box [.pv (.int .i64 c)])::r
def tvE:Vr:=fun n st q=>n=0∧a9t Dl 0 (.t 7) 116 [8,9] Rz PW encNd pre_ndI F_ndI st q
def tvM(t:Tm)(k:Nat)(x:Tm×Int)(st:St):Prop:=(∀ j p,j<k->(Yg 1 t)[j]? = some p->okN j p=true)∧k<=400 ∧
 st=⟨Xm 23 0 [(2,.ptr 0 0),(3,.ptr 1 0),(4,.ptr 2 0),(5,.pv (.int .i64 x.2))],[.obj (.box [.pv (.bool false)]),.obj (.box [.pv (.int .i64 k)]),.obj (.box ((ndC x.1.nd x.1.ks).map .pv))]⟩
theorem e3t: ∀ x:Tm×Unit,tW x.1=true->Dw Dl tvE 0 (Za Dy (Zf (Y6 x.1))) Sn [] (Zx f5b (encL x)):=by
 rintro⟨t,⟨⟩⟩ ht
 have ht:tW t=true:=ht
 obtain⟨n,ks⟩:=t
 rw[<- YQ]
 show Dw Dl tvE 0 (Za Dy (Zf (Y6 (.mk n ks)))) _ _ _
 have s:Yb (.mk n ks)<=1048576:=Nat.le_trans (Bb _) (of_decide_eq_true ht)
 have z:F_ndI [ndC n ks]=Yg 1 (.mk n ks):=by unfold F_ndI;rw[tmOf_nd]
 refine g2f tvE n ks ⟨?_,rfl,[2],[ndC n ks],[2,3],[2,3,4,5],[],⟨Xm 23 0 [(2,.ptr 0 0),(3,.ptr 1 0)],[.obj (.box [.pv (.bool false)]),.obj (.box [.pv (.int .i64 0)])]⟩,tvI (.mk n ks),tvX (.mk n ks),tvM (.mk n ks),
  rfl,by simp,rfl,?_,by kernel_rfl,pre_nd s,⟨fun j p m=>by omega,by omega,rfl⟩,?_,?_,?_,?_⟩
 ·show can Tm (PV.agg (ndC n ks))=true
  rw[show(PV.agg (ndC n ks))=enc (Tm.mk n ks)from(Yl n ks).symm,Rh]
 ·intro j l ps y hps
  match j with
  | 0=>cases y;cases hps;rfl
  | j+1=>simp at y
 ·rintro k ⟨⟨g,b⟩,v⟩ σ hx ⟨a,q,rfl⟩
  have e:Px [8,9] ((encNd (.mk g b,v)).map .pv) (Xm 23 0 [(2,.ptr 0 0),(3,.ptr 1 0)])=Xm 23 0 [(2,.ptr 0 0),(3,.ptr 1 0),(8,.pv (.agg (ndC g b))),(9,.pv (.int .i64 v))]:=by
   show Px [8,9] (([enc (Tm.mk g b),.int .i64 v]).map .pv) _=_
   rw[Yl]
   kernel_rfl
  rw[e]
  exact g0x (G:=fun _=>False) _ g b k v ⟨rfl,a,q,rfl⟩
 ·rintro k ⟨⟨g,b⟩,v⟩ st hx ⟨a,q,rfl⟩
  rw[z]at hx
  have u:=fun h=>d6r (.mk n ks) hx h
  have A:IntKind.i64.wrap ((k:Int)+1)=((k+1:Nat):Int):=next (by omega)
  refine f3h (G:=tvX (.mk n ks)) _ g b k v ?_
  rw[A]
  have bad:okN k (.mk g b,v)=false-> ∀ r,tvX (.mk n ks) (.obj (.box [.pv (.bool false)]):: .obj (.box [.pv (.int .i64 ((k+1:Nat):Int))])::r):=fun h r=>⟨u h,_,r,rfl⟩
  refine ZO (fun h1=>bad ?_ _) fun h1=>ZO (fun h2=>bad ?_ _) fun h2=>⟨Zc (.mk g b,()) (YQ g b) (CS ht (List.mem_of_getElem? hx)),Zb (.mk g b,()) (YQ g b) (YY (fun h3=>bad ?_ _) fun h3=>⟨rfl,⟨Xm 23 0 [(2,.ptr 0 0),(3,.ptr 1 0)],[.obj (.box [.pv (.bool false)]),.obj (.box [.pv (.int .i64 ((k+1:Nat):Int))])]⟩,by kernel_rfl,rfl,?_,?_,rfl⟩)⟩
  ·unfold okN;rw[decide_eq_false (show ¬ k<400 by omega)];rfl
  ·unfold okN;rw[decide_eq_false (show ¬ v<=40 by omega),Bool.and_false];rfl
  ·have h3:H5 (.mk g b)=false:=h3
   unfold okN;rw[h3,Bool.and_false]
  ·have h3:H5 (.mk g b)=true:=h3
   intro j p m i
   rw[Nat.lt_succ_iff_lt_or_eq]at m
   rcases m with m|rfl
   ·exact a j p m i
   ·rw[hx]at i
    cases i
    unfold okN
    rw[h3,decide_eq_true (show j<400 by omega),decide_eq_true (show v<=40 by omega)];rfl
  ·omega
 ·rintro σ ⟨a,q,rfl⟩
  refine f3m tvE n ks _ (Zl (c5a _ fun j p i=>a j p ?_ i).symm)
  rw[z]
  exact(List.getElem?_eq_some_iff.1 i).1
 ·rintro σ ⟨B,c,r,rfl⟩
  exact e6x tvE n ks c r (Zl B.symm)
theorem e4f: ∀ args os,GA args os=true->Zd c7m os.length (Xw os.length a8t fun r=>r=CJ 124 args os) b2j [] (U3 f4h args os):=by
 intro args os h
 unfold GA at h
 split at h
 ·exact g1u _ rfl
 ·cases h
def tdH(m:List Str)(n:Nd)(ks:List Tm):ZF:=[.obj (.box [.map 1]),.obj (.map (Hm m)),.obj (.box ((ndC n ks).map .pv))]
def tdN(N:ZF->Prop):Vr:=fun n a _=>n=99∧N a.heap
theorem c2m{N G:ZF->Prop}(n:Nd)(ks:List Tm)(i:Int)(l:Lin)(hl:l.t.length<=1048576): ∀ (d j:Nat) (m:List Str),d+j=l.t.length ->
  AtS [.seq (.ext 99 [])] JX (tdN N) 3 (fun st=>G st.heap) Vs 0 36 [(3,.ptr 0 0),(15,.pv (enc n.sizes)),(16,.pv (.int .i64 n.sizes.length)),(17,.pv (.int .i64 (IntKind.i64.wrap (i+1))))] (tdH (((l.t.drop j).map (·.v)).foldl Jm m) n ks) ->
  AtS [.seq (.ext 99 [])] JX (tdN N) 3 (fun st=>G st.heap) Vs 1 36 [(3,.ptr 0 0),(15,.pv (enc n.sizes)),(16,.pv (.int .i64 n.sizes.length)),(17,.pv (.int .i64 i)),(22,.pv (enc l.t)),(23,.pv (.int .i64 l.t.length)),(24,.pv (.int .i64 j))] (tdH m n ks):=by
 intro d
 induction d with
 | zero=>
  intro j m b h
  rw[List.drop_eq_nil_of_le (by omega)]at h
  exact d5v (tdN N) n ks m i j l (ZU (Yv (by omega)) h)
 | succ d ih=>
  intro j m b h
  have a:j<l.t.length:=by omega
  obtain⟨k,g⟩:=f4d m l.t[j].v
  refine d5v (tdN N) n ks m i j l (ZT (Yq a) ⟨Zp a rfl,ZB a ⟨k,?_⟩⟩)
  have e:a8z (Sh.co Sh.str (List.getD (PV.cells (enc l.t[j])) 0 default)) (PV.bool true) (Hm m)=Hm (Jm m l.t[j].v):=g
  rw[e,next (by omega)]
  refine ih (j+1) _ (by omega) ?_
  rw[List.drop_eq_getElem_cons a,List.map_cons,List.foldl_cons]at h
  exact h
theorem c1p{N G:ZF->Prop}(n:Nd)(ks:List Tm)(hn:NdB n 1048576): ∀ (d i:Nat) (m:List Str),d+i=n.sizes.length->N (tdH (((n.sizes.drop i).flatMap fun l=>l.t.map (·.v)).foldl Jm m) n ks) ->
  AtS [.seq (.ext 99 [])] JX (tdN N) 3 (fun st=>G st.heap) Vs 0 36 [(3,.ptr 0 0),(15,.pv (enc n.sizes)),(16,.pv (.int .i64 n.sizes.length)),(17,.pv (.int .i64 i))] (tdH m n ks):=by
 intro d
 induction d with
 | zero=>
  intro i m hi h
  rw[List.drop_eq_nil_of_le (by omega)]at h
  exact d2d (tdN N) n ks m i (ZU (Yv (by omega)) ⟨rfl,h⟩)
 | succ d ih=>
  intro i m hi h
  have a:i<n.sizes.length:=by omega
  have hs:=hn.sizes
  refine d2d (tdN N) n ks m i (ZT (Yq a) ⟨Zp a rfl,ZB a ?_⟩)
  rw[List.drop_eq_getElem_cons a,List.flatMap_cons,List.foldl_append]at h
  have b:n.sizes[i].t.length<=1048576:=hn.lens _ (List.getElem_mem a)
  generalize n.sizes[i]=l at h b ⊢
  have:=c2m (N:=N) (G:=G) n ks i l b l.t.length 0 m (by omega) (by
   rw[next (by omega),List.drop_zero]
   exact ih (i+1) _ (by omega) h)
  show AtS [.seq (.ext 99 [])] JX (tdN N) 3 (fun st=>G st.heap) Vs 1 36 [(3,.ptr 0 0),(15,.pv (enc n.sizes)),(16,.pv (.int .i64 n.sizes.length)),(17,.pv (.int .i64 i)),(22,.pv (enc l.t)),(23,.pv (.int .i64 ((l.t.map (enc:Coef->PV)).length:Int))),(24,.pv (.int .i64 (0:Nat)))] (tdH m n ks)
  rw[List.length_map]
  exact this
def tdI(t:Tm)(k:Nat)(σ:ZF):Prop:=σ=[.obj (.box [.map 1]),.obj (.map (Hm (DK (((Xb t).take k).flatMap UY))))]
def tdM(t:Tm)(k:Nat)(x:Tm×Int)(st:St):Prop:=st=⟨Xm 36 0 [(3,.ptr 0 0),(4,.ptr 2 0)],tdH (DK (((Xb t).take k).flatMap UY)) x.1.nd x.1.ks⟩
def tdE:Vr:=fun n st q=>n=0∧a9t Bd 0 (.t 11) 116 [12,13] RY Vs encNd pre_ndI F_ndI st q
theorem e8i: ∀ x:Tm×Unit,tW x.1=true->Dw Bd tdE 0 (Za SA (Zf (Uh x.1))) RZ [] (Zx f5i (encL x)):=by
 rintro⟨t,⟨⟩⟩ ht
 have ht:tW t=true:=ht
 obtain⟨n,ks⟩:=t
 rw[<- YQ]
 show Dw Bd tdE 0 (Za SA (Zf (Uh (.mk n ks)))) _ _ _
 have i:Yb (.mk n ks)<=1048576:=Nat.le_trans (Bb _) (of_decide_eq_true ht)
 have q:F_ndI [ndC n ks]=Yg 1 (.mk n ks):=by unfold F_ndI;rw[tmOf_nd]
 refine g4n tdE n ks ⟨?_,rfl,[1],[ndC n ks],[3],[3,4],[],⟨Xm 36 0 [(3,.ptr 0 0)],[.obj (.box [.map 1]),.obj (.map [])]⟩,tdI (.mk n ks),fun _=>False,tdM (.mk n ks),
  rfl,by simp,rfl,?_,by kernel_rfl,pre_nd i,rfl,?_,?_,?_,fun σ h=>h.elim⟩
 ·show can Tm (PV.agg (ndC n ks))=true
  rw[show(PV.agg (ndC n ks))=enc (Tm.mk n ks)from(Yl n ks).symm,Rh]
 ·intro j l ps m hps
  match j with
  | 0=>cases m;cases hps;rfl
  | j+1=>simp at m
 ·rintro k ⟨⟨a,b⟩,v⟩ σ hx rfl
  have e:Px [12,13] ((encNd (.mk a b,v)).map .pv) (Xm 36 0 [(3,.ptr 0 0)])=Xm 36 0 [(3,.ptr 0 0),(12,.pv (.agg (ndC a b))),(13,.pv (.int .i64 v))]:=by
   show Px [12,13] (([enc (Tm.mk a b),.int .i64 v]).map .pv) _=_
   rw[Yl]
   kernel_rfl
  rw[e]
  exact f8q (G:=fun _=>False) _ a b _ v ⟨rfl,rfl⟩
 ·rintro k ⟨⟨a,b⟩,v⟩ st hx rfl
  rw[q]at hx
  have r:tW (.mk a b)=true:=CS ht (List.mem_of_getElem? hx)
  have u:(Xb (.mk n ks))[k]? = some (.mk a b):=by unfold Xb;rw[List.getElem?_map,hx];rfl
  refine f3t (G:=fun _=>False) (tdN fun σ=> ∃ g,Q3 0 [3] ⟨Xm 36 0 [(3,.ptr 0 0)],σ⟩=some g∧g.env=Xm 36 0 [(3,.ptr 0 0)]∧tdI (.mk n ks) (k+1) g.heap) a b _ ?_
  rw[List.length_map]
  refine c1p (N:=fun σ=> ∃ g,Q3 0 [3] ⟨Xm 36 0 [(3,.ptr 0 0)],σ⟩=some g∧g.env=Xm 36 0 [(3,.ptr 0 0)]∧tdI (.mk n ks) (k+1) g.heap) (G:=fun _=>False) a b (ndB r) a.sizes.length 0 _ (by omega) ⟨⟨Xm 36 0 [(3,.ptr 0 0)],[.obj (.box [.map 1]),.obj (.map (Hm (((a.sizes.drop 0).flatMap fun l=>l.t.map (·.v)).foldl Jm (DK (((Xb (.mk n ks)).take k).flatMap UY)))))]⟩,by kernel_rfl,rfl,?_⟩
  unfold tdI
  have e:(Xb (.mk n ks)).take (k+1)=(Xb (.mk n ks)).take k++[.mk a b]:=by rw[List.take_add_one,u];rfl
  rw[e,List.flatMap_append,List.flatMap_cons,List.flatMap_nil,List.append_nil,List.drop_zero]
  unfold DK
  rw[List.foldl_append]
  rfl
 ·rintro σ rfl
  rw[q,List.take_of_length_le (by unfold Xb;rw[List.length_map];exact Nat.le_refl _)]
  refine f6x tdE n ks (DK (YX (.mk n ks))) ⟨?_,?_⟩
  ·show(124==124&&Bl (Hm (DK (YX (.mk n ks)))))=true
   rw[g3u ht,beq_self_eq_true];rfl
  ·have:=Zg (x:=Uh (.mk n ks)) rfl
   unfold Uh at this ⊢
   rw[b8t]
   have e:(enc ((Vd ((DK (YX (.mk n ks))).map (·.s))).map Str.mk):PV) = .sl 1 false ((Vd ((DK (YX (.mk n ks))).map (·.s))).map PV.str):=by
    show PV.sl 1 false (List.map enc (List.map Str.mk _))=_
    rw[List.map_map]
    rfl
   rw[e]at this
   exact this
end Go.Pl
namespace Go.Pl
open Go.RowKit
open Enc (enc dec is)
open EncL (encL decL isL)
set_option maxRecDepth 100000
abbrev g5p(ps:List PV)(k:Arr×Int->Prop):Prop:=Ym (fun(x:Str×List Int×List Int×Unit)=>decide (List.length (Prod.fst (Prod.snd x))<=2000000)&&decide (List.length (Prod.fst (Prod.snd (Prod.snd x)))<=2000000)) (fun(x:Str×List Int×List Int×Unit)=>JA (Prod.fst x) (Prod.fst (Prod.snd x)) (Prod.fst (Prod.snd (Prod.snd x)))) ps k
noncomputable def d6o:IC:=YI Proofs.Tryz.f192
def d4c:List IRes:=[(.tmp 4)]
abbrev f7b:Nat:=22
def f2e:ZC:=Yh []
theorem g5z{G:PV->Prop}(e:List UInt8)(n:Int)(h:if (e==[(105:UInt8),(110:UInt8),(116:UInt8)])=true then if (decide (n ≥ (-2147483648:Int)))=true then G ((.bool (decide (n<=2147483647))))else(G ((.bool false)))else(if (e==[(98:UInt8),(111:UInt8),(111:UInt8),(108:UInt8)])=true then if (n==0)=true then G ((.bool true))else(G ((.bool (n==1))))else(G ((.bool false))))):Zd f2e 0 (Za d4c G) d6o [] (Zx 22 [.str e,.int .i64 n]):=Zd.tp (dm [] 36 0x2220220034200c4202202220044200c42) h
noncomputable def b1b:IC:=YI Proofs.Tryz.f191
def b3g:List IRes:=[(.tmp 3)]
abbrev f9w:Nat:=8
def c6g:ZC:=Yh [(192,.pure (preT (fun _:Str×Int×Unit=>true)) (Zi (fun x:Str×Int×Unit=>X5 x.1 x.2.1)))]
theorem g4z{G:AV×List AObj×List AObj->Prop}(e:List UInt8)(n:Int)(h:Ty (fun(x:Str×Int×Unit)=>X5 x.1 x.2.1) [(.str e),(.int .i64 n)] fun a:Bool=>G (((.pv (.bool !a)),([(.box [(.pv (.str e))])],[])))):Zd c6g 1 (Xw 1 b3g G) b1b [] (U3 8 [.pv (.int .i64 n),.ptr 0 0] [.box [.pv (.str e)]]):=Zd.to (.lit (Oe (Bool) (.nil))) h
noncomputable def DW:IC:=D6
def DF:List IRes:=[(.tmp 4)]
abbrev d2l:Nat:=19
def RN:ZC:=Yh [(191,.own TN OO)]
theorem g3q{G:AV×List AObj×List AObj->Prop}(e:List UInt8)(l:List Int)(t:Bool)(h:At RN 1 (Xw 1 DF G) DW 0 19 [(0,(.pv (.sl 1 t (List.map enc l)))),(1,(.fn 191 [] [(.ptr 0 0)])),(7,(.pv (.int .i64 (↑(List.length (List.map enc l)):Int)))),(8,(.pv (.int .i64 0)))] [(.obj (.box [(.pv (.str e))]))]):Zd RN 1 (Xw 1 DF G) DW [] (U3 19 [.pv (.sl 1 t (l.map enc)),.fn 191 [] [.ptr 0 0]] [.box [.pv (.str e)]]):=Zd.to (.nil) h
theorem d1s{G:AV×List AObj×List AObj->Prop}(e:List UInt8)(l:List Int)(t:Bool)(i:Int)(h:if (decide (i<(↑(List.length l):Int)))=true then(decide (0<=i)&&decide (Int.toNat i<List.length (List.map enc l))&&1==1)=true∧(el' l i fun a:Int=>if (!X5 (Str.mk e) (PV.asInt (Vy a)))=true then G (((.pv (.int .i64 i)),([(.box [(.pv (.str e))])],[])))else(At RN 1 (Xw 1 DF G) DW 0 19 [(0,(.pv (.sl 1 t (List.map enc l)))),(1,(.fn 191 [] [(.ptr 0 0)])),(7,(.pv (.int .i64 (↑(List.length l):Int)))),(8,(.pv (.int .i64 (IntKind.wrap IntKind.i64 (i+1)))))] [(.obj (.box [(.pv (.str e))]))]))else(G (((.pv (.int .i64 (-1))),([(.box [(.pv (.str e))])],[]))))):At RN 1 (Xw 1 DF G) DW 0 19 [(0,.pv (.sl 1 t (l.map enc))),(1,.fn 191 [] [.ptr 0 0]),(7,.pv (.int .i64 l.length)),(8,.pv (.int .i64 i))] [.obj (.box [.pv (.str e)])]:=At.to (dm [dr Int] 19 0x2000143225100c42) h
noncomputable def b0q:IC:=a8n
def b2r:List IRes:=[(.tmp 4)]
abbrev f8e:Nat:=9
def d7p:ZC:=Yh [(170,.own VX TL)]
theorem g4p{G:AV×List AObj×List AObj->Prop}(e:List UInt8)(l:List Int)(t:Bool)(h:(VX [(.pv (.sl 1 t (List.map enc l))),(.fn 191 [] [(.ptr 0 0)])] [(.box [(.pv (.str e))])])=true∧(G (((.pv (.bool (decide (Ku (Str.mk e) (List.map dec (List.map enc l)) 0 ≥ 0)))),([(.box [(.pv (.str e))])],[]))))):Zd d7p 1 (Xw 1 b2r G) b0q [] (U3 9 [.pv (.sl 1 t (l.map enc)),.fn 191 [] [.ptr 0 0]] [.box [.pv (.str e)]]):=Zd.to (.req (.keep (.lit (.nil)))) h
noncomputable def Tc:IC:=YI Proofs.Tryz.f155
def SK:List IRes:=[(.tmp 4)]
abbrev a6g:Nat:=9
def PU:ZC:=Yh [(144,.own VX F6)]
theorem b1e{G:PV->Prop}(e:List UInt8)(l:List Int)(h:(VX [(.pv (.sl 1 false (List.map enc l))),(.fn 191 [] [(.ptr 0 0)])] [(.box [(.pv (.str e))])])=true∧(G ((.bool (!decide (0<=Ku (Str.mk e) (List.map dec (List.map enc l)) 0)))))):Zd PU 0 (Za SK G) Tc [] (Zx 9 [.str e,enc l]):=Zd.tp (.req (.keep (.nil))) h
noncomputable def b7c:IC:=YI Proofs.Tryz.f131
def b5b:List IRes:=[(.cell true 3 6),(.tmp 7)]
abbrev e9q:Nat:=45
def d2n:ZC:=Yh [(154,.pure (preT (fun _:List Int×Unit=>true)) (Zi (fun x:List Int×Unit=>Y2 x.1))),(155,.pure (preT (fun x:Str×List Int×Unit=>decide (x.2.1.length<=2000000))) (Zi (fun x:Str×List Int×Unit=>x.2.1.all (X5 x.1)))),(156,.pure (preT (fun x:List Int×Unit=>decide (x.1.length<=2000000))) (Zi (fun x:List Int×Unit=>x.1)))]
theorem f4x{G:PV->Prop}(e:List UInt8)(d x:List Int)(h:if (!e==[(105:UInt8),(110:UInt8),(116:UInt8)])=true then if (!e==[(98:UInt8),(111:UInt8),(111:UInt8),(108:UInt8)])=true then G ((.tup [(.agg [(.str []),(.sl 0 true []),(.sl 0 true [])]),(.int .i64 12)]))else((Go.Pl.preT (fun(x:List Int×Unit)=>true) [(.sl 1 false (List.map enc d))])=true∧(∃ a:Int×Int,AV.pv (Zi (fun(x:List Int×Unit)=>Y2 x.1) [(.sl 1 false (List.map enc d))])=AV.pv (enc a)∧(if (a.2 != 0)=true then G ((.tup [(.agg [(.str []),(.sl 0 true []),(.sl 0 true [])]),(.int .i64 a.2)]))else(if ((↑(List.length (List.map enc x)):Int) != a.1)=true then G ((.tup [(.agg [(.str []),(.sl 0 true []),(.sl 0 true [])]),(.int .i64 1)]))else((Go.Pl.preT (fun(x:Str×List Int×Unit)=>decide (List.length x.2.1<=2000000)) [(.str e),(.sl 1 false (List.map enc x))])=true∧(∃ m:Bool,AV.pv (Zi (fun(x:Str×List Int×Unit)=>List.all x.2.1 (X5 x.1)) [(.str e),(.sl 1 false (List.map enc x))])=AV.pv (enc m)∧(if (!m)=true then G ((.tup [(.agg [(.str []),(.sl 0 true []),(.sl 0 true [])]),(.int .i64 2)]))else((Go.Pl.preT (fun(x:List Int×Unit)=>decide (List.length x.1<=2000000)) [(.sl 1 false (List.map enc d))])=true∧(∃ g:List Int,AV.pv (Zi (fun(x:List Int×Unit)=>x.1) [(.sl 1 false (List.map enc d))])=AV.pv (enc g)∧((Go.Pl.preT (fun(x:List Int×Unit)=>decide (List.length x.1<=2000000)) [(.sl 1 false (List.map enc x))])=true∧(∃ j:List Int,AV.pv (Zi (fun(x:List Int×Unit)=>x.1) [(.sl 1 false (List.map enc x))])=AV.pv (enc j)∧(G ((.tup [(.agg [(.str e),(.sl 1 false (List.map enc g)),(.sl 1 false (List.map enc j))]),(.int .i64 0)]))))))))))))))else((Go.Pl.preT (fun(x:List Int×Unit)=>true) [(.sl 1 false (List.map enc d))])=true∧(∃ b:Int×Int,AV.pv (Zi (fun(x:List Int×Unit)=>Y2 x.1) [(.sl 1 false (List.map enc d))])=AV.pv (enc b)∧(if (b.2 != 0)=true then G ((.tup [(.agg [(.str []),(.sl 0 true []),(.sl 0 true [])]),(.int .i64 b.2)]))else(if ((↑(List.length (List.map enc x)):Int) != b.1)=true then G ((.tup [(.agg [(.str []),(.sl 0 true []),(.sl 0 true [])]),(.int .i64 1)]))else((Go.Pl.preT (fun(x:Str×List Int×Unit)=>decide (List.length x.2.1<=2000000)) [(.str e),(.sl 1 false (List.map enc x))])=true∧(∃ l:Bool,AV.pv (Zi (fun(x:Str×List Int×Unit)=>List.all x.2.1 (X5 x.1)) [(.str e),(.sl 1 false (List.map enc x))])=AV.pv (enc l)∧(if (!l)=true then G ((.tup [(.agg [(.str []),(.sl 0 true []),(.sl 0 true [])]),(.int .i64 2)]))else((Go.Pl.preT (fun(x:List Int×Unit)=>decide (List.length x.1<=2000000)) [(.sl 1 false (List.map enc d))])=true∧(∃ i:List Int,AV.pv (Zi (fun(x:List Int×Unit)=>x.1) [(.sl 1 false (List.map enc d))])=AV.pv (enc i)∧((Go.Pl.preT (fun(x:List Int×Unit)=>decide (List.length x.1<=2000000)) [(.sl 1 false (List.map enc x))])=true∧(∃ k:List Int,AV.pv (Zi (fun(x:List Int×Unit)=>x.1) [(.sl 1 false (List.map enc x))])=AV.pv (enc k)∧(G ((.tup [(.agg [(.str e),(.sl 1 false (List.map enc i)),(.sl 1 false (List.map enc k))]),(.int .i64 0)]))))))))))))))):Zd d2n 0 (Za b5b G) b7c [] (Zx 45 [.str e,enc d,enc x]):=Zd.tp (dm [dv (Int×Int),dv Bool,dv (List Int)] 69 0x7171000146100014200014251222071710001461000142000142510001422202242) h
noncomputable def d3k:IC:=YI Proofs.Tryz.f94
def d3q:List IRes:=[(.tmp 2)]
abbrev f8g:Nat:=17
def f1x:ZC:=Yh [(131,.pure (preT (fun x:Str×List Int×List Int×Unit=>decide (x.2.1.length<=2000000)&&decide (x.2.2.1.length<=2000000))) (Zi (fun x:Str×List Int×List Int×Unit=>JA x.1 x.2.1 x.2.2.1)))]
theorem g1i{G:PV->Prop}(a:Arr)(h:(g5p [(.str (Str.s (Arr.e a))),(.sl 1 false (List.map enc (Arr.d a))),(.sl 1 false (List.map enc (Arr.x a)))] fun b=>(G ((.bool (b.2==0)))))):Zd f1x 0 (Za d3q G) d3k [] (Zx 17 [enc a]):=Zd.tp (.req (Oe (Arr×Int) (.lit (.nil)))) h
end Go.Pl
namespace Go.Pl
open Go.RowKit
open Enc (enc dec is)
open EncL (encL decL isL)
theorem e3p: ∀ a:Str×Int×Unit,true=true->Zd f2e 0 (Za d4c (Zf (X5 a.1 a.2.1))) d6o [] (Zx f7b (encL a)):=by
 rintro⟨⟨e⟩,n,⟨⟩⟩ _
 refine g5z e n ?_
 simp only[beq_iff_eq,decide_eq_true_eq,Zf,b9g,a2u,true_and,X5,Xa,YN,ge_iff_le]
 split
 ·split <;> simp[*]
 ·split
  ·split <;> simp[*]
  ·simp[*]
theorem e8v: ∀ args os,TN args os=true->Zd c6g os.length (Xw os.length b3g fun r=>r=OO args os) b1b [] (U3 f9w args os):=by
 intro args os a
 unfold TN at a
 split at a
 ·rename_i n e
  refine g4z e n ?_
  exact Zb (⟨e⟩,n,()) rfl rfl
 ·cases a
theorem Nf(e:Str): ∀ (l:List Int) (k:Nat),decide (0<=Ku e l k) = !l.all (X5 e)
 | [],k=>by simp[Ku]
 | n::l,k=>by
  simp only[Ku,List.all_cons]
  by_cases h:X5 e n=true
  ·simp only[h,if_true,Bool.true_and];exact Nf e l (k+1)
  ·simp only[Bool.not_eq_true]at h;simp[h]
theorem d1d(e:List UInt8)(l:List Int)(t:Bool)(hl:l.length<=2000000)(r:AV×List AObj×List AObj): ∀ (m k:Nat),m+k=l.length->r=(.pv (.int .i64 (Ku ⟨e⟩ (l.drop k) k)),[.box [.pv (.str e)]],[]) ->
  At RN 1 (Xw 1 DF fun x=>x=r) DW 0 d2l [(0,.pv (.sl 1 t (l.map enc))),(1,.fn 191 [] [.ptr 0 0]),(7,.pv (.int .i64 l.length)),(8,.pv (.int .i64 k))] [.obj (.box [.pv (.str e)])]:=by
 intro m
 induction m with
 | zero=>
  intro k b hr
  refine d1s e l t k ?_
  rw[if_neg (by simp;omega),hr,List.drop_of_length_le (by omega)]
  rfl
 | succ m ih=>
  intro k b hr
  have a:k<l.length:=by omega
  refine d1s e l t k ?_
  rw[if_pos (by simp;omega)]
  refine⟨by simp;omega,l[k],by rw[XZ _ a],?_⟩
  rw[List.drop_eq_getElem_cons a,Ku]at hr
  show if (!X5 ⟨e⟩ l[k])=true then _ else _
  cases h:X5 ⟨e⟩ l[k]with
  | true=>
   rw[if_neg (by simp),next (by omega)]
   rw[h,if_pos rfl]at hr
   exact ih (k+1) (by omega) hr
  | false=>
   rw[if_pos (by decide)]
   rw[h,if_neg (by simp)]at hr
   exact hr.symm
theorem e3r: ∀ args os,VX args os=true->Zd RN os.length (Xw os.length DF fun r=>r=TL args os) DW [] (U3 d2l args os):=by
 intro args os a
 unfold VX at a
 split at a
 ·rename_i t xs e
  simp only[Bool.and_eq_true,decide_eq_true_eq]at a
  rw[b4y a.1]
  have b:(xs.map (dec:PV->Int)).length<=2000000:=by simpa using a.2
  generalize xs.map (dec:PV->Int)=l at b ⊢
  refine g3q e l t ?_
  rw[List.length_map]
  refine d1d e l t b _ l.length 0 (by omega) ?_
  simp[TL]
 ·cases a
theorem e8l: ∀ args os,VX args os=true->Zd d7p os.length (Xw os.length b2r fun r=>r=F6 args os) b0q [] (U3 f8e args os):=by
 intro args os a
 have b:=a
 unfold VX at a
 split at a
 ·rename_i t xs e
  simp only[Bool.and_eq_true,decide_eq_true_eq]at a
  rw[b4y a.1]at b ⊢
  exact g4p e _ t ⟨b,rfl⟩
 ·cases a
theorem Ou: ∀ a:Str×List Int×Unit,decide (a.2.1.length<=2000000)=true->Zd PU 0 (Za SK (Zf (a.2.1.all (X5 a.1)))) Tc [] (Zx a6g (encL a)):=by
 rintro⟨⟨e⟩,l,⟨⟩⟩ hp
 refine b1e e l ⟨?_,rfl,?_⟩
 ·simpa [VX]using hp
 ·simp[Nf]
theorem d8d: ∀ a:Str×List Int×List Int×Unit,(decide (a.2.1.length<=2000000)&&decide (a.2.2.1.length<=2000000))=true->Zd d2n 0 (Za b5b (Zf (JA a.1 a.2.1 a.2.2.1))) b7c [] (Zx e9q (encL a)):=by
 rintro⟨⟨e⟩,d,x,⟨⟩⟩ hp
 simp only[Bool.and_eq_true,decide_eq_true_eq]at hp
 refine f4x e d x ?_
 have g:=hp.1
 have b:=hp.2
 simp only[preT,Zi,a5w,b7v,LM,a2f,f3e,Pp,c9k,b8j,d8n,Td,List.isEmpty_iff,Bool.and_true,beq_self_eq_true,Bool.or_true,Bool.true_and,decide_eq_true_eq,AV.pv.injEq,d5m,exists_eq_left',g,b,true_and,Enc.sz,List.length_map,Zf,f4k,f3q,f8b,e3j,e8a,f0l,List.all_nil,List.isEmpty_nil,Bool.true_or,List.map_nil,Bool.not_eq_true',beq_eq_false_iff_ne,bne_iff_ne,JA,Xa,YN]
 by_cases h1:e=[105,110,116]
 ·simp only[h1,ne_eq,not_true,if_false,false_and]
  split
  ·rfl
  ·split
   ·rfl
   ·split
    ·simp_all
    ·simp_all
 ·simp only[h1,ne_eq,not_false_eq_true,if_true,true_and]
  split
  ·rfl
  ·split
   ·rfl
   ·split
    ·rfl
    ·split
     ·simp_all
     ·simp_all
theorem e8x: ∀ a:Arr×Unit,VH a.1=true->Zd f1x 0 (Za d3q (Zf (WE a.1))) d3k [] (Zx f8g (encL a)):=by
 rintro⟨a,⟨⟩⟩ hp
 refine g1i a ⟨Zc (a.e,a.d,a.x,()) rfl hp,Zb (a.e,a.d,a.x,()) rfl ?_⟩
 exact⟨rfl,rfl⟩
end Go.Pl
namespace Go.Pl
open Go.RowKit
set_option maxRecDepth 100000
def YM:IC:=(Ug [Z6 2 (.mv (W9 0)) 0,Z6 3 (.mv (W9 0)) 0] (.seq (Ug [Z6 8 (VG 0) 0,Z6 9 (.len 1 (.t 8)) 0,Z6 10 (Cn .gtr (.t 9) (W9 6)) 0] (.cond (.t 10) (Ug [Z6 2 (.mv (W9 0)) 0,Z6 3 (.mv (W9 13)) 0] .ret) .skip)) (Ug [Z6 4 (f'' false) 0] (.seq (Ug [Z6 5 (.mv (W9 0)) 0] (.block 0 (.loop [5,0,4] (.seq (Ug [Z6 11 (VG 5) 0,Z6 12 (VG 0) 0,Z6 13 (.len 1 (.t 12)) 0,Z6 14 (Cn .lss (.t 11) (.t 13)) 0] (.cond (.t 14) .skip (.exit 0))) (.seq (.block 1 (.seq (Ug [Z6 17 (VG 0) 0,Z6 18 (VG 5) 0,Z6 19 (.iaddr 1 (.t 17) (.t 18)) 0,Z6 20 (l'' [(.int .i64)] (.t 19)) 0,Z6 21 (Cn .lss (.t 20) (W9 0)) 0,Z6 22 (VG 21) 0,r'' 23 (VG 0) 0 22,r'' 24 (VG 5) 0 22,r'' 25 (.iaddr 1 (.t 23) (.t 24)) 0 22,r'' 26 (l'' [(.int .i64)] (.t 25)) 0 22,r'' 27 (Cn .gtr (.t 26) (W9 4096)) 0 22,Z6 28 (.pick (.t 22) (.c (.bool true)) (.t 27)) 0] (.cond (.t 28) (Ug [Z6 2 (.mv (W9 0)) 0,Z6 3 (.mv (W9 2)) 0] .ret) .skip)) (.reg [Z6 29 (VG 4) 0,Z6 30 (VG 29) 0,r'' 31 (VG 0) 0 30,r'' 32 (VG 5) 0 30,r'' 33 (.iaddr 1 (.t 31) (.t 32)) 0 30,r'' 34 (l'' [(.int .i64)] (.t 33)) 0 30,r'' 35 (Cn .eql (.t 34) (W9 0)) 0 30,Z6 36 (.pick (.t 30) (.c (.bool true)) (.t 35)) 0,Z6 4 (VG 36) 0] none))) (.reg [Z6 15 (VG 5) 0,Z6 16 (Cn .add (.t 15) (W9 1)) 0,Z6 5 (VG 16) 0] none)))))) (.seq (Ug [Z6 37 (VG 4) 0] (.cond (.t 37) (Ug [Z6 2 (.mv (W9 0)) 0,Z6 3 (.mv (W9 0)) 0] .ret) .skip)) (Ug [Z6 6 (.mv (W9 1)) 0] (.seq (Ug [Z6 7 (.mv (W9 0)) 0] (.block 2 (.loop [7,0,6] (.seq (Ug [Z6 38 (VG 7) 0,Z6 39 (VG 0) 0,Z6 40 (.len 1 (.t 39)) 0,Z6 41 (Cn .lss (.t 38) (.t 40)) 0] (.cond (.t 41) .skip (.exit 2))) (.seq (.block 3 (Ug [Z6 44 (VG 6) 0,Z6 45 (VG 0) 0,Z6 46 (VG 7) 0,Z6 47 (.iaddr 1 (.t 45) (.t 46)) 0,Z6 48 (l'' [(.int .i64)] (.t 47)) 0,Z6 49 (Cn .mul (.t 44) (.t 48)) 0,Z6 6 (VG 49) 0] (Ug [Z6 50 (VG 6) 0,Z6 51 (Cn .gtr (.t 50) (W9 4096)) 0] (.cond (.t 51) (Ug [Z6 2 (.mv (W9 0)) 0,Z6 3 (.mv (W9 3)) 0] .ret) .skip)))) (.reg [Z6 42 (VG 7) 0,Z6 43 (Cn .add (.t 42) (W9 1)) 0,Z6 7 (VG 43) 0] none)))))) (Ug [Z6 52 (VG 6) 0,Z6 2 (VG 52) 0,Z6 3 (.mv (W9 0)) 0] .ret))))))))
def YL:List IRes:=[(.tmp 2),(.tmp 3)]
def Y3:ZC:=Yh []
theorem c1j{r:PV}(ns:List Int)(t:Bool)(a:(decide ((↑(Zr ns).length:Int)>6))=true)(hr:(.tup [(.int .i64 0),(.int .i64 13)])=r):Zd Y3 0 (fun st=>fin st YL=some r) YM [] (Zx 53 [.sl 1 t (Zr ns)]):=Zd.w (.lit (.ans true (.nil))) (And.intro a hr) (by kernel_rfl)
theorem c3y{r:PV}(ns:List Int)(t:Bool)(a:(decide ((↑(Zr ns).length:Int)>6))=false)(hn:At Y3 0 (fun st=>fin st YL=some r) YM 0 53 [(0,(.pv (.sl 1 t (Zr ns)))),(4,(.pv (.bool false))),(5,(.pv (.int .i64 0)))] []):Zd Y3 0 (fun st=>fin st YL=some r) YM [] (Zx 53 [.sl 1 t (Zr ns)]):=Zd.w (.lit (.ans false (.nil))) (And.intro a hn) (by kernel_rfl)
theorem a8a{r:PV}(ns:List Int)(t:Bool)(i:Int)(z:Bool)(a:(decide (i<(↑(Zr ns).length:Int)))=true)(h1:(decide (0<=i)&&decide (i.toNat<(Zr ns).length)&&1==1)=true)(h2:(decide (0+[Sh.int .i64].length<=((Zr ns).getD i.toNat default).cells.length)&&Yk ((Zr ns).getD i.toNat default).cells 0 [Sh.int .i64])=true)(h3:(decide ((((Zr ns).getD i.toNat default).cells.getD 0 default).asInt<0))=true)(hr:(.tup [(.int .i64 0),(.int .i64 2)])=r):At Y3 0 (fun st=>fin st YL=some r) YM 0 53 [(0,.pv (.sl 1 t (Zr ns))),(4,.pv (.bool z)),(5,.pv (.int .i64 i))] []:=At.w (.lit (.ans true (.req (.req (.lit (.ans true (.lit (.lit (.lit (.lit (.lit (.lit (.nil))))))))))))) (And.intro a (And.intro h1 (And.intro h2 (And.intro h3 hr)))) (by kernel_rfl)
theorem b3e{r:PV}(ns:List Int)(t:Bool)(i:Int)(z:Bool)(b:(decide (i<(↑(Zr ns).length:Int)))=true)(h1:(decide (0<=i)&&decide (i.toNat<(Zr ns).length)&&1==1)=true)(h2:(decide (0+[Sh.int .i64].length<=((Zr ns).getD i.toNat default).cells.length)&&Yk ((Zr ns).getD i.toNat default).cells 0 [Sh.int .i64])=true)(h3:(decide ((((Zr ns).getD i.toNat default).cells.getD 0 default).asInt<0))=false)(a:(decide ((((Zr ns).getD i.toNat default).cells.getD 0 default).asInt>4096))=true)(hr:(.tup [(.int .i64 0),(.int .i64 2)])=r):At Y3 0 (fun st=>fin st YL=some r) YM 0 53 [(0,.pv (.sl 1 t (Zr ns))),(4,.pv (.bool z)),(5,.pv (.int .i64 i))] []:=At.w (.lit (.ans true (.req (.req (.lit (.ans false (.lit (.lit (.req (.lit (.req (.lit (.lit (.lit (.ans true (.nil)))))))))))))))) (And.intro b (And.intro h1 (And.intro h2 (And.intro h3 (And.intro h1 (And.intro h2 (And.intro a hr))))))) (by kernel_rfl)
theorem b1l{r:PV}(ns:List Int)(t:Bool)(i:Int)(z:Bool)(e:(decide (i<(↑(Zr ns).length:Int)))=true)(h1:(decide (0<=i)&&decide (i.toNat<(Zr ns).length)&&1==1)=true)(h2:(decide (0+[Sh.int .i64].length<=((Zr ns).getD i.toNat default).cells.length)&&Yk ((Zr ns).getD i.toNat default).cells 0 [Sh.int .i64])=true)(h3:(decide ((((Zr ns).getD i.toNat default).cells.getD 0 default).asInt<0))=false)(a:(decide ((((Zr ns).getD i.toNat default).cells.getD 0 default).asInt>4096))=false)(b:(z)=true)(hn:At Y3 0 (fun st=>fin st YL=some r) YM 0 53 [(0,(.pv (.sl 1 t (Zr ns)))),(4,(.pv (.bool true))),(5,(.pv (.int .i64 (IntKind.i64.wrap (i+1)))))] []):At Y3 0 (fun st=>fin st YL=some r) YM 0 53 [(0,.pv (.sl 1 t (Zr ns))),(4,.pv (.bool z)),(5,.pv (.int .i64 i))] []:=At.w (.lit (.ans true (.req (.req (.lit (.ans false (.lit (.lit (.req (.lit (.req (.lit (.lit (.lit (.ans false (.ans true (.lit (.lit (.lit (.lit (.lit (.lit (.nil))))))))))))))))))))))) (And.intro e (And.intro h1 (And.intro h2 (And.intro h3 (And.intro h1 (And.intro h2 (And.intro a (And.intro b hn)))))))) (by kernel_rfl)
theorem a9s{r:PV}(ns:List Int)(t:Bool)(i:Int)(z:Bool)(e:(decide (i<(↑(Zr ns).length:Int)))=true)(h1:(decide (0<=i)&&decide (i.toNat<(Zr ns).length)&&1==1)=true)(h2:(decide (0+[Sh.int .i64].length<=((Zr ns).getD i.toNat default).cells.length)&&Yk ((Zr ns).getD i.toNat default).cells 0 [Sh.int .i64])=true)(h3:(decide ((((Zr ns).getD i.toNat default).cells.getD 0 default).asInt<0))=false)(a:(decide ((((Zr ns).getD i.toNat default).cells.getD 0 default).asInt>4096))=false)(b:(z)=false)(hn:At Y3 0 (fun st=>fin st YL=some r) YM 0 53 [(0,(.pv (.sl 1 t (Zr ns)))),(4,(.pv (.bool ((((Zr ns).getD i.toNat default).cells.getD 0 default).asInt==0)))),(5,(.pv (.int .i64 (IntKind.i64.wrap (i+1)))))] []):At Y3 0 (fun st=>fin st YL=some r) YM 0 53 [(0,.pv (.sl 1 t (Zr ns))),(4,.pv (.bool z)),(5,.pv (.int .i64 i))] []:=At.w (.lit (.ans true (.req (.req (.lit (.ans false (.lit (.lit (.req (.lit (.req (.lit (.lit (.lit (.ans false (.ans false (.lit (.lit (.req (.lit (.req (.lit (.lit (.lit (.lit (.nil)))))))))))))))))))))))))) (And.intro e (And.intro h1 (And.intro h2 (And.intro h3 (And.intro h1 (And.intro h2 (And.intro a (And.intro b (And.intro h1 (And.intro h2 hn)))))))))) (by kernel_rfl)
theorem a9m{r:PV}(ns:List Int)(t:Bool)(i:Int)(z:Bool)(a:(decide (i<(↑(Zr ns).length:Int)))=false)(h1:(z)=true)(hr:(.tup [(.int .i64 0),(.int .i64 0)])=r):At Y3 0 (fun st=>fin st YL=some r) YM 0 53 [(0,.pv (.sl 1 t (Zr ns))),(4,.pv (.bool z)),(5,.pv (.int .i64 i))] []:=At.w (.lit (.ans false (.ans true (.nil)))) (And.intro a (And.intro h1 hr)) (by kernel_rfl)
theorem a7q{r:PV}(ns:List Int)(t:Bool)(i:Int)(z:Bool)(a:(decide (i<(↑(Zr ns).length:Int)))=false)(h1:(z)=false)(hn:At Y3 0 (fun st=>fin st YL=some r) YM 1 53 [(0,(.pv (.sl 1 t (Zr ns)))),(6,(.pv (.int .i64 1))),(7,(.pv (.int .i64 0)))] []):At Y3 0 (fun st=>fin st YL=some r) YM 0 53 [(0,.pv (.sl 1 t (Zr ns))),(4,.pv (.bool z)),(5,.pv (.int .i64 i))] []:=At.w (.lit (.ans false (.ans false (.nil)))) (And.intro a (And.intro h1 hn)) (by kernel_rfl)
theorem a7g{r:PV}(ns:List Int)(t:Bool)(i n:Int)(a:(decide (i<(↑(Zr ns).length:Int)))=true)(h1:(decide (0<=i)&&decide (i.toNat<(Zr ns).length)&&1==1)=true)(h2:(decide (0+[Sh.int .i64].length<=((Zr ns).getD i.toNat default).cells.length)&&Yk ((Zr ns).getD i.toNat default).cells 0 [Sh.int .i64])=true)(h3:(decide (IntKind.i64.wrap (n*(((Zr ns).getD i.toNat default).cells.getD 0 default).asInt)>4096))=true)(hr:(.tup [(.int .i64 0),(.int .i64 3)])=r):At Y3 0 (fun st=>fin st YL=some r) YM 1 53 [(0,.pv (.sl 1 t (Zr ns))),(6,.pv (.int .i64 n)),(7,.pv (.int .i64 i))] []:=At.w (.lit (.ans true (.req (.req (.lit (.lit (.ans true (.nil)))))))) (And.intro a (And.intro h1 (And.intro h2 (And.intro h3 hr)))) (by kernel_rfl)
theorem a9b{r:PV}(ns:List Int)(t:Bool)(i n:Int)(a:(decide (i<(↑(Zr ns).length:Int)))=true)(h1:(decide (0<=i)&&decide (i.toNat<(Zr ns).length)&&1==1)=true)(h2:(decide (0+[Sh.int .i64].length<=((Zr ns).getD i.toNat default).cells.length)&&Yk ((Zr ns).getD i.toNat default).cells 0 [Sh.int .i64])=true)(h3:(decide (IntKind.i64.wrap (n*(((Zr ns).getD i.toNat default).cells.getD 0 default).asInt)>4096))=false)(hn:At Y3 0 (fun st=>fin st YL=some r) YM 1 53 [(0,(.pv (.sl 1 t (Zr ns)))),(6,(.pv (.int .i64 (IntKind.i64.wrap (n*(((Zr ns).getD i.toNat default).cells.getD 0 default).asInt))))),(7,(.pv (.int .i64 (IntKind.i64.wrap (i+1)))))] []):At Y3 0 (fun st=>fin st YL=some r) YM 1 53 [(0,.pv (.sl 1 t (Zr ns))),(6,.pv (.int .i64 n)),(7,.pv (.int .i64 i))] []:=At.w (.lit (.ans true (.req (.req (.lit (.lit (.ans false (.lit (.nil))))))))) (And.intro a (And.intro h1 (And.intro h2 (And.intro h3 hn)))) (by kernel_rfl)
theorem b2h{r:PV}(ns:List Int)(t:Bool)(i n:Int)(a:(decide (i<(↑(Zr ns).length:Int)))=false)(hr:(.tup [(.int .i64 n),(.int .i64 0)])=r):At Y3 0 (fun st=>fin st YL=some r) YM 1 53 [(0,.pv (.sl 1 t (Zr ns))),(6,.pv (.int .i64 n)),(7,.pv (.int .i64 i))] []:=At.w (.lit (.ans false (.nil))) (And.intro a hr) (by kernel_rfl)
def VT:IC:=(Ug [Z6 4 (.mv (W9 0)) 0] (.seq (Ug [Z6 6 (VG 0) 0,Z6 7 (.len 1 (.t 6)) 0,Z6 8 (.mv (W9 0)) 0] (.block 0 (.loop [8,7,1,0] (Ug [Z6 9 (Cn .lss (.t 8) (.t 7)) 0] (.seq (.cond (.t 9) .skip (.exit 0)) (.seq (.block 1 (Ug [Z6 10 (VG 8) 0,Z6 5 (VG 10) 0] (Ug [Z6 11 (VG 1) 0,Z6 12 (VG 0) 0,Z6 13 (VG 5) 0,Z6 14 (.iaddr 1 (.t 12) (.t 13)) 0,Z6 15 (l'' [(.int .i64)] (.t 14)) 0,Z6 16 (Cn .eql (.t 11) (.t 15)) 0] (.cond (.t 16) (Ug [Z6 17 (VG 5) 0,Z6 4 (VG 17) 0] .ret) .skip)))) (.reg [Z6 18 (Cn .add (.t 8) (W9 1)) 0,Z6 8 (VG 18) 0] none))))))) (Ug [Z6 4 (.mv (.c (.int .i64 (-1)))) 0] .ret)))
def VI:List IRes:=[(.tmp 4)]
def Qk:ZC:=Yh []
theorem c2a{r:PV}(ns:List Int)(t:Bool)(v:Int)(hn:At Qk 0 (fun st=>fin st VI=some r) VT 0 19 [(0,(.pv (.sl 1 t (Zr ns)))),(1,(.pv (.int .i64 v))),(7,(.pv (.int .i64 (↑(Zr ns).length:Int)))),(8,(.pv (.int .i64 0)))] []):Zd Qk 0 (fun st=>fin st VI=some r) VT [] (Zx 19 [.sl 1 t (Zr ns),.int .i64 v]):=Zd.w (.nil) hn (by kernel_rfl)
theorem b1c{r:PV}(ns:List Int)(t:Bool)(v:Int)(i:Int)(a:(decide (i<(↑(Zr ns).length:Int)))=true)(h1:(decide (0<=i)&&decide (i.toNat<(Zr ns).length)&&1==1)=true)(h2:(decide (0+[Sh.int .i64].length<=((Zr ns).getD i.toNat default).cells.length)&&Yk ((Zr ns).getD i.toNat default).cells 0 [Sh.int .i64])=true)(h3:(v==(((Zr ns).getD i.toNat default).cells.getD 0 default).asInt)=true)(hr:(.int .i64 i)=r):At Qk 0 (fun st=>fin st VI=some r) VT 0 19 [(0,.pv (.sl 1 t (Zr ns))),(1,.pv (.int .i64 v)),(7,.pv (.int .i64 (Zr ns).length)),(8,.pv (.int .i64 i))] []:=At.w (.lit (.ans true (.req (.req (.lit (.ans true (.nil))))))) (And.intro a (And.intro h1 (And.intro h2 (And.intro h3 hr)))) (by kernel_rfl)
theorem b2o{r:PV}(ns:List Int)(t:Bool)(v:Int)(i:Int)(a:(decide (i<(↑(Zr ns).length:Int)))=true)(h1:(decide (0<=i)&&decide (i.toNat<(Zr ns).length)&&1==1)=true)(h2:(decide (0+[Sh.int .i64].length<=((Zr ns).getD i.toNat default).cells.length)&&Yk ((Zr ns).getD i.toNat default).cells 0 [Sh.int .i64])=true)(h3:(v==(((Zr ns).getD i.toNat default).cells.getD 0 default).asInt)=false)(hn:At Qk 0 (fun st=>fin st VI=some r) VT 0 19 [(0,(.pv (.sl 1 t (Zr ns)))),(1,(.pv (.int .i64 v))),(7,(.pv (.int .i64 (↑(Zr ns).length:Int)))),(8,(.pv (.int .i64 (IntKind.i64.wrap (i+1)))))] []):At Qk 0 (fun st=>fin st VI=some r) VT 0 19 [(0,.pv (.sl 1 t (Zr ns))),(1,.pv (.int .i64 v)),(7,.pv (.int .i64 (Zr ns).length)),(8,.pv (.int .i64 i))] []:=At.w (.lit (.ans true (.req (.req (.lit (.ans false (.lit (.nil)))))))) (And.intro a (And.intro h1 (And.intro h2 (And.intro h3 hn)))) (by kernel_rfl)
theorem b0p{r:PV}(ns:List Int)(t:Bool)(v:Int)(i:Int)(a:(decide (i<(↑(Zr ns).length:Int)))=false)(hr:(.int .i64 (-1))=r):At Qk 0 (fun st=>fin st VI=some r) VT 0 19 [(0,.pv (.sl 1 t (Zr ns))),(1,.pv (.int .i64 v)),(7,.pv (.int .i64 (Zr ns).length)),(8,.pv (.int .i64 i))] []:=At.w (.lit (.ans false (.nil))) (And.intro a hr) (by kernel_rfl)
end Go.Pl
namespace Go.Pl
open Go.RowKit
theorem a1l{r:PV}(ns:List Int)(t:Bool)(h6:ns.length<=6)(ha:ns.all Qq=true): ∀ (m k:Nat) (n:Int),m+k=ns.length->0<=n->n<=4096 ->
  r=(match Tk n (ns.drop k)with|some n=>.tup [.int .i64 n,.int .i64 0]|none=>.tup [.int .i64 0,.int .i64 3]) ->
  At Y3 0 (fun st=>fin st YL=some r) YM 1 53 [(0,.pv (.sl 1 t (Zr ns))),(6,.pv (.int .i64 n)),(7,.pv (.int .i64 k))] []:=by
 intro m
 induction m with
 | zero=>
  intro k n h g h1 hr
  have:ns.drop k=[]:=List.drop_of_length_le (by omega)
  rw[this]at hr
  exact b2h ns t k n (by simp;omega) hr.symm
 | succ m ih=>
  intro k n h g h1 hr
  have a:k<ns.length:=by omega
  have hd:0<=ns[k]∧ns[k]<=4096:=by
   have:=List.all_eq_true.1 ha _ (List.getElem_mem a)
   simpa [Qq]using this
  have i:0<=n*ns[k]∧n*ns[k]<=4096*4096:=⟨Int.mul_nonneg g hd.1,Int.mul_le_mul h1 hd.2 hd.1 (by omega)⟩
  have b:IntKind.i64.wrap (n*ns[k])=n*ns[k]:=Vu (by omega) (by omega)
  rw[List.drop_eq_getElem_cons a,Tk]at hr
  have e:=Hl a
  by_cases hb:4096<n*ns[k]
  ·simp only[hb,decide_true,cond_true]at hr
   refine a7g ns t k n (by simp;omega) (by simp;omega) (by rw[e];rfl) ?_ hr.symm
   rw[e]
   simpa [PV.cells,PV.asInt,b]using hb
  ·simp only[hb,decide_false,cond_false]at hr
   refine a9b ns t k n (by simp;omega) (by simp;omega) (by rw[e];rfl) ?_ ?_
   ·rw[e]
    simpa [PV.cells,PV.asInt,b]using Int.not_lt.1 hb
   ·rw[e,next (by omega)]
    simp only[PV.cells,List.getD_cons_zero,PV.asInt,b]
    exact ih (k+1) (n*ns[k]) (by omega) i.1 (by omega) hr
theorem a4f(ns:List Int)(t:Bool)(i:ns.length<=6): ∀ (m k:Nat) (z:Bool),m+k=ns.length->(∀ j (g:j<ns.length),j<k->Qq ns[j]=true)->z=(ns.take k).any (· == 0) ->
  At Y3 0 (fun st=>fin st YL=some (Xc [.sl 1 t (Zr ns)])) YM 0 53 [(0,.pv (.sl 1 t (Zr ns))),(4,.pv (.bool z)),(5,.pv (.int .i64 k))] []:=by
 intro m
 induction m with
 | zero=>
  intro k z l hd h
  have ha:ns.all Qq=true:=by
   rw[List.all_eq_true]
   intro x q
   obtain⟨j,g,rfl⟩:=List.getElem_of_mem q
   exact hd j g (by omega)
  rw[List.take_of_length_le (by omega)]at h
  cases z with
  | true=>
   refine a9m ns t k _ (by simp;omega) rfl ?_
   simp[Xc,Y2,Xl,ha,<- h,Nat.not_lt.2 i]
  | false=>
   refine a7q ns t k _ (by simp;omega) rfl ?_
   refine a1l ns t i ha ns.length 0 1 (by omega) (by omega) (by omega) ?_
   simp only[Xc,Y2,Xl,ha,<- h,Nat.not_lt.2 i,decide_false,cond_false,cond_true,List.drop_zero]
   cases Tk 1 ns <;> rfl
 | succ m ih=>
  intro k z l hd h
  have b:k<ns.length:=by omega
  have e:=Hl b
  have a:Qq ns[k]=false->Xc [.sl 1 t (Zr ns)] = .tup [.int .i64 0,.int .i64 2]:=by
   intro hb
   have ha:ns.all Qq=false:=by
    rw[List.all_eq_false]
    exact⟨_,List.getElem_mem b,by simp[hb]⟩
   simp[Xc,Y2,Xl,ha,Nat.not_lt.2 i]
  have hn:(ns.take (k+1)).any (· == 0)=(z||ns[k]==0):=by
   rw[List.take_succ_eq_append_getElem b,List.any_append,h];simp
  have hd':Qq ns[k]=true-> ∀ j (g:j<ns.length),j<k+1->Qq ns[j]=true:=by
   intro hb j g hjk
   by_cases he:j=k
   ·subst he;exact hb
   ·exact hd j g (by omega)
  by_cases h1:ns[k]<0
  ·refine a8a ns t k z (by simp;omega) (by simp;omega) (by rw[e];rfl) (by rw[e];simpa [PV.cells,PV.asInt]using h1) (a ?_).symm
   simp[Qq];omega
  ·by_cases h2:4096<ns[k]
   ·refine b3e ns t k z (by simp;omega) (by simp;omega) (by rw[e];rfl) (by rw[e];simpa [PV.cells,PV.asInt]using h1) (by rw[e];simpa [PV.cells,PV.asInt]using h2) (a ?_).symm
    simp[Qq];omega
   ·have hb:Qq ns[k]=true:=by simp[Qq];omega
    cases z with
    | true=>
     refine b1l ns t k true (by simp;omega) (by simp;omega) (by rw[e];rfl) (by rw[e];simpa [PV.cells,PV.asInt]using h1) (by rw[e];simpa [PV.cells,PV.asInt]using h2) rfl ?_
     rw[next (by omega)]
     exact ih (k+1) true (by omega) (hd' hb) (by rw[hn];rfl)
    | false=>
     refine a9s ns t k false (by simp;omega) (by simp;omega) (by rw[e];rfl) (by rw[e];simpa [PV.cells,PV.asInt]using h1) (by rw[e];simpa [PV.cells,PV.asInt]using h2) rfl ?_
     rw[next (by omega),e]
     exact ih (k+1) _ (by omega) (hd' hb) (by rw[hn];rfl)
theorem c0c: ∀ ps,KM ps=true->Zd Y3 0 (fun st=>fin st YL=some (Xc ps)) YM [] (Zx 53 ps):=by
 intro ps a
 unfold KM at a
 split at a
 ·rename_i t xs
  obtain⟨ns,rfl⟩:=Rf a
  by_cases h6:6<ns.length
  ·refine c1j ns t (by simp;omega) ?_
   simp[Xc,Y2,Xl,h6]
  ·refine c3y ns t (by simp;omega) ?_
   exact a4f ns t (by omega) ns.length 0 false (by omega) (fun j hj h=>by omega) (by simp)
 ·cases a
def a9f(v:Int):List Int->Nat->Int
 | [],_=> -1
 | n::r,i=>bif v==n then i else a9f v r (i+1)
theorem e1c{v:Int}: ∀ {l:List Int} {i:Nat},decide (0<=a9f v l i)=l.any (· == v):=by
 intro l
 induction l with
 | nil=>intro i;rfl
 | cons n r ih=>
  intro i
  simp only[a9f,List.any_cons]
  by_cases h:v=n
  ·subst h;simp
  ·have h1:(v==n)=false:=by simpa using h
   have h2:(n==v)=false:=by simp;omega
   simp only[h1,h2,cond_false,Bool.false_or]
   exact ih
def GX:List PV->PV
 | [.sl _ _ xs,.int _ v]=>.int .i64 (a9f v (xs.map PV.asInt) 0)
 | _=>.nilp
theorem b3n(ns:List Int)(t:Bool)(v:Int)(hl:ns.length<=1099511627776){r:PV}: ∀ (m k:Nat),m+k=ns.length->r = .int .i64 (a9f v (ns.drop k) k) ->
  At Qk 0 (fun st=>fin st VI=some r) VT 0 19 [(0,.pv (.sl 1 t (Zr ns))),(1,.pv (.int .i64 v)),(7,.pv (.int .i64 (Zr ns).length)),(8,.pv (.int .i64 k))] []:=by
 intro m
 induction m with
 | zero=>
  intro k b hr
  rw[List.drop_of_length_le (by omega)]at hr
  exact b0p ns t v k (by simp;omega) hr.symm
 | succ m ih=>
  intro k b hr
  have a:k<ns.length:=by omega
  have e:=Hl a
  rw[List.drop_eq_getElem_cons a,a9f]at hr
  cases hb:v==ns[k]with
  | true=>
   rw[hb,cond_true]at hr
   exact b1c ns t v k (by simp;omega) (by simp;omega) (by rw[e];rfl) (by rw[e];exact hb) hr.symm
  | false=>
   rw[hb,cond_false]at hr
   refine b2o ns t v k (by simp;omega) (by simp;omega) (by rw[e];rfl) (by rw[e];exact hb) ?_
   rw[next (by omega)]
   exact ih (k+1) (by omega) hr
theorem c2r: ∀ ps,YB ps=true->Zd Qk 0 (fun st=>fin st VI=some (GX ps)) VT [] (Zx 19 ps):=by
 intro ps a
 unfold YB at a
 split at a
 ·rename_i t xs v
  simp only[Bool.and_eq_true,decide_eq_true_eq]at a
  obtain⟨ns,rfl⟩:=Rf a.1
  refine c2a ns t v ?_
  exact b3n ns t v (by have:=a.2;rwa [Ta]at this) ns.length 0 (by omega) (by simp[GX])
 ·cases a
def PV.ns(p:PV):List Int:=p.asXs.map PV.asInt
def Hf:IC:=(Ug [Z6 4 (f'' false) 0] (Ug [Z6 5 (VG 0) 0,Z6 6 (VG 1) 0,Z6 7 (c'' 217 [(.t 5),(.t 6)]) 0,Z6 8 (Cn .geq (.t 7) (W9 0)) 2,Z6 4 (VG 8) 2] .ret))
def H6:List IRes:=[(.tmp 4)]
abbrev a0u:Nat:=9
def Cb:ZC:=Yh [(217,.pure YB GX)]
theorem FN{r:PV}(ns:List Int)(t:Bool)(v:Int)(a:(YB [(.sl 1 t (Zr ns)),(.int .i64 v)])=true)(hr:(.bool (decide (a9f v (List.map PV.asInt (Zr ns)) 0 ≥ 0)))=r):Zd Cb 0 (fun st=>fin st H6=some r) Hf [] (Zx 9 [.sl 1 t (Zr ns),.int .i64 v]):=Zd.w (.req (.lit (.nil))) (And.intro a hr) (by kernel_rfl)
theorem Og: ∀ ps,YB ps=true->Zd Cb 0 (fun st=>fin st H6=some (Qn ps)) Hf [] (Zx a0u ps):=by
 intro ps a
 have b:=a
 unfold YB at a
 split at a
 ·rename_i t xs v
  simp only[Bool.and_eq_true,decide_eq_true_eq]at a
  obtain⟨ns,rfl⟩:=Rf a.1
  refine FN ns t v b ?_
  have:=e1c (v:=v) (l:=ns) (i:=0)
  simp only[Xl,Qn,R4,ge_iff_le]
  rw[<- this]
 ·cases a
end Go.Pl
namespace Go.Pl
open Go.RowKit
open Enc (enc dec is)
open EncL (encL decL isL)
set_option maxRecDepth 100000
abbrev g5x(ps:List PV)(k:Int×Er->Prop):Prop:=Ym (fun(x:Str×Unit)=>decide (List.length (Str.s (Prod.fst x))<=1000000)) (fun(x:Str×Unit)=>YO (Prod.fst x)) ps k
abbrev g2p(ps:List PV)(k:Str->Prop):Prop:=Ym (fun(x:Int×Unit)=>decide ((-9223372036854775808:Int)<=Prod.fst x)&&decide (Prod.fst x<=9223372036854775807)) (fun(x:Int×Unit)=>Zq (Prod.fst x)) ps k
abbrev g6o(ps:List PV)(k:Bool->Prop):Prop:=Ym (fun(x:Str×Unit)=>decide (List.length (Str.s (Prod.fst x))<=1000000)) (fun(x:Str×Unit)=>nameB (Prod.fst x)) ps k
abbrev f2r(ps:List PV)(k:Bool->Prop):Prop:=ceP (fun(x:Int×Unit)=>Yp (Prod.fst x)) ps k
noncomputable def Wi:IC:=YI Proofs.Tryz.f128
def WT:List IRes:=[(.tmp 2)]
abbrev d5h:Nat:=67
def VK:ZC:=Yh [(151,.pure (preT (fun _:Str×Str×Unit=>true)) (Zi (fun x:Str×Str×Unit=>x.2.1.s.isPrefixOf x.1.s))),(152,.pure (preT (fun x:Str×Unit=>decide (x.1.s.length<=1000000))) (Zi (fun x:Str×Unit=>YO x.1))),(87,.pure (preT (fun x:Int×Unit=>decide (-9223372036854775808<=x.1)&&decide (x.1<=9223372036854775807))) (Zi (fun x:Int×Unit=>Zq x.1)))]
abbrev d2t(a:List UInt8):Bool:=(decide (0<=1)&&true&&decide (Int.toNat 1<=List.length a)&&decide (List.length a<=List.length a))
abbrev F9(a:List UInt8):Nat×AV:=(34,(.pv (.sl 1 false (Zk a))))
theorem e5h{G:PV->Prop}(s:List UInt8)(h:Ty (fun(x:Str×Str×Unit)=>List.isPrefixOf (Str.s x.2.1) (Str.s x.1)) [(.str s),(.str [(95:UInt8)])] fun e:Bool=>if (e)=true then(d2t s)=true∧((g5x [(.str (List.drop (Int.toNat 1) (List.take (List.length s) s)))] fun a=>((Pj (enc a.2)&&Prod.fst (true,PV.bool (QD (enc a.2))))=true∧(if (QD (enc a.2))=true then if (decide (a.1>0))=true then if (decide ((↑(List.length s):Int)<=10))=true then(g2p [(.int .i64 a.1)] fun b=>((d2t s)=true∧(G ((.bool (Str.s b==List.drop (Int.toNat 1) (List.take (List.length s) s)))))))else(G ((.bool false)))else(G ((.bool false)))else(G ((.bool false)))))))else(At VK 0 (Za WT G) Wi 0 67 [(0,(.pv (.str s))),(F9 s),(35,(.pv (.int .i64 (↑(List.length (Zk s)):Int)))),(36,(.pv (.int .i64 0)))] [])):Zd VK 0 (Za WT G) Wi [] (Zx 67 [.str s]):=Zd.tp (dm [dv Bool,dv (Int×Er),dv Str] 70 0x2222222222220222222222022222022212271200a4222201842220294161103e452) h
theorem a3k{G:PV->Prop}(s:List UInt8)(i:Int)(h:if (decide (i<(↑(List.length (Zk s)):Int)))=true then(decide (0<=i)&&decide (Int.toNat i<List.length (Zk s))&&1==1)=true∧((decide (0+List.length [Sh.int IntKind.u8]<=List.length (PV.cells (List.getD (Zk s) (Int.toNat i) default)))&&Yk (PV.cells (List.getD (Zk s) (Int.toNat i) default)) 0 [Sh.int IntKind.u8])=true∧(if (decide (PV.asInt (List.getD (PV.cells (List.getD (Zk s) (Int.toNat i) default)) 0 default)<97))=true then if (i==0)=true then G ((.bool false))else(if (decide (PV.asInt (List.getD (PV.cells (List.getD (Zk s) (Int.toNat i) default)) 0 default)<48))=true then G ((.bool false))else(if (decide (PV.asInt (List.getD (PV.cells (List.getD (Zk s) (Int.toNat i) default)) 0 default)>57))=true then G ((.bool false))else(At VK 0 (Za WT G) Wi 0 67 [(0,(.pv (.str s))),(F9 s),(35,(.pv (.int .i64 (↑(List.length (Zk s)):Int)))),(36,(.pv (.int .i64 (IntKind.wrap IntKind.i64 (i+1)))))] [])))else(if (decide (PV.asInt (List.getD (PV.cells (List.getD (Zk s) (Int.toNat i) default)) 0 default)>122))=true then if (i==0)=true then G ((.bool false))else(if (decide (PV.asInt (List.getD (PV.cells (List.getD (Zk s) (Int.toNat i) default)) 0 default)<48))=true then G ((.bool false))else(if (decide (PV.asInt (List.getD (PV.cells (List.getD (Zk s) (Int.toNat i) default)) 0 default)>57))=true then G ((.bool false))else(At VK 0 (Za WT G) Wi 0 67 [(0,(.pv (.str s))),(F9 s),(35,(.pv (.int .i64 (↑(List.length (Zk s)):Int)))),(36,(.pv (.int .i64 (IntKind.wrap IntKind.i64 (i+1)))))] [])))else(At VK 0 (Za WT G) Wi 0 67 [(0,(.pv (.str s))),(F9 s),(35,(.pv (.int .i64 (↑(List.length (Zk s)):Int)))),(36,(.pv (.int .i64 (IntKind.wrap IntKind.i64 (i+1)))))] []))))else(if (!s==[])=true then G ((.bool (decide ((↑(List.length s):Int)<=30))))else(G ((.bool false))))):At VK 0 (Za WT G) Wi 0 67 [(0,.pv (.str s)),(34,.pv (.sl 1 false (Zk s))),(35,.pv (.int .i64 (Zk s).length)),(36,.pv (.int .i64 i))] []:=At.tp (dm [] 137 0x22202222005420222222220200014222220222220064222220222222222200b422202d42220200014222220222220064222220222222222200b42222220304213107542) h
noncomputable def Vz:IC:=VY
def VB:List IRes:=[(.tmp 2)]
abbrev c1k:Nat:=54
def UL:ZC:=Yh [(129,.pure (preT (fun _:Int×Unit=>true)) (Zi (fun x:Int×Unit=>Yp x.1))),(128,.pure (preT (fun x:Str×Unit=>decide (x.1.s.length<=1000000))) (Zi (fun x:Str×Unit=>nameB x.1)))]
abbrev a9q(a:Lin):Nat×AV:=(6,(.pv (.sl 2 false (List.map enc a.t))))
theorem c7u{G:PV->Prop}(l:Lin)(h:At UL 0 (Za VB G) Vz 0 54 [(1,(.ptr 0 0)),(a9q l),(7,(.pv (.int .i64 (↑(List.length (List.map enc l.t)):Int)))),(8,(.pv (.int .i64 0)))] [(.obj (.box [(.pv (.int .i64 l.k)),(.pv (.sl 2 false (List.map enc l.t)))]))]):Zd UL 0 (Za VB G) Vz [] (Zx 54 [enc l]):=Zd.tp (.nil) h
theorem MM{G:PV->Prop}(l:Lin)(i:Int)(h:if (decide (i<(↑(List.length l.t):Int)))=true then(Y1 l.t i 2 fun a=>((g6o [(.str (PV.asStr (Vy a)))] fun g=>(if (!g)=true then G ((.bool false))else(if (PV.asInt (Tv a)==0)=true then G ((.bool false))else(f2r [(.int .i64 (PV.asInt (Tv a)))] fun b=>(if (!b)=true then G ((.bool false))else(if (decide (i>0))=true then(decide (0<=IntKind.wrap IntKind.i64 (i - 1))&&decide (Int.toNat (IntKind.wrap IntKind.i64 (i - 1))<List.length (List.map enc l.t))&&Enc.sz Coef==2)=true∧(el' l.t (IntKind.wrap IntKind.i64 (i - 1)) fun e:Coef=>if (!Op.bytesLess (PV.asStr (List.getD (List.drop 0 (PV.cells (enc e))) 0 default)) (PV.asStr (Vy a)))=true then G ((.bool false))else(At UL 0 (Za VB G) Vz 0 54 [(1,(.ptr 0 0)),(a9q l),(7,(.pv (.int .i64 (↑(List.length l.t):Int)))),(8,(.pv (.int .i64 (IntKind.wrap IntKind.i64 (i+1)))))] [(.obj (.box [(.pv (.int .i64 l.k)),(.pv (.sl 2 false (List.map enc l.t)))]))]))else(At UL 0 (Za VB G) Vz 0 54 [(1,(.ptr 0 0)),(a9q l),(7,(.pv (.int .i64 (↑(List.length l.t):Int)))),(8,(.pv (.int .i64 (IntKind.wrap IntKind.i64 (i+1)))))] [(.obj (.box [(.pv (.int .i64 l.k)),(.pv (.sl 2 false (List.map enc l.t)))]))])))))))))else(f2r [(.int .i64 l.k)] fun j=>(if (j)=true then G ((.bool (decide ((↑(List.length (List.map enc l.t)):Int)<=12))))else(G ((.bool false)))))):At UL 0 (Za VB G) Vz 0 54 [(1,.ptr 0 0),(6,.pv (enc l.t)),(7,.pv (.int .i64 l.t.length)),(8,.pv (.int .i64 i))] [.obj (.box [.pv (.int .i64 l.k),.pv (enc l.t)])]:=At.tp (dm [dr Coef,dv Bool] 128 0x2222022222006462022222222222222020001422222222225122222018422202222200642262220222222222200b4222202222222222222200f46125106942) h
end Go.Pl
namespace Go.Pl
open Go.RowKit
open Enc (enc dec is)
open EncL (encL decL isL)
theorem a6x{s:List UInt8}{i:Nat}(h:i<s.length):List.getD (Zk s) (Int.toNat (i:Int)) default = .int .u8 (s[i].toNat:Int):=by
 simp[Zk,List.getD,h]
theorem Qw(s:List UInt8):(Zk s).length=s.length:=by simp[Zk]
def a1r(c:UInt8):Bool:=lowB c||digB c
theorem EW{c:UInt8}:lowB c=true ↔ 97<=c.toNat∧c.toNat<=122:=by
 simp only[lowB,Bool.and_eq_true,decide_eq_true_eq,UInt8.le_iff_toNat_le]
 have a:(97:UInt8).toNat=97:=rfl
 have b:(122:UInt8).toNat=122:=rfl
 rw[a,b]
theorem GL{c:UInt8}(h : ¬ (97<=c.toNat∧c.toNat<=122)):lowB c=false:=by
 cases e:lowB c
 ·rfl
 ·exact absurd (EW.1 e) h
theorem GD{c:UInt8}(h : ¬ (48<=c.toNat∧c.toNat<=57)):digB c=false:=by
 cases e:digB c
 ·rfl
 ·exact absurd (Vj.1 e) h
def XW(s:List UInt8)(i:Nat):Bool:=(match i with|0=>(match s with|[]=>true|c::r=>lowB c&&r.all a1r)|i+1=>(s.drop (i+1)).all a1r)&&(!(s==[]))&&decide (s.length<=30)
theorem Mw{s:List UInt8}{i:Nat}(h:i<s.length)(hb:lowB s[i]=true∨(i≠0∧digB s[i]=true)):XW s i=XW s (i+1):=by
 cases i with
 | zero=>
  cases s with
  | nil=>simp at h
  | cons c r=>
   rcases hb with hb|hb
   ·have hb:lowB c=true:=hb
    simp[XW,hb]
   ·exact absurd rfl hb.1
 | succ i=>
  unfold XW
  simp only
  rw[List.drop_eq_getElem_cons h,List.all_cons]
  have:a1r s[i+1]=true:=by
   rcases hb with hb|hb
   ·simp[a1r,hb]
   ·simp[a1r,hb.2]
  rw[this,Bool.true_and]
theorem MI{s:List UInt8}{i:Nat}(h:i<s.length)(hb:lowB s[i]=false∧(i=0∨digB s[i]=false)):XW s i=false:=by
 cases i with
 | zero=>
  cases s with
  | nil=>simp at h
  | cons c r=>
   have hb:lowB c=false:=hb.1
   simp[XW,hb]
 | succ i=>
  unfold XW
  simp only
  rw[List.drop_eq_getElem_cons h,List.all_cons]
  have:a1r s[i+1]=false:=by
   rcases hb.2 with h0|h0
   ·cases h0
   ·simp[a1r,hb.1,h0]
  rw[this];simp
theorem b0g(s:List UInt8)(hs:s.length<=1000000): ∀ (m i:Nat),m+i=s.length->At VK 0 (Za WT (Zf (XW s i))) Wi 0 67 [(0,.pv (.str s)),(34,.pv (.sl 1 false (Zk s))),(35,.pv (.int .i64 (Zk s).length)),(36,.pv (.int .i64 i))] []:=by
 intro m
 induction m with
 | zero=>
  intro i hi
  have e:XW s i=(!(s==[])&&decide (s.length<=30)):=by
   unfold XW
   cases i with
   | zero=>cases s with
    | nil=>rfl
    | cons c r=>simp at hi
   | succ i=>simp only;rw[List.drop_of_length_le (show s.length<=i+1 by omega)];simp
  rw[e]
  refine a3k s i (ZU (Yv (by rw[Qw];omega)) (YV (fun h=>Zl ?_) fun h=>Zl ?_))
  ·rw[h,Bool.true_and];exact decide_eq_decide.2 (by omega)
  ·rw[h,Bool.false_and]
 | succ m ih=>
  intro i hi
  have a:i<s.length:=by omega
  have h:=ih (i+1) (by omega)
  refine a3k s i ?_
  rw[a6x a,next (by omega)]
  have b:(lowB s[i]=false∧(i=0∨digB s[i]=false))->Zf (XW s i) (.bool false):=fun hb=>Zl (MI a hb).symm
  have go:(lowB s[i]=true∨(i≠0∧digB s[i]=true))->At VK 0 (Za WT (Zf (XW s i))) Wi 0 67 [(0,.pv (.str s)),(34,.pv (.sl 1 false (Zk s))),(35,.pv (.int .i64 (Zk s).length)),(36,.pv (.int .i64 ((i+1:Nat):Int)))] []:=fun hb=>by rw[Mw a hb];exact h
  have g:lowB s[i]=false->(if ((i:Int)==0)=true then Zf (XW s i) (.bool false)else if decide ((s[i].toNat:Int)<48)=true then Zf (XW s i) (.bool false)else if decide ((s[i].toNat:Int)>57)=true then Zf (XW s i) (.bool false)else At VK 0 (Za WT (Zf (XW s i))) Wi 0 67 [(0,.pv (.str s)),(34,.pv (.sl 1 false (Zk s))),(35,.pv (.int .i64 (Zk s).length)),(36,.pv (.int .i64 ((i+1:Nat):Int)))] []):=by
   intro j
   refine ZA (fun k=>b ⟨j,.inl (by omega)⟩) fun k=>ZO (fun h1=>b ⟨j,.inr (GD (by omega))⟩) fun h1=>ZO (fun h2=>b ⟨j,.inr (GD (by omega))⟩) fun h2=>go (.inr ⟨by omega,Vj.2 (by omega)⟩)
  refine ZT (Yq (by rw[Qw];exact a)) ⟨by rw[Qw];simp[a],by rfl,?_⟩
  refine ZO (fun h1=>g (GL ?_)) fun h1=>ZO (fun h2=>g (GL ?_)) fun h2=>go (.inl (EW.2 ?_))
  ·have h1:(s[i].toNat:Int)<97:=h1
   omega
  ·have h2:(s[i].toNat:Int)>122:=h2
   omega
  ·have h1 : ¬ (s[i].toNat:Int)<97:=h1
   have h2 : ¬ (s[i].toNat:Int)>122:=h2
   omega
theorem LP{s:List UInt8}(h:[95].isPrefixOf s=false):nameB ⟨s⟩=XW s 0:=by
 cases s with
 | nil=>rfl
 | cons c r=>
  have hc : ¬ c=95:=by intro e;subst e;simp at h
  have e:decide ((c::r).length<=30)=decide (r.length<=29):=decide_eq_decide.2 (by simp)
  unfold XW
  rw[e]
  simp only[nameB,if_neg hc]
  show _=(lowB c&&r.all a1r&& !((c::r)==[])&&_)
  have a:((c::r)==[])=false:=rfl
  rw[a]
  simp only[Bool.not_false,Bool.and_true]
  rfl
theorem Ph(s:Str): -9223372036854775808<=(YO s).1∧((YO s).1<=9223372036854775807):=by
 unfold YO
 split
 ·rename_i v a;exact Lib.atoiAll_bounds a
 ·have:=Lib.atoiSat_bounds s.s
  exact⟨by show _<=Lib.atoiSat s.s;omega,by show Lib.atoiSat s.s<=_;omega⟩
 ·exact⟨by show(-9223372036854775808:Int)<=0;omega,by show(0:Int)<=_;omega⟩
theorem c4k: ∀ a:Str×Unit,decide (a.1.s.length<=1000000)=true->Zd VK 0 (Za WT (Zf (nameB a.1))) Wi [] (Zx d5h (encL a)):=by
 rintro⟨⟨s⟩,⟨⟩⟩ b
 have b:s.length<=1000000:=by simpa using b
 refine e5h s (Zb (⟨s⟩,⟨[95]⟩,()) rfl (YV (fun h=> ?_) fun h=> ?_))
 ·have h:[95].isPrefixOf s=true:=h
  obtain⟨r,rfl⟩ : ∃ r,s=95::r:=by
   cases s with
   | nil=>simp at h
   | cons c r=>
    have:95=c:=by simpa using h
    exact⟨r,by rw[this]⟩
  have e:List.drop (Int.toNat 1) (List.take (List.length (95::r)) (95::r))=r:=by rw[List.take_of_length_le (Nat.le_refl _)];rfl
  simp only[e]
  refine⟨by simp,Zc (⟨r⟩,()) rfl (by simp at b ⊢;omega),Zb (⟨r⟩,()) rfl ⟨by show(Pj (enc (YO ⟨r⟩).2)&&true)=true;rw[f2z];rfl,?_⟩⟩
  show if QD (enc (YO ⟨r⟩).2)=true then(if decide ((YO ⟨r⟩).1>0)=true then(if _ then _ else Zf (nameB ⟨95::r⟩) _)else Zf (nameB ⟨95::r⟩) _)else Zf (nameB ⟨95::r⟩) _
  rw[a4q]
  by_cases h9:r.length<=9
  ·rw[<- b6e r h9,decide_eq_true h9,Bool.and_true]
   refine YV (fun h1=>YV (fun h2=>ZT (by simp;omega) ⟨Zc ((YO ⟨r⟩).1,()) rfl (by have:=Ph ⟨r⟩;simp;omega),Zb ((YO ⟨r⟩).1,()) rfl ⟨by simp,Zl ?_⟩⟩) fun h2=>Zl ?_) fun h1=>Zl ?_
   ·rw[h1,h2];simp only[Bool.true_and,Bool.and_true];rfl
   ·rw[h2];simp
   ·rw[h1];simp
  ·rw[decide_eq_false h9,Bool.and_false]
   refine YV (fun h1=>YV (fun h2=>ZU (by simp;omega) (Zl rfl)) fun h2=>Zl rfl) fun h1=>Zl rfl
 ·have h:[95].isPrefixOf s=false:=h
  show At VK 0 (Za WT (Zf (nameB ⟨s⟩))) Wi 0 67 _ _
  rw[LP h]
  exact b0g s b s.length 0 (by omega)
theorem a0a(l:Lin)(hl:l.t.length<=9223372036854775807)(hs:l.t.all (fun t=>decide (t.v.s.length<=1000000))=true): ∀ (j i:Nat),j+i=l.t.length->At UL 0 (Za VB (Zf (AO (pvS l.t i) (l.t.drop i)&&(Yp l.k&&decide (l.t.length<=12))))) Vz 0 54 [(1,.ptr 0 0),(6,.pv (enc l.t)),(7,.pv (.int .i64 l.t.length)),(8,.pv (.int .i64 i))] [.obj (.box [.pv (.int .i64 l.k),.pv (enc l.t)])]:=by
 intro j
 induction j with
 | zero=>
  intro i hi
  refine MM l i (ZU (Yv (by omega)) (Zb (l.k,()) rfl ?_))
  rw[List.drop_of_length_le (show l.t.length<=i by omega)]
  refine YV (fun h=>Zl ?_) fun h=>Zl ?_
  ·have h:Yp l.k=true:=h
   rw[h]
   show _=(true&&(true&&_))
   rw[Bool.true_and,Bool.true_and]
   exact decide_eq_decide.2 (by simp;omega)
  ·have h:Yp l.k=false:=h
   rw[h];simp
 | succ j ih=>
  intro i hi
  have a:i<l.t.length:=by omega
  have h:=ih (i+1) (by omega)
  have e:l.t[i].v.s.length<=1000000:=by rw[List.all_eq_true]at hs;simpa using hs _ (List.getElem_mem a)
  refine MM l i ?_
  refine ZT (Yq a) ⟨Zp a rfl,ZB a ⟨Zc (l.t[i].v,()) rfl (by simpa using e),Zb (l.t[i].v,()) rfl (YY (fun hn=> ?_) fun hn=>ZA (fun hc=> ?_) fun hc=>Zb (l.t[i].c,()) rfl (YY (fun b=> ?_) fun b=> ?_))⟩⟩
  all_goals rw[List.drop_eq_getElem_cons a,H9]
  ·have hn:nameB l.t[i].v=false:=hn
   exact Zl (by simp[hn])
  ·have hc:l.t[i].c=0:=hc
   exact Zl (by simp[hc])
  ·have b:Yp l.t[i].c=false:=b
   exact Zl (by simp[b])
  have hn:nameB l.t[i].v=true:=hn
  have b:Yp l.t[i].c=true:=b
  have hc:l.t[i].c≠0:=hc
  rw[next (by omega),hn,b,decide_eq_true hc]
  have m:pvS l.t (i+1)=some l.t[i].v.s:=by simp[pvS,a]
  rw[m]at h
  cases i with
  | zero=>exact ZU (by simp) h
  | succ i=>
   refine ZT (by simp) ?_
   rw[F7 (by omega)]
   refine⟨Zp (by omega) rfl,ZB (by omega) ?_⟩
   have q:pvS l.t (i+1)=some l.t[i].v.s:=by simp[pvS,show i<l.t.length by omega]
   rw[q]
   refine YY (fun hb=> ?_) fun hb=> ?_
   all_goals
    have g:=(We l.t[i].v.s l.t[i+1].v.s).symm.trans hb
    simp only[g,Bool.and_true,Bool.true_and,Bool.and_false,Bool.false_and]
   ·exact Zl rfl
   ·exact h
theorem b0k: ∀ a:Lin×Unit,Wn a.1=true->Zd UL 0 (Za VB (Zf (Zh a.1))) Vz [] (Zx c1k (encL a)):=by
 rintro⟨l,⟨⟩⟩ hl
 simp only[Wn,XK,Bool.and_eq_true,decide_eq_true_eq]at hl
 refine c7u l ?_
 show At UL 0 (Za VB (Zf (Zh l))) Vz 0 54 _ _
 have e:Zh l=(AO (pvS l.t 0) (l.t.drop 0)&&(Yp l.k&&decide (l.t.length<=12))):=by rw[RV,Bool.and_comm];rfl
 rw[e,List.length_map]
 exact a0a l hl.1 hl.2 l.t.length 0 (by omega)
end Go.Pl
namespace Go.Pl
open Go.RowKit
open Enc (enc dec is)
open EncL (encL decL isL)
set_option maxRecDepth 100000
abbrev g3l(ps:List PV)(k:Str->Prop):Prop:=Ym (fun(x:Int×Unit)=>decide ((-9223372036854775808:Int)<=Prod.fst x)&&decide (Prod.fst x<=9223372036854775807)) (fun(x:Int×Unit)=>Zq (Prod.fst x)) ps k
abbrev f2w(ps:List PV)(k:Str->Prop):Prop:=Ym (fun(x:Str×Str×Unit)=>decide (List.length (Str.s (Prod.fst x))<=1000000)) (fun(x:Str×Str×Unit)=>Str.mk (Lib.trimSuffix (Str.s (Prod.fst x)) (Str.s (Prod.fst (Prod.snd x))))) ps k
abbrev g6p(ps:List PV)(k:Bool->Prop):Prop:=Ym (fun(x:Lin×Unit)=>Wn (Prod.fst x)) (fun(x:Lin×Unit)=>Zh (Prod.fst x)) ps k
noncomputable def Et:IC:=YI Proofs.Tryz.f92
def FT:List IRes:=[]
abbrev e9t:Nat:=33
def a9a:ZC:=Yh [(87,.pure (preT (fun x:Int×Unit=>decide (-9223372036854775808<=x.1)&&decide (x.1<=9223372036854775807))) (Zi (fun x:Int×Unit=>Zq x.1))),(93,.pure (preT (fun x:Str×Str×Unit=>decide (x.1.s.length<=1000000))) (Zi (fun x:Str×Str×Unit=>(⟨Lib.trimSuffix x.1.s x.2.1.s⟩:Str))))]
theorem f5n{G:AV×List AObj×List AObj->Prop}(n:Int)(s o:List UInt8)(h:(g3l [(.int .i64 n)] fun a=>(if (!s==[])=true then if (n==1)=true then(f2w [(.str (Str.s a)),(.str [(49:UInt8)])] fun e=>(if (decide (n ≥ 0))=true then if (!o==[])=true then Zz o [(43:UInt8)]∧(Zz (Str.s e) s∧(Zz (o++[(43:UInt8)]) (Str.s e++s)∧(G (((.tup []),([(.box [(.pv (.str (o++[(43:UInt8)]++(Str.s e++s))))])],[]))))))else(Zz (Str.s e) s∧(Zz o (Str.s e++s)∧(G (((.tup []),([(.box [(.pv (.str (o++(Str.s e++s))))])],[]))))))else(Zz (Str.s e) s∧(Zz o (Str.s e++s)∧(G (((.tup []),([(.box [(.pv (.str (o++(Str.s e++s))))])],[]))))))))else(if (n==(-1:Int))=true then(f2w [(.str (Str.s a)),(.str [(49:UInt8)])] fun b=>(if (decide (n ≥ 0))=true then if (!o==[])=true then Zz o [(43:UInt8)]∧(Zz (Str.s b) s∧(Zz (o++[(43:UInt8)]) (Str.s b++s)∧(G (((.tup []),([(.box [(.pv (.str (o++[(43:UInt8)]++(Str.s b++s))))])],[]))))))else(Zz (Str.s b) s∧(Zz o (Str.s b++s)∧(G (((.tup []),([(.box [(.pv (.str (o++(Str.s b++s))))])],[]))))))else(Zz (Str.s b) s∧(Zz o (Str.s b++s)∧(G (((.tup []),([(.box [(.pv (.str (o++(Str.s b++s))))])],[]))))))))else(if (decide (n ≥ 0))=true then if (!o==[])=true then Zz o [(43:UInt8)]∧(Zz (Str.s a) s∧(Zz (o++[(43:UInt8)]) (Str.s a++s)∧(G (((.tup []),([(.box [(.pv (.str (o++[(43:UInt8)]++(Str.s a++s))))])],[]))))))else(Zz (Str.s a) s∧(Zz o (Str.s a++s)∧(G (((.tup []),([(.box [(.pv (.str (o++(Str.s a++s))))])],[]))))))else(Zz (Str.s a) s∧(Zz o (Str.s a++s)∧(G (((.tup []),([(.box [(.pv (.str (o++(Str.s a++s))))])],[]))))))))else(if (decide (n ≥ 0))=true then if (!o==[])=true then Zz o [(43:UInt8)]∧(Zz (Str.s a) s∧(Zz (o++[(43:UInt8)]) (Str.s a++s)∧(G (((.tup []),([(.box [(.pv (.str (o++[(43:UInt8)]++(Str.s a++s))))])],[]))))))else(Zz (Str.s a) s∧(Zz o (Str.s a++s)∧(G (((.tup []),([(.box [(.pv (.str (o++(Str.s a++s))))])],[]))))))else(Zz (Str.s a) s∧(Zz o (Str.s a++s)∧(G (((.tup []),([(.box [(.pv (.str (o++(Str.s a++s))))])],[])))))))))):Zd a9a 1 (Xw 1 FT G) Et [] (U3 33 [.pv (enc n),.pv (.str s),.ptr 0 0] [.box [.pv (.str o)]]):=Zd.to (dm [dv Str] 138 0x112220110111004422200e42222220112220110111004422200e420112220110111004422200e425101b4222220112220110111004422200e42512222202042220644251) h
noncomputable def Qu:IC:=YI Proofs.Tryz.f58
def Uk:List IRes:=[(.tmp 2)]
abbrev c5d:Nat:=37
def QA:ZC:=Yh [(91,.pure (preT (fun x:Lin×Unit=>Wn x.1)) (Zi (fun x:Lin×Unit=>Zh x.1))),(92,.own WJ Cv)]
theorem d0z{G:PV->Prop}(l:Lin)(h:(g6p [(.agg [(.int .i64 l.k),(.sl 2 false (List.map enc l.t))])] fun a=>(if (!a)=true then G ((.str []))else(At QA 0 (Za Uk G) Qu 0 37 [(1,(.ptr 0 0)),(3,(.ptr 1 0)),(4,(.fn 92 [] [(.ptr 1 0)])),(12,(.pv (.sl 2 false (List.map enc l.t)))),(13,(.pv (.int .i64 (↑(List.length (List.map enc l.t)):Int)))),(14,(.pv (.int .i64 0)))] [(.obj (.box [(.pv (.int .i64 l.k)),(.pv (.sl 2 false (List.map enc l.t)))])),(.obj (.box [(.pv (.str []))]))])))):Zd QA 0 (Za Uk G) Qu [] (Zx 37 [enc l]):=Zd.tp (dm [dv Bool] 9 0x1451) h
theorem L9{G:PV->Prop}(l:Lin)(o:List UInt8)(i:Int)(h:if (decide (i<(↑(List.length l.t):Int)))=true then(Y1 l.t i 2 fun a=>((WJ [(.pv (.int .i64 (PV.asInt (Tv a)))),(.pv (.str (PV.asStr (Vy a)))),(.ptr 0 0)] [(.box [(.pv (.str o))])])=true∧(At QA 0 (Za Uk G) Qu 0 37 [(1,(.ptr 0 0)),(3,(.ptr 1 0)),(4,(.fn 92 [] [(.ptr 1 0)])),(12,(.pv (.sl 2 false (List.map enc l.t)))),(13,(.pv (.int .i64 (↑(List.length l.t):Int)))),(14,(.pv (.int .i64 (IntKind.wrap IntKind.i64 (i+1)))))] [(.obj (.box [(.pv (.int .i64 l.k)),(.pv (.sl 2 false (List.map enc l.t)))])),(.obj (.box [(.pv (.str (XT o (PV.asInt (Tv a)) (PV.asStr (Vy a)))))]))])))else(if (l.k != 0)=true then(WJ [(.pv (.int .i64 l.k)),(.pv (.str [])),(.ptr 0 0)] [(.box [(.pv (.str o))])])=true∧(G ((.str (XT o l.k []))))else(if (o==[])=true then(WJ [(.pv (.int .i64 l.k)),(.pv (.str [])),(.ptr 0 0)] [(.box [(.pv (.str o))])])=true∧(G ((.str (XT o l.k []))))else(G ((.str o)))))):At QA 0 (Za Uk G) Qu 0 37 [(1,.ptr 0 0),(3,.ptr 1 0),(4,.fn 92 [] [.ptr 1 0]),(12,.pv (enc l.t)),(13,.pv (.int .i64 l.t.length)),(14,.pv (.int .i64 i))] [.obj (.box [.pv (.int .i64 l.k),.pv (enc l.t)]),.obj (.box [.pv (.str o)])]:=At.tp (dm [dr Coef] 35 0x31003422203122200642023125100742) h
end Go.Pl
namespace Go.Pl
open Go.RowKit
open Enc (enc dec is)
open EncL (encL decL isL)
theorem a2s(s p:List UInt8):(Lib.trimSuffix s p).length<=s.length:=by
 unfold Lib.trimSuffix
 split
 ·rw[List.length_take];omega
 ·exact Nat.le_refl _
theorem c8m: ∀ args os,WJ args os=true->Zd a9a os.length (Xw os.length FT fun r=>r=Cv args os) Et [] (U3 e9t args os):=by
 intro args os h
 unfold WJ at h
 split at h
 ·rename_i n s o
  simp only[Bool.and_eq_true,decide_eq_true_eq]at h
  obtain⟨⟨⟨k,l⟩,hs⟩,ho⟩:=h
  have ev:Cv [.pv (.int .i64 n),.pv (.str s),.ptr 0 0] [.box [.pv (.str o)]]=(.tup [],[.box [.pv (.str (XT o n s))]],[]):=rfl
  rw[ev]
  have hi:=Lib.itoa_length_le n k l
  have hi:(Zq n).s.length<=21:=hi
  have ht:=a2s (Zq n).s [49]
  have fin : ∀ (b:Bool) (x:List UInt8),x.length<=21->(decide (s≠[])&&(decide (n=1)||decide (n = -1)))=b->x=(if b then Lib.trimSuffix (Zq n).s [49]else(Zq n).s) ->
    (if decide (n ≥ 0)=true then(if (!o==[])=true then(decide (o.length+List.length [(43:UInt8)]<=1099511627776)=true∧(decide (x.length+s.length<=1099511627776)=true∧(decide (List.length (o++[(43:UInt8)])+List.length (x++s)<=1099511627776)=true∧((AV.tup [],[AObj.box [.pv (.str (o++[(43:UInt8)]++(x++s)))]],([]:List AObj))=(.tup [],[.box [.pv (.str (XT o n s))]],[])))))
     else(decide (x.length+s.length<=1099511627776)=true∧(decide (o.length+List.length (x++s)<=1099511627776)=true∧((AV.tup [],[AObj.box [.pv (.str (o++(x++s)))]],([]:List AObj))=(.tup [],[.box [.pv (.str (XT o n s))]],[])))))
    else(decide (x.length+s.length<=1099511627776)=true∧(decide (o.length+List.length (x++s)<=1099511627776)=true∧((AV.tup [],[AObj.box [.pv (.str (o++(x++s)))]],([]:List AObj))=(.tup [],[.box [.pv (.str (XT o n s))]],[]))))):=by
   intro b x hx hb i
   have g : ∀ j:List UInt8,j=(if decide (n ≥ 0)&&decide (o≠[])then o++[43]else o)->XT o n s=j++(x++s):=by
    intro j h2
    unfold XT
    rw[hb,<- h2,<- i]
   refine ZO (fun e=>Cc (fun h1=> ?_) fun h1=> ?_) fun e=> ?_
   ·have h1:o≠[]:=by simpa using h1
    refine⟨by simp;omega,by simp;omega,by simp;omega,?_⟩
    rw[g (o++[43]) (by simp[e,h1])]
   ·have h1:o=[]:=by simpa using h1
    refine⟨by simp;omega,by simp;omega,?_⟩
    rw[g o (by simp[h1])]
   ·refine⟨by simp;omega,by simp;omega,?_⟩
    rw[g o (by simp[e])]
  refine f5n n s o ⟨Zc (n,()) rfl (by show(decide (-9223372036854775808<=n)&&decide (n<=9223372036854775807))=true;rw[decide_eq_true k,decide_eq_true l];rfl),Zb (n,()) rfl (Cc (fun h1=> ?_) fun h1=> ?_)⟩
  ·have h1:s≠[]:=by simpa using h1
   have a:decide ((Zq n).s.length<=1000000)=true:=decide_eq_true (by omega)
   refine ZA (fun h2=> ?_) fun h2=>ZA (fun h3=> ?_) fun h3=> ?_
   ·have h2:n=1:=h2
    exact⟨Zc (Zq n,(⟨[49]⟩:Str),()) rfl a,Zb (Zq n,(⟨[49]⟩:Str),()) rfl (fin true _ (by show(Lib.trimSuffix (Zq n).s [49]).length<=21;omega) (by simp[h1,h2]) rfl)⟩
   ·have h3:n = -1:=h3
    exact⟨Zc (Zq n,(⟨[49]⟩:Str),()) rfl a,Zb (Zq n,(⟨[49]⟩:Str),()) rfl (fin true _ (by show(Lib.trimSuffix (Zq n).s [49]).length<=21;omega) (by simp[h1,h3]) rfl)⟩
   ·have h2:n≠1:=h2
    have h3:n ≠ -1:=h3
    exact fin false _ hi (by simp[h2,h3]) rfl
  ·have h1:s=[]:=by simpa using h1
   exact fin false _ hi (by simp[h1]) rfl
 ·cases h
theorem d9r(o:List UInt8)(n:Int)(s:List UInt8)(a : -9223372036854775808<=n)(b:n<=9223372036854775807):(XT o n s).length<=o.length+1+21+s.length:=by
 have hi:=Lib.itoa_length_le n a b
 have hi:(Zq n).s.length<=21:=hi
 have ht:=a2s (Zq n).s [49]
 unfold XT
 split <;> split <;> simp <;> omega
theorem a0l(l:Lin)(g:Zh l=true): ∀ (m i:Nat) (o:List UInt8),m+i=l.t.length->o.length<=100*i ->
  At QA 0 (Za Uk (Zf (⟨if decide (l.k≠0)||decide ((l.t.drop i).foldl (fun o t=>XT o t.c t.v.s) o=[])then XT ((l.t.drop i).foldl (fun o t=>XT o t.c t.v.s) o) l.k []else(l.t.drop i).foldl (fun o t=>XT o t.c t.v.s) o⟩:Str))) Qu 0 37 [(1,.ptr 0 0),(3,.ptr 1 0),(4,.fn 92 [] [.ptr 1 0]),(12,.pv (enc l.t)),(13,.pv (.int .i64 l.t.length)),(14,.pv (.int .i64 i))] [.obj (.box [.pv (.int .i64 l.k),.pv (enc l.t)]),.obj (.box [.pv (.str o)])]:=by
 have hlen:=Uj g
 have hk:=Oz g
 intro m
 induction m with
 | zero=>
  intro i o hi ho
  have e:l.t.drop i=[]:=List.drop_of_length_le (by omega)
  rw[e,List.foldl_nil]
  have b:WJ [.pv (.int .i64 l.k),.pv (.str []),.ptr 0 0] [.box [.pv (.str o)]]=true:=by
   simp only[WJ,Bool.and_eq_true,decide_eq_true_eq,List.length_nil]
   exact⟨⟨⟨by omega,by omega⟩,by omega⟩,by omega⟩
  refine L9 l o i (ZU (Yv (by omega)) (Cc (fun h1=>⟨b,?_⟩) fun h1=>ZA (fun h2=>⟨b,?_⟩) fun h2=> ?_))
  ·have h1:l.k≠0:=by simpa using h1
   rw[if_pos (by simp[h1])]
   exact⟨rfl,rfl⟩
  ·have h2:o=[]:=h2
   rw[if_pos (by simp[h2])]
   exact⟨rfl,rfl⟩
  ·have h1:l.k=0:=by simpa using h1
   have h2:o≠[]:=h2
   rw[if_neg (by simp[h1,h2])]
   exact⟨rfl,rfl⟩
 | succ m ih=>
  intro i o hi ho
  have a:i<l.t.length:=by omega
  have e:l.t.drop i=l.t[i]::l.t.drop (i+1):=List.drop_eq_getElem_cons a
  rw[e,List.foldl_cons]
  obtain⟨h,c1,c2,c3⟩:=WK g (List.getElem_mem a)
  have hn:=Vg h
  have hpl:=d9r o l.t[i].c l.t[i].v.s (by omega) (by omega)
  refine L9 l o i (ZT (Yq a) ⟨Zp a rfl,ZB a ⟨?_,?_⟩⟩)
  ·have b:WJ [.pv (.int .i64 l.t[i].c),.pv (.str l.t[i].v.s),.ptr 0 0] [.box [.pv (.str o)]]=true:=by
    simp only[WJ,Bool.and_eq_true,decide_eq_true_eq]
    exact⟨⟨⟨by omega,by omega⟩,by omega⟩,by omega⟩
   exact b
  ·rw[next (by omega)]
   exact ih (i+1) (XT o l.t[i].c l.t[i].v.s) (by omega) (by omega)
theorem a8d: ∀ a:Lin×Unit,Wn a.1=true->Zd QA 0 (Za Uk (Zf (⟨ZE a.1⟩:Str))) Qu [] (Zx c5d (encL a)):=by
 rintro⟨l,⟨⟩⟩ h
 show Zd QA 0 (Za Uk (Zf (⟨ZE l⟩:Str))) _ _ _
 refine d0z l ⟨Zc (l,()) rfl h,Zb (l,()) rfl (YY (fun b=> ?_) fun b=> ?_)⟩
 ·have b:Zh l=false:=b
  unfold ZE
  rw[b]
  exact⟨rfl,rfl⟩
 ·have b:Zh l=true:=b
  unfold ZE
  rw[b,if_pos rfl,List.length_map]
  exact a0l l b l.t.length 0 [] (by omega) (by simp)
end Go.Pl
namespace Go.Pl
open Go.RowKit
open Enc (enc dec is)
open EncL (encL decL isL)
set_option maxRecDepth 100000
abbrev g2e(ps:List PV)(k:Int×Er->Prop):Prop:=Ym (fun(x:Str×Unit)=>decide (List.length (Str.s (Prod.fst x))<=281474976710656)) (fun(x:Str×Unit)=>YO (Prod.fst x)) ps k
abbrev g5r(ps:List PV)(k:Str->Prop):Prop:=Ym (fun(x:Int×Unit)=>decide ((-9223372036854775808:Int)<=Prod.fst x)&&decide (Prod.fst x<=9223372036854775807)) (fun(x:Int×Unit)=>Zq (Prod.fst x)) ps k
noncomputable def U0:IC:=YI Proofs.Tryz.f101
def UT:List IRes:=[(.tmp 2)]
abbrev d5w:Nat:=20
def Ka:ZC:=Yh []
-- IMPOSSIBLE
abbrev a7w(a:Lin):Nat×AV:=(7,(.pv (.sl 2 false (List.map enc a.t))))
theorem c9c{G:PV->Prop}(l:Lin)(h:At Ka 0 (Za UT G) U0 0 20 [(3,(.pv (.sl 0 true []))),(a7w l),(8,(.pv (.int .i64 (↑(List.length (List.map enc l.t)):Int)))),(9,(.pv (.int .i64 0)))] []):Zd Ka 0 (Za UT G) U0 [] (Zx 20 [enc l]):=Zd.tp (.nil) h
theorem Rx{G:PV->Prop}(l:Lin)(i:Int)(h:if (decide (i<(↑(List.length l.t):Int)))=true then(Y1 l.t i 2 fun a=>(At Ka 0 (Za UT G) U0 0 20 [(3,(.row 0 1 0 1)),(a7w l),(8,(.pv (.int .i64 (↑(List.length l.t):Int)))),(9,(.pv (.int .i64 (IntKind.wrap IntKind.i64 (i+1)))))] [(.obj (.row false 9 1 [(.str (PV.asStr (Vy a)))]))]))else(G ((.sl 0 true [])))):At Ka 0 (Za UT G) U0 0 20 [(3,.pv (.sl 0 true [])),(7,.pv (enc l.t)),(8,.pv (.int .i64 l.t.length)),(9,.pv (.int .i64 i))] []:=At.tp (dm [dr Coef] 17 0x22222225100a42) h
theorem RI{G:PV->Prop}(l:Lin)(i:Int)(q:Nat)(vs:List Str)(h:if (decide (i<(↑(List.length l.t):Int)))=true then(Y1 l.t i 2 fun a=>((List.length (List.map enc vs)==q&&q==q&&decide ((q+List.length (List.drop 0 (List.take 1 [Sh.co Sh.str (Vy a)])))*16<=1099511627776)&&decide (q+List.length (List.drop 0 (List.take 1 [Sh.co Sh.str (Vy a)]))<=1099511627776))=true∧(At Ka 0 (Za UT G) U0 0 20 [(3,(.row 0 (q+List.length (List.drop 0 (List.take 1 [Sh.co Sh.str (Vy a)]))) 0 (q+List.length (List.drop 0 (List.take 1 [Sh.co Sh.str (Vy a)]))))),(a7w l),(8,(.pv (.int .i64 (↑(List.length l.t):Int)))),(9,(.pv (.int .i64 (IntKind.wrap IntKind.i64 (i+1)))))] [(.obj (.row false 9 1 (List.map enc vs++List.drop 0 (List.take 1 [Sh.co Sh.str (Vy a)]))))])))else((List.length (List.map enc vs)==q)=true∧(G ((.sl 1 false (List.drop 0 (List.take q (List.map enc vs)))))))):At Ka 0 (Za UT G) U0 0 20 [(3,.row 0 q 0 q),(7,.pv (enc l.t)),(8,.pv (.int .i64 l.t.length)),(9,.pv (.int .i64 i))] [.obj (.row false 9 1 (vs.map enc))]:=At.tp (dm [dr Coef] 16 0x10212225100842) h
noncomputable def X4:IC:=Wi
def XX:List IRes:=[(.tmp 2)]
abbrev c0k:Nat:=67
def WG:ZC:=Yh [(151,.pure (preT (fun _:Str×Str×Unit=>true)) (Zi (fun x:Str×Str×Unit=>x.2.1.s.isPrefixOf x.1.s))),(152,.pure (preT (fun x:Str×Unit=>decide (x.1.s.length<=281474976710656))) (Zi (fun x:Str×Unit=>YO x.1))),(87,.pure (preT (fun x:Int×Unit=>decide (-9223372036854775808<=x.1)&&decide (x.1<=9223372036854775807))) (Zi (fun x:Int×Unit=>Zq x.1)))]
abbrev d9s(a:List UInt8):Bool:=(decide (0<=1)&&true&&decide (Int.toNat 1<=List.length a)&&decide (List.length a<=List.length a))
abbrev O9(a:List UInt8):Nat×AV:=(34,(.pv (.sl 1 false (Zk a))))
theorem d2o{G:PV->Prop}(s:List UInt8)(h:Ty (fun(x:Str×Str×Unit)=>List.isPrefixOf (Str.s x.2.1) (Str.s x.1)) [(.str s),(.str [(95:UInt8)])] fun e:Bool=>if (e)=true then(d9s s)=true∧((g2e [(.str (List.drop (Int.toNat 1) (List.take (List.length s) s)))] fun a=>((Pj (enc a.2)&&Prod.fst (true,PV.bool (QD (enc a.2))))=true∧(if (QD (enc a.2))=true then if (decide (a.1>0))=true then if (decide ((↑(List.length s):Int)<=10))=true then(g5r [(.int .i64 a.1)] fun b=>((d9s s)=true∧(G ((.bool (Str.s b==List.drop (Int.toNat 1) (List.take (List.length s) s)))))))else(G ((.bool false)))else(G ((.bool false)))else(G ((.bool false)))))))else(At WG 0 (Za XX G) X4 0 67 [(0,(.pv (.str s))),(O9 s),(35,(.pv (.int .i64 (↑(List.length (Zk s)):Int)))),(36,(.pv (.int .i64 0)))] [])):Zd WG 0 (Za XX G) X4 [] (Zx 67 [.str s]):=Zd.tp (dm [dv Bool,dv (Int×Er),dv Str] 70 0x2222222222220222222222022222022212271200a4222201842220294161103e452) h
theorem M6{G:PV->Prop}(s:List UInt8)(i:Int)(h:if (decide (i<(↑(List.length (Zk s)):Int)))=true then(decide (0<=i)&&decide (Int.toNat i<List.length (Zk s))&&1==1)=true∧((decide (0+List.length [Sh.int IntKind.u8]<=List.length (PV.cells (List.getD (Zk s) (Int.toNat i) default)))&&Yk (PV.cells (List.getD (Zk s) (Int.toNat i) default)) 0 [Sh.int IntKind.u8])=true∧(if (decide (PV.asInt (List.getD (PV.cells (List.getD (Zk s) (Int.toNat i) default)) 0 default)<97))=true then if (i==0)=true then G ((.bool false))else(if (decide (PV.asInt (List.getD (PV.cells (List.getD (Zk s) (Int.toNat i) default)) 0 default)<48))=true then G ((.bool false))else(if (decide (PV.asInt (List.getD (PV.cells (List.getD (Zk s) (Int.toNat i) default)) 0 default)>57))=true then G ((.bool false))else(At WG 0 (Za XX G) X4 0 67 [(0,(.pv (.str s))),(O9 s),(35,(.pv (.int .i64 (↑(List.length (Zk s)):Int)))),(36,(.pv (.int .i64 (IntKind.wrap IntKind.i64 (i+1)))))] [])))else(if (decide (PV.asInt (List.getD (PV.cells (List.getD (Zk s) (Int.toNat i) default)) 0 default)>122))=true then if (i==0)=true then G ((.bool false))else(if (decide (PV.asInt (List.getD (PV.cells (List.getD (Zk s) (Int.toNat i) default)) 0 default)<48))=true then G ((.bool false))else(if (decide (PV.asInt (List.getD (PV.cells (List.getD (Zk s) (Int.toNat i) default)) 0 default)>57))=true then G ((.bool false))else(At WG 0 (Za XX G) X4 0 67 [(0,(.pv (.str s))),(O9 s),(35,(.pv (.int .i64 (↑(List.length (Zk s)):Int)))),(36,(.pv (.int .i64 (IntKind.wrap IntKind.i64 (i+1)))))] [])))else(At WG 0 (Za XX G) X4 0 67 [(0,(.pv (.str s))),(O9 s),(35,(.pv (.int .i64 (↑(List.length (Zk s)):Int)))),(36,(.pv (.int .i64 (IntKind.wrap IntKind.i64 (i+1)))))] []))))else(if (!s==[])=true then G ((.bool (decide ((↑(List.length s):Int)<=30))))else(G ((.bool false))))):At WG 0 (Za XX G) X4 0 67 [(0,.pv (.str s)),(34,.pv (.sl 1 false (Zk s))),(35,.pv (.int .i64 (Zk s).length)),(36,.pv (.int .i64 i))] []:=At.tp (dm [] 137 0x22202222005420222222220200014222220222220064222220222222222200b422202d42220200014222220222220064222220222222222200b42222220304213107542) h
end Go.Pl
namespace Go.Pl
open Go.RowKit
open Enc (enc dec is)
open EncL (encL decL isL)
theorem a3y(s:List UInt8)(hs:s.length<=281474976710656): ∀ (m i:Nat),m+i=s.length->At WG 0 (Za XX (Zf (XW s i))) X4 0 67 [(0,.pv (.str s)),(34,.pv (.sl 1 false (Zk s))),(35,.pv (.int .i64 (Zk s).length)),(36,.pv (.int .i64 i))] []:=by
 intro m
 induction m with
 | zero=>
  intro i hi
  have e:XW s i=(!(s==[])&&decide (s.length<=30)):=by
   unfold XW
   cases i with
   | zero=>cases s with
    | nil=>rfl
    | cons c r=>simp at hi
   | succ i=>simp only;rw[List.drop_of_length_le (show s.length<=i+1 by omega)];simp
  rw[e]
  refine M6 s i (ZU (Yv (by rw[Qw];omega)) (YV (fun h=>Zl ?_) fun h=>Zl ?_))
  ·rw[h,Bool.true_and];exact decide_eq_decide.2 (by omega)
  ·rw[h,Bool.false_and]
 | succ m ih=>
  intro i hi
  have a:i<s.length:=by omega
  have h:=ih (i+1) (by omega)
  refine M6 s i ?_
  rw[a6x a,next (by omega)]
  have b:(lowB s[i]=false∧(i=0∨digB s[i]=false))->Zf (XW s i) (.bool false):=fun hb=>Zl (MI a hb).symm
  have go:(lowB s[i]=true∨(i≠0∧digB s[i]=true))->At WG 0 (Za XX (Zf (XW s i))) X4 0 67 [(0,.pv (.str s)),(34,.pv (.sl 1 false (Zk s))),(35,.pv (.int .i64 (Zk s).length)),(36,.pv (.int .i64 ((i+1:Nat):Int)))] []:=fun hb=>by rw[Mw a hb];exact h
  have g:lowB s[i]=false->(if ((i:Int)==0)=true then Zf (XW s i) (.bool false)else if decide ((s[i].toNat:Int)<48)=true then Zf (XW s i) (.bool false)else if decide ((s[i].toNat:Int)>57)=true then Zf (XW s i) (.bool false)else At WG 0 (Za XX (Zf (XW s i))) X4 0 67 [(0,.pv (.str s)),(34,.pv (.sl 1 false (Zk s))),(35,.pv (.int .i64 (Zk s).length)),(36,.pv (.int .i64 ((i+1:Nat):Int)))] []):=by
   intro j
   refine ZA (fun k=>b ⟨j,.inl (by omega)⟩) fun k=>ZO (fun h1=>b ⟨j,.inr (GD (by omega))⟩) fun h1=>ZO (fun h2=>b ⟨j,.inr (GD (by omega))⟩) fun h2=>go (.inr ⟨by omega,Vj.2 (by omega)⟩)
  refine ZT (Yq (by rw[Qw];exact a)) ⟨by rw[Qw];simp[a],by rfl,?_⟩
  refine ZO (fun h1=>g (GL ?_)) fun h1=>ZO (fun h2=>g (GL ?_)) fun h2=>go (.inl (EW.2 ?_))
  ·have h1:(s[i].toNat:Int)<97:=h1
   omega
  ·have h2:(s[i].toNat:Int)>122:=h2
   omega
  ·have h1 : ¬ (s[i].toNat:Int)<97:=h1
   have h2 : ¬ (s[i].toNat:Int)>122:=h2
   omega
theorem a8v: ∀ a:Str×Unit,decide (a.1.s.length<=281474976710656)=true->Zd WG 0 (Za XX (Zf (nameB a.1))) X4 [] (Zx c0k (encL a)):=by
 rintro⟨⟨s⟩,⟨⟩⟩ b
 have b:s.length<=281474976710656:=by simpa using b
 refine d2o s (Zb (⟨s⟩,⟨[95]⟩,()) rfl (YV (fun h=> ?_) fun h=> ?_))
 ·have h:[95].isPrefixOf s=true:=h
  obtain⟨r,rfl⟩ : ∃ r,s=95::r:=by
   cases s with
   | nil=>simp at h
   | cons c r=>
    have:95=c:=by simpa using h
    exact⟨r,by rw[this]⟩
  have e:List.drop (Int.toNat 1) (List.take (List.length (95::r)) (95::r))=r:=by rw[List.take_of_length_le (Nat.le_refl _)];rfl
  simp only[e]
  refine⟨by simp,Zc (⟨r⟩,()) rfl (by simp at b ⊢;omega),Zb (⟨r⟩,()) rfl ⟨by show(Pj (enc (YO ⟨r⟩).2)&&true)=true;rw[f2z];rfl,?_⟩⟩
  show if QD (enc (YO ⟨r⟩).2)=true then(if decide ((YO ⟨r⟩).1>0)=true then(if _ then _ else Zf (nameB ⟨95::r⟩) _)else Zf (nameB ⟨95::r⟩) _)else Zf (nameB ⟨95::r⟩) _
  rw[a4q]
  by_cases h9:r.length<=9
  ·rw[<- b6e r h9,decide_eq_true h9,Bool.and_true]
   refine YV (fun h1=>YV (fun h2=>ZT (by simp;omega) ⟨Zc ((YO ⟨r⟩).1,()) rfl (by have:=Ph ⟨r⟩;simp;omega),Zb ((YO ⟨r⟩).1,()) rfl ⟨by simp,Zl ?_⟩⟩) fun h2=>Zl ?_) fun h1=>Zl ?_
   ·rw[h1,h2];simp only[Bool.true_and,Bool.and_true];rfl
   ·rw[h2];simp
   ·rw[h1];simp
  ·rw[decide_eq_false h9,Bool.and_false]
   refine YV (fun h1=>YV (fun h2=>ZU (by simp;omega) (Zl rfl)) fun h2=>Zl rfl) fun h1=>Zl rfl
 ·have h:[95].isPrefixOf s=false:=h
  show At WG 0 (Za XX (Zf (nameB ⟨s⟩))) X4 0 67 _ _
  rw[LP h]
  exact a3y s b s.length 0 (by omega)
end Go.Pl
namespace Go.Pl
theorem e6h{T:ZC}{k:Nat}{ic:IC}{K:List Fr}{st:St}{rs:List IRes}{p:PV}(h:Zd T k (Za rs fun r=>r=p) ic K st):Zd T k (fun st=>fin st rs=some p) ic K st:=by
 have e:Za rs (fun r=>r=p)=fun st=>fin st rs=some p:=by
  funext st
  apply propext
  constructor
  ·rintro⟨q,k,rfl⟩;exact k
  ·intro k;exact⟨p,k,rfl⟩
 rw[<- e];exact h
end Go.Pl
