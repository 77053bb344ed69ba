/-
  Texts of mine that belong together (packed by pack.py), for every input: QPr, QPa, GPz, GPt, QPt, QPz, GTd, GTv, QTg, VwU, QTv, QTd, GWy, QWy, GVa, QVa, QCo, GL7, QL7, GL9, QL9, GRa, QGc, TyZ0.
-/
import Derived.Test.YtkpppjbhmmabeaaGreatDoorChecked
import Derived.Test.YtkpppjbhmmabeaaGreatDoorProg
import Derived.Test.YtkpppjbhmmabeaaGreatDoorKM2
import Derived.Test.YtkpppjbhmmabeaaGreatDoorKM3
import Derived.KernelRfl
import Derived.Lib.ItoaLen
set_option linter.unusedVariables false
set_option linter.unusedSimpArgs false
namespace Go.Pl
open Go.RowKit
open Enc (enc dec is)
open EncL (encL decL isL)
theorem d1i: ∀ x:Str×Unit,decide (x.1.s.length<=1048576)=true->Zd d9w 0 (Za b5f (Zf (!(nameI x.1.s)))) b7c [] (Zx e7h (encL x)):=by
 rintro⟨⟨s⟩,⟨⟩⟩ h
 exact f8b s ⟨Zc ((⟨s⟩:Str),()) rfl h,Zb ((⟨s⟩:Str),()) rfl (Zl rfl)⟩
theorem d7a(l:List Str)(hs : ∀ s∈l,s.s.length<=1048576)(hl:l.length<=1048576): ∀ (m i:Nat),m+i=l.length->(∀ j (h:j<l.length),j<i->(!(nameI l[j].s))=false) ->
  At Mi 0 (Za BQ (Zf (Yr (fun s:Str=> !(nameI s.s)) l))) AY 0 19 [(0,.pv (enc l)),(1,.pv (.fn 29)),(7,.pv (.int .i64 l.length)),(8,.pv (.int .i64 i))] []:=by
 intro m
 induction m with
 | zero=>
  intro i hi b
  refine c8o l i (ZU (Yx (by omega)) (UN ?_))
  rw[Gl _ _ (fun j e=>b j e (by omega))]
 | succ m ih=>
  intro i hi b
  have a:i<l.length:=by omega
  refine c8o l i (ZT (Yt a) ⟨Zq a rfl,ZB a ⟨Zc (l[i],()) rfl (decide_eq_true (hs _ (List.getElem_mem a))),Zb (l[i],()) rfl (YV (fun hb=> ?_) fun hb=> ?_)⟩⟩)
  ·exact UN (Gz (fun s:Str=> !(nameI s.s)) l i a b hb).symm
  ·rw[next (by omega)]
   refine ih (i+1) (by omega) fun j e hji=> ?_
   by_cases he:j=i
   ·subst he;exact hb
   ·exact b j e (by omega)
theorem Fs{l:List Str}(h:Xh l=true):l.length<=1048576∧ ∀ s∈l,s.s.length<=1048576:=by
 unfold Xh at h
 simp only[Bool.and_eq_true,decide_eq_true_eq,List.all_eq_true]at h
 exact h
theorem f0s: ∀ x:List Str×FnV 29×Unit,Xh x.1=true->Zd Mi 0 (Za BQ (Zf (Yr (fun s:Str=> !(nameI s.s)) x.1))) AY [] (Zx g0i (encL x)):=by
 rintro⟨l,g,⟨⟩⟩ h
 have h:=Fs h
 refine g5k l ?_
 rw[List.length_map]
 exact d7a l h.2 h.1 l.length 0 (by omega) fun j hj hji=>by omega
theorem f0e: ∀ x:List Str×FnV 29×Unit,Xh x.1=true->Zd f2d 0 (Za c9f (Zf (x.1.any fun s:Str=> !(nameI s.s)))) c5v [] (Zx f8s (encL x)):=by
 rintro⟨l,g,⟨⟩⟩ h
 exact g2o l ⟨Zc (l,{},()) rfl h,Zb (l,{},()) rfl (Zl (Wu _ _))⟩
theorem a9v: ∀ x:List Str×Unit,Xh x.1=true->Zd a6y 0 (Za FC (Zf (x.1.all fun s:Str=>nameI s.s))) MK [] (Zx c0t (encL x)):=by
 rintro⟨l,⟨⟩⟩ h
 refine c7u l ⟨Zc (l,{},()) rfl h,Zb (l,{},()) rfl (Zl ?_)⟩
 exact Ca l
theorem a0y{t:Tm}(h:tW t=true):Xh (Ui t)=true:=by
 have h1:=HZ h
 have hm : ∀ s∈Ui t,s∈YX t:=fun s hs=>by
  have:=Da t fun x=>decide (x∈YX t)
  rw[show((YX t).all fun x=>decide (x∈YX t))=true by simp,List.all_eq_true]at this
  exact of_decide_eq_true (this s hs)
 have h2:(Ui t).length<=1048576:=by
  unfold Ui Vb
  rw[List.length_map,List.length_mergeSort,List.length_map]
  have a:=AX (YX t) []
  have h5:=H8 1 t
  have h6:J6 t<=1048576:=of_decide_eq_true h
  have h7:(YX t).length=(((Yg 1 t).map (·.1)).flatMap UJ).length:=rfl
  simp only[List.length_nil,Nat.zero_add]at a
  unfold Cg
  omega
 unfold Xh
 rw[decide_eq_true h2,Bool.true_and,List.all_eq_true]
 exact fun s hs=>decide_eq_true (h1 s (hm s hs))
theorem b2w: ∀ x:Tm×Unit,tW x.1=true->Zd PS 0 (Za Ad (Zf (YK x.1))) MW [] (Zx c1w (encL x)):=by
 rintro⟨⟨n,ks⟩,⟨⟩⟩ h
 rw[<- YQ]
 show Zd PS 0 (Za Ad (Zf (YK (.mk n ks)))) _ _ _
 refine d5j n ks ⟨Zc (.mk n ks,()) (YQ n ks) h,Zb (.mk n ks,()) (YQ n ks) (YV (fun h1=> ?_) fun h1=> ?_)⟩
 ·refine⟨Zc (.mk n ks,()) (YQ n ks) h,Zb (.mk n ks,()) (YQ n ks) ⟨Zc (Ui (.mk n ks),()) rfl (a0y h),Zb (Ui (.mk n ks),()) rfl (Zl ?_)⟩⟩
  have h1:Y7 (.mk n ks)=true:=h1
  unfold YK
  rw[h1,Bool.true_and]
 ·have h1:Y7 (.mk n ks)=false:=h1
  refine Zl ?_
  unfold YK
  rw[h1,Bool.false_and]
theorem c7f: ∀ x:Str×Unit,true=true->Zd d9s 0 (Za b8b (Zf (Qn x.1))) b7o [] (Zx e3l (encL x)):=by
 rintro⟨⟨s⟩,⟨⟩⟩ _
 refine f4j s (ZO (fun h=> ?_) fun h=> ?_)
 ·exact Zg (x:=((⟨[]⟩,3):Str×Int)) (by unfold Qn;rw[if_pos h])
 ·exact Zg (x:=((⟨s⟩,0):Str×Int)) (by unfold Qn;rw[if_neg h])
theorem d4q: ∀ ps:List PV,TH ps=true->Zd a9d 0 (Za EC fun r=>r=Rk ps) Ol [] (Zx f0n ps):=by
 intro ps h
 cases ps with
 | nil=>exact f4b rfl
 | cons a l=>cases h
def Kq(s:List UInt8)(l:List OpR):R3 Str Bool Bool:=match l.find? fun r=>r.n==s with
 | some r=>⟨⟨r.s⟩,r.u,true⟩
 | none=>⟨⟨[]⟩,false,false⟩
def Km(s:List UInt8)(u:Bool)(l:List OpR):R3 Str Int Bool:=match l.find? fun r=>r.s==s&&r.u==u with
 | some r=>⟨⟨r.n⟩,r.l,true⟩
 | none=>⟨⟨[]⟩,0,false⟩
theorem Xo{s:List UInt8}{r:OpR}{l:List OpR}(a:r.n=s):Kq s (r::l)=⟨⟨r.s⟩,r.u,true⟩:=by unfold Kq;rw[List.find?_cons_of_pos (by rw[a];simp)]
theorem Wd{s:List UInt8}{r:OpR}{l:List OpR}(a:r.n≠s):Kq s (r::l)=Kq s l:=by unfold Kq;rw[List.find?_cons_of_neg (by simpa using a)]
theorem Xm{s:List UInt8}{u:Bool}{r:OpR}{l:List OpR}(a:r.s=s)(b:r.u=u):Km s u (r::l)=⟨⟨r.n⟩,r.l,true⟩:=by unfold Km;rw[List.find?_cons_of_pos (by rw[a,b];simp)]
theorem Yn{s:List UInt8}{u:Bool}{r:OpR}{l:List OpR}(a : ¬ (r.s=s∧r.u=u)):Km s u (r::l)=Km s u l:=by unfold Km;rw[List.find?_cons_of_neg (by simpa using a)]
theorem g0v(s:List UInt8){F:R3 Str Bool Bool}(e:Kq s (XP.drop 15)=F):At ZX 0 (Za ZG (Zf F)) ZH 0 20 [(0,.pv (.str s)),(7,.pv Z0),(8,.pv (.int .i64 15))] []:=d9o s (Zg (x:=(⟨⟨[]⟩,false,false⟩:R3 Str Bool Bool)) e)
theorem f8a(s:List UInt8){F:R3 Str Bool Bool}(e:Kq s (XP.drop 14)=F):At ZX 0 (Za ZG (Zf F)) ZH 0 20 [(0,.pv (.str s)),(7,.pv Z0),(8,.pv (.int .i64 14))] []:=c8w s (Zy (fun h=>Zg (β:=R3 Str Bool Bool) ((Xo h).symm.trans e)) fun h=>g0v s ((Wd h).symm.trans e))
theorem f4i(s:List UInt8){F:R3 Str Bool Bool}(e:Kq s (XP.drop 13)=F):At ZX 0 (Za ZG (Zf F)) ZH 0 20 [(0,.pv (.str s)),(7,.pv Z0),(8,.pv (.int .i64 13))] []:=d1d s (Zy (fun h=>Zg (β:=R3 Str Bool Bool) ((Xo h).symm.trans e)) fun h=>f8a s ((Wd h).symm.trans e))
theorem f6p(s:List UInt8){F:R3 Str Bool Bool}(e:Kq s (XP.drop 12)=F):At ZX 0 (Za ZG (Zf F)) ZH 0 20 [(0,.pv (.str s)),(7,.pv Z0),(8,.pv (.int .i64 12))] []:=d1f s (Zy (fun h=>Zg (β:=R3 Str Bool Bool) ((Xo h).symm.trans e)) fun h=>f4i s ((Wd h).symm.trans e))
theorem f5u(s:List UInt8){F:R3 Str Bool Bool}(e:Kq s (XP.drop 11)=F):At ZX 0 (Za ZG (Zf F)) ZH 0 20 [(0,.pv (.str s)),(7,.pv Z0),(8,.pv (.int .i64 11))] []:=d0u s (Zy (fun h=>Zg (β:=R3 Str Bool Bool) ((Xo h).symm.trans e)) fun h=>f6p s ((Wd h).symm.trans e))
theorem f9g(s:List UInt8){F:R3 Str Bool Bool}(e:Kq s (XP.drop 10)=F):At ZX 0 (Za ZG (Zf F)) ZH 0 20 [(0,.pv (.str s)),(7,.pv Z0),(8,.pv (.int .i64 10))] []:=d9g s (Zy (fun h=>Zg (β:=R3 Str Bool Bool) ((Xo h).symm.trans e)) fun h=>f5u s ((Wd h).symm.trans e))
theorem g1d(s:List UInt8){F:R3 Str Bool Bool}(e:Kq s (XP.drop 9)=F):At ZX 0 (Za ZG (Zf F)) ZH 0 20 [(0,.pv (.str s)),(7,.pv Z0),(8,.pv (.int .i64 9))] []:=d9z s (Zy (fun h=>Zg (β:=R3 Str Bool Bool) ((Xo h).symm.trans e)) fun h=>f9g s ((Wd h).symm.trans e))
theorem f3l(s:List UInt8){F:R3 Str Bool Bool}(e:Kq s (XP.drop 8)=F):At ZX 0 (Za ZG (Zf F)) ZH 0 20 [(0,.pv (.str s)),(7,.pv Z0),(8,.pv (.int .i64 8))] []:=d2m s (Zy (fun h=>Zg (β:=R3 Str Bool Bool) ((Xo h).symm.trans e)) fun h=>g1d s ((Wd h).symm.trans e))
theorem f3z(s:List UInt8){F:R3 Str Bool Bool}(e:Kq s (XP.drop 7)=F):At ZX 0 (Za ZG (Zf F)) ZH 0 20 [(0,.pv (.str s)),(7,.pv Z0),(8,.pv (.int .i64 7))] []:=d3m s (Zy (fun h=>Zg (β:=R3 Str Bool Bool) ((Xo h).symm.trans e)) fun h=>f3l s ((Wd h).symm.trans e))
theorem g0h(s:List UInt8){F:R3 Str Bool Bool}(e:Kq s (XP.drop 6)=F):At ZX 0 (Za ZG (Zf F)) ZH 0 20 [(0,.pv (.str s)),(7,.pv Z0),(8,.pv (.int .i64 6))] []:=d0a s (Zy (fun h=>Zg (β:=R3 Str Bool Bool) ((Xo h).symm.trans e)) fun h=>f3z s ((Wd h).symm.trans e))
theorem f3t(s:List UInt8){F:R3 Str Bool Bool}(e:Kq s (XP.drop 5)=F):At ZX 0 (Za ZG (Zf F)) ZH 0 20 [(0,.pv (.str s)),(7,.pv Z0),(8,.pv (.int .i64 5))] []:=d4l s (Zy (fun h=>Zg (β:=R3 Str Bool Bool) ((Xo h).symm.trans e)) fun h=>g0h s ((Wd h).symm.trans e))
theorem f7r(s:List UInt8){F:R3 Str Bool Bool}(e:Kq s (XP.drop 4)=F):At ZX 0 (Za ZG (Zf F)) ZH 0 20 [(0,.pv (.str s)),(7,.pv Z0),(8,.pv (.int .i64 4))] []:=c7k s (Zy (fun h=>Zg (β:=R3 Str Bool Bool) ((Xo h).symm.trans e)) fun h=>f3t s ((Wd h).symm.trans e))
theorem f8o(s:List UInt8){F:R3 Str Bool Bool}(e:Kq s (XP.drop 3)=F):At ZX 0 (Za ZG (Zf F)) ZH 0 20 [(0,.pv (.str s)),(7,.pv Z0),(8,.pv (.int .i64 3))] []:=d3i s (Zy (fun h=>Zg (β:=R3 Str Bool Bool) ((Xo h).symm.trans e)) fun h=>f7r s ((Wd h).symm.trans e))
theorem f3v(s:List UInt8){F:R3 Str Bool Bool}(e:Kq s (XP.drop 2)=F):At ZX 0 (Za ZG (Zf F)) ZH 0 20 [(0,.pv (.str s)),(7,.pv Z0),(8,.pv (.int .i64 2))] []:=d4y s (Zy (fun h=>Zg (β:=R3 Str Bool Bool) ((Xo h).symm.trans e)) fun h=>f8o s ((Wd h).symm.trans e))
theorem f4e(s:List UInt8){F:R3 Str Bool Bool}(e:Kq s (XP.drop 1)=F):At ZX 0 (Za ZG (Zf F)) ZH 0 20 [(0,.pv (.str s)),(7,.pv Z0),(8,.pv (.int .i64 1))] []:=c7p s (Zy (fun h=>Zg (β:=R3 Str Bool Bool) ((Xo h).symm.trans e)) fun h=>f3v s ((Wd h).symm.trans e))
theorem f5h(s:List UInt8){F:R3 Str Bool Bool}(e:Kq s (XP.drop 0)=F):At ZX 0 (Za ZG (Zf F)) ZH 0 20 [(0,.pv (.str s)),(7,.pv Z0),(8,.pv (.int .i64 0))] []:=d1t s (Zy (fun h=>Zg (β:=R3 Str Bool Bool) ((Xo h).symm.trans e)) fun h=>f4e s ((Wd h).symm.trans e))
theorem c8r(s:List UInt8)(u:Bool){F:R3 Str Int Bool}(e:Km s u (XP.drop 15)=F):At ZW 0 (Za ZJ (Zf F)) ZI 0 28 [(0,.pv (.str s)),(1,.pv (.bool u)),(9,.pv Z0),(10,.pv (.int .i64 15))] []:=d5h s u (Zg (x:=(⟨⟨[]⟩,0,false⟩:R3 Str Int Bool)) e)
theorem d5k(s:List UInt8)(u:Bool){F:R3 Str Int Bool}(e:Km s u (XP.drop 14)=F):At ZW 0 (Za ZJ (Zf F)) ZI 0 28 [(0,.pv (.str s)),(1,.pv (.bool u)),(9,.pv Z0),(10,.pv (.int .i64 14))] []:=c9s s u (Zy (fun h=>Zy (fun h2=>Zg (β:=R3 Str Int Bool) ((Xm h h2).symm.trans e)) fun h2=>c8r s u ((Yn fun x=>h2 x.2).symm.trans e)) fun h=>c8r s u ((Yn fun x=>h x.1).symm.trans e))
theorem d8q(s:List UInt8)(u:Bool){F:R3 Str Int Bool}(e:Km s u (XP.drop 13)=F):At ZW 0 (Za ZJ (Zf F)) ZI 0 28 [(0,.pv (.str s)),(1,.pv (.bool u)),(9,.pv Z0),(10,.pv (.int .i64 13))] []:=d4g s u (Zy (fun h=>Zy (fun h2=>Zg (β:=R3 Str Int Bool) ((Xm h h2).symm.trans e)) fun h2=>d5k s u ((Yn fun x=>h2 x.2).symm.trans e)) fun h=>d5k s u ((Yn fun x=>h x.1).symm.trans e))
theorem d8u(s:List UInt8)(u:Bool){F:R3 Str Int Bool}(e:Km s u (XP.drop 12)=F):At ZW 0 (Za ZJ (Zf F)) ZI 0 28 [(0,.pv (.str s)),(1,.pv (.bool u)),(9,.pv Z0),(10,.pv (.int .i64 12))] []:=d1r s u (Zy (fun h=>Zy (fun h2=>Zg (β:=R3 Str Int Bool) ((Xm h h2).symm.trans e)) fun h2=>d8q s u ((Yn fun x=>h2 x.2).symm.trans e)) fun h=>d8q s u ((Yn fun x=>h x.1).symm.trans e))
theorem d4a(s:List UInt8)(u:Bool){F:R3 Str Int Bool}(e:Km s u (XP.drop 11)=F):At ZW 0 (Za ZJ (Zf F)) ZI 0 28 [(0,.pv (.str s)),(1,.pv (.bool u)),(9,.pv Z0),(10,.pv (.int .i64 11))] []:=c8t s u (Zy (fun h=>Zy (fun h2=>Zg (β:=R3 Str Int Bool) ((Xm h h2).symm.trans e)) fun h2=>d8u s u ((Yn fun x=>h2 x.2).symm.trans e)) fun h=>d8u s u ((Yn fun x=>h x.1).symm.trans e))
theorem d6n(s:List UInt8)(u:Bool){F:R3 Str Int Bool}(e:Km s u (XP.drop 10)=F):At ZW 0 (Za ZJ (Zf F)) ZI 0 28 [(0,.pv (.str s)),(1,.pv (.bool u)),(9,.pv Z0),(10,.pv (.int .i64 10))] []:=d2r s u (Zy (fun h=>Zy (fun h2=>Zg (β:=R3 Str Int Bool) ((Xm h h2).symm.trans e)) fun h2=>d4a s u ((Yn fun x=>h2 x.2).symm.trans e)) fun h=>d4a s u ((Yn fun x=>h x.1).symm.trans e))
theorem d0c(s:List UInt8)(u:Bool){F:R3 Str Int Bool}(e:Km s u (XP.drop 9)=F):At ZW 0 (Za ZJ (Zf F)) ZI 0 28 [(0,.pv (.str s)),(1,.pv (.bool u)),(9,.pv Z0),(10,.pv (.int .i64 9))] []:=d6q s u (Zy (fun h=>Zy (fun h2=>Zg (β:=R3 Str Int Bool) ((Xm h h2).symm.trans e)) fun h2=>d6n s u ((Yn fun x=>h2 x.2).symm.trans e)) fun h=>d6n s u ((Yn fun x=>h x.1).symm.trans e))
theorem d3k(s:List UInt8)(u:Bool){F:R3 Str Int Bool}(e:Km s u (XP.drop 8)=F):At ZW 0 (Za ZJ (Zf F)) ZI 0 28 [(0,.pv (.str s)),(1,.pv (.bool u)),(9,.pv Z0),(10,.pv (.int .i64 8))] []:=d5z s u (Zy (fun h=>Zy (fun h2=>Zg (β:=R3 Str Int Bool) ((Xm h h2).symm.trans e)) fun h2=>d0c s u ((Yn fun x=>h2 x.2).symm.trans e)) fun h=>d0c s u ((Yn fun x=>h x.1).symm.trans e))
theorem d2t(s:List UInt8)(u:Bool){F:R3 Str Int Bool}(e:Km s u (XP.drop 7)=F):At ZW 0 (Za ZJ (Zf F)) ZI 0 28 [(0,.pv (.str s)),(1,.pv (.bool u)),(9,.pv Z0),(10,.pv (.int .i64 7))] []:=d1a s u (Zy (fun h=>Zy (fun h2=>Zg (β:=R3 Str Int Bool) ((Xm h h2).symm.trans e)) fun h2=>d3k s u ((Yn fun x=>h2 x.2).symm.trans e)) fun h=>d3k s u ((Yn fun x=>h x.1).symm.trans e))
theorem c7z(s:List UInt8)(u:Bool){F:R3 Str Int Bool}(e:Km s u (XP.drop 6)=F):At ZW 0 (Za ZJ (Zf F)) ZI 0 28 [(0,.pv (.str s)),(1,.pv (.bool u)),(9,.pv Z0),(10,.pv (.int .i64 6))] []:=d7h s u (Zy (fun h=>Zy (fun h2=>Zg (β:=R3 Str Int Bool) ((Xm h h2).symm.trans e)) fun h2=>d2t s u ((Yn fun x=>h2 x.2).symm.trans e)) fun h=>d2t s u ((Yn fun x=>h x.1).symm.trans e))
theorem e1c(s:List UInt8)(u:Bool){F:R3 Str Int Bool}(e:Km s u (XP.drop 5)=F):At ZW 0 (Za ZJ (Zf F)) ZI 0 28 [(0,.pv (.str s)),(1,.pv (.bool u)),(9,.pv Z0),(10,.pv (.int .i64 5))] []:=e2f s u (Zy (fun h=>Zy (fun h2=>Zg (β:=R3 Str Int Bool) ((Xm h h2).symm.trans e)) fun h2=>c7z s u ((Yn fun x=>h2 x.2).symm.trans e)) fun h=>c7z s u ((Yn fun x=>h x.1).symm.trans e))
theorem c7o(s:List UInt8)(u:Bool){F:R3 Str Int Bool}(e:Km s u (XP.drop 4)=F):At ZW 0 (Za ZJ (Zf F)) ZI 0 28 [(0,.pv (.str s)),(1,.pv (.bool u)),(9,.pv Z0),(10,.pv (.int .i64 4))] []:=c6d s u (Zy (fun h=>Zy (fun h2=>Zg (β:=R3 Str Int Bool) ((Xm h h2).symm.trans e)) fun h2=>e1c s u ((Yn fun x=>h2 x.2).symm.trans e)) fun h=>e1c s u ((Yn fun x=>h x.1).symm.trans e))
theorem d8z(s:List UInt8)(u:Bool){F:R3 Str Int Bool}(e:Km s u (XP.drop 3)=F):At ZW 0 (Za ZJ (Zf F)) ZI 0 28 [(0,.pv (.str s)),(1,.pv (.bool u)),(9,.pv Z0),(10,.pv (.int .i64 3))] []:=d0e s u (Zy (fun h=>Zy (fun h2=>Zg (β:=R3 Str Int Bool) ((Xm h h2).symm.trans e)) fun h2=>c7o s u ((Yn fun x=>h2 x.2).symm.trans e)) fun h=>c7o s u ((Yn fun x=>h x.1).symm.trans e))
theorem c9j(s:List UInt8)(u:Bool){F:R3 Str Int Bool}(e:Km s u (XP.drop 2)=F):At ZW 0 (Za ZJ (Zf F)) ZI 0 28 [(0,.pv (.str s)),(1,.pv (.bool u)),(9,.pv Z0),(10,.pv (.int .i64 2))] []:=d2n s u (Zy (fun h=>Zy (fun h2=>Zg (β:=R3 Str Int Bool) ((Xm h h2).symm.trans e)) fun h2=>d8z s u ((Yn fun x=>h2 x.2).symm.trans e)) fun h=>d8z s u ((Yn fun x=>h x.1).symm.trans e))
theorem c6y(s:List UInt8)(u:Bool){F:R3 Str Int Bool}(e:Km s u (XP.drop 1)=F):At ZW 0 (Za ZJ (Zf F)) ZI 0 28 [(0,.pv (.str s)),(1,.pv (.bool u)),(9,.pv Z0),(10,.pv (.int .i64 1))] []:=d1o s u (Zy (fun h=>Zy (fun h2=>Zg (β:=R3 Str Int Bool) ((Xm h h2).symm.trans e)) fun h2=>c9j s u ((Yn fun x=>h2 x.2).symm.trans e)) fun h=>c9j s u ((Yn fun x=>h x.1).symm.trans e))
theorem f7u(s:List UInt8)(u:Bool){F:R3 Str Int Bool}(e:Km s u (XP.drop 0)=F):At ZW 0 (Za ZJ (Zf F)) ZI 0 28 [(0,.pv (.str s)),(1,.pv (.bool u)),(9,.pv Z0),(10,.pv (.int .i64 0))] []:=c8p s u (Zy (fun h=>Zy (fun h2=>Zg (β:=R3 Str Int Bool) ((Xm h h2).symm.trans e)) fun h2=>c6y s u ((Yn fun x=>h2 x.2).symm.trans e)) fun h=>c6y s u ((Yn fun x=>h x.1).symm.trans e))
theorem c9o: ∀ x:Str×Unit,true=true->Zd ZX 0 (Za ZG (Zf (Jp x.1))) ZH [] (Zx e2u (encL x)):=by
 rintro⟨⟨s⟩,⟨⟩⟩ _
 exact g0n s (f5h s rfl)
theorem e1i: ∀ x:Str×Bool×Unit,true=true->Zd ZW 0 (Za ZJ (Zf (Vd x.1 x.2.1))) ZI [] (Zx e3j (encL x)):=by
 rintro⟨⟨s⟩,u,⟨⟩⟩ _
 exact f6q s u (f7u s u rfl)
theorem e8v: ∀ x:Tm×Unit,tW x.1=true->Zd d8j 0 (Za b2i (Zf (Jv x.1))) c8q [] (Zx f8n (encL x)):=by
 rintro⟨⟨n,ks⟩,⟨⟩⟩ h
 rw[<- YQ]
 show Zd d8j 0 (Za b2i (Zf (Jv (.mk n ks)))) _ _ _
 have b:Jv (.mk n ks)=((⟨[]⟩,0):Str×Int)->Zf (Jv (.mk n ks)) (.tup [.str [],.int .i64 0]):=fun e=>Zg (x:=((⟨[]⟩,0):Str×Int)) e.symm
 refine g3c n ks (Zb (n.name,()) rfl ?_)
 have hs:Jp n.name=match Bf n.name.s with|some r=>⟨⟨r.s⟩,r.u,true⟩|none=>⟨⟨[]⟩,false,false⟩:=rfl
 cases k:Bf n.name.s with
 | none=>
  have e:Jv (.mk n ks)=((⟨[]⟩,0):Str×Int):=by rw[show Jv (.mk n ks)=Oq n ks.length from rfl];unfold Oq H5;simp[k]
  rw[show Jp n.name=⟨⟨[]⟩,false,false⟩from by rw[hs,k]]
  exact b e
 | some r=>
  rw[show Jp n.name=⟨⟨r.s⟩,r.u,true⟩from by rw[hs,k]]
  have hn : ¬ (n.kind=6∧ks.length=(if r.u then 1 else 2)∧n.sizes=[]∧n.num=0∧n.ranks=[])->Jv (.mk n ks)=((⟨[]⟩,0):Str×Int):=fun h=>by
   rw[show Jv (.mk n ks)=Oq n ks.length from rfl]
   unfold Oq H5
   simp only[k]
   rw[if_neg h]
  have q:(n.kind=6∧ks.length=(if r.u then 1 else 2)∧n.sizes=[]∧n.num=0∧n.ranks=[])->Jv (.mk n ks)=((⟨r.s⟩,if r.u then 1 else 2):Str×Int):=fun h=>by
   rw[show Jv (.mk n ks)=Oq n ks.length from rfl]
   unfold Oq H5
   simp only[k]
   rw[if_pos h]
  have m : ∀ {α:Type} [Enc α] {l:List α},¬ ((List.length (List.map (enc:α->PV) l):Nat):Int)>0->l=[]:=fun {α} _ {l} h=>by
   cases l with
   | nil=>rfl
   | cons a l=>exact absurd (by simp) h
  have g : ∀ {α:Type} [Enc α] {l:List α},((List.length (List.map (enc:α->PV) l):Nat):Int)>0->l≠[]:=fun {α} _ {l} h e=>by
   subst e;simp at h
  have hb : ∀ {x y:Int} {P Q:Prop},(x≠y->P)->(x=y->Q)->if (x != y)=true then P else Q:=fun {x y P Q} h1 h2=>by
   by_cases hxy:x=y
   ·rw[if_neg (by simpa using hxy)];exact h2 hxy
   ·rw[if_pos (by simpa using hxy)];exact h1 hxy
  cases hu:r.u with
  | true=>
   rw[hu]at hn q
   refine ZT rfl (ZU (by simp) (hb (fun h1=>b (hn fun x=>h1 x.1)) fun h1=>hb (fun h2=>b (hn fun x=>h2 ?_)) fun h2=>ZO (fun h3=>b (hn fun x=>g h3 x.2.2.1)) fun h3=>hb (fun j=>b (hn fun x=>j x.2.2.2.1)) fun j=>ZO (fun i=>b (hn fun x=>g i x.2.2.2.2)) fun i=> ?_))
   ·rw[List.length_map,x.2.1];rfl
   ·exact Zg (x:=((⟨r.s⟩,1):Str×Int)) (q ⟨h1,by rw[List.length_map]at h2;show _=1;omega,m h3,j,m i⟩).symm
  | false=>
   rw[hu]at hn q
   refine ZU (by simp) (ZU (by simp) (hb (fun h1=>b (hn fun x=>h1 x.1)) fun h1=>hb (fun h2=>b (hn fun x=>h2 ?_)) fun h2=>ZO (fun h3=>b (hn fun x=>g h3 x.2.2.1)) fun h3=>hb (fun j=>b (hn fun x=>j x.2.2.2.1)) fun j=>ZO (fun i=>b (hn fun x=>g i x.2.2.2.2)) fun i=> ?_))
   ·rw[List.length_map,x.2.1];rfl
   ·exact Zg (x:=((⟨r.s⟩,2):Str×Int)) (q ⟨h1,by rw[List.length_map]at h2;show _=2;omega,m h3,j,m i⟩).symm
theorem f5b: ∀ r∈XP,(Vd ⟨r.s⟩ r.u).b=r.l:=by decide
theorem FQ{n:Nd}{k:Nat}{r:OpR}(h:H5 n k=some r):r∈XP∧k=(if r.u then 1 else 2):=by
 unfold H5 at h
 cases a:Bf n.name.s with
 | none=>simp[a]at h
 | some q=>
  simp[a]at h
  rw[<- h.2]
  exact⟨List.mem_of_find?_eq_some a,h.1.2.1⟩
theorem d0z: ∀ x:Tm×Unit,tW x.1=true->Zd b0b 0 (Za OM (Zf (Wh x.1))) b6y [] (Zx e7o (encL x)):=by
 rintro⟨⟨n,ks⟩,⟨⟩⟩ h
 rw[<- YQ]
 show Zd b0b 0 (Za OM (Zf (TC n ks.length))) _ _ _
 refine f7h n ks ⟨Zc (.mk n ks,()) (YQ n ks) h,Zb (.mk n ks,()) (YQ n ks) (Zy (fun h1=>UN ?_) fun h1=> ?_)⟩
 ·unfold TC;rw[if_pos h1]
 ·have eo:Jv (.mk n ks)=Oq n ks.length:=rfl
  rw[show Jv ((.mk n ks:Tm),()).1=Oq n ks.length from rfl]
  unfold TC
  rw[if_neg h1]
  cases ho:H5 n ks.length with
  | some r=>
   have e:Oq n ks.length=((⟨r.s⟩,if r.u then 1 else 2):Str×Int):=by unfold Oq;rw[ho]
   rw[e]
   have hb:((if r.u then 1 else 2:Int)==1)=r.u:=by cases r.u <;> rfl
   refine ZO (fun _=>Zb ((⟨r.s⟩:Str),((if r.u then 1 else 2:Int)==1),()) rfl (UN ?_)) fun hn=>absurd (show(if r.u then 1 else 2:Int)>0 by split <;> omega) hn
   show(Vd ⟨r.s⟩ ((if r.u then 1 else 2:Int)==1)).b=r.l
   rw[hb]
   exact f5b r (FQ ho).1
  | none=>
   have e:Oq n ks.length=((⟨[]⟩,0):Str×Int):=by unfold Oq;rw[ho]
   rw[e]
   refine ZO (fun hn=>absurd hn (by show ¬ (0:Int)>0;omega)) fun _=>Zy (fun h2=>Zy (fun h3=>ZO (fun a=>UN ?_) fun a=>UN ?_) fun h3=>UN ?_) fun h2=>UN ?_
   ·have h3:n.name.s=Xa:=h3
    rw[if_pos ⟨h2,h3,a⟩]
   ·rw[if_neg fun x=>a x.2.2]
   ·have h3 : ¬ n.name.s=Xa:=h3
    rw[if_neg fun x=>h3 x.2.1]
   ·rw[if_neg fun x=>h2 x.1]
theorem c3b: ∀ x:List Str×Unit,YL x.1=true->Zd b6g 0 (Za a2h (Zf (Yi x.1))) a6j [] (Zx e0r (encL x)):=by
 rintro⟨l,⟨⟩⟩ h
 exact e4d l ⟨Zc (l,(⟨[44,32]⟩:Str),()) rfl (by show(YL l&&decide _)=true;rw[h,decide_eq_true rfl];rfl),Zb (l,(⟨[44,32]⟩:Str),()) rfl (Zg rfl)⟩
def Dt(m:List Str)(i:Nat):List Str:=m.take i++List.replicate (m.length - i) ⟨[]⟩
theorem Rj(m:List Str)(i:Nat)(h:i<=m.length):(Dt m i).length=m.length:=by unfold Dt;rw[List.length_append,List.length_take,List.length_replicate];omega
theorem CB(m:List Str):Dt m 0=List.replicate m.length ⟨[]⟩:=rfl
theorem T9(m:List Str):Dt m m.length=m:=by unfold Dt;rw[List.take_length,Nat.sub_self];simp
theorem TD{m:List Str}{i:Nat}(h:i<m.length):(Dt m i).set i m[i]=Dt m (i+1):=by
 unfold Dt
 rw[List.set_append,if_neg (by rw[List.length_take];omega),show m.length - i=(m.length - (i+1))+1 by omega,List.replicate_succ,show i - (m.take i).length=0 by rw[List.length_take];omega,List.set_cons_zero,show m.take (i+1)=m.take i++[m[i]] by rw[List.take_add_one];simp[h],List.append_assoc]
 rfl
theorem FD{o:List Str}{i:Nat}(h:i<o.length)(y:Str):List.set (List.map (enc:Str->PV) o) (0+Int.toNat (i:Int)) (PV.withCells (List.getD (List.map (enc:Str->PV) o) (0+Int.toNat (i:Int)) default) (splice (PV.cells (List.getD (List.map (enc:Str->PV) o) (0+Int.toNat (i:Int)) default)) 0 (PV.cells (enc y))))=(o.set i y).map enc:=by
 have e:List.getD (List.map (enc:Str->PV) o) i default=enc o[i]:=by simp[List.getD,h]
 rw[Nat.zero_add,Int.toNat_natCast,e,List.map_set]
 rfl
theorem FY{n i:Nat}{o:List Str}(h:i<n)(ho:o.length=n):(decide (0<=(i:Int))&&decide (0+Int.toNat (i:Int)<n)&&List.length (List.map (enc:Str->PV) o)==n)=true:=by simp[ho];omega
theorem Og{n i:Nat}{o:List Str}{y:Str}(h:i<n)(ho:o.length=n):(List.length (List.map (enc:Str->PV) o)==n&&decide (0+Int.toNat (i:Int)<List.length (List.map (enc:Str->PV) o))&&List.length (PV.cells (enc y))==1&&decide (0+1<=List.length (PV.cells (List.getD (List.map (enc:Str->PV) o) (0+Int.toNat (i:Int)) default)))&&PV.cellsOk (enc y))=true:=by
 have e:List.getD (List.map (enc:Str->PV) o) i default=enc o[i]:=by simp[List.getD,ho,h]
 subst ho
 rw[Nat.zero_add,Int.toNat_natCast,e,List.length_map,beq_self_eq_true,decide_eq_true h]
 rfl
theorem Az{m:List Str}:List.drop 0 (List.take m.length (List.map (enc:Str->PV) m))=m.map enc:=by rw[List.drop_zero,List.take_of_length_le (by simp)]
theorem b9d(n:Nat)(h:n<=1048576):(decide (0<=(n:Int))&&(n:Int)==(n:Int)&&decide ((n:Int)*((16:Nat):Int)<=1099511627776)&&decide ((n:Int)<=1099511627776))=true:=by simp;omega
theorem LW{l:List (List UInt8)}{c:Nat}(hc:c<=1048574)(a:l.length<=1048576)(h : ∀ s∈l,s.length<=c):(Zv l).length<=1099511627776:=by
 have h1:=YU l
 have h2:=Qx (f:=fun s:List UInt8=>s.length+2) (c:=1048576) (l:=l) fun s hs=>by have:=h s hs;show s.length+2<=_;omega
 have h3:1048576*l.length<=1048576*1048576:=Nat.mul_le_mul_left _ a
 omega
theorem Us{l:Lin}(h:Zh l=true):Wi l=true:=by
 have h1:=Uj h
 unfold Wi XM
 rw[decide_eq_true (by omega),Bool.true_and,List.all_eq_true]
 exact fun c hc=>decide_eq_true (by
  have:=Vh (WK h hc).1
  omega)
theorem c0u(l:List Lin)(hl:l.length<=1048576)(j : ∀ x∈l,Zh x=true)(k:YL (l.map Yu)=true): ∀ (d i:Nat),d+i=l.length ->
  At Ar 0 (Za Gm (Zf (Yi (l.map Yu)))) Gn 0 27 [(1,.pv (.fn 58)),(5,.row 0 l.length 0 l.length),(11,.pv (enc l)),(12,.pv (.int .i64 l.length)),(13,.pv (.int .i64 i))] [.obj (.row false 9 1 ((Dt (l.map Yu) i).map enc))]:=by
 intro d
 induction d with
 | zero=>
  intro i hi
  have g:i=l.length:=by omega
  subst g
  have e:Dt (l.map Yu) l.length=l.map Yu:=by have:=T9 (l.map Yu);rw[List.length_map]at this;exact this
  rw[e]
  have b:=Az (m:=l.map Yu)
  rw[List.length_map]at b
  refine b7f l _ _ (ZU (Yx (by omega)) ⟨by simp,?_⟩)
  rw[b]
  exact⟨Zc (l.map Yu,()) rfl k,Zb (l.map Yu,()) rfl (Zg rfl)⟩
 | succ d ih=>
  intro i hi
  have a:i<l.length:=by omega
  have ho:(Dt (l.map Yu) i).length=l.length:=by rw[Rj _ _ (by rw[List.length_map];omega),List.length_map]
  refine b7f l _ _ (ZT (Yt a) ⟨Zq a rfl,ZB a ⟨Zc (l[i],()) rfl (Us (j _ (List.getElem_mem a))),Zb (l[i],()) rfl ⟨FY a ho,Og a ho,?_⟩⟩⟩)
  have e:(Dt (l.map Yu) i).set i (Yu l[i])=Dt (l.map Yu) (i+1):=by
   have:=TD (m:=l.map Yu) (i:=i) (by rw[List.length_map];exact a)
   rw[List.getElem_map]at this
   exact this
  have b:=FD (o:=Dt (l.map Yu) i) (i:=i) (by omega) (Yu l[i])
  rw[e]at b
  rw[next (by omega)]
  have h:=ih (i+1) (by omega)
  rw[<- b]at h
  exact h
theorem d9t: ∀ x:List Lin×FnV 58×Unit,(decide (x.1.length<=1048576)&&x.1.all Zh)=true->Zd Ar 0 (Za Gm (Zf (Yi (x.1.map Yu)))) Gn [] (Zx e4m (encL x)):=by
 rintro⟨l,g,⟨⟩⟩ h
 simp only[Bool.and_eq_true,decide_eq_true_eq,List.all_eq_true]at h
 have a:YL (l.map Yu)=true:=by
  unfold YL
  rw[decide_eq_true (by rw[List.length_map];exact h.1),Bool.true_and]
  refine decide_eq_true (LW (c:=1000) (by omega) (by simp;exact h.1) fun s hs=> ?_)
  simp only[List.mem_map]at hs
  obtain⟨x,⟨y,_,rfl⟩,rfl⟩:=hs
  exact Wx y
 refine f7j l ⟨by rw[List.length_map];exact b9d _ h.1,?_⟩
 have:=c0u l h.1 h.2 a l.length 0 (by omega)
 rw[CB,List.map_replicate,List.length_map]at this
 rw[List.length_map,Int.toNat_natCast]
 exact this
theorem c1e(l:List Int)(hl:l.length<=1048576)(j : ∀ x∈l,0<=x∧x<=6)(k:YL (l.map Zp)=true): ∀ (d i:Nat),d+i=l.length ->
  At Sq 0 (Za Gg (Zf (Yi (l.map Zp)))) GX 0 27 [(1,.pv (.fn 87)),(5,.row 0 l.length 0 l.length),(11,.pv (enc l)),(12,.pv (.int .i64 l.length)),(13,.pv (.int .i64 i))] [.obj (.row false 9 1 ((Dt (l.map Zp) i).map enc))]:=by
 intro d
 induction d with
 | zero=>
  intro i hi
  have g:i=l.length:=by omega
  subst g
  have e:Dt (l.map Zp) l.length=l.map Zp:=by have:=T9 (l.map Zp);rw[List.length_map]at this;exact this
  rw[e]
  have b:=Az (m:=l.map Zp)
  rw[List.length_map]at b
  refine b7x l _ _ (ZU (Yx (by omega)) ⟨by simp,?_⟩)
  rw[b]
  exact⟨Zc (l.map Zp,()) rfl k,Zb (l.map Zp,()) rfl (Zg rfl)⟩
 | succ d ih=>
  intro i hi
  have a:i<l.length:=by omega
  have ho:(Dt (l.map Zp) i).length=l.length:=by rw[Rj _ _ (by rw[List.length_map];omega),List.length_map]
  refine b7x l _ _ (ZT (Yt a) ⟨Zq a rfl,ZB a ⟨Zc (l[i],()) rfl (by have:=j _ (List.getElem_mem a);show(decide _&&decide _)=true;rw[decide_eq_true (by omega),decide_eq_true (by omega)];rfl),Zb (l[i],()) rfl ⟨FY a ho,Og a ho,?_⟩⟩⟩)
  have e:(Dt (l.map Zp) i).set i (Zp l[i])=Dt (l.map Zp) (i+1):=by
   have:=TD (m:=l.map Zp) (i:=i) (by rw[List.length_map];exact a)
   rw[List.getElem_map]at this
   exact this
  have b:=FD (o:=Dt (l.map Zp) i) (i:=i) (by omega) (Zp l[i])
  rw[e]at b
  rw[next (by omega)]
  have h:=ih (i+1) (by omega)
  rw[<- b]at h
  exact h
theorem d6x: ∀ x:List Int×FnV 87×Unit,(decide (x.1.length<=1048576)&&X8 x.1)=true->Zd Sq 0 (Za Gg (Zf (Yi (x.1.map Zp)))) GX [] (Zx e3q (encL x)):=by
 rintro⟨l,g,⟨⟩⟩ h
 unfold X8 at h
 simp only[Bool.and_eq_true,decide_eq_true_eq,List.all_eq_true]at h
 have a:YL (l.map Zp)=true:=by
  unfold YL
  rw[decide_eq_true (by rw[List.length_map];exact h.1),Bool.true_and]
  refine decide_eq_true (LW (c:=1000) (by omega) (by simp;exact h.1) fun s hs=> ?_)
  simp only[List.mem_map]at hs
  obtain⟨x,⟨y,b,rfl⟩,rfl⟩:=hs
  have:=QK (n:=y) (by have:=h.2 y b;omega)
  unfold Kk at this
  omega
 refine f5y l ⟨by rw[List.length_map];exact b9d _ h.1,?_⟩
 have:=c1e l h.1 h.2 a l.length 0 (by omega)
 rw[CB,List.map_replicate,List.length_map]at this
 rw[List.length_map,Int.toNat_natCast]
 exact this
theorem d6r: ∀ x:Tm×Unit,UK x.1.nd=true->Zd a8s 0 (Za Om (Zf (a5a x.1.nd))) b5h [] (Zx e4r (encL x)):=by
 rintro⟨⟨n,ks⟩,⟨⟩⟩ h
 rw[<- YQ]
 show Zd a8s 0 (Za Om (Zf (a5a n))) _ _ _
 have h:UK n=true:=h
 refine f9w n ks (Zy (fun h1=>⟨Zc (n.num,()) rfl ?_,Zb (n.num,()) rfl (Zg ?_)⟩) fun h1=>Zb ((n.num==1),()) rfl (Zg ?_))
 ·have h1:n.name.s=Xa:=h1
  unfold UK at h
  rw[if_neg (by rw[h1];decide)]at h
  simp only[Bool.and_eq_true,decide_eq_true_eq]at h
  show(decide _&&decide _)=true
  rw[decide_eq_true (by omega),decide_eq_true (by omega)];rfl
 ·have h1:n.name.s=Xa:=h1
  unfold a5a Sc
  rw[if_pos h1];rfl
 ·have h1 : ¬ n.name.s=Xa:=h1
  unfold a5a Sc e7f
  rw[if_neg h1]
  by_cases h2:n.num=1
  ·rw[h2];rfl
  ·rw[if_neg h2,show(n.num==1)=false by simpa using h2];rfl
theorem c0n: ∀ x:Tm×Unit,tW x.1=true->Zd EU 0 (Za Pd (Zf (Ja x.1))) a4f [] (Zx e1l (encL x)):=by
 rintro⟨⟨n,ks⟩,⟨⟩⟩ h
 rw[<- YQ]
 show Zd EU 0 (Za Pd (Zf (Ja (.mk n ks)))) _ _ _
 refine e3h n ks ⟨Zc (.mk n ks,()) (YQ n ks) h,Zb (.mk n ks,()) (YQ n ks) (YY (fun h1=> ?_) fun h1=> ?_)⟩
 ·have h1:YK (.mk n ks)=false:=h1
  exact Zg (x:=((⟨[]⟩,1):Str×Int)) (by unfold Ja;rw[h1];rfl)
 ·have h1:YK (.mk n ks)=true:=h1
  have a:Z9 (.mk n ks)=true:=JN (by unfold YK at h1;rw[Bool.and_eq_true]at h1;exact h1.1)
  have h:tW (.mk n ks)=true:=h
  refine⟨Zc (.mk n ks,()) (YQ n ks) (by show(tW (.mk n ks)&&Z9 (.mk n ks))=true;rw[h,a];rfl),Zb (.mk n ks,()) (YQ n ks) (Zb (Zt (.mk n ks),()) rfl (Zg (x:=Qn (Zt (.mk n ks))) ?_))⟩
  unfold Ja;rw[h1];rfl
theorem Vx(a b:List UInt8):Zk (a++b)=Zk a++Zk b:=by unfold Zk;rw[List.map_append]
theorem g2h{t n:Nat}{xs:List PV}(pre ds:List UInt8):((AV.row 0 (n+(Zk pre).length+ds.length) 0 (n+(Zk pre).length+ds.length),[AObj.row false t 1 (xs++Zk pre++Zk ds)],[]):AV×List AObj×List AObj)=(a5d n (pre++ds),[.row false t 1 (xs++Zk (pre++ds))],[]):=by
 unfold a5d
 rw[Vx,U8,List.length_append,List.append_assoc,Nat.add_assoc]
theorem Ov{n m:Nat}{xs:List PV}(h:xs.length=n)(hn:n+m<=1099511627776):(List.length xs==n&&n==n&&decide ((n+m)*1<=1099511627776)&&decide (n+m<=1099511627776))=true:=by
 rw[h,Nat.mul_one,decide_eq_true hn];simp
theorem M7{n:Nat}{u:Int}{xs:List PV}(h:xs.length=n)(a:0<=u)(h1:u<18446744073709551616)(hn:n<=1099511620000):D7 5 [.row 0 n 0 n,.pv (.int .u64 u),.pv (.int .i64 10)] [.row false 5 1 xs]=true:=by
 show(5==5&&n==n&&xs.length==n&&decide (0<=u)&&decide (u<18446744073709551616)&&(10:Int)==10&&decide (n<=1099511620000))=true
 rw[h,decide_eq_true a,decide_eq_true h1,decide_eq_true hn];simp
theorem MM{n:Nat}{i:Int}{xs:List PV}(h:xs.length=n)(a : -9223372036854775808<=i)(h1:i<=9223372036854775807)(hn:n<=1099511610000):U3 5 [.row 0 n 0 n,.pv (.int .i64 i),.pv (.int .i64 10)] [.row false 5 1 xs]=true:=by
 show(5==5&&n==n&&xs.length==n&&decide (-9223372036854775808<=i)&&decide (i<=9223372036854775807)&&(10:Int)==10&&decide (n<=1099511610000))=true
 rw[h,decide_eq_true a,decide_eq_true h1,decide_eq_true hn];simp
theorem e4f{i:Int}(h:i<0)(h0 : -9223372036854775808<=i):IntKind.wrap .u64 (-IntKind.wrap .u64 i)=(i.natAbs:Int):=by
 simp[IntKind.wrap,IntKind.bits,IntKind.signed]
 omega
theorem e3u{i:Int}(h : ¬ i<0)(h0:i<=9223372036854775807):IntKind.wrap .u64 i=(i.natAbs:Int):=by
 simp[IntKind.wrap,IntKind.bits,IntKind.signed]
 omega
theorem e7j: ∀ args os,U3 5 args os=true->Zd e1a os.length (Xw os.length a7m fun r=>r=Sb args os) a8e [] (U7 f4h args os):=by
 intro args os h
 unfold U3 at h
 split at h
 ·rename_i n a i b ty xs
  simp only[Bool.and_eq_true,beq_iff_eq,decide_eq_true_eq]at h
  obtain⟨⟨⟨⟨⟨⟨rfl,rfl⟩,hxl⟩,h0⟩,h1⟩,rfl⟩,hn⟩:=h
  refine g5i a i xs (ZO (fun hi=> ?_) fun hi=> ?_)
  ·have e:Lib.itoa i=[45]++Lib.decDigits i.natAbs:=Vi hi
   rw[e4f hi h0,Int.toNat_natCast]
   refine⟨Ov hxl (by show a+1<=_;omega),M7 (by rw[List.length_append,hxl]) (by omega) (by omega) (by show a+1<=_;omega),?_⟩
   show _=((a5d a (Lib.itoa i),[.row false 5 1 (xs++Zk (Lib.itoa i))],[]):AV×List AObj×List AObj)
   rw[e]
   exact g2h [45] _
  ·have e:Lib.itoa i=Lib.decDigits i.natAbs:=YH hi
   rw[e3u hi h1,Int.toNat_natCast]
   refine⟨M7 hxl (by omega) (by omega) (by omega),?_⟩
   show _=((a5d a (Lib.itoa i),[.row false 5 1 (xs++Zk (Lib.itoa i))],[]):AV×List AObj×List AObj)
   rw[e]
   rfl
 ·cases h
theorem e5j: ∀ args os,U3 5 args os=true->Zd c6j os.length (Xw os.length b2f fun r=>r=Sb args os) a8k [] (U7 f6f args os):=by
 intro args os h
 have h2:=h
 unfold U3 at h
 split at h
 ·rename_i n a i b ty xs
  simp only[Bool.and_eq_true,beq_iff_eq,decide_eq_true_eq]at h
  obtain⟨⟨⟨⟨⟨⟨rfl,rfl⟩,hxl⟩,h0⟩,h1⟩,rfl⟩,hn⟩:=h
  exact g4f a i xs ⟨h2,rfl⟩
 ·cases h
theorem e9f: ∀ args os,JA 5 args os=true->Zd c9l os.length (Xw os.length b0k fun r=>r=O0 args os) b0u [] (U7 f6m args os):=by
 intro args os h
 unfold JA at h
 split at h
 ·rename_i i s n a ty xs
  simp only[Bool.and_eq_true,beq_iff_eq,decide_eq_true_eq]at h
  obtain⟨⟨⟨⟨⟨rfl,rfl⟩,hxl⟩,h0⟩,h1⟩,hn⟩:=h
  refine g5x a i s xs (YV (fun hs=> ?_) fun hs=> ?_)
  ·subst hs
   refine⟨Ov hxl (by show a+1<=_;omega),MM (by rw[List.length_append,hxl]) h0 h1 (by show a+1<=_;omega),?_⟩
   show(AV.tup [],[AObj.box [.row 1 (a+1+(Lib.itoa i).length) 0 (a+1+(Lib.itoa i).length)],.row false 5 1 (xs++Zk [32]++Zk (Lib.itoa i))],[])=((AV.tup [],[AObj.box [.row 1 (a+(Uk true i).length) 0 (a+(Uk true i).length)],.row false 5 1 (xs++Zk (Uk true i))],[]):AV×List AObj×List AObj)
   have e:Uk true i=[32]++Lib.itoa i:=rfl
   rw[e,Vx,List.length_append,List.append_assoc,Nat.add_assoc]
   rfl
  ·subst hs
   exact⟨MM hxl h0 h1 (by omega),rfl⟩
 ·cases h
def apH(a:Arr)(o:List UInt8):ZF:=[.obj (.box [.pv (enc a.e),.pv (enc a.d),.pv (enc a.x)]),.obj (.box [.row 2 o.length 0 o.length]),.obj (.row false 5 1 (Zk o))]
theorem Nb{i:Int}{s:Bool}{o:List UInt8}(a : -9223372036854775808<=i)(h1:i<=9223372036854775807)(hn:o.length<=1099511600000):JA 5 [.pv (.int .i64 i),.pv (.bool s),.ptr 0 0] [.box [.row 1 o.length 0 o.length],.row false 5 1 (Zk o)]=true:=by
 show(5==5&&o.length==o.length&&(Zk o).length==o.length&&decide (-9223372036854775808<=i)&&decide (i<=9223372036854775807)&&decide (o.length<=1099511600000))=true
 rw[U8,decide_eq_true a,decide_eq_true h1,decide_eq_true hn];simp
theorem Ra(s:Bool){i:Int}(h:i.natAbs<18446744073709551616):(Uk s i).length<=22:=by
 have h:=QK h
 have h:(Lib.itoa i).length<=21:=h
 unfold Uk
 rw[List.length_append]
 cases s
 ·show 0+_<=_;omega
 ·show 1+_<=_;omega
def Yq(o:List UInt8):Bool->List Int->List UInt8
 | _,[]=>o
 | s,n::l=>Yq (o++Uk s n) true l
theorem f9i(o:List UInt8):(Zk o).all DJ=true:=by
 unfold Zk
 rw[List.all_eq_true]
 intro x a
 obtain⟨b,_,rfl⟩:=List.mem_map.1 a
 have:b.toNat<256:=b.toNat_lt
 simp[DJ]
 omega
theorem d2q(o:List UInt8):Y0 (Zk o)=o:=by
 unfold Y0 Zk
 rw[List.map_map]
 conv=>rhs;rw[<- List.map_id o]
 refine List.map_congr_left fun b _=> ?_
 show UInt8.ofNat ((b.toNat:Int).toNat)=b
 rw[Int.toNat_natCast,UInt8.ofNat_toNat]
theorem c5m(a:Arr)(G:PV->Prop)(e : ∀ n∈a.x,n.natAbs<9223372036854775808)(hl:a.x.length<=2000000): ∀ (d i:Nat) (o:List UInt8),d+i=a.x.length->o.length<=100000000+22*i ->
  G (.tup [.str (Yq o true (a.x.drop i)++[93]),.int .i64 0]) ->
  At Wl 0 (Za XG G) XD 1 56 [(1,.ptr 0 0),(4,.ptr 1 0),(5,.fn 95 [] [.ptr 1 0]),(40,.pv (.int .i64 a.x.length)),(41,.pv (.int .i64 i))] (apH a o):=by
 intro d
 induction d with
 | zero=>
  intro i o hi ho h
  rw[List.drop_eq_nil_of_le (by omega)]at h
  have g:(Zk o).length=o.length:=U8 o
  refine LV a o.length i (Zk o) (ZU (Yx (by omega)) ⟨Ov g (by show o.length+1<=_;omega),?_,?_⟩)
  ·show((Zk o++Zk [93]).length==o.length+1&&(Zk o++Zk [93]).all DJ&&1==1)=true
   rw[<- Vx,U8,f9i,List.length_append];simp
  ·show G (.tup [.str (Y0 (List.drop 0 (List.take (o.length+1) (Zk o++Zk [93])))),.int .i64 0])
   rw[<- Vx,List.drop_zero,List.take_of_length_le (by rw[U8,List.length_append];exact Nat.le_refl _),d2q]
   exact h
 | succ d ih=>
  intro i o hi ho h
  have b:i<a.x.length:=by omega
  have hn:=e _ (List.getElem_mem b)
  have hnl:=Ra true (i:=a.x[i]) (by omega)
  rw[List.drop_eq_getElem_cons b]at h
  have k:=ih (i+1) (o++Uk true a.x[i]) (by omega) (by rw[List.length_append];omega) h
  refine LV a o.length i (Zk o) (ZT (Yt b) ⟨Zq b rfl,ZB b ⟨Nb (by show _<=a.x[i];omega) (by show a.x[i]<=_;omega) (by omega),?_⟩⟩)
  rw[next (by omega)]
  unfold apH at k
  rw[Vx,List.length_append]at k
  exact k
theorem c5k(a:Arr)(G:PV->Prop)(hd : ∀ n∈a.d,n.natAbs<9223372036854775808)(hl:a.d.length<=2000000)
  (e : ∀ o:List UInt8,o.length<=44000010->G (.tup [.str (Yq (o++[58]) true a.x++[93]),.int .i64 0])->At Wl 0 (Za XG G) XD 1 56 [(1,.ptr 0 0),(4,.ptr 1 0),(5,.fn 95 [] [.ptr 1 0]),(40,.pv (.int .i64 a.x.length)),(41,.pv (.int .i64 (0:Nat)))] (apH a (o++[58]))) : ∀ (d i:Nat) (o:List UInt8),d+i=a.d.length->o.length<=10+22*i ->
  G (.tup [.str (Yq (Yq o (decide (0<i)) (a.d.drop i)++[58]) true a.x++[93]),.int .i64 0]) ->
  At Wl 0 (Za XG G) XD 0 56 [(1,.ptr 0 0),(4,.ptr 1 0),(5,.fn 95 [] [.ptr 1 0]),(21,.pv (.int .i64 a.d.length)),(22,.pv (.int .i64 i))] (apH a o):=by
 intro d
 induction d with
 | zero=>
  intro i o hi ho h
  rw[List.drop_eq_nil_of_le (by omega)]at h
  have j:(Zk o).length=o.length:=U8 o
  have k:=e o (by omega) h
  unfold apH at k
  rw[Vx,List.length_append]at k
  refine LY a o.length i (Zk o) (ZU (Yx (by omega)) ⟨Ov j (by show o.length+1<=_;omega),?_⟩)
  rw[List.length_map]
  exact k
 | succ d ih=>
  intro i o hi ho h
  have b:i<a.d.length:=by omega
  have hn:=hd _ (List.getElem_mem b)
  have hnl:=Ra (decide (0<i)) (i:=a.d[i]) (by omega)
  rw[List.drop_eq_getElem_cons b]at h
  have k:=ih (i+1) (o++Uk (decide (0<i)) a.d[i]) (by omega) (by rw[List.length_append];omega) (by rw[decide_eq_true (show 0<i+1 by omega)];exact h)
  refine LY a o.length i (Zk o) (ZT (Yt b) ⟨Zq b rfl,ZB b ⟨Nb (by show _<=a.d[i];omega) (by show a.d[i]<=_;omega) (by omega),?_⟩⟩)
  rw[next (by omega)]
  have g:decide ((i:Int)>0)=decide (0<i):=decide_eq_decide.2 (by omega)
  rw[g]
  unfold apH at k
  rw[Vx,List.length_append]at k
  exact k
theorem R8: ∀ (l:List Int) (o:List UInt8),Yq o true l=o++l.flatMap fun n=>[32]++Kk n
 | [],o=>by simp[Yq]
 | n::l,o=>by
  rw[Yq,R8 l,List.flatMap_cons,List.append_assoc]
  rfl
theorem Af: ∀ (l:List Int) (o:List UInt8),Yq o false l=o++Vu l
 | [],o=>by simp[Yq,Vu]
 | [n],o=>by simp only[Yq,Vu];rfl
 | n::m::r,o=>by
  rw[Yq,Vu]
  ·have h:=Af (m::r) (o++Uk false n++[32])
   rw[Yq]at h ⊢
   have e:o++Uk false n++Uk true m=o++Uk false n++[32]++Uk false m:=by
    show o++Uk false n++([32]++Lib.itoa m)=_
    simp[Uk]
   rw[e,h]
   show o++([]++Lib.itoa n)++[32]++_=_
   simp[Kk,Zp]
  ·simp
theorem b0h: ∀ x:Arr×Unit,(VH x.1&&WE x.1)=true->Zd Wl 0 (Za XG (Zf (J8 x.1))) XD [] (Zx c2k (encL x)):=by
 rintro⟨a,⟨⟩⟩ h
 rw[Bool.and_eq_true]at h
 have hs:VH a=true:=h.1
 have i:WE a=true:=h.2
 have b:=hs
 unfold VH at b
 simp only[Bool.and_eq_true,decide_eq_true_eq]at b
 obtain⟨hd,j⟩:=Ea i
 have fin : ∀ o:List UInt8,(o=if a.e.s=YM then [35,98,91]else [35,91])->Zf (J8 a) (.tup [.str (Yq (Yq o (decide (0<0)) (a.d.drop 0)++[58]) true a.x++[93]),.int .i64 0]):=fun o ho=>by
  have e:Yq (Yq o (decide (0<0)) (a.d.drop 0)++[58]) true a.x++[93]=Sl a:=by
   rw[List.drop_zero,show decide (0<0)=false from rfl,Af,R8,ho]
   rfl
  rw[e]
  exact Zg (x:=((⟨Sl a⟩,0):Str×Int)) rfl
 have g : ∀ o:List UInt8,o.length<=10->Zf (J8 a) (.tup [.str (Yq (Yq o (decide (0<0)) (a.d.drop 0)++[58]) true a.x++[93]),.int .i64 0])->_:=fun o ho k=>
  c5k a (Zf (J8 a)) hd b.1 (fun o ho k=>c5m a (Zf (J8 a)) j b.2 a.x.length 0 (o++[58]) (by omega) (by rw[List.length_append];show _+1<=_;omega) k) a.d.length 0 o (by omega) (by omega) k
 refine d1s a ⟨Zc (a,()) rfl hs,Zb (a,()) rfl (YY (fun hn=> ?_) fun hn=>Zy (fun hb=> ?_) fun hb=> ?_)⟩
 ·have hn:WE a=false:=hn
  rw[i]at hn;cases hn
 ·rw[List.length_map]
  exact g [35,98,91] (by decide) (fin _ (by rw[if_pos (show a.e.s=YM from hb)]))
 ·rw[List.length_map]
  exact g [35,91] (by decide) (fin _ (by rw[if_neg (show ¬ a.e.s=YM from hb)]))
end Go.Pl
namespace Go.Pl
open Go.RowKit
open Enc (enc dec is)
open EncL (encL decL isL)
set_option maxRecDepth 100000
abbrev g5q(N:Nat)(ps:List PV)(k:Int->Prop):Prop:=Ym (fun(x:Tm×Unit)=>tW (Prod.fst x)&&decide (Z4 (Prod.fst x)<N)) (fun(x:Tm×Unit)=>(↑(Z4 (Prod.fst x)):Int)) ps k
abbrev g3z(N:Nat)(ps:List PV)(k:Int->Prop):Prop:=Ym (fun(x:Tm×Unit)=>tW (Prod.fst x)&&decide (Z4 (Prod.fst x)<N)) (fun(x:Tm×Unit)=>(↑(Yb (Prod.fst x)):Int)) ps k
abbrev g2q(N:Nat)(ps:List PV)(k:List Tm->Prop):Prop:=Ym (fun(x:Tm×Unit)=>tW (Prod.fst x)&&decide (Z4 (Prod.fst x)<N)) (fun(x:Tm×Unit)=>Xb (Prod.fst x)) ps k
abbrev g1t(ps:List PV)(k:Int->Prop):Prop:=Ym (fun(x:Tm×Unit)=>tW (Prod.fst x)) (fun(x:Tm×Unit)=>(↑(Z4 (Prod.fst x)):Int)) ps k
abbrev g1q(ps:List PV)(k:Int->Prop):Prop:=Ym (fun(x:Tm×Unit)=>tW (Prod.fst x)) (fun(x:Tm×Unit)=>(↑(Yb (Prod.fst x)):Int)) ps k
abbrev g5g(ps:List PV)(k:List Tm->Prop):Prop:=Ym (fun(x:Tm×Unit)=>tW (Prod.fst x)) (fun(x:Tm×Unit)=>Xb (Prod.fst x)) ps k
abbrev d7d(ps:List PV)(k:Tm->Prop):Prop:=ceP (fun(x:Str×Unit)=>vT (Prod.fst x)) ps k
abbrev g6l(ps:List PV)(k:Tm->Prop):Prop:=ceP (fun(x:Str×List Tm×Unit)=>cT (Prod.fst x) (Prod.fst (Prod.snd x))) ps k
abbrev b5q(ps:List PV)(k:Tm->Prop):Prop:=Ym (fun(x:Str×List Tm×Unit)=>true) (fun(x:Str×List Tm×Unit)=>cT (Prod.fst x) (Prod.fst (Prod.snd x))) ps k
abbrev f2a(ps:List PV)(k:Str×Int->Prop):Prop:=Ym (fun(x:Tm×Unit)=>tW (Prod.fst x)) (fun(x:Tm×Unit)=>Ja (Prod.fst x)) ps k
noncomputable def GA:IC:=YI Proofs.Tryz.f47
def GU:List IRes:=[(.tmp 2)]
abbrev e4u:Nat:=22
def Au(N:Nat):ZC:=Yh [(47,.pure (preT (fun x:Tm×Unit=>tW x.1&&decide (Z4 x.1<N))) (Zi (fun x:Tm×Unit=>(Z4 x.1:Int))))]
theorem g0s{G:PV->Prop}(N:Nat)(n:Nd)(ks:List Tm)(h:At (Au N) 0 (Za GU G) GA 0 22 [(1,(.ptr 0 0)),(3,(.pv (.int .i64 0))),(4,(.pv (.int .i64 0)))] [(.obj (.box (ZY n ks)))]):Zd (Au N) 0 (Za GU G) GA [] (Zx 22 [.agg [enc n.kind,enc n.line,enc n.name,enc n.num,enc n.elem,enc n.dims,enc n.data,enc n.sizes,enc n.ranks,enc ks]]):=Zd.tp (.nil) h
theorem b8n{G:PV->Prop}(N:Nat)(n:Nd)(ks:List Tm)(m i:Int)(h:if (Cn ks i)=true then(Y1 ks i 10 fun b=>(BL b=true∧((g5q N (Kz b) fun a=>(At (Au N) 0 (Za GU G) GA 0 22 [(1,(.ptr 0 0)),(3,(.pv (.int .i64 (if true=true then if a>m then a else m else if a<m then a else m)))),(4,(.pv (.int .i64 (IntKind.wrap IntKind.i64 (i+1)))))] [(.obj (.box (ZY n ks)))])))))else(G ((.int .i64 (IntKind.wrap IntKind.i64 (m+1)))))):At (Au N) 0 (Za GU G) GA 0 22 [(1,.ptr 0 0),(3,.pv (.int .i64 m)),(4,.pv (.int .i64 i))] [.obj (.box [.pv (enc n.kind),.pv (enc n.line),.pv (enc n.name),.pv (enc n.num),.pv (enc n.elem),.pv (enc n.dims),.pv (enc n.data),.pv (enc n.sizes),.pv (enc n.ranks),.pv (enc ks)])]:=At.tp (dm [dr Tm,dv Int] 15 0x2026115100742) h
noncomputable def KZ:IC:=YI Proofs.Tryz.f48
def KN:List IRes:=[(.tmp 2)]
abbrev d3d:Nat:=21
def GV(N:Nat):ZC:=Yh [(48,.pure (preT (fun x:Tm×Unit=>tW x.1&&decide (Z4 x.1<N))) (Zi (fun x:Tm×Unit=>(Yb x.1:Int))))]
theorem e9b{G:PV->Prop}(N:Nat)(n:Nd)(ks:List Tm)(h:At (GV N) 0 (Za KN G) KZ 0 21 [(1,(.ptr 0 0)),(3,(.pv (.int .i64 1))),(4,(.pv (.int .i64 0)))] [(.obj (.box (ZY n ks)))]):Zd (GV N) 0 (Za KN G) KZ [] (Zx 21 [.agg [enc n.kind,enc n.line,enc n.name,enc n.num,enc n.elem,enc n.dims,enc n.data,enc n.sizes,enc n.ranks,enc ks]]):=Zd.tp (.nil) h
theorem a1a{G:PV->Prop}(N:Nat)(n:Nd)(ks:List Tm)(m i:Int)(h:if (Cn ks i)=true then(Y1 ks i 10 fun a=>(BL a=true∧((g3z N (Kz a) fun b=>(At (GV N) 0 (Za KN G) KZ 0 21 [(1,(.ptr 0 0)),(3,(.pv (.int .i64 (IntKind.wrap IntKind.i64 (m+b))))),(4,(.pv (.int .i64 (IntKind.wrap IntKind.i64 (i+1)))))] [(.obj (.box (ZY n ks)))])))))else(G ((.int .i64 m)))):At (GV N) 0 (Za KN G) KZ 0 21 [(1,.ptr 0 0),(3,.pv (.int .i64 m)),(4,.pv (.int .i64 i))] [.obj (.box [.pv (enc n.kind),.pv (enc n.line),.pv (enc n.name),.pv (enc n.num),.pv (enc n.elem),.pv (enc n.dims),.pv (enc n.data),.pv (enc n.sizes),.pv (enc n.ranks),.pv (enc ks)])]:=At.tp (dm [dr Tm,dv Int] 15 0x226115100842) h
noncomputable def GZ:IC:=YI Proofs.Tryz.f49
def G7:List IRes:=[(.tmp 2)]
abbrev e8c:Nat:=23
def AA(N:Nat):ZC:=Yh [(49,.pure (preT (fun x:Tm×Unit=>tW x.1&&decide (Z4 x.1<N))) (Zi (fun x:Tm×Unit=>Xb x.1)))]
theorem f8k{G:PV->Prop}(N:Nat)(n:Nd)(ks:List Tm)(h:At (AA N) 0 (Za G7 G) GZ 0 23 [(1,(.ptr 0 0)),(3,(.row 1 1 0 1)),(4,(.pv (.int .i64 0)))] [(.obj (.box (ZY n ks))),(.obj (.row false 29 10 (Dh n ks)))]):Zd (AA N) 0 (Za G7 G) GZ [] (Zx 23 [.agg [enc n.kind,enc n.line,enc n.name,enc n.num,enc n.elem,enc n.dims,enc n.data,enc n.sizes,enc n.ranks,enc ks]]):=Zd.tp (.lit (.nil)) h
theorem b5n{G:PV->Prop}(N:Nat)(n:Nd)(ks:List Tm)(k:Nat)(i:Int)(o:List Tm)(h:if (Cn ks i)=true then(Y1 ks i 10 fun b=>(BL b=true∧((g2q N (Kz b) fun a=>((List.isEmpty (List.map enc a)||Enc.sz Tm==10)=true∧((List.length (List.map enc o)==k&&k==k&&decide ((k+List.length (List.map enc a))*176<=1099511627776)&&decide (k+List.length (List.map enc a)<=1099511627776))=true∧(At (AA N) 0 (Za G7 G) GZ 0 23 [(1,(.ptr 0 0)),(3,(.row 1 (k+List.length (List.map enc a)) 0 (k+List.length (List.map enc a)))),(4,(.pv (.int .i64 (IntKind.wrap IntKind.i64 (i+1)))))] [(.obj (.box (ZY n ks))),(.obj (.row false 29 10 (List.map enc o++List.map enc a)))])))))))else((List.length (List.map enc o)==k)=true∧(G ((.sl 10 false (List.drop 0 (List.take k (List.map enc o)))))))):At (AA N) 0 (Za G7 G) GZ 0 23 [(1,.ptr 0 0),(3,.row 1 k 0 k),(4,.pv (.int .i64 i))] [.obj (.box [.pv (enc n.kind),.pv (enc n.line),.pv (enc n.name),.pv (enc n.num),.pv (enc n.elem),.pv (enc n.dims),.pv (enc n.data),.pv (enc n.sizes),.pv (enc n.ranks),.pv (enc ks)]),.obj (.row false 29 10 (o.map enc))]:=At.tp (dm [dr Tm,dv (List Tm)] 17 0x102116115100942) h
noncomputable def VQ:IC:=YI Proofs.Tryz.f25
def Vp:List IRes:=[(.tmp 4)]
abbrev e5n:Nat:=91
def U2:ZC:=Yh [(47,.pure (preT (fun x:Tm×Unit=>tW x.1)) (Zi (fun x:Tm×Unit=>(Z4 x.1:Int)))),(48,.pure (preT (fun x:Tm×Unit=>tW x.1)) (Zi (fun x:Tm×Unit=>(Yb x.1:Int)))),(49,.pure (preT (fun x:Tm×Unit=>tW x.1)) (Zi (fun x:Tm×Unit=>Xb x.1)))]
theorem f8l{G:PV->Prop}(n:Nd)(ks:List Tm)(m:Int)(h:(g1t (Dh n ks) fun b=>(if (decide (b>12))=true then G ((.bool false))else((g1q (Dh n ks) fun a=>(if (decide (a>m))=true then G ((.bool false))else((g5g (Dh n ks) fun e=>(At U2 0 (Za Vp G) VQ 0 91 [(5,(.pv (.sl 10 false (List.map enc e)))),(6,(.pv (.int .i64 0)))] []))))))))):Zd U2 0 (Za Vp G) VQ [] (Zx 91 [.agg [enc n.kind,enc n.line,enc n.name,enc n.num,enc n.elem,enc n.dims,enc n.data,enc n.sizes,enc n.ranks,enc ks],.int .i64 m]):=Zd.tp (dm [dv Int,dv (List Tm)] 29 0x610001422225120222220064251) h
abbrev a7y(a:List Tm):Nat×AV:=(5,(.pv (.sl 10 false (List.map enc a))))
theorem b4d{G:PV->Prop}(n:Nd)(ks:List Tm)(m:Int)(i:Int)(o:List Tm)(h:if (Cn o i)=true then(Y1 o i 10 fun j=>((decide (0+List.length [Sh.str]<=List.length (List.drop 2 (PV.cells (enc j))))&&Yj (List.drop 2 (PV.cells (enc j))) 0 [Sh.str])=true∧(if (decide ((↑(List.length (PV.asStr (List.getD (List.drop 2 (PV.cells (enc j))) 0 default))):Int)>40))=true then G ((.bool false))else((Y1 o i 10 fun a=>((decide (0+List.length [Sh.sl 1]<=List.length (List.drop 2 (List.drop 4 (PV.cells (enc a)))))&&Yj (List.drop 2 (List.drop 4 (PV.cells (enc a)))) 0 [Sh.sl 1])=true∧(if (decide ((↑(List.length (PV.asXs (List.getD (List.drop 2 (List.drop 4 (PV.cells (enc a)))) 0 default))):Int)>30))=true then G ((.bool false))else((Y1 o i 10 fun b=>((decide (0+List.length [Sh.sl 1]<=List.length (List.drop 1 (List.drop 4 (PV.cells (enc b)))))&&Yj (List.drop 1 (List.drop 4 (PV.cells (enc b)))) 0 [Sh.sl 1])=true∧(if (decide ((↑(List.length (PV.asXs (List.getD (List.drop 1 (List.drop 4 (PV.cells (enc b)))) 0 default))):Int)>8))=true then G ((.bool false))else((Y1 o i 10 fun e=>((decide (0+List.length [Sh.sl 2]<=List.length (List.drop 7 (PV.cells (enc e))))&&Yj (List.drop 7 (PV.cells (enc e))) 0 [Sh.sl 2])=true∧(if (decide ((↑(List.length (PV.asXs (List.getD (List.drop 7 (PV.cells (enc e))) 0 default))):Int)>6))=true then G ((.bool false))else((Y1 o i 10 fun g=>((decide (0+List.length [Sh.sl 1]<=List.length (List.drop 8 (PV.cells (enc g))))&&Yj (List.drop 8 (PV.cells (enc g))) 0 [Sh.sl 1])=true∧(if (decide ((↑(List.length (PV.asXs (List.getD (List.drop 8 (PV.cells (enc g))) 0 default))):Int)>10))=true then G ((.bool false))else(At U2 0 (Za Vp G) VQ 1 91 [(a7y o),(6,(.pv (.int .i64 i))),(7,(.pv (.int .i64 0)))] []))))))))))))))))))))else(G ((.bool true)))):At U2 0 (Za Vp G) VQ 0 91 [(5,.pv (enc o)),(6,.pv (.int .i64 i))] []:=At.tp (dm [dr Tm] 166 0x14222212251220222222220094222212251220222222222222222201142222122251220222222222222222222222222201a4222212225122022222222222222222222222222222222220234215109f42) h
theorem b5p{G:PV->Prop}(n:Nd)(ks:List Tm)(m:Int)(i j:Int)(o:List Tm)(h:(Y1 o i 10 fun b=>((decide (0+List.length [Sh.sl 2]<=List.length (List.drop 7 (PV.cells (enc b))))&&Yj (List.drop 7 (PV.cells (enc b))) 0 [Sh.sl 2])=true∧(if (decide (j<(↑(List.length (PV.asXs (List.getD (List.drop 7 (PV.cells (enc b))) 0 default))):Int)))=true then(Y1 o i 10 fun a=>((decide (0+List.length [Sh.sl 2]<=List.length (List.drop 7 (PV.cells (enc a))))&&Yj (List.drop 7 (PV.cells (enc a))) 0 [Sh.sl 2])=true∧((decide (0<=j)&&decide (Int.toNat j<List.length (PV.asXs (List.getD (List.drop 7 (PV.cells (enc a))) 0 default)))&&2==2)=true∧((decide (0+List.length [Sh.sl 2]<=List.length (List.drop 1 (PV.cells (List.getD (PV.asXs (List.getD (List.drop 7 (PV.cells (enc a))) 0 default)) (Int.toNat j) default))))&&Yj (List.drop 1 (PV.cells (List.getD (PV.asXs (List.getD (List.drop 7 (PV.cells (enc a))) 0 default)) (Int.toNat j) default))) 0 [Sh.sl 2])=true∧(if (decide ((↑(List.length (PV.asXs (List.getD (List.drop 1 (PV.cells (List.getD (PV.asXs (List.getD (List.drop 7 (PV.cells (enc a))) 0 default)) (Int.toNat j) default))) 0 default))):Int)>6))=true then G ((.bool false))else(At U2 0 (Za Vp G) VQ 1 91 [(a7y o),(6,(.pv (.int .i64 i))),(7,(.pv (.int .i64 (IntKind.wrap IntKind.i64 (j+1)))))] []))))))else(At U2 0 (Za Vp G) VQ 0 91 [(a7y o),(6,(.pv (.int .i64 (IntKind.wrap IntKind.i64 (i+1)))))] []))))):At U2 0 (Za Vp G) VQ 1 91 [(5,.pv (enc o)),(6,.pv (.int .i64 i)),(7,.pv (.int .i64 j))] []:=At.tp (dm [dr Tm] 25 0x20200014213115100e42151) h
noncomputable def f2g:IC:=YI Proofs.Tryz.f6
def f3a:List IRes:=[(.cell true 10 2)]
abbrev g2w:Nat:=5
def g4p:ZC:=Yh []
theorem g8a{G:PV->Prop}(s:List UInt8)(h:G ((.agg [(.int .i64 1),(.int .i64 0),(.str s),(.int .i64 0),(.str []),(.sl 0 true []),(.sl 0 true []),(.sl 0 true []),(.sl 0 true []),(.sl 0 true [])]))):Zd g4p 0 (Za f3a G) f2g [] (Zx 5 [.str s]):=Zd.tp (.nil) h
noncomputable def a0l:IC:=YI Proofs.Tryz.f13
def a1j:List IRes:=[(.cell true 10 4)]
abbrev c9q:Nat:=8
def b4v:ZC:=Yh []
theorem e7e{G:PV->Prop}(s:List UInt8)(l:List Tm)(h:G ((.agg [(.int .i64 6),(.int .i64 0),(.str s),(.int .i64 0),(.str []),(.sl 0 true []),(.sl 0 true []),(.sl 0 true []),(.sl 0 true []),(.sl 10 false (List.map enc l))]))):Zd b4v 0 (Za a1j G) a0l [] (Zx 8 [.str s,enc l]):=Zd.tp (.nil) h
noncomputable def Fe:IC:=YI Proofs.Tryz.f5
def Mo:List IRes:=[(.tmp 0)]
abbrev c5n:Nat:=47
def a6c:ZC:=Yh [(6,.pure (preT (fun _:Str×Unit=>true)) (Zi (fun x:Str×Unit=>vT x.1))),(13,.pure (preT (fun _:Str×List Tm×Unit=>true)) (Zi (fun x:Str×List Tm×Unit=>cT x.1 x.2.1))),(12,.pure (preT (fun x:Tm×Unit=>tW x.1)) (Zi (fun x:Tm×Unit=>Ja x.1)))]
theorem e1f{G:PV->Prop}(h:Tt (fun(x:Str×Unit)=>vT x.1) [(.str [(97:UInt8)])] fun e:Tm=>d7d [(.str [(98:UInt8)])] fun i=>(g6l [(.str [(110:UInt8),(101:UInt8),(103:UInt8)]),(.sl 10 false [(.agg [(.int .i64 2),(.int .i64 0),(.str [(105:UInt8),(110:UInt8),(116:UInt8)]),(.int .i64 5),(.str []),(.sl 0 true []),(.sl 0 true []),(.sl 0 true []),(.sl 0 true []),(.sl 0 true [])])])] fun j=>((List.all [enc i,enc j] fun(x:PV)=>List.length (PV.cells x)==10&&PV.cellsOk x)=true∧((b5q [(.str [(115:UInt8),(117:UInt8),(98:UInt8)]),(.sl 10 false [enc i,enc j])] fun m=>((List.all [enc e,enc m] fun(x:PV)=>List.length (PV.cells x)==10&&PV.cellsOk x)=true∧((b5q [(.str [(115:UInt8),(117:UInt8),(98:UInt8)]),(.sl 10 false [enc e,enc m])] fun r=>((f2a [enc r] fun g=>(d7d [(.str [(97:UInt8)])] fun b=>(d7d [(.str [(98:UInt8)])] fun l=>((List.all [enc b,enc l] fun(x:PV)=>List.length (PV.cells x)==10&&PV.cellsOk x)=true∧((b5q [(.str [(97:UInt8),(100:UInt8),(100:UInt8)]),(.sl 10 false [enc b,enc l])] fun k=>((List.all [enc k,PV.agg [PV.int .i64 2,PV.int .i64 0,PV.str [(105:UInt8),(110:UInt8),(116:UInt8)],PV.int .i64 (-2:Int),PV.str [],PV.sl 0 true [],PV.sl 0 true [],PV.sl 0 true [],PV.sl 0 true [],PV.sl 0 true []]] fun(x:PV)=>List.length (PV.cells x)==10&&PV.cellsOk x)=true∧((b5q [(.str [(109:UInt8),(117:UInt8),(108:UInt8)]),(.sl 10 false [enc k,(.agg [(.int .i64 2),(.int .i64 0),(.str [(105:UInt8),(110:UInt8),(116:UInt8)]),(.int .i64 (-2)),(.str []),(.sl 0 true []),(.sl 0 true []),(.sl 0 true []),(.sl 0 true []),(.sl 0 true [])])])] fun q=>((f2a [enc q] fun a=>(if (g.2==0)=true then if (a.2==0)=true then if (Str.s g.1==[(97:UInt8),(32:UInt8),(45:UInt8),(32:UInt8),(40:UInt8),(98:UInt8),(32:UInt8),(45:UInt8),(32:UInt8),(45:UInt8),(40:UInt8),(53:UInt8),(41:UInt8),(41:UInt8)])=true then G ((.bool (Str.s a.1==[(40:UInt8),(97:UInt8),(32:UInt8),(43:UInt8),(32:UInt8),(98:UInt8),(41:UInt8),(32:UInt8),(42:UInt8),(32:UInt8),(45:UInt8),(50:UInt8)])))else(G ((.bool false)))else(G ((.bool false)))else(G ((.bool false)))))))))))))))))))))))):Zd a6c 0 (Za Mo G) Fe [] (Zx 47 []):=Zd.tp (dm [dv Tm,dv (Str×Int)] 74 0x222222220222220220222004422200e422201b4261512151215252615121512152225252) h
end Go.Pl
namespace Go.Pl
open Go.RowKit
open Enc (enc dec is)
open EncL (encL decL isL)
set_option maxRecDepth 100000
abbrev SH(N:Nat)(ps:List PV)(k:Str->Prop):Prop:=Ym (fun(x:Tm×Unit)=>tW (Prod.fst x)&&Z9 (Prod.fst x)&&decide (Z4 (Prod.fst x)<N)) (fun(x:Tm×Unit)=>Zt (Prod.fst x)) ps k
abbrev c6x(ps:List PV)(k:Str->Prop):Prop:=Ym (fun(x:List Str×Unit)=>YL (Prod.fst x)) (fun(x:List Str×Unit)=>Yi (Prod.fst x)) ps k
abbrev g4t(ps:List PV)(k:Str->Prop):Prop:=Ym (fun(x:List Lin×FnV 58×Unit)=>decide (List.length (Prod.fst x)<=1048576)&&List.all (Prod.fst x) Zh) (fun(x:List Lin×FnV 58×Unit)=>Yi (List.map Yu (Prod.fst x))) ps k
abbrev f1u(ps:List PV)(k:Str->Prop):Prop:=Ym (fun(x:Int×Unit)=>decide ((-9223372036854775808:Int)<=Prod.fst x)&&decide (Prod.fst x<=9223372036854775807)) (fun(x:Int×Unit)=>Zp (Prod.fst x)) ps k
abbrev b8r(ps:List PV)(k:Str->Prop):Prop:=Ym (fun(x:List Int×FnV 87×Unit)=>decide (List.length (Prod.fst x)<=1048576)&&X8 (Prod.fst x)) (fun(x:List Int×FnV 87×Unit)=>Yi (List.map Zp (Prod.fst x))) ps k
abbrev Bu(N:Nat)(ps:List PV)(k:Str->Prop):Prop:=Ym (fun(x:List Tm×FnV 27×Unit)=>tsW (Prod.fst x)&&Wn (Prod.fst x)&&decide (Yc (Prod.fst x)<N)) (fun(x:List Tm×FnV 27×Unit)=>Yi (List.map Zt (Prod.fst x))) ps k
abbrev g3j(ps:List PV)(k:Str×Int->Prop):Prop:=Ym (fun(x:Tm×Unit)=>tW (Prod.fst x)) (fun(x:Tm×Unit)=>Jv (Prod.fst x)) ps k
abbrev R9(ps:List PV)(k:Int->Prop):Prop:=Ym (fun(x:Tm×Unit)=>tW (Prod.fst x)) (fun(x:Tm×Unit)=>Wh (Prod.fst x)) ps k
abbrev g3x(ps:List PV)(k:Str->Prop):Prop:=Ym (fun(x:Tm×Unit)=>UK (Tm.nd (Prod.fst x))) (fun(x:Tm×Unit)=>a5a (Tm.nd (Prod.fst x))) ps k
abbrev g3v(N:Nat)(ps:List PV)(k:Str->Prop):Prop:=Ym (fun(x:Tm×Unit)=>tW (Prod.fst x)&&Z9 (Prod.fst x)&&decide (Nd.kind (Tm.nd (Prod.fst x))=6)&&decide (Yc (Tm.ks (Prod.fst x))<N)) (fun(x:Tm×Unit)=>Kg (Prod.fst x)) ps k
abbrev f4l(ps:List PV)(k:Str->Prop):Prop:=Ym (fun(x:Lin×Unit)=>Wi (Prod.fst x)) (fun(x:Lin×Unit)=>Str.mk (ZE (Prod.fst x))) ps k
abbrev f9q(ps:List PV)(k:Str×Int->Prop):Prop:=Ym (fun(x:Arr×Unit)=>VH (Prod.fst x)&&WE (Prod.fst x)) (fun(x:Arr×Unit)=>J8 (Prod.fst x)) ps k
noncomputable def Gd:IC:=YI Proofs.Tryz.f57
def GJ:List IRes:=[(.tmp 4)]
abbrev e5w:Nat:=27
def Am(N:Nat):ZC:=Yh [(27,.pure (preT (fun x:Tm×Unit=>(tW x.1&&Z9 x.1)&&decide (Z4 x.1<N))) (Zi (fun x:Tm×Unit=>Zt x.1))),(15,.pure (preT (fun x:List Str×Unit=>YL x.1)) (Zi (fun x:List Str×Unit=>Yi x.1)))]
theorem f9a{G:PV->Prop}(N:Nat)(l:List Tm)(h:(decide (0<=(↑(List.length (List.map enc l)):Int))&&(↑(List.length (List.map enc l)):Int)==(↑(List.length (List.map enc l)):Int)&&decide ((↑(List.length (List.map enc l)):Int)*(↑16:Int)<=1099511627776)&&decide ((↑(List.length (List.map enc l)):Int)<=1099511627776))=true∧(At (Am N) 0 (Za GJ G) Gd 0 27 [(1,(.pv (.fn 27))),(5,(.row 0 (Int.toNat (↑(List.length (List.map enc l)):Int)) 0 (Int.toNat (↑(List.length (List.map enc l)):Int)))),(11,(.pv (.sl 10 false (List.map enc l)))),(12,(.pv (.int .i64 (↑(List.length (List.map enc l)):Int)))),(13,(.pv (.int .i64 0)))] [(.obj (.row false 9 1 (List.replicate (Int.toNat (↑(List.length (List.map enc l)):Int)) (PV.str []))))])):Zd (Am N) 0 (Za GJ G) Gd [] (Zx 27 [enc l,.fn 27]):=Zd.tp (.req (.nil)) h
theorem b7m{G:PV->Prop}(N:Nat)(l:List Tm)(i:Int)(o:List Str)(h:if (decide (i<(↑(List.length l):Int)))=true then(Y1 l i 10 fun b=>(BL b=true∧((SH N (Kz b) fun a=>((decide (0<=i)&&decide (0+Int.toNat i<List.length l)&&List.length (List.map enc o)==List.length l)=true∧((List.length (List.map enc o)==List.length l&&decide (0+Int.toNat i<List.length (List.map enc o))&&List.length (PV.cells (enc a))==1&&decide (0+1<=List.length (PV.cells (List.getD (List.map enc o) (0+Int.toNat i) default)))&&PV.cellsOk (enc a))=true∧(At (Am N) 0 (Za GJ G) Gd 0 27 [(1,(.pv (.fn 27))),(5,(.row 0 (List.length l) 0 (List.length l))),(11,(.pv (.sl 10 false (List.map enc l)))),(12,(.pv (.int .i64 (↑(List.length l):Int)))),(13,(.pv (.int .i64 (IntKind.wrap IntKind.i64 (i+1)))))] [(.obj (.row false 9 1 (List.set (List.map enc o) (0+Int.toNat i) (PV.withCells (List.getD (List.map enc o) (0+Int.toNat i) default) (splice (PV.cells (List.getD (List.map enc o) (0+Int.toNat i) default)) 0 (PV.cells (enc a)))))))])))))))else((List.length (List.map enc o)==List.length l)=true∧((c6x [(.sl 1 false (List.drop 0 (List.take (List.length l) (List.map enc o))))] fun e=>(G ((.str (Str.s e)))))))):At (Am N) 0 (Za GJ G) Gd 0 27 [(1,.pv (.fn 27)),(5,.row 0 l.length 0 l.length),(11,.pv (enc l)),(12,.pv (.int .i64 l.length)),(13,.pv (.int .i64 i))] [.obj (.row false 9 1 (o.map enc))]:=At.tp (dm [dr Tm,dv Str] 20 0x611021316115100a42) h
noncomputable def a5g:IC:=YI Proofs.Tryz.f56
def Rw:List IRes:=[(.tmp 2)]
abbrev c6b:Nat:=45
def OQ(N:Nat):ZC:=Yh [(89,.pure (preT (fun x:List Lin×FnV 58×Unit=>decide (x.1.length<=1048576)&&x.1.all Zh)) (Zi (fun x:List Lin×FnV 58×Unit=>Yi (x.1.map Yu)))),(87,.pure (preT (fun x:Int×Unit=>decide (-9223372036854775808<=x.1)&&decide (x.1<=9223372036854775807))) (Zi (fun x:Int×Unit=>Zp x.1))),(90,.pure (preT (fun x:List Int×FnV 87×Unit=>decide (x.1.length<=1048576)&&X8 x.1)) (Zi (fun x:List Int×FnV 87×Unit=>Yi (x.1.map Zp)))),(57,.pure (preT (fun x:List Tm×FnV 27×Unit=>(tsW x.1&&Wn x.1)&&decide (Yc x.1<N))) (Zi (fun x:List Tm×FnV 27×Unit=>Yi (x.1.map Zt))))]
theorem e6x{G:PV->Prop}(N:Nat)(n:Nd)(ks:List Tm)(h:if (decide ((↑(List.length (List.map enc (Nd.sizes n))):Int)>0))=true then(g4t [(.sl 2 false (List.map enc (Nd.sizes n))),(.fn 58)] fun a=>(ZA [(91:UInt8)] (Str.s a)∧(ZA ([(91:UInt8)]++Str.s a) [(93:UInt8)]∧(ZA (Str.s (Nd.name n)) ([(91:UInt8)]++Str.s a++[(93:UInt8)])∧(if (Nd.num n != 0)=true then(f1u [(.int .i64 (Nd.num n))] fun e=>(ZA [(123:UInt8)] (Str.s e)∧(ZA ([(123:UInt8)]++Str.s e) [(125:UInt8)]∧(ZA (Str.s (Nd.name n)++([(91:UInt8)]++Str.s a++[(93:UInt8)])) ([(123:UInt8)]++Str.s e++[(125:UInt8)])∧(if (decide ((↑(List.length (List.map enc (Nd.ranks n))):Int)>0))=true then(b8r [(.sl 1 false (List.map enc (Nd.ranks n))),(.fn 87)] fun k=>(ZA [(64:UInt8),(40:UInt8)] (Str.s k)∧(ZA ([(64:UInt8),(40:UInt8)]++Str.s k) [(41:UInt8)]∧(ZA (Str.s (Nd.name n)++([(91:UInt8)]++Str.s a++[(93:UInt8)])++([(123:UInt8)]++Str.s e++[(125:UInt8)])) ([(64:UInt8),(40:UInt8)]++Str.s k++[(41:UInt8)])∧(ZA (Str.s (Nd.name n)++([(91:UInt8)]++Str.s a++[(93:UInt8)])++([(123:UInt8)]++Str.s e++[(125:UInt8)])++([(64:UInt8),(40:UInt8)]++Str.s k++[(41:UInt8)])) [(40:UInt8)]∧((Bu N [(.sl 10 false (List.map enc ks)),(.fn 27)] fun A=>(ZA (Str.s (Nd.name n)++([(91:UInt8)]++Str.s a++[(93:UInt8)])++([(123:UInt8)]++Str.s e++[(125:UInt8)])++([(64:UInt8),(40:UInt8)]++Str.s k++[(41:UInt8)])++[(40:UInt8)]) (Str.s A)∧(ZA (Str.s (Nd.name n)++([(91:UInt8)]++Str.s a++[(93:UInt8)])++([(123:UInt8)]++Str.s e++[(125:UInt8)])++([(64:UInt8),(40:UInt8)]++Str.s k++[(41:UInt8)])++[(40:UInt8)]++Str.s A) [(41:UInt8)]∧(G ((.str (Str.s (Nd.name n)++([(91:UInt8)]++Str.s a++[(93:UInt8)])++([(123:UInt8)]++Str.s e++[(125:UInt8)])++([(64:UInt8),(40:UInt8)]++Str.s k++[(41:UInt8)])++[(40:UInt8)]++Str.s A++[(41:UInt8)])))))))))))))else(ZA (Str.s (Nd.name n)++([(91:UInt8)]++Str.s a++[(93:UInt8)])++([(123:UInt8)]++Str.s e++[(125:UInt8)])) [(40:UInt8)]∧((Bu N [(.sl 10 false (List.map enc ks)),(.fn 27)] fun z=>(ZA (Str.s (Nd.name n)++([(91:UInt8)]++Str.s a++[(93:UInt8)])++([(123:UInt8)]++Str.s e++[(125:UInt8)])++[(40:UInt8)]) (Str.s z)∧(ZA (Str.s (Nd.name n)++([(91:UInt8)]++Str.s a++[(93:UInt8)])++([(123:UInt8)]++Str.s e++[(125:UInt8)])++[(40:UInt8)]++Str.s z) [(41:UInt8)]∧(G ((.str (Str.s (Nd.name n)++([(91:UInt8)]++Str.s a++[(93:UInt8)])++([(123:UInt8)]++Str.s e++[(125:UInt8)])++[(40:UInt8)]++Str.s z++[(41:UInt8)]))))))))))))))else(if (decide ((↑(List.length (List.map enc (Nd.ranks n))):Int)>0))=true then(b8r [(.sl 1 false (List.map enc (Nd.ranks n))),(.fn 87)] fun i=>(ZA [(64:UInt8),(40:UInt8)] (Str.s i)∧(ZA ([(64:UInt8),(40:UInt8)]++Str.s i) [(41:UInt8)]∧(ZA (Str.s (Nd.name n)++([(91:UInt8)]++Str.s a++[(93:UInt8)])) ([(64:UInt8),(40:UInt8)]++Str.s i++[(41:UInt8)])∧(ZA (Str.s (Nd.name n)++([(91:UInt8)]++Str.s a++[(93:UInt8)])++([(64:UInt8),(40:UInt8)]++Str.s i++[(41:UInt8)])) [(40:UInt8)]∧((Bu N [(.sl 10 false (List.map enc ks)),(.fn 27)] fun u=>(ZA (Str.s (Nd.name n)++([(91:UInt8)]++Str.s a++[(93:UInt8)])++([(64:UInt8),(40:UInt8)]++Str.s i++[(41:UInt8)])++[(40:UInt8)]) (Str.s u)∧(ZA (Str.s (Nd.name n)++([(91:UInt8)]++Str.s a++[(93:UInt8)])++([(64:UInt8),(40:UInt8)]++Str.s i++[(41:UInt8)])++[(40:UInt8)]++Str.s u) [(41:UInt8)]∧(G ((.str (Str.s (Nd.name n)++([(91:UInt8)]++Str.s a++[(93:UInt8)])++([(64:UInt8),(40:UInt8)]++Str.s i++[(41:UInt8)])++[(40:UInt8)]++Str.s u++[(41:UInt8)])))))))))))))else(ZA (Str.s (Nd.name n)++([(91:UInt8)]++Str.s a++[(93:UInt8)])) [(40:UInt8)]∧((Bu N [(.sl 10 false (List.map enc ks)),(.fn 27)] fun y=>(ZA (Str.s (Nd.name n)++([(91:UInt8)]++Str.s a++[(93:UInt8)])++[(40:UInt8)]) (Str.s y)∧(ZA (Str.s (Nd.name n)++([(91:UInt8)]++Str.s a++[(93:UInt8)])++[(40:UInt8)]++Str.s y) [(41:UInt8)]∧(G ((.str (Str.s (Nd.name n)++([(91:UInt8)]++Str.s a++[(93:UInt8)])++[(40:UInt8)]++Str.s y++[(41:UInt8)])))))))))))))))else(if (Nd.num n != 0)=true then(f1u [(.int .i64 (Nd.num n))] fun g=>(ZA [(123:UInt8)] (Str.s g)∧(ZA ([(123:UInt8)]++Str.s g) [(125:UInt8)]∧(ZA (Str.s (Nd.name n)) ([(123:UInt8)]++Str.s g++[(125:UInt8)])∧(if (decide ((↑(List.length (List.map enc (Nd.ranks n))):Int)>0))=true then(b8r [(.sl 1 false (List.map enc (Nd.ranks n))),(.fn 87)] fun l=>(ZA [(64:UInt8),(40:UInt8)] (Str.s l)∧(ZA ([(64:UInt8),(40:UInt8)]++Str.s l) [(41:UInt8)]∧(ZA (Str.s (Nd.name n)++([(123:UInt8)]++Str.s g++[(125:UInt8)])) ([(64:UInt8),(40:UInt8)]++Str.s l++[(41:UInt8)])∧(ZA (Str.s (Nd.name n)++([(123:UInt8)]++Str.s g++[(125:UInt8)])++([(64:UInt8),(40:UInt8)]++Str.s l++[(41:UInt8)])) [(40:UInt8)]∧((Bu N [(.sl 10 false (List.map enc ks)),(.fn 27)] fun q=>(ZA (Str.s (Nd.name n)++([(123:UInt8)]++Str.s g++[(125:UInt8)])++([(64:UInt8),(40:UInt8)]++Str.s l++[(41:UInt8)])++[(40:UInt8)]) (Str.s q)∧(ZA (Str.s (Nd.name n)++([(123:UInt8)]++Str.s g++[(125:UInt8)])++([(64:UInt8),(40:UInt8)]++Str.s l++[(41:UInt8)])++[(40:UInt8)]++Str.s q) [(41:UInt8)]∧(G ((.str (Str.s (Nd.name n)++([(123:UInt8)]++Str.s g++[(125:UInt8)])++([(64:UInt8),(40:UInt8)]++Str.s l++[(41:UInt8)])++[(40:UInt8)]++Str.s q++[(41:UInt8)])))))))))))))else(ZA (Str.s (Nd.name n)++([(123:UInt8)]++Str.s g++[(125:UInt8)])) [(40:UInt8)]∧((Bu N [(.sl 10 false (List.map enc ks)),(.fn 27)] fun r=>(ZA (Str.s (Nd.name n)++([(123:UInt8)]++Str.s g++[(125:UInt8)])++[(40:UInt8)]) (Str.s r)∧(ZA (Str.s (Nd.name n)++([(123:UInt8)]++Str.s g++[(125:UInt8)])++[(40:UInt8)]++Str.s r) [(41:UInt8)]∧(G ((.str (Str.s (Nd.name n)++([(123:UInt8)]++Str.s g++[(125:UInt8)])++[(40:UInt8)]++Str.s r++[(41:UInt8)]))))))))))))))else(if (decide ((↑(List.length (List.map enc (Nd.ranks n))):Int)>0))=true then(b8r [(.sl 1 false (List.map enc (Nd.ranks n))),(.fn 87)] fun b=>(ZA [(64:UInt8),(40:UInt8)] (Str.s b)∧(ZA ([(64:UInt8),(40:UInt8)]++Str.s b) [(41:UInt8)]∧(ZA (Str.s (Nd.name n)) ([(64:UInt8),(40:UInt8)]++Str.s b++[(41:UInt8)])∧(ZA (Str.s (Nd.name n)++([(64:UInt8),(40:UInt8)]++Str.s b++[(41:UInt8)])) [(40:UInt8)]∧((Bu N [(.sl 10 false (List.map enc ks)),(.fn 27)] fun m=>(ZA (Str.s (Nd.name n)++([(64:UInt8),(40:UInt8)]++Str.s b++[(41:UInt8)])++[(40:UInt8)]) (Str.s m)∧(ZA (Str.s (Nd.name n)++([(64:UInt8),(40:UInt8)]++Str.s b++[(41:UInt8)])++[(40:UInt8)]++Str.s m) [(41:UInt8)]∧(G ((.str (Str.s (Nd.name n)++([(64:UInt8),(40:UInt8)]++Str.s b++[(41:UInt8)])++[(40:UInt8)]++Str.s m++[(41:UInt8)])))))))))))))else(ZA (Str.s (Nd.name n)) [(40:UInt8)]∧((Bu N [(.sl 10 false (List.map enc ks)),(.fn 27)] fun j=>(ZA (Str.s (Nd.name n)++[(40:UInt8)]) (Str.s j)∧(ZA (Str.s (Nd.name n)++[(40:UInt8)]++Str.s j) [(41:UInt8)]∧(G ((.str (Str.s (Nd.name n)++[(40:UInt8)]++Str.s j++[(41:UInt8)])))))))))))):Zd (OQ N) 0 (Za Rw G) a5g [] (Zx 45 [.agg [enc n.kind,enc n.line,enc n.name,enc n.num,enc n.elem,enc n.dims,enc n.data,enc n.sizes,enc n.ranks,enc ks]]):=Zd.tp (dm [dv Str] 119 0x115110115111115100b420115110115111115100b421115101b420115110115111115100b420115110115111115100b421115101b421115103b42) h
noncomputable def Oi:IC:=YI Proofs.Tryz.f53
def EY:List IRes:=[(.tmp 5)]
abbrev e9l:Nat:=21
def b2c(N:Nat):ZC:=Yh [(27,.pure (preT (fun x:Tm×Unit=>(tW x.1&&Z9 x.1)&&decide (Z4 x.1<N))) (Zi (fun x:Tm×Unit=>Zt x.1)))]
theorem g1e{G:AV×List AObj×List AObj->Prop}(N:Nat)(n:Nd)(ks:List Tm)(k:Int)(b:Bool)(h:if (b)=true then(Y1 ks k 10 fun g=>(BL g=true∧((SH N (Kz g) fun i=>(G (((.pv (.str (Str.s i))),([(.box (ZY n ks))],[]))))))))else((Y1 ks k 10 fun e=>(BL e=true∧((SH N (Kz e) fun a=>(ZA [(40:UInt8)] (Str.s a)∧(ZA ([(40:UInt8)]++Str.s a) [(41:UInt8)]∧(G (((.pv (.str ([(40:UInt8)]++Str.s a++[(41:UInt8)]))),([(.box (ZY n ks))],[])))))))))))):Zd (b2c N) 1 (Xw 1 EY G) Oi [] (U7 21 [.pv (.int .i64 k),.pv (.bool b),.ptr 0 0] [.box [.pv (enc n.kind),.pv (enc n.line),.pv (enc n.name),.pv (enc n.num),.pv (enc n.elem),.pv (enc n.dims),.pv (enc n.data),.pv (enc n.sizes),.pv (enc n.ranks),.pv (enc ks)]]):=Zd.to (dm [dr Tm,dv Str] 19 0x11611510611510064) h
noncomputable def a4k:IC:=YI Proofs.Tryz.f27
def R6:List IRes:=[(.tmp 2)]
abbrev d0h:Nat:=179
def EO(N:Nat):ZC:=Yh [(52,.pure (preT (fun x:Tm×Unit=>tW x.1)) (Zi (fun x:Tm×Unit=>Jv x.1))),(54,.pure (preT (fun x:Tm×Unit=>tW x.1)) (Zi (fun x:Tm×Unit=>Wh x.1))),(53,.own (Xt N) FK),(27,.pure (preT (fun x:Tm×Unit=>(tW x.1&&Z9 x.1)&&decide (Z4 x.1<N))) (Zi (fun x:Tm×Unit=>Zt x.1))),(55,.pure (preT (fun x:Tm×Unit=>UK x.1.nd)) (Zi (fun x:Tm×Unit=>a5a x.1.nd))),(56,.pure (preT (fun x:Tm×Unit=>(tW x.1&&Z9 x.1&&decide (x.1.nd.kind=6))&&decide (Yc x.1.ks<N))) (Zi (fun x:Tm×Unit=>Kg x.1))),(57,.pure (preT (fun x:List Tm×FnV 27×Unit=>(tsW x.1&&Wn x.1)&&decide (Yc x.1<N))) (Zi (fun x:List Tm×FnV 27×Unit=>Yi (x.1.map Zt)))),(15,.pure (preT (fun x:List Str×Unit=>YL x.1)) (Zi (fun x:List Str×Unit=>Yi x.1))),(58,.pure (preT (fun x:Lin×Unit=>Wi x.1)) (Zi (fun x:Lin×Unit=>(⟨ZE x.1⟩:Str)))),(59,.pure (preT (fun x:Arr×Unit=>VH x.1&&WE x.1)) (Zi (fun x:Arr×Unit=>J8 x.1)))]
theorem e9a{G:PV->Prop}(N:Nat)(n:Nd)(ks:List Tm)(h:(g3j (Dh n ks) fun a=>((R9 (Dh n ks) fun b=>(if (a.2==2)=true then(Y1 ks 0 10 fun K=>(BL K=true∧((R9 (Kz K) fun M=>((Y1 ks 1 10 fun L=>(BL L=true∧((R9 (Kz L) fun e=>(if (decide (M ≥ b))=true then if (M != 3)=true then(Xt N [(.pv (.int .i64 0)),(.pv (.bool true)),(.ptr 0 0)] [(.box (ZY n ks))])=true∧(ZA (Xd (ZY n ks) 0 true) [(32:UInt8)]∧(ZA (Xd (ZY n ks) 0 true++[(32:UInt8)]) (Str.s a.1)∧(ZA (Xd (ZY n ks) 0 true++[(32:UInt8)]++Str.s a.1) [(32:UInt8)]∧((Xt N [(.pv (.int .i64 1)),(.pv (.bool (decide (e>b)))),(.ptr 0 0)] [(.box (ZY n ks))])=true∧(ZA (Xd (ZY n ks) 0 true++[(32:UInt8)]++Str.s a.1++[(32:UInt8)]) (Xd (ZY n ks) 1 (decide (e>b)))∧(G ((.str (Xd (ZY n ks) 0 true++[(32:UInt8)]++Str.s a.1++[(32:UInt8)]++Xd (ZY n ks) 1 (decide (e>b)))))))))))else((Xt N [(.pv (.int .i64 0)),(.pv (.bool (b != 3))),(.ptr 0 0)] [(.box (ZY n ks))])=true∧(ZA (Xd (ZY n ks) 0 (b != 3)) [(32:UInt8)]∧(ZA (Xd (ZY n ks) 0 (b != 3)++[(32:UInt8)]) (Str.s a.1)∧(ZA (Xd (ZY n ks) 0 (b != 3)++[(32:UInt8)]++Str.s a.1) [(32:UInt8)]∧((Xt N [(.pv (.int .i64 1)),(.pv (.bool (decide (e>b)))),(.ptr 0 0)] [(.box (ZY n ks))])=true∧(ZA (Xd (ZY n ks) 0 (b != 3)++[(32:UInt8)]++Str.s a.1++[(32:UInt8)]) (Xd (ZY n ks) 1 (decide (e>b)))∧(G ((.str (Xd (ZY n ks) 0 (b != 3)++[(32:UInt8)]++Str.s a.1++[(32:UInt8)]++Xd (ZY n ks) 1 (decide (e>b))))))))))))else((Xt N [(.pv (.int .i64 0)),(.pv (.bool false)),(.ptr 0 0)] [(.box (ZY n ks))])=true∧(ZA (Xd (ZY n ks) 0 false) [(32:UInt8)]∧(ZA (Xd (ZY n ks) 0 false++[(32:UInt8)]) (Str.s a.1)∧(ZA (Xd (ZY n ks) 0 false++[(32:UInt8)]++Str.s a.1) [(32:UInt8)]∧((Xt N [(.pv (.int .i64 1)),(.pv (.bool (decide (e>b)))),(.ptr 0 0)] [(.box (ZY n ks))])=true∧(ZA (Xd (ZY n ks) 0 false++[(32:UInt8)]++Str.s a.1++[(32:UInt8)]) (Xd (ZY n ks) 1 (decide (e>b)))∧(G ((.str (Xd (ZY n ks) 0 false++[(32:UInt8)]++Str.s a.1++[(32:UInt8)]++Xd (ZY n ks) 1 (decide (e>b))))))))))))))))))))))else(if (a.2==1)=true then(Y1 ks 0 10 fun i=>(BL i=true∧(if (PV.asInt (VD i)==2)=true then if (PV.asStr (List.getD (PV.cells (enc i)) (0+1+1) default)==[(105:UInt8),(110:UInt8),(116:UInt8)])=true then if (decide (PV.asInt (List.getD (PV.cells (enc i)) (0+1+1+1) default) ≥ 0))=true then(R9 (Kz i) fun P=>(if (decide (P ≥ 6))=true then(Xt N [(.pv (.int .i64 0)),(.pv (.bool (!Str.s a.1==[(45:UInt8)]))),(.ptr 0 0)] [(.box (ZY n ks))])=true∧(ZA (Str.s a.1) (Xd (ZY n ks) 0 !Str.s a.1==[(45:UInt8)])∧(G ((.str (Str.s a.1++Xd (ZY n ks) 0 !Str.s a.1==[(45:UInt8)])))))else((Xt N [(.pv (.int .i64 0)),(.pv (.bool false)),(.ptr 0 0)] [(.box (ZY n ks))])=true∧(ZA (Str.s a.1) (Xd (ZY n ks) 0 false)∧(G ((.str (Str.s a.1++Xd (ZY n ks) 0 false))))))))else((R9 (Kz i) fun Q=>(if (decide (Q ≥ 6))=true then(Xt N [(.pv (.int .i64 0)),(.pv (.bool true)),(.ptr 0 0)] [(.box (ZY n ks))])=true∧(ZA (Str.s a.1) (Xd (ZY n ks) 0 !false)∧(G ((.str (Str.s a.1++Xd (ZY n ks) 0 !false)))))else((Xt N [(.pv (.int .i64 0)),(.pv (.bool false)),(.ptr 0 0)] [(.box (ZY n ks))])=true∧(ZA (Str.s a.1) (Xd (ZY n ks) 0 false)∧(G ((.str (Str.s a.1++Xd (ZY n ks) 0 false)))))))))else((R9 (Kz i) fun O=>(if (decide (O ≥ 6))=true then(Xt N [(.pv (.int .i64 0)),(.pv (.bool true)),(.ptr 0 0)] [(.box (ZY n ks))])=true∧(ZA (Str.s a.1) (Xd (ZY n ks) 0 !false)∧(G ((.str (Str.s a.1++Xd (ZY n ks) 0 !false)))))else((Xt N [(.pv (.int .i64 0)),(.pv (.bool false)),(.ptr 0 0)] [(.box (ZY n ks))])=true∧(ZA (Str.s a.1) (Xd (ZY n ks) 0 false)∧(G ((.str (Str.s a.1++Xd (ZY n ks) 0 false)))))))))else((R9 (Kz i) fun F=>(if (decide (F ≥ 6))=true then(Xt N [(.pv (.int .i64 0)),(.pv (.bool true)),(.ptr 0 0)] [(.box (ZY n ks))])=true∧(ZA (Str.s a.1) (Xd (ZY n ks) 0 !false)∧(G ((.str (Str.s a.1++Xd (ZY n ks) 0 !false)))))else((Xt N [(.pv (.int .i64 0)),(.pv (.bool false)),(.ptr 0 0)] [(.box (ZY n ks))])=true∧(ZA (Str.s a.1) (Xd (ZY n ks) 0 false)∧(G ((.str (Str.s a.1++Xd (ZY n ks) 0 false))))))))))))else(if (Nd.kind n==5)=true then ZA [(108:UInt8),(101:UInt8),(116:UInt8),(32:UInt8)] (Str.s (Nd.name n))∧(ZA ([(108:UInt8),(101:UInt8),(116:UInt8),(32:UInt8)]++Str.s (Nd.name n)) [(32:UInt8),(61:UInt8),(32:UInt8)]∧((Y1 ks 0 10 fun A=>(BL A=true∧((SH N (Kz A) fun g=>(ZA ([(108:UInt8),(101:UInt8),(116:UInt8),(32:UInt8)]++Str.s (Nd.name n)++[(32:UInt8),(61:UInt8),(32:UInt8)]) (Str.s g)∧(ZA ([(108:UInt8),(101:UInt8),(116:UInt8),(32:UInt8)]++Str.s (Nd.name n)++[(32:UInt8),(61:UInt8),(32:UInt8)]++Str.s g) [(32:UInt8),(105:UInt8),(110:UInt8),(32:UInt8)]∧((Y1 ks 1 10 fun y=>(BL y=true∧((SH N (Kz y) fun q=>(ZA ([(108:UInt8),(101:UInt8),(116:UInt8),(32:UInt8)]++Str.s (Nd.name n)++[(32:UInt8),(61:UInt8),(32:UInt8)]++Str.s g++[(32:UInt8),(105:UInt8),(110:UInt8),(32:UInt8)]) (Str.s q)∧(G ((.str ([(108:UInt8),(101:UInt8),(116:UInt8),(32:UInt8)]++Str.s (Nd.name n)++[(32:UInt8),(61:UInt8),(32:UInt8)]++Str.s g++[(32:UInt8),(105:UInt8),(110:UInt8),(32:UInt8)]++Str.s q))))))))))))))))))else(if (Nd.kind n==2)=true then(g3x (Dh n ks) fun I=>(G ((.str (Str.s I)))))else(if (Nd.kind n==1)=true then G ((.str (Str.s (Nd.name n))))else(if (Nd.kind n==6)=true then(g3v N (Dh n ks) fun D=>(G ((.str (Str.s D)))))else(if (Nd.kind n==7)=true then(Bu N [(.sl 10 false (List.map enc ks)),(.fn 27)] fun m=>(ZA [(91:UInt8)] (Str.s m)∧(ZA ([(91:UInt8)]++Str.s m) [(93:UInt8)]∧(G ((.str ([(91:UInt8)]++Str.s m++[(93:UInt8)])))))))else(if (Nd.kind n==8)=true then(Y1 ks 0 10 fun z=>(BL z=true∧((SH N (Kz z) fun H=>((Y1 ks 1 10 fun B=>(BL B=true∧((SH N (Kz B) fun E=>((c6x [(.sl 1 false [(.str (Str.s (Nd.name n))),(.str (Str.s H)),(.str (Str.s E))])] fun l=>(ZA [(102:UInt8),(111:UInt8),(108:UInt8),(100:UInt8),(40:UInt8)] (Str.s l)∧(ZA ([(102:UInt8),(111:UInt8),(108:UInt8),(100:UInt8),(40:UInt8)]++Str.s l) [(41:UInt8)]∧(G ((.str ([(102:UInt8),(111:UInt8),(108:UInt8),(100:UInt8),(40:UInt8)]++Str.s l++[(41:UInt8)])))))))))))))))))else(if (Nd.kind n==9)=true then(Y1 ks 0 10 fun r=>(BL r=true∧((SH N (Kz r) fun C=>((c6x [(.sl 1 false [(.str (Str.s (Nd.name n))),(.str (Str.s C))])] fun j=>(ZA [(115:UInt8),(99:UInt8),(97:UInt8),(110:UInt8),(40:UInt8)] (Str.s j)∧(ZA ([(115:UInt8),(99:UInt8),(97:UInt8),(110:UInt8),(40:UInt8)]++Str.s j) [(41:UInt8)]∧(G ((.str ([(115:UInt8),(99:UInt8),(97:UInt8),(110:UInt8),(40:UInt8)]++Str.s j++[(41:UInt8)]))))))))))))else(if (Nd.kind n==4)=true then(Y1 (Nd.sizes n) 0 2 fun u=>((f4l [(.agg [(.int .i64 (PV.asInt (VD u))),(.sl 2 false (PV.asXs (Tu u)))])] fun k=>(ZA [(115:UInt8),(105:UInt8),(122:UInt8),(101:UInt8),(91:UInt8)] (Str.s k)∧(ZA ([(115:UInt8),(105:UInt8),(122:UInt8),(101:UInt8),(91:UInt8)]++Str.s k) [(93:UInt8)]∧(G ((.str ([(115:UInt8),(105:UInt8),(122:UInt8),(101:UInt8),(91:UInt8)]++Str.s k++[(93:UInt8)])))))))))else((f9q [(.agg [(.str (Str.s (Nd.elem n))),(.sl 1 false (List.map enc (Nd.dims n))),(.sl 1 false (List.map enc (Nd.data n)))])] fun J=>(G ((.str (Str.s J.1)))))))))))))))))))):Zd (EO N) 0 (Za R6 G) a4k [] (Zx 179 [.agg [enc n.kind,enc n.line,enc n.name,enc n.num,enc n.elem,enc n.dims,enc n.data,enc n.sizes,enc n.ranks,enc ks]]):=Zd.tp (dm [dv (Str×Int),dv Int,dr Tm,dv Str,dr Lin] 309 0x51011812910084201181228117100c42011812281171811710114201181005420810034200014208100342018117111811711101042013122013122006426122222222220131220131220064261222222013122013122006426122013122013122006426122201642222033422220544217107942013121113122220131211131222220131211131222200e4222024426117161171041426151) h
end Go.Pl
namespace Go.Pl
open Go.RowKit
open Enc (enc dec is)
open EncL (encL decL isL)
theorem Fa{ks:List Tm}{k:Tm}(h:k∈ks):Z4 k<=Yc ks:=by
 induction ks with
 | nil=>cases h
 | cons a ks ih=>
  rw[Yc]
  rcases List.mem_cons.1 h with rfl|h
  ·omega
  ·have:=ih h;omega
theorem Vf{N:Nat}{t:Tm}(h1:tW t=true)(h2:Z9 t=true)(h3:Z4 t<N):(fun x:Tm×Unit=>(tW x.1&&Z9 x.1)&&decide (Z4 x.1<N)) (t,())=true:=by
 show(tW t&&Z9 t&&decide (Z4 t<N))=true
 rw[h1,h2,decide_eq_true h3];rfl
structure TxP (N:Nat) (ks:List Tm):Prop where
 w:UH ks<=1048576
 v : ∀ k∈ks,Z9 k=true
 d:Yc ks<N
theorem TxP.kid{N:Nat}{ks:List Tm}(h:TxP N ks){k:Tm}(a:k∈ks):tW k=true∧Z9 k=true∧Z4 k<N:=
 ⟨decide_eq_true (Nat.le_trans (a4p a) h.w),h.v k a,Nat.lt_of_le_of_lt (Fa a) h.d⟩
theorem TxP.pre{N:Nat}{ks:List Tm}(h:TxP N ks):(fun x:List Tm×FnV 27×Unit=>(tsW x.1&&Wn x.1)&&decide (Yc x.1<N)) (ks,{},())=true:=by
 show(tsW ks&&Wn ks&&decide (Yc ks<N))=true
 rw[show tsW ks=true from decide_eq_true h.w,Ul,List.all_eq_true.2 h.v,decide_eq_true h.d];rfl
theorem TxP.com{N:Nat}{ks:List Tm}(h:TxP N ks):(Zv (ks.map ZN)).length<=1153433600:=by
 have h1:=YU (ks.map ZN)
 have h2:=Gw ks (by rw[Ul];exact List.all_eq_true.2 h.v)
 have h3:((ks.map ZN).map fun s=>s.length+2).sum<=((Yw ks).map fun x=>x.2.2.length+4).sum:=by
  rw[WH,Cx,Cx]
  exact C9 fun x _=>by show(ZN x).length+2<=(ZN x).length+4;omega
 have:=h.w
 omega
theorem TxP.len{N:Nat}{ks:List Tm}(h:TxP N ks){k:Tm}(a:k∈ks):(ZN k).length<=1153433592:=Jn (h.kid a).1 (h.kid a).2.1
theorem TxP.join{N:Nat}{ks:List Tm}(h:TxP N ks):YL (ks.map Zt)=true:=by
 have h1:=h.com
 have h2:=BH ks
 have h3:=h.w
 unfold YL
 have e:=VM ks
 unfold Yi at e
 rw[decide_eq_true (by rw[List.length_map];omega),Bool.true_and]
 exact decide_eq_true (by rw[show Zv ((ks.map Zt).map (·.s))=Zv (ks.map ZN)from e];omega)
theorem c1i(N:Nat)(l:List Tm)(hl:l.length<=1048576)(k:TxP N l)(q:YL (l.map Zt)=true): ∀ (d i:Nat),d+i=l.length ->
  At (Am N) 0 (Za GJ (Zf (Yi (l.map Zt)))) Gd 0 27 [(1,.pv (.fn 27)),(5,.row 0 l.length 0 l.length),(11,.pv (enc l)),(12,.pv (.int .i64 l.length)),(13,.pv (.int .i64 i))] [.obj (.row false 9 1 ((Dt (l.map Zt) i).map enc))]:=by
 intro d
 induction d with
 | zero=>
  intro i hi
  have g:i=l.length:=by omega
  subst g
  have e:Dt (l.map Zt) l.length=l.map Zt:=by have:=T9 (l.map Zt);rw[List.length_map]at this;exact this
  rw[e]
  have b:=Az (m:=l.map Zt)
  rw[List.length_map]at b
  refine b7m N l _ _ (ZU (Yx (by omega)) ⟨by simp,?_⟩)
  rw[b]
  exact⟨Zc (l.map Zt,()) rfl q,Zb (l.map Zt,()) rfl (Zg rfl)⟩
 | succ d ih=>
  intro i hi
  have a:i<l.length:=by omega
  have j:=k.kid (List.getElem_mem a)
  have ho:(Dt (l.map Zt) i).length=l.length:=by rw[Rj _ _ (by rw[List.length_map];omega),List.length_map]
  refine b7m N l _ _ (ZT (Yt a) ⟨Zq a rfl,ZB a ⟨Xy _,Zc (l[i],()) (Yd _) (Vf j.1 j.2.1 j.2.2),Zb (l[i],()) (Yd _) ⟨FY a ho,Og a ho,?_⟩⟩⟩)
  have e:(Dt (l.map Zt) i).set i (Zt l[i])=Dt (l.map Zt) (i+1):=by
   have:=TD (m:=l.map Zt) (i:=i) (by rw[List.length_map];exact a)
   rw[List.getElem_map]at this
   exact this
  have b:=FD (o:=Dt (l.map Zt) i) (i:=i) (by omega) (Zt l[i])
  rw[e]at b
  rw[next (by omega)]
  have h:=ih (i+1) (by omega)
  rw[<- b]at h
  exact h
theorem d1l(N:Nat): ∀ x:List Tm×FnV 27×Unit,((tsW x.1&&Wn x.1)&&decide (Yc x.1<N))=true->Zd (Am N) 0 (Za GJ (Zf (Yi (x.1.map Zt)))) Gd [] (Zx e5w (encL x)):=by
 rintro⟨l,g,⟨⟩⟩ h
 have a:=h
 simp only[Bool.and_eq_true,decide_eq_true_eq,Ul,List.all_eq_true]at a
 have b:TxP N l:=⟨of_decide_eq_true a.1.1,a.1.2,a.2⟩
 have e:l.length<=1048576:=Nat.le_trans (BH l) b.w
 refine f9a N l ⟨by rw[List.length_map];exact b9d _ e,?_⟩
 have:=c1i N l e b b.join l.length 0 (by omega)
 rw[CB,List.map_replicate,List.length_map]at this
 rw[List.length_map,Int.toNat_natCast]
 exact this
theorem VJ{α:Type}[Enc α]{l:List α}:(((List.length (List.map (enc:α->PV) l):Nat):Int)>0) ↔ l≠[]:=by
 cases l <;> simp
theorem BS{x y:Int}{P Q:Prop}(h1:x≠y->P)(h2:x=y->Q):if (x != y)=true then P else Q:=by
 by_cases hxy:x=y
 ·rw[if_neg (by simpa using hxy)];exact h2 hxy
 ·rw[if_pos (by simpa using hxy)];exact h1 hxy
theorem Zj{a b:Nat}(h:a+b<=1099511627776):decide (a+b<=1099511627776)=true:=decide_eq_true h
theorem Zz{a b A B:Nat}(ha:a<=A)(hb:b<=B)(h:A+B<=1099511627776):decide (a+b<=1099511627776)=true:=decide_eq_true (by omega)
theorem Zu{a b:List UInt8}{A B:Nat}(ha:a.length<=A)(hb:b.length<=B):(a++b).length<=A+B:=by rw[List.length_append];omega
theorem RH{n:Nd}{k:Nat}(h:XK n k=true):n.name.s.length<=61∧(n.num.natAbs<=64∧0<=n.num)∧n.sizes.length<=4∧n.ranks.length<=8∧n.sizes.all Zh=true∧X8 n.ranks=true:=by
 unfold XK at h
 simp only[Bool.and_eq_true,decide_eq_true_eq,Bool.or_eq_true]at h
 refine⟨(VI h.1.1.1.1.1.1.1).2.2,⟨by omega,by omega⟩,by omega,?_,h.1.2,h.2⟩
 rcases h.1.1.1.2 with hr|hr
 ·rw[List.isEmpty_iff.1 hr];simp
 ·omega
theorem c0q(N:Nat): ∀ x:Tm×Unit,(((tW x.1&&Z9 x.1)&&decide (x.1.nd.kind=6))&&decide (Yc x.1.ks<N))=true->Zd (OQ N) 0 (Za Rw (Zf (Kg x.1))) a5g [] (Zx c6b (encL x)):=by
 rintro⟨⟨n,ks⟩,⟨⟩⟩ h
 have r:=h
 simp only[Bool.and_eq_true,decide_eq_true_eq]at r
 obtain⟨⟨⟨m,i⟩,k⟩,hd⟩:=r
 have k:n.kind=6:=k
 have m:tW (.mk n ks)=true:=m
 have i:=Qy i
 have q:UH ks<=1048576:=by have h1:J6 (.mk n ks)<=1048576:=of_decide_eq_true m;rw[J6]at h1;omega
 have a:TxP N ks:=⟨q,i.2,hd⟩
 have hc:XK n ks.length=true:=by
  have h1:=i.1
  unfold WC YJ at h1
  rw[k]at h1
  simp at h1
  exact h1.2.2
 obtain⟨c1,c2,c3,c4,D,u⟩:=RH hc
 have C:=a.com
 rw[<- VM]at C
 have l0:(Yi (n.sizes.map Yu)).s.length<=4008:=by
  rw[KY]
  have h1:=YU (n.sizes.map ZE)
  rw[List.map_map]at h1
  have h2:=Qx (f:=(fun s:List UInt8=>s.length+2) ∘ ZE) (c:=1002) (l:=n.sizes) fun x _=>by
   have:=Wx x
   show(ZE x).length+2<=_
   omega
  omega
 have l1:(Zp n.num).s.length<=21:=QK (by omega)
 have l2:(Yi (n.ranks.map Zp)).s.length<=184:=by
  rw[c7n]
  have h1:=YU (n.ranks.map Kk)
  rw[List.map_map]at h1
  have h2:=Qx (f:=(fun s:List UInt8=>s.length+2) ∘ Kk) (c:=23) (l:=n.ranks) fun x z=>by
   have B:=List.all_eq_true.1 u x z
   simp only[Bool.and_eq_true,decide_eq_true_eq]at B
   have:=QK (n:=x) (by omega)
   show(Kk x).length+2<=_
   omega
  omega
 have e:=KY n.sizes
 have g:=c7n n.ranks
 have b:=VM ks
 have fin : ∀ s,s=Uh n (ks.map ZN)->Zf (Kg (.mk n ks)) (.str s):=fun s hs=>Zg (x:=(⟨s⟩:Str)) (by rw[hs];rfl)
 have A:(fun x:List Lin×FnV 58×Unit=>decide (x.1.length<=1048576)&&x.1.all Zh) (n.sizes,{},())=true:=by show(decide (n.sizes.length<=1048576)&&n.sizes.all Zh)=true;rw[D,decide_eq_true (by omega)];rfl
 have y:(fun x:Int×Unit=>decide (-9223372036854775808<=x.1)&&decide (x.1<=9223372036854775807)) (n.num,())=true:=by show(decide _&&decide _)=true;rw[decide_eq_true (by omega),decide_eq_true (by omega)];rfl
 have j:(fun x:List Int×FnV 87×Unit=>decide (x.1.length<=1048576)&&X8 x.1) (n.ranks,{},())=true:=by show(decide (n.ranks.length<=1048576)&&X8 n.ranks)=true;rw[u,decide_eq_true (by omega)];rfl
 rw[<- ZP]
 show Zd (OQ N) 0 (Za Rw (Zf (Kg (.mk n ks)))) _ _ _
 have s0:(Yi (List.map Yu ((n.sizes,({}:FnV 58),()):List Lin×FnV 58×Unit).1)).s=(Yi (n.sizes.map Yu)).s:=rfl
 refine e6x N n ks (ZO (fun hs=> ?_) fun hs=> ?_)
 ·rw[VJ]at hs
  refine⟨Zc (n.sizes,{},()) rfl A,Zb (n.sizes,{},()) rfl ⟨(Zj (by simp only[List.length_append,List.length_cons,List.length_nil];omega)),(Zj (by simp only[List.length_append,List.length_cons,List.length_nil];omega)),(Zj (by simp only[List.length_append,List.length_cons,List.length_nil];omega)),?_⟩⟩
  refine BS (fun hm=> ?_) fun hm=> ?_
  ·refine⟨Zc (n.num,()) rfl y,Zb (n.num,()) rfl ⟨(Zj (by simp only[List.length_append,List.length_cons,List.length_nil];omega)),(Zj (by simp only[List.length_append,List.length_cons,List.length_nil];omega)),(Zj (by simp only[List.length_append,List.length_cons,List.length_nil];omega)),?_⟩⟩
   refine ZO (fun hr=> ?_) fun hr=> ?_
   ·rw[VJ]at hr
    refine⟨Zc (n.ranks,{},()) rfl j,Zb (n.ranks,{},()) rfl ⟨(Zj (by simp only[List.length_append,List.length_cons,List.length_nil];omega)),(Zj (by simp only[List.length_append,List.length_cons,List.length_nil];omega)),(Zj (by simp only[List.length_append,List.length_cons,List.length_nil];omega)),?_⟩⟩
    exact⟨(Zj (by simp only[List.length_append,List.length_cons,List.length_nil];omega)),Zc (ks,{},()) rfl a.pre,Zb (ks,{},()) rfl ⟨(Zj (by simp only[List.length_append,List.length_cons,List.length_nil];omega)),(Zj (by simp only[List.length_append,List.length_cons,List.length_nil];omega)),fin _ (by simp[Uh,e,g,b,Kk,List.append_assoc,hs,hm,hr])⟩⟩
   ·rw[VJ,Classical.not_not]at hr
    exact⟨(Zj (by simp only[List.length_append,List.length_cons,List.length_nil];omega)),Zc (ks,{},()) rfl a.pre,Zb (ks,{},()) rfl ⟨(Zj (by simp only[List.length_append,List.length_cons,List.length_nil];omega)),(Zj (by simp only[List.length_append,List.length_cons,List.length_nil];omega)),fin _ (by simp[Uh,e,g,b,Kk,List.append_assoc,hs,hm,hr])⟩⟩
  ·refine ZO (fun hr=> ?_) fun hr=> ?_
   ·rw[VJ]at hr
    refine⟨Zc (n.ranks,{},()) rfl j,Zb (n.ranks,{},()) rfl ⟨(Zj (by simp only[List.length_append,List.length_cons,List.length_nil];omega)),(Zj (by simp only[List.length_append,List.length_cons,List.length_nil];omega)),(Zj (by simp only[List.length_append,List.length_cons,List.length_nil];omega)),?_⟩⟩
    exact⟨(Zj (by simp only[List.length_append,List.length_cons,List.length_nil];omega)),Zc (ks,{},()) rfl a.pre,Zb (ks,{},()) rfl ⟨(Zj (by simp only[List.length_append,List.length_cons,List.length_nil];omega)),(Zj (by simp only[List.length_append,List.length_cons,List.length_nil];omega)),fin _ (by simp[Uh,e,g,b,Kk,List.append_assoc,hs,hm,hr])⟩⟩
   ·rw[VJ,Classical.not_not]at hr
    exact⟨(Zj (by simp only[List.length_append,List.length_cons,List.length_nil];omega)),Zc (ks,{},()) rfl a.pre,Zb (ks,{},()) rfl ⟨(Zj (by simp only[List.length_append,List.length_cons,List.length_nil];omega)),(Zj (by simp only[List.length_append,List.length_cons,List.length_nil];omega)),fin _ (by simp[Uh,e,g,b,Kk,List.append_assoc,hs,hm,hr])⟩⟩
 ·rw[VJ,Classical.not_not]at hs
  refine BS (fun hm=> ?_) fun hm=> ?_
  ·refine⟨Zc (n.num,()) rfl y,Zb (n.num,()) rfl ⟨(Zj (by simp only[List.length_append,List.length_cons,List.length_nil];omega)),(Zj (by simp only[List.length_append,List.length_cons,List.length_nil];omega)),(Zj (by simp only[List.length_append,List.length_cons,List.length_nil];omega)),?_⟩⟩
   refine ZO (fun hr=> ?_) fun hr=> ?_
   ·rw[VJ]at hr
    refine⟨Zc (n.ranks,{},()) rfl j,Zb (n.ranks,{},()) rfl ⟨(Zj (by simp only[List.length_append,List.length_cons,List.length_nil];omega)),(Zj (by simp only[List.length_append,List.length_cons,List.length_nil];omega)),(Zj (by simp only[List.length_append,List.length_cons,List.length_nil];omega)),?_⟩⟩
    exact⟨(Zj (by simp only[List.length_append,List.length_cons,List.length_nil];omega)),Zc (ks,{},()) rfl a.pre,Zb (ks,{},()) rfl ⟨(Zj (by simp only[List.length_append,List.length_cons,List.length_nil];omega)),(Zj (by simp only[List.length_append,List.length_cons,List.length_nil];omega)),fin _ (by simp[Uh,e,g,b,Kk,List.append_assoc,hs,hm,hr])⟩⟩
   ·rw[VJ,Classical.not_not]at hr
    exact⟨(Zj (by simp only[List.length_append,List.length_cons,List.length_nil];omega)),Zc (ks,{},()) rfl a.pre,Zb (ks,{},()) rfl ⟨(Zj (by simp only[List.length_append,List.length_cons,List.length_nil];omega)),(Zj (by simp only[List.length_append,List.length_cons,List.length_nil];omega)),fin _ (by simp[Uh,e,g,b,Kk,List.append_assoc,hs,hm,hr])⟩⟩
  ·refine ZO (fun hr=> ?_) fun hr=> ?_
   ·rw[VJ]at hr
    refine⟨Zc (n.ranks,{},()) rfl j,Zb (n.ranks,{},()) rfl ⟨(Zj (by simp only[List.length_append,List.length_cons,List.length_nil];omega)),(Zj (by simp only[List.length_append,List.length_cons,List.length_nil];omega)),(Zj (by simp only[List.length_append,List.length_cons,List.length_nil];omega)),?_⟩⟩
    exact⟨(Zj (by simp only[List.length_append,List.length_cons,List.length_nil];omega)),Zc (ks,{},()) rfl a.pre,Zb (ks,{},()) rfl ⟨(Zj (by simp only[List.length_append,List.length_cons,List.length_nil];omega)),(Zj (by simp only[List.length_append,List.length_cons,List.length_nil];omega)),fin _ (by simp[Uh,e,g,b,Kk,List.append_assoc,hs,hm,hr])⟩⟩
   ·rw[VJ,Classical.not_not]at hr
    exact⟨(Zj (by simp only[List.length_append,List.length_cons,List.length_nil];omega)),Zc (ks,{},()) rfl a.pre,Zb (ks,{},()) rfl ⟨(Zj (by simp only[List.length_append,List.length_cons,List.length_nil];omega)),(Zj (by simp only[List.length_append,List.length_cons,List.length_nil];omega)),fin _ (by simp[Uh,e,g,b,Kk,List.append_assoc,hs,hm,hr])⟩⟩
theorem d6h{xs:List AV}{t:Tm}(h:a2m xs=some t): ∃ n ks,t = .mk n ks∧xs=ZY n ks:=by
 unfold a2m at h
 split at h
 ·split at h
  ·rename_i hc
   obtain⟨⟨n,ks⟩,e⟩:=a9o hc
   rw[e,Enc.dec_enc]at h
   cases h
   rw[Yl]at e
   cases e
   exact⟨n,ks,rfl,rfl⟩
  ·cases h
 ·cases h
theorem d3c(N:Nat): ∀ args os,Xt N args os=true->Zd (b2c N) os.length (Xw os.length EY fun r=>r=FK args os) Oi [] (U7 e9l args os):=by
 intro args os h
 unfold Xt at h
 split at h
 ·rename_i k b xs
  unfold PN at h
  split at h
  ·rename_i t ht
   obtain⟨n,ks,rfl,rfl⟩:=d6h ht
   simp only[Bool.and_eq_true,decide_eq_true_eq]at h
   obtain⟨⟨⟨⟨s,u⟩,hd⟩,h0⟩,l⟩:=h
   obtain⟨i,rfl⟩:=Int.eq_ofNat_of_zero_le h0
   have j:UH ks<=1048576:=by have h1:J6 (.mk n ks)<=1048576:=of_decide_eq_true s;rw[J6]at h1;omega
   have q:TxP N ks:=⟨j,(Qy u).2,hd⟩
   have a:i<ks.length:=by have l:(i:Int)<(ks.length:Int):=l;omega
   have g:=q.kid (List.getElem_mem a)
   have m:=q.len (List.getElem_mem a)
   have e : ∀ b:Bool,Xd (ZY n ks) (i:Int) b=Ue (!b) (ZN ks[i]):=fun b=>by
    rw[JK,Int.toNat_natCast]
    simp[List.getD,a]
   refine g1e N n ks (i:Int) b (YV (fun hb=> ?_) fun hb=> ?_)
   ·refine⟨Zq a rfl,ZB a ⟨Xy _,Zc (ks[i],()) (Yd _) (Vf g.1 g.2.1 g.2.2),Zb (ks[i],()) (Yd _) ?_⟩⟩
    subst hb
    show _=((AV.pv (.str (Xd (ZY n ks) (i:Int) true)),[AObj.box (ZY n ks)],[]):AV×List AObj×List AObj)
    rw[e]
    rfl
   ·refine⟨Zq a rfl,ZB a ⟨Xy _,Zc (ks[i],()) (Yd _) (Vf g.1 g.2.1 g.2.2),Zb (ks[i],()) (Yd _) ⟨Zz (show _<=8 by decide) m (by omega),Zz (Zu (show _<=8 by decide) m) (show _<=8 by decide) (by omega),?_⟩⟩⟩
    subst hb
    show _=((AV.pv (.str (Xd (ZY n ks) (i:Int) false)),[AObj.box (ZY n ks)],[]):AV×List AObj×List AObj)
    rw[e]
    rfl
  ·cases h
 ·cases h
theorem MJ{n:Nd}{xs:List (Int×Bool×List UInt8)}(h:H5 n xs.length=none):Q0 n xs=(if n.kind=1 then n.name.s
  else if n.kind=2 then Sc n
  else if n.kind=4 then [115,105,122,101,91]++(match n.sizes with|[]=>[]|l::_=>ZE l)++[93]
  else if n.kind=5 then [108,101,116,32]++n.name.s++[32,61,32]++(match xs with|[a,b]=>a.2.2++[32,105,110,32]++b.2.2|_=>[])
  else if n.kind=6 then Uh n (xs.map (·.2.2))
  else if n.kind=7 then [91]++Zv (xs.map (·.2.2))++[93]
  else if n.kind=8 then [102,111,108,100,40]++Zv (n.name.s::xs.map (·.2.2))++[41]
  else if n.kind=9 then [115,99,97,110,40]++Zv (n.name.s::xs.map (·.2.2))++[41]
  else Sl (U6 n)):=by
 unfold Q0
 rw[h]
 rfl
theorem g2l(t:Tm):PV.asInt (List.getD (PV.cells (enc t)) 0 default)=t.nd.kind:=by obtain⟨n,ks⟩:=t;rw[Yl];rfl
theorem g6c(t:Tm):PV.asStr (List.getD (PV.cells (enc t)) (0+1+1) default)=t.nd.name.s:=by obtain⟨n,ks⟩:=t;rw[Yl];rfl
theorem g2u(t:Tm):PV.asInt (List.getD (PV.cells (enc t)) (0+1+1+1) default)=t.nd.num:=by obtain⟨n,ks⟩:=t;rw[Yl];rfl
theorem e1w{n:Nd}{k:Nat}{r:OpR}(h:H5 n k=some r):n.kind=6:=by
 unfold H5 at h
 cases a:Bf n.name.s with
 | none=>simp[a]at h
 | some q=>
  simp[a]at h
  exact h.1.1
theorem b6s{n:Nd}{k:Nat}{r:OpR}(h:H5 n k=some r):TC n k=r.l:=by
 unfold TC
 rw[if_neg (by rw[e1w h];decide),h]
theorem Ce(a b:List UInt8):(a==b)=decide (a=b):=by by_cases h:a=b <;> simp[h]
theorem TL{α:Type}{l:List α}(h:l.length=2): ∃ a b,l=[a,b]:=by
 match l,h with
 | [a,b],_=>exact⟨a,b,rfl⟩
theorem b4e{n:Nd}{r:OpR}{x y:Int×Bool×List UInt8}(h:H5 n 2=some r):Q0 n [x,y]=Ue (decide (x.1<r.l)||(decide (x.1=3)&&decide (r.l=3))) x.2.2++[32]++r.s++[32]++Ue (decide (y.1<=r.l)) y.2.2:=by
 unfold Q0
 rw[show [x,y].length=2 from rfl,h]
theorem e0n{n:Nd}{r:OpR}{x:Int×Bool×List UInt8}(h:H5 n 1=some r):Q0 n [x]=r.s++Ue (decide (x.1<6)||(decide (r.s=[45])&&x.2.1)) x.2.2:=by
 unfold Q0
 rw[show [x].length=1 from rfl,h]
theorem c1q(N:Nat): ∀ x:Tm×Unit,((tW x.1&&Z9 x.1)&&decide (Z4 x.1<N+1))=true->Zd (EO N) 0 (Za R6 (Zf (Zt x.1))) a4k [] (Zx d0h (encL x)):=by
 rintro⟨⟨n,ks⟩,⟨⟩⟩ h
 simp only[Bool.and_eq_true,decide_eq_true_eq]at h
 obtain⟨⟨B,m⟩,hd⟩:=h
 have B:tW (.mk n ks)=true:=B
 have m:Z9 (.mk n ks)=true:=m
 have hd:Z4 (.mk n ks)<N+1:=hd
 rw[Z4]at hd
 have X:=Qy m
 have S:UH ks<=1048576:=by have h1:J6 (.mk n ks)<=1048576:=of_decide_eq_true B;rw[J6]at h1;omega
 have j:TxP N ks:=⟨S,X.2,by omega⟩
 have C:=(ndB B).name
 have y:YJ n ks.length=true:=by
  have:=X.1
  unfold WC at this
  simp only[Bool.and_eq_true]at this
  exact this.2
 have fin : ∀ s,s=Q0 n (Yw ks)->Zf (Zt (.mk n ks)) (.str s):=fun s hs=>Zg (x:=(⟨s⟩:Str)) (by rw[hs,Zt,ZN])
 rw[<- ZP]
 show Zd (EO N) 0 (Za R6 (Zf (Zt (.mk n ks)))) _ _ _
 refine e9a N n ks ⟨Zc (.mk n ks,()) (ZP n ks) B,Zb (.mk n ks,()) (ZP n ks) ⟨Zc (.mk n ks,()) (ZP n ks) B,Zb (.mk n ks,()) (ZP n ks) ?_⟩⟩
 generalize Zf (Zt (.mk n ks))=G at fin ⊢
 have eo0:Jv (.mk n ks)=Oq n ks.length:=rfl
 have el0:Wh (.mk n ks)=TC n ks.length:=rfl
 rw[show Jv ((Tm.mk n ks,()):Tm×Unit).1=Oq n ks.length from rfl,show Wh ((Tm.mk n ks,()):Tm×Unit).1=TC n ks.length from rfl]
 cases ho:H5 n ks.length with
 | some r=>
  obtain⟨hm,L⟩:=FQ ho
  have hr:=(Ta ho).2
  have O:Oq n ks.length=((⟨r.s⟩,if r.u then 1 else 2):Str×Int):=by unfold Oq;rw[ho]
  rw[O,b6s ho]
  cases hu:r.u with
  | false=>
   rw[hu]at L
   match ks,L with
   | [a,b],_=>
    have J:a∈[a,b]:=by simp
    have Z:b∈[a,b]:=by simp
    have ha:=j.kid J
    have hb:=j.kid Z
    have E:=j.len J
    have U:=j.len Z
    have e : ∀ f,(Xd (ZY n [a,b]) 0 f).length<=1153433594:=fun f=>by
     rw[JK];have:=Qe (!f) (ZN a);show(Ue (!f) (ZN a)).length<=_;omega
    have F : ∀ f,(Xd (ZY n [a,b]) 1 f).length<=1153433594:=fun f=>by
     rw[JK];have:=Qe (!f) (ZN b);show(Ue (!f) (ZN b)).length<=_;omega
    have z:PN N (ZY n [a,b]) 0=true:=Rt B m j.d (by omega) (by simp)
    have Q:PN N (ZY n [a,b]) 1=true:=Rt B m j.d (by omega) (by simp)
    have i : ∀ f g:Bool,(!f)=(decide (Wh a<r.l)||(decide (Wh a=3)&&decide (r.l=3)))->g=decide (Wh b>r.l)->Xd (ZY n [a,b]) 0 f++[32]++r.s++[32]++Xd (ZY n [a,b]) 1 g=Q0 n (Yw [a,b]):=fun f g P hg=>by
     rw[JK,JK]
     simp only[Yw]
     rw[b4e ho,P,hg]
     show Ue _ (ZN a)++[32]++r.s++[32]++Ue (!decide (Wh b>r.l)) (ZN b)=Ue _ (ZN a)++[32]++r.s++[32]++Ue (decide (Wh b<=r.l)) (ZN b)
     rw[show(!decide (Wh b>r.l))=decide (Wh b<=r.l)from by rw[<- decide_not];exact decide_eq_decide.2 (by omega)]
    refine ZT rfl ⟨rfl,a,rfl,Xy a,Zc (a,()) (Yd a) ha.1,Zb (a,()) (Yd a) ⟨rfl,b,rfl,Xy b,Zc (b,()) (Yd b) hb.1,Zb (b,()) (Yd b) (ZO (fun h1=>BS (fun h2=> ?_) fun h2=> ?_) fun h1=> ?_)⟩⟩
    ·refine⟨z,Zz (e _) (show _<=8 by decide) (by omega),Zz (Zu (e _) (show _<=8 by decide)) hr (by omega),Zz (Zu (Zu (e _) (show _<=8 by decide)) hr) (show _<=8 by decide) (by omega),Q,Zz (Zu (Zu (Zu (e _) (show _<=8 by decide)) hr) (show _<=8 by decide)) (F _) (by omega),fin _ (i _ _ ?_ rfl)⟩
     have h1:Wh a ≥ r.l:=h1
     have h2:Wh a≠3:=h2
     simp[h2];omega
    ·refine⟨z,Zz (e _) (show _<=8 by decide) (by omega),Zz (Zu (e _) (show _<=8 by decide)) hr (by omega),Zz (Zu (Zu (e _) (show _<=8 by decide)) hr) (show _<=8 by decide) (by omega),Q,Zz (Zu (Zu (Zu (e _) (show _<=8 by decide)) hr) (show _<=8 by decide)) (F _) (by omega),fin _ (i _ _ ?_ rfl)⟩
     have h1:Wh a ≥ r.l:=h1
     have h2:Wh a=3:=h2
     rw[h2,decide_eq_false (show ¬ (3:Int)<r.l by omega)]
     by_cases h3:r.l=3
     ·rw[h3];rfl
     ·simp[h3]
    ·refine⟨z,Zz (e _) (show _<=8 by decide) (by omega),Zz (Zu (e _) (show _<=8 by decide)) hr (by omega),Zz (Zu (Zu (e _) (show _<=8 by decide)) hr) (show _<=8 by decide) (by omega),Q,Zz (Zu (Zu (Zu (e _) (show _<=8 by decide)) hr) (show _<=8 by decide)) (F _) (by omega),fin _ (i _ _ ?_ rfl)⟩
     have h1 : ¬ Wh a ≥ r.l:=h1
     rw[decide_eq_true (show Wh a<r.l by omega)];rfl
  | true=>
   rw[hu]at L
   match ks,L with
   | [a],_=>
    have J:a∈[a]:=by simp
    have ha:=j.kid J
    have E:=j.len J
    have e : ∀ f,(Xd (ZY n [a]) 0 f).length<=1153433594:=fun f=>by
     rw[JK];have:=Qe (!f) (ZN a);show(Ue (!f) (ZN a)).length<=_;omega
    have z:PN N (ZY n [a]) 0=true:=Rt B m j.d (by omega) (by simp)
    have i : ∀ f:Bool,(!f)=(decide (Wh a<6)||(decide (r.s=[45])&&Sw a))->r.s++Xd (ZY n [a]) 0 f=Q0 n (Yw [a]):=fun f P=>by
     rw[JK]
     simp only[Yw]
     rw[e0n ho,P]
     rfl
    have M:Wh a ≥ 6->decide (Wh a<6)=false:=fun h=>decide_eq_false (by omega)
    have D : ¬ Wh a ≥ 6->decide (Wh a<6)=true:=fun h=>decide_eq_true (by omega)
    refine ZU (by simp) (ZT rfl ⟨rfl,a,rfl,Xy a,?_⟩)
    rw[g2l,g6c,g2u]
    have nn : ¬ (a.nd.kind=2∧a.nd.name.s=Xa∧a.nd.num ≥ 0)->Sw a=false:=fun h=>by
     unfold Sw
     rw[Bool.and_eq_false_iff,Bool.and_eq_false_iff,decide_eq_false_iff_not,decide_eq_false_iff_not,decide_eq_false_iff_not]
     by_cases q1:a.nd.kind=2
     ·by_cases q2:a.nd.name.s=Xa
      ·exact .inr fun q3=>h ⟨q1,q2,q3⟩
      ·exact .inl (.inr q2)
     ·exact .inl (.inl q1)
    refine Zy (fun h2=>Zy (fun h3=>ZO (fun I=> ?_) fun I=> ?_) fun h3=> ?_) fun h2=> ?_
    ·have H:Sw a=true:=by unfold Sw;rw[decide_eq_true h2,decide_eq_true (show a.nd.name.s=Xa from h3),decide_eq_true I];rfl
     refine⟨Zc (a,()) (Yd a) ha.1,Zb (a,()) (Yd a) (ZO (fun k=>⟨z,Zz hr (e _) (by omega),fin _ (i _ ?_)⟩) fun k=>⟨z,Zz hr (e _) (by omega),fin _ (i _ ?_)⟩)⟩
     ·rw[M k,H];simp[Ce]
     ·rw[D k];rfl
    ·have H:=nn fun x=>I x.2.2
     refine⟨Zc (a,()) (Yd a) ha.1,Zb (a,()) (Yd a) (ZO (fun k=>⟨z,Zz hr (e _) (by omega),fin _ (i _ ?_)⟩) fun k=>⟨z,Zz hr (e _) (by omega),fin _ (i _ ?_)⟩)⟩
     ·rw[M k,H];simp
     ·rw[D k];rfl
    ·have H:=nn fun x=>h3 x.2.1
     refine⟨Zc (a,()) (Yd a) ha.1,Zb (a,()) (Yd a) (ZO (fun k=>⟨z,Zz hr (e _) (by omega),fin _ (i _ ?_)⟩) fun k=>⟨z,Zz hr (e _) (by omega),fin _ (i _ ?_)⟩)⟩
     ·rw[M k,H];simp
     ·rw[D k];rfl
    ·have H:=nn fun x=>h2 x.1
     refine⟨Zc (a,()) (Yd a) ha.1,Zb (a,()) (Yd a) (ZO (fun k=>⟨z,Zz hr (e _) (by omega),fin _ (i _ ?_)⟩) fun k=>⟨z,Zz hr (e _) (by omega),fin _ (i _ ?_)⟩)⟩
     ·rw[M k,H];simp
     ·rw[D k];rfl
 | none=>
  have O:Oq n ks.length=((⟨[]⟩,0):Str×Int):=by unfold Oq;rw[ho]
  have hn:Q0 n (Yw ks)=_:=MJ (by rw[WH,List.length_map];exact ho)
  have et:(Yw ks).map (·.2.2)=ks.map ZN:=by rw[WH,List.map_map];rfl
  rw[et]at hn
  rw[hn]at fin
  rw[O]
  refine ZU (by simp) (ZU (by simp) (Zy (fun h=> ?_) fun h5=>Zy (fun h=> ?_) fun h2=>Zy (fun h=> ?_) fun h1=>Zy (fun h=> ?_) fun k=>Zy (fun h=> ?_) fun h7=>Zy (fun h=> ?_) fun h8=>Zy (fun h=> ?_) fun Y=>Zy (fun h=> ?_) fun I=> ?_))
  ·-- let
   have q:nameI n.name.s=true∧ks.length=2:=by
    have:=y
    unfold YJ at this
    simp[h]at this
    exact⟨this.1.1.1.2,this.1.2⟩
   obtain⟨a,b,rfl⟩:=TL q.2
   ·skip
    have ha:=j.kid (show a∈[a,b] by simp)
    have hb:=j.kid (show b∈[a,b] by simp)
    have E:(Zt a).s.length<=_:=j.len (show a∈[a,b] by simp)
    have U:(Zt b).s.length<=_:=j.len (show b∈[a,b] by simp)
    refine⟨Zz (show _<=8 by decide) C (by omega),Zz (Zu (show _<=8 by decide) C) (show _<=8 by decide) (by omega),rfl,a,rfl,Xy a,Zc (a,()) (Yd a) (Vf ha.1 ha.2.1 ha.2.2),Zb (a,()) (Yd a) ⟨Zz (Zu (Zu (show _<=8 by decide) C) (show _<=8 by decide)) E (by omega),Zz (Zu (Zu (Zu (show _<=8 by decide) C) (show _<=8 by decide)) E) (show _<=8 by decide) (by omega),rfl,b,rfl,Xy b,Zc (b,()) (Yd b) (Vf hb.1 hb.2.1 hb.2.2),Zb (b,()) (Yd b) ⟨Zz (Zu (Zu (Zu (Zu (show _<=8 by decide) C) (show _<=8 by decide)) E) (show _<=8 by decide)) U (by omega),fin _ ?_⟩⟩⟩
    simp[h,Yw,Zt]
  ·-- literals
   have q:UK n=true:=by
    have:=y
    unfold YJ at this
    simp[h]at this
    exact this.1.1.2
   exact⟨Zc (.mk n ks,()) (ZP n ks) q,Zb (.mk n ks,()) (ZP n ks) (fin _ (by simp[h,a5a,Tm.nd]))⟩
  ·exact fin _ (by simp[h])
  ·refine⟨Zc (.mk n ks,()) (ZP n ks) ?_,Zb (.mk n ks,()) (ZP n ks) (fin _ (by simp[h,Kg,Tm.nd,Tm.ks]))⟩
   show(tW (.mk n ks)&&Z9 (.mk n ks)&&decide (n.kind=6)&&decide (Yc ks<N))=true
   rw[B,m,decide_eq_true h,decide_eq_true j.d];rfl
  ·have hc:=j.com
   have W:=VM ks
   rw[<- W]at hc
   refine⟨Zc (ks,{},()) rfl j.pre,Zb (ks,{},()) rfl ⟨Zz (show _<=8 by decide) hc (by omega),Zz (Zu (show _<=8 by decide) hc) (show _<=8 by decide) (by omega),fin _ ?_⟩⟩
   simp[h,W]
  ·-- fold
   have q:CY n.name.s=true∧ks.length=2:=by
    have:=y
    unfold YJ at this
    simp[h]at this
    exact⟨this.1.1.1.2,this.1.2⟩
   obtain⟨a,b,rfl⟩:=TL q.2
   ·skip
    have ha:=j.kid (show a∈[a,b] by simp)
    have hb:=j.kid (show b∈[a,b] by simp)
    have E:=j.len (show a∈[a,b] by simp)
    have U:=j.len (show b∈[a,b] by simp)
    have A:(Yi [n.name,Zt a,Zt b]).s.length<=1099511620000:=Nat.le_trans (YU _) (by simp[Zt];omega)
    have T:YL [n.name,Zt a,Zt b]=true:=by
     show(decide (3<=1048576)&&decide ((Yi [n.name,Zt a,Zt b]).s.length<=1099511627776))=true
     rw[decide_eq_true (show(Yi [n.name,Zt a,Zt b]).s.length<=1099511627776 by omega)];rfl
    refine⟨rfl,a,rfl,Xy a,Zc (a,()) (Yd a) (Vf ha.1 ha.2.1 ha.2.2),Zb (a,()) (Yd a) ⟨rfl,b,rfl,Xy b,Zc (b,()) (Yd b) (Vf hb.1 hb.2.1 hb.2.2),Zb (b,()) (Yd b) ⟨Zc ([n.name,Zt a,Zt b],()) rfl T,Zb ([n.name,Zt a,Zt b],()) rfl ⟨Zz (show _<=8 by decide) A (by omega),Zz (Zu (show _<=8 by decide) A) (show _<=8 by decide) (by omega),fin _ ?_⟩⟩⟩⟩
    simp[h,Yi,Zt]
  ·-- scan
   have q:CY n.name.s=true∧ks.length=1:=by
    have:=y
    unfold YJ at this
    simp[h]at this
    exact⟨this.1.1.1.2,this.1.2⟩
   obtain⟨a,rfl⟩:=List.length_eq_one_iff.1 q.2
   ·skip
    have ha:=j.kid (show a∈[a] by simp)
    have E:=j.len (show a∈[a] by simp)
    have A:(Yi [n.name,Zt a]).s.length<=1099511620000:=Nat.le_trans (YU _) (by simp[Zt];omega)
    have T:YL [n.name,Zt a]=true:=by
     show(decide (2<=1048576)&&decide ((Yi [n.name,Zt a]).s.length<=1099511627776))=true
     rw[decide_eq_true (show(Yi [n.name,Zt a]).s.length<=1099511627776 by omega)];rfl
    refine⟨rfl,a,rfl,Xy a,Zc (a,()) (Yd a) (Vf ha.1 ha.2.1 ha.2.2),Zb (a,()) (Yd a) ⟨Zc ([n.name,Zt a],()) rfl T,Zb ([n.name,Zt a],()) rfl ⟨Zz (show _<=8 by decide) A (by omega),Zz (Zu (show _<=8 by decide) A) (show _<=8 by decide) (by omega),fin _ ?_⟩⟩⟩
    simp[h,Yi,Zt]
  ·-- sizes
   have q:n.sizes.length=1∧n.sizes.all Zh=true:=by
    have:=y
    unfold YJ at this
    simp[h]at this
    exact⟨this.1.1.2,by rw[List.all_eq_true];exact this.1.2⟩
   obtain⟨l,hs⟩:=List.length_eq_one_iff.1 q.1
   have V:Zh l=true:=by
    have:=q.2
    rw[hs,List.all_eq_true]at this
    exact this l (by simp)
   have K:=Wx l
   refine⟨by rw[hs];rfl,l,by rw[hs];rfl,Zc (l,()) rfl (Us V),Zb (l,()) rfl ⟨Zz (show _<=8 by decide) (show _<=1000 from K) (by omega),Zz (Zu (show _<=8 by decide) (show _<=1000 from K)) (show _<=8 by decide) (by omega),fin _ ?_⟩⟩
   simp[h,hs]
  ·have q:WE (U6 n)=true:=by
    have:=y
    unfold YJ at this
    simp[h1,h2,I,h5,k,h7,h8,Y]at this
    exact this.2.2
   refine⟨Zc (U6 n,()) rfl ?_,Zb (U6 n,()) rfl (fin _ ?_)⟩
   ·show(VH (U6 n)&&WE (U6 n))=true
    rw[OX B,q];rfl
   ·simp[h1,h2,I,h5,k,h7,h8,Y,J8]
theorem TN{N:Nat}{n:Nd}{ks:List Tm}(h:tW (.mk n ks)=true)(hd:Yc ks<N){k:Tm}(a:k∈ks):(fun x:Tm×Unit=>tW x.1&&decide (Z4 x.1<N)) (k,())=true:=by
 show(tW k&&decide (Z4 k<N))=true
 rw[(G5 h).2 k a,decide_eq_true (Nat.lt_of_le_of_lt (Fa a) hd)];rfl
theorem P9{a b:Nat}(h:a+b<=4611686018427387904):IntKind.i64.wrap ((a:Int)+(b:Int))=((a+b:Nat):Int):=by rw[IntKind.wrap_i64];omega
theorem b9o(N:Nat)(n:Nd)(ks:List Tm)(b:tW (.mk n ks)=true)(hd:Yc ks<N): ∀ (d i:Nat),d+i=ks.length ->
  At (Au N) 0 (Za GU (Zf ((Z4 (.mk n ks):Nat):Int))) GA 0 22 [(1,.ptr 0 0),(3,.pv (.int .i64 (Yc (ks.take i):Nat))),(4,.pv (.int .i64 i))] [.obj (.box (ZY n ks))]:=by
 intro d
 induction d with
 | zero=>
  intro i hi
  rw[List.take_of_length_le (by omega)]
  refine b8n N n ks _ i (ZU (XO (by omega)) (UN ?_))
  have:=a3m (.mk n ks)
  have:=Bz b
  rw[Z4]at *
  exact next (by omega)
 | succ d ih=>
  intro i hi
  have a:i<ks.length:=by omega
  refine b8n N n ks _ i (ZT (Xq a) ⟨Zq a rfl,ZB a ⟨Xy _,Zc (ks[i],()) (Yd _) (TN b hd (List.getElem_mem a)),Zb (ks[i],()) (Yd _) ?_⟩⟩)
  rw[next (by have:=(G5 b).1;omega)]
  have h:=ih (i+1) (by omega)
  rw[Qw a,c2j]at h
  have e:(if true=true then if ((Z4 ks[i]:Nat):Int)>((Yc (ks.take i):Nat):Int)then((Z4 ks[i]:Nat):Int)else((Yc (ks.take i):Nat):Int)else if ((Z4 ks[i]:Nat):Int)<((Yc (ks.take i):Nat):Int)then((Z4 ks[i]:Nat):Int)else((Yc (ks.take i):Nat):Int))=((max (Yc (ks.take i)) (Z4 ks[i]):Nat):Int):=by
   rw[if_pos rfl]
   split <;> omega
  have h2:_:=h
  rw[<- e]at h2
  exact h2
theorem d3p(N:Nat): ∀ x:Tm×Unit,(tW x.1&&decide (Z4 x.1<N+1))=true->Zd (Au N) 0 (Za GU (Zf ((Z4 x.1:Nat):Int))) GA [] (Zx e4u (encL x)):=by
 rintro⟨⟨n,ks⟩,⟨⟩⟩ h
 simp only[Bool.and_eq_true,decide_eq_true_eq]at h
 have hd:Z4 (.mk n ks)<N+1:=h.2
 rw[Z4]at hd
 rw[<- ZP]
 exact g0s N n ks (b9o N n ks h.1 (by omega) ks.length 0 (by omega))
theorem a7i(N:Nat)(n:Nd)(ks:List Tm)(b:tW (.mk n ks)=true)(hd:Yc ks<N): ∀ (d i:Nat),d+i=ks.length ->
  At (GV N) 0 (Za KN (Zf ((Yb (.mk n ks):Nat):Int))) KZ 0 21 [(1,.ptr 0 0),(3,.pv (.int .i64 (ZZ (ks.take i)+1:Nat))),(4,.pv (.int .i64 i))] [.obj (.box (ZY n ks))]:=by
 intro d
 induction d with
 | zero=>
  intro i hi
  rw[List.take_of_length_le (by omega)]
  exact a1a N n ks _ i (ZU (XO (by omega)) (UN (by rw[Yb])))
 | succ d ih=>
  intro i hi
  have a:i<ks.length:=by omega
  refine a1a N n ks _ i (ZT (Xq a) ⟨Zq a rfl,ZB a ⟨Xy _,Zc (ks[i],()) (Yd _) (TN b hd (List.getElem_mem a)),Zb (ks[i],()) (Yd _) ?_⟩⟩)
  have hs:=Bz b
  rw[Yb]at hs
  have ht:=Tj ks (i+1)
  have h:=ih (i+1) (by omega)
  rw[Qw a,Ju]at h ht
  rw[next (by have:=(G5 b).1;omega)]
  have e:IntKind.wrap IntKind.i64 (((ZZ (ks.take i)+1:Nat):Int)+((Yb ks[i]:Nat):Int))=((ZZ (ks.take i)+Yb ks[i]+1:Nat):Int):=by rw[P9 (by omega)];congr 1;omega
  have h2:_:=h
  rw[<- e]at h2
  exact h2
theorem c2i(N:Nat): ∀ x:Tm×Unit,(tW x.1&&decide (Z4 x.1<N+1))=true->Zd (GV N) 0 (Za KN (Zf ((Yb x.1:Nat):Int))) KZ [] (Zx d3d (encL x)):=by
 rintro⟨⟨n,ks⟩,⟨⟩⟩ h
 simp only[Bool.and_eq_true,decide_eq_true_eq]at h
 have hd:Z4 (.mk n ks)<N+1:=h.2
 rw[Z4]at hd
 rw[<- ZP]
 exact e9b N n ks (a7i N n ks h.1 (by omega) ks.length 0 (by omega))
def QY(n:Nd)(ks:List Tm)(i:Nat):List Tm:=.mk n ks::(ks.take i).flatMap Xb
theorem c5x(n:Nd)(ks:List Tm)(i:Nat):(QY n ks i).length=ZZ (ks.take i)+1:=by unfold QY;rw[List.length_cons,ED]
theorem c5g(N:Nat)(n:Nd)(ks:List Tm)(b:tW (.mk n ks)=true)(hd:Yc ks<N): ∀ (d i:Nat),d+i=ks.length ->
  At (AA N) 0 (Za G7 (Zf (Xb (.mk n ks)))) GZ 0 23 [(1,.ptr 0 0),(3,.row 1 (QY n ks i).length 0 (QY n ks i).length),(4,.pv (.int .i64 i))] [.obj (.box (ZY n ks)),.obj (.row false 29 10 ((QY n ks i).map enc))]:=by
 intro d
 induction d with
 | zero=>
  intro i hi
  refine b5n N n ks _ i (QY n ks i) (ZU (XO (by omega)) ⟨by simp,?_⟩)
  rw[List.drop_zero,List.take_of_length_le (by simp)]
  refine Zg (x:=QY n ks i) ?_
  unfold QY
  rw[List.take_of_length_le (by omega),e9h]
 | succ d ih=>
  intro i hi
  have a:i<ks.length:=by omega
  have hs:=Bz b
  rw[Yb]at hs
  have ht:=Tj ks (i+1)
  rw[Qw a,Ju]at ht
  have g:(List.map (enc:Tm->PV) (Xb ks[i])).length=Yb ks[i]:=by rw[List.length_map,Be]
  have hk:=c5x n ks i
  refine b5n N n ks _ i (QY n ks i) (ZT (Xq a) ⟨Zq a rfl,ZB a ⟨Xy _,Zc (ks[i],()) (Yd _) (TN b hd (List.getElem_mem a)),Zb (ks[i],()) (Yd _) ⟨?_,?_,?_⟩⟩⟩)
  ·show((List.map (enc:Tm->PV) (Xb ks[i])).isEmpty||Enc.sz Tm==10)=true
   rw[show(Enc.sz Tm==10)=true from rfl,Bool.or_true]
  ·show(List.length (List.map (enc:Tm->PV) (QY n ks i))==(QY n ks i).length&&(QY n ks i).length==(QY n ks i).length&&decide (((QY n ks i).length+(List.map (enc:Tm->PV) (Xb ks[i])).length)*176<=1099511627776)&&decide ((QY n ks i).length+(List.map (enc:Tm->PV) (Xb ks[i])).length<=1099511627776))=true
   rw[List.length_map,g,decide_eq_true (by omega),decide_eq_true (by omega)];simp
  ·rw[next (by have:=(G5 b).1;omega)]
   have h:=ih (i+1) (by omega)
   have e:QY n ks (i+1)=QY n ks i++Xb ks[i]:=by unfold QY;rw[Qw a,List.flatMap_append,List.flatMap_cons,List.flatMap_nil,List.append_nil];rfl
   rw[e,List.map_append,List.length_append,<- show(List.map (enc:Tm->PV) (Xb ks[i])).length=(Xb ks[i]).length from List.length_map _]at h
   exact h
theorem d5w(N:Nat): ∀ x:Tm×Unit,(tW x.1&&decide (Z4 x.1<N+1))=true->Zd (AA N) 0 (Za G7 (Zf (Xb x.1))) GZ [] (Zx e8c (encL x)):=by
 rintro⟨⟨n,ks⟩,⟨⟩⟩ h
 simp only[Bool.and_eq_true,decide_eq_true_eq]at h
 have hd:Z4 (.mk n ks)<N+1:=h.2
 rw[Z4]at hd
 rw[<- ZP]
 refine f8k N n ks ?_
 have:=c5g N n ks h.1 (by omega) ks.length 0 (by omega)
 rw[show QY n ks 0=[.mk n ks]from rfl]at this
 rw[ZP]
 exact this
theorem zs2(t:Tm):(decide (0+List.length [Sh.str]<=List.length (List.drop 2 (PV.cells (enc t))))&&Yj (List.drop 2 (PV.cells (enc t))) 0 [Sh.str])=true:=by obtain⟨n,ks⟩:=t;rw[Yl];rfl
theorem zv2(t:Tm):PV.asStr (List.getD (List.drop 2 (PV.cells (enc t))) 0 default)=t.nd.name.s:=by obtain⟨n,ks⟩:=t;rw[Yl];rfl
theorem g7y(t:Tm):(decide (0+List.length [Sh.sl 1]<=List.length (List.drop 2 (List.drop 4 (PV.cells (enc t)))))&&Yj (List.drop 2 (List.drop 4 (PV.cells (enc t)))) 0 [Sh.sl 1])=true:=by obtain⟨n,ks⟩:=t;rw[Yl];rfl
theorem g7o(t:Tm):PV.asXs (List.getD (List.drop 2 (List.drop 4 (PV.cells (enc t)))) 0 default)=t.nd.data.map enc:=by obtain⟨n,ks⟩:=t;rw[Yl];rfl
theorem g8d(t:Tm):(decide (0+List.length [Sh.sl 1]<=List.length (List.drop 1 (List.drop 4 (PV.cells (enc t)))))&&Yj (List.drop 1 (List.drop 4 (PV.cells (enc t)))) 0 [Sh.sl 1])=true:=by obtain⟨n,ks⟩:=t;rw[Yl];rfl
theorem g7x(t:Tm):PV.asXs (List.getD (List.drop 1 (List.drop 4 (PV.cells (enc t)))) 0 default)=t.nd.dims.map enc:=by obtain⟨n,ks⟩:=t;rw[Yl];rfl
theorem zs7(t:Tm):(decide (0+List.length [Sh.sl 2]<=List.length (List.drop 7 (PV.cells (enc t))))&&Yj (List.drop 7 (PV.cells (enc t))) 0 [Sh.sl 2])=true:=by obtain⟨n,ks⟩:=t;rw[Yl];rfl
theorem zv7(t:Tm):PV.asXs (List.getD (List.drop 7 (PV.cells (enc t))) 0 default)=t.nd.sizes.map enc:=by obtain⟨n,ks⟩:=t;rw[Yl];rfl
theorem zs8(t:Tm):(decide (0+List.length [Sh.sl 1]<=List.length (List.drop 8 (PV.cells (enc t))))&&Yj (List.drop 8 (PV.cells (enc t))) 0 [Sh.sl 1])=true:=by obtain⟨n,ks⟩:=t;rw[Yl];rfl
theorem zv8(t:Tm):PV.asXs (List.getD (List.drop 8 (PV.cells (enc t))) 0 default)=t.nd.ranks.map enc:=by obtain⟨n,ks⟩:=t;rw[Yl];rfl
theorem b3f(l:Lin):(decide (0+List.length [Sh.sl 2]<=List.length (List.drop 1 (PV.cells (enc l))))&&Yj (List.drop 1 (PV.cells (enc l))) 0 [Sh.sl 2])=true:=rfl
theorem a6w(l:Lin):PV.asXs (List.getD (List.drop 1 (PV.cells (enc l))) 0 default)=l.t.map enc:=rfl
theorem e5p(n:Nd)(ks:List Tm)(m:Int)(o:List Tm)(G:PV->Prop){i:Nat}(a:i<o.length)(hs:o[i].nd.sizes.length<=1048576)(u:(o[i].nd.sizes.all fun l=>decide (l.t.length<=6))=false->G (.bool false))
  (y:(o[i].nd.sizes.all fun l=>decide (l.t.length<=6))=true->At U2 0 (Za Vp G) VQ 0 91 [(5,.pv (enc o)),(6,.pv (.int .i64 (IntKind.i64.wrap ((i:Int)+1))))] []) : ∀ (d j:Nat),d+j=o[i].nd.sizes.length->(∀ q (k:q<o[i].nd.sizes.length),q<j->(o[i].nd.sizes[q]).t.length<=6) ->
  At U2 0 (Za Vp G) VQ 1 91 [(5,.pv (enc o)),(6,.pv (.int .i64 i)),(7,.pv (.int .i64 j))] []:=by
 intro d
 induction d with
 | zero=>
  intro j s k
  refine b5p n ks m i j o ⟨Zq a rfl,ZB a ⟨zs7 _,?_⟩⟩
  rw[zv7,List.length_map]
  refine ZU (Yx (by omega)) (y ?_)
  rw[List.all_eq_true]
  intro l r
  obtain⟨q,b,rfl⟩:=List.getElem_of_mem r
  exact decide_eq_true (k q b (by omega))
 | succ d ih=>
  intro j s k
  have g:j<o[i].nd.sizes.length:=by omega
  have z:List.getD (o[i].nd.sizes.map (enc:Lin->PV)) (Int.toNat (j:Int)) default=enc o[i].nd.sizes[j]:=by rw[Int.toNat_natCast];simp[List.getD,g]
  refine b5p n ks m i j o ⟨Zq a rfl,ZB a ⟨zs7 _,?_⟩⟩
  rw[zv7]
  refine ZT (Xq g) ⟨Zq a rfl,ZB a ⟨zs7 _,?_⟩⟩
  rw[zv7,z,a6w]
  refine⟨by rw[List.length_map];simp;omega,b3f _,ZO (fun h=> ?_) fun h=> ?_⟩
  ·refine u ?_
   rw[List.length_map]at h
   rw[List.all_eq_false]
   exact⟨_,List.getElem_mem g,by simp;omega⟩
  ·rw[List.length_map]at h
   rw[next (by omega)]
   refine ih (j+1) (by omega) fun q b hqj=> ?_
   by_cases e:q=j
   ·subst e;omega
   ·exact k q b (by omega)
theorem b7r{t x:Tm}(h:tW t=true)(a:x∈Xb t):tW x=true:=by
 unfold Xb at a
 obtain⟨p,b,rfl⟩:=List.mem_map.1 a
 exact Cr h b
theorem Hu{t:Tm}(h : ¬ (t.nd.name.s.length<=40∧t.nd.data.length<=30∧t.nd.dims.length<=8∧t.nd.sizes.length<=6∧t.nd.ranks.length<=10)):Po t=false:=by
 rw[Bool.eq_false_iff]
 intro k
 unfold Po at k
 simp only[Bool.and_eq_true,decide_eq_true_eq]at k
 exact h ⟨k.1.1.1.1.1,k.1.1.1.1.2,k.1.1.1.2,k.1.1.2,k.1.2⟩
theorem d5m{t:Tm}(h1:t.nd.name.s.length<=40)(h2:t.nd.data.length<=30)(h3:t.nd.dims.length<=8)(b:t.nd.sizes.length<=6)(a:t.nd.ranks.length<=10):Po t=t.nd.sizes.all fun l=>decide (l.t.length<=6):=by
 unfold Po
 rw[decide_eq_true h1,decide_eq_true h2,decide_eq_true h3,decide_eq_true b,decide_eq_true a];simp
theorem c3y(n:Nd)(ks:List Tm)(m:Int)(o:List Tm)(hw : ∀ x∈o,tW x=true)(hl:o.length<=1048576)(G:PV->Prop)(l:G (.bool (o.all Po))): ∀ (d i:Nat),d+i=o.length->(∀ q (j:q<o.length),q<i->Po o[q]=true) ->
  At U2 0 (Za Vp G) VQ 0 91 [(5,.pv (enc o)),(6,.pv (.int .i64 i))] []:=by
 intro d
 induction d with
 | zero=>
  intro i hi j
  have e:o.all Po=true:=by
   rw[List.all_eq_true]
   intro x s
   obtain⟨q,g,rfl⟩:=List.getElem_of_mem s
   exact j q g (by omega)
  rw[e]at l
  exact b4d n ks m i o (ZU (XO (by omega)) l)
 | succ d ih=>
  intro i hi j
  have a:i<o.length:=by omega
  have b:Po o[i]=false->G (.bool false):=fun h=>by
   have e:o.all Po=false:=by rw[List.all_eq_false];exact⟨_,List.getElem_mem a,by rw[h];simp⟩
   rw[e]at l
   exact l
  refine b4d n ks m i o (ZT (Xq a) ⟨Zq a rfl,ZB a ⟨zs2 _,?_⟩⟩)
  rw[zv2]
  refine ZO (fun h=>b (Hu fun k=>by omega)) fun h1=>⟨Zq a rfl,ZB a ⟨g7y _,?_⟩⟩
  rw[g7o,List.length_map]
  refine ZO (fun h=>b (Hu fun k=>by omega)) fun h2=>⟨Zq a rfl,ZB a ⟨g8d _,?_⟩⟩
  rw[g7x,List.length_map]
  refine ZO (fun h=>b (Hu fun k=>by omega)) fun h3=>⟨Zq a rfl,ZB a ⟨zs7 _,?_⟩⟩
  rw[zv7,List.length_map]
  refine ZO (fun h=>b (Hu fun k=>by omega)) fun h4=>⟨Zq a rfl,ZB a ⟨zs8 _,?_⟩⟩
  rw[zv8,List.length_map]
  refine ZO (fun h=>b (Hu fun k=>by omega)) fun h5=> ?_
  have r:=d5m (t:=o[i]) (by omega) (by omega) (by omega) (by omega) (by omega)
  refine e5p n ks m o G a (by omega) (fun h=>b (by rw[r];exact h)) (fun h=> ?_) o[i].nd.sizes.length 0 (by omega) fun q j g=>by omega
  rw[next (by omega)]
  refine ih (i+1) (by omega) fun q g hqi=> ?_
  by_cases e:q=i
  ·subst e;rw[r];exact h
  ·exact j q g (by omega)
theorem d7r: ∀ x:Tm×Int×Unit,tW x.1=true->Zd U2 0 (Za Vp (Zf (KI x.1 x.2.1))) VQ [] (Zx e5n (encL x)):=by
 rintro⟨⟨n,ks⟩,m,⟨⟩⟩ h
 have h:tW (.mk n ks)=true:=h
 have b:Dh n ks++[.int .i64 m]=encL ((.mk n ks,m,()):Tm×Int×Unit):=by rw[ZP];rfl
 rw[<- b]
 show Zd U2 0 (Za Vp (Zf (KI (.mk n ks) m))) _ _ _
 refine f8l n ks m ⟨Zc (.mk n ks,()) (ZP n ks) h,Zb (.mk n ks,()) (ZP n ks) (ZO (fun h1=>Zl ?_) fun h1=>⟨Zc (.mk n ks,()) (ZP n ks) h,Zb (.mk n ks,()) (ZP n ks) (ZO (fun h2=>Zl ?_) fun h2=>⟨Zc (.mk n ks,()) (ZP n ks) h,Zb (.mk n ks,()) (ZP n ks) ?_⟩)⟩)⟩
 ·have h1:((Z4 (.mk n ks):Nat):Int)>12:=h1
  unfold KI
  rw[decide_eq_false (by omega)];rfl
 ·have h2:((Yb (.mk n ks):Nat):Int)>m:=h2
  unfold KI
  rw[decide_eq_false (show ¬ ((Yb (.mk n ks):Nat):Int)<=m by omega),Bool.and_false];rfl
 ·have h1 : ¬ ((Z4 (.mk n ks):Nat):Int)>12:=h1
  have h2 : ¬ ((Yb (.mk n ks):Nat):Int)>m:=h2
  have e:KI (.mk n ks) m=(Xb (.mk n ks)).all Po:=by
   unfold KI
   rw[decide_eq_true (by omega),decide_eq_true (show((Yb (.mk n ks):Nat):Int)<=m by omega)];simp
  refine c3y n ks m (Xb (.mk n ks)) (fun x a=>b7r h a) (by rw[Be];exact Bz h) _ (Zl e.symm) (Xb (.mk n ks)).length 0 (by omega) fun q hq hq2=>by omega
theorem f6j: ∀ x:Str×Unit,true=true->Zd g4p 0 (Za f3a (Zf (vT x.1))) f2g [] (Zx g2w (encL x)):=by
 rintro⟨⟨s⟩,⟨⟩⟩ _
 exact g8a s ⟨by simp,by simp[vT,nd0]⟩
theorem c0g: ∀ x:Str×List Tm×Unit,true=true->Zd b4v 0 (Za a1j (Zf (cT x.1 x.2.1))) a0l [] (Zx c9q (encL x)):=by
 rintro⟨⟨s⟩,l,⟨⟩⟩ _
 refine e7e s l ⟨?_,?_⟩
 ·have:is (List Tm) (.sl 10 false (l.map enc))=true:=Enc.is_enc l
  simp[this]
 ·have h:is (List Tm) (.sl 10 false (l.map enc))=true:=Enc.is_enc l
  have h2:(dec (.sl 10 false (l.map enc)):List Tm)=l:=Enc.dec_enc l
  rw[f8t _ _ _ _ _ _ _ _ _ _ h,h2]
  simp[cT,nd0]
theorem e0s(a b:Tm):(List.all [enc a,enc b] fun(x:PV)=>List.length (PV.cells x)==10&&PV.cellsOk x)=true:=by
 obtain⟨n,ks⟩:=a
 obtain⟨m,ls⟩:=b
 rw[Yl,Yl];rfl
theorem a8p: ∀ x:Unit,true=true->Zd a6c 0 (Za Mo (Zf true)) Fe [] (Zx c5n (encL x)):=by
 rintro⟨⟩ _
 refine e1f (Zb ((⟨[97]⟩:Str),()) rfl (Zb ((⟨[98]⟩:Str),()) rfl ⟨cT ⟨[110,101,103]⟩ [nT 5],by kernel_rfl,e0s _ _,Zc ((⟨[115,117,98]⟩:Str),[vT ⟨[98]⟩,cT ⟨[110,101,103]⟩ [nT 5]],()) rfl rfl,Zb ((⟨[115,117,98]⟩:Str),[vT ⟨[98]⟩,cT ⟨[110,101,103]⟩ [nT 5]],()) rfl ⟨e0s _ _,Zc ((⟨[115,117,98]⟩:Str),[vT ⟨[97]⟩,cT ⟨[115,117,98]⟩ [vT ⟨[98]⟩,cT ⟨[110,101,103]⟩ [nT 5]]],()) rfl rfl,Zb ((⟨[115,117,98]⟩:Str),[vT ⟨[97]⟩,cT ⟨[115,117,98]⟩ [vT ⟨[98]⟩,cT ⟨[110,101,103]⟩ [nT 5]]],()) rfl ⟨Zc (ex1,()) rfl g2z,Zb (ex1,()) rfl ?_⟩⟩⟩))
 rw[show Ja ((ex1,()):Tm×Unit).1=(⟨tx1⟩,0)from c6c]
 refine Zb ((⟨[97]⟩:Str),()) rfl (Zb ((⟨[98]⟩:Str),()) rfl ⟨e0s _ _,Zc ((⟨[97,100,100]⟩:Str),[vT ⟨[97]⟩,vT ⟨[98]⟩],()) rfl rfl,Zb ((⟨[97,100,100]⟩:Str),[vT ⟨[97]⟩,vT ⟨[98]⟩],()) rfl ⟨by kernel_rfl,by kernel_rfl,ex2,by kernel_rfl,Zc (ex2,()) rfl g5d,Zb (ex2,()) rfl ?_⟩⟩)
 rw[show Ja ((ex2,()):Tm×Unit).1=(⟨tx2⟩,0)from e2a]
 exact ZT rfl (ZT rfl (ZT rfl (Zl rfl)))
end Go.Pl
namespace Go.Pl
open Go.RowKit
open Enc (enc dec is)
open EncL (encL decL isL)
set_option maxRecDepth 100000
noncomputable def b2x:IC:=YI Proofs.Tryz.f84
def a7x:List IRes:=[(.tmp 2)]
abbrev f6u:Nat:=4
def e1u:ZC:=Yh []
theorem g1p{G:AV×List AObj×List AObj->Prop}(es:List (PV×PV))(h:G (((.fn 124 [] [(.ptr 1 0)]),([(.map es)],[(.box [(.map 0)])])))):Zd e1u 1 (Xw 1 a7x G) b2x [] (U7 4 [.map 0] [.map es]):=Zd.to (.nil) h
noncomputable def Nc:IC:=icx NF Proofs.Tryz.f51
def AL:List IRes:=[(.tmp 2)]
abbrev f3y:Nat:=36
def Bn:ZC:=Yh [(81,.own V9 (Kh 116)),(84,.own Gc (CS 124)),(83,.own (Kl 124) JS)]
theorem g2t{G:PV->Prop}(E:Vs)(n:Nd)(ks:List Tm)(h:(V9 [(.pv (.agg [(.int .i64 (Nd.kind n)),(.int .i64 (Nd.line n)),(.str (Str.s (Nd.name n))),(.int .i64 (Nd.num n)),(.str (Str.s (Nd.elem n))),(.sl 1 false (List.map enc (Nd.dims n))),(.sl 1 false (List.map enc (Nd.data n))),(.sl 2 false (List.map enc (Nd.sizes n))),(.sl 1 false (List.map enc (Nd.ranks n))),(.sl 10 false (List.map enc ks))]))] [])=true∧(E 0 ⟨Xn 36 0 [(3,(.ptr 0 0)),(4,.undef),(6,.undef),(8,.undef),(11,(.fn 116 [] [(.ptr 1 0)])),(12,.undef),(14,.undef),(15,.undef),(16,.undef),(17,.undef),(18,.undef),(19,.undef),(20,.undef),(21,.undef),(22,.undef),(23,.undef),(24,.undef),(25,.undef),(26,.undef),(27,.undef),(28,.undef),(29,.undef),(30,.undef),(31,.undef),(32,.undef)],[(.obj (.box [(.map 2)])),(.obj (.box [(.pv (.int .i64 (Nd.kind n))),(.pv (.int .i64 (Nd.line n))),(.pv (.str (Str.s (Nd.name n)))),(.pv (.int .i64 (Nd.num n))),(.pv (.str (Str.s (Nd.elem n)))),(.pv (.sl 1 false (List.map enc (Nd.dims n)))),(.pv (.sl 1 false (List.map enc (Nd.data n)))),(.pv (.sl 2 false (List.map enc (Nd.sizes n)))),(.pv (.sl 1 false (List.map enc (Nd.ranks n)))),(.pv (.sl 10 false (List.map enc ks)))])),(.obj (.map []))]⟩ (fun x a=>AfX Bn E 0 (Za AL G) Nc 0 x a))):Y9 Bn E 0 (Za AL G) (.inl Nc) [] (Zx 36 [.agg [enc n.kind,enc n.line,enc n.name,enc n.num,enc n.elem,enc n.dims,enc n.data,enc n.sizes,enc n.ranks,enc ks]]):=Y9.mp (.req (.keep (.nil))) h
theorem f7w{G:PV->Prop}(E:Vs)(n:Nd)(ks:List Tm)(m:List Str)(h:(Kl 124 [(.fn 124 [] [(.ptr 0 0)])] [(.box [(.map 1)]),(.map (Hr m))])=true∧(G ((.sl 1 false (List.map PV.str (Vb (List.map Jo (Hr m)))))))):AfX Bn E 0 (Za AL G) Nc 0 .normal ⟨Xn 36 0 [(3,.ptr 0 0)],[.obj (.box [.map 1]),.obj (.map (Hr m))]⟩:=Y9.mp (.lit (.keep (.req (.keep (.nil))))) h
def PE:IC:=(.reg [Z6 4 (.alloc (.agg [(.int .i64 0),(.int .i64 0),(.str []),(.int .i64 0),(.str []),(.sl 0 true []),(.sl 0 true []),(.sl 0 true []),(.sl 0 true []),(.sl 0 true [])])) 0,o'' (.store 10 (.t 4) (.t 12)) 1] none)
def f1x:ZC:=Yh [(81,.own V9 (Kh 116)),(84,.own Gc (CS 124)),(83,.own (Kl 124) JS)]
theorem f5g{G:ZF->Prop}(E:Vs)(n:Nd)(ks:List Tm)(m:List Str)(v:Int)(h:E 99 ⟨Xn 36 0 [(3,(.ptr 0 0)),(4,(.ptr 2 0))],[(.obj (.box [(.map 1)])),(.obj (.map (Hr m))),(.obj (.box [(.pv (.int .i64 (Nd.kind n))),(.pv (.int .i64 (Nd.line n))),(.pv (.str (Str.s (Nd.name n)))),(.pv (.int .i64 (Nd.num n))),(.pv (.str (Str.s (Nd.elem n)))),(.pv (.sl 1 false (List.map enc (Nd.dims n)))),(.pv (.sl 1 false (List.map enc (Nd.data n)))),(.pv (.sl 2 false (List.map enc (Nd.sizes n)))),(.pv (.sl 1 false (List.map enc (Nd.ranks n)))),(.pv (.sl 10 false (List.map enc ks)))]))]⟩ (fun x a=>AfX f1x E 2 (fun st=>G st.heap) PE 99 x a)):Y9 f1x E 2 (fun st=>G st.heap) (.inl PE) [.seq (.ext 99 [3,4])] ⟨Xn 36 0 [(3,.ptr 0 0),(12,.pv (.agg [enc n.kind,enc n.line,enc n.name,enc n.num,enc n.elem,enc n.dims,enc n.data,enc n.sizes,enc n.ranks,enc ks])),(13,.pv (.int .i64 v))],[.obj (.box [.map 1]),.obj (.map (Hr m))]⟩:=Y9.mh (.nil) h
def Vr:IC:=(.block 1 (Ug [Z6 14 (.faddr 7 (.t 4)) 0,Z6 15 (l'' [(.sl 2)] (.t 14)) 0,Z6 16 (.len 1 (.t 15)) 0,Z6 17 (.mv (WZ 0)) 0] (.block 2 (.loop [17,16,15,3] (Ug [Z6 18 (Cm .lss (.t 17) (.t 16)) 0] (.seq (.cond (.t 18) .skip (.exit 2)) (.seq (.block 3 (Ug [Z6 19 (.iaddr 2 (.t 15) (.t 17)) 0,Z6 20 (.load true [(.int .i64),(.sl 2)] (.t 19)) 0,Z6 6 (.alloc (.agg [(.int .i64 0),(.sl 0 true [])])) 0,o'' (.store 2 (.t 6) (.t 20)) 1] (Ug [Z6 21 (.faddr 1 (.t 6)) 0,Z6 22 (l'' [(.sl 2)] (.t 21)) 0,Z6 23 (.len 1 (.t 22)) 0,Z6 24 (.mv (WZ 0)) 0] (.block 4 (.loop [24,23,22,3,17,16,15] (Ug [Z6 25 (Cm .lss (.t 24) (.t 23)) 0] (.seq (.cond (.t 25) .skip (.exit 4)) (.seq (.block 5 (Ug [Z6 26 (.iaddr 2 (.t 22) (.t 24)) 0,Z6 27 (.load true [.str,(.int .i64)] (.t 26)) 0,Z6 8 (.alloc (.agg [(.str []),(.int .i64 0)])) 0,o'' (.store 2 (.t 8) (.t 27)) 1] (.reg [Z6 28 (.load false [.any] (.t 3)) 0,Z6 29 (.faddr 0 (.t 8)) 0,Z6 30 (.load false [.str] (.t 29)) 0,o'' (.mapupd true (.t 28) (.t 30) (.c (.bool true))) 0] none))) (.reg [Z6 31 (Cm .add (.t 24) (WZ 1)) 0,Z6 24 (VC 31) 0] none))))))))) (.reg [Z6 32 (Cm .add (.t 17) (WZ 1)) 0,Z6 17 (VC 32) 0] none))))))))
def J4:ZC:=Yh [(81,.own V9 (Kh 116)),(84,.own Gc (CS 124)),(83,.own (Kl 124) JS)]
theorem e0d{G:ZF->Prop}(E:Vs)(n:Nd)(ks:List Tm)(m:List Str)(i:Int)(h:if (decide (i<(↑(List.length (Nd.sizes n)):Int)))=true then(Y1 (Nd.sizes n) i 2 fun a=>(AtS [.seq (.ext 99 [])] J4 E 3 (fun st=>G st.heap) Vr 1 36 [(3,(.ptr 0 0)),(15,(.pv (.sl 2 false (List.map enc (Nd.sizes n))))),(16,(.pv (.int .i64 (↑(List.length (Nd.sizes n)):Int)))),(17,(.pv (.int .i64 i))),(22,(.pv (.sl 2 false (PV.asXs (Tu a))))),(23,(.pv (.int .i64 (↑(List.length (PV.asXs (Tu a))):Int)))),(24,(.pv (.int .i64 0)))] [(.obj (.box [(.map 1)])),(.obj (.map (Hr m))),(.obj (.box [(.pv (.int .i64 (Nd.kind n))),(.pv (.int .i64 (Nd.line n))),(.pv (.str (Str.s (Nd.name n)))),(.pv (.int .i64 (Nd.num n))),(.pv (.str (Str.s (Nd.elem n)))),(.pv (.sl 1 false (List.map enc (Nd.dims n)))),(.pv (.sl 1 false (List.map enc (Nd.data n)))),(.pv (.sl 2 false (List.map enc (Nd.sizes n)))),(.pv (.sl 1 false (List.map enc (Nd.ranks n)))),(.pv (.sl 10 false (List.map enc ks)))]))]))else(E 99 ⟨Xn 36 0 [],[(.obj (.box [(.map 1)])),(.obj (.map (Hr m))),(.obj (.box [(.pv (.int .i64 (Nd.kind n))),(.pv (.int .i64 (Nd.line n))),(.pv (.str (Str.s (Nd.name n)))),(.pv (.int .i64 (Nd.num n))),(.pv (.str (Str.s (Nd.elem n)))),(.pv (.sl 1 false (List.map enc (Nd.dims n)))),(.pv (.sl 1 false (List.map enc (Nd.data n)))),(.pv (.sl 2 false (List.map enc (Nd.sizes n)))),(.pv (.sl 1 false (List.map enc (Nd.ranks n)))),(.pv (.sl 10 false (List.map enc ks)))]))]⟩ (fun x b=>AfX J4 E 3 (fun st=>G st.heap) Vr 99 x b))):AtS [.seq (.ext 99 [])] J4 E 3 (fun st=>G st.heap) Vr 0 36 [(3,.ptr 0 0),(15,.pv (enc n.sizes)),(16,.pv (.int .i64 n.sizes.length)),(17,.pv (.int .i64 i))] [.obj (.box [.map 1]),.obj (.map (Hr m)),.obj (.box [.pv (enc n.kind),.pv (enc n.line),.pv (enc n.name),.pv (enc n.num),.pv (enc n.elem),.pv (enc n.dims),.pv (enc n.data),.pv (enc n.sizes),.pv (enc n.ranks),.pv (enc ks)])]:=Y9.mh (dm [dr Lin] 11 0x25100442) h
theorem d9d{G:ZF->Prop}(E:Vs)(n:Nd)(ks:List Tm)(m:List Str)(i j:Int)(l:Lin)(h:if (decide (j<(↑(List.length l.t):Int)))=true then(Y1 l.t j 2 fun a=>((b3t (Sh.co Sh.str (VD a)) (PV.bool true) (Hr m))=true∧(AtS [.seq (.ext 99 [])] J4 E 3 (fun st=>G st.heap) Vr 1 36 [(3,(.ptr 0 0)),(15,(.pv (.sl 2 false (List.map enc (Nd.sizes n))))),(16,(.pv (.int .i64 (↑(List.length (Nd.sizes n)):Int)))),(17,(.pv (.int .i64 i))),(22,(.pv (.sl 2 false (List.map enc l.t)))),(23,(.pv (.int .i64 (↑(List.length l.t):Int)))),(24,(.pv (.int .i64 (IntKind.wrap IntKind.i64 (j+1)))))] [(.obj (.box [(.map 1)])),(.obj (.map (b2v (Sh.co Sh.str (VD a)) (PV.bool true) (Hr m)))),(.obj (.box [(.pv (.int .i64 (Nd.kind n))),(.pv (.int .i64 (Nd.line n))),(.pv (.str (Str.s (Nd.name n)))),(.pv (.int .i64 (Nd.num n))),(.pv (.str (Str.s (Nd.elem n)))),(.pv (.sl 1 false (List.map enc (Nd.dims n)))),(.pv (.sl 1 false (List.map enc (Nd.data n)))),(.pv (.sl 2 false (List.map enc (Nd.sizes n)))),(.pv (.sl 1 false (List.map enc (Nd.ranks n)))),(.pv (.sl 10 false (List.map enc ks)))]))])))else(AtS [.seq (.ext 99 [])] J4 E 3 (fun st=>G st.heap) Vr 0 36 [(3,(.ptr 0 0)),(15,(.pv (.sl 2 false (List.map enc (Nd.sizes n))))),(16,(.pv (.int .i64 (↑(List.length (Nd.sizes n)):Int)))),(17,(.pv (.int .i64 (IntKind.wrap IntKind.i64 (i+1)))))] [(.obj (.box [(.map 1)])),(.obj (.map (Hr m))),(.obj (.box [(.pv (.int .i64 (Nd.kind n))),(.pv (.int .i64 (Nd.line n))),(.pv (.str (Str.s (Nd.name n)))),(.pv (.int .i64 (Nd.num n))),(.pv (.str (Str.s (Nd.elem n)))),(.pv (.sl 1 false (List.map enc (Nd.dims n)))),(.pv (.sl 1 false (List.map enc (Nd.data n)))),(.pv (.sl 2 false (List.map enc (Nd.sizes n)))),(.pv (.sl 1 false (List.map enc (Nd.ranks n)))),(.pv (.sl 10 false (List.map enc ks)))]))])):AtS [.seq (.ext 99 [])] J4 E 3 (fun st=>G st.heap) Vr 1 36 [(3,.ptr 0 0),(15,.pv (enc n.sizes)),(16,.pv (.int .i64 n.sizes.length)),(17,.pv (.int .i64 i)),(22,.pv (enc l.t)),(23,.pv (.int .i64 l.t.length)),(24,.pv (.int .i64 j))] [.obj (.box [.map 1]),.obj (.map (Hr m)),.obj (.box [.pv (enc n.kind),.pv (enc n.line),.pv (enc n.name),.pv (enc n.num),.pv (enc n.elem),.pv (enc n.dims),.pv (enc n.data),.pv (enc n.sizes),.pv (enc n.ranks),.pv (enc ks)])]:=Y9.mh (dm [dr Coef] 14 0x202125100642) h
theorem f6d{G:ZF->Prop}(E:Vs)(n:Nd)(ks:List Tm)(m:List Str)(h:AtS [.seq (.ext 99 [])] J4 E 3 (fun st=>G st.heap) Vr 0 36 [(3,(.ptr 0 0)),(15,(.pv (.sl 2 false (List.map enc (Nd.sizes n))))),(16,(.pv (.int .i64 (↑(List.length (List.map enc (Nd.sizes n))):Int)))),(17,(.pv (.int .i64 0)))] [(.obj (.box [(.map 1)])),(.obj (.map (Hr m))),(.obj (.box [(.pv (.int .i64 (Nd.kind n))),(.pv (.int .i64 (Nd.line n))),(.pv (.str (Str.s (Nd.name n)))),(.pv (.int .i64 (Nd.num n))),(.pv (.str (Str.s (Nd.elem n)))),(.pv (.sl 1 false (List.map enc (Nd.dims n)))),(.pv (.sl 1 false (List.map enc (Nd.data n)))),(.pv (.sl 2 false (List.map enc (Nd.sizes n)))),(.pv (.sl 1 false (List.map enc (Nd.ranks n)))),(.pv (.sl 10 false (List.map enc ks)))]))]):Y9 J4 E 3 (fun st=>G st.heap) (.inl Vr) [.seq (.ext 99 [])] ⟨Xn 36 0 [(3,.ptr 0 0),(4,.ptr 2 0)],[.obj (.box [.map 1]),.obj (.map (Hr m)),.obj (.box [.pv (enc n.kind),.pv (enc n.line),.pv (enc n.name),.pv (enc n.num),.pv (enc n.elem),.pv (enc n.dims),.pv (enc n.data),.pv (enc n.sizes),.pv (enc n.ranks),.pv (enc ks)])]⟩:=Y9.mh (.nil) h
end Go.Pl
namespace Go.Pl
open Go.RowKit
open Enc (enc dec is)
open EncL (encL decL isL)
set_option maxRecDepth 100000
abbrev g3b(ps:List PV)(k:Bool->Prop):Prop:=Ym (fun(x:Tm×Unit)=>tW (Prod.fst x)) (fun(x:Tm×Unit)=>Hm (Prod.fst x)) ps k
noncomputable def Ow:IC:=YI Proofs.Tryz.f81
def OU:List IRes:=[(.tmp 2)]
abbrev e7x:Nat:=4
def a7o:ZC:=Yh []
theorem f6h{G:AV×List AObj×List AObj->Prop}(n:Nd)(ks:List Tm)(h:G (((.fn 116 [] [(.ptr 0 0)]),([],[(.box [(.pv (.int .i64 (Nd.kind n))),(.pv (.int .i64 (Nd.line n))),(.pv (.str (Str.s (Nd.name n)))),(.pv (.int .i64 (Nd.num n))),(.pv (.str (Str.s (Nd.elem n)))),(.pv (.sl 1 false (List.map enc (Nd.dims n)))),(.pv (.sl 1 false (List.map enc (Nd.data n)))),(.pv (.sl 2 false (List.map enc (Nd.sizes n)))),(.pv (.sl 1 false (List.map enc (Nd.ranks n)))),(.pv (.sl 10 false (List.map enc ks)))])])))):Zd a7o 0 (Xw 0 OU G) Ow [] (U7 4 [.pv (.agg [enc n.kind,enc n.line,enc n.name,enc n.num,enc n.elem,enc n.dims,enc n.data,enc n.sizes,enc n.ranks,enc ks])] []):=Zd.to (.nil) h
noncomputable def Ak:IC:=icx NF Proofs.Tryz.f50
def DL:List IRes:=[(.cell false 1 2)]
abbrev f6l:Nat:=23
def Dn:ZC:=Yh [(81,.own V9 (Kh 116)),(82,.pure (preT (fun x:Tm×Unit=>tW x.1)) (Zi (fun x:Tm×Unit=>Hm x.1)))]
theorem g2v{G:PV->Prop}(E:Vs)(n:Nd)(ks:List Tm)(h:(V9 [(.pv (.agg [(.int .i64 (Nd.kind n)),(.int .i64 (Nd.line n)),(.str (Str.s (Nd.name n))),(.int .i64 (Nd.num n)),(.str (Str.s (Nd.elem n))),(.sl 1 false (List.map enc (Nd.dims n))),(.sl 1 false (List.map enc (Nd.data n))),(.sl 2 false (List.map enc (Nd.sizes n))),(.sl 1 false (List.map enc (Nd.ranks n))),(.sl 10 false (List.map enc ks))]))] [])=true∧(E 0 ⟨Xn 23 0 [(2,(.ptr 0 0)),(3,(.ptr 1 0)),(4,.undef),(5,.undef),(7,(.fn 116 [] [(.ptr 2 0)])),(8,.undef),(9,.undef),(10,.undef),(11,.undef),(12,.undef),(13,.undef),(14,.undef),(15,.undef),(16,.undef),(17,.undef),(18,.undef),(19,.undef),(20,.undef),(21,.undef),(22,.undef)],[(.obj (.box [(.pv (.bool false))])),(.obj (.box [(.pv (.int .i64 0))])),(.obj (.box [(.pv (.int .i64 (Nd.kind n))),(.pv (.int .i64 (Nd.line n))),(.pv (.str (Str.s (Nd.name n)))),(.pv (.int .i64 (Nd.num n))),(.pv (.str (Str.s (Nd.elem n)))),(.pv (.sl 1 false (List.map enc (Nd.dims n)))),(.pv (.sl 1 false (List.map enc (Nd.data n)))),(.pv (.sl 2 false (List.map enc (Nd.sizes n)))),(.pv (.sl 1 false (List.map enc (Nd.ranks n)))),(.pv (.sl 10 false (List.map enc ks)))]))]⟩ (fun x a=>AfX Dn E 0 (Za DL G) Ak 0 x a))):Y9 Dn E 0 (Za DL G) (.inl Ak) [] (Zx 23 [.agg [enc n.kind,enc n.line,enc n.name,enc n.num,enc n.elem,enc n.dims,enc n.data,enc n.sizes,enc n.ranks,enc ks]]):=Y9.mp (.req (.keep (.nil))) h
theorem f5s{G:PV->Prop}(E:Vs)(n:Nd)(ks:List Tm)(c:Int)(h:G ((.bool true))):AfX Dn E 0 (Za DL G) Ak 0 .normal ⟨Xn 23 0 [(2,.ptr 0 0),(3,.ptr 1 0)],[.obj (.box [.pv (.bool false)]),.obj (.box [.pv (.int .i64 c)])]⟩:=Y9.mp (.nil) h
theorem e4y{G:PV->Prop}(E:Vs)(n:Nd)(ks:List Tm)(c:Int)(rest:List Slot)(h:G ((.bool false))):AfX Dn E 0 (Za DL G) Ak 0 .ret ⟨Xn 23 0 [(2,.ptr 0 0),(3,.ptr 1 0)],(.obj (.box [.pv (.bool false)]):: .obj (.box [.pv (.int .i64 c)])::rest)⟩:=Y9.mp (.nil) h
def Nj:IC:=(Ug [Z6 4 (.alloc (.agg [(.int .i64 0),(.int .i64 0),(.str []),(.int .i64 0),(.str []),(.sl 0 true []),(.sl 0 true []),(.sl 0 true []),(.sl 0 true []),(.sl 0 true [])])) 0,o'' (.store 10 (.t 4) (.t 8)) 1] (.reg [Z6 5 (VC 9) 0] none))
def f3f:ZC:=Yh [(81,.own V9 (Kh 116)),(82,.pure (preT (fun x:Tm×Unit=>tW x.1)) (Zi (fun x:Tm×Unit=>Hm x.1)))]
theorem f6z{G:ZF->Prop}(E:Vs)(n:Nd)(ks:List Tm)(c v:Int)(h:E 99 ⟨Xn 23 0 [(2,(.ptr 0 0)),(3,(.ptr 1 0)),(4,(.ptr 2 0)),(5,(.pv (.int .i64 v)))],[(.obj (.box [(.pv (.bool false))])),(.obj (.box [(.pv (.int .i64 c))])),(.obj (.box [(.pv (.int .i64 (Nd.kind n))),(.pv (.int .i64 (Nd.line n))),(.pv (.str (Str.s (Nd.name n)))),(.pv (.int .i64 (Nd.num n))),(.pv (.str (Str.s (Nd.elem n)))),(.pv (.sl 1 false (List.map enc (Nd.dims n)))),(.pv (.sl 1 false (List.map enc (Nd.data n)))),(.pv (.sl 2 false (List.map enc (Nd.sizes n)))),(.pv (.sl 1 false (List.map enc (Nd.ranks n)))),(.pv (.sl 10 false (List.map enc ks)))]))]⟩ (fun x a=>AfX f3f E 2 (fun st=>G st.heap) Nj 99 x a)):Y9 f3f E 2 (fun st=>G st.heap) (.inl Nj) [.seq (.ext 99 [2,3,4,5])] ⟨Xn 23 0 [(2,.ptr 0 0),(3,.ptr 1 0),(8,.pv (.agg [enc n.kind,enc n.line,enc n.name,enc n.num,enc n.elem,enc n.dims,enc n.data,enc n.sizes,enc n.ranks,enc ks])),(9,.pv (.int .i64 v))],[.obj (.box [.pv (.bool false)]),.obj (.box [.pv (.int .i64 c)])]⟩:=Y9.mh (.nil) h
def P5:IC:=(.block 1 (Ug [Z6 10 (l'' [(.int .i64)] (.t 3)) 0,Z6 11 (Cm .add (.t 10) (WZ 1)) 0,o'' (.store 1 (.t 3) (.t 11)) 0] (Ug [Z6 12 (l'' [(.int .i64)] (.t 3)) 0,Z6 13 (Cm .gtr (.t 12) (WZ 400)) 0,Z6 14 (VC 13) 0,r'' 15 (VC 5) 0 14,r'' 16 (Cm .gtr (.t 15) (WZ 40)) 0 14,Z6 17 (.pick (.t 14) (.c (.bool true)) (.t 16)) 0,Z6 18 (VC 17) 0,r'' 19 (.load true [(.int .i64),(.int .i64),.str,(.int .i64),.str,(.sl 1),(.sl 1),(.sl 2),(.sl 1),(.sl 10)] (.t 4)) 0 18,r'' 20 (c'' 82 [(.t 19)]) 0 18,r'' 21 (.un .not (.t 20)) 2 18,Z6 22 (.pick (.t 18) (.c (.bool true)) (.t 21)) 2] (.cond (.t 22) (Ug [o'' (.store 1 (.t 2) (.c (.bool false))) 0] .ret) .skip))))
def f1b:ZC:=Yh [(81,.own V9 (Kh 116)),(82,.pure (preT (fun x:Tm×Unit=>tW x.1)) (Zi (fun x:Tm×Unit=>Hm x.1)))]
theorem f4y{G:ZF->Prop}(E:Vs)(n:Nd)(ks:List Tm)(c v:Int)(h:if (decide (IntKind.wrap IntKind.i64 (c+1)>400))=true then G ([(.obj (.box [(.pv (.bool false))])),(.obj (.box [(.pv (.int .i64 (IntKind.wrap IntKind.i64 (c+1))))])),(.obj (.box [(.pv (.int .i64 (Nd.kind n))),(.pv (.int .i64 (Nd.line n))),(.pv (.str (Str.s (Nd.name n)))),(.pv (.int .i64 (Nd.num n))),(.pv (.str (Str.s (Nd.elem n)))),(.pv (.sl 1 false (List.map enc (Nd.dims n)))),(.pv (.sl 1 false (List.map enc (Nd.data n)))),(.pv (.sl 2 false (List.map enc (Nd.sizes n)))),(.pv (.sl 1 false (List.map enc (Nd.ranks n)))),(.pv (.sl 10 false (List.map enc ks)))])),.fresh,.fresh])else(if (decide (v>40))=true then G ([(.obj (.box [(.pv (.bool false))])),(.obj (.box [(.pv (.int .i64 (IntKind.wrap IntKind.i64 (c+1))))])),(.obj (.box [(.pv (.int .i64 (Nd.kind n))),(.pv (.int .i64 (Nd.line n))),(.pv (.str (Str.s (Nd.name n)))),(.pv (.int .i64 (Nd.num n))),(.pv (.str (Str.s (Nd.elem n)))),(.pv (.sl 1 false (List.map enc (Nd.dims n)))),(.pv (.sl 1 false (List.map enc (Nd.data n)))),(.pv (.sl 2 false (List.map enc (Nd.sizes n)))),(.pv (.sl 1 false (List.map enc (Nd.ranks n)))),(.pv (.sl 10 false (List.map enc ks)))])),.fresh,.fresh])else((g3b [(.agg [(.int .i64 (Nd.kind n)),(.int .i64 (Nd.line n)),(.str (Str.s (Nd.name n))),(.int .i64 (Nd.num n)),(.str (Str.s (Nd.elem n))),(.sl 1 false (List.map enc (Nd.dims n))),(.sl 1 false (List.map enc (Nd.data n))),(.sl 2 false (List.map enc (Nd.sizes n))),(.sl 1 false (List.map enc (Nd.ranks n))),(.sl 10 false (List.map enc ks))])] fun b=>(if (!b)=true then G ([(.obj (.box [(.pv (.bool false))])),(.obj (.box [(.pv (.int .i64 (IntKind.wrap IntKind.i64 (c+1))))])),(.obj (.box [(.pv (.int .i64 (Nd.kind n))),(.pv (.int .i64 (Nd.line n))),(.pv (.str (Str.s (Nd.name n)))),(.pv (.int .i64 (Nd.num n))),(.pv (.str (Str.s (Nd.elem n)))),(.pv (.sl 1 false (List.map enc (Nd.dims n)))),(.pv (.sl 1 false (List.map enc (Nd.data n)))),(.pv (.sl 2 false (List.map enc (Nd.sizes n)))),(.pv (.sl 1 false (List.map enc (Nd.ranks n)))),(.pv (.sl 10 false (List.map enc ks)))])),.fresh,.fresh])else(E 99 ⟨Xn 23 0 [],[(.obj (.box [(.pv (.bool false))])),(.obj (.box [(.pv (.int .i64 (IntKind.wrap IntKind.i64 (c+1))))])),(.obj (.box [(.pv (.int .i64 (Nd.kind n))),(.pv (.int .i64 (Nd.line n))),(.pv (.str (Str.s (Nd.name n)))),(.pv (.int .i64 (Nd.num n))),(.pv (.str (Str.s (Nd.elem n)))),(.pv (.sl 1 false (List.map enc (Nd.dims n)))),(.pv (.sl 1 false (List.map enc (Nd.data n)))),(.pv (.sl 2 false (List.map enc (Nd.sizes n)))),(.pv (.sl 1 false (List.map enc (Nd.ranks n)))),(.pv (.sl 10 false (List.map enc ks)))]))]⟩ (fun x a=>AfX f1b E 3 (fun st=>G st.heap) P5 99 x a))))))):Y9 f1b E 3 (fun st=>G st.heap) (.inl P5) [.seq (.ext 99 [])] ⟨Xn 23 0 [(2,.ptr 0 0),(3,.ptr 1 0),(4,.ptr 2 0),(5,.pv (.int .i64 v))],[.obj (.box [.pv (.bool false)]),.obj (.box [.pv (.int .i64 c)]),.obj (.box [.pv (enc n.kind),.pv (enc n.line),.pv (enc n.name),.pv (enc n.num),.pv (enc n.elem),.pv (enc n.dims),.pv (enc n.data),.pv (enc n.sizes),.pv (enc n.ranks),.pv (enc ks)])]⟩:=Y9.mh (dm [dv Bool] 38 0x142251202222005422202222222008422) h
end Go.Pl
namespace Go.Pl
open Go.RowKit
open Enc (enc dec is)
open EncL (encL decL isL)
theorem e7w{s:Str}:(s=⟨[]⟩) ↔ s.s=[]:=by cases s;simp
theorem e9j(n:Nd):Xr n 0 0=P7 n:=by
 unfold Xr P7
 cases n.sizes <;> cases n.ranks <;> simp <;> omega
theorem e3d(k:Nat):((k:Int)=1) ↔ k=1:=by omega
theorem e4l(k:Nat):((k:Int)=2) ↔ k=2:=by omega
theorem e4q(k:Nat):((1:Int)<=(k:Int)) ↔ 1<=k:=by omega
theorem c6i(k:Nat):((k:Int)<=16) ↔ k<=16:=by omega
theorem c7q(n:Nd):Xr n 1 0=(decide (n.sizes.length<=1)&&n.sizes.all Zh&&n.ranks.isEmpty):=by
 unfold Xr
 rw[show decide ((n.sizes.length:Int)<=1)=decide (n.sizes.length<=1)from decide_eq_decide.2 (by omega),show decide ((n.ranks.length:Int)<=0)=n.ranks.isEmpty by cases n.ranks <;> simp <;> omega,Bool.and_assoc,Bool.and_assoc,Bool.and_comm n.ranks.isEmpty]
set_option maxHeartbeats 2000000 in
theorem b9p: ∀ x:Tm×Unit,tW x.1=true->Zd Ef 0 (Za Ni (Zf (Hm x.1))) a1z [] (Zx d2a (encL x)):=by
 rintro⟨⟨n,ks⟩,⟨⟩⟩ ht
 rw[<- YQ]
 show Zd Ef 0 (Za Ni (Zf (WC n ks.length))) _ _ _
 have e:decide (n.name.s.length<=1048576)=true:=decide_eq_true (ndB ht).name
 have a:VH (U6 n)=true:=OX ht
 have leaf : ∀ b:Bool,WC n ks.length=b->Zf (WC n ks.length) (.bool b):=fun b h=>Zl h.symm
 refine e5d n ks ?_
 refine ZO (fun h1=>leaf _ ?_) fun h1=>ZO (fun h2=>leaf _ ?_) fun h2=> ?_
 ·unfold WC;rw[decide_eq_false (by omega)];rfl
 ·unfold WC;rw[decide_eq_false (show ¬ n.line<=10000 by omega)];simp
 have g:WC n ks.length=YJ n ks.length:=by
  unfold WC;rw[decide_eq_true (by omega),decide_eq_true (show n.line<=10000 by omega)];simp
 rw[g]at leaf ⊢
 repeat' (first
  | refine Zy (fun h=> ?_) (fun h=> ?_)
  | refine ZO (fun h=> ?_) (fun h=> ?_)
  | refine YV (fun h=> ?_) (fun h=> ?_)
  | refine⟨Zc (n.name,()) rfl e,Zb (n.name,()) rfl ?_⟩
  | refine⟨Zc (.mk n ks,0,0,()) (QJ n ks 0 0) ht,Zb (.mk n ks,0,0,()) (QJ n ks 0 0) ?_⟩
  | refine⟨Zc (.mk n ks,1,0,()) (QJ n ks 1 0) ht,Zb (.mk n ks,1,0,()) (QJ n ks 1 0) ?_⟩
  | refine⟨Zc (.mk n ks,()) (YQ n ks) ht,Zb (.mk n ks,()) (YQ n ks) ?_⟩
  | refine⟨Zc (U6 n,()) rfl a,Zb (U6 n,()) rfl ?_⟩
  | refine leaf _ ?_)
 all_goals clear ht e a leaf g
 all_goals (unfold YJ PU;simp_all[e7w,Tm.nd,Tm.ks,e9j,U6,e3d,e4l,e4q,c6i,c7q])
 intro g
 omega
end Go.Pl
namespace Go.Proofs.YtkpppjbhmmabeaaGreatDoor
open Go.RowKit Go.Pl
open Enc (enc dec is)
open EncL (encL decL isL)
set_option maxRecDepth 100000
def ndC(n:Nd)(ks:List Tm):List PV:=[enc n.kind,enc n.line,enc n.name,enc n.num,enc n.elem,enc n.dims,enc n.data,enc n.sizes,enc n.ranks,enc ks]
abbrev wkT:ZC:=Yh []
def eW(L:List (Nat×AV)):List AV:=Xn 28 0 L
def wk0(n:Nd)(ks:List Tm)(a:Int)(l:Nat):List (Nat×AV):=[(0,.pv (.agg (ndC n ks))),(1,.pv (.int .i64 a)),(2,.yld l)]
def wk1(n:Nd)(ks:List Tm)(a:Int)(l:Nat):List (Nat×AV):=wk0 n ks a l++[(3,.ptr 0 0),(6,.pv (.bool false))]
def wk2(n:Nd)(ks:List Tm)(a:Int)(l:Nat):List (Nat×AV):=wk1 n ks a l++[(9,.yld l),(10,.pv (.agg (ndC n ks))),(11,.pv (.int .i64 a))]
def wk3(n:Nd)(ks:List Tm)(a:Int)(l:Nat)(b:Bool):List (Nat×AV):=wk2 n ks a l++[(12,.pv (.bool b))]
def wk4(n:Nd)(ks:List Tm)(a:Int)(l:Nat)(b:Bool):List (Nat×AV):=wk3 n ks a l b++[(13,.pv (.bool (!b)))]
def wk5(n:Nd)(ks:List Tm)(a:Int)(l:Nat):List (Nat×AV):=wk4 n ks a l true++[(14,.ptr 0 9),(15,.pv (enc ks)),(16,.pv (.int .i64 (ks.map enc).length)),(17,.pv (.int .i64 0))]
def wl0(ks:List Tm)(a:Int)(l:Nat)(i:Int):List (Nat×AV):=[(17,.pv (.int .i64 i)),(16,.pv (.int .i64 (ks.map enc).length)),(15,.pv (enc ks)),(1,.pv (.int .i64 a)),(2,.yld l)]
def wl1(ks:List Tm)(a:Int)(l:Nat)(i:Int):List (Nat×AV):=wl0 ks a l i++[(18,.pv (.bool (decide (i<((ks.map enc).length:Int)))))]
def wl5(ks:List Tm)(a:Int)(l:Nat)(i:Int)(n:Nd)(b:List Tm):List (Nat×AV):=wl1 ks a l i++[(19,.pv (.rptr (ndC n b))),(20,.pv (.agg (ndC n b))),(8,.ptr 0 0)]
def wl6(ks:List Tm)(a:Int)(l:Nat)(i:Int)(n:Nd)(b:List Tm):List (Nat×AV):=wl5 ks a l i n b++[(21,.pv (.agg (ndC n b))),(22,.pv (.int .i64 a)),(23,.pv (.int .i64 (IntKind.i64.wrap (a+1)))),(24,.yld l)]
def wl7(ks:List Tm)(a:Int)(l:Nat)(i:Int)(b:Bool):List (Nat×AV):=wl0 ks a l i++[(25,.pv (.bool b))]
def wl8(ks:List Tm)(a:Int)(l:Nat)(i:Int)(b:Bool):List (Nat×AV):=wl7 ks a l i b++[(26,.pv (.bool (!b)))]
def wl9(ks:List Tm)(a:Int)(l:Nat)(i:Int):List (Nat×AV):=[(27,.pv (.int .i64 (IntKind.i64.wrap (i+1)))),(17,.pv (.int .i64 (IntKind.i64.wrap (i+1)))),(16,.pv (.int .i64 (ks.map enc).length)),(15,.pv (enc ks)),(1,.pv (.int .i64 a)),(2,.yld l)]
def bx(n:Nd)(ks:List Tm):ZF:=[.obj (.box ((ndC n ks).map .pv))]
theorem b1d{T:ZC}{base d L sz:Nat}{env:List AV}{σ:ZF}{x i:IOp}{t:Bool}{xs:List PV}{n:Nat}{k:IntKind}{p:PV}{ps:List PI}(e:ev env x = .pv (.sl sz t xs))(hi:ev env i = .pv (.int k (n:Int)))(b:xs[n]? = some p):
  KS T base (⟨some d,.iaddr sz x i,L,none⟩::ps) ⟨env,σ⟩=KS T base ps ⟨env.set d (.pv (.rptr p.cells)),σ⟩:=by
 have a:n<xs.length:=(List.getElem?_eq_some_iff.1 b).1
 have g:xs[n]=p:=(List.getElem?_eq_some_iff.1 b).2
 have h:(Wm T (base+L) env (.iaddr sz x i)).run σ=some (.pv (.rptr p.cells),σ):=by
  simp only[Wm,XQ,e,hi]
  simp[HM.run,a,g]
 show(Ba T base ⟨some d,.iaddr sz x i,L,none⟩ ⟨env,σ⟩).bind (KS T base ps)=_
 simp only[Ba,Xx,h,Option.map_some,Option.bind_some,YD]
set_option maxHeartbeats 1000000 in
theorem f6t: ∃ (q g m z s A j B u r:Array Oper) (C b1 E D:List Oper) (y c:Oper) (H I:Array TypeId),
  Tryz.f117.body=some ((Code.region 0 q false).seq (((Code.region 1 g false).seq (Code.cond (.tmp 13) ((Code.region 2 m false).seq .ret) .skip)).seq (((Code.region 3 z false).seq (Code.block 0
   (Code.loop ((Code.region 4 s false).seq ((Code.cond (.tmp 18) .skip (.exit 0)).seq ((Code.block 1 ((Code.region 5 A false).seq ((Code.region 6 j false).seq (Code.cond (.tmp 26) ((Code.region 7 B false).seq .ret) .skip)))).seq (Code.region 8 u false))))))).seq ((Code.region 9 r false).seq .ret)))) ∧
  g.toList=C++y::b1∧y.op = .call {callee:=.value (.tmp 9),args:=#[.tmp 10,.tmp 11],argTypes:=H}∧y.guard=none∧y.dst=some 12 ∧
  j.toList=E++c::D∧c.op = .call {callee:=.value (.func 117),args:=#[.tmp 21,.tmp 23,.tmp 24],argTypes:=I}∧c.guard=none∧c.dst=some 25 ∧
  (∀ n ks a l,JG Tryz.prog wkT q q.toList ⟨eW (wk0 n ks a l),[]⟩=some ⟨eW (wk1 n ks a l),bx n ks⟩) ∧
  (∀ n ks a l,JG Tryz.prog wkT g C ⟨eW (wk1 n ks a l),bx n ks⟩=some ⟨eW (wk2 n ks a l),bx n ks⟩) ∧
  (∀ n ks a l b,JG Tryz.prog wkT g b1 ⟨eW (wk3 n ks a l b),bx n ks⟩=some ⟨eW (wk4 n ks a l b),bx n ks⟩) ∧
  (∀ L,JG Tryz.prog wkT m m.toList ⟨eW L,[]⟩=some ⟨(eW L).set 6 (.pv (.bool false)),[]⟩) ∧
  (∀ n ks a l,JG Tryz.prog wkT z z.toList ⟨eW (wk4 n ks a l true),bx n ks⟩=some ⟨eW (wk5 n ks a l),bx n ks⟩) ∧
  (∀ ks a l i,JG Tryz.prog wkT s s.toList ⟨eW (wl0 ks a l i),[]⟩=some ⟨eW (wl1 ks a l i),[]⟩) ∧
  (∀ ks a l (i:Nat) n e,ks[i]? = some (.mk n e)->JG Tryz.prog wkT A A.toList ⟨eW (wl1 ks a l i),[]⟩=some ⟨eW (wl5 ks a l i n e),bx n e⟩) ∧
  (∀ ks a l i n e,JG Tryz.prog wkT j E ⟨eW (wl5 ks a l i n e),bx n e⟩=some ⟨eW (wl6 ks a l i n e),bx n e⟩) ∧
  (∀ ks a l i b,JG Tryz.prog wkT j D ⟨eW (wl7 ks a l i b),[]⟩=some ⟨eW (wl8 ks a l i b),[]⟩) ∧
  (∀ L,JG Tryz.prog wkT B B.toList ⟨eW L,[]⟩=some ⟨(eW L).set 6 (.pv (.bool false)),[]⟩) ∧
  (∀ ks a l i,JG Tryz.prog wkT u u.toList ⟨eW (wl0 ks a l i),[]⟩=some ⟨eW (wl9 ks a l i),[]⟩) ∧
  (∀ L,JG Tryz.prog wkT r r.toList ⟨eW L,[]⟩=some ⟨(eW L).set 6 (.pv (.bool true)),[]⟩):=by
 refine⟨_,_,_,_,_,_,_,_,_,_,[_,_,_],[_],[_,_,_,_],[_],_,_,_,_,rfl,rfl,rfl,rfl,rfl,rfl,rfl,rfl,rfl,?_,?_,?_,?_,?_,?_,?_,?_,?_,?_,?_,?_⟩
 ·intro n ks a l;kernel_rfl
 ·intro n ks a l;kernel_rfl
 ·intro n ks a l b;kernel_rfl
 ·intro L;kernel_rfl
 ·intro n ks a l;kernel_rfl
 ·intro ks a l i;kernel_rfl
 ·intro ks a l i n e h
  unfold JG
  refine(Option.bind_eq_some_iff).2 ⟨_,(show Xf _ _ _ _=some [⟨some 19,.iaddr 10 (.t 15) (.t 17),0,none⟩,⟨some 20,.load true [.int .i64,.int .i64,.str,.int .i64,.str,.sl 1,.sl 1,.sl 2,.sl 1,.sl 10] (.t 19),0,none⟩,⟨some 8,.alloc (.agg [.int .i64 0,.int .i64 0,.str [],.int .i64 0,.str [],.sl 0 true [],.sl 0 true [],.sl 0 true [],.sl 0 true [],.sl 0 true []]),0,none⟩,⟨none,.store 10 (.t 8) (.t 20),1,none⟩] by kernel_rfl),?_⟩
  have F:(ks.map (enc:Tm->PV))[i]? = some (.agg (ndC n e)):=by
   rw[List.getElem?_map,h,Option.map_some,Yl];rfl
  refine(b1d (t:=false) (xs:=ks.map enc) (k:=.i64) (n:=i) rfl rfl F).trans ?_
  kernel_rfl
 ·intro ks a l i n e;kernel_rfl
 ·intro ks a l i b;kernel_rfl
 ·intro L;kernel_rfl
 ·intro ks a l i;kernel_rfl
 ·intro L;kernel_rfl
def encNd(x:Tm×Int):List PV:=[enc x.1,.int .i64 x.2]
def a7p(J:Nat->Z5->(Nat->Prop)->World->Prop)(a:Z5->(Nat->Prop)->World->Prop)(k:Nat)(Φ:Z5)(X:Nat->Prop)(W:World)(e:Ending)(W':World):Prop:=
 ∃ Φ',Φ.le Φ'∧(∀ b,X b->W'.heap[b]? = W.heap[b]?)∧((e = .returned (.bool true)∧J k Φ' X W')∨(e = .returned (.bool false)∧a Φ' X W'))
theorem Ju(a b:List Tm):ZZ (a++b)=ZZ a+ZZ b:=by rw[Cf,Cf,Cf,List.map_append,List.sum_append]
theorem a2y(l:Nat)(a b:List Tm):Z7 l (a++b)=Z7 l a++Z7 l b:=by rw[Jq,Jq,Jq,List.flatMap_append]
theorem b0o{ks:List Tm}{k:Tm}(h:k∈ks):Yb k<=ZZ ks:=by
 induction ks with
 | nil=>cases h
 | cons a ks ih=>
  rw[ZZ]
  rcases List.mem_cons.1 h with rfl|h
  ·omega
  ·have:=ih h;omega
theorem c3l(t:Tm):1<=Yb t:=by cases t;rw[Yb];omega
theorem b2n(ks:List Tm):ks.length<=ZZ ks:=by
 induction ks with
 | nil=>simp
 | cons a ks ih=>have:=c3l a;rw[ZZ,List.length_cons];omega
theorem Bh(n:Nd)(ks:List Tm):a8h (bx n ks):=by
 intro l o h ty sz xs e
 subst e
 match l,h with
 | 0,h=>cases h
 | l+1,h=>simp[bx]at h
theorem KM:a8h []:=by
 intro l o h
 simp at h
theorem JP{Φ:Z5}{W:World}{a:Act}{env:List AV}(g:GlobOK Φ)(b:Vg Φ W)(e:XJ (fun _ _=>none) Φ a.tmps env)(hd:a.defers=[]):Vn (entry (fun _ _=>none) Φ [] W) ⟨env,[]⟩ a W:=⟨_,Φ,JQ g b,e,hd⟩
theorem Ur{μ':Mu}{Φ Φ':Z5}{a:ZF}{W W':World}{X:Nat->Prop}(e:Go.Pl.Good (entry (fun _ _=>none) Φ [] W) μ' Φ' a W')(hs:a8h a)(g : ∀ b,X b->b<W.heap.size∧Φ b=none):
  Go.Pl.Steps X X Φ Φ' W W'∧(∀ b,X b->W'.heap[b]? = W.heap[b]?):=by
 obtain⟨h1,h2,h3⟩:=MN e hs g
 exact⟨h1.drop fun b h=>.inl h,h2⟩
theorem JC{μ:Mu}{Φ:Z5}{a:Act}{env:List AV}{x:Operand}{y:IOp}{b:Bool}(h:XJ μ Φ a.tmps env)(e:YB x=some y)(g:ev env y = .pv (.bool b)):a.eval x = .bool b:=by
 have:=Ya h e
 rw[g]at this
 generalize a.eval x=v at this ⊢
 cases YE this
 rfl
theorem f4g{μ:Mu}{Φ:Z5}{a:Act}{env:List AV}{x:Operand}{y:IOp}{k:IntKind}{n:Int}(h:XJ μ Φ a.tmps env)(b:YB x=some y)(e:ev env y = .pv (.int k n)):a.eval x = .int k n:=by
 have:=Ya h b
 rw[e]at this
 generalize a.eval x=v at this ⊢
 cases YE this
 rfl
theorem b2p{μ:Mu}{Φ:Z5}{a:Act}{env:List AV}{x:Operand}{y:IOp}{l:Nat}(h:XJ μ Φ a.tmps env)(b:YB x=some y)(e:ev env y = .yld l):a.eval x = .func (.yield l) #[] #[]:=by
 have:=Ya h b
 rw[e]at this
 generalize a.eval x=v at this ⊢
 cases this
 rfl
theorem b6k{μ:Mu}{Φ:Z5}{a:Act}{env:List AV}{x:Operand}{y:IOp}{p:PV}(h:XJ μ Φ a.tmps env)(b:YB x=some y)(e:ev env y = .pv p):RP Φ (a.eval x) p:=by
 have:=Ya h b
 rw[e]at this
 exact YE this
theorem f3s{id:Nat}{ops:Array Oper}{b:Bool}{Q:Xi}{a:Act}{w:World}{Φ:Z5}{X:Nat->Prop}{J:Z5->(Nat->Prop)->World->Prop}(g:JOK J)(e:J Φ X w)(hd:a.defers=[])(i:a.tmps.size=28)
  (h : ∀ L,JG Tryz.prog wkT ops ops.toList ⟨eW L,[]⟩=some ⟨(eW L).set 6 (.pv (.bool b)),[]⟩)
  (l : ∀ (a':Act) w' Φ',a'.defers=[]->a'.tmps.getD 6 undef = .bool b->Φ.le Φ'->(∀ b,X b->w'.heap[b]? = w.heap[b]?)->J Φ' X w'->Q .ret a' w'):((Code.region id ops false).seq .ret).wpIn (Y4 none) 4 Tryz.prog Q a w:=by
 refine wpIn_seq (Aj Ze (h []) (JP (g.glob e) (g.phi e) (EM (L:=[]) (n:=28) i (fun p k=>by cases k)) hd) ?_)
 rintro a' w' ⟨μ',Φ',hg,he,hd'⟩
 refine wpIn_ret ?_
 obtain⟨j,m⟩:=Ur hg KM (fun b hb=>g.out e hb)
 exact l a' w' Φ' hd' (JC (x:=.tmp 6) (y:=.t 6) he rfl (by cases b <;> kernel_rfl)) hg.Φle m (g.step e j)
theorem g2x{Φ:Z5}{v:Value}{n:Nd}{ks:List Tm}{a:Nat}{l:Nat}(e:RP Φ v (.agg (ndC n ks))):XJ (fun _ _=>none) Φ (#[v,.int .i64 a,.func (.yield l) #[] #[]]++Array.replicate 25 undef) (eW (wk0 n ks a l)):=by
 refine EM (by simp) ?_
 intro q b u hu
 simp only[wk0,List.mem_cons,List.not_mem_nil,or_false]at b
 rcases b with rfl|rfl|rfl
 ·simp[Array.getElem?_append]at hu
  subst hu
  exact .pv _ _ e
 ·simp[Array.getElem?_append]at hu
  subst hu
  exact .pv _ _ (.int _ _)
 ·simp[Array.getElem?_append]at hu
  subst hu
  exact .yld l
theorem b3n{μ:Mu}{Φ:Z5}{t:Array Value}{L:List (Nat×AV)}(h:XJ μ Φ t (eW L)):t.size=28:=(c8f (n:=28) h).1
set_option maxHeartbeats 4000000 in
theorem e6w{l:Nat}{J:Nat->Z5->(Nat->Prop)->World->Prop}{Jx:Z5->(Nat->Prop)->World->Prop}{xs:List (Tm×Int)}(r : ∀ k,JOK (J k))(s:JOK Jx)(hY:b6h Tryz.prog l encNd xs J Jx):
  ∀ (m:Nat) (t:Tm),SizeOf.sizeOf t<m-> ∀ (g k:Nat) (Φ:Z5) (X:Nat->Prop) (W:World) (v:Value),J k Φ X W->RP Φ v (enc t)->(∀ i x,(Yg g t)[i]? = some x->xs[k+i]? = some x)->g+Yb t<=4611686018427387904 ->
   Calls Tryz.prog 117 #[v,.int .i64 g,.func (.yield l) #[] #[]] W (a7p J Jx (k+Yb t) Φ X W):=by
 intro m
 induction m with
 | zero=>intro t h;omega
 | succ m ih=>
  intro t ht g k Φ X W v P hv hx hlev
  obtain⟨n,ks⟩:=t
  obtain⟨o0,o1,o2,o3,o4,o5,o6,o7,o8,o9,a1,b1,a6,b6,y,c,t1,t2,hbody,e1,y1,y2,y3,e6,c1,c2,c3,h0,h1,h1b,h2,h3,h4,h5,h6,h6b,h7,h8,h9⟩:=f6t
  rw[Yl]at hv
  refine callsIn_wide.1 (callsIn_of_wp (F:=Fence.wide) (n:=4) Tryz.func117 hbody trivial ?_ rfl)
  have hE0:XJ (fun _ _=>none) Φ (#[v,.int .i64 g,.func (.yield l) #[] #[]]++Array.replicate 25 undef) (eW (wk0 n ks g l)):=g2x hv
  have hX0 : ∀ b,X b->b<W.heap.size∧Φ b=none:=fun b hb=>(r k).out P hb
  refine wpIn_seq (Aj (nn:=4) Ze (h0 n ks g l) (JP ((r k).glob P) ((r k).phi P) hE0 rfl) ?_)
  intro a w hr
  refine wpIn_seq (wpIn_seq (wpIn_region_list ?_))
  rw[e1]
  refine DR Ze (fun o ho=>by rw[e1];simp[ho]) (h1 n ks g l) hr ?_
  rintro a2 w2 ⟨μ2,Φ2,hg2,he2,hd2⟩
  obtain⟨s2,k2,n2⟩:=MN hg2 (Bh n ks) hX0
  have hj2:=(r k).step P s2
  have hx0:xs[k]? = some (.mk n ks,(g:Int)):=hx 0 _ (by rw[Yg];rfl)
  have r10:RP Φ2 (a2.eval (.tmp 10)) (enc (Tm.mk n ks)):=by
   rw[Yl]
   exact b6k he2 (y:=.t 10) rfl (by kernel_rfl)
  have r11:RP Φ2 (a2.eval (.tmp 11)) (.int .i64 g):=b6k he2 (y:=.t 11) rfl (by kernel_rfl)
  have hvs:WP Φ2 (#[a2.eval (.tmp 10),a2.eval (.tmp 11)]:Array Value).toList (encNd (.mk n ks,(g:Int))):=f7c r10 (f7c r11 b7l)
  refine e0y y1 y2 y3 (b2p he2 (y:=.t 9) rfl (by kernel_rfl)) (vs:=#[a2.eval (.tmp 10),a2.eval (.tmp 11)]) (by simp) (hY 3 k _ Φ2 _ w2 _ hx0 hj2 hvs) ?_
  rintro e w3 ⟨Φ3,hle3,hkeep3,hres⟩
  -- I answers
  have I : ∀ (b:Bool) (JJ:Z5->(Nat->Prop)->World->Prop),JOK JJ->JJ Φ3 (fun b=>X b∨Av μ2 (bx n ks) b) w3-> 
    Vn (entry μ2 Φ3 (bx n ks) w3) ⟨eW (wk3 n ks g l b),bx n ks⟩ (a2.put (some 12) (.bool b)) w3:=by
   intro b JJ hJJ hjj
   refine⟨μ2,Φ3,hg2.moved (hJJ.glob hjj) hle3 (hJJ.phi hjj) (fun q hq=>hkeep3 q (.inr hq)) (fun q hq=>(hJJ.out hjj (.inr hq)).2) (Bh n ks),?_,by rw[WL];exact hd2⟩
   have:=JO (d:=some 12) (he2.mono (.refl _) hle3) (.pv _ _ (.bool b))
   exact this
  have fin : ∀ (b:Bool) (a':Act) (w':World) (Φ':Z5),a'.defers=[]->a'.tmps.getD 6 undef = .bool b->(a7p J Jx (k+Yb (.mk n ks)) Φ X W (.returned (.bool b)) w')->bodyPost Tryz.prog Tryz.f117 (a7p J Jx (k+Yb (.mk n ks)) Φ X W) .ret a' w':=by
   intro b a' w' Φ' hd h6 K
   refine bodyPost_ret (results_tmp rfl _ _ _) hd ?_
   rw[h6]
   exact K
  rcases hres with ⟨rfl,D⟩|⟨rfl,D⟩
  ·refine⟨_,rfl,?_⟩
   rw[<- List.append_nil b1]
   refine DR Ze (fun o ho=>by rw[e1];simp[ho]) (h1b n ks g l true) (I true _ (r _) D) ?_
   intro a4 w4 hr4
   have C:=hr4
   obtain⟨μ4,Φ4,hg4,C,hd4⟩:=C
   refine wpIn_cond (t:=false) (JC (x:=.tmp 13) (y:=.t 13) C rfl (by kernel_rfl)) (wpIn_skip ?_)
   refine wpIn_seq (wpIn_seq (Aj (nn:=4) Ze (h3 n ks g l) hr4 ?_))
   rintro a5 w5 ⟨μ5,Φ5,hg5,he5,hd5⟩
   have hX3 : ∀ b,X b->b<w3.heap.size∧Φ3 b=none:=fun b hb=>(r _).out D (.inl hb)
   obtain⟨s5,k5⟩:=AR hg5 (Bh n ks) hX3 n2
   have hj5:=(r _).step D (s5.drop (Y:=X) fun b h=>.inl h)
   have hk5 : ∀ b,X b->w5.heap[b]? = W.heap[b]? :=fun b hb=>(k5 b hb).trans ((hkeep3 b (.inl hb)).trans (k2 b hb))
   have Z:Φ.le Φ5:=hg2.Φle.trans (hle3.trans hg5.Φle)
   have V:XJ (fun _ _=>none) Φ5 a5.tmps (eW (wl0 ks g l 0)):=f0c (n:=28) he5 (.refl _) (by
    intro p K
    simp only[wl0,List.mem_cons,List.not_mem_nil,or_false]at K
    rcases K with rfl|rfl|rfl|rfl|rfl <;> exact⟨by simp,rfl,rfl⟩)
   clear I hr4 hg4 C hd4 hE0 hr hg2 he2 hd2 r10 r11 hvs
   refine wpIn_block (wpIn_loop_ghost (fun(z:Nat) (a:Act) (w:World)=> ∃ (i:Nat) (Φ':Z5),z=ks.length - i∧i<=ks.length∧Φ.le Φ'∧(∀ b,X b->w.heap[b]? = W.heap[b]?)∧J (k+1+ZZ (ks.take i)) Φ' X w∧XJ (fun _ _=>none) Φ' a.tmps (eW (wl0 ks g l i))∧a.defers=[]) _
    ⟨0,Φ5,rfl,Nat.zero_le _,Z,hk5,hj5,V,hd5⟩ ?_)
   clear hj5 hk5 Z V hd5 s5 k5 hg5 he5
   rintro z a w ⟨i,Φi,rfl,hi,hle,hk,P,he,hd⟩
   have hXi : ∀ b,X b->b<w.heap.size∧Φi b=none:=fun b hb=>(r _).out P hb
   refine wpIn_seq (Aj (nn:=4) Ze (h4 ks g l i) (JP ((r _).glob P) ((r _).phi P) he hd) ?_)
   intro a7 w7 hr7
   have hr7':=hr7
   obtain⟨μ7,Φ7,hg7,he7,hd7⟩:=hr7'
   by_cases hlt:i<ks.length
   ·have hb:decide ((i:Int)<((ks.map (enc:Tm->PV)).length:Int))=true:=by simpa using hlt
    refine wpIn_seq (wpIn_cond (t:=true) (JC (x:=.tmp 18) (y:=.t 18) he7 rfl (by rw[<- hb];kernel_rfl)) (wpIn_skip ?_))
    obtain⟨E,H,Q⟩ : ∃ E H,ks[i]? = some (.mk E H):=by
     cases hki:ks[i]with
     | mk E H=>exact⟨E,H,by rw[List.getElem?_eq_getElem hlt,hki]⟩
    refine wpIn_seq (wpIn_block (wpIn_seq (Aj (nn:=4) Ze (h5 ks g l i E H Q) hr7 ?_)))
    intro a8 w8 hr8
    refine wpIn_seq (wpIn_region_list ?_)
    rw[e6]
    refine DR Ze (fun o ho=>by rw[e6];simp[ho]) (h6 ks g l i E H) hr8 ?_
    rintro a9 w9 ⟨μ9,Φ9,hg9,he9,hd9⟩
    obtain⟨s9,k9⟩:=Ur hg9 (Bh E H) hXi
    have hj9:=(r _).step P s9
    have T:Tm.mk E H∈ks:=List.mem_of_getElem? Q
    have hsz:=f6x (n:=n) T
    have hdm:=b0o T
    have hdp:Yb (.mk n ks)=ZZ ks+1:=by rw[Yb]
    have hkl:=b2n ks
    have S:ks=ks.take i++(.mk E H)::ks.drop (i+1):=by
     have h:=List.getElem?_eq_some_iff.1 Q
     obtain⟨h1,h2⟩:=h
     rw[<- h2,List.getElem_cons_drop,List.take_append_drop]
    have r21:RP Φ9 (a9.eval (.tmp 21)) (enc (Tm.mk E H)):=by
     rw[Yl]
     exact b6k he9 (y:=.t 21) rfl (by kernel_rfl)
    have e23:a9.eval (.tmp 23) = .int .i64 ((g+1:Nat):Int):=by
     have:=f4g (x:=.tmp 23) (y:=.t 23) he9 rfl (by kernel_rfl:_=AV.pv (.int .i64 (IntKind.i64.wrap ((g:Int)+1))))
     rw[this,next (by omega)]
    have e24:a9.eval (.tmp 24) = .func (.yield l) #[] #[]:=b2p he9 (y:=.t 24) rfl (by kernel_rfl)
    have hxk : ∀ j x,(Yg (g+1) (.mk E H))[j]? = some x->xs[k+1+ZZ (ks.take i)+j]? = some x:=by
     intro j x hjx
     have:(Yg g (.mk n ks))[1+ZZ (ks.take i)+j]? = some x:=by
      rw[Yg,show 1+ZZ (ks.take i)+j=(ZZ (ks.take i)+j)+1 by omega,List.getElem?_cons_succ,S,a2y,Z7,<- S,<- DI (g+1) (ks.take i),
       List.getElem?_append_right (by omega),Nat.add_sub_cancel_left,List.getElem?_append_left (List.getElem?_eq_some_iff.1 hjx).1,hjx]
     have:=hx _ _ this
     rw[<- this]
     congr 1
     omega
    have hcall:=ih (.mk E H) (by omega) (g+1) (k+1+ZZ (ks.take i)) Φ9 X w9 _ hj9 r21 hxk (by omega)
    refine a3i c1 c2 c3 Tryz.func117 rfl (by kernel_rfl) (vs:=#[a9.eval (.tmp 21),.int .i64 ((g+1:Nat):Int),.func (.yield l) #[] #[]]) (by simp only[List.map_toArray,List.map_cons,List.map_nil,e23,e24]) hcall ?_
    rintro e w10 ⟨Φ10,hle10,hkeep10,hres⟩
    have hks : ∀ b,X b->w10.heap[b]? = W.heap[b]? :=fun b hb=>(hkeep10 b hb).trans ((k9 b hb).trans (hk b hb))
    have U : ∀ b,XJ (fun _ _=>none) Φ10 (a9.put (some 25) (.bool b)).tmps (eW (wl7 ks g l i b)):=by
     intro b
     have h:=JO (d:=some 25) (he9.mono (.refl _) hle10) (.pv _ _ (.bool b))
     refine f0c (n:=28) (L:=wl6 ks g l i E H++[(25,.pv (.bool b))]) h (.refl _) ?_
     intro p K
     simp only[wl7,wl0,List.mem_cons,List.mem_append,List.not_mem_nil,or_false]at K
     rcases K with (rfl|rfl|rfl|rfl|rfl)|rfl <;> exact⟨by simp,rfl,rfl⟩
    have hsz10:ks.take (i+1)=ks.take i++[.mk E H]:=by rw[List.take_add_one,Q];rfl
    rcases hres with ⟨rfl,u⟩|⟨rfl,u⟩
    ·refine⟨_,rfl,?_⟩
     rw[<- List.append_nil b6]
     refine DR Ze (fun o ho=>by rw[e6];simp[ho]) (h6b ks g l i true) (JP ((r _).glob u) ((r _).phi u) (U true) (by rw[WL];exact hd9)) ?_
     intro a11 w11 hr11
     obtain⟨μ11,Φ11,hg11,he11,hd11⟩:=hr11
     obtain⟨s11,k11⟩:=Ur hg11 KM (fun b hb=>(r _).out u hb)
     have A:=(r _).step u s11
     refine wpIn_cond (t:=false) (JC (x:=.tmp 26) (y:=.t 26) he11 rfl (by kernel_rfl)) (wpIn_skip ?_)
     have he11':XJ (fun _ _=>none) Φ11 a11.tmps (eW (wl0 ks g l i)):=f0c (n:=28) he11 (.refl _) (by
      intro p K
      simp only[wl0,List.mem_cons,List.not_mem_nil,or_false]at K
      rcases K with rfl|rfl|rfl|rfl|rfl <;> exact⟨by simp,rfl,rfl⟩)
     refine Aj (nn:=4) Ze (h8 ks g l i) (JP ((r _).glob A) ((r _).phi A) he11' hd11) ?_
     rintro a12 w12 ⟨μ12,Φ12,hg12,he12,hd12⟩
     obtain⟨s12,k12⟩:=Ur hg12 KM (fun b hb=>(r _).out A hb)
     have hj12:=(r _).step A s12
     refine⟨ks.length - (i+1),by omega,i+1,Φ12,rfl,hlt,hle.trans (hg9.Φle.trans (hle10.trans (hg11.Φle.trans hg12.Φle))),fun b hb=>(k12 b hb).trans ((k11 b hb).trans (hks b hb)),?_,?_,hd12⟩
     ·rw[hsz10,Ju,ZZ,ZZ,Nat.add_zero,<- Nat.add_assoc]
      exact hj12
     ·refine f0c (n:=28) he12 (.refl _) ?_
      intro p K
      simp only[wl0,List.mem_cons,List.not_mem_nil,or_false]at K
      rcases K with rfl|rfl|rfl|rfl|rfl
      ·exact⟨by simp,by rw[<- next (show i<9223372036854775807 by omega)];rfl,rfl⟩
      all_goals exact⟨by simp,rfl,rfl⟩
    ·refine⟨_,rfl,?_⟩
     rw[<- List.append_nil b6]
     refine DR Ze (fun o ho=>by rw[e6];simp[ho]) (h6b ks g l i false) (JP (s.glob u) (s.phi u) (U false) (by rw[WL];exact hd9)) ?_
     rintro a11 w11 ⟨μ11,Φ11,hg11,he11,hd11⟩
     obtain⟨s11,k11⟩:=Ur hg11 KM (fun b hb=>s.out u hb)
     have A:=s.step u s11
     refine wpIn_cond (t:=true) (JC (x:=.tmp 26) (y:=.t 26) he11 rfl (by kernel_rfl)) ?_
     refine f3s s A hd11 (b3n he11) h7 ?_
     intro a' w' Φ' hd' M B N O
     refine fin false a' w' Φ' hd' M ⟨Φ',?_,fun b hb=>(N b hb).trans ((k11 b hb).trans (hks b hb)),.inr ⟨rfl,O⟩⟩
     exact hle.trans (hg9.Φle.trans (hle10.trans (hg11.Φle.trans B)))
   ·have hb:decide ((i:Int)<((ks.map (enc:Tm->PV)).length:Int))=false:=by simpa using hlt
    refine wpIn_seq (wpIn_cond (t:=false) (JC (x:=.tmp 18) (y:=.t 18) he7 rfl (by rw[<- hb];kernel_rfl)) (wpIn_exit ?_))
    obtain⟨s7,k7⟩:=Ur hg7 KM hXi
    have hj7:=(r _).step P s7
    have hii:i=ks.length:=by omega
    subst hii
    rw[List.take_length]at hj7
    show((Code.region 9 o9 false).seq .ret).wpIn _ _ _ _ _ _
    refine f3s (r _) hj7 hd7 (b3n he7) h9 ?_
    intro a' w' Φ' hd' M B N O
    refine fin true a' w' Φ' hd' M ⟨Φ',hle.trans (hg7.Φle.trans B),fun b hb=>(N b hb).trans ((k7 b hb).trans (hk b hb)),.inl ⟨rfl,?_⟩⟩
    rw[Yb,show k+(ZZ ks+1)=k+1+ZZ ks by omega]
    exact O
  ·refine⟨_,rfl,?_⟩
   rw[<- List.append_nil b1]
   refine DR Ze (fun o ho=>by rw[e1];simp[ho]) (h1b n ks g l false) (I false _ s D) ?_
   rintro a4 w4 ⟨μ4,Φ4,hg4,C,hd4⟩
   refine wpIn_cond (t:=true) (JC (x:=.tmp 13) (y:=.t 13) C rfl (by kernel_rfl)) ?_
   obtain⟨s4,k4⟩:=AR hg4 (Bh n ks) (fun b hb=>s.out D (.inl hb)) n2
   have hj4:=s.step D (s4.drop (Y:=X) fun b h=>.inl h)
   refine f3s s hj4 hd4 (b3n C) h2 ?_
   intro a' w' Φ' hd' M B N O
   exact fin false a' w' Φ' hd' M ⟨Φ',hg2.Φle.trans (hle3.trans (hg4.Φle.trans B)),fun b hb=>(N b hb).trans ((k4 b hb).trans ((hkeep3 b (.inl hb)).trans (k2 b hb))),.inr ⟨rfl,O⟩⟩
def g1j(a:List (List PV)):Tm:=match a with
 | [ps]=>dec (.agg ps)
 | _=>.mk nd0 []
def pre_ndI(a:List (List PV)):Bool:=match a with
 | [ps]=>can Tm (.agg ps)&&decide (Yb (dec (.agg ps))<=1048576)
 | _=>false
def F_ndI(a:List (List PV)):List (Tm×Int):=Yg 1 (g1j a)
theorem tmOf_nd(n:Nd)(ks:List Tm):g1j [ndC n ks] = .mk n ks:=by
 show dec (PV.agg (ndC n ks))=_
 rw[show(PV.agg (ndC n ks))=enc (Tm.mk n ks)from(Yl n ks).symm,Enc.dec_enc]
theorem pre_nd{n:Nd}{ks:List Tm}(h:Yb (.mk n ks)<=1048576):pre_ndI [ndC n ks]=true:=by
 show(can Tm (.agg (ndC n ks))&&decide (Yb (dec (PV.agg (ndC n ks)))<=1048576))=true
 rw[show(PV.agg (ndC n ks))=enc (Tm.mk n ks)from(Yl n ks).symm,Enc.dec_enc,Ri,Bool.true_and]
 exact decide_eq_true h
theorem f7v: ∃ (o:Array Oper) (a:List Oper) (c:Oper) (t:Array TypeId),Tryz.f116.body=some (.region 0 o false)∧o.toList=a++[c] ∧
  c.op = .call {callee:=.value (.func 117),args:=#[.tmp 3,.const (.int .i64 1),.tmp 4],argTypes:=t}∧c.guard=none∧c.dst=some 5 ∧
  ∀ n ks l,JG Tryz.prog wkT o a ⟨Xn 6 0 [(0,.yld l),(1,.pv (.rptr (ndC n ks)))],[]⟩=some ⟨Xn 6 0 [(0,.yld l),(1,.pv (.rptr (ndC n ks))),(3,.pv (.agg (ndC n ks))),(4,.yld l)],[]⟩:=by
 refine⟨_,[_,_],_,_,rfl,rfl,rfl,rfl,rfl,?_⟩
 intro n ks l
 kernel_rfl
set_option maxHeartbeats 1000000 in
theorem a1u:c6g Tryz.prog 116 encNd pre_ndI F_ndI:=by
 refine⟨⟨_,Tryz.func116,rfl,rfl⟩,?_⟩
 intro pss g Φ0 H l J L W k j m K E
 unfold pre_ndI at g
 split at g
 ·rename_i ps
  simp only[Bool.and_eq_true,decide_eq_true_eq]at g
  obtain⟨hc,B⟩:=g
  obtain⟨t,ht⟩:=a9o hc
  obtain⟨n,ks⟩:=t
  rw[ht,Enc.dec_enc]at B
  rw[Yl]at ht
  obtain rfl:ps=ndC n ks:=by injection ht
  have V:F_ndI [ndC n ks]=Yg 1 (.mk n ks):=by unfold F_ndI;rw[tmOf_nd]
  rw[V]at K ⊢
  obtain⟨H⟩:=H
  match H,k.1 with
  | [p1],_=>
   obtain⟨B1,O,rfl,g1,Q,o1⟩:=k.2 0 p1 _ rfl rfl
   have k1:=c5i g1 Q o1
   obtain⟨o,a,c,t,s,N,O,S,Y,D⟩:=f7v
   refine callsIn_wide.1 (callsIn_of_wp (F:=Fence.wide) (n:=4) Tryz.func116 s trivial ?_ rfl)
   have hE:XJ (fun _ _=>none) Φ0 ((#[Value.func (.yield l) #[] #[]]++ #[Value.pointer (some ⟨B1,0,none⟩)])++Array.replicate 4 undef) (Xn 6 0 [(0,.yld l),(1,.pv (.rptr (ndC n ks)))]):=by
    refine EM (by simp) ?_
    intro q M u hu
    simp only[List.mem_cons,List.not_mem_nil,or_false]at M
    rcases M with rfl|rfl
    ·simp[Array.getElem?_append]at hu
     subst hu
     exact .yld l
    ·simp[Array.getElem?_append]at hu
     subst hu
     exact .pv _ _ k1
   refine wpIn_region_list ?_
   rw[N]
   refine DR (nn:=4) Ze (fun x P=>by rw[N];simp[P]) (D n ks l) (JP ((j 0).glob E) ((j 0).phi E) hE rfl) ?_
   rintro A w2 ⟨μ2,Φ2,hg2,he2,hd2⟩
   obtain⟨U,k2⟩:=Ur (X:=fun _=>False) hg2 KM (fun b hb=>hb.elim)
   have C:=(j _).step E U
   have r3:RP Φ2 (A.eval (.tmp 3)) (enc (Tm.mk n ks)):=by
    rw[Yl]
    exact b6k he2 (y:=.t 3) rfl (by kernel_rfl)
   have Z:A.eval (.tmp 4) = .func (.yield l) #[] #[]:=b2p he2 (y:=.t 4) rfl (by kernel_rfl)
   have r:=e6w j m K (SizeOf.sizeOf (Tm.mk n ks)+1) (.mk n ks) (Nat.lt_succ_self _) 1 0 Φ2 _ w2 _ C r3 (fun i x h=>by rw[Nat.zero_add];exact h) (by omega)
   refine a3i O S Y Tryz.func117 rfl (by kernel_rfl) (vs:=#[A.eval (.tmp 3),.int .i64 ((1:Nat):Int),.func (.yield l) #[] #[]]) (by simp only[List.map_toArray,List.map_cons,List.map_nil,Z];rfl) r ?_
   rintro e I ⟨Φ3,hle3,hkeep3,hres⟩
   have fin : ∀ v,(∃ Φ' X',J (Yg 1 (.mk n ks)).length Φ' X' I∨L Φ' X' I)->wpListIn (Y4 none) 4 Tryz.prog o (bodyPost Tryz.prog Tryz.f116 fun e W'=>(∃ v,e = .returned v)∧ ∃ Φ' X',(J (Yg 1 (.mk n ks)).length Φ' X' W'∨L Φ' X' W')) [] (A.put (some 5) v) I:=by
    intro v T
    exact⟨by rw[WL];exact hd2,_,results_none rfl _ _ _,⟨_,rfl⟩,T⟩
   rcases hres with ⟨rfl,z⟩|⟨rfl,z⟩
   ·refine⟨_,rfl,fin _ ⟨Φ3,fun _=>False,.inl ?_⟩⟩
    rw[KL,<- Nat.zero_add (Yb _)]
    exact z
   ·exact⟨_,rfl,fin _ ⟨Φ3,_,.inr z⟩⟩
 ·cases g
end Go.Proofs.YtkpppjbhmmabeaaGreatDoor
namespace Go.Pl
open Go.RowKit
open Enc (enc dec is)
open EncL (encL decL isL)
open Go.Proofs.YtkpppjbhmmabeaaGreatDoor (ndC encNd pre_ndI F_ndI tmOf_nd pre_nd)
theorem d3f: ∀ args os,V9 args os=true->Zd a7o os.length (Xw os.length OU fun r=>r=Kh 116 args os) Ow [] (U7 e7x args os):=by
 intro args os h
 unfold V9 at h
 split at h
 ·obtain⟨⟨n,ks⟩,rfl⟩:=a9o h
  rw[Yl]
  exact f6h n ks rfl
 ·cases h
def tvI(t:Tm)(k:Nat)(σ:ZF):Prop:=(∀ j p,j<k->(Yg 1 t)[j]? = some p->okN j p=true)∧k<=400∧σ=[.obj (.box [.pv (.bool false)]),.obj (.box [.pv (.int .i64 k)])]
def tvX(t:Tm)(σ:ZF):Prop:=Y7 t=false∧ ∃ (c:Int) (r:List Slot),σ = .obj (.box [.pv (.bool false)]):: .obj (.box [.pv (.int .i64 c)])::r
def tvE:Vs:=fun n st q=>n=0∧a8i Dn 0 (.t 7) 116 [8,9] Nj P5 encNd pre_ndI F_ndI st q
def tvM(t:Tm)(k:Nat)(x:Tm×Int)(st:St):Prop:=(∀ j p,j<k->(Yg 1 t)[j]? = some p->okN j p=true)∧k<=400 ∧
 st=⟨Xn 23 0 [(2,.ptr 0 0),(3,.ptr 1 0),(4,.ptr 2 0),(5,.pv (.int .i64 x.2))],[.obj (.box [.pv (.bool false)]),.obj (.box [.pv (.int .i64 k)]),.obj (.box ((ndC x.1.nd x.1.ks).map .pv))]⟩
theorem e8a: ∀ x:Tm×Unit,tW x.1=true->Dw Dn tvE 0 (Za DL (Zf (Y7 x.1))) Ak [] (Zx f6l (encL x)):=by
 rintro⟨t,⟨⟩⟩ ht
 have ht:tW t=true:=ht
 obtain⟨n,ks⟩:=t
 rw[<- YQ]
 show Dw Dn tvE 0 (Za DL (Zf (Y7 (.mk n ks)))) _ _ _
 have q:Yb (.mk n ks)<=1048576:=Nat.le_trans (Bd _) (of_decide_eq_true ht)
 have z:F_ndI [ndC n ks]=Yg 1 (.mk n ks):=by unfold F_ndI;rw[tmOf_nd]
 refine g2v tvE n ks ⟨?_,rfl,[2],[ndC n ks],[2,3],[2,3,4,5],[],⟨Xn 23 0 [(2,.ptr 0 0),(3,.ptr 1 0)],[.obj (.box [.pv (.bool false)]),.obj (.box [.pv (.int .i64 0)])]⟩,tvI (.mk n ks),tvX (.mk n ks),tvM (.mk n ks),
  rfl,by simp,rfl,?_,by kernel_rfl,pre_nd q,⟨fun j p m=>by omega,by omega,rfl⟩,?_,?_,?_,?_⟩
 ·show can Tm (PV.agg (ndC n ks))=true
  rw[show(PV.agg (ndC n ks))=enc (Tm.mk n ks)from(Yl n ks).symm,Ri]
 ·intro j l ps y hps
  match j with
  | 0=>cases y;cases hps;rfl
  | j+1=>simp at y
 ·rintro k ⟨⟨g,b⟩,v⟩ σ hx ⟨a,u,rfl⟩
  have e:R5 [8,9] ((encNd (.mk g b,v)).map .pv) (Xn 23 0 [(2,.ptr 0 0),(3,.ptr 1 0)])=Xn 23 0 [(2,.ptr 0 0),(3,.ptr 1 0),(8,.pv (.agg (ndC g b))),(9,.pv (.int .i64 v))]:=by
   show R5 [8,9] (([enc (Tm.mk g b),.int .i64 v]).map .pv) _=_
   rw[Yl]
   kernel_rfl
  rw[e]
  exact f6z (G:=fun _=>False) _ g b k v ⟨rfl,a,u,rfl⟩
 ·rintro k ⟨⟨g,b⟩,v⟩ st hx ⟨a,u,rfl⟩
  rw[z]at hx
  have s:=fun h=>c7v (.mk n ks) hx h
  have A:IntKind.i64.wrap ((k:Int)+1)=((k+1:Nat):Int):=next (by omega)
  refine f4y (G:=tvX (.mk n ks)) _ g b k v ?_
  rw[A]
  have bad:okN k (.mk g b,v)=false-> ∀ r,tvX (.mk n ks) (.obj (.box [.pv (.bool false)]):: .obj (.box [.pv (.int .i64 ((k+1:Nat):Int))])::r):=fun h r=>⟨s h,_,r,rfl⟩
  refine ZO (fun h1=>bad ?_ _) fun h1=>ZO (fun h2=>bad ?_ _) fun h2=>⟨Zc (.mk g b,()) (YQ g b) (Cr ht (List.mem_of_getElem? hx)),Zb (.mk g b,()) (YQ g b) (YY (fun h3=>bad ?_ _) fun h3=>⟨rfl,⟨Xn 23 0 [(2,.ptr 0 0),(3,.ptr 1 0)],[.obj (.box [.pv (.bool false)]),.obj (.box [.pv (.int .i64 ((k+1:Nat):Int))])]⟩,by kernel_rfl,rfl,?_,?_,rfl⟩)⟩
  ·unfold okN;rw[decide_eq_false (show ¬ k<400 by omega)];rfl
  ·unfold okN;rw[decide_eq_false (show ¬ v<=40 by omega),Bool.and_false];rfl
  ·have h3:Hm (.mk g b)=false:=h3
   unfold okN;rw[h3,Bool.and_false]
  ·have h3:Hm (.mk g b)=true:=h3
   intro j p m i
   rw[Nat.lt_succ_iff_lt_or_eq]at m
   rcases m with m|rfl
   ·exact a j p m i
   ·rw[hx]at i
    cases i
    unfold okN
    rw[h3,decide_eq_true (show j<400 by omega),decide_eq_true (show v<=40 by omega)];rfl
  ·omega
 ·rintro σ ⟨a,u,rfl⟩
  refine f5s tvE n ks _ (Zl (c3j _ fun j p i=>a j p ?_ i).symm)
  rw[z]
  exact(List.getElem?_eq_some_iff.1 i).1
 ·rintro σ ⟨B,c,r,rfl⟩
  exact e4y tvE n ks c r (Zl B.symm)
theorem e9v: ∀ args os,Gc args os=true->Zd e1u os.length (Xw os.length a7x fun r=>r=CS 124 args os) b2x [] (U7 f6u args os):=by
 intro args os h
 unfold Gc at h
 split at h
 ·exact g1p _ rfl
 ·cases h
def tdH(m:List Str)(n:Nd)(ks:List Tm):ZF:=[.obj (.box [.map 1]),.obj (.map (Hr m)),.obj (.box ((ndC n ks).map .pv))]
def tdN(N:ZF->Prop):Vs:=fun n a _=>n=99∧N a.heap
theorem c2t{N G:ZF->Prop}(n:Nd)(ks:List Tm)(i:Int)(l:Lin)(hl:l.t.length<=1048576): ∀ (d j:Nat) (m:List Str),d+j=l.t.length ->
  AtS [.seq (.ext 99 [])] J4 (tdN N) 3 (fun st=>G st.heap) Vr 0 36 [(3,.ptr 0 0),(15,.pv (enc n.sizes)),(16,.pv (.int .i64 n.sizes.length)),(17,.pv (.int .i64 (IntKind.i64.wrap (i+1))))] (tdH (((l.t.drop j).map (·.v)).foldl Jj m) n ks) ->
  AtS [.seq (.ext 99 [])] J4 (tdN N) 3 (fun st=>G st.heap) Vr 1 36 [(3,.ptr 0 0),(15,.pv (enc n.sizes)),(16,.pv (.int .i64 n.sizes.length)),(17,.pv (.int .i64 i)),(22,.pv (enc l.t)),(23,.pv (.int .i64 l.t.length)),(24,.pv (.int .i64 j))] (tdH m n ks):=by
 intro d
 induction d with
 | zero=>
  intro j m b h
  rw[List.drop_eq_nil_of_le (by omega)]at h
  exact d9d (tdN N) n ks m i j l (ZU (Yx (by omega)) h)
 | succ d ih=>
  intro j m b h
  have a:j<l.t.length:=by omega
  obtain⟨g,k⟩:=g1b m l.t[j].v
  refine d9d (tdN N) n ks m i j l (ZT (Yt a) ⟨Zq a rfl,ZB a ⟨g,?_⟩⟩)
  have e:b2v (Sh.co Sh.str (List.getD (PV.cells (enc l.t[j])) 0 default)) (PV.bool true) (Hr m)=Hr (Jj m l.t[j].v):=k
  rw[e,next (by omega)]
  refine ih (j+1) _ (by omega) ?_
  rw[List.drop_eq_getElem_cons a,List.map_cons,List.foldl_cons]at h
  exact h
theorem c1l{N G:ZF->Prop}(n:Nd)(ks:List Tm)(hn:NdB n 1048576): ∀ (d i:Nat) (m:List Str),d+i=n.sizes.length->N (tdH (((n.sizes.drop i).flatMap fun l=>l.t.map (·.v)).foldl Jj m) n ks) ->
  AtS [.seq (.ext 99 [])] J4 (tdN N) 3 (fun st=>G st.heap) Vr 0 36 [(3,.ptr 0 0),(15,.pv (enc n.sizes)),(16,.pv (.int .i64 n.sizes.length)),(17,.pv (.int .i64 i))] (tdH m n ks):=by
 intro d
 induction d with
 | zero=>
  intro i m hi h
  rw[List.drop_eq_nil_of_le (by omega)]at h
  exact e0d (tdN N) n ks m i (ZU (Yx (by omega)) ⟨rfl,h⟩)
 | succ d ih=>
  intro i m hi h
  have a:i<n.sizes.length:=by omega
  have hs:=hn.sizes
  refine e0d (tdN N) n ks m i (ZT (Yt a) ⟨Zq a rfl,ZB a ?_⟩)
  rw[List.drop_eq_getElem_cons a,List.flatMap_cons,List.foldl_append]at h
  have b:n.sizes[i].t.length<=1048576:=hn.lens _ (List.getElem_mem a)
  generalize n.sizes[i]=l at h b ⊢
  have:=c2t (N:=N) (G:=G) n ks i l b l.t.length 0 m (by omega) (by
   rw[next (by omega),List.drop_zero]
   exact ih (i+1) _ (by omega) h)
  show AtS [.seq (.ext 99 [])] J4 (tdN N) 3 (fun st=>G st.heap) Vr 1 36 [(3,.ptr 0 0),(15,.pv (enc n.sizes)),(16,.pv (.int .i64 n.sizes.length)),(17,.pv (.int .i64 i)),(22,.pv (enc l.t)),(23,.pv (.int .i64 ((l.t.map (enc:Coef->PV)).length:Int))),(24,.pv (.int .i64 (0:Nat)))] (tdH m n ks)
  rw[List.length_map]
  exact this
def tdI(t:Tm)(k:Nat)(σ:ZF):Prop:=σ=[.obj (.box [.map 1]),.obj (.map (Hr (Cg (((Xb t).take k).flatMap UJ))))]
def tdM(t:Tm)(k:Nat)(x:Tm×Int)(st:St):Prop:=st=⟨Xn 36 0 [(3,.ptr 0 0),(4,.ptr 2 0)],tdH (Cg (((Xb t).take k).flatMap UJ)) x.1.nd x.1.ks⟩
def tdE:Vs:=fun n st q=>n=0∧a8i Bn 0 (.t 11) 116 [12,13] PE Vr encNd pre_ndI F_ndI st q
theorem e4p: ∀ x:Tm×Unit,tW x.1=true->Dw Bn tdE 0 (Za AL (Zf (Ui x.1))) Nc [] (Zx f3y (encL x)):=by
 rintro⟨t,⟨⟩⟩ ht
 have ht:tW t=true:=ht
 obtain⟨n,ks⟩:=t
 rw[<- YQ]
 show Dw Bn tdE 0 (Za AL (Zf (Ui (.mk n ks)))) _ _ _
 have i:Yb (.mk n ks)<=1048576:=Nat.le_trans (Bd _) (of_decide_eq_true ht)
 have m:F_ndI [ndC n ks]=Yg 1 (.mk n ks):=by unfold F_ndI;rw[tmOf_nd]
 refine g2t tdE n ks ⟨?_,rfl,[1],[ndC n ks],[3],[3,4],[],⟨Xn 36 0 [(3,.ptr 0 0)],[.obj (.box [.map 1]),.obj (.map [])]⟩,tdI (.mk n ks),fun _=>False,tdM (.mk n ks),
  rfl,by simp,rfl,?_,by kernel_rfl,pre_nd i,rfl,?_,?_,?_,fun σ h=>h.elim⟩
 ·show can Tm (PV.agg (ndC n ks))=true
  rw[show(PV.agg (ndC n ks))=enc (Tm.mk n ks)from(Yl n ks).symm,Ri]
 ·intro j l ps q hps
  match j with
  | 0=>cases q;cases hps;rfl
  | j+1=>simp at q
 ·rintro k ⟨⟨a,b⟩,v⟩ σ hx rfl
  have e:R5 [12,13] ((encNd (.mk a b,v)).map .pv) (Xn 36 0 [(3,.ptr 0 0)])=Xn 36 0 [(3,.ptr 0 0),(12,.pv (.agg (ndC a b))),(13,.pv (.int .i64 v))]:=by
   show R5 [12,13] (([enc (Tm.mk a b),.int .i64 v]).map .pv) _=_
   rw[Yl]
   kernel_rfl
  rw[e]
  exact f5g (G:=fun _=>False) _ a b _ v ⟨rfl,rfl⟩
 ·rintro k ⟨⟨a,b⟩,v⟩ st hx rfl
  rw[m]at hx
  have r:tW (.mk a b)=true:=Cr ht (List.mem_of_getElem? hx)
  have u:(Xb (.mk n ks))[k]? = some (.mk a b):=by unfold Xb;rw[List.getElem?_map,hx];rfl
  refine f6d (G:=fun _=>False) (tdN fun σ=> ∃ g,Q3 0 [3] ⟨Xn 36 0 [(3,.ptr 0 0)],σ⟩=some g∧g.env=Xn 36 0 [(3,.ptr 0 0)]∧tdI (.mk n ks) (k+1) g.heap) a b _ ?_
  rw[List.length_map]
  refine c1l (N:=fun σ=> ∃ g,Q3 0 [3] ⟨Xn 36 0 [(3,.ptr 0 0)],σ⟩=some g∧g.env=Xn 36 0 [(3,.ptr 0 0)]∧tdI (.mk n ks) (k+1) g.heap) (G:=fun _=>False) a b (ndB r) a.sizes.length 0 _ (by omega) ⟨⟨Xn 36 0 [(3,.ptr 0 0)],[.obj (.box [.map 1]),.obj (.map (Hr (((a.sizes.drop 0).flatMap fun l=>l.t.map (·.v)).foldl Jj (Cg (((Xb (.mk n ks)).take k).flatMap UJ)))))]⟩,by kernel_rfl,rfl,?_⟩
  unfold tdI
  have e:(Xb (.mk n ks)).take (k+1)=(Xb (.mk n ks)).take k++[.mk a b]:=by rw[List.take_add_one,u];rfl
  rw[e,List.flatMap_append,List.flatMap_cons,List.flatMap_nil,List.append_nil,List.drop_zero]
  unfold Cg
  rw[List.foldl_append]
  rfl
 ·rintro σ rfl
  rw[m,List.take_of_length_le (by unfold Xb;rw[List.length_map];exact Nat.le_refl _)]
  refine f7w tdE n ks (Cg (YX (.mk n ks))) ⟨?_,?_⟩
  ·show(124==124&&CK (Hr (Cg (YX (.mk n ks)))))=true
   rw[g3q ht,beq_self_eq_true];rfl
  ·have:=Zg (x:=Ui (.mk n ks)) rfl
   unfold Ui at this ⊢
   rw[b8h]
   have e:(enc ((Vb ((Cg (YX (.mk n ks))).map (·.s))).map Str.mk):PV) = .sl 1 false ((Vb ((Cg (YX (.mk n ks))).map (·.s))).map PV.str):=by
    show PV.sl 1 false (List.map enc (List.map Str.mk _))=_
    rw[List.map_map]
    rfl
   rw[e]at this
   exact this
end Go.Pl
namespace Go.Pl
open Go.RowKit
open Enc (enc dec is)
open EncL (encL decL isL)
set_option maxRecDepth 100000
abbrev g2g(ps:List PV)(k:Arr×Int->Prop):Prop:=Ym (fun(x:Str×List Int×List Int×Unit)=>decide (List.length (Prod.fst (Prod.snd x))<=2000000)&&decide (List.length (Prod.fst (Prod.snd (Prod.snd x)))<=2000000)) (fun(x:Str×List Int×List Int×Unit)=>Jh (Prod.fst x) (Prod.fst (Prod.snd x)) (Prod.fst (Prod.snd (Prod.snd x)))) ps k
noncomputable def d4s:IC:=YI Proofs.Tryz.f192
def e1q:List IRes:=[(.tmp 4)]
abbrev f4x:Nat:=22
def f2y:ZC:=Yh []
theorem g1y{G:PV->Prop}(e:List UInt8)(n:Int)(h:if (e==[(105:UInt8),(110:UInt8),(116:UInt8)])=true then if (decide (n ≥ (-2147483648:Int)))=true then G ((.bool (decide (n<=2147483647))))else(G ((.bool false)))else(if (e==[(98:UInt8),(111:UInt8),(111:UInt8),(108:UInt8)])=true then if (n==0)=true then G ((.bool true))else(G ((.bool (n==1))))else(G ((.bool false))))):Zd f2y 0 (Za e1q G) d4s [] (Zx 22 [.str e,.int .i64 n]):=Zd.tp (dm [] 36 0x2220220034200c4202202220044200c42) h
noncomputable def a7w:IC:=YI Proofs.Tryz.f191
def a7e:List IRes:=[(.tmp 3)]
abbrev g0a:Nat:=8
def c8u:ZC:=Yh [(192,.pure (preT (fun _:Str×Int×Unit=>true)) (Zi (fun x:Str×Int×Unit=>X5 x.1 x.2.1)))]
theorem g3p{G:AV×List AObj×List AObj->Prop}(e:List UInt8)(n:Int)(h:Tt (fun(x:Str×Int×Unit)=>X5 x.1 x.2.1) [(.str e),(.int .i64 n)] fun a:Bool=>G (((.pv (.bool !a)),([(.box [(.pv (.str e))])],[])))):Zd c8u 1 (Xw 1 a7e G) a7w [] (U7 8 [.pv (.int .i64 n),.ptr 0 0] [.box [.pv (.str e)]]):=Zd.to (.lit (FJ (Bool) (.nil))) h
noncomputable def DU:IC:=D5
def Cb:List IRes:=[(.tmp 4)]
abbrev c9g:Nat:=19
def Pz:ZC:=Yh [(191,.own TG EL)]
theorem g3i{G:AV×List AObj×List AObj->Prop}(e:List UInt8)(l:List Int)(t:Bool)(h:At Pz 1 (Xw 1 Cb G) DU 0 19 [(0,(.pv (.sl 1 t (List.map enc l)))),(1,(.fn 191 [] [(.ptr 0 0)])),(7,(.pv (.int .i64 (↑(List.length (List.map enc l)):Int)))),(8,(.pv (.int .i64 0)))] [(.obj (.box [(.pv (.str e))]))]):Zd Pz 1 (Xw 1 Cb G) DU [] (U7 19 [.pv (.sl 1 t (l.map enc)),.fn 191 [] [.ptr 0 0]] [.box [.pv (.str e)]]):=Zd.to (.nil) h
theorem d3a{G:AV×List AObj×List AObj->Prop}(e:List UInt8)(l:List Int)(t:Bool)(i:Int)(h:if (decide (i<(↑(List.length l):Int)))=true then(decide (0<=i)&&decide (Int.toNat i<List.length (List.map enc l))&&1==1)=true∧(el' l i fun a:Int=>if (!X5 (Str.mk e) (PV.asInt (VD a)))=true then G (((.pv (.int .i64 i)),([(.box [(.pv (.str e))])],[])))else(At Pz 1 (Xw 1 Cb G) DU 0 19 [(0,(.pv (.sl 1 t (List.map enc l)))),(1,(.fn 191 [] [(.ptr 0 0)])),(7,(.pv (.int .i64 (↑(List.length l):Int)))),(8,(.pv (.int .i64 (IntKind.wrap IntKind.i64 (i+1)))))] [(.obj (.box [(.pv (.str e))]))]))else(G (((.pv (.int .i64 (-1))),([(.box [(.pv (.str e))])],[]))))):At Pz 1 (Xw 1 Cb G) DU 0 19 [(0,.pv (.sl 1 t (l.map enc))),(1,.fn 191 [] [.ptr 0 0]),(7,.pv (.int .i64 l.length)),(8,.pv (.int .i64 i))] [.obj (.box [.pv (.str e)])]:=At.to (dm [dr Int] 19 0x2000143225100c42) h
noncomputable def b3d:IC:=a8t
def a7k:List IRes:=[(.tmp 4)]
abbrev f7a:Nat:=9
def d7t:ZC:=Yh [(170,.own VV TJ)]
theorem g4l{G:AV×List AObj×List AObj->Prop}(e:List UInt8)(l:List Int)(t:Bool)(h:(VV [(.pv (.sl 1 t (List.map enc l))),(.fn 191 [] [(.ptr 0 0)])] [(.box [(.pv (.str e))])])=true∧(G (((.pv (.bool (decide (Kt (Str.mk e) (List.map dec (List.map enc l)) 0 ≥ 0)))),([(.box [(.pv (.str e))])],[]))))):Zd d7t 1 (Xw 1 a7k G) b3d [] (U7 9 [.pv (.sl 1 t (l.map enc)),.fn 191 [] [.ptr 0 0]] [.box [.pv (.str e)]]):=Zd.to (.req (.keep (.lit (.nil)))) h
noncomputable def Tg:IC:=YI Proofs.Tryz.f155
def SS:List IRes:=[(.tmp 4)]
abbrev a0s:Nat:=9
def PT:ZC:=Yh [(144,.own VV OH)]
theorem b1i{G:PV->Prop}(e:List UInt8)(l:List Int)(h:(VV [(.pv (.sl 1 false (List.map enc l))),(.fn 191 [] [(.ptr 0 0)])] [(.box [(.pv (.str e))])])=true∧(G ((.bool (!decide (0<=Kt (Str.mk e) (List.map dec (List.map enc l)) 0)))))):Zd PT 0 (Za SS G) Tg [] (Zx 9 [.str e,enc l]):=Zd.tp (.req (.keep (.nil))) h
noncomputable def b5l:IC:=YI Proofs.Tryz.f131
def b3v:List IRes:=[(.cell true 3 6),(.tmp 7)]
abbrev e7y:Nat:=45
def d3g:ZC:=Yh [(154,.pure (preT (fun _:List Int×Unit=>true)) (Zi (fun x:List Int×Unit=>Y2 x.1))),(155,.pure (preT (fun x:Str×List Int×Unit=>decide (x.2.1.length<=2000000))) (Zi (fun x:Str×List Int×Unit=>x.2.1.all (X5 x.1)))),(156,.pure (preT (fun x:List Int×Unit=>decide (x.1.length<=2000000))) (Zi (fun x:List Int×Unit=>x.1)))]
theorem f8d{G:PV->Prop}(e:List UInt8)(d x:List Int)(h:if (!e==[(105:UInt8),(110:UInt8),(116:UInt8)])=true then if (!e==[(98:UInt8),(111:UInt8),(111:UInt8),(108:UInt8)])=true then G ((.tup [(.agg [(.str []),(.sl 0 true []),(.sl 0 true [])]),(.int .i64 12)]))else((Go.Pl.preT (fun(x:List Int×Unit)=>true) [(.sl 1 false (List.map enc d))])=true∧(∃ b:Int×Int,AV.pv (Zi (fun(x:List Int×Unit)=>Y2 x.1) [(.sl 1 false (List.map enc d))])=AV.pv (enc b)∧(if (b.2 != 0)=true then G ((.tup [(.agg [(.str []),(.sl 0 true []),(.sl 0 true [])]),(.int .i64 b.2)]))else(if ((↑(List.length (List.map enc x)):Int) != b.1)=true then G ((.tup [(.agg [(.str []),(.sl 0 true []),(.sl 0 true [])]),(.int .i64 1)]))else((Go.Pl.preT (fun(x:Str×List Int×Unit)=>decide (List.length x.2.1<=2000000)) [(.str e),(.sl 1 false (List.map enc x))])=true∧(∃ j:Bool,AV.pv (Zi (fun(x:Str×List Int×Unit)=>List.all x.2.1 (X5 x.1)) [(.str e),(.sl 1 false (List.map enc x))])=AV.pv (enc j)∧(if (!j)=true then G ((.tup [(.agg [(.str []),(.sl 0 true []),(.sl 0 true [])]),(.int .i64 2)]))else((Go.Pl.preT (fun(x:List Int×Unit)=>decide (List.length x.1<=2000000)) [(.sl 1 false (List.map enc d))])=true∧(∃ k:List Int,AV.pv (Zi (fun(x:List Int×Unit)=>x.1) [(.sl 1 false (List.map enc d))])=AV.pv (enc k)∧((Go.Pl.preT (fun(x:List Int×Unit)=>decide (List.length x.1<=2000000)) [(.sl 1 false (List.map enc x))])=true∧(∃ l:List Int,AV.pv (Zi (fun(x:List Int×Unit)=>x.1) [(.sl 1 false (List.map enc x))])=AV.pv (enc l)∧(G ((.tup [(.agg [(.str e),(.sl 1 false (List.map enc k)),(.sl 1 false (List.map enc l))]),(.int .i64 0)]))))))))))))))else((Go.Pl.preT (fun(x:List Int×Unit)=>true) [(.sl 1 false (List.map enc d))])=true∧(∃ a:Int×Int,AV.pv (Zi (fun(x:List Int×Unit)=>Y2 x.1) [(.sl 1 false (List.map enc d))])=AV.pv (enc a)∧(if (a.2 != 0)=true then G ((.tup [(.agg [(.str []),(.sl 0 true []),(.sl 0 true [])]),(.int .i64 a.2)]))else(if ((↑(List.length (List.map enc x)):Int) != a.1)=true then G ((.tup [(.agg [(.str []),(.sl 0 true []),(.sl 0 true [])]),(.int .i64 1)]))else((Go.Pl.preT (fun(x:Str×List Int×Unit)=>decide (List.length x.2.1<=2000000)) [(.str e),(.sl 1 false (List.map enc x))])=true∧(∃ i:Bool,AV.pv (Zi (fun(x:Str×List Int×Unit)=>List.all x.2.1 (X5 x.1)) [(.str e),(.sl 1 false (List.map enc x))])=AV.pv (enc i)∧(if (!i)=true then G ((.tup [(.agg [(.str []),(.sl 0 true []),(.sl 0 true [])]),(.int .i64 2)]))else((Go.Pl.preT (fun(x:List Int×Unit)=>decide (List.length x.1<=2000000)) [(.sl 1 false (List.map enc d))])=true∧(∃ g:List Int,AV.pv (Zi (fun(x:List Int×Unit)=>x.1) [(.sl 1 false (List.map enc d))])=AV.pv (enc g)∧((Go.Pl.preT (fun(x:List Int×Unit)=>decide (List.length x.1<=2000000)) [(.sl 1 false (List.map enc x))])=true∧(∃ m:List Int,AV.pv (Zi (fun(x:List Int×Unit)=>x.1) [(.sl 1 false (List.map enc x))])=AV.pv (enc m)∧(G ((.tup [(.agg [(.str e),(.sl 1 false (List.map enc g)),(.sl 1 false (List.map enc m))]),(.int .i64 0)]))))))))))))))):Zd d3g 0 (Za b3v G) b5l [] (Zx 45 [.str e,enc d,enc x]):=Zd.tp (dm [dv (Int×Int),dv Bool,dv (List Int)] 69 0x7171000146100014200014251222071710001461000142000142510001422202242) h
noncomputable def c9h:IC:=YI Proofs.Tryz.f94
def c7r:List IRes:=[(.tmp 2)]
abbrev f7t:Nat:=17
def f3g:ZC:=Yh [(131,.pure (preT (fun x:Str×List Int×List Int×Unit=>decide (x.2.1.length<=2000000)&&decide (x.2.2.1.length<=2000000))) (Zi (fun x:Str×List Int×List Int×Unit=>Jh x.1 x.2.1 x.2.2.1)))]
theorem g1g{G:PV->Prop}(a:Arr)(h:(g2g [(.str (Str.s (Arr.e a))),(.sl 1 false (List.map enc (Arr.d a))),(.sl 1 false (List.map enc (Arr.x a)))] fun b=>(G ((.bool (b.2==0)))))):Zd f3g 0 (Za c7r G) c9h [] (Zx 17 [enc a]):=Zd.tp (.req (FJ (Arr×Int) (.lit (.nil)))) h
end Go.Pl
namespace Go.Pl
open Go.RowKit
open Enc (enc dec is)
open EncL (encL decL isL)
theorem e8m: ∀ a:Str×Int×Unit,true=true->Zd f2y 0 (Za e1q (Zf (X5 a.1 a.2.1))) d4s [] (Zx f4x (encL a)):=by
 rintro⟨⟨e⟩,n,⟨⟩⟩ _
 refine g1y e n ?_
 simp only[beq_iff_eq,decide_eq_true_eq,Zf,b3o,a4a,true_and,X5,Xa,YM,ge_iff_le]
 split
 ·split <;> simp[*]
 ·split
  ·split <;> simp[*]
  ·simp[*]
theorem e2z: ∀ args os,TG args os=true->Zd c8u os.length (Xw os.length a7e fun r=>r=EL args os) a7w [] (U7 g0a args os):=by
 intro args os a
 unfold TG at a
 split at a
 ·rename_i n e
  refine g3p e n ?_
  exact Zb (⟨e⟩,n,()) rfl rfl
 ·cases a
theorem Ph(e:Str): ∀ (l:List Int) (k:Nat),decide (0<=Kt e l k) = !l.all (X5 e)
 | [],k=>by simp[Kt]
 | n::l,k=>by
  simp only[Kt,List.all_cons]
  by_cases h:X5 e n=true
  ·simp only[h,if_true,Bool.true_and];exact Ph e l (k+1)
  ·simp only[Bool.not_eq_true]at h;simp[h]
theorem d7z(e:List UInt8)(l:List Int)(t:Bool)(hl:l.length<=2000000)(r:AV×List AObj×List AObj): ∀ (m k:Nat),m+k=l.length->r=(.pv (.int .i64 (Kt ⟨e⟩ (l.drop k) k)),[.box [.pv (.str e)]],[]) ->
  At Pz 1 (Xw 1 Cb fun x=>x=r) DU 0 c9g [(0,.pv (.sl 1 t (l.map enc))),(1,.fn 191 [] [.ptr 0 0]),(7,.pv (.int .i64 l.length)),(8,.pv (.int .i64 k))] [.obj (.box [.pv (.str e)])]:=by
 intro m
 induction m with
 | zero=>
  intro k b hr
  refine d3a e l t k ?_
  rw[if_neg (by simp;omega),hr,List.drop_of_length_le (by omega)]
  rfl
 | succ m ih=>
  intro k b hr
  have a:k<l.length:=by omega
  refine d3a e l t k ?_
  rw[if_pos (by simp;omega)]
  refine⟨by simp;omega,l[k],by rw[X4 _ a],?_⟩
  rw[List.drop_eq_getElem_cons a,Kt]at hr
  show if (!X5 ⟨e⟩ l[k])=true then _ else _
  cases h:X5 ⟨e⟩ l[k]with
  | true=>
   rw[if_neg (by simp),next (by omega)]
   rw[h,if_pos rfl]at hr
   exact ih (k+1) (by omega) hr
  | false=>
   rw[if_pos (by decide)]
   rw[h,if_neg (by simp)]at hr
   exact hr.symm
theorem e5x: ∀ args os,VV args os=true->Zd Pz os.length (Xw os.length Cb fun r=>r=TJ args os) DU [] (U7 c9g args os):=by
 intro args os a
 unfold VV at a
 split at a
 ·rename_i t xs e
  simp only[Bool.and_eq_true,decide_eq_true_eq]at a
  rw[b3q a.1]
  have b:(xs.map (dec:PV->Int)).length<=2000000:=by simpa using a.2
  generalize xs.map (dec:PV->Int)=l at b ⊢
  refine g3i e l t ?_
  rw[List.length_map]
  refine d7z e l t b _ l.length 0 (by omega) ?_
  simp[TJ]
 ·cases a
theorem e7c: ∀ args os,VV args os=true->Zd d7t os.length (Xw os.length a7k fun r=>r=OH args os) b3d [] (U7 f7a args os):=by
 intro args os a
 have b:=a
 unfold VV at a
 split at a
 ·rename_i t xs e
  simp only[Bool.and_eq_true,decide_eq_true_eq]at a
  rw[b3q a.1]at b ⊢
  exact g4l e _ t ⟨b,rfl⟩
 ·cases a
theorem Eb: ∀ a:Str×List Int×Unit,decide (a.2.1.length<=2000000)=true->Zd PT 0 (Za SS (Zf (a.2.1.all (X5 a.1)))) Tg [] (Zx a0s (encL a)):=by
 rintro⟨⟨e⟩,l,⟨⟩⟩ hp
 refine b1i e l ⟨?_,rfl,?_⟩
 ·simpa [VV]using hp
 ·simp[Ph]
theorem d2d: ∀ a:Str×List Int×List Int×Unit,(decide (a.2.1.length<=2000000)&&decide (a.2.2.1.length<=2000000))=true->Zd d3g 0 (Za b3v (Zf (Jh a.1 a.2.1 a.2.2.1))) b5l [] (Zx e7y (encL a)):=by
 rintro⟨⟨e⟩,d,x,⟨⟩⟩ hp
 simp only[Bool.and_eq_true,decide_eq_true_eq]at hp
 refine f8d e d x ?_
 have b:=hp.1
 have g:=hp.2
 simp only[preT,Zi,a1d,b3x,M4,a3n,f3b,RZ,d0n,b8f,e2n,SX,List.isEmpty_iff,Bool.and_true,beq_self_eq_true,Bool.or_true,Bool.true_and,decide_eq_true_eq,AV.pv.injEq,d7u,exists_eq_left',b,g,true_and,Enc.sz,List.length_map,Zf,f5m,f4m,f9s,e4a,e2o,f0b,List.all_nil,List.isEmpty_nil,Bool.true_or,List.map_nil,Bool.not_eq_true',beq_eq_false_iff_ne,bne_iff_ne,Jh,Xa,YM]
 by_cases h1:e=[105,110,116]
 ·simp only[h1,ne_eq,not_true,if_false,false_and]
  split
  ·rfl
  ·split
   ·rfl
   ·split
    ·simp_all
    ·simp_all
 ·simp only[h1,ne_eq,not_false_eq_true,if_true,true_and]
  split
  ·rfl
  ·split
   ·rfl
   ·split
    ·rfl
    ·split
     ·simp_all
     ·simp_all
theorem f0l: ∀ a:Arr×Unit,VH a.1=true->Zd f3g 0 (Za c7r (Zf (WE a.1))) c9h [] (Zx f7t (encL a)):=by
 rintro⟨a,⟨⟩⟩ hp
 refine g1g a ⟨Zc (a.e,a.d,a.x,()) rfl hp,Zb (a.e,a.d,a.x,()) rfl ?_⟩
 exact⟨rfl,rfl⟩
end Go.Pl
namespace Go.Pl
open Go.RowKit
set_option maxRecDepth 100000
def YO:IC:=(Ug [Z6 2 (.mv (WZ 0)) 0,Z6 3 (.mv (WZ 0)) 0] (.seq (Ug [Z6 8 (VC 0) 0,Z6 9 (.len 1 (.t 8)) 0,Z6 10 (Cm .gtr (.t 9) (WZ 6)) 0] (.cond (.t 10) (Ug [Z6 2 (.mv (WZ 0)) 0,Z6 3 (.mv (WZ 13)) 0] .ret) .skip)) (Ug [Z6 4 (f'' false) 0] (.seq (Ug [Z6 5 (.mv (WZ 0)) 0] (.block 0 (.loop [5,0,4] (.seq (Ug [Z6 11 (VC 5) 0,Z6 12 (VC 0) 0,Z6 13 (.len 1 (.t 12)) 0,Z6 14 (Cm .lss (.t 11) (.t 13)) 0] (.cond (.t 14) .skip (.exit 0))) (.seq (.block 1 (.seq (Ug [Z6 17 (VC 0) 0,Z6 18 (VC 5) 0,Z6 19 (.iaddr 1 (.t 17) (.t 18)) 0,Z6 20 (l'' [(.int .i64)] (.t 19)) 0,Z6 21 (Cm .lss (.t 20) (WZ 0)) 0,Z6 22 (VC 21) 0,r'' 23 (VC 0) 0 22,r'' 24 (VC 5) 0 22,r'' 25 (.iaddr 1 (.t 23) (.t 24)) 0 22,r'' 26 (l'' [(.int .i64)] (.t 25)) 0 22,r'' 27 (Cm .gtr (.t 26) (WZ 4096)) 0 22,Z6 28 (.pick (.t 22) (.c (.bool true)) (.t 27)) 0] (.cond (.t 28) (Ug [Z6 2 (.mv (WZ 0)) 0,Z6 3 (.mv (WZ 2)) 0] .ret) .skip)) (.reg [Z6 29 (VC 4) 0,Z6 30 (VC 29) 0,r'' 31 (VC 0) 0 30,r'' 32 (VC 5) 0 30,r'' 33 (.iaddr 1 (.t 31) (.t 32)) 0 30,r'' 34 (l'' [(.int .i64)] (.t 33)) 0 30,r'' 35 (Cm .eql (.t 34) (WZ 0)) 0 30,Z6 36 (.pick (.t 30) (.c (.bool true)) (.t 35)) 0,Z6 4 (VC 36) 0] none))) (.reg [Z6 15 (VC 5) 0,Z6 16 (Cm .add (.t 15) (WZ 1)) 0,Z6 5 (VC 16) 0] none)))))) (.seq (Ug [Z6 37 (VC 4) 0] (.cond (.t 37) (Ug [Z6 2 (.mv (WZ 0)) 0,Z6 3 (.mv (WZ 0)) 0] .ret) .skip)) (Ug [Z6 6 (.mv (WZ 1)) 0] (.seq (Ug [Z6 7 (.mv (WZ 0)) 0] (.block 2 (.loop [7,0,6] (.seq (Ug [Z6 38 (VC 7) 0,Z6 39 (VC 0) 0,Z6 40 (.len 1 (.t 39)) 0,Z6 41 (Cm .lss (.t 38) (.t 40)) 0] (.cond (.t 41) .skip (.exit 2))) (.seq (.block 3 (Ug [Z6 44 (VC 6) 0,Z6 45 (VC 0) 0,Z6 46 (VC 7) 0,Z6 47 (.iaddr 1 (.t 45) (.t 46)) 0,Z6 48 (l'' [(.int .i64)] (.t 47)) 0,Z6 49 (Cm .mul (.t 44) (.t 48)) 0,Z6 6 (VC 49) 0] (Ug [Z6 50 (VC 6) 0,Z6 51 (Cm .gtr (.t 50) (WZ 4096)) 0] (.cond (.t 51) (Ug [Z6 2 (.mv (WZ 0)) 0,Z6 3 (.mv (WZ 3)) 0] .ret) .skip)))) (.reg [Z6 42 (VC 7) 0,Z6 43 (Cm .add (.t 42) (WZ 1)) 0,Z6 7 (VC 43) 0] none)))))) (Ug [Z6 52 (VC 6) 0,Z6 2 (VC 52) 0,Z6 3 (.mv (WZ 0)) 0] .ret))))))))
def YP:List IRes:=[(.tmp 2),(.tmp 3)]
def Y3:ZC:=Yh []
theorem c3t{r:PV}(ns:List Int)(t:Bool)(a:(decide ((↑(Zr ns).length:Int)>6))=true)(hr:(.tup [(.int .i64 0),(.int .i64 13)])=r):Zd Y3 0 (fun st=>fin st YP=some r) YO [] (Zx 53 [.sl 1 t (Zr ns)]):=Zd.w (.lit (.ans true (.nil))) (And.intro a hr) (by kernel_rfl)
theorem c1x{r:PV}(ns:List Int)(t:Bool)(a:(decide ((↑(Zr ns).length:Int)>6))=false)(hn:At Y3 0 (fun st=>fin st YP=some r) YO 0 53 [(0,(.pv (.sl 1 t (Zr ns)))),(4,(.pv (.bool false))),(5,(.pv (.int .i64 0)))] []):Zd Y3 0 (fun st=>fin st YP=some r) YO [] (Zx 53 [.sl 1 t (Zr ns)]):=Zd.w (.lit (.ans false (.nil))) (And.intro a hn) (by kernel_rfl)
theorem b2r{r:PV}(ns:List Int)(t:Bool)(i:Int)(z:Bool)(a:(decide (i<(↑(Zr ns).length:Int)))=true)(h1:(decide (0<=i)&&decide (i.toNat<(Zr ns).length)&&1==1)=true)(h2:(decide (0+[Sh.int .i64].length<=((Zr ns).getD i.toNat default).cells.length)&&Yj ((Zr ns).getD i.toNat default).cells 0 [Sh.int .i64])=true)(h3:(decide ((((Zr ns).getD i.toNat default).cells.getD 0 default).asInt<0))=true)(hr:(.tup [(.int .i64 0),(.int .i64 2)])=r):At Y3 0 (fun st=>fin st YP=some r) YO 0 53 [(0,.pv (.sl 1 t (Zr ns))),(4,.pv (.bool z)),(5,.pv (.int .i64 i))] []:=At.w (.lit (.ans true (.req (.req (.lit (.ans true (.lit (.lit (.lit (.lit (.lit (.lit (.nil))))))))))))) (And.intro a (And.intro h1 (And.intro h2 (And.intro h3 hr)))) (by kernel_rfl)
theorem b2o{r:PV}(ns:List Int)(t:Bool)(i:Int)(z:Bool)(a:(decide (i<(↑(Zr ns).length:Int)))=true)(h1:(decide (0<=i)&&decide (i.toNat<(Zr ns).length)&&1==1)=true)(h2:(decide (0+[Sh.int .i64].length<=((Zr ns).getD i.toNat default).cells.length)&&Yj ((Zr ns).getD i.toNat default).cells 0 [Sh.int .i64])=true)(h3:(decide ((((Zr ns).getD i.toNat default).cells.getD 0 default).asInt<0))=false)(b:(decide ((((Zr ns).getD i.toNat default).cells.getD 0 default).asInt>4096))=true)(hr:(.tup [(.int .i64 0),(.int .i64 2)])=r):At Y3 0 (fun st=>fin st YP=some r) YO 0 53 [(0,.pv (.sl 1 t (Zr ns))),(4,.pv (.bool z)),(5,.pv (.int .i64 i))] []:=At.w (.lit (.ans true (.req (.req (.lit (.ans false (.lit (.lit (.req (.lit (.req (.lit (.lit (.lit (.ans true (.nil)))))))))))))))) (And.intro a (And.intro h1 (And.intro h2 (And.intro h3 (And.intro h1 (And.intro h2 (And.intro b hr))))))) (by kernel_rfl)
theorem b0e{r:PV}(ns:List Int)(t:Bool)(i:Int)(z:Bool)(b:(decide (i<(↑(Zr ns).length:Int)))=true)(h1:(decide (0<=i)&&decide (i.toNat<(Zr ns).length)&&1==1)=true)(h2:(decide (0+[Sh.int .i64].length<=((Zr ns).getD i.toNat default).cells.length)&&Yj ((Zr ns).getD i.toNat default).cells 0 [Sh.int .i64])=true)(h3:(decide ((((Zr ns).getD i.toNat default).cells.getD 0 default).asInt<0))=false)(e:(decide ((((Zr ns).getD i.toNat default).cells.getD 0 default).asInt>4096))=false)(a:(z)=true)(hn:At Y3 0 (fun st=>fin st YP=some r) YO 0 53 [(0,(.pv (.sl 1 t (Zr ns)))),(4,(.pv (.bool true))),(5,(.pv (.int .i64 (IntKind.i64.wrap (i+1)))))] []):At Y3 0 (fun st=>fin st YP=some r) YO 0 53 [(0,.pv (.sl 1 t (Zr ns))),(4,.pv (.bool z)),(5,.pv (.int .i64 i))] []:=At.w (.lit (.ans true (.req (.req (.lit (.ans false (.lit (.lit (.req (.lit (.req (.lit (.lit (.lit (.ans false (.ans true (.lit (.lit (.lit (.lit (.lit (.lit (.nil))))))))))))))))))))))) (And.intro b (And.intro h1 (And.intro h2 (And.intro h3 (And.intro h1 (And.intro h2 (And.intro e (And.intro a hn)))))))) (by kernel_rfl)
theorem a9s{r:PV}(ns:List Int)(t:Bool)(i:Int)(z:Bool)(b:(decide (i<(↑(Zr ns).length:Int)))=true)(h1:(decide (0<=i)&&decide (i.toNat<(Zr ns).length)&&1==1)=true)(h2:(decide (0+[Sh.int .i64].length<=((Zr ns).getD i.toNat default).cells.length)&&Yj ((Zr ns).getD i.toNat default).cells 0 [Sh.int .i64])=true)(h3:(decide ((((Zr ns).getD i.toNat default).cells.getD 0 default).asInt<0))=false)(e:(decide ((((Zr ns).getD i.toNat default).cells.getD 0 default).asInt>4096))=false)(a:(z)=false)(hn:At Y3 0 (fun st=>fin st YP=some r) YO 0 53 [(0,(.pv (.sl 1 t (Zr ns)))),(4,(.pv (.bool ((((Zr ns).getD i.toNat default).cells.getD 0 default).asInt==0)))),(5,(.pv (.int .i64 (IntKind.i64.wrap (i+1)))))] []):At Y3 0 (fun st=>fin st YP=some r) YO 0 53 [(0,.pv (.sl 1 t (Zr ns))),(4,.pv (.bool z)),(5,.pv (.int .i64 i))] []:=At.w (.lit (.ans true (.req (.req (.lit (.ans false (.lit (.lit (.req (.lit (.req (.lit (.lit (.lit (.ans false (.ans false (.lit (.lit (.req (.lit (.req (.lit (.lit (.lit (.lit (.nil)))))))))))))))))))))))))) (And.intro b (And.intro h1 (And.intro h2 (And.intro h3 (And.intro h1 (And.intro h2 (And.intro e (And.intro a (And.intro h1 (And.intro h2 hn)))))))))) (by kernel_rfl)
theorem b0q{r:PV}(ns:List Int)(t:Bool)(i:Int)(z:Bool)(a:(decide (i<(↑(Zr ns).length:Int)))=false)(h1:(z)=true)(hr:(.tup [(.int .i64 0),(.int .i64 0)])=r):At Y3 0 (fun st=>fin st YP=some r) YO 0 53 [(0,.pv (.sl 1 t (Zr ns))),(4,.pv (.bool z)),(5,.pv (.int .i64 i))] []:=At.w (.lit (.ans false (.ans true (.nil)))) (And.intro a (And.intro h1 hr)) (by kernel_rfl)
theorem b3e{r:PV}(ns:List Int)(t:Bool)(i:Int)(z:Bool)(a:(decide (i<(↑(Zr ns).length:Int)))=false)(h1:(z)=false)(hn:At Y3 0 (fun st=>fin st YP=some r) YO 1 53 [(0,(.pv (.sl 1 t (Zr ns)))),(6,(.pv (.int .i64 1))),(7,(.pv (.int .i64 0)))] []):At Y3 0 (fun st=>fin st YP=some r) YO 0 53 [(0,.pv (.sl 1 t (Zr ns))),(4,.pv (.bool z)),(5,.pv (.int .i64 i))] []:=At.w (.lit (.ans false (.ans false (.nil)))) (And.intro a (And.intro h1 hn)) (by kernel_rfl)
theorem b1t{r:PV}(ns:List Int)(t:Bool)(i n:Int)(a:(decide (i<(↑(Zr ns).length:Int)))=true)(h1:(decide (0<=i)&&decide (i.toNat<(Zr ns).length)&&1==1)=true)(h2:(decide (0+[Sh.int .i64].length<=((Zr ns).getD i.toNat default).cells.length)&&Yj ((Zr ns).getD i.toNat default).cells 0 [Sh.int .i64])=true)(h3:(decide (IntKind.i64.wrap (n*(((Zr ns).getD i.toNat default).cells.getD 0 default).asInt)>4096))=true)(hr:(.tup [(.int .i64 0),(.int .i64 3)])=r):At Y3 0 (fun st=>fin st YP=some r) YO 1 53 [(0,.pv (.sl 1 t (Zr ns))),(6,.pv (.int .i64 n)),(7,.pv (.int .i64 i))] []:=At.w (.lit (.ans true (.req (.req (.lit (.lit (.ans true (.nil)))))))) (And.intro a (And.intro h1 (And.intro h2 (And.intro h3 hr)))) (by kernel_rfl)
theorem a8z{r:PV}(ns:List Int)(t:Bool)(i n:Int)(a:(decide (i<(↑(Zr ns).length:Int)))=true)(h1:(decide (0<=i)&&decide (i.toNat<(Zr ns).length)&&1==1)=true)(h2:(decide (0+[Sh.int .i64].length<=((Zr ns).getD i.toNat default).cells.length)&&Yj ((Zr ns).getD i.toNat default).cells 0 [Sh.int .i64])=true)(h3:(decide (IntKind.i64.wrap (n*(((Zr ns).getD i.toNat default).cells.getD 0 default).asInt)>4096))=false)(hn:At Y3 0 (fun st=>fin st YP=some r) YO 1 53 [(0,(.pv (.sl 1 t (Zr ns)))),(6,(.pv (.int .i64 (IntKind.i64.wrap (n*(((Zr ns).getD i.toNat default).cells.getD 0 default).asInt))))),(7,(.pv (.int .i64 (IntKind.i64.wrap (i+1)))))] []):At Y3 0 (fun st=>fin st YP=some r) YO 1 53 [(0,.pv (.sl 1 t (Zr ns))),(6,.pv (.int .i64 n)),(7,.pv (.int .i64 i))] []:=At.w (.lit (.ans true (.req (.req (.lit (.lit (.ans false (.lit (.nil))))))))) (And.intro a (And.intro h1 (And.intro h2 (And.intro h3 hn)))) (by kernel_rfl)
theorem b3m{r:PV}(ns:List Int)(t:Bool)(i n:Int)(a:(decide (i<(↑(Zr ns).length:Int)))=false)(hr:(.tup [(.int .i64 n),(.int .i64 0)])=r):At Y3 0 (fun st=>fin st YP=some r) YO 1 53 [(0,.pv (.sl 1 t (Zr ns))),(6,.pv (.int .i64 n)),(7,.pv (.int .i64 i))] []:=At.w (.lit (.ans false (.nil))) (And.intro a hr) (by kernel_rfl)
def VO:IC:=(Ug [Z6 4 (.mv (WZ 0)) 0] (.seq (Ug [Z6 6 (VC 0) 0,Z6 7 (.len 1 (.t 6)) 0,Z6 8 (.mv (WZ 0)) 0] (.block 0 (.loop [8,7,1,0] (Ug [Z6 9 (Cm .lss (.t 8) (.t 7)) 0] (.seq (.cond (.t 9) .skip (.exit 0)) (.seq (.block 1 (Ug [Z6 10 (VC 8) 0,Z6 5 (VC 10) 0] (Ug [Z6 11 (VC 1) 0,Z6 12 (VC 0) 0,Z6 13 (VC 5) 0,Z6 14 (.iaddr 1 (.t 12) (.t 13)) 0,Z6 15 (l'' [(.int .i64)] (.t 14)) 0,Z6 16 (Cm .eql (.t 11) (.t 15)) 0] (.cond (.t 16) (Ug [Z6 17 (VC 5) 0,Z6 4 (VC 17) 0] .ret) .skip)))) (.reg [Z6 18 (Cm .add (.t 8) (WZ 1)) 0,Z6 8 (VC 18) 0] none))))))) (Ug [Z6 4 (.mv (.c (.int .i64 (-1)))) 0] .ret)))
def Uc:List IRes:=[(.tmp 4)]
def Ql:ZC:=Yh []
theorem c0e{r:PV}(ns:List Int)(t:Bool)(v:Int)(hn:At Ql 0 (fun st=>fin st Uc=some r) VO 0 19 [(0,(.pv (.sl 1 t (Zr ns)))),(1,(.pv (.int .i64 v))),(7,(.pv (.int .i64 (↑(Zr ns).length:Int)))),(8,(.pv (.int .i64 0)))] []):Zd Ql 0 (fun st=>fin st Uc=some r) VO [] (Zx 19 [.sl 1 t (Zr ns),.int .i64 v]):=Zd.w (.nil) hn (by kernel_rfl)
theorem b2s{r:PV}(ns:List Int)(t:Bool)(v:Int)(i:Int)(a:(decide (i<(↑(Zr ns).length:Int)))=true)(h1:(decide (0<=i)&&decide (i.toNat<(Zr ns).length)&&1==1)=true)(h2:(decide (0+[Sh.int .i64].length<=((Zr ns).getD i.toNat default).cells.length)&&Yj ((Zr ns).getD i.toNat default).cells 0 [Sh.int .i64])=true)(h3:(v==(((Zr ns).getD i.toNat default).cells.getD 0 default).asInt)=true)(hr:(.int .i64 i)=r):At Ql 0 (fun st=>fin st Uc=some r) VO 0 19 [(0,.pv (.sl 1 t (Zr ns))),(1,.pv (.int .i64 v)),(7,.pv (.int .i64 (Zr ns).length)),(8,.pv (.int .i64 i))] []:=At.w (.lit (.ans true (.req (.req (.lit (.ans true (.nil))))))) (And.intro a (And.intro h1 (And.intro h2 (And.intro h3 hr)))) (by kernel_rfl)
theorem b1k{r:PV}(ns:List Int)(t:Bool)(v:Int)(i:Int)(a:(decide (i<(↑(Zr ns).length:Int)))=true)(h1:(decide (0<=i)&&decide (i.toNat<(Zr ns).length)&&1==1)=true)(h2:(decide (0+[Sh.int .i64].length<=((Zr ns).getD i.toNat default).cells.length)&&Yj ((Zr ns).getD i.toNat default).cells 0 [Sh.int .i64])=true)(h3:(v==(((Zr ns).getD i.toNat default).cells.getD 0 default).asInt)=false)(hn:At Ql 0 (fun st=>fin st Uc=some r) VO 0 19 [(0,(.pv (.sl 1 t (Zr ns)))),(1,(.pv (.int .i64 v))),(7,(.pv (.int .i64 (↑(Zr ns).length:Int)))),(8,(.pv (.int .i64 (IntKind.i64.wrap (i+1)))))] []):At Ql 0 (fun st=>fin st Uc=some r) VO 0 19 [(0,.pv (.sl 1 t (Zr ns))),(1,.pv (.int .i64 v)),(7,.pv (.int .i64 (Zr ns).length)),(8,.pv (.int .i64 i))] []:=At.w (.lit (.ans true (.req (.req (.lit (.ans false (.lit (.nil)))))))) (And.intro a (And.intro h1 (And.intro h2 (And.intro h3 hn)))) (by kernel_rfl)
theorem b1r{r:PV}(ns:List Int)(t:Bool)(v:Int)(i:Int)(a:(decide (i<(↑(Zr ns).length:Int)))=false)(hr:(.int .i64 (-1))=r):At Ql 0 (fun st=>fin st Uc=some r) VO 0 19 [(0,.pv (.sl 1 t (Zr ns))),(1,.pv (.int .i64 v)),(7,.pv (.int .i64 (Zr ns).length)),(8,.pv (.int .i64 i))] []:=At.w (.lit (.ans false (.nil))) (And.intro a hr) (by kernel_rfl)
end Go.Pl
namespace Go.Pl
open Go.RowKit
theorem a1x{r:PV}(ns:List Int)(t:Bool)(h6:ns.length<=6)(ha:ns.all Qd=true): ∀ (m k:Nat) (n:Int),m+k=ns.length->0<=n->n<=4096 ->
  r=(match Tf n (ns.drop k)with|some n=>.tup [.int .i64 n,.int .i64 0]|none=>.tup [.int .i64 0,.int .i64 3]) ->
  At Y3 0 (fun st=>fin st YP=some r) YO 1 53 [(0,.pv (.sl 1 t (Zr ns))),(6,.pv (.int .i64 n)),(7,.pv (.int .i64 k))] []:=by
 intro m
 induction m with
 | zero=>
  intro k n h g h1 hr
  have:ns.drop k=[]:=List.drop_of_length_le (by omega)
  rw[this]at hr
  exact b3m ns t k n (by simp;omega) hr.symm
 | succ m ih=>
  intro k n h g h1 hr
  have a:k<ns.length:=by omega
  have hd:0<=ns[k]∧ns[k]<=4096:=by
   have:=List.all_eq_true.1 ha _ (List.getElem_mem a)
   simpa [Qd]using this
  have i:0<=n*ns[k]∧n*ns[k]<=4096*4096:=⟨Int.mul_nonneg g hd.1,Int.mul_le_mul h1 hd.2 hd.1 (by omega)⟩
  have b:IntKind.i64.wrap (n*ns[k])=n*ns[k]:=Vv (by omega) (by omega)
  rw[List.drop_eq_getElem_cons a,Tf]at hr
  have e:=Ho a
  by_cases hb:4096<n*ns[k]
  ·simp only[hb,decide_true,cond_true]at hr
   refine b1t ns t k n (by simp;omega) (by simp;omega) (by rw[e];rfl) ?_ hr.symm
   rw[e]
   simpa [PV.cells,PV.asInt,b]using hb
  ·simp only[hb,decide_false,cond_false]at hr
   refine a8z ns t k n (by simp;omega) (by simp;omega) (by rw[e];rfl) ?_ ?_
   ·rw[e]
    simpa [PV.cells,PV.asInt,b]using Int.not_lt.1 hb
   ·rw[e,next (by omega)]
    simp only[PV.cells,List.getD_cons_zero,PV.asInt,b]
    exact ih (k+1) (n*ns[k]) (by omega) i.1 (by omega) hr
theorem a2e(ns:List Int)(t:Bool)(i:ns.length<=6): ∀ (m k:Nat) (z:Bool),m+k=ns.length->(∀ j (g:j<ns.length),j<k->Qd ns[j]=true)->z=(ns.take k).any (· == 0) ->
  At Y3 0 (fun st=>fin st YP=some (Xc [.sl 1 t (Zr ns)])) YO 0 53 [(0,.pv (.sl 1 t (Zr ns))),(4,.pv (.bool z)),(5,.pv (.int .i64 k))] []:=by
 intro m
 induction m with
 | zero=>
  intro k z q hd h
  have ha:ns.all Qd=true:=by
   rw[List.all_eq_true]
   intro x l
   obtain⟨j,g,rfl⟩:=List.getElem_of_mem l
   exact hd j g (by omega)
  rw[List.take_of_length_le (by omega)]at h
  cases z with
  | true=>
   refine b0q ns t k _ (by simp;omega) rfl ?_
   simp[Xc,Y2,Xk,ha,<- h,Nat.not_lt.2 i]
  | false=>
   refine b3e ns t k _ (by simp;omega) rfl ?_
   refine a1x ns t i ha ns.length 0 1 (by omega) (by omega) (by omega) ?_
   simp only[Xc,Y2,Xk,ha,<- h,Nat.not_lt.2 i,decide_false,cond_false,cond_true,List.drop_zero]
   cases Tf 1 ns <;> rfl
 | succ m ih=>
  intro k z q hd h
  have b:k<ns.length:=by omega
  have e:=Ho b
  have a:Qd ns[k]=false->Xc [.sl 1 t (Zr ns)] = .tup [.int .i64 0,.int .i64 2]:=by
   intro hb
   have ha:ns.all Qd=false:=by
    rw[List.all_eq_false]
    exact⟨_,List.getElem_mem b,by simp[hb]⟩
   simp[Xc,Y2,Xk,ha,Nat.not_lt.2 i]
  have hn:(ns.take (k+1)).any (· == 0)=(z||ns[k]==0):=by
   rw[List.take_succ_eq_append_getElem b,List.any_append,h];simp
  have hd':Qd ns[k]=true-> ∀ j (g:j<ns.length),j<k+1->Qd ns[j]=true:=by
   intro hb j g hjk
   by_cases he:j=k
   ·subst he;exact hb
   ·exact hd j g (by omega)
  by_cases h1:ns[k]<0
  ·refine b2r ns t k z (by simp;omega) (by simp;omega) (by rw[e];rfl) (by rw[e];simpa [PV.cells,PV.asInt]using h1) (a ?_).symm
   simp[Qd];omega
  ·by_cases h2:4096<ns[k]
   ·refine b2o ns t k z (by simp;omega) (by simp;omega) (by rw[e];rfl) (by rw[e];simpa [PV.cells,PV.asInt]using h1) (by rw[e];simpa [PV.cells,PV.asInt]using h2) (a ?_).symm
    simp[Qd];omega
   ·have hb:Qd ns[k]=true:=by simp[Qd];omega
    cases z with
    | true=>
     refine b0e ns t k true (by simp;omega) (by simp;omega) (by rw[e];rfl) (by rw[e];simpa [PV.cells,PV.asInt]using h1) (by rw[e];simpa [PV.cells,PV.asInt]using h2) rfl ?_
     rw[next (by omega)]
     exact ih (k+1) true (by omega) (hd' hb) (by rw[hn];rfl)
    | false=>
     refine a9s ns t k false (by simp;omega) (by simp;omega) (by rw[e];rfl) (by rw[e];simpa [PV.cells,PV.asInt]using h1) (by rw[e];simpa [PV.cells,PV.asInt]using h2) rfl ?_
     rw[next (by omega),e]
     exact ih (k+1) _ (by omega) (hd' hb) (by rw[hn];rfl)
theorem c1d: ∀ ps,K8 ps=true->Zd Y3 0 (fun st=>fin st YP=some (Xc ps)) YO [] (Zx 53 ps):=by
 intro ps a
 unfold K8 at a
 split at a
 ·rename_i t xs
  obtain⟨ns,rfl⟩:=Rb a
  by_cases h6:6<ns.length
  ·refine c3t ns t (by simp;omega) ?_
   simp[Xc,Y2,Xk,h6]
  ·refine c1x ns t (by simp;omega) ?_
   exact a2e ns t (by omega) ns.length 0 false (by omega) (fun j hj h=>by omega) (by simp)
 ·cases a
def b0n(v:Int):List Int->Nat->Int
 | [],_=> -1
 | n::r,i=>bif v==n then i else b0n v r (i+1)
theorem c6w{v:Int}: ∀ {l:List Int} {i:Nat},decide (0<=b0n v l i)=l.any (· == v):=by
 intro l
 induction l with
 | nil=>intro i;rfl
 | cons n r ih=>
  intro i
  simp only[b0n,List.any_cons]
  by_cases h:v=n
  ·subst h;simp
  ·have h1:(v==n)=false:=by simpa using h
   have h2:(n==v)=false:=by simp;omega
   simp only[h1,h2,cond_false,Bool.false_or]
   exact ih
def GG:List PV->PV
 | [.sl _ _ xs,.int _ v]=>.int .i64 (b0n v (xs.map PV.asInt) 0)
 | _=>.nilp
theorem b3k(ns:List Int)(t:Bool)(v:Int)(hl:ns.length<=1099511627776){r:PV}: ∀ (m k:Nat),m+k=ns.length->r = .int .i64 (b0n v (ns.drop k) k) ->
  At Ql 0 (fun st=>fin st Uc=some r) VO 0 19 [(0,.pv (.sl 1 t (Zr ns))),(1,.pv (.int .i64 v)),(7,.pv (.int .i64 (Zr ns).length)),(8,.pv (.int .i64 k))] []:=by
 intro m
 induction m with
 | zero=>
  intro k b hr
  rw[List.drop_of_length_le (by omega)]at hr
  exact b1r ns t v k (by simp;omega) hr.symm
 | succ m ih=>
  intro k b hr
  have a:k<ns.length:=by omega
  have e:=Ho a
  rw[List.drop_eq_getElem_cons a,b0n]at hr
  cases hb:v==ns[k]with
  | true=>
   rw[hb,cond_true]at hr
   exact b2s ns t v k (by simp;omega) (by simp;omega) (by rw[e];rfl) (by rw[e];exact hb) hr.symm
  | false=>
   rw[hb,cond_false]at hr
   refine b1k ns t v k (by simp;omega) (by simp;omega) (by rw[e];rfl) (by rw[e];exact hb) ?_
   rw[next (by omega)]
   exact ih (k+1) (by omega) hr
theorem c1k: ∀ ps,YC ps=true->Zd Ql 0 (fun st=>fin st Uc=some (GG ps)) VO [] (Zx 19 ps):=by
 intro ps a
 unfold YC at a
 split at a
 ·rename_i t xs v
  simp only[Bool.and_eq_true,decide_eq_true_eq]at a
  obtain⟨ns,rfl⟩:=Rb a.1
  refine c0e ns t v ?_
  exact b3k ns t v (by have:=a.2;rwa [Te]at this) ns.length 0 (by omega) (by simp[GG])
 ·cases a
def PV.ns(p:PV):List Int:=p.asXs.map PV.asInt
def Hq:IC:=(Ug [Z6 4 (f'' false) 0] (Ug [Z6 5 (VC 0) 0,Z6 6 (VC 1) 0,Z6 7 (c'' 217 [(.t 5),(.t 6)]) 0,Z6 8 (Cm .geq (.t 7) (WZ 0)) 2,Z6 4 (VC 8) 2] .ret))
def HV:List IRes:=[(.tmp 4)]
abbrev a4w:Nat:=9
def Cc:ZC:=Yh [(217,.pure YC GG)]
theorem FH{r:PV}(ns:List Int)(t:Bool)(v:Int)(a:(YC [(.sl 1 t (Zr ns)),(.int .i64 v)])=true)(hr:(.bool (decide (b0n v (List.map PV.asInt (Zr ns)) 0 ≥ 0)))=r):Zd Cc 0 (fun st=>fin st HV=some r) Hq [] (Zx 9 [.sl 1 t (Zr ns),.int .i64 v]):=Zd.w (.req (.lit (.nil))) (And.intro a hr) (by kernel_rfl)
theorem OB: ∀ ps,YC ps=true->Zd Cc 0 (fun st=>fin st HV=some (Qh ps)) Hq [] (Zx a4w ps):=by
 intro ps a
 have b:=a
 unfold YC at a
 split at a
 ·rename_i t xs v
  simp only[Bool.and_eq_true,decide_eq_true_eq]at a
  obtain⟨ns,rfl⟩:=Rb a.1
  refine FH ns t v b ?_
  have:=c6w (v:=v) (l:=ns) (i:=0)
  simp only[Xk,Qh,Pf,ge_iff_le]
  rw[<- this]
 ·cases a
end Go.Pl
namespace Go.Pl
open Go.RowKit
open Enc (enc dec is)
open EncL (encL decL isL)
set_option maxRecDepth 100000
abbrev g4b(ps:List PV)(k:Int×Er->Prop):Prop:=Ym (fun(x:Str×Unit)=>decide (List.length (Str.s (Prod.fst x))<=1000000)) (fun(x:Str×Unit)=>YN (Prod.fst x)) ps k
abbrev g4v(ps:List PV)(k:Str->Prop):Prop:=Ym (fun(x:Int×Unit)=>decide ((-9223372036854775808:Int)<=Prod.fst x)&&decide (Prod.fst x<=9223372036854775807)) (fun(x:Int×Unit)=>Zp (Prod.fst x)) ps k
abbrev g3h(ps:List PV)(k:Bool->Prop):Prop:=Ym (fun(x:Str×Unit)=>decide (List.length (Str.s (Prod.fst x))<=1000000)) (fun(x:Str×Unit)=>nameB (Prod.fst x)) ps k
abbrev f2v(ps:List PV)(k:Bool->Prop):Prop:=ceP (fun(x:Int×Unit)=>Yp (Prod.fst x)) ps k
noncomputable def Wo:IC:=YI Proofs.Tryz.f128
def WO:List IRes:=[(.tmp 2)]
abbrev c7y:Nat:=67
def Ud:ZC:=Yh [(151,.pure (preT (fun _:Str×Str×Unit=>true)) (Zi (fun x:Str×Str×Unit=>x.2.1.s.isPrefixOf x.1.s))),(152,.pure (preT (fun x:Str×Unit=>decide (x.1.s.length<=1000000))) (Zi (fun x:Str×Unit=>YN x.1))),(87,.pure (preT (fun x:Int×Unit=>decide (-9223372036854775808<=x.1)&&decide (x.1<=9223372036854775807))) (Zi (fun x:Int×Unit=>Zp x.1)))]
abbrev d6b(a:List UInt8):Bool:=(decide (0<=1)&&true&&decide (Int.toNat 1<=List.length a)&&decide (List.length a<=List.length a))
abbrev ER(a:List UInt8):Nat×AV:=(34,(.pv (.sl 1 false (Zk a))))
theorem e6r{G:PV->Prop}(s:List UInt8)(h:Tt (fun(x:Str×Str×Unit)=>List.isPrefixOf (Str.s x.2.1) (Str.s x.1)) [(.str s),(.str [(95:UInt8)])] fun b:Bool=>if (b)=true then(d6b s)=true∧((g4b [(.str (List.drop (Int.toNat 1) (List.take (List.length s) s)))] fun a=>((Ru (enc a.2)&&Prod.fst (true,PV.bool (QF (enc a.2))))=true∧(if (QF (enc a.2))=true then if (decide (a.1>0))=true then if (decide ((↑(List.length s):Int)<=10))=true then(g4v [(.int .i64 a.1)] fun e=>((d6b s)=true∧(G ((.bool (Str.s e==List.drop (Int.toNat 1) (List.take (List.length s) s)))))))else(G ((.bool false)))else(G ((.bool false)))else(G ((.bool false)))))))else(At Ud 0 (Za WO G) Wo 0 67 [(0,(.pv (.str s))),(ER s),(35,(.pv (.int .i64 (↑(List.length (Zk s)):Int)))),(36,(.pv (.int .i64 0)))] [])):Zd Ud 0 (Za WO G) Wo [] (Zx 67 [.str s]):=Zd.tp (dm [dv Bool,dv (Int×Er),dv Str] 70 0x2222222222220222222222022222022212271200a4222201842220294161103e452) h
theorem a1r{G:PV->Prop}(s:List UInt8)(i:Int)(h:if (decide (i<(↑(List.length (Zk s)):Int)))=true then(decide (0<=i)&&decide (Int.toNat i<List.length (Zk s))&&1==1)=true∧((decide (0+List.length [Sh.int IntKind.u8]<=List.length (PV.cells (List.getD (Zk s) (Int.toNat i) default)))&&Yj (PV.cells (List.getD (Zk s) (Int.toNat i) default)) 0 [Sh.int IntKind.u8])=true∧(if (decide (PV.asInt (List.getD (PV.cells (List.getD (Zk s) (Int.toNat i) default)) 0 default)<97))=true then if (i==0)=true then G ((.bool false))else(if (decide (PV.asInt (List.getD (PV.cells (List.getD (Zk s) (Int.toNat i) default)) 0 default)<48))=true then G ((.bool false))else(if (decide (PV.asInt (List.getD (PV.cells (List.getD (Zk s) (Int.toNat i) default)) 0 default)>57))=true then G ((.bool false))else(At Ud 0 (Za WO G) Wo 0 67 [(0,(.pv (.str s))),(ER s),(35,(.pv (.int .i64 (↑(List.length (Zk s)):Int)))),(36,(.pv (.int .i64 (IntKind.wrap IntKind.i64 (i+1)))))] [])))else(if (decide (PV.asInt (List.getD (PV.cells (List.getD (Zk s) (Int.toNat i) default)) 0 default)>122))=true then if (i==0)=true then G ((.bool false))else(if (decide (PV.asInt (List.getD (PV.cells (List.getD (Zk s) (Int.toNat i) default)) 0 default)<48))=true then G ((.bool false))else(if (decide (PV.asInt (List.getD (PV.cells (List.getD (Zk s) (Int.toNat i) default)) 0 default)>57))=true then G ((.bool false))else(At Ud 0 (Za WO G) Wo 0 67 [(0,(.pv (.str s))),(ER s),(35,(.pv (.int .i64 (↑(List.length (Zk s)):Int)))),(36,(.pv (.int .i64 (IntKind.wrap IntKind.i64 (i+1)))))] [])))else(At Ud 0 (Za WO G) Wo 0 67 [(0,(.pv (.str s))),(ER s),(35,(.pv (.int .i64 (↑(List.length (Zk s)):Int)))),(36,(.pv (.int .i64 (IntKind.wrap IntKind.i64 (i+1)))))] []))))else(if (!s==[])=true then G ((.bool (decide ((↑(List.length s):Int)<=30))))else(G ((.bool false))))):At Ud 0 (Za WO G) Wo 0 67 [(0,.pv (.str s)),(34,.pv (.sl 1 false (Zk s))),(35,.pv (.int .i64 (Zk s).length)),(36,.pv (.int .i64 i))] []:=At.tp (dm [] 137 0x22202222005420222222220200014222220222220064222220222222222200b422202d42220200014222220222220064222220222222222200b42222220304213107542) h
noncomputable def VG:IC:=VK
def VA:List IRes:=[(.tmp 2)]
abbrev c1o:Nat:=54
def UM:ZC:=Yh [(129,.pure (preT (fun _:Int×Unit=>true)) (Zi (fun x:Int×Unit=>Yp x.1))),(128,.pure (preT (fun x:Str×Unit=>decide (x.1.s.length<=1000000))) (Zi (fun x:Str×Unit=>nameB x.1)))]
abbrev a7r(a:Lin):Nat×AV:=(6,(.pv (.sl 2 false (List.map enc a.t))))
theorem c8b{G:PV->Prop}(l:Lin)(h:At UM 0 (Za VA G) VG 0 54 [(1,(.ptr 0 0)),(a7r l),(7,(.pv (.int .i64 (↑(List.length (List.map enc l.t)):Int)))),(8,(.pv (.int .i64 0)))] [(.obj (.box [(.pv (.int .i64 l.k)),(.pv (.sl 2 false (List.map enc l.t)))]))]):Zd UM 0 (Za VA G) VG [] (Zx 54 [enc l]):=Zd.tp (.nil) h
theorem MG{G:PV->Prop}(l:Lin)(i:Int)(h:if (decide (i<(↑(List.length l.t):Int)))=true then(Y1 l.t i 2 fun a=>((g3h [(.str (PV.asStr (VD a)))] fun b=>(if (!b)=true then G ((.bool false))else(if (PV.asInt (Tu a)==0)=true then G ((.bool false))else(f2v [(.int .i64 (PV.asInt (Tu a)))] fun e=>(if (!e)=true then G ((.bool false))else(if (decide (i>0))=true then(decide (0<=IntKind.wrap IntKind.i64 (i - 1))&&decide (Int.toNat (IntKind.wrap IntKind.i64 (i - 1))<List.length (List.map enc l.t))&&Enc.sz Coef==2)=true∧(el' l.t (IntKind.wrap IntKind.i64 (i - 1)) fun j:Coef=>if (!Op.bytesLess (PV.asStr (List.getD (List.drop 0 (PV.cells (enc j))) 0 default)) (PV.asStr (VD a)))=true then G ((.bool false))else(At UM 0 (Za VA G) VG 0 54 [(1,(.ptr 0 0)),(a7r l),(7,(.pv (.int .i64 (↑(List.length l.t):Int)))),(8,(.pv (.int .i64 (IntKind.wrap IntKind.i64 (i+1)))))] [(.obj (.box [(.pv (.int .i64 l.k)),(.pv (.sl 2 false (List.map enc l.t)))]))]))else(At UM 0 (Za VA G) VG 0 54 [(1,(.ptr 0 0)),(a7r l),(7,(.pv (.int .i64 (↑(List.length l.t):Int)))),(8,(.pv (.int .i64 (IntKind.wrap IntKind.i64 (i+1)))))] [(.obj (.box [(.pv (.int .i64 l.k)),(.pv (.sl 2 false (List.map enc l.t)))]))])))))))))else(f2v [(.int .i64 l.k)] fun g=>(if (g)=true then G ((.bool (decide ((↑(List.length (List.map enc l.t)):Int)<=12))))else(G ((.bool false)))))):At UM 0 (Za VA G) VG 0 54 [(1,.ptr 0 0),(6,.pv (enc l.t)),(7,.pv (.int .i64 l.t.length)),(8,.pv (.int .i64 i))] [.obj (.box [.pv (.int .i64 l.k),.pv (enc l.t)])]:=At.tp (dm [dr Coef,dv Bool] 128 0x2222022222006462022222222222222020001422222222225122222018422202222200642262220222222222200b4222202222222222222200f46125106942) h
end Go.Pl
namespace Go.Pl
open Go.RowKit
open Enc (enc dec is)
open EncL (encL decL isL)
theorem a1c{s:List UInt8}{i:Nat}(h:i<s.length):List.getD (Zk s) (Int.toNat (i:Int)) default = .int .u8 (s[i].toNat:Int):=by
 simp[Zk,List.getD,h]
theorem Qr(s:List UInt8):(Zk s).length=s.length:=by simp[Zk]
def a6m(c:UInt8):Bool:=lowB c||digB c
theorem EG{c:UInt8}:lowB c=true ↔ 97<=c.toNat∧c.toNat<=122:=by
 simp only[lowB,Bool.and_eq_true,decide_eq_true_eq,UInt8.le_iff_toNat_le]
 have a:(97:UInt8).toNat=97:=rfl
 have b:(122:UInt8).toNat=122:=rfl
 rw[a,b]
theorem Gv{c:UInt8}(h : ¬ (97<=c.toNat∧c.toNat<=122)):lowB c=false:=by
 cases e:lowB c
 ·rfl
 ·exact absurd (EG.1 e) h
theorem Gr{c:UInt8}(h : ¬ (48<=c.toNat∧c.toNat<=57)):digB c=false:=by
 cases e:digB c
 ·rfl
 ·exact absurd (Vj.1 e) h
def XZ(s:List UInt8)(i:Nat):Bool:=(match i with|0=>(match s with|[]=>true|c::r=>lowB c&&r.all a6m)|i+1=>(s.drop (i+1)).all a6m)&&(!(s==[]))&&decide (s.length<=30)
theorem MV{s:List UInt8}{i:Nat}(h:i<s.length)(hb:lowB s[i]=true∨(i≠0∧digB s[i]=true)):XZ s i=XZ s (i+1):=by
 cases i with
 | zero=>
  cases s with
  | nil=>simp at h
  | cons c r=>
   rcases hb with hb|hb
   ·have hb:lowB c=true:=hb
    simp[XZ,hb]
   ·exact absurd rfl hb.1
 | succ i=>
  unfold XZ
  simp only
  rw[List.drop_eq_getElem_cons h,List.all_cons]
  have:a6m s[i+1]=true:=by
   rcases hb with hb|hb
   ·simp[a6m,hb]
   ·simp[a6m,hb.2]
  rw[this,Bool.true_and]
theorem LH{s:List UInt8}{i:Nat}(h:i<s.length)(hb:lowB s[i]=false∧(i=0∨digB s[i]=false)):XZ s i=false:=by
 cases i with
 | zero=>
  cases s with
  | nil=>simp at h
  | cons c r=>
   have hb:lowB c=false:=hb.1
   simp[XZ,hb]
 | succ i=>
  unfold XZ
  simp only
  rw[List.drop_eq_getElem_cons h,List.all_cons]
  have:a6m s[i+1]=false:=by
   rcases hb.2 with h0|h0
   ·cases h0
   ·simp[a6m,hb.1,h0]
  rw[this];simp
theorem b2h(s:List UInt8)(hs:s.length<=1000000): ∀ (m i:Nat),m+i=s.length->At Ud 0 (Za WO (Zf (XZ s i))) Wo 0 67 [(0,.pv (.str s)),(34,.pv (.sl 1 false (Zk s))),(35,.pv (.int .i64 (Zk s).length)),(36,.pv (.int .i64 i))] []:=by
 intro m
 induction m with
 | zero=>
  intro i hi
  have e:XZ s i=(!(s==[])&&decide (s.length<=30)):=by
   unfold XZ
   cases i with
   | zero=>cases s with
    | nil=>rfl
    | cons c r=>simp at hi
   | succ i=>simp only;rw[List.drop_of_length_le (show s.length<=i+1 by omega)];simp
  rw[e]
  refine a1r s i (ZU (Yx (by rw[Qr];omega)) (YV (fun h=>Zl ?_) fun h=>Zl ?_))
  ·rw[h,Bool.true_and];exact decide_eq_decide.2 (by omega)
  ·rw[h,Bool.false_and]
 | succ m ih=>
  intro i hi
  have a:i<s.length:=by omega
  have h:=ih (i+1) (by omega)
  refine a1r s i ?_
  rw[a1c a,next (by omega)]
  have b:(lowB s[i]=false∧(i=0∨digB s[i]=false))->Zf (XZ s i) (.bool false):=fun hb=>Zl (LH a hb).symm
  have go:(lowB s[i]=true∨(i≠0∧digB s[i]=true))->At Ud 0 (Za WO (Zf (XZ s i))) Wo 0 67 [(0,.pv (.str s)),(34,.pv (.sl 1 false (Zk s))),(35,.pv (.int .i64 (Zk s).length)),(36,.pv (.int .i64 ((i+1:Nat):Int)))] []:=fun hb=>by rw[MV a hb];exact h
  have g:lowB s[i]=false->(if ((i:Int)==0)=true then Zf (XZ s i) (.bool false)else if decide ((s[i].toNat:Int)<48)=true then Zf (XZ s i) (.bool false)else if decide ((s[i].toNat:Int)>57)=true then Zf (XZ s i) (.bool false)else At Ud 0 (Za WO (Zf (XZ s i))) Wo 0 67 [(0,.pv (.str s)),(34,.pv (.sl 1 false (Zk s))),(35,.pv (.int .i64 (Zk s).length)),(36,.pv (.int .i64 ((i+1:Nat):Int)))] []):=by
   intro j
   refine Zy (fun k=>b ⟨j,.inl (by omega)⟩) fun k=>ZO (fun h1=>b ⟨j,.inr (Gr (by omega))⟩) fun h1=>ZO (fun h2=>b ⟨j,.inr (Gr (by omega))⟩) fun h2=>go (.inr ⟨by omega,Vj.2 (by omega)⟩)
  refine ZT (Yt (by rw[Qr];exact a)) ⟨by rw[Qr];simp[a],by rfl,?_⟩
  refine ZO (fun h1=>g (Gv ?_)) fun h1=>ZO (fun h2=>g (Gv ?_)) fun h2=>go (.inl (EG.2 ?_))
  ·have h1:(s[i].toNat:Int)<97:=h1
   omega
  ·have h2:(s[i].toNat:Int)>122:=h2
   omega
  ·have h1 : ¬ (s[i].toNat:Int)<97:=h1
   have h2 : ¬ (s[i].toNat:Int)>122:=h2
   omega
theorem Fq{s:List UInt8}(h:[95].isPrefixOf s=false):nameB ⟨s⟩=XZ s 0:=by
 cases s with
 | nil=>rfl
 | cons c r=>
  have hc : ¬ c=95:=by intro e;subst e;simp at h
  have e:decide ((c::r).length<=30)=decide (r.length<=29):=decide_eq_decide.2 (by simp)
  unfold XZ
  rw[e]
  simp only[nameB,if_neg hc]
  show _=(lowB c&&r.all a6m&& !((c::r)==[])&&_)
  have a:((c::r)==[])=false:=rfl
  rw[a]
  simp only[Bool.not_false,Bool.and_true]
  rfl
theorem RU(s:Str): -9223372036854775808<=(YN s).1∧((YN s).1<=9223372036854775807):=by
 unfold YN
 split
 ·rename_i v a;exact Lib.atoiAll_bounds a
 ·have:=Lib.atoiSat_bounds s.s
  exact⟨by show _<=Lib.atoiSat s.s;omega,by show Lib.atoiSat s.s<=_;omega⟩
 ·exact⟨by show(-9223372036854775808:Int)<=0;omega,by show(0:Int)<=_;omega⟩
theorem c2r: ∀ a:Str×Unit,decide (a.1.s.length<=1000000)=true->Zd Ud 0 (Za WO (Zf (nameB a.1))) Wo [] (Zx c7y (encL a)):=by
 rintro⟨⟨s⟩,⟨⟩⟩ b
 have b:s.length<=1000000:=by simpa using b
 refine e6r s (Zb (⟨s⟩,⟨[95]⟩,()) rfl (YV (fun h=> ?_) fun h=> ?_))
 ·have h:[95].isPrefixOf s=true:=h
  obtain⟨r,rfl⟩ : ∃ r,s=95::r:=by
   cases s with
   | nil=>simp at h
   | cons c r=>
    have:95=c:=by simpa using h
    exact⟨r,by rw[this]⟩
  have e:List.drop (Int.toNat 1) (List.take (List.length (95::r)) (95::r))=r:=by rw[List.take_of_length_le (Nat.le_refl _)];rfl
  simp only[e]
  refine⟨by simp,Zc (⟨r⟩,()) rfl (by simp at b ⊢;omega),Zb (⟨r⟩,()) rfl ⟨by show(Ru (enc (YN ⟨r⟩).2)&&true)=true;rw[f2h];rfl,?_⟩⟩
  show if QF (enc (YN ⟨r⟩).2)=true then(if decide ((YN ⟨r⟩).1>0)=true then(if _ then _ else Zf (nameB ⟨95::r⟩) _)else Zf (nameB ⟨95::r⟩) _)else Zf (nameB ⟨95::r⟩) _
  rw[a1q]
  by_cases h9:r.length<=9
  ·rw[<- b4f r h9,decide_eq_true h9,Bool.and_true]
   refine YV (fun h1=>YV (fun h2=>ZT (by simp;omega) ⟨Zc ((YN ⟨r⟩).1,()) rfl (by have:=RU ⟨r⟩;simp;omega),Zb ((YN ⟨r⟩).1,()) rfl ⟨by simp,Zl ?_⟩⟩) fun h2=>Zl ?_) fun h1=>Zl ?_
   ·rw[h1,h2];simp only[Bool.true_and,Bool.and_true];rfl
   ·rw[h2];simp
   ·rw[h1];simp
  ·rw[decide_eq_false h9,Bool.and_false]
   refine YV (fun h1=>YV (fun h2=>ZU (by simp;omega) (Zl rfl)) fun h2=>Zl rfl) fun h1=>Zl rfl
 ·have h:[95].isPrefixOf s=false:=h
  show At Ud 0 (Za WO (Zf (nameB ⟨s⟩))) Wo 0 67 _ _
  rw[Fq h]
  exact b2h s b s.length 0 (by omega)
theorem a0q(l:Lin)(hl:l.t.length<=9223372036854775807)(hs:l.t.all (fun t=>decide (t.v.s.length<=1000000))=true): ∀ (j i:Nat),j+i=l.t.length->At UM 0 (Za VA (Zf (Ah (pvS l.t i) (l.t.drop i)&&(Yp l.k&&decide (l.t.length<=12))))) VG 0 54 [(1,.ptr 0 0),(6,.pv (enc l.t)),(7,.pv (.int .i64 l.t.length)),(8,.pv (.int .i64 i))] [.obj (.box [.pv (.int .i64 l.k),.pv (enc l.t)])]:=by
 intro j
 induction j with
 | zero=>
  intro i hi
  refine MG l i (ZU (Yx (by omega)) (Zb (l.k,()) rfl ?_))
  rw[List.drop_of_length_le (show l.t.length<=i by omega)]
  refine YV (fun h=>Zl ?_) fun h=>Zl ?_
  ·have h:Yp l.k=true:=h
   rw[h]
   show _=(true&&(true&&_))
   rw[Bool.true_and,Bool.true_and]
   exact decide_eq_decide.2 (by simp;omega)
  ·have h:Yp l.k=false:=h
   rw[h];simp
 | succ j ih=>
  intro i hi
  have a:i<l.t.length:=by omega
  have h:=ih (i+1) (by omega)
  have e:l.t[i].v.s.length<=1000000:=by rw[List.all_eq_true]at hs;simpa using hs _ (List.getElem_mem a)
  refine MG l i ?_
  refine ZT (Yt a) ⟨Zq a rfl,ZB a ⟨Zc (l.t[i].v,()) rfl (by simpa using e),Zb (l.t[i].v,()) rfl (YY (fun hn=> ?_) fun hn=>Zy (fun hc=> ?_) fun hc=>Zb (l.t[i].c,()) rfl (YY (fun b=> ?_) fun b=> ?_))⟩⟩
  all_goals rw[List.drop_eq_getElem_cons a,Hz]
  ·have hn:nameB l.t[i].v=false:=hn
   exact Zl (by simp[hn])
  ·have hc:l.t[i].c=0:=hc
   exact Zl (by simp[hc])
  ·have b:Yp l.t[i].c=false:=b
   exact Zl (by simp[b])
  have hn:nameB l.t[i].v=true:=hn
  have b:Yp l.t[i].c=true:=b
  have hc:l.t[i].c≠0:=hc
  rw[next (by omega),hn,b,decide_eq_true hc]
  have m:pvS l.t (i+1)=some l.t[i].v.s:=by simp[pvS,a]
  rw[m]at h
  cases i with
  | zero=>exact ZU (by simp) h
  | succ i=>
   refine ZT (by simp) ?_
   rw[OV (by omega)]
   refine⟨Zq (by omega) rfl,ZB (by omega) ?_⟩
   have q:pvS l.t (i+1)=some l.t[i].v.s:=by simp[pvS,show i<l.t.length by omega]
   rw[q]
   refine YY (fun hb=> ?_) fun hb=> ?_
   all_goals
    have g:=(X9 l.t[i].v.s l.t[i+1].v.s).symm.trans hb
    simp only[g,Bool.and_true,Bool.true_and,Bool.and_false,Bool.false_and]
   ·exact Zl rfl
   ·exact h
theorem b2l: ∀ a:Lin×Unit,Wi a.1=true->Zd UM 0 (Za VA (Zf (Zh a.1))) VG [] (Zx c1o (encL a)):=by
 rintro⟨l,⟨⟩⟩ hl
 simp only[Wi,XM,Bool.and_eq_true,decide_eq_true_eq]at hl
 refine c8b l ?_
 show At UM 0 (Za VA (Zf (Zh l))) VG 0 54 _ _
 have e:Zh l=(Ah (pvS l.t 0) (l.t.drop 0)&&(Yp l.k&&decide (l.t.length<=12))):=by rw[R4,Bool.and_comm];rfl
 rw[e,List.length_map]
 exact a0q l hl.1 hl.2 l.t.length 0 (by omega)
end Go.Pl
namespace Go.Pl
open Go.RowKit
open Enc (enc dec is)
open EncL (encL decL isL)
set_option maxRecDepth 100000
abbrev g5y(ps:List PV)(k:Str->Prop):Prop:=Ym (fun(x:Int×Unit)=>decide ((-9223372036854775808:Int)<=Prod.fst x)&&decide (Prod.fst x<=9223372036854775807)) (fun(x:Int×Unit)=>Zp (Prod.fst x)) ps k
abbrev f1k(ps:List PV)(k:Str->Prop):Prop:=Ym (fun(x:Str×Str×Unit)=>decide (List.length (Str.s (Prod.fst x))<=1000000)) (fun(x:Str×Str×Unit)=>Str.mk (Lib.trimSuffix (Str.s (Prod.fst x)) (Str.s (Prod.fst (Prod.snd x))))) ps k
abbrev g1w(ps:List PV)(k:Bool->Prop):Prop:=Ym (fun(x:Lin×Unit)=>Wi (Prod.fst x)) (fun(x:Lin×Unit)=>Zh (Prod.fst x)) ps k
noncomputable def EW:IC:=YI Proofs.Tryz.f92
def Oa:List IRes:=[]
abbrev e8y:Nat:=33
def b2q:ZC:=Yh [(87,.pure (preT (fun x:Int×Unit=>decide (-9223372036854775808<=x.1)&&decide (x.1<=9223372036854775807))) (Zi (fun x:Int×Unit=>Zp x.1))),(93,.pure (preT (fun x:Str×Str×Unit=>decide (x.1.s.length<=1000000))) (Zi (fun x:Str×Str×Unit=>(⟨Lib.trimSuffix x.1.s x.2.1.s⟩:Str))))]
theorem f6v{G:AV×List AObj×List AObj->Prop}(n:Int)(s o:List UInt8)(h:(g5y [(.int .i64 n)] fun a=>(if (!s==[])=true then if (n==1)=true then(f1k [(.str (Str.s a)),(.str [(49:UInt8)])] fun b=>(if (decide (n ≥ 0))=true then if (!o==[])=true then ZA o [(43:UInt8)]∧(ZA (Str.s b) s∧(ZA (o++[(43:UInt8)]) (Str.s b++s)∧(G (((.tup []),([(.box [(.pv (.str (o++[(43:UInt8)]++(Str.s b++s))))])],[]))))))else(ZA (Str.s b) s∧(ZA o (Str.s b++s)∧(G (((.tup []),([(.box [(.pv (.str (o++(Str.s b++s))))])],[]))))))else(ZA (Str.s b) s∧(ZA o (Str.s b++s)∧(G (((.tup []),([(.box [(.pv (.str (o++(Str.s b++s))))])],[]))))))))else(if (n==(-1:Int))=true then(f1k [(.str (Str.s a)),(.str [(49:UInt8)])] fun e=>(if (decide (n ≥ 0))=true then if (!o==[])=true then ZA o [(43:UInt8)]∧(ZA (Str.s e) s∧(ZA (o++[(43:UInt8)]) (Str.s e++s)∧(G (((.tup []),([(.box [(.pv (.str (o++[(43:UInt8)]++(Str.s e++s))))])],[]))))))else(ZA (Str.s e) s∧(ZA o (Str.s e++s)∧(G (((.tup []),([(.box [(.pv (.str (o++(Str.s e++s))))])],[]))))))else(ZA (Str.s e) s∧(ZA o (Str.s e++s)∧(G (((.tup []),([(.box [(.pv (.str (o++(Str.s e++s))))])],[]))))))))else(if (decide (n ≥ 0))=true then if (!o==[])=true then ZA o [(43:UInt8)]∧(ZA (Str.s a) s∧(ZA (o++[(43:UInt8)]) (Str.s a++s)∧(G (((.tup []),([(.box [(.pv (.str (o++[(43:UInt8)]++(Str.s a++s))))])],[]))))))else(ZA (Str.s a) s∧(ZA o (Str.s a++s)∧(G (((.tup []),([(.box [(.pv (.str (o++(Str.s a++s))))])],[]))))))else(ZA (Str.s a) s∧(ZA o (Str.s a++s)∧(G (((.tup []),([(.box [(.pv (.str (o++(Str.s a++s))))])],[]))))))))else(if (decide (n ≥ 0))=true then if (!o==[])=true then ZA o [(43:UInt8)]∧(ZA (Str.s a) s∧(ZA (o++[(43:UInt8)]) (Str.s a++s)∧(G (((.tup []),([(.box [(.pv (.str (o++[(43:UInt8)]++(Str.s a++s))))])],[]))))))else(ZA (Str.s a) s∧(ZA o (Str.s a++s)∧(G (((.tup []),([(.box [(.pv (.str (o++(Str.s a++s))))])],[]))))))else(ZA (Str.s a) s∧(ZA o (Str.s a++s)∧(G (((.tup []),([(.box [(.pv (.str (o++(Str.s a++s))))])],[])))))))))):Zd b2q 1 (Xw 1 Oa G) EW [] (U7 33 [.pv (enc n),.pv (.str s),.ptr 0 0] [.box [.pv (.str o)]]):=Zd.to (dm [dv Str] 138 0x112220110111004422200e42222220112220110111004422200e420112220110111004422200e425101b4222220112220110111004422200e42512222202042220644251) h
noncomputable def Qu:IC:=YI Proofs.Tryz.f58
def Uu:List IRes:=[(.tmp 2)]
abbrev c2l:Nat:=37
def QR:ZC:=Yh [(91,.pure (preT (fun x:Lin×Unit=>Wi x.1)) (Zi (fun x:Lin×Unit=>Zh x.1))),(92,.own WQ BD)]
theorem e1d{G:PV->Prop}(l:Lin)(h:(g1w [(.agg [(.int .i64 l.k),(.sl 2 false (List.map enc l.t))])] fun a=>(if (!a)=true then G ((.str []))else(At QR 0 (Za Uu G) Qu 0 37 [(1,(.ptr 0 0)),(3,(.ptr 1 0)),(4,(.fn 92 [] [(.ptr 1 0)])),(12,(.pv (.sl 2 false (List.map enc l.t)))),(13,(.pv (.int .i64 (↑(List.length (List.map enc l.t)):Int)))),(14,(.pv (.int .i64 0)))] [(.obj (.box [(.pv (.int .i64 l.k)),(.pv (.sl 2 false (List.map enc l.t)))])),(.obj (.box [(.pv (.str []))]))])))):Zd QR 0 (Za Uu G) Qu [] (Zx 37 [enc l]):=Zd.tp (dm [dv Bool] 9 0x1451) h
theorem Lh{G:PV->Prop}(l:Lin)(o:List UInt8)(i:Int)(h:if (decide (i<(↑(List.length l.t):Int)))=true then(Y1 l.t i 2 fun a=>((WQ [(.pv (.int .i64 (PV.asInt (Tu a)))),(.pv (.str (PV.asStr (VD a)))),(.ptr 0 0)] [(.box [(.pv (.str o))])])=true∧(At QR 0 (Za Uu G) Qu 0 37 [(1,(.ptr 0 0)),(3,(.ptr 1 0)),(4,(.fn 92 [] [(.ptr 1 0)])),(12,(.pv (.sl 2 false (List.map enc l.t)))),(13,(.pv (.int .i64 (↑(List.length l.t):Int)))),(14,(.pv (.int .i64 (IntKind.wrap IntKind.i64 (i+1)))))] [(.obj (.box [(.pv (.int .i64 l.k)),(.pv (.sl 2 false (List.map enc l.t)))])),(.obj (.box [(.pv (.str (XT o (PV.asInt (Tu a)) (PV.asStr (VD a)))))]))])))else(if (l.k != 0)=true then(WQ [(.pv (.int .i64 l.k)),(.pv (.str [])),(.ptr 0 0)] [(.box [(.pv (.str o))])])=true∧(G ((.str (XT o l.k []))))else(if (o==[])=true then(WQ [(.pv (.int .i64 l.k)),(.pv (.str [])),(.ptr 0 0)] [(.box [(.pv (.str o))])])=true∧(G ((.str (XT o l.k []))))else(G ((.str o)))))):At QR 0 (Za Uu G) Qu 0 37 [(1,.ptr 0 0),(3,.ptr 1 0),(4,.fn 92 [] [.ptr 1 0]),(12,.pv (enc l.t)),(13,.pv (.int .i64 l.t.length)),(14,.pv (.int .i64 i))] [.obj (.box [.pv (.int .i64 l.k),.pv (enc l.t)]),.obj (.box [.pv (.str o)])]:=At.tp (dm [dr Coef] 35 0x31003422203122200642023125100742) h
end Go.Pl
namespace Go.Pl
open Go.RowKit
open Enc (enc dec is)
open EncL (encL decL isL)
theorem a2z(s p:List UInt8):(Lib.trimSuffix s p).length<=s.length:=by
 unfold Lib.trimSuffix
 split
 ·rw[List.length_take];omega
 ·exact Nat.le_refl _
theorem c6v: ∀ args os,WQ args os=true->Zd b2q os.length (Xw os.length Oa fun r=>r=BD args os) EW [] (U7 e8y args os):=by
 intro args os h
 unfold WQ at h
 split at h
 ·rename_i n s o
  simp only[Bool.and_eq_true,decide_eq_true_eq]at h
  obtain⟨⟨⟨k,l⟩,hs⟩,ho⟩:=h
  have ev:BD [.pv (.int .i64 n),.pv (.str s),.ptr 0 0] [.box [.pv (.str o)]]=(.tup [],[.box [.pv (.str (XT o n s))]],[]):=rfl
  rw[ev]
  have hi:=Lib.itoa_length_le n k l
  have hi:(Zp n).s.length<=21:=hi
  have ht:=a2z (Zp n).s [49]
  have fin : ∀ (b:Bool) (x:List UInt8),x.length<=21->(decide (s≠[])&&(decide (n=1)||decide (n = -1)))=b->x=(if b then Lib.trimSuffix (Zp n).s [49]else(Zp n).s) ->
    (if decide (n ≥ 0)=true then(if (!o==[])=true then(decide (o.length+List.length [(43:UInt8)]<=1099511627776)=true∧(decide (x.length+s.length<=1099511627776)=true∧(decide (List.length (o++[(43:UInt8)])+List.length (x++s)<=1099511627776)=true∧((AV.tup [],[AObj.box [.pv (.str (o++[(43:UInt8)]++(x++s)))]],([]:List AObj))=(.tup [],[.box [.pv (.str (XT o n s))]],[])))))
     else(decide (x.length+s.length<=1099511627776)=true∧(decide (o.length+List.length (x++s)<=1099511627776)=true∧((AV.tup [],[AObj.box [.pv (.str (o++(x++s)))]],([]:List AObj))=(.tup [],[.box [.pv (.str (XT o n s))]],[])))))
    else(decide (x.length+s.length<=1099511627776)=true∧(decide (o.length+List.length (x++s)<=1099511627776)=true∧((AV.tup [],[AObj.box [.pv (.str (o++(x++s)))]],([]:List AObj))=(.tup [],[.box [.pv (.str (XT o n s))]],[]))))):=by
   intro b x hx hb g
   have j : ∀ e:List UInt8,e=(if decide (n ≥ 0)&&decide (o≠[])then o++[43]else o)->XT o n s=e++(x++s):=by
    intro e h2
    unfold XT
    rw[hb,<- h2,<- g]
   refine ZO (fun i=>DW (fun h1=> ?_) fun h1=> ?_) fun i=> ?_
   ·have h1:o≠[]:=by simpa using h1
    refine⟨by simp;omega,by simp;omega,by simp;omega,?_⟩
    rw[j (o++[43]) (by simp[i,h1])]
   ·have h1:o=[]:=by simpa using h1
    refine⟨by simp;omega,by simp;omega,?_⟩
    rw[j o (by simp[h1])]
   ·refine⟨by simp;omega,by simp;omega,?_⟩
    rw[j o (by simp[i])]
  refine f6v n s o ⟨Zc (n,()) rfl (by show(decide (-9223372036854775808<=n)&&decide (n<=9223372036854775807))=true;rw[decide_eq_true k,decide_eq_true l];rfl),Zb (n,()) rfl (DW (fun h1=> ?_) fun h1=> ?_)⟩
  ·have h1:s≠[]:=by simpa using h1
   have a:decide ((Zp n).s.length<=1000000)=true:=decide_eq_true (by omega)
   refine Zy (fun h2=> ?_) fun h2=>Zy (fun h3=> ?_) fun h3=> ?_
   ·have h2:n=1:=h2
    exact⟨Zc (Zp n,(⟨[49]⟩:Str),()) rfl a,Zb (Zp n,(⟨[49]⟩:Str),()) rfl (fin true _ (by show(Lib.trimSuffix (Zp n).s [49]).length<=21;omega) (by simp[h1,h2]) rfl)⟩
   ·have h3:n = -1:=h3
    exact⟨Zc (Zp n,(⟨[49]⟩:Str),()) rfl a,Zb (Zp n,(⟨[49]⟩:Str),()) rfl (fin true _ (by show(Lib.trimSuffix (Zp n).s [49]).length<=21;omega) (by simp[h1,h3]) rfl)⟩
   ·have h2:n≠1:=h2
    have h3:n ≠ -1:=h3
    exact fin false _ hi (by simp[h2,h3]) rfl
  ·have h1:s=[]:=by simpa using h1
   exact fin false _ hi (by simp[h1]) rfl
 ·cases h
theorem d7v(o:List UInt8)(n:Int)(s:List UInt8)(a : -9223372036854775808<=n)(b:n<=9223372036854775807):(XT o n s).length<=o.length+1+21+s.length:=by
 have hi:=Lib.itoa_length_le n a b
 have hi:(Zp n).s.length<=21:=hi
 have ht:=a2z (Zp n).s [49]
 unfold XT
 split <;> split <;> simp <;> omega
theorem a1k(l:Lin)(e:Zh l=true): ∀ (m i:Nat) (o:List UInt8),m+i=l.t.length->o.length<=100*i ->
  At QR 0 (Za Uu (Zf (⟨if decide (l.k≠0)||decide ((l.t.drop i).foldl (fun o t=>XT o t.c t.v.s) o=[])then XT ((l.t.drop i).foldl (fun o t=>XT o t.c t.v.s) o) l.k []else(l.t.drop i).foldl (fun o t=>XT o t.c t.v.s) o⟩:Str))) Qu 0 37 [(1,.ptr 0 0),(3,.ptr 1 0),(4,.fn 92 [] [.ptr 1 0]),(12,.pv (enc l.t)),(13,.pv (.int .i64 l.t.length)),(14,.pv (.int .i64 i))] [.obj (.box [.pv (.int .i64 l.k),.pv (enc l.t)]),.obj (.box [.pv (.str o)])]:=by
 have hlen:=Uj e
 have hk:=Ox e
 intro m
 induction m with
 | zero=>
  intro i o hi ho
  have g:l.t.drop i=[]:=List.drop_of_length_le (by omega)
  rw[g,List.foldl_nil]
  have b:WQ [.pv (.int .i64 l.k),.pv (.str []),.ptr 0 0] [.box [.pv (.str o)]]=true:=by
   simp only[WQ,Bool.and_eq_true,decide_eq_true_eq,List.length_nil]
   exact⟨⟨⟨by omega,by omega⟩,by omega⟩,by omega⟩
  refine Lh l o i (ZU (Yx (by omega)) (DW (fun h1=>⟨b,?_⟩) fun h1=>Zy (fun h2=>⟨b,?_⟩) fun h2=> ?_))
  ·have h1:l.k≠0:=by simpa using h1
   rw[if_pos (by simp[h1])]
   exact⟨rfl,rfl⟩
  ·have h2:o=[]:=h2
   rw[if_pos (by simp[h2])]
   exact⟨rfl,rfl⟩
  ·have h1:l.k=0:=by simpa using h1
   have h2:o≠[]:=h2
   rw[if_neg (by simp[h1,h2])]
   exact⟨rfl,rfl⟩
 | succ m ih=>
  intro i o hi ho
  have a:i<l.t.length:=by omega
  have g:l.t.drop i=l.t[i]::l.t.drop (i+1):=List.drop_eq_getElem_cons a
  rw[g,List.foldl_cons]
  obtain⟨h,c1,c2,c3⟩:=WK e (List.getElem_mem a)
  have hn:=Vh h
  have hpl:=d7v o l.t[i].c l.t[i].v.s (by omega) (by omega)
  refine Lh l o i (ZT (Yt a) ⟨Zq a rfl,ZB a ⟨?_,?_⟩⟩)
  ·have b:WQ [.pv (.int .i64 l.t[i].c),.pv (.str l.t[i].v.s),.ptr 0 0] [.box [.pv (.str o)]]=true:=by
    simp only[WQ,Bool.and_eq_true,decide_eq_true_eq]
    exact⟨⟨⟨by omega,by omega⟩,by omega⟩,by omega⟩
   exact b
  ·rw[next (by omega)]
   exact ih (i+1) (XT o l.t[i].c l.t[i].v.s) (by omega) (by omega)
theorem b2e: ∀ a:Lin×Unit,Wi a.1=true->Zd QR 0 (Za Uu (Zf (⟨ZE a.1⟩:Str))) Qu [] (Zx c2l (encL a)):=by
 rintro⟨l,⟨⟩⟩ h
 show Zd QR 0 (Za Uu (Zf (⟨ZE l⟩:Str))) _ _ _
 refine e1d l ⟨Zc (l,()) rfl h,Zb (l,()) rfl (YY (fun b=> ?_) fun b=> ?_)⟩
 ·have b:Zh l=false:=b
  unfold ZE
  rw[b]
  exact⟨rfl,rfl⟩
 ·have b:Zh l=true:=b
  unfold ZE
  rw[b,if_pos rfl,List.length_map]
  exact a1k l b l.t.length 0 [] (by omega) (by simp)
end Go.Pl
namespace Go.Pl
open Go.RowKit
open Enc (enc dec is)
open EncL (encL decL isL)
set_option maxRecDepth 100000
abbrev g4y(ps:List PV)(k:Int×Er->Prop):Prop:=Ym (fun(x:Str×Unit)=>decide (List.length (Str.s (Prod.fst x))<=281474976710656)) (fun(x:Str×Unit)=>YN (Prod.fst x)) ps k
abbrev g5c(ps:List PV)(k:Str->Prop):Prop:=Ym (fun(x:Int×Unit)=>decide ((-9223372036854775808:Int)<=Prod.fst x)&&decide (Prod.fst x<=9223372036854775807)) (fun(x:Int×Unit)=>Zp (Prod.fst x)) ps k
noncomputable def U0:IC:=YI Proofs.Tryz.f101
def UL:List IRes:=[(.tmp 2)]
abbrev c7i:Nat:=20
def Q6:ZC:=Yh []
-- IMPOSSIBLE
abbrev b3a(a:Lin):Nat×AV:=(7,(.pv (.sl 2 false (List.map enc a.t))))
theorem e0x{G:PV->Prop}(l:Lin)(h:At Q6 0 (Za UL G) U0 0 20 [(3,(.pv (.sl 0 true []))),(b3a l),(8,(.pv (.int .i64 (↑(List.length (List.map enc l.t)):Int)))),(9,(.pv (.int .i64 0)))] []):Zd Q6 0 (Za UL G) U0 [] (Zx 20 [enc l]):=Zd.tp (.nil) h
theorem PX{G:PV->Prop}(l:Lin)(i:Int)(h:if (decide (i<(↑(List.length l.t):Int)))=true then(Y1 l.t i 2 fun a=>(At Q6 0 (Za UL G) U0 0 20 [(3,(.row 0 1 0 1)),(b3a l),(8,(.pv (.int .i64 (↑(List.length l.t):Int)))),(9,(.pv (.int .i64 (IntKind.wrap IntKind.i64 (i+1)))))] [(.obj (.row false 9 1 [(.str (PV.asStr (VD a)))]))]))else(G ((.sl 0 true [])))):At Q6 0 (Za UL G) U0 0 20 [(3,.pv (.sl 0 true [])),(7,.pv (enc l.t)),(8,.pv (.int .i64 l.t.length)),(9,.pv (.int .i64 i))] []:=At.tp (dm [dr Coef] 17 0x22222225100a42) h
theorem Pi{G:PV->Prop}(l:Lin)(i:Int)(q:Nat)(vs:List Str)(h:if (decide (i<(↑(List.length l.t):Int)))=true then(Y1 l.t i 2 fun a=>((List.length (List.map enc vs)==q&&q==q&&decide ((q+List.length (List.drop 0 (List.take 1 [Sh.co Sh.str (VD a)])))*16<=1099511627776)&&decide (q+List.length (List.drop 0 (List.take 1 [Sh.co Sh.str (VD a)]))<=1099511627776))=true∧(At Q6 0 (Za UL G) U0 0 20 [(3,(.row 0 (q+List.length (List.drop 0 (List.take 1 [Sh.co Sh.str (VD a)]))) 0 (q+List.length (List.drop 0 (List.take 1 [Sh.co Sh.str (VD a)]))))),(b3a l),(8,(.pv (.int .i64 (↑(List.length l.t):Int)))),(9,(.pv (.int .i64 (IntKind.wrap IntKind.i64 (i+1)))))] [(.obj (.row false 9 1 (List.map enc vs++List.drop 0 (List.take 1 [Sh.co Sh.str (VD a)]))))])))else((List.length (List.map enc vs)==q)=true∧(G ((.sl 1 false (List.drop 0 (List.take q (List.map enc vs)))))))):At Q6 0 (Za UL G) U0 0 20 [(3,.row 0 q 0 q),(7,.pv (enc l.t)),(8,.pv (.int .i64 l.t.length)),(9,.pv (.int .i64 i))] [.obj (.row false 9 1 (vs.map enc))]:=At.tp (dm [dr Coef] 16 0x10212225100842) h
noncomputable def X0:IC:=Wo
def XV:List IRes:=[(.tmp 2)]
abbrev c0j:Nat:=67
def WN:ZC:=Yh [(151,.pure (preT (fun _:Str×Str×Unit=>true)) (Zi (fun x:Str×Str×Unit=>x.2.1.s.isPrefixOf x.1.s))),(152,.pure (preT (fun x:Str×Unit=>decide (x.1.s.length<=281474976710656))) (Zi (fun x:Str×Unit=>YN x.1))),(87,.pure (preT (fun x:Int×Unit=>decide (-9223372036854775808<=x.1)&&decide (x.1<=9223372036854775807))) (Zi (fun x:Int×Unit=>Zp x.1)))]
abbrev d9i(a:List UInt8):Bool:=(decide (0<=1)&&true&&decide (Int.toNat 1<=List.length a)&&decide (List.length a<=List.length a))
abbrev Oj(a:List UInt8):Nat×AV:=(34,(.pv (.sl 1 false (Zk a))))
theorem d8y{G:PV->Prop}(s:List UInt8)(h:Tt (fun(x:Str×Str×Unit)=>List.isPrefixOf (Str.s x.2.1) (Str.s x.1)) [(.str s),(.str [(95:UInt8)])] fun b:Bool=>if (b)=true then(d9i s)=true∧((g4y [(.str (List.drop (Int.toNat 1) (List.take (List.length s) s)))] fun a=>((Ru (enc a.2)&&Prod.fst (true,PV.bool (QF (enc a.2))))=true∧(if (QF (enc a.2))=true then if (decide (a.1>0))=true then if (decide ((↑(List.length s):Int)<=10))=true then(g5c [(.int .i64 a.1)] fun e=>((d9i s)=true∧(G ((.bool (Str.s e==List.drop (Int.toNat 1) (List.take (List.length s) s)))))))else(G ((.bool false)))else(G ((.bool false)))else(G ((.bool false)))))))else(At WN 0 (Za XV G) X0 0 67 [(0,(.pv (.str s))),(Oj s),(35,(.pv (.int .i64 (↑(List.length (Zk s)):Int)))),(36,(.pv (.int .i64 0)))] [])):Zd WN 0 (Za XV G) X0 [] (Zx 67 [.str s]):=Zd.tp (dm [dv Bool,dv (Int×Er),dv Str] 70 0x2222222222220222222222022222022212271200a4222201842220294161103e452) h
theorem Ma{G:PV->Prop}(s:List UInt8)(i:Int)(h:if (decide (i<(↑(List.length (Zk s)):Int)))=true then(decide (0<=i)&&decide (Int.toNat i<List.length (Zk s))&&1==1)=true∧((decide (0+List.length [Sh.int IntKind.u8]<=List.length (PV.cells (List.getD (Zk s) (Int.toNat i) default)))&&Yj (PV.cells (List.getD (Zk s) (Int.toNat i) default)) 0 [Sh.int IntKind.u8])=true∧(if (decide (PV.asInt (List.getD (PV.cells (List.getD (Zk s) (Int.toNat i) default)) 0 default)<97))=true then if (i==0)=true then G ((.bool false))else(if (decide (PV.asInt (List.getD (PV.cells (List.getD (Zk s) (Int.toNat i) default)) 0 default)<48))=true then G ((.bool false))else(if (decide (PV.asInt (List.getD (PV.cells (List.getD (Zk s) (Int.toNat i) default)) 0 default)>57))=true then G ((.bool false))else(At WN 0 (Za XV G) X0 0 67 [(0,(.pv (.str s))),(Oj s),(35,(.pv (.int .i64 (↑(List.length (Zk s)):Int)))),(36,(.pv (.int .i64 (IntKind.wrap IntKind.i64 (i+1)))))] [])))else(if (decide (PV.asInt (List.getD (PV.cells (List.getD (Zk s) (Int.toNat i) default)) 0 default)>122))=true then if (i==0)=true then G ((.bool false))else(if (decide (PV.asInt (List.getD (PV.cells (List.getD (Zk s) (Int.toNat i) default)) 0 default)<48))=true then G ((.bool false))else(if (decide (PV.asInt (List.getD (PV.cells (List.getD (Zk s) (Int.toNat i) default)) 0 default)>57))=true then G ((.bool false))else(At WN 0 (Za XV G) X0 0 67 [(0,(.pv (.str s))),(Oj s),(35,(.pv (.int .i64 (↑(List.length (Zk s)):Int)))),(36,(.pv (.int .i64 (IntKind.wrap IntKind.i64 (i+1)))))] [])))else(At WN 0 (Za XV G) X0 0 67 [(0,(.pv (.str s))),(Oj s),(35,(.pv (.int .i64 (↑(List.length (Zk s)):Int)))),(36,(.pv (.int .i64 (IntKind.wrap IntKind.i64 (i+1)))))] []))))else(if (!s==[])=true then G ((.bool (decide ((↑(List.length s):Int)<=30))))else(G ((.bool false))))):At WN 0 (Za XV G) X0 0 67 [(0,.pv (.str s)),(34,.pv (.sl 1 false (Zk s))),(35,.pv (.int .i64 (Zk s).length)),(36,.pv (.int .i64 i))] []:=At.tp (dm [] 137 0x22202222005420222222220200014222220222220064222220222222222200b422202d42220200014222220222220064222220222222222200b42222220304213107542) h
end Go.Pl
namespace Go.Pl
open Go.RowKit
open Enc (enc dec is)
open EncL (encL decL isL)
theorem a2b(s:List UInt8)(hs:s.length<=281474976710656): ∀ (m i:Nat),m+i=s.length->At WN 0 (Za XV (Zf (XZ s i))) X0 0 67 [(0,.pv (.str s)),(34,.pv (.sl 1 false (Zk s))),(35,.pv (.int .i64 (Zk s).length)),(36,.pv (.int .i64 i))] []:=by
 intro m
 induction m with
 | zero=>
  intro i hi
  have e:XZ s i=(!(s==[])&&decide (s.length<=30)):=by
   unfold XZ
   cases i with
   | zero=>cases s with
    | nil=>rfl
    | cons c r=>simp at hi
   | succ i=>simp only;rw[List.drop_of_length_le (show s.length<=i+1 by omega)];simp
  rw[e]
  refine Ma s i (ZU (Yx (by rw[Qr];omega)) (YV (fun h=>Zl ?_) fun h=>Zl ?_))
  ·rw[h,Bool.true_and];exact decide_eq_decide.2 (by omega)
  ·rw[h,Bool.false_and]
 | succ m ih=>
  intro i hi
  have a:i<s.length:=by omega
  have h:=ih (i+1) (by omega)
  refine Ma s i ?_
  rw[a1c a,next (by omega)]
  have b:(lowB s[i]=false∧(i=0∨digB s[i]=false))->Zf (XZ s i) (.bool false):=fun hb=>Zl (LH a hb).symm
  have go:(lowB s[i]=true∨(i≠0∧digB s[i]=true))->At WN 0 (Za XV (Zf (XZ s i))) X0 0 67 [(0,.pv (.str s)),(34,.pv (.sl 1 false (Zk s))),(35,.pv (.int .i64 (Zk s).length)),(36,.pv (.int .i64 ((i+1:Nat):Int)))] []:=fun hb=>by rw[MV a hb];exact h
  have g:lowB s[i]=false->(if ((i:Int)==0)=true then Zf (XZ s i) (.bool false)else if decide ((s[i].toNat:Int)<48)=true then Zf (XZ s i) (.bool false)else if decide ((s[i].toNat:Int)>57)=true then Zf (XZ s i) (.bool false)else At WN 0 (Za XV (Zf (XZ s i))) X0 0 67 [(0,.pv (.str s)),(34,.pv (.sl 1 false (Zk s))),(35,.pv (.int .i64 (Zk s).length)),(36,.pv (.int .i64 ((i+1:Nat):Int)))] []):=by
   intro j
   refine Zy (fun k=>b ⟨j,.inl (by omega)⟩) fun k=>ZO (fun h1=>b ⟨j,.inr (Gr (by omega))⟩) fun h1=>ZO (fun h2=>b ⟨j,.inr (Gr (by omega))⟩) fun h2=>go (.inr ⟨by omega,Vj.2 (by omega)⟩)
  refine ZT (Yt (by rw[Qr];exact a)) ⟨by rw[Qr];simp[a],by rfl,?_⟩
  refine ZO (fun h1=>g (Gv ?_)) fun h1=>ZO (fun h2=>g (Gv ?_)) fun h2=>go (.inl (EG.2 ?_))
  ·have h1:(s[i].toNat:Int)<97:=h1
   omega
  ·have h2:(s[i].toNat:Int)>122:=h2
   omega
  ·have h1 : ¬ (s[i].toNat:Int)<97:=h1
   have h2 : ¬ (s[i].toNat:Int)>122:=h2
   omega
theorem a8j: ∀ a:Str×Unit,decide (a.1.s.length<=281474976710656)=true->Zd WN 0 (Za XV (Zf (nameB a.1))) X0 [] (Zx c0j (encL a)):=by
 rintro⟨⟨s⟩,⟨⟩⟩ b
 have b:s.length<=281474976710656:=by simpa using b
 refine d8y s (Zb (⟨s⟩,⟨[95]⟩,()) rfl (YV (fun h=> ?_) fun h=> ?_))
 ·have h:[95].isPrefixOf s=true:=h
  obtain⟨r,rfl⟩ : ∃ r,s=95::r:=by
   cases s with
   | nil=>simp at h
   | cons c r=>
    have:95=c:=by simpa using h
    exact⟨r,by rw[this]⟩
  have e:List.drop (Int.toNat 1) (List.take (List.length (95::r)) (95::r))=r:=by rw[List.take_of_length_le (Nat.le_refl _)];rfl
  simp only[e]
  refine⟨by simp,Zc (⟨r⟩,()) rfl (by simp at b ⊢;omega),Zb (⟨r⟩,()) rfl ⟨by show(Ru (enc (YN ⟨r⟩).2)&&true)=true;rw[f2h];rfl,?_⟩⟩
  show if QF (enc (YN ⟨r⟩).2)=true then(if decide ((YN ⟨r⟩).1>0)=true then(if _ then _ else Zf (nameB ⟨95::r⟩) _)else Zf (nameB ⟨95::r⟩) _)else Zf (nameB ⟨95::r⟩) _
  rw[a1q]
  by_cases h9:r.length<=9
  ·rw[<- b4f r h9,decide_eq_true h9,Bool.and_true]
   refine YV (fun h1=>YV (fun h2=>ZT (by simp;omega) ⟨Zc ((YN ⟨r⟩).1,()) rfl (by have:=RU ⟨r⟩;simp;omega),Zb ((YN ⟨r⟩).1,()) rfl ⟨by simp,Zl ?_⟩⟩) fun h2=>Zl ?_) fun h1=>Zl ?_
   ·rw[h1,h2];simp only[Bool.true_and,Bool.and_true];rfl
   ·rw[h2];simp
   ·rw[h1];simp
  ·rw[decide_eq_false h9,Bool.and_false]
   refine YV (fun h1=>YV (fun h2=>ZU (by simp;omega) (Zl rfl)) fun h2=>Zl rfl) fun h1=>Zl rfl
 ·have h:[95].isPrefixOf s=false:=h
  show At WN 0 (Za XV (Zf (nameB ⟨s⟩))) X0 0 67 _ _
  rw[Fq h]
  exact a2b s b s.length 0 (by omega)
end Go.Pl
namespace Go.Pl
theorem e7v{T:ZC}{k:Nat}{ic:IC}{K:List Fr}{st:St}{rs:List IRes}{p:PV}(h:Zd T k (Za rs fun r=>r=p) ic K st):Zd T k (fun st=>fin st rs=some p) ic K st:=by
 have e:Za rs (fun r=>r=p)=fun st=>fin st rs=some p:=by
  funext st
  apply propext
  constructor
  ·rintro⟨q,k,rfl⟩;exact k
  ·intro k;exact⟨p,k,rfl⟩
 rw[<- e];exact h
end Go.Pl
