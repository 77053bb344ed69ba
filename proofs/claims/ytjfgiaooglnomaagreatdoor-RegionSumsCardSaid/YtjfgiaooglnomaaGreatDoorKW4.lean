/-
  Texts of mine that belong together (packed by pack.py), for every input: QGp, QLr, GLm, GLk, QLk, GLn, QLn, QLo, QLp, QRa, QRb, QRc, TyQ, GLu, GLt, QRs, QRt, QRu, QRv, GLv, QRw, QRx, TyRb, TyRc, TyPo, QGd, GRc, QRd, QRe, GRd, QRf, TyRd, GRx, QRg, GPv, QPv, GPw, QPw, GPs, TyPs, QPs, TyAw, GAw, QAw, GLp10, QRh, QRi, QRk, QRj.
-/
import Derived.Test.YtjfgiaooglnomaaGreatDoorKW2
import Derived.Test.YtjfgiaooglnomaaGreatDoorKW3
import Derived.KernelRfl
import Derived.Lib.SlicesCompact
set_option linter.unusedVariables false
set_option linter.unusedSimpArgs false
namespace Go.Pl
open Go.RowKit
open Enc (enc dec is)
open EncL (encL decL isL)
theorem Si{l:List Int}{i:Nat}(h:i<l.length):List.getD (List.map (enc:Int->PV) l) (0+Int.toNat (i:Int)) default=enc l[i]:=by simp[List.getD,h]
theorem Ml(b:BoxT)(p:List Int)(hb:b.v.length<=1000)(hp:p.length<=1000): ∀ (k i:Nat),k+i=min b.v.length p.length->1<=i ->
  At Vi 1 (U0 1 Wp fun r=> ∃ q q',r.1 = .pv q∧Sub q q'∧((.pv (.sl 2 false ((Zi b.v p).map enc)),[.row false 3 1 (p.map enc)],[]):AV×List AObj×List AObj)=(.pv q',r.2)) Wh 0 31 [(1,.row 0 p.length 0 p.length),(2,.ptr 1 0),(5,.row 2 i 0 i),(12,.pv (.int .i64 ((min b.v.length p.length:Nat):Int))),(13,.pv (.int .i64 i))] [.obj (.row false 3 1 (p.map enc)),.obj (.box [.pv (enc b.v),.pv (.int .i64 b.m)]),.obj (.row false 63 2 ((Zi (b.v.take i) (p.take i)).map enc))]:=by
 intro k
 induction k with
 | zero=>
  intro i hi h1
  have hl:=FE b.v p (i:=i) (by omega) (by omega)
  refine Ae b p.length p _ i i (Zi (b.v.take i) (p.take i)) (ZN (Ye (by omega)) ⟨by simp[hl],?_⟩)
  rw[List.drop_zero,List.take_of_length_le (by rw[List.length_map,hl];exact Nat.le_refl _),b1h b.v p (by omega)]
  exact⟨_,_,rfl,Sub.refl _,rfl⟩
 | succ k ih=>
  intro i hi h1
  have hl:=FE b.v p (i:=i) (by omega) (by omega)
  have hlt:i<b.v.length:=by omega
  have hlt2:i<p.length:=by omega
  have e:=Si hlt2
  refine Ae b p.length p _ i i (Zi (b.v.take i) (p.take i)) (ZU (Z9 (by omega)) ⟨Zq hlt rfl,ZF hlt ⟨by simp;omega,by simp;omega,?_,?_,?_⟩⟩)
  ·rw[e];rfl
  ·rw[List.length_map,hl]
   show((i==i)&&(i==i)&&decide ((i+1)*24<=1099511627776)&&decide (i+1<=1099511627776))=true
   rw[decide_eq_true (by omega),decide_eq_true (by omega)];simp
  ·have:=ih (i+1) (by omega) (by omega)
   rw[RI b.v p hlt hlt2,List.map_append,<- next (by omega)]at this
   rw[e]
   exact this
theorem LU(l:List Int):b6f (l.map enc)=l:=Enc.dec_enc l
theorem EC: ∀ args os,QQ args os=true->Zc Vi os.length (U0 os.length Wp fun r=> ∃ p p',r.1 = .pv p∧Sub p p'∧Jc args os=(.pv p',r.2)) Wh [] (YR a4l args os):=by
 intro args os h
 unfold QQ at h
 split at h
 ·rename_i v k n m ty xs
  simp only[Bool.and_eq_true,beq_iff_eq,decide_eq_true_eq]at h
  obtain⟨⟨⟨⟨⟨⟨rfl,h2⟩,rfl⟩,h4⟩,h5⟩,h6⟩,h7⟩:=h
  obtain⟨p,hp⟩:=YC h4
  have hp:PV.sl 1 false xs=PV.sl 1 false (p.map enc):=hp
  injection hp with _ _ hx
  subst hx
  obtain⟨bv,rfl⟩:=YC h5
  rw[Enc.dec_enc]at h6
  rw[List.length_map]at h2
  subst h2
  have ev:Jc [.pv (.agg [enc bv,.int .i64 k]),.row 0 p.length 0 p.length] [.row false 3 1 (p.map enc)]=(.pv (.sl 2 false ((Zi bv p).map enc)),[.row false 3 1 (p.map enc)],[]):=by
   show(AV.pv (.sl 2 false ((Zi (dec (enc bv:PV)) (b6f (p.map enc))).map enc)),_,_)=_
   rw[Enc.dec_enc,LU]
  rw[ev]
  refine b5r ⟨bv,k⟩ p.length p ?_
  simp only[List.length_map]
  rw[if_neg (by decide)]
  have em:(if ((bv.length:Nat):Int)<((p.length - 0:Nat):Int)then(bv.length:Int)else((p.length - 0:Nat):Int))=((min bv.length p.length:Nat):Int):=by
   split <;> omega
  rw[em]
  by_cases h0:min bv.length p.length=0
  ·rw[h0]
   refine A8 ⟨bv,k⟩ p.length p 0 0 (ZN (by decide) ?_)
   have:Zi bv p=[]:=by
    rw[<- List.length_eq_zero_iff];unfold Zi;rw[List.length_zipWith];exact h0
   rw[this]
   exact⟨_,_,rfl,Sub.sl0 0 2 true,rfl⟩
  ·have hlt:0<bv.length:=by omega
   have hlt2:0<p.length:=by omega
   have e:=Si hlt2
   refine A8 ⟨bv,k⟩ p.length p _ 0 (ZU (Z9 (i:=0) (by omega)) ⟨Zq hlt rfl,ZF hlt ⟨by simp;omega,by simp;omega,?_,?_⟩⟩)
   ·have e:List.getD (List.map (enc:Int->PV) p) (0+Int.toNat 0) default=enc p[0]:=e
    rw[e];rfl
   ·have:=Ml ⟨bv,k⟩ p h6 h7 (min bv.length p.length - 1) 1 (by show min bv.length p.length - 1+1=min bv.length p.length;omega) (by omega)
    rw[show(1:Nat)=0+1 from rfl,RI bv p hlt hlt2]at this
    have e:List.getD (List.map (enc:Int->PV) p) (0+Int.toNat 0) default=enc p[0]:=e
    rw[e]
    exact this
 ·cases h
def Js(l:Nat)(b:BoxT)(fs:List Fact)(n:Nat):List AV:=ZX 52 0 [(0,.yld l),(1,.pv (.rptr [enc b.v,.int .i64 b.m])),(2,.pv (.rptr [enc fs])),(4,.row 0 n 0 n)]
def YJ(p:List Int):Zw:=[.obj (.row false 3 1 (p.map enc))]
def b3q(l:Nat)(b:BoxT)(fs:List Fact)(n:Nat)(p:List Int):List AV:=ZX 52 0 [(0,.yld l),(1,.pv (.rptr [enc b.v,.int .i64 b.m])),(2,.pv (.rptr [enc fs])),(4,.row 0 n 0 n),(5,.pv (enc (Zi b.v p)))]
theorem c0d(l:Nat)(b:BoxT)(fs:List Fact)(hb:b.v.length<=1000):ZI a2s (fun n S' _=>n=99∧S'=⟨Js l b fs b.v.length,YJ (V6 b.v)⟩) 0 (Zl 0 Ew fun _=>False) (.inl Pz) [.seq (.ext 99 [0,1,2,4])] ⟨ZX 52 0 [(0,.yld l),(1,.pv (.rptr [enc b.v,.int .i64 b.m])),(2,.pv (.rptr [enc fs]))],[]⟩:=by
 have e:PV.asXs (List.getD (List.drop 0 [enc b.v,PV.int .i64 b.m]) 0 default)=b.v.map enc:=rfl
 have en:Int.toNat ((List.length (List.map (enc:Str->PV) b.v):Nat):Int)=b.v.length:=by simp
 have ez:List.replicate b.v.length (PV.int .i64 0)=(V6 b.v).map enc:=by
  unfold V6
  rw[List.map_map]
  exact(List.map_const' ..).symm
 refine c5b (G:=fun _=>False) _ l b fs ⟨?_,rfl,?_⟩
 ·simp only[e,List.length_map]
  simp
  omega
 ·simp only[e,en,ez]
  rfl
theorem b8u(l:Nat)(b:BoxT)(fs:List Fact)(p:List Int)(hb:b.v.length<=1000)(hp:p.length<=1000):ZI b6j (fun n S' _=>n=99∧S'=⟨b3q l b fs p.length p,YJ p⟩) 1 (Zl 1 OV fun _=>False) (.inl PE) [.seq (.ext 99 [0,1,2,4,5])] ⟨Js l b fs p.length,YJ p⟩:=by
 refine c7k (G:=fun _=>False) _ l b fs p.length p ⟨?_,rfl,?_⟩
 ·show(p.length==p.length&&(p.map enc).length==p.length&&3==3&&Vz (List Int) (enc p)&&Vz (List Str) (enc b.v)&&decide ((dec (enc b.v:PV):List Str).length<=1000)&&decide (p.length<=1000))=true
  rw[Ya,Ya,Enc.dec_enc,decide_eq_true hb,decide_eq_true hp];simp
 ·have e1:Zi (dec (Sh.co (Sh.sl 1) (List.getD [enc b.v,PV.int .i64 b.m] 0 default))) (b6f (p.map enc))=Zi b.v p:=by
   rw[LU]
   show Zi (dec (enc b.v:PV)) p=_
   rw[Enc.dec_enc]
  rw[e1]
  rfl
theorem b4h(l:Nat)(b:BoxT)(fs:List Fact): ∀ (k:Nat) (p:List Int),k<=p.length->p.length<=1000->(∀ x∈p,-1<=x∧x<=20000) ->
  AtS [.seq (.ext 99 [0,1,2,4])] DX (fun n S' _=>n=99∧ ∃ q,Wv b.m k p=some q∧S'=⟨Js l b fs p.length,YJ q⟩) 1 (Zl 1 Kq fun _=>Wv b.m k p=none) Qa 0 52 [(0,.yld l),(1,.pv (.rptr [enc b.v,.int .i64 b.m])),(2,.pv (.rptr [enc fs])),(4,.row 0 p.length 0 p.length),(6,.pv (.int .i64 ((k:Int) - 1)))] (YJ p):=by
 intro k
 induction k with
 | zero=>
  intro p hk hp hx
  exact b4n (G:=fun _=>Wv b.m 0 p=none) _ l b fs p.length p _ (ZN (by simp) (ZU (by simp) rfl))
 | succ k ih=>
  intro p hk hp hx
  have hlt:k<p.length:=by omega
  have ek:((k+1:Nat):Int) - 1=(k:Int):=by omega
  rw[ek]
  have e:=Si hlt
  have eg:p.getD k 0=p[k]:=by simp[List.getD,hlt]
  have hxk:=hx _ (List.getElem_mem hlt)
  have em:PV.asInt (List.getD (List.drop 1 [enc b.v,PV.int .i64 b.m]) 0 default)=b.m:=rfl
  have q1:(decide (0<=(k:Int))&&decide (0+Int.toNat (k:Int)<p.length)&&List.length (List.map (enc:Int->PV) p)==p.length)=true:=by simp;omega
  have q2:(List.length (List.map (enc:Int->PV) p)==p.length&&decide (0+Int.toNat (k:Int)<List.length (List.map (enc:Int->PV) p)))=true:=by simp;omega
  have hset : ∀ y:Int,List.set (List.map (enc:Int->PV) p) (0+Int.toNat (k:Int)) (enc y)=(p.set k y).map enc:=fun y=>by rw[Nat.zero_add,Int.toNat_natCast,List.map_set]
  refine b4n (G:=fun _=>Wv b.m (k+1) p=none) _ l b fs p.length p k (ZU (by simp) ?_)
  rw[e]
  refine⟨q1,q2,rfl,KE (fun h=>⟨q1,?_,?_⟩) fun h=>ZN (by simp) ⟨q1,q2,rfl,q1,?_,?_⟩⟩
  ·rw[q2];rfl
  ·have h:p[k]=b.m:=h
   have hn:Wv b.m (k+1) p=Wv b.m k (p.set k 0):=by rw[Wv,eg,if_pos h]
   rw[hn]
   have hw:IntKind.i64.wrap ((k:Int) - 1)=(k:Int) - 1:=X8 (by omega) (by omega)
   rw[hw]
   have:=ih (p.set k 0) (by rw[List.length_set];omega) (by rw[List.length_set];exact hp) (fun x hx'=>by
    rcases List.mem_or_eq_of_mem_set hx' with h|rfl
    ·exact hx x h
    ·omega)
   rw[List.length_set]at this
   have e0:=hset 0
   unfold YJ at this
   rw[<- e0]at this
   exact this
  ·rw[q2];rfl
  ·have h : ¬ p[k]=b.m:=h
   have hn:Wv b.m (k+1) p=some (p.set k (p[k]+1)):=by rw[Wv,eg,if_neg h]
   have hw:IntKind.i64.wrap (p[k]+1)=p[k]+1:=X8 (by omega) (by omega)
   refine⟨rfl,_,hn,?_⟩
   have e0:=hset (IntKind.i64.wrap (p[k]+1))
   show(⟨Js l b fs p.length,[.obj (.row false 3 1 (List.set (List.map (enc:Int->PV) p) (0+Int.toNat (k:Int)) (enc (IntKind.i64.wrap (p[k]+1)))))]⟩:St)=_
   rw[e0,hw]
   rfl
theorem c1v(l:Nat)(b:BoxT)(fs:List Fact)(p:List Int)(hp:p.length<=1000)(hx : ∀ x∈p,-1<=x∧x<=20000):ZI DX (fun n S' _=>n=99∧ ∃ q,DR b.m p=some q∧S'=⟨Js l b fs p.length,YJ q⟩) 1 (Zl 1 Kq fun _=>DR b.m p=none) (.inl Qa) [.seq (.ext 99 [0,1,2,4])] ⟨Js l b fs p.length,YJ p⟩:=by
 refine c5z (G:=fun _=>DR b.m p=none) _ l b fs p.length p ?_
 have hw:IntKind.i64.wrap (((p.length - 0:Nat):Int) - 1)=((p.length:Nat):Int) - 1:=by rw[Nat.sub_zero];exact X8 (by omega) (by omega)
 rw[hw]
 exact b4h l b fs p.length p (Nat.le_refl _) hp hx
end Go.Pl

namespace Go.Pl
open Go.RowKit
open Enc (enc dec is)
open EncL (encL decL isL)
end Go.Pl

namespace Go.Pl
open Go.RowKit
open Enc (enc dec is)
open EncL (encL decL isL)
set_option maxRecDepth 100000
end Go.Pl

namespace Go.Pl
open Go.RowKit
open Enc (enc dec is)
open EncL (encL decL isL)
set_option maxRecDepth 100000
end Go.Pl

namespace Go.Pl
open Go.RowKit
open Enc (enc dec is)
open EncL (encL decL isL)
structure Cert2 where
 a:Cert
 b:Cert
instance:Enc Cert2 where
 sz:=10
 enc x:=.agg (PV.cells (enc x.a)++PV.cells (enc x.b))
 dec | .agg [a,b,c,d,e,f,g,h,i,j]=>⟨dec (.agg [a,b,c,d,e]),dec (.agg [f,g,h,i,j])⟩|_=>⟨.mk 0 [] ⟨0,[]⟩ [],.mk 0 [] ⟨0,[]⟩ []⟩
 is | .agg [a,b,c,d,e,f,g,h,i,j]=>is Cert (.agg [a,b,c,d,e])&&is Cert (.agg [f,g,h,i,j])|_=>false
 is_enc v:=by
  obtain⟨⟨k,m,l,ks⟩,⟨k',m',l',ks'⟩⟩:=v
  rw[V5,V5]
  show(is Cert (.agg [enc k,enc m,enc l.k,enc l.t,enc ks])&&is Cert (.agg [enc k',enc m',enc l'.k,enc l'.t,enc ks']))=true
  rw[<- V5,<- V5,Enc.is_enc,Enc.is_enc];rfl
 dec_enc v:=by
  obtain⟨⟨k,m,l,ks⟩,⟨k',m',l',ks'⟩⟩:=v
  rw[V5,V5]
  show(⟨dec (.agg [enc k,enc m,enc l.k,enc l.t,enc ks]),dec (.agg [enc k',enc m',enc l'.k,enc l'.t,enc ks'])⟩:Cert2)=_
  rw[<- V5,<- V5,Enc.dec_enc,Enc.dec_enc]
 sub p h:=by
  cases p with
  | agg xs=>
   match xs,h with
   | [a,b,c,d,e,f,g,h',i,j],h=>
    simp only[Bool.and_eq_true]at h
    have h1:=Enc.sub (α:=Cert) _ h.1
    have h2:=Enc.sub (α:=Cert) _ h.2
    exact Qd.agg (h1.1.append h2.1)
  | _=>cases h
theorem c6q{l:Lin}{n:Int}(h:QR l n=true)(hl:Xq l=true):Z6 l=true:=by
 simp only[QR,Bool.and_eq_true,List.all_eq_true,decide_eq_true_eq]at h
 simp only[Z6,hl,Bool.true_and,List.all_eq_true,decide_eq_true_eq]
 intro t ht
 have:=h.1 t ht
 omega
mutual
theorem c0h: ∀ (c:Cert) (n:Int),n<=12->OJ c n=true->cOk c=true->1<=n∧(c3v c:Int)<=n∧1<=CX c∧CX c<=n∧cSm c=true
 | .mk k m l ks,n,hn,h,ho=>by
  simp only[OJ,Bool.and_eq_true,Bool.not_eq_true',decide_eq_false_iff_not]at h
  obtain⟨h1,h2,h3,h4,h5⟩:=h
  simp only[cOk,Bool.and_eq_true,decide_eq_true_eq]at ho
  obtain⟨⟨⟨o1,o2⟩,o3⟩,o4⟩:=ho
  obtain⟨a1,a2,a3,a4⟩:=Fh ks n 1 (by omega) hn (by omega) (by omega) h5 o4
  rw[c3v,CX]
  refine⟨by omega,by omega,by omega,by omega,?_⟩
  simp only[cSm,c6q h2 o2,a4,decide_eq_true o1,decide_eq_true o3]
  rfl
theorem Fh: ∀ (cs:List Cert) (n s:Int),1<=n->n<=12->1<=s->s<=100 - n->Ci cs n=true->a4n cs=true->(Mx cs:Int)<=n - 1∧s<=Df s cs∧Df s cs<=s+n - 1∧a4v cs=true
 | [],n,s,h1,h2,h3,h4,_,_=>by
  rw[Mx,Df]
  exact⟨by omega,by omega,by omega,rfl⟩
 | c::cs,n,s,h1,h2,h3,h4,h,ho=>by
  simp only[Ci,Bool.and_eq_true]at h
  simp only[a4n,Bool.and_eq_true]at ho
  rw[X8 (by omega) (by omega)]at h
  obtain⟨b1,b2,b3,b4,b5⟩:=c0h c (n - 1) (by omega) h.1 ho.1
  have h':=h.2
  rw[X8 (by omega) (by omega)]at h'
  obtain⟨a1,a2,a3,a4⟩:=Fh cs (n - CX c) (s+CX c) (by omega) (by omega) (by omega) (by omega) h' ho.2
  rw[Mx,Df,X8 (by omega) (by omega)]
  refine⟨by omega,by omega,by omega,?_⟩
  simp only[a4v,b5,a4]
  rfl
end
end Go.Pl

namespace Go.Pl
open Go.RowKit
open Enc (enc dec is)
open EncL (encL decL isL)
set_option maxRecDepth 100000
end Go.Pl

namespace Go.Pl
open Go.RowKit
open Enc (enc dec is)
open EncL (encL decL isL)
end Go.Pl

namespace Go.Pl
open Go.RowKit
open Enc (enc dec is)
open EncL (encL decL isL)
end Go.Pl

namespace Go.Pl
open Go.RowKit
open Enc (enc dec is)
open EncL (encL decL isL)
end Go.Pl

namespace Go.Pl
open Go.RowKit
theorem b5s(s:Str)(c:Int)(x:List UInt8): ∀ m:List (Str×Int),atM (a6s s c m) x=if s.s=x then c else atM m x
 | []=>by
  rw[a6s]
  simp only[atM,List.find?_cons]
  by_cases h:s.s=x
  ·simp[h]
  ·have:(s.s==x)=false:=by simpa using h
   simp[this,h]
 | p::m=>by
  have ih:=b5s s c x m
  rw[a6s]
  split
  ·rename_i he
   simp only[atM,List.find?_cons]
   by_cases h:s.s=x
   ·simp[h]
   ·have h1:(s.s==x)=false:=by simpa using h
    have h2:(p.1.s==x)=false:=by rw[<- he];exact h1
    simp[h1,h2,h]
  ·rename_i he
   simp only[atM,List.find?_cons]at ih ⊢
   by_cases h:p.1.s=x
   ·have h2 : ¬ s.s=x:=fun e=>he (e.trans h.symm)
    simp[h,h2]
   ·have h2:(p.1.s==x)=false:=by simpa using h
    rw[h2]
    exact ih
end Go.Pl

namespace Go.Pl
open Go.RowKit
def wM(m:List (Str×Int)):Prop:= ∀ s,V8 (atM m s)=atM m s
theorem add_zero: ∀ (x:List Coef) (m:List (Str×Int)),wM m-> ∀ s,atM (c7b 0 x m) s=atM m s
 | [],m,h,s=>rfl
 | t::x,m,h,s=>by
  have e : ∀ y,atM (a6s t.v (IntKind.i64.wrap (atM m t.v.s+IntKind.i64.wrap (0*t.c))) m) y=atM m y:=fun y=>by
   rw[b5s]
   split
   ·rename_i hy
    have:IntKind.i64.wrap (0*t.c)=0:=by rw[Int.zero_mul];rfl
    rw[this,Int.add_zero,<- hy]
    exact h t.v.s
   ·rfl
  rw[c7b,add_zero x _ (fun y=>by rw[e];exact h y),e]
end Go.Pl

namespace Go.Pl
open Go.RowKit
end Go.Pl

namespace Go.Pl
open Go.RowKit
open Enc (enc dec is)
open EncL (encL decL isL)
end Go.Pl

namespace Go.Pl
open Go.RowKit
open Enc (enc dec is)
open EncL (encL decL isL)
set_option maxRecDepth 100000
end Go.Pl

namespace Go.Pl
open Go.RowKit
open Enc (enc dec is)
open EncL (encL decL isL)
set_option maxRecDepth 100000
end Go.Pl

namespace Go.Pl
open Go.RowKit
open Enc (enc dec is)
open EncL (encL decL isL)
end Go.Pl

namespace Go.Pl
open Go.RowKit
open Enc (enc dec is)
open EncL (encL decL isL)
end Go.Pl

namespace Go.Pl
open Go.RowKit
open Enc (enc dec is)
open EncL (encL decL isL)
end Go.Pl

namespace Go.Pl
open Go.RowKit
open Enc (enc dec is)
open EncL (encL decL isL)
theorem one_of{α:Type}: ∀ {ks:List α},ks.length=1-> ∃ a,ks=[a]
 | [a],_=>⟨a,rfl⟩
end Go.Pl

namespace Go.Pl
open Go.RowKit
open Enc (enc dec is)
open EncL (encL decL isL)
set_option maxRecDepth 100000
end Go.Pl

namespace Go.Pl
open Go.RowKit
open Enc (enc dec is)
open EncL (encL decL isL)
end Go.Pl

namespace Go.Pl
open Go.RowKit
open Enc (enc dec is)
open EncL (encL decL isL)
theorem sub_zero(b:Bool):Sub (.tup [c9i,.bool b]) (enc (((⟨0,[]⟩:Lin),b):Lin×Bool)):=Sub.pair (Sub.agg_cons (.refl _) (Sub.agg_cons (.sl0 _ _ _) Sub.agg_nil)) (.refl _)
end Go.Pl

namespace Go.Pl
open Go.RowKit
open Enc (enc dec is)
open EncL (encL decL isL)
inductive Walk (m:Int):List Int->List (List Int)->Prop
 | last {p}:DR m p=none->Walk m p [p]
 | step {p q l}:DR m p=some q->Walk m q l->Walk m p (p::l)
theorem Walk.walkP{m:Int}{p:List Int}{l:List (List Int)}(h:Walk m p l): ∀ f,l.length<=f->walkP m f p=l:=by
 induction h with
 | last h=>
  intro f hf
  cases f with
  | zero=>simp at hf
  | succ f=>simp[Go.Pl.walkP,h]
 | step h _ ih=>
  intro f hf
  cases f with
  | zero=>simp at hf
  | succ f=>simp only[Go.Pl.walkP,h];rw[ih f (by simpa using hf)]
theorem O4(m x:Int): ∀ (k:Nat) (p:List Int),k<=p.length->Wv m (k+1) (x::p) =
  match Wv m k p with
  | some q=>some (x::q)
  | none=>if x=m then none else some ((x+1)::(List.replicate k 0++p.drop k)):=by
 intro k
 induction k with
 | zero=>intro p _;simp[Wv]
 | succ k ih=>
  intro p hp
  rw[Wv]
  have e:(x::p).getD (k+1) 0=p.getD k 0:=by simp[List.getD]
  rw[e]
  by_cases h:p.getD k 0=m
  ·have hn:Wv m (k+1) p=Wv m k (p.set k 0):=by rw[Wv,if_pos h]
   rw[if_pos h,hn]
   have:=ih (p.set k 0) (by simp;omega)
   rw[List.set_cons_succ,this]
   have e2:List.replicate k (0:Int)++(p.set k 0).drop k=List.replicate (k+1) 0++p.drop (k+1):=by
    rw[List.replicate_succ',List.append_assoc]
    congr 1
    rw[List.drop_eq_getElem_cons (show k<(p.set k 0).length by simp;omega),List.drop_set_of_lt (by omega)]
    simp
   rw[e2]
  ·have hn:Wv m (k+1) p=some (p.set k (p.getD k 0+1)):=by rw[Wv,if_neg h]
   rw[if_neg h,hn]
   simp
theorem Hd(m x:Int)(p:List Int):DR m (x::p) =
  match DR m p with
  | some q=>some (x::q)
  | none=>if x=m then none else some ((x+1)::List.replicate p.length 0):=by
 have:=O4 m x p.length p (Nat.le_refl _)
 rw[List.drop_length,List.append_nil]at this
 exact this
theorem RX(m:Int): ∀ (k:Nat) (p q:List Int),Wv m k p=some q->q.length=p.length:=by
 intro k
 induction k with
 | zero=>intro p q h;cases h
 | succ k ih=>
  intro p q h
  rw[Wv]at h
  split at h
  ·rw[ih _ _ h,List.length_set]
  ·cases h;rw[List.length_set]
theorem Walk.cons{m x:Int}{rest:List (List Int)}{p:List Int}{l:List (List Int)}(h:Walk m p l):(hr:(x=m∧rest=[])∨(x≠m∧Walk m ((x+1)::List.replicate p.length 0) rest))->Walk m (x::p) (l.map (x:: ·)++rest):=by
 induction h with
 | last h=>
  rename_i p
  rintro(⟨rfl,rfl⟩|⟨h1,h2⟩)
  ·refine .last ?_
   rw[Hd,h];simp
  ·refine .step ?_ h2
   rw[Hd,h];simp[h1]
 | step h _ ih=>
  rename_i p q l _
  intro hr
  refine .step (q:=x::q) ?_ (ih ?_)
  ·rw[Hd,h]
  ·rw[RX m _ _ _ h];exact hr
def a9j(m:Nat):List Int:=(List.range (m+1)).map fun(i:Nat)=>(i:Int)
def QM(m:Nat):Nat->List (List Int)
 | 0=>[[]]
 | n+1=>(a9j m).flatMap fun x=>(QM m n).map (x:: ·)
theorem Walk.from{m n:Nat}(h:Walk m (List.replicate n 0) (QM m n)): ∀ (d i:Nat),i+d=m->Walk m ((i:Int)::List.replicate n 0) (((List.range' i (d+1)).map fun(i:Nat)=>(i:Int)).flatMap fun x=>(QM m n).map (x:: ·)):=by
 intro d
 induction d with
 | zero=>
  intro i hi
  have:=h.cons (x:=(i:Int)) (rest:=[]) (.inl ⟨by omega,rfl⟩)
  simpa using this
 | succ d ih=>
  intro i hi
  have h1:=ih (i+1) (by omega)
  have:=h.cons (x:=(i:Int)) (.inr ⟨by omega,by rw[List.length_replicate];exact_mod_cast h1⟩)
  rw[List.range'_succ,List.map_cons,List.flatMap_cons]
  exact this
theorem Rf(m:Nat): ∀ n,Walk m (List.replicate n 0) (QM m n):=by
 intro n
 induction n with
 | zero=>exact .last rfl
 | succ n ih=>
  have:=ih.from m 0 (by omega)
  rw[<- List.range_eq_range']at this
  exact_mod_cast this
theorem Gi(m:Nat): ∀ n,(QM m n).length=(m+1) ^ n:=by
 intro n
 induction n with
 | zero=>rfl
 | succ n ih=>
  rw[QM,List.length_flatMap]
  simp only[List.length_map,ih,a9j]
  rw[List.map_const',List.sum_replicate_nat,List.length_map,List.length_range,Nat.pow_succ,Nat.mul_comm]
theorem Fs{m:Nat}{x:Int}:x∈a9j m ↔ 0<=x∧x<=m:=by
 unfold a9j
 rw[List.mem_map]
 constructor
 ·rintro⟨i,hi,rfl⟩
  have:=List.mem_range.1 hi
  omega
 ·rintro⟨h1,h2⟩
  exact⟨x.toNat,List.mem_range.2 (by omega),by omega⟩
theorem KS{m:Nat}: ∀ {n:Nat} {p:List Int},p∈QM m n ↔ p.length=n∧ ∀ x∈p,0<=x∧x<=m:=by
 intro n
 induction n with
 | zero=>
  intro p
  simp only[QM,List.mem_singleton,List.length_eq_zero_iff]
  exact⟨fun h=>⟨h,by simp[h]⟩,fun h=>h.1⟩
 | succ n ih=>
  intro p
  simp only[QM,List.mem_flatMap,List.mem_map]
  constructor
  ·rintro⟨x,hx,q,hq,rfl⟩
   obtain⟨h1,h2⟩:=ih.1 hq
   refine⟨by simp[h1],?_⟩
   intro y hy
   rcases List.mem_cons.1 hy with rfl|hy
   ·exact Fs.1 hx
   ·exact h2 y hy
  ·rintro⟨h1,h2⟩
   cases p with
   | nil=>simp at h1
   | cons x q=>
    exact⟨x,Fs.2 (h2 x (by simp)),q,ih.2 ⟨by simpa using h1,fun y hy=>h2 y (by simp[hy])⟩,rfl⟩
def c3l:List Int->List Int->Prop
 | x::p,y::q=>x<y∨(x=y∧c3l p q)
 | _,_=>False
theorem b0d(m:Nat): ∀ n,(QM m n).Pairwise c3l:=by
 intro n
 induction n with
 | zero=>simp[QM]
 | succ n ih=>
  rw[QM,List.pairwise_flatMap]
  refine⟨fun x _=> ?_,?_⟩
  ·rw[List.pairwise_map]
   exact ih.imp fun h=>.inr ⟨rfl,h⟩
  ·unfold a9j
   rw[List.pairwise_map]
   refine List.pairwise_lt_range.imp ?_
   intro i j hij p hp q hq
   obtain⟨p',_,rfl⟩:=List.mem_map.1 hp
   obtain⟨q',_,rfl⟩:=List.mem_map.1 hq
   exact .inl (by omega)
theorem DI: ∀ p,¬ c3l p p
 | [],h=>h
 | x::p,h=>by
  rcases h with h|⟨_,h⟩
  ·omega
  ·exact DI p h
theorem EN(m n:Nat):(QM m n).Nodup:=by
 refine(b0d m n).imp ?_
 rintro a b h rfl
 exact DI _ h
def Ke(x:List Int×List Coef):List PV:=[enc x.1,enc x.2]
def UT:List (List PV)->Bool
 | [[v,.int .i64 m],[f]]=>Vz (List Str) v&&Vz (List Fact) f&&YZ ⟨dec v,m⟩&&Zo (dec f)&&decide ((dec v:List Str).length<=1000)
 | _=>false
def DY:List (List PV)->List (List Int×List Coef)
 | [[v,.int .i64 m],[f]]=>(Z0 ⟨dec v,m⟩ (dec f)).map fun p=>(p,Zi (dec v) p)
 | _=>[]
theorem a8w(m:Nat): ∀ (l:List Str) (n r:Int),0<=n->QL m l n=some r->r=n*((m:Int)+1) ^ l.length:=by
 intro l
 induction l with
 | nil=>intro n r _ h;simp only[QL,Option.some.injEq]at h;simp[h]
 | cons s l ih=>
  intro n r hn h
  rw[QL]at h
  split at h
  ·cases h
  ·rw[ih _ _ (Int.mul_nonneg hn (by omega)) h,List.length_cons,Int.pow_succ,Int.mul_assoc,Int.mul_comm ((m:Int)+1)]
theorem c0v(m:Nat): ∀ (l:List Str) (n r:Int),n<=20000->QL m l n=some r->r<=20000:=by
 intro l
 induction l with
 | nil=>intro n r hn h;simp only[QL,Option.some.injEq]at h;omega
 | cons s l ih=>
  intro n r hn h
  rw[QL]at h
  split at h
  ·cases h
  ·exact ih _ _ (by omega) h
theorem X7{b:BoxT}:YZ b=true ↔ b.v.all ZB=true∧b.v.Nodup∧(b.v=[]∨b.m<20000)∧0<=b.m∧(QL b.m b.v 1).isSome=true:=by
 unfold YZ
 simp only[Bool.and_eq_true,decide_eq_true_eq,Bool.or_eq_true,List.isEmpty_iff]
 constructor
 ·rintro⟨⟨⟨⟨h1,h2⟩,h3⟩,h4⟩,h5⟩;exact⟨h1,h2,h3,h4,h5⟩
 ·rintro⟨h1,h2,h3,h4,h5⟩;exact⟨⟨⟨⟨h1,h2⟩,h3⟩,h4⟩,h5⟩
theorem CO{b:BoxT}(h:YZ b=true):(b.m.toNat+1) ^ b.v.length<=20000:=by
 obtain⟨_,_,_,h4,h5⟩:=X7.1 h
 obtain⟨r,hr⟩:=Option.isSome_iff_exists.1 h5
 have e:b.m=(b.m.toNat:Int):=by omega
 rw[e]at hr
 have h1:=a8w _ _ _ _ (by decide) hr
 have h2:=c0v _ _ _ _ (by decide) hr
 rw[Int.one_mul]at h1
 have:(((b.m.toNat+1) ^ b.v.length:Nat):Int)=r:=by rw[h1];simp
 omega
theorem WX{b:BoxT}(h:YZ b=true):c3z b=QM b.m.toNat b.v.length:=by
 obtain⟨_,_,_,h4,_⟩:=X7.1 h
 have hw:=Rf b.m.toNat b.v.length
 have hl:=Gi b.m.toNat b.v.length
 have:=CO h
 have e:(b.m.toNat:Int)=b.m:=by omega
 rw[e]at hw
 have ez:V6 b.v=List.replicate b.v.length 0:=List.map_const' ..
 unfold c3z
 rw[ez]
 exact hw.walkP 20001 (by omega)
end Go.Pl

namespace Go.Pl
open Go.RowKit
open Enc (enc dec is)
open EncL (encL decL isL)
def a1u(m:Int):List Str->Int->Int
 | [],n=>n
 | _::r,n=>a1u m r (n*(m+1))
def Qi(b:BoxT)(fs:List Fact):Bool:=decide (b.v.length<=5)&&decide ((if YZ b then a1u b.m b.v 1 else 1)<=300)&&decide (fs.length<=6)&&Cb fs 6
def Yg:List Str->List Str->Int
 | [],b=> -(b.length:Int)
 | a,[]=>(a.length:Int)
 | x::a,y::b=>if x.s<y.s then -1 else if y.s<x.s then 1 else Yg a b
def QA:List Str->Bool
 | x::y::r=> !decide (y.s<x.s)&&QA (y::r)
 | _=>true
def YK(m:Mono):Bool:=decide (m.c≠0)&&decide (-1099511627776<=m.c)&&decide (m.c<=1099511627776)&&decide (m.v.length<=8)&&QA m.v&&m.v.all ZB
def D8:List Mono->Bool
 | x::y::r=>decide (Yg x.v y.v<0)&&D8 (y::r)
 | _=>true
def ZC(p:List Mono):Bool:=decide (p.length<=60)&&p.all YK&&D8 p
def GN(l:List Str)(s:Str):List Str:=match l with
 | []=>[s]
 | t::r=>if t.s<s.s then t::GN r s else if t=s then t::r else s::t::r
def Zv(p:List Mono):Bool:=Zn p&&p.all fun m=>YB m.v
theorem LC{p:List Mono}(h:ZC p=true):p.length<=60∧ ∀ m∈p,m.v.length<=8:=by
 unfold ZC at h
 simp only[Bool.and_eq_true,decide_eq_true_eq,List.all_eq_true]at h
 refine⟨h.1.1,fun m hm=> ?_⟩
 have:=h.1.2 m hm
 unfold YK at this
 simp only[Bool.and_eq_true,decide_eq_true_eq]at this
 omega
end Go.Pl

namespace Go.Pl
open Go.RowKit
open Enc (enc dec is)
open EncL (encL decL isL)
def SN(x y:Str):Int:=if x.s<y.s then -1 else if y.s<x.s then 1 else 0
def Gz:List Str->List Str->Int
 | [],[]=>0
 | [],_::_=> -1
 | _::_,[]=>1
 | x::a,y::b=>if x.s<y.s then -1 else if y.s<x.s then 1 else Gz a b
def Yf(p:List Mono):Bool:=Zn p&&p.all fun m=>YB m.v
def XI(p:List Mono):List Str:=p.flatMap (·.v)
def Xj(p:List Mono):List (List UInt8):=Wu ((XI p).map (·.s))
def Yo(p:List Mono):List Str:=(Lib.compact (Xj p)).map Str.mk
def V4(p:PV):List Mono:=dec p
def UZ:List AV->List AObj->Bool
 | [.pv a],[]=>Vz (List Mono) a&&Yf (dec a)&&ZC (dec a)&& !(XI (dec a)).isEmpty
 | _,_=>false
def R8:List AV->List AObj->AV×List AObj×List AObj
 | [.pv a],_=>(.row 0 (Xj (V4 a)).length 0 (Lib.compact (Xj (V4 a))).length,[],[.row false 9 1 ((Vx (Xj (V4 a))).map .str)])
 | _,_=>Vu
def Nk:List AV->List AObj->AV×List AObj×List AObj
 | [.pv a],_=>KL (Yo (V4 a))
 | _,_=>Vu
def Ja:List AV->List AObj->Bool
 | [.pv a],[]=>Vz (List Mono) a&&Yf (dec a)&&(!ZC (dec a)||(XI (dec a)).isEmpty)
 | _,_=>false
def Cg:List AV->List AObj->AV×List AObj×List AObj:=fun _ _=>(.pv (.sl 0 true []),[],[])
def JS(a b:Int):Int×Int:=if VT a&&VT b&&VT (a*b)then(a*b,0)else(0,2)
def XY(l:List Int):Int×Int:=if l.all VT&&VT l.sum then(l.sum,0)else(0,2)
def DW:Int->List Int->Int×Int
 | o,[]=>(o,0)
 | o,n::r=>if (JS o n).2≠0 then(0,(JS o n).2)else DW (JS o n).1 r
def YN(l:List Int):Int×Int:=if l.contains 0 then(0,0)else DW 1 l
def JW(vs:List Coef):List Str->Option (List Int)
 | []=>some []
 | s::r=>match Y6 vs s with
  | none=>none
  | some x=>(JW vs r).map (x:: ·)
def Ht(vs:List Coef):List Mono->Option (List (List Int))
 | []=>some []
 | m::r=>match JW vs m.v with
  | none=>none
  | some l=>(Ht vs r).map ((m.c::l):: ·)
def Yp:List (List Int)->Option (List Int)
 | []=>some []
 | l::r=>if (YN l).2≠0 then none else(Yp r).map ((YN l).1:: ·)
def badF(fs:List (List Int)):Bool:=fs.any fun l=>l.tail.any fun x=> !VT x
def Z7(p:List Mono)(vs:List Coef):Int×Int:=
 if ZC p then(match Ht vs p with
  | none=>(0,7)
  | some fs=>if badF fs then(0,2)else match Yp fs with
   | none=>(0,2)
   | some l=>XY l)
 else(0,1)
def Gc:List AV->List AObj->Bool
 | [.pv x,.ptr 0 0],[.box [.pv (.str v)]]=>Vz Coef x
 | _,_=>false
def Cx:List AV->List AObj->AV×List AObj×List AObj
 | [.pv x,_],[.box [.pv (.str v)]]=>(.pv (.bool ((dec x:Coef).v.s==v)),[.box [.pv (.str v)]],[])
 | _,_=>Vu
def VW(g:Nat):List AV->List AObj->Bool
 | [.pv l,.fn g' [] [.ptr 0 0]],[.box [.pv (.str v)]]=>g'==g&&Vz (List Coef) l&&decide ((dec l:List Coef).length<=9223372036854775807)
 | _,_=>false
def Kb(p:PV):List Coef:=dec p
def Ce:List AV->List AObj->AV×List AObj×List AObj
 | [.pv l,_],[.box [.pv (.str v)]]=>(.pv (.int .i64 (ZE (fun t:Coef=>t.v.s==v) (Kb l))),[.box [.pv (.str v)]],[])
 | _,_=>Vu
def Wt(n:Int):Int:=n / 2147483648
def X3(n:Int):Int:=n % 2147483648
def Um:List AV->List AObj->Bool
 | [.pv (.int .i64 n),.ptr 0 0,.ptr 1 0],[.box [.pv (.sl 0 true [])],.box [.pv (.sl 0 true [])]]=>true
 | [.pv (.int .i64 n),.ptr 0 0,.ptr 1 0],[.box [.row 2 q 0 q'],.box [.row 3 r 0 r'],.row false ty 1 xs,.row false ty' 1 ys]=>q'==q&&r'==r&&r==q&&ty==3&&ty'==3&&xs.length==q&&ys.length==q&&decide (q<=1000000)
 | _,_=>false
def UX:List AV->List AObj->AV×List AObj×List AObj
 | [.pv (.int .i64 n),_,_],[.box [.pv (.sl 0 true [])],.box [.pv (.sl 0 true [])]]=>(.tup [],[.box [.row 2 1 0 1],.box [.row 3 1 0 1]],[.row false 3 1 [.int .i64 (Wt n)],.row false 3 1 [.int .i64 (X3 n)]])
 | [.pv (.int .i64 n),_,_],[.box [.row 2 q 0 _],.box [.row 3 _ 0 _],.row _ _ _ xs,.row _ _ _ ys]=>(.tup [],[.box [.row 2 (q+1) 0 (q+1)],.box [.row 3 (q+1) 0 (q+1)],.row false 3 1 (xs++[.int .i64 (Wt n)]),.row false 3 1 (ys++[.int .i64 (X3 n)])],[])
 | _,_=>Vu
def OM:List Int->List Int->Int
 | x::a,y::b=>x*y+OM a b
 | _,_=>0
def GQ(a b:List Int):Int×Int:=if a.length=b.length then(if a.all VT&&b.all VT&&VT (OM a b)then(OM a b,0)else(0,2))else(0,1)
def Xm(p:List Mono)(vs:List Str):List (List Int)->Option (List Int)
 | []=>some []
 | q::r=>if (Z7 p (Zi vs q)).2≠0 then none else(Xm p vs r).map ((Z7 p (Zi vs q)).1:: ·)
def YE(b:BoxT)(fs:List Fact)(p:List Mono):Bool:=ZW b&&Zo fs&&decide (fs.length<=100)&&decide (b.v.length<=1000)&&Yf p
def Z8(b:BoxT)(fs:List Fact)(p:List Mono):Int×Int:=
 if Zm b fs (ZC p) (Yo p)=0 then(match Xm p b.v (Z0 b fs)with|none=>(0,2)|some l=>XY l)else(0,Zm b fs (ZC p) (Yo p))
end Go.Pl

namespace Go.Pl
open Go.RowKit
open Enc (enc dec is)
open EncL (encL decL isL)
theorem b4z: ∀ args os,Y9 args os=true->Zc EO os.length (Zl os.length PX fun r=>r=WL args os) P5 [] (YR b8x args os):=by
 intro args os h
 unfold Y9 at h
 split at h
 ·rename_i v m f
  simp only[Bool.and_eq_true]at h
  obtain⟨h1,h2⟩:=h
  obtain⟨vs,rfl⟩:=YC h1
  obtain⟨fs,rfl⟩:=YC h2
  exact c6v ⟨vs,m⟩ fs rfl
 ·cases h
theorem WA(b:BoxT)(fs:List Fact)(ok:Bool)(ns:List Str)(h:Zm b fs ok ns=0):YZ b=true∧XQ fs=true∧ok=true∧Qq b.v (ns++fs.flatMap fun f=>Zp f.l)=true:=by
 unfold Zm at h
 split at h
 ·cases h
 ·rename_i h1
  simp only[Bool.or_eq_true,Bool.not_eq_true',not_or,Bool.not_eq_false]at h1
  split at h
  ·rename_i h2
   exact⟨h1.1.1,h1.1.2,h1.2,h2⟩
  ·cases h
theorem b8t{b:BoxT}{fs:List Fact}(h:YZ b=true):(Z0 b fs).length<=20000:=by
 unfold Z0
 refine Nat.le_trans (List.length_filter_le _ _) ?_
 rw[WX h,Gi]
 exact CO h
def gpI(b:BoxT)(fs:List Fact)(k:Nat)(σ:Zw):Prop:=
 (k=0∧σ=[.obj (.box [.pv (.sl 0 true [])])])∨(k≠0∧k<=(Z0 b fs).length∧σ=[.obj (.box [.row 1 k 0 k]),.obj (.row false 34 1 (((Z0 b fs).take k).map enc))])
def gpE:YA:=fun n st q=>n=0∧GI Jp 0 (.t 17) 177 [18,19] [(8,18)] UV Ke UT DY st q
theorem Tc(b:BoxT)(fs:List Fact):DY [[enc b.v,.int .i64 b.m],[enc fs]]=(Z0 b fs).map fun p=>(p,Zi b.v p):=by
 show((Z0 ⟨dec (enc b.v:PV),b.m⟩ (dec (enc fs:PV))).map fun p=>(p,Zi (dec (enc b.v:PV)) p))=_
 rw[Enc.dec_enc,Enc.dec_enc]
theorem CW{b:BoxT}{fs:List Fact}(hb:YZ b=true)(hf:Zo fs=true)(hl:b.v.length<=1000):UT [[enc b.v,.int .i64 b.m],[enc fs]]=true:=by
 show(Vz (List Str) (enc b.v)&&Vz (List Fact) (enc fs)&&YZ ⟨dec (enc b.v:PV),b.m⟩&&Zo (dec (enc fs:PV))&&decide ((dec (enc b.v:PV):List Str).length<=1000))=true
 rw[Ya,Ya,Enc.dec_enc,Enc.dec_enc,hf,decide_eq_true hl]
 simp[hb]
theorem b4e(b:BoxT)(fs:List Fact)(hv:YZ b=true)(k:Nat)(p:List Int)(vs:List Coef)(σ:Zw)(hp:(Z0 b fs)[k]? = some p)(h:gpI b fs k σ):
  ZI Jp (fun n S' _=>n=99∧gpI b fs (k+1) S'.heap) σ.length (fun st=>False) (.inl UV) [.seq (.ext 99 [])] ⟨ZX 25 0 [(7,.ptr 0 0),(8,.pv (enc p)),(18,.pv (enc p)),(19,.pv (enc vs))],σ⟩:=by
 have hk:=(List.getElem?_eq_some_iff.1 hp).1
 have hkp:=(List.getElem?_eq_some_iff.1 hp).2
 have hl:=b8t (fs:=fs) hv
 rcases h with ⟨rfl,rfl⟩|⟨hne,hk',rfl⟩
 ·refine b7i (G:=fun _=>False) _ p vs ⟨rfl,.inr ⟨by simp,by omega,?_⟩⟩
  have e:(Z0 b fs).take (0+1)=[p]:=by rw[List.take_succ_eq_append_getElem hk,hkp];rfl
  rw[e]
  rfl
 ·have e:(Z0 b fs).take (k+1)=(Z0 b fs).take k++[p]:=by rw[List.take_succ_eq_append_getElem hk,hkp]
  have el:((Z0 b fs).take k).length=k:=by rw[List.length_take];omega
  refine c1n (G:=fun _=>False) _ p vs k ((Z0 b fs).take k) ⟨?_,rfl,.inr ⟨by omega,by omega,?_⟩⟩
  ·rw[List.length_map,el]
   show((k==k)&&(k==k)&&decide ((k+1)*24<=1099511627776)&&decide (k+1<=1099511627776))=true
   rw[decide_eq_true (by omega),decide_eq_true (by omega)];simp
  ·rw[e,List.map_append]
   rfl
theorem b9g: ∀ x:BoxT×List Fact×Unit,(ZW x.1&&Zo x.2.1&&decide (x.2.1.length<=100)&&decide (x.1.v.length<=1000))=true->Kg Jp gpE 0 (Za GR (Zj (YG x.1 x.2.1))) Gv [] (Yr c6h (encL x)):=by
 rintro⟨b,fs,⟨⟩⟩ hp
 simp only[Bool.and_eq_true,decide_eq_true_eq]at hp
 obtain⟨⟨⟨h1,h2⟩,h3⟩,h4⟩:=hp
 refine c9a gpE b fs ⟨Ze (b,fs,true,⟨⟩,()) rfl (by simp[h1,h2,h3]),Zd (b,fs,true,⟨⟩,()) rfl ?_⟩
 show if (Zm b fs true [] != 0)=true then _ else _
 by_cases h0:Zm b fs true []=0
 ·rw[if_neg (by simp[h0])]
  obtain⟨hv,_⟩:=WA b fs true [] h0
  have hpt:YG b fs=(Z0 b fs,0):=by unfold YG;rw[if_pos h0]
  rw[hpt]
  refine⟨?_,rfl,[1,2],[[enc b.v,.int .i64 b.m],[enc fs]],[7],[],⟨ZX 25 0 [(7,.ptr 0 0)],[.obj (.box [.pv (.sl 0 true [])])]⟩,gpI b fs,fun _=>False,rfl,by simp,rfl,?_,by kernel_rfl,CW hv h2 h4,.inl ⟨rfl,rfl⟩,?_,?_,fun σ h=>h.elim⟩
  ·show(Vz (List Str) (enc b.v)&&Vz (List Fact) (enc fs))=true
   rw[Ya,Ya];rfl
  ·intro j l ps hl hps
   match j with
   | 0=>cases hl;cases hps;rfl
   | 1=>cases hl;cases hps;rfl
   | j+2=>simp at hl
  ·intro k x σ hx hI
   rw[Tc,List.getElem?_map]at hx
   obtain⟨p,hp,rfl⟩:=Option.map_eq_some_iff.1 hx
   have e:SQ [(8,18)] (D7 [18,19] ((Ke (p,Zi b.v p)).map .pv) (ZX 25 0 [(7,.ptr 0 0)]))=ZX 25 0 [(7,.ptr 0 0),(8,.pv (enc p)),(18,.pv (enc p)),(19,.pv (enc (Zi b.v p)))]:=by kernel_rfl
   have:=b4e b fs hv k p (Zi b.v p) σ hp hI
   rw[<- e]at this
   exact this
  ·intro σ hI
   rw[Tc,List.length_map]at hI
   rcases hI with ⟨e,rfl⟩|⟨e,_,rfl⟩
   ·refine c1z gpE b fs ?_
    rw[List.length_eq_zero_iff.1 e]
    exact⟨rfl,rfl⟩
   ·refine b8f gpE b fs (Z0 b fs).length ((Z0 b fs).take (Z0 b fs).length) ⟨by simp,?_⟩
    rw[List.take_length,List.drop_zero,List.take_of_length_le (by simp)]
    exact ZP (x:=((Z0 b fs),(0:Int))) rfl
 ·rw[if_pos (by simpa using h0)]
  have hpt:YG b fs=([],Zm b fs true []):=by unfold YG;rw[if_neg h0]
  rw[hpt]
  exact⟨rfl,rfl⟩
theorem Oz: ∀ x:BoxT×List Fact×Unit,(ZW x.1&&Zo x.2.1&&decide (x.2.1.length<=100)&&decide (x.1.v.length<=1000))=true->Zc BG 0 (Za G8 (Zj (YD x.1 x.2.1))) GA [] (Yr a2v (encL x)):=by
 rintro⟨b,fs,⟨⟩⟩ hp
 refine a9u b fs ⟨Ze (b,fs,()) rfl hp,Zd (b,fs,()) rfl ?_⟩
 rw[List.length_map]
 exact ZP (x:=((((YG b fs).1.length:Nat):Int),(YG b fs).2)) rfl
end Go.Pl

namespace Go.Pl
open Go.RowKit
open Enc (enc dec is)
open EncL (encL decL isL)
set_option maxRecDepth 100000
def VF:IC:=(.seq (.reg [⟨(some 1),(.box 2 (.t 0)),0,none⟩,⟨(some 2),(.mv (.c (.bool false))),1,none⟩] none) (.seq (.reg [⟨(some 3),(.mv (.c (.int .i64 1))),0,none⟩] none) (.seq (.seq (.reg [⟨(some 4),(.mv (.c (.int .i64 0))),0,none⟩] none) (.block 0 (.loop [4,1,3] (.seq (.seq (.reg [⟨(some 6),(.mv (.t 4)),0,none⟩,⟨(some 7),(.faddr 0 (.t 1)),0,none⟩,⟨(some 8),(.load false [(.sl 1)] (.t 7)),0,none⟩,⟨(some 9),(.len 1 (.t 8)),0,none⟩,⟨(some 10),(.bin .num .lss (.t 6) (.t 9)),0,none⟩] none) (.cond (.t 10) .skip (.exit 0))) (.seq (.block 1 (.seq (.seq (.reg [⟨(some 13),(.faddr 0 (.t 1)),0,none⟩,⟨(some 14),(.load false [(.sl 1)] (.t 13)),0,none⟩,⟨(some 15),(.mv (.t 4)),0,none⟩,⟨(some 16),(.iaddr 1 (.t 14) (.t 15)),0,none⟩,⟨(some 17),(.load false [.str] (.t 16)),0,none⟩,⟨(some 18),(.call (.c (.fn 84)) [(.t 17)]),0,none⟩,⟨(some 19),(.un .not (.t 18)),2,none⟩,⟨(some 20),(.mv (.t 19)),2,none⟩,⟨(some 21),(.faddr 1 (.t 1)),2,(some (20,false))⟩,⟨(some 22),(.load false [(.int .i64)] (.t 21)),2,(some (20,false))⟩,⟨(some 23),(.bin .num .geq (.t 22) (.c (.int .i64 20000))),2,(some (20,false))⟩,⟨(some 24),(.pick (.t 20) (.c (.bool true)) (.t 23)),2,none⟩] none) (.cond (.t 24) (.seq (.reg [⟨(some 2),(.mv (.c (.bool false))),0,none⟩] none) .ret) .skip)) (.seq (.seq (.reg [⟨(some 5),(.mv (.c (.int .i64 0))),0,none⟩] none) (.block 2 (.loop [5,4,1,3] (.seq (.seq (.reg [⟨(some 25),(.mv (.t 5)),0,none⟩,⟨(some 26),(.mv (.t 4)),0,none⟩,⟨(some 27),(.bin .num .lss (.t 25) (.t 26)),0,none⟩] none) (.cond (.t 27) .skip (.exit 2))) (.seq (.block 3 (.seq (.reg [⟨(some 30),(.faddr 0 (.t 1)),0,none⟩,⟨(some 31),(.load false [(.sl 1)] (.t 30)),0,none⟩,⟨(some 32),(.mv (.t 5)),0,none⟩,⟨(some 33),(.iaddr 1 (.t 31) (.t 32)),0,none⟩,⟨(some 34),(.load false [.str] (.t 33)),0,none⟩,⟨(some 35),(.faddr 0 (.t 1)),0,none⟩,⟨(some 36),(.load false [(.sl 1)] (.t 35)),0,none⟩,⟨(some 37),(.mv (.t 4)),0,none⟩,⟨(some 38),(.iaddr 1 (.t 36) (.t 37)),0,none⟩,⟨(some 39),(.load false [.str] (.t 38)),0,none⟩,⟨(some 40),(.bin .num .eql (.t 34) (.t 39)),0,none⟩] (some [[],[0],[],[1,2,0],[3,1,2,0],[],[5],[],[6,7,5],[8,6,7,5],[4,9,3,1,2,0,8,6,7,5]])) (.cond (.t 40) (.seq (.reg [⟨(some 2),(.mv (.c (.bool false))),0,none⟩] none) .ret) .skip))) (.reg [⟨(some 28),(.mv (.t 5)),0,none⟩,⟨(some 29),(.bin .num .add (.t 28) (.c (.int .i64 1))),0,none⟩,⟨(some 5),(.mv (.t 29)),0,none⟩] none)))))) (.seq (.reg [⟨(some 41),(.mv (.t 3)),0,none⟩,⟨(some 42),(.bin .num .leq (.t 41) (.c (.int .i64 20000))),0,none⟩] none) (.cond (.t 42) (.reg [⟨(some 43),(.mv (.t 3)),0,none⟩,⟨(some 44),(.faddr 1 (.t 1)),0,none⟩,⟨(some 45),(.load false [(.int .i64)] (.t 44)),0,none⟩,⟨(some 46),(.bin .num .add (.t 45) (.c (.int .i64 1))),0,none⟩,⟨(some 47),(.bin .num .mul (.t 43) (.t 46)),0,none⟩,⟨(some 3),(.mv (.t 47)),0,none⟩] none) .skip))))) (.reg [⟨(some 11),(.mv (.t 4)),0,none⟩,⟨(some 12),(.bin .num .add (.t 11) (.c (.int .i64 1))),0,none⟩,⟨(some 4),(.mv (.t 12)),0,none⟩] none)))))) (.seq (.reg [⟨(some 48),(.faddr 1 (.t 1)),0,none⟩,⟨(some 49),(.load false [(.int .i64)] (.t 48)),0,none⟩,⟨(some 50),(.bin .num .geq (.t 49) (.c (.int .i64 0))),0,none⟩,⟨(some 51),(.mv (.t 50)),0,none⟩,⟨(some 52),(.mv (.t 3)),0,(some (51,true))⟩,⟨(some 53),(.bin .num .leq (.t 52) (.c (.int .i64 20000))),0,(some (51,true))⟩,⟨(some 54),(.pick (.t 51) (.t 53) (.c (.bool false))),0,none⟩,⟨(some 2),(.mv (.t 54)),0,none⟩] none) .ret))))
def VH:List IRes:=[(.tmp 2)]
abbrev c3p:Nat:=55
def Qg:ZK:=Xp [(84,.pure (preT (fun _:Str×Unit=>true)) (Zf (fun x:Str×Unit=>ZB x.1)))]
theorem c8u{G:PV->Prop}(b:BoxT)(h:At Qg 0 (Za VH G) VF 0 55 [(1,(.ptr 0 0)),(3,(.pv (.int .i64 1))),(4,(.pv (.int .i64 0)))] [(.obj (.box [(.pv (.sl 1 false (List.map enc b.v))),(.pv (.int .i64 b.m))]))]):Zc Qg 0 (Za VH G) VF [] (Yr 55 [enc b]):=Zc.tp (.nil) h (by kernel_rfl)
theorem b0f{G:PV->Prop}(b:BoxT)(n i:Int)(h:if (decide (i<(↑(List.length (List.map enc b.v)):Int)))=true then(decide (0<=i)&&decide (Int.toNat i<List.length (List.map enc b.v))&&Enc.sz Str==1)=true∧(∃ y0:Str,AV.pv (PV.rptr (PV.cells (List.getD (List.map enc b.v) (Int.toNat i) default)))=AV.pv (PV.rptr (PV.cells ((enc) y0)))∧(∃ y1:Bool,AV.pv (Zf (fun(x:Str×Unit)=>ZB x.1) [(.str (PV.asStr (List.getD (PV.cells (enc y0)) 0 default)))])=AV.pv (enc y1)∧(if (!y1)=true then G ((.bool false))else(if (decide (BoxT.m b ≥ 20000))=true then G ((.bool false))else(At Qg 0 (Za VH G) VF 1 55 [(1,(.ptr 0 0)),(3,(.pv (.int .i64 n))),(4,(.pv (.int .i64 i))),(5,(.pv (.int .i64 0)))] [(.obj (.box [(.pv (.sl 1 false (List.map enc b.v))),(.pv (.int .i64 b.m))]))])))))else(if (decide (BoxT.m b ≥ 0))=true then G ((.bool (decide (n<=20000))))else(G ((.bool false))))):At Qg 0 (Za VH G) VF 0 55 [(1,.ptr 0 0),(3,.pv (.int .i64 n)),(4,.pv (.int .i64 i))] [.obj (.box [.pv (enc b.v),.pv (.int .i64 b.m)])]:=At.tp (.lit (.ask (.req (.abs (Str) (fun YY=>AV.pv (PV.rptr (PV.cells ((enc) YY)))) (.lit (.lit (.abs (Bool) (fun YY=>AV.pv (enc YY)) (.ask (.lit (.lit (.lit (.lit (.nil))))) (.lit (.lit (.lit (.lit (.ask (.nil) (.nil)))))))))))) (.lit (.ask (.lit (.lit (.lit (.nil)))) (.lit (.lit (.nil))))))) h (by kernel_rfl)
theorem b4x{G:PV->Prop}(b:BoxT)(n i k:Int)(h:if (decide (k<i))=true then(decide (0<=k)&&decide (Int.toNat k<List.length (List.map enc b.v))&&Enc.sz Str==1)=true∧(∃ y0:Str,AV.pv (PV.rptr (PV.cells (List.getD (List.map enc b.v) (Int.toNat k) default)))=AV.pv (PV.rptr (PV.cells ((enc) y0)))∧((decide (0<=i)&&decide (Int.toNat i<List.length (List.map enc b.v))&&Enc.sz Str==1)=true∧(∃ y1:Str,AV.pv (PV.rptr (PV.cells (List.getD (List.map enc b.v) (Int.toNat i) default)))=AV.pv (PV.rptr (PV.cells ((enc) y1)))∧(if (PV.asStr (List.getD (PV.cells (enc y0)) 0 default)==PV.asStr (List.getD (PV.cells (enc y1)) 0 default))=true then G ((.bool false))else(At Qg 0 (Za VH G) VF 1 55 [(1,(.ptr 0 0)),(3,(.pv (.int .i64 n))),(4,(.pv (.int .i64 i))),(5,(.pv (.int .i64 (IntKind.wrap IntKind.i64 (k+1)))))] [(.obj (.box [(.pv (.sl 1 false (List.map enc b.v))),(.pv (.int .i64 b.m))]))])))))else(if (decide (n<=20000))=true then At Qg 0 (Za VH G) VF 0 55 [(1,(.ptr 0 0)),(3,(.pv (.int .i64 (IntKind.wrap IntKind.i64 (n*IntKind.wrap IntKind.i64 (BoxT.m b+1)))))),(4,(.pv (.int .i64 (IntKind.wrap IntKind.i64 (i+1)))))] [(.obj (.box [(.pv (.sl 1 false (List.map enc b.v))),(.pv (.int .i64 b.m))]))]else(At Qg 0 (Za VH G) VF 0 55 [(1,(.ptr 0 0)),(3,(.pv (.int .i64 n))),(4,(.pv (.int .i64 (IntKind.wrap IntKind.i64 (i+1)))))] [(.obj (.box [(.pv (.sl 1 false (List.map enc b.v))),(.pv (.int .i64 b.m))]))]))):At Qg 0 (Za VH G) VF 1 55 [(1,.ptr 0 0),(3,.pv (.int .i64 n)),(4,.pv (.int .i64 i)),(5,.pv (.int .i64 k))] [.obj (.box [.pv (enc b.v),.pv (.int .i64 b.m)])]:=At.tp (.lit (.ask (.req (.abs (Str) (fun YY=>AV.pv (PV.rptr (PV.cells ((enc) YY)))) (.lit (.req (.abs (Str) (fun YY=>AV.pv (PV.rptr (PV.cells ((enc) YY)))) (.lit (.lit (.ask (.nil) (.lit (.nil)))))))))) (.lit (.ask (.lit (.lit (.lit (.nil)))) (.lit (.nil)))))) h (by kernel_rfl)
def VI:IC:=(.seq (.reg [⟨(some 2),(.box 2 (.t 0)),0,none⟩,⟨(some 4),(.mv (.c (.bool false))),1,none⟩] none) (.seq (.reg [⟨(some 5),(.mv (.c (.int .i64 1))),0,none⟩] none) (.seq (.seq (.reg [⟨(some 6),(.mv (.c (.int .i64 0))),0,none⟩] none) (.block 0 (.loop [6,2,5,1] (.seq (.seq (.reg [⟨(some 7),(.mv (.t 6)),0,none⟩,⟨(some 8),(.faddr 0 (.t 2)),0,none⟩,⟨(some 9),(.load false [(.sl 1)] (.t 8)),0,none⟩,⟨(some 10),(.len 1 (.t 9)),0,none⟩,⟨(some 11),(.bin .num .lss (.t 7) (.t 10)),0,none⟩,⟨(some 12),(.mv (.t 11)),0,none⟩,⟨(some 13),(.load true [(.sl 1),(.int .i64)] (.t 2)),0,(some (12,true))⟩,⟨(some 14),(.call (.c (.fn 51)) [(.t 13)]),0,(some (12,true))⟩,⟨(some 15),(.pick (.t 12) (.t 14) (.c (.bool false))),2,none⟩] none) (.cond (.t 15) .skip (.exit 0))) (.seq (.block 1 (.reg [⟨(some 18),(.mv (.t 5)),0,none⟩,⟨(some 19),(.faddr 1 (.t 2)),0,none⟩,⟨(some 20),(.load false [(.int .i64)] (.t 19)),0,none⟩,⟨(some 21),(.bin .num .add (.t 20) (.c (.int .i64 1))),0,none⟩,⟨(some 22),(.bin .num .mul (.t 18) (.t 21)),0,none⟩,⟨(some 5),(.mv (.t 22)),0,none⟩] none)) (.reg [⟨(some 16),(.mv (.t 6)),0,none⟩,⟨(some 17),(.bin .num .add (.t 16) (.c (.int .i64 1))),0,none⟩,⟨(some 6),(.mv (.t 17)),0,none⟩] none)))))) (.seq (.reg [⟨(some 23),(.faddr 0 (.t 2)),0,none⟩,⟨(some 24),(.load false [(.sl 1)] (.t 23)),0,none⟩,⟨(some 25),(.len 1 (.t 24)),0,none⟩,⟨(some 26),(.bin .num .leq (.t 25) (.c (.int .i64 5))),0,none⟩,⟨(some 27),(.mv (.t 26)),0,none⟩,⟨(some 28),(.mv (.t 5)),0,(some (27,true))⟩,⟨(some 29),(.bin .num .leq (.t 28) (.c (.int .i64 300))),0,(some (27,true))⟩,⟨(some 30),(.pick (.t 27) (.t 29) (.c (.bool false))),0,none⟩,⟨(some 31),(.mv (.t 30)),0,none⟩,⟨(some 32),(.mv (.t 1)),0,(some (31,true))⟩,⟨(some 33),(.len 1 (.t 32)),0,(some (31,true))⟩,⟨(some 34),(.bin .num .leq (.t 33) (.c (.int .i64 6))),0,(some (31,true))⟩,⟨(some 35),(.pick (.t 31) (.t 34) (.c (.bool false))),0,none⟩,⟨(some 36),(.mv (.t 35)),0,none⟩,⟨(some 37),(.mv (.t 1)),0,(some (36,true))⟩,⟨(some 38),(.call (.c (.fn 31)) [(.t 37),(.c (.int .i64 6))]),0,(some (36,true))⟩,⟨(some 39),(.pick (.t 36) (.t 38) (.c (.bool false))),2,none⟩,⟨(some 4),(.mv (.t 39)),2,none⟩] none) .ret))))
def Ws:List IRes:=[(.tmp 4)]
abbrev a3m:Nat:=40
def Vb:ZK:=Xp [(51,.pure (preT (fun x:BoxT×Unit=>ZW x.1)) (Zf (fun x:BoxT×Unit=>YZ x.1))),(31,.pure (preT (fun x:List Fact×Int×Unit=>YX x.1)) (Zf (fun x:List Fact×Int×Unit=>Cb x.1 x.2.1)))]
theorem b0m{G:PV->Prop}(b:BoxT)(fs:List Fact)(h:At Vb 0 (Za Ws G) VI 0 40 [(1,(.pv (.sl 3 false (List.map enc fs)))),(2,(.ptr 0 0)),(5,(.pv (.int .i64 1))),(6,(.pv (.int .i64 0)))] [(.obj (.box [(.pv (.sl 1 false (List.map enc b.v))),(.pv (.int .i64 b.m))]))]):Zc Vb 0 (Za Ws G) VI [] (Yr 40 [enc b,enc fs]):=Zc.tp (.nil) h (by kernel_rfl)
theorem K6{G:PV->Prop}(b:BoxT)(fs:List Fact)(n i:Int)(h:if (decide (i<(↑(List.length (List.map enc b.v)):Int)))=true then(Go.Pl.preT (fun(x:BoxT×Unit)=>ZW x.1) [(.agg [(.sl 1 false (List.map enc b.v)),(.int .i64 b.m)])])=true∧(∃ y0:Bool,AV.pv (Zf (fun(x:BoxT×Unit)=>YZ x.1) [(.agg [(.sl 1 false (List.map enc b.v)),(.int .i64 b.m)])])=AV.pv (enc y0)∧(if (y0)=true then At Vb 0 (Za Ws G) VI 0 40 [(1,(.pv (.sl 3 false (List.map enc fs)))),(2,(.ptr 0 0)),(5,(.pv (.int .i64 (IntKind.wrap IntKind.i64 (n*IntKind.wrap IntKind.i64 (BoxT.m b+1)))))),(6,(.pv (.int .i64 (IntKind.wrap IntKind.i64 (i+1)))))] [(.obj (.box [(.pv (.sl 1 false (List.map enc b.v))),(.pv (.int .i64 b.m))]))]else(if (decide ((↑(List.length (List.map enc b.v)):Int)<=5))=true then if (decide (n<=300))=true then if (decide ((↑(List.length (List.map enc fs)):Int)<=6))=true then(Go.Pl.preT (fun(x:List Fact×Int×Unit)=>YX x.1) [(.sl 3 false (List.map enc fs)),(.int .i64 6)])=true∧(∃ y1:Bool,AV.pv (Zf (fun(x:List Fact×Int×Unit)=>Cb x.1 x.2.1) [(.sl 3 false (List.map enc fs)),(.int .i64 6)])=AV.pv (enc y1)∧(G ((.bool y1))))else(G ((.bool false)))else(G ((.bool false)))else(G ((.bool false))))))else(if (decide ((↑(List.length (List.map enc b.v)):Int)<=5))=true then if (decide (n<=300))=true then if (decide ((↑(List.length (List.map enc fs)):Int)<=6))=true then(Go.Pl.preT (fun(x:List Fact×Int×Unit)=>YX x.1) [(.sl 3 false (List.map enc fs)),(.int .i64 6)])=true∧(∃ y2:Bool,AV.pv (Zf (fun(x:List Fact×Int×Unit)=>Cb x.1 x.2.1) [(.sl 3 false (List.map enc fs)),(.int .i64 6)])=AV.pv (enc y2)∧(G ((.bool y2))))else(G ((.bool false)))else(G ((.bool false)))else(G ((.bool false))))):At Vb 0 (Za Ws G) VI 0 40 [(1,.pv (enc fs)),(2,.ptr 0 0),(5,.pv (.int .i64 n)),(6,.pv (.int .i64 i))] [.obj (.box [.pv (enc b.v),.pv (.int .i64 b.m)])]:=At.tp (.lit (.ask (.lit (.req (.abs (Bool) (fun YY=>AV.pv (enc YY)) (.lit (.ask (.lit (.lit (.lit (.nil)))) (.lit (.ask (.lit (.lit (.lit (.ask (.lit (.lit (.lit (.lit (.ask (.lit (.req (.abs (Bool) (fun YY=>AV.pv (enc YY)) (.lit (.nil))))) (.lit (.lit (.nil)))))))) (.lit (.lit (.lit (.lit (.lit (.lit (.nil))))))))))) (.lit (.lit (.lit (.lit (.lit (.lit (.lit (.lit (.lit (.nil))))))))))))))))) (.lit (.lit (.lit (.lit (.ask (.lit (.lit (.lit (.ask (.lit (.lit (.lit (.lit (.ask (.lit (.req (.abs (Bool) (fun YY=>AV.pv (enc YY)) (.lit (.nil))))) (.lit (.lit (.nil)))))))) (.lit (.lit (.lit (.lit (.lit (.lit (.nil))))))))))) (.lit (.lit (.lit (.lit (.lit (.lit (.lit (.lit (.lit (.nil))))))))))))))))) h (by kernel_rfl)
end Go.Pl

namespace Go.Pl
open Go.RowKit
open Enc (enc dec is)
open EncL (encL decL isL)
def gwL(m:Int):List Str->List Str->Int->Bool
 | _,[],n=>decide (m ≥ 0)&&decide (n<=20000)
 | seen,s::r,n=>ZB s&& !decide (m ≥ 20000)&& !seen.contains s&&gwL m (seen++[s]) r (if n<=20000 then V8 (n*V8 (m+1))else n)
theorem a2h{m:Int}(hm:m<0): ∀ (r seen:List Str) (n:Int),gwL m seen r n=false
 | [],seen,n=>by rw[gwL,decide_eq_false (by omega)];rfl
 | s::r,seen,n=>by rw[gwL,a2h hm r];simp
theorem b9v{m:Int}(hm:m<0): ∀ (r seen:List Str) (n:Int),gvL m seen r n=false
 | [],seen,n=>by rw[gvL,decide_eq_false (by omega)]
 | s::r,seen,n=>by rw[gvL,decide_eq_true hm];simp
theorem a1s(m:Int): ∀ (r seen:List Str) (n:Int),20000<n->gwL m seen r n=false
 | [],seen,n,h=>by rw[gwL,decide_eq_false (show ¬ n<=20000 by omega),Bool.and_false]
 | s::r,seen,n,h=>by rw[gwL,if_neg (by omega),a1s m r _ n h];simp
theorem a1j(m:Int): ∀ (r seen:List Str) (n:Int),1<=n->n<=20000->gwL m seen r n=gvL m seen r n
 | [],seen,n,h1,h2=>by rw[gwL,gvL,decide_eq_true h2,Bool.and_true]
 | s::r,seen,n,h1,h2=>by
  by_cases hm:m<0
  ·rw[a2h hm,b9v hm]
  ·rw[gwL,gvL,if_pos h2,decide_eq_false hm]
   by_cases hb:m ≥ 20000
   ·rw[decide_eq_true hb];simp
   ·have q1:m+1<=20000:=by omega
    have q2:1<=m+1:=by omega
    have hm2:n*(m+1)<=20000*20000:=Int.le_trans (Int.mul_le_mul_of_nonneg_left q1 (by omega)) (Int.mul_le_mul_of_nonneg_right h2 (by omega))
    have hm1:1<=n*(m+1):=by
     have:=Int.mul_le_mul h1 q2 (by omega) (by omega)
     omega
    rw[X8 (n:=m+1) (by omega) (by omega),X8 (n:=n*(m+1)) (by omega) (by omega),decide_eq_false hb]
    by_cases hn:n*(m+1)>20000
    ·rw[decide_eq_true hn,a1s _ _ _ _ hn];simp
    ·rw[decide_eq_false hn,a1j m r _ _ hm1 (by omega)]
     cases ZB s <;> cases seen.contains s <;> rfl
theorem c3i(b:BoxT)(R:Bool)(n:Int){i:Nat}(hi:i<b.v.length)(hl:b.v.length<=9223372036854775807)(hyes:(b.v.take i).contains b.v[i]=true->R=false)
  (hno:(b.v.take i).contains b.v[i]=false->At Qg 0 (Za VH (Zj R)) VF 0 55 [(1,.ptr 0 0),(3,.pv (.int .i64 (if n<=20000 then V8 (n*V8 (b.m+1))else n))),(4,.pv (.int .i64 ((i+1:Nat):Int)))] [.obj (.box [.pv (enc b.v),.pv (.int .i64 b.m)])]) :
  ∀ (d k:Nat),d+k=i->(∀ j (h:j<b.v.length),j<k->b.v[j]≠b.v[i]) ->
  At Qg 0 (Za VH (Zj R)) VF 1 55 [(1,.ptr 0 0),(3,.pv (.int .i64 n)),(4,.pv (.int .i64 i)),(5,.pv (.int .i64 k))] [.obj (.box [.pv (enc b.v),.pv (.int .i64 b.m)])]:=by
 intro d
 induction d with
 | zero=>
  intro k hk hne
  obtain rfl:k=i:=by omega
  have hc:(b.v.take k).contains b.v[k]=false:=by
   rw[<- Bool.not_eq_true,List.contains_iff_mem]
   intro hm
   obtain⟨j,hj,e⟩:=List.getElem_of_mem hm
   rw[List.length_take]at hj
   rw[List.getElem_take]at e
   exact hne j (by omega) (by omega) e
  have:=hno hc
  refine b4x b n k k (ZN (Ye (by omega)) (Xy (fun h=> ?_) fun h=> ?_))
  ·rw[if_pos h]at this
   rw[next (by omega)]
   exact this
  ·rw[if_neg h]at this
   rw[next (by omega)]
   exact this
 | succ d ih=>
  intro k hk hne
  have hkl:k<b.v.length:=by omega
  refine b4x b n i k (ZU (Z9 (by omega)) ⟨Zq hkl rfl,ZF hkl ⟨Zq hi rfl,ZF hi (KE (fun h=> ?_) fun h=> ?_)⟩⟩)
  ·have e:b.v[k]=b.v[i]:=by
    have h:b.v[k].s=b.v[i].s:=h
    cases hx:b.v[k];cases hy:b.v[i]
    rw[hx,hy]at h
    exact congrArg Str.mk h
   refine ZM (hyes ?_).symm
   rw[List.contains_iff_mem,<- e,List.mem_take_iff_getElem]
   exact⟨k,by omega,rfl⟩
  ·rw[next (by omega)]
   refine ih (k+1) (by omega) fun j hj hjk=> ?_
   by_cases e:j=k
   ·subst e
    intro e2
    exact h (congrArg Str.s e2)
   ·exact hne j hj (by omega)
theorem b5f(b:BoxT)(hl:b.v.length<=9223372036854775807): ∀ (d i:Nat) (n:Int),d+i=b.v.length ->
  At Qg 0 (Za VH (Zj (gwL b.m (b.v.take i) (b.v.drop i) n))) VF 0 55 [(1,.ptr 0 0),(3,.pv (.int .i64 n)),(4,.pv (.int .i64 i))] [.obj (.box [.pv (enc b.v),.pv (.int .i64 b.m)])]:=by
 intro d
 induction d with
 | zero=>
  intro i n hi
  rw[List.drop_of_length_le (by omega)]
  refine b0f b n i (ZN (Ud (by omega)) ?_)
  rw[gwL]
  refine Xy (fun h=> ?_) fun h=> ?_
  ·rw[decide_eq_true h];exact ZM rfl
  ·rw[decide_eq_false h];exact ZM rfl
 | succ d ih=>
  intro i n hi
  have hlt:i<b.v.length:=by omega
  have hd:b.v.drop i=b.v[i]::b.v.drop (i+1):=List.drop_eq_getElem_cons hlt
  have ht:b.v.take (i+1)=b.v.take i++[b.v[i]]:=List.take_succ_eq_append_getElem hlt
  rw[hd,gwL]
  refine b0f b n i (ZU (WW hlt) ⟨Zq hlt rfl,ZF hlt (Zd (b.v[i],()) rfl (XX (fun h=> ?_) fun h=>Xy (fun h2=> ?_) fun h2=> ?_))⟩)
  ·have h:ZB b.v[i]=false:=h
   rw[h];exact ZM rfl
  ·rw[decide_eq_true h2];simp only[Bool.not_true,Bool.and_false,Bool.false_and];exact ZM rfl
  ·have h:ZB b.v[i]=true:=h
   rw[decide_eq_false h2,h]
   simp only[Bool.not_false,Bool.true_and,Bool.and_true]
   refine c3i b _ n hlt hl (fun hc=>by rw[hc];rfl) (fun hc=> ?_) i 0 (by omega) (fun j _ hj=>by omega)
   rw[hc,Bool.not_false,Bool.true_and,<- ht]
   exact ih (i+1) _ (by omega)
theorem c1u: ∀ a:BoxT×Unit,ZW a.1=true->Zc Qg 0 (Za VH (Zj (YZ a.1))) VF [] (Yr c3p (encL a)):=by
 rintro⟨b,⟨⟩⟩ h
 simp only[ZW,YB,Bool.and_eq_true]at h
 rw[<- a0v,<- a1j b.m b.v [] 1 (by decide) (by decide)]
 exact c8u b (b5f b (Zu.1 h.1) b.v.length 0 1 (by omega))
end Go.Pl

namespace Go.Pl
open Go.RowKit
open Enc (enc dec is)
open EncL (encL decL isL)
def b0n(m:Int):Nat->Int->Int
 | 0,n=>n
 | k+1,n=>b0n m k (V8 (n*V8 (m+1)))
theorem JA(b:BoxT)(fs:List Fact)(hl:b.v.length<=9223372036854775807)(hf:YX fs=true)(n:Int){P:Prop}{G:PV->Prop}(hG : ∀ x,x=(decide (b.v.length<=5)&&decide (n<=300)&&decide (fs.length<=6)&&Cb fs 6)->G (.bool x)):
  if (decide ((↑(List.length (List.map (enc:Str->PV) (BoxT.v b))):Int)<=5))=true then if (decide (n<=300))=true then if (decide ((↑(List.length (List.map (enc:Fact->PV) fs)):Int)<=6))=true then
   (Go.Pl.preT (fun(x:List Fact×Int×Unit)=>YX (Prod.fst x)) [(.sl 3 false (List.map enc fs)),(.int .i64 6)])=true∧(∃ y1:Bool,AV.pv (Zf (fun(x:List Fact×Int×Unit)=>Cb (Prod.fst x) (Prod.fst (Prod.snd x))) [(.sl 3 false (List.map enc fs)),(.int .i64 6)])=AV.pv (enc y1)∧(G ((.bool y1))))else(G ((.bool false)))else(G ((.bool false)))else(G ((.bool false))):=by
 simp only[List.length_map]
 refine Xy (fun h1=>Xy (fun h2=>Xy (fun h3=>⟨Ze (fs,6,()) rfl hf,Zd (fs,6,()) rfl (hG _ ?_)⟩) fun h3=>hG _ ?_) fun h2=>hG _ ?_) fun h1=>hG _ ?_
 ·rw[decide_eq_true (show b.v.length<=5 by omega),decide_eq_true h2,decide_eq_true (show fs.length<=6 by omega)];rfl
 ·rw[decide_eq_false (show ¬ fs.length<=6 by omega)];simp
 ·rw[decide_eq_false h2];simp
 ·rw[decide_eq_false (show ¬ b.v.length<=5 by omega)];simp
theorem LD(b:BoxT)(fs:List Fact)(hb:ZW b=true)(hv:YZ b=true)(hf:YX fs=true): ∀ (k i:Nat) (n:Int),k+i=b.v.length ->
  At Vb 0 (Za Ws (Zj (decide (b.v.length<=5)&&decide (b0n b.m k n<=300)&&decide (fs.length<=6)&&Cb fs 6))) VI 0 40 [(1,.pv (enc fs)),(2,.ptr 0 0),(5,.pv (.int .i64 n)),(6,.pv (.int .i64 i))] [.obj (.box [.pv (enc b.v),.pv (.int .i64 b.m)])]:=by
 have hbo:=hb
 simp only[ZW,YB,Bool.and_eq_true]at hb
 have hl:=Zu.1 hb.1
 intro k
 induction k with
 | zero=>
  intro i n hi
  exact K6 b fs n i (ZN (Ud (by omega)) (JA (P:=True) b fs hl hf n fun x hx=>ZM hx))
 | succ k ih=>
  intro i n hi
  have hlt:i<b.v.length:=by omega
  refine K6 b fs n i (ZU (WW hlt) ⟨Ze (b,()) rfl hbo,Zd (b,()) rfl (ZU hv ?_)⟩)
  rw[next (by omega)]
  exact ih (i+1) _ (by omega)
theorem Mw(m:Nat): ∀ (l:List Str) (n r:Int),0<=n->n<=20000->QL m l n=some r->m<=20000->b0n m l.length n=a1u m l n
 | [],n,r,_,_,_,_=>rfl
 | s::l,n,r,h0,h1,h,hm=>by
  rw[QL]at h
  split at h
  ·cases h
  ·rename_i hn
   show b0n m l.length (V8 (n*V8 ((m:Int)+1)))=a1u m l (n*((m:Int)+1))
   have e0:0<=n*((m:Int)+1):=Int.mul_nonneg h0 (by omega)
   rw[X8 (n:=(m:Int)+1) (by omega) (by omega),X8 (by omega) (by omega)]
   exact Mw m l _ r e0 (by omega) h hm
theorem O7: ∀ x:BoxT×List Fact×Unit,(ZW x.1&&YX x.2.1)=true->Zc Vb 0 (Za Ws (Zj (Qi x.1 x.2.1))) VI [] (Yr a3m (encL x)):=by
 rintro⟨b,fs,⟨⟩⟩ h
 simp only[Bool.and_eq_true]at h
 obtain⟨hb,hf⟩:=h
 have hbo:=hb
 simp only[ZW,YB,Bool.and_eq_true]at hb
 have hl:=Zu.1 hb.1
 refine b0m b fs ?_
 cases hv:YZ b
 ·have ef:Qi b fs=(decide (b.v.length<=5)&&decide ((1:Int)<=300)&&decide (fs.length<=6)&&Cb fs 6):=by unfold Qi;rw[hv];rfl
  show At Vb 0 (Za Ws (Zj (Qi b fs))) _ _ _ _ _
  rw[ef]
  by_cases h0:0<b.v.length
  ·refine K6 b fs 1 ((0:Nat):Int) (ZU (WW h0) ⟨Ze (b,()) rfl hbo,Zd (b,()) rfl (ZN (show ¬ YZ b=true by simp[hv]) ?_)⟩)
   exact JA (P:=True) b fs hl hf 1 fun x hx=>ZM hx
  ·exact K6 b fs 1 ((0:Nat):Int) (ZN (Ud h0) (JA (P:=True) b fs hl hf 1 fun x hx=>ZM hx))
 ·have ef:Qi b fs=(decide (b.v.length<=5)&&decide (b0n b.m b.v.length 1<=300)&&decide (fs.length<=6)&&Cb fs 6):=by
   unfold Qi
   rw[hv,if_pos rfl]
   obtain⟨_,_,h3,h4,h5⟩:=X7.1 hv
   obtain⟨r,hr⟩:=Option.isSome_iff_exists.1 h5
   rcases h3 with h3|h3
   ·rw[h3];rfl
   ·have e:b.m=(b.m.toNat:Int):=by omega
    rw[e]at hr ⊢
    rw[Mw _ _ _ _ (by decide) (by decide) hr (by omega)]
  show At Vb 0 (Za Ws (Zj (Qi b fs))) _ _ _ _ _
  rw[ef]
  exact LD b fs hbo hv hf b.v.length 0 1 (by omega)
end Go.Pl

namespace Go.Pl
open Go.RowKit
open Enc (enc dec is)
open EncL (encL decL isL)
set_option maxRecDepth 100000
end Go.Pl

namespace Go.Pl
open Go.RowKit
open Enc (enc dec is)
open EncL (encL decL isL)
theorem a7r(v a b:List Str):Qq v (a++b)=(Qq v a&&Qq v b):=by unfold Qq;rw[List.all_append]
theorem b9j{b:BoxT}(h:YZ b=true): ∀ y∈QM b.m.toNat b.v.length,∀ x∈y,-1<=x∧x<=20000:=by
 intro y hy x hx
 obtain⟨q1,q2⟩:=KS.1 hy
 have:=q2 x hx
 obtain⟨_,_,h3,h4,_⟩:=X7.1 h
 rcases h3 with h3|h3
 ·rw[h3]at q1
  rw[List.length_eq_zero_iff.1 q1]at hx
  cases hx
 ·omega
end Go.Pl

namespace Go.Pl
open Go.RowKit
open Enc (enc dec is)
open EncL (encL decL isL)
def lessB(m n:Int):Bool:=decide (m<n)
def QP(g:Nat):List AV->List AObj->Bool
 | [.pv (.int .i64 n),.ptr 0 0,.ptr 1 0,.ptr 2 0],[.box [.pv (.bool s)],.box [.pv (.fn g')],.box [.pv (.int .i64 z)]]=>g'==g
 | _,_=>false
def K4(f:Int->Int->Bool):List AV->List AObj->AV×List AObj×List AObj
 | [.pv (.int .i64 n),_,_,_],[.box [.pv (.bool s)],.box [.pv (.fn g)],.box [.pv (.int .i64 z)]]=>(.tup [],[.box [.pv (.bool true)],.box [.pv (.fn g)],.box [.pv (.int .i64 (if !s||f n z then n else z))]],[])
 | _,_=>Vu
def Ue(f:Int->Int->Bool):List Int->Option Int
 | []=>none
 | x::l=>some (l.foldl (fun z n=>if f n z then n else z) x)
def Yz(b:BoxT)(fs:List Fact)(l:Lin):List Int:=(Z0 b fs).map fun p=>(YP l (Zi b.v p)).1
def Xw(b:BoxT)(fs:List Fact)(l:Lin):Bool:=ZW b&&Zo fs&&decide (fs.length<=100)&&decide (b.v.length<=1000)&&Z6 l&&decide (l.t.length<=1000)
def XM(f:Int->Int->Bool)(b:BoxT)(fs:List Fact)(l:Lin):Int×Int:=
 if Zm b fs (Zz l) (Zp l)=0 then(match Ue f (Yz b fs l)with|none=>(0,9)|some z=>(z,0))else(0,Zm b fs (Zz l) (Zp l))
end Go.Pl

namespace Go.Pl
open Go.RowKit
open Enc (enc dec is)
open EncL (encL decL isL)
set_option maxRecDepth 100000
def Ex:IC:=(.seq (.reg [⟨(some 4),(.mv (.c (.bool false))),0,none⟩] none) (.seq (.reg [⟨(some 5),(.mv (.t 0)),0,none⟩,⟨(some 6),(.mv (.t 1)),0,none⟩,⟨(some 7),(.bin .num .lss (.t 5) (.t 6)),0,none⟩,⟨(some 4),(.mv (.t 7)),0,none⟩] none) .ret))
def Eg:List IRes:=[(.tmp 4)]
abbrev c5x:Nat:=8
def a9n:ZK:=Xp []
theorem c8k{G:PV->Prop}(m n:Int)(h:G ((.bool (decide (m<n))))):Zc a9n 0 (Za Eg G) Ex [] (Yr 8 [enc m,enc n]):=Zc.tp (.lit (.nil)) h (by kernel_rfl)
def RY:IC:=(.seq (.reg [⟨(some 5),(.load false [.bool] (.t 1)),0,none⟩,⟨(some 6),(.un .not (.t 5)),0,none⟩,⟨(some 7),(.mv (.t 6)),0,none⟩,⟨(some 8),(.load false [.any] (.t 2)),0,(some (7,false))⟩,⟨(some 9),(.mv (.t 0)),0,(some (7,false))⟩,⟨(some 10),(.load false [(.int .i64)] (.t 3)),0,(some (7,false))⟩,⟨(some 11),(.call (.t 8) [(.t 9),(.t 10)]),0,(some (7,false))⟩,⟨(some 12),(.pick (.t 7) (.c (.bool true)) (.t 11)),2,none⟩] none) (.cond (.t 12) (.reg [⟨(some 13),(.mv (.t 0)),0,none⟩,⟨none,(.store 1 (.t 3) (.t 13)),0,none⟩,⟨none,(.store 1 (.t 1) (.c (.bool true))),0,none⟩] none) .skip))
def PU:List IRes:=[]
abbrev c0t:Nat:=14
def Ox:ZK:=Xp [(128,.pure (preT (fun _:Int×Int×Unit=>true)) (Zf (fun x:Int×Int×Unit=>decide (x.1<x.2.1))))]
theorem c6z{G:AV×List AObj×List AObj->Prop}(n:Int)(s:Bool)(z:Int)(h:if (!s)=true then G (((.tup []),([(.box [(.pv (.bool true))]),(.box [(.pv (.fn 128))]),(.box [(.pv (.int .i64 n))])],[])))else(∃ y0:Bool,AV.pv (Zf (fun(x:Int×Int×Unit)=>decide (x.1<x.2.1)) [(.int .i64 n),(.int .i64 z)])=AV.pv (enc y0)∧(if (y0)=true then G (((.tup []),([(.box [(.pv (.bool true))]),(.box [(.pv (.fn 128))]),(.box [(.pv (.int .i64 n))])],[])))else(G (((.tup []),([(.box [(.pv (.bool s))]),(.box [(.pv (.fn 128))]),(.box [(.pv (.int .i64 z))])],[]))))))):Zc Ox 3 (Zl 3 PU G) RY [] (YR 14 [.pv (.int .i64 n),.ptr 0 0,.ptr 1 0,.ptr 2 0] [.box [.pv (.bool s)],.box [.pv (.fn 128)],.box [.pv (.int .i64 z)]]):=Zc.to (.ask (.lit (.lit (.lit (.lit (.lit (.nil)))))) (.lit (.lit (.lit (.lit (.abs (Bool) (fun YY=>AV.pv (enc YY)) (.lit (.ask (.nil) (.nil))))))))) h (by kernel_rfl)
def Ur:IC:=(.seq (.reg [⟨(some 4),(.box 2 (.t 0)),0,none⟩,⟨(some 6),(.box 2 (.t 2)),1,none⟩,⟨(some 7),(.box 1 (.t 3)),2,none⟩,⟨(some 8),(.alloc (.int .i64 0)),3,none⟩,⟨(some 9),(.alloc (.int .i64 0)),4,none⟩] none) (.seq (.seq (.reg [⟨(some 18),(.load true [(.sl 1),(.int .i64)] (.t 4)),0,none⟩,⟨(some 19),(.mv (.t 1)),0,none⟩,⟨(some 20),(.load true [(.int .i64),(.sl 2)] (.t 6)),0,none⟩,⟨(some 21),(.call (.c (.fn 73)) [(.t 20)]),0,none⟩,⟨(some 22),(.load true [(.int .i64),(.sl 2)] (.t 6)),2,none⟩,⟨(some 23),(.call (.c (.fn 174)) [(.t 22)]),2,none⟩,⟨(some 24),(.call (.c (.fn 116)) [(.t 18),(.t 19),(.t 21),(.t 23)]),4,none⟩,⟨(some 10),(.mv (.t 24)),6,none⟩] (some [[],[],[],[2],[],[4,3,2],[0,1,3,5,2,4],[6,0,1,2,3,4,5]])) (.seq (.reg [⟨(some 25),(.mv (.t 10)),0,none⟩,⟨(some 26),(.bin .num .neq (.t 25) (.c (.int .i64 0))),0,none⟩] none) (.cond (.t 26) (.seq (.reg [⟨(some 27),(.mv (.t 10)),0,none⟩,⟨none,(.store 1 (.t 8) (.c (.int .i64 0))),0,none⟩,⟨none,(.store 1 (.t 9) (.t 27)),0,none⟩] none) .ret) .skip))) (.seq (.reg [⟨(some 11),(.alloc (.int .i64 0)),0,none⟩,⟨(some 12),(.alloc (.bool false)),1,none⟩,⟨none,(.store 1 (.t 11) (.c (.int .i64 0))),2,none⟩,⟨none,(.store 1 (.t 12) (.c (.bool false))),2,none⟩] none) (.seq (.reg [⟨(some 28),(.mkfn 194 [] [(.t 12),(.t 7),(.t 11)]),0,none⟩,⟨(some 13),(.alloc .nilfn),0,none⟩,⟨none,(.store 1 (.t 13) (.t 28)),1,none⟩] none) (.seq (.seq (.reg [⟨(some 29),(.load true [(.sl 1),(.int .i64)] (.t 4)),0,none⟩,⟨(some 30),(.mv (.t 1)),0,none⟩,⟨(some 31),(.call (.c (.fn 117)) [(.t 29),(.t 30)]),0,none⟩] none) (.block 0 (.ext 0 [31,33,6,15,35,36,37,34,38,39,17,40,41,8,9,42,13,16,43,44,12,11]))) (.seq (.seq (.reg [⟨(some 46),(.load false [.bool] (.t 12)),0,none⟩,⟨(some 47),(.un .not (.t 46)),0,none⟩] none) (.cond (.t 47) (.seq (.reg [⟨none,(.store 1 (.t 8) (.c (.int .i64 0))),0,none⟩,⟨none,(.store 1 (.t 9) (.c (.int .i64 9))),0,none⟩] none) .ret) .skip)) (.seq (.reg [⟨(some 48),(.load false [(.int .i64)] (.t 11)),0,none⟩,⟨none,(.store 1 (.t 8) (.t 48)),0,none⟩,⟨none,(.store 1 (.t 9) (.c (.int .i64 0))),0,none⟩] none) .ret)))))))
def QG:List IRes:=[(.cell false 1 8),(.cell false 1 9)]
abbrev b1w:Nat:=49
def VX:ZK:=Xp [(73,.pure (preT (fun x:Lin×Unit=>Z6 x.1)) (Zf (fun x:Lin×Unit=>Zz x.1))),(174,.own K5 CB),(116,.pure (preT (fun x:BoxT×List Fact×Bool×NilS×Unit=>ZW x.1&&Zo x.2.1&&decide (x.2.1.length<=100))) (Zf (fun x:BoxT×List Fact×Bool×NilS×Unit=>Zm x.1 x.2.1 x.2.2.1 []))),(117,.own Y9 WL),(38,.pure (preT (fun x:Lin×List Coef×Unit=>Z6 x.1&&decide (x.2.1.length<=9223372036854775807))) (Zf (fun x:Lin×List Coef×Unit=>YP x.1 x.2.1))),(194,.own (QP 128) (K4 lessB))]
theorem c1t{G:PV->Prop}(E:YA)(b:BoxT)(fs:List Fact)(l:Lin)(h:(Go.Pl.preT (fun(x:Lin×Unit)=>Z6 x.1) [(.agg [(.int .i64 l.k),(.sl 2 false (List.map enc l.t))])])=true∧(∃ y0:Bool,AV.pv (Zf (fun(x:Lin×Unit)=>Zz x.1) [(.agg [(.int .i64 l.k),(.sl 2 false (List.map enc l.t))])])=AV.pv (enc y0)∧((K5 [(.pv (.agg [(.int .i64 l.k),(.sl 2 false (List.map enc l.t))]))] [])=true∧((Go.Pl.preT (fun(x:BoxT×List Fact×Bool×NilS×Unit)=>ZW x.1&&Zo x.2.1&&decide (List.length x.2.1<=100)) [(.agg [(.sl 1 false (List.map enc b.v)),(.int .i64 b.m)]),(.sl 3 false (List.map enc fs)),(.bool y0),(.sl 0 true [])])=true∧(∃ y1:Int,AV.pv (Zf (fun(x:BoxT×List Fact×Bool×NilS×Unit)=>Zm x.1 x.2.1 x.2.2.1 []) [(.agg [(.sl 1 false (List.map enc b.v)),(.int .i64 b.m)]),(.sl 3 false (List.map enc fs)),(.bool y0),(.sl 0 true [])])=AV.pv (enc y1)∧(if (y1 != 0)=true then G ((.tup [(.int .i64 0),(.int .i64 y1)]))else((Y9 [(.pv (.agg [(.sl 1 false (List.map enc b.v)),(.int .i64 b.m)])),(.pv (.sl 3 false (List.map enc fs)))] [])=true∧(E 0 ⟨ZX 49 0 [(6,(.ptr 0 0)),(8,(.ptr 1 0)),(9,(.ptr 2 0)),(11,(.ptr 3 0)),(12,(.ptr 4 0)),(13,(.ptr 5 0)),(15,.undef),(16,.undef),(17,.undef),(31,(.fn 177 [] [(.ptr 6 0),(.ptr 7 0)])),(33,.undef),(34,.undef),(35,.undef),(36,.undef),(37,.undef),(38,.undef),(39,.undef),(40,.undef),(41,.undef),(42,.undef),(43,.undef),(44,.undef)],[(.obj (.box [(.pv (.int .i64 l.k)),(.pv (.sl 2 false (List.map enc l.t)))])),(.obj (.box [(.pv (.int .i64 0))])),(.obj (.box [(.pv (.int .i64 0))])),(.obj (.box [(.pv (.int .i64 0))])),(.obj (.box [(.pv (.bool false))])),(.obj (.box [(.fn 194 [] [(.ptr 4 0),(.ptr 8 0),(.ptr 3 0)])])),(.obj (.box [(.pv (.sl 1 false (List.map enc b.v))),(.pv (.int .i64 b.m))])),(.obj (.box [(.pv (.sl 3 false (List.map enc fs)))])),(.obj (.box [(.pv (.fn 128))]))]⟩ (fun x S'=>Jj VX E 0 (Za QG G) Ur 0 x S'))))))))):ZI VX E 0 (Za QG G) (.inl Ur) [] (Yr 49 [enc b,enc fs,enc l,.fn 128]):=ZI.mp (.req (.abs (Bool) (fun YY=>AV.pv (enc YY)) (.req (.keep (.req (.abs (Int) (fun YY=>AV.pv (enc YY)) (.lit (.ask (.nil) (.req (.keep (.nil))))))))))) h (by kernel_rfl)
theorem b6m{G:PV->Prop}(E:YA)(b:BoxT)(fs:List Fact)(l:Lin)(z:Int)(s:Bool)(h:if (!s)=true then G ((.tup [(.int .i64 0),(.int .i64 9)]))else(G ((.tup [(.int .i64 z),(.int .i64 0)])))):Jj VX E 0 (Za QG G) Ur 0 .normal ⟨ZX 49 0 [(6,.ptr 0 0),(8,.ptr 1 0),(9,.ptr 2 0),(11,.ptr 3 0),(12,.ptr 4 0),(13,.ptr 5 0)],[.obj (.box [.pv (.int .i64 l.k),.pv (enc l.t)]),.obj (.box [.pv (.int .i64 0)]),.obj (.box [.pv (.int .i64 0)]),.obj (.box [.pv (.int .i64 z)]),.obj (.box [.pv (.bool s)]),.obj (.box [.fn 194 [] [.ptr 4 0,.ptr 6 0,.ptr 3 0]]),.obj (.box [.pv (.fn 128)])]⟩:=ZI.mp (.ask (.nil) (.nil)) h (by kernel_rfl)
def Qj:IC:=Ur
def QD:List IRes:=[(.cell false 1 8),(.cell false 1 9)]
abbrev a9k:Nat:=49
def VU:ZK:=Xp [(73,.pure (preT (fun x:Lin×Unit=>Z6 x.1)) (Zf (fun x:Lin×Unit=>Zz x.1))),(174,.own K9 Gp),(116,.own Ug Q9),(117,.own Y9 WL),(38,.pure (preT (fun x:Lin×List Coef×Unit=>Z6 x.1&&decide (x.2.1.length<=9223372036854775807))) (Zf (fun x:Lin×List Coef×Unit=>YP x.1 x.2.1))),(194,.own (QP 128) (K4 lessB))]
theorem b7b{G:PV->Prop}(E:YA)(b:BoxT)(fs:List Fact)(l:Lin)(h:(Go.Pl.preT (fun(x:Lin×Unit)=>Z6 x.1) [(.agg [(.int .i64 l.k),(.sl 2 false (List.map enc l.t))])])=true∧(∃ y0:Bool,AV.pv (Zf (fun(x:Lin×Unit)=>Zz x.1) [(.agg [(.int .i64 l.k),(.sl 2 false (List.map enc l.t))])])=AV.pv (enc y0)∧((K9 [(.pv (.agg [(.int .i64 l.k),(.sl 2 false (List.map enc l.t))]))] [])=true∧((Ug [(.pv (.agg [(.sl 1 false (List.map enc b.v)),(.int .i64 b.m)])),(.pv (.sl 3 false (List.map enc fs))),(.pv (.bool y0)),(.row 0 (List.length (Zp (EX (PV.agg [enc l.k,enc l.t])))) 0 (List.length (Zp (EX (PV.agg [enc l.k,enc l.t])))))] [(.row false 9 1 (List.map enc (Zp (EX (PV.agg [enc l.k,enc l.t])))))])=true∧(if (Zm (OA (PV.agg [enc b.v,enc b.m])) (BS (enc fs)) y0 (KM (List.map enc (Zp (EX (PV.agg [enc l.k,enc l.t]))))) != 0)=true then G ((.tup [(.int .i64 0),(.int .i64 (Zm (OA (PV.agg [enc b.v,enc b.m])) (BS (enc fs)) y0 (KM (List.map enc (Zp (EX (PV.agg [enc l.k,enc l.t])))))))]))else((Y9 [(.pv (.agg [(.sl 1 false (List.map enc b.v)),(.int .i64 b.m)])),(.pv (.sl 3 false (List.map enc fs)))] [])=true∧(E 0 ⟨ZX 49 0 [(6,(.ptr 0 0)),(8,(.ptr 1 0)),(9,(.ptr 2 0)),(11,(.ptr 3 0)),(12,(.ptr 4 0)),(13,(.ptr 5 0)),(15,.undef),(16,.undef),(17,.undef),(31,(.fn 177 [] [(.ptr 6 0),(.ptr 7 0)])),(33,.undef),(34,.undef),(35,.undef),(36,.undef),(37,.undef),(38,.undef),(39,.undef),(40,.undef),(41,.undef),(42,.undef),(43,.undef),(44,.undef)],[(.obj (.box [(.pv (.int .i64 l.k)),(.pv (.sl 2 false (List.map enc l.t)))])),(.obj (.box [(.pv (.int .i64 0))])),(.obj (.box [(.pv (.int .i64 0))])),(.obj (.box [(.pv (.int .i64 0))])),(.obj (.box [(.pv (.bool false))])),(.obj (.box [(.fn 194 [] [(.ptr 4 0),(.ptr 8 0),(.ptr 3 0)])])),(.obj (.box [(.pv (.sl 1 false (List.map enc b.v))),(.pv (.int .i64 b.m))])),(.obj (.box [(.pv (.sl 3 false (List.map enc fs)))])),(.obj (.box [(.pv (.fn 128))]))]⟩ (fun x S'=>Jj VU E 0 (Za QD G) Qj 0 x S')))))))):ZI VU E 0 (Za QD G) (.inl Qj) [] (Yr 49 [enc b,enc fs,enc l,.fn 128]):=ZI.mp (.req (.abs (Bool) (fun YY=>AV.pv (enc YY)) (.req (.keep (.req (.keep (.lit (.ask (.nil) (.req (.keep (.nil))))))))))) h (by kernel_rfl)
theorem b1z{G:PV->Prop}(E:YA)(b:BoxT)(fs:List Fact)(l:Lin)(z:Int)(s:Bool)(h:if (!s)=true then G ((.tup [(.int .i64 0),(.int .i64 9)]))else(G ((.tup [(.int .i64 z),(.int .i64 0)])))):Jj VU E 0 (Za QD G) Qj 0 .normal ⟨ZX 49 0 [(6,.ptr 0 0),(8,.ptr 1 0),(9,.ptr 2 0),(11,.ptr 3 0),(12,.ptr 4 0),(13,.ptr 5 0)],[.obj (.box [.pv (.int .i64 l.k),.pv (enc l.t)]),.obj (.box [.pv (.int .i64 0)]),.obj (.box [.pv (.int .i64 0)]),.obj (.box [.pv (.int .i64 z)]),.obj (.box [.pv (.bool s)]),.obj (.box [.fn 194 [] [.ptr 4 0,.ptr 6 0,.ptr 3 0]]),.obj (.box [.pv (.fn 128)])]⟩:=ZI.mp (.ask (.nil) (.nil)) h (by kernel_rfl)
def Nn:IC:=(.seq (.reg [⟨(some 3),(.box 2 (.t 0)),0,none⟩,⟨(some 5),(.box 2 (.t 2)),1,none⟩,⟨(some 6),(.mv (.c (.int .i64 0))),2,none⟩,⟨(some 7),(.mv (.c (.int .i64 0))),2,none⟩] none) (.seq (.reg [⟨(some 8),(.load true [(.sl 1),(.int .i64)] (.t 3)),0,none⟩,⟨(some 9),(.mv (.t 1)),0,none⟩,⟨(some 10),(.load true [(.int .i64),(.sl 2)] (.t 5)),0,none⟩,⟨(some 11),(.call (.c (.fn 127)) [(.t 8),(.t 9),(.t 10),(.c (.fn 128))]),0,none⟩,⟨(some 12),(.extract (.t 11) 0),2,none⟩,⟨(some 13),(.extract (.t 11) 1),2,none⟩,⟨(some 6),(.mv (.t 12)),2,none⟩,⟨(some 7),(.mv (.t 13)),2,none⟩] none) .ret))
def Pg:List IRes:=[(.tmp 6),(.tmp 7)]
abbrev c2c:Nat:=14
def El:ZK:=Xp [(127,.pure (preT (fun x:BoxT×List Fact×Lin×FnV 128×Unit=>Xw x.1 x.2.1 x.2.2.1)) (Zf (fun x:BoxT×List Fact×Lin×FnV 128×Unit=>XM lessB x.1 x.2.1 x.2.2.1)))]
theorem c5l{G:PV->Prop}(b:BoxT)(fs:List Fact)(l:Lin)(h:(Go.Pl.preT (fun(x:BoxT×List Fact×Lin×FnV 128×Unit)=>Xw x.1 x.2.1 x.2.2.1) [(.agg [(.sl 1 false (List.map enc b.v)),(.int .i64 b.m)]),(.sl 3 false (List.map enc fs)),(.agg [(.int .i64 l.k),(.sl 2 false (List.map enc l.t))]),(.fn 128)])=true∧(∃ y0:Int×Int,AV.pv (Zf (fun(x:BoxT×List Fact×Lin×FnV 128×Unit)=>XM lessB x.1 x.2.1 x.2.2.1) [(.agg [(.sl 1 false (List.map enc b.v)),(.int .i64 b.m)]),(.sl 3 false (List.map enc fs)),(.agg [(.int .i64 l.k),(.sl 2 false (List.map enc l.t))]),(.fn 128)])=AV.pv (enc y0)∧(G ((.tup [(.int .i64 y0.1),(.int .i64 y0.2)]))))):Zc El 0 (Za Pg G) Nn [] (Yr 14 [enc b,enc fs,enc l]):=Zc.tp (.req (.abs (Int×Int) (fun YY=>AV.pv (enc YY)) (.nil))) h (by kernel_rfl)
def Ut:IC:=(.block 1 (.seq (.reg [⟨(some 35),(.load true [(.int .i64),(.sl 2)] (.t 6)),0,none⟩,⟨(some 36),(.mv (.t 15)),0,none⟩,⟨(some 37),(.call (.c (.fn 38)) [(.t 35),(.t 36)]),0,none⟩,⟨(some 34),(.mv (.t 37)),2,none⟩,⟨(some 38),(.extract (.t 34) 0),2,none⟩,⟨(some 39),(.extract (.t 34) 1),2,none⟩,⟨(some 16),(.mv (.t 38)),2,none⟩,⟨(some 17),(.mv (.t 39)),2,none⟩] none) (.seq (.seq (.reg [⟨(some 40),(.mv (.t 17)),0,none⟩,⟨(some 41),(.bin .num .neq (.t 40) (.c (.int .i64 0))),0,none⟩] none) (.cond (.t 41) (.seq (.reg [⟨(some 42),(.mv (.t 17)),0,none⟩,⟨none,(.store 1 (.t 8) (.c (.int .i64 0))),0,none⟩,⟨none,(.store 1 (.t 9) (.t 42)),0,none⟩] none) .ret) .skip)) (.reg [⟨(some 43),(.load false [.any] (.t 13)),0,none⟩,⟨(some 44),(.mv (.t 16)),0,none⟩,⟨(some 45),(.call (.t 43) [(.t 44)]),0,none⟩] none))))
def a0g:ZK:=Xp [(73,.pure (preT (fun x:Lin×Unit=>Z6 x.1)) (Zf (fun x:Lin×Unit=>Zz x.1))),(174,.own K5 CB),(116,.pure (preT (fun x:BoxT×List Fact×Bool×NilS×Unit=>ZW x.1&&Zo x.2.1&&decide (x.2.1.length<=100))) (Zf (fun x:BoxT×List Fact×Bool×NilS×Unit=>Zm x.1 x.2.1 x.2.2.1 []))),(117,.own Y9 WL),(38,.pure (preT (fun x:Lin×List Coef×Unit=>Z6 x.1&&decide (x.2.1.length<=9223372036854775807))) (Zf (fun x:Lin×List Coef×Unit=>YP x.1 x.2.1))),(194,.own (QP 128) (K4 lessB))]
theorem b2k{G:Zw->Prop}(E:YA)(l:Lin)(p:List Int)(vs:List Coef)(z:Int)(s:Bool)(h:(Go.Pl.preT (fun(x:Lin×List Coef×Unit)=>Z6 x.1&&decide (List.length x.2.1<=9223372036854775807)) [(.agg [(.int .i64 l.k),(.sl 2 false (List.map enc l.t))]),(.sl 2 false (List.map enc vs))])=true∧(∃ y0:Int×Int,AV.pv (Zf (fun(x:Lin×List Coef×Unit)=>YP x.1 x.2.1) [(.agg [(.int .i64 l.k),(.sl 2 false (List.map enc l.t))]),(.sl 2 false (List.map enc vs))])=AV.pv (enc y0)∧(if (y0.2 != 0)=true then G ([(.obj (.box [(.pv (.int .i64 l.k)),(.pv (.sl 2 false (List.map enc l.t)))])),(.obj (.box [(.pv (.int .i64 0))])),(.obj (.box [(.pv (.int .i64 y0.2))])),(.obj (.box [(.pv (.int .i64 z))])),(.obj (.box [(.pv (.bool s))])),(.obj (.box [(.fn 194 [] [(.ptr 4 0),(.ptr 6 0),(.ptr 3 0)])])),(.obj (.box [(.pv (.fn 128))])),.fresh,.fresh])else(E 99 ⟨ZX 49 0 [],[(.obj (.box [(.pv (.int .i64 l.k)),(.pv (.sl 2 false (List.map enc l.t)))])),(.obj (.box [(.pv (.int .i64 0))])),(.obj (.box [(.pv (.int .i64 0))])),(.obj (.box [(.pv (.int .i64 (if (!s||lessB y0.1 z)=true then y0.1 else z)))])),(.obj (.box [(.pv (.bool true))])),(.obj (.box [(.fn 194 [] [(.ptr 4 0),(.ptr 6 0),(.ptr 3 0)])])),(.obj (.box [(.pv (.fn 128))]))]⟩ (fun x S'=>Jj a0g E 7 (fun st=>G st.heap) Ut 99 x S'))))):ZI a0g E 7 (fun st=>G st.heap) (.inl Ut) [.seq (.ext 99 [])] ⟨ZX 49 0 [(6,.ptr 0 0),(8,.ptr 1 0),(9,.ptr 2 0),(11,.ptr 3 0),(12,.ptr 4 0),(13,.ptr 5 0),(15,.pv (enc vs)),(32,.pv (enc p)),(33,.pv (enc vs))],[.obj (.box [.pv (.int .i64 l.k),.pv (enc l.t)]),.obj (.box [.pv (.int .i64 0)]),.obj (.box [.pv (.int .i64 0)]),.obj (.box [.pv (.int .i64 z)]),.obj (.box [.pv (.bool s)]),.obj (.box [.fn 194 [] [.ptr 4 0,.ptr 6 0,.ptr 3 0]]),.obj (.box [.pv (.fn 128)])]⟩:=ZI.mh (.req (.abs (Int×Int) (fun YY=>AV.pv (enc YY)) (.lit (.ask (.nil) (.lit (.keep (.nil))))))) h (by kernel_rfl)
def Qk:IC:=Ut
def E9:ZK:=Xp [(73,.pure (preT (fun x:Lin×Unit=>Z6 x.1)) (Zf (fun x:Lin×Unit=>Zz x.1))),(174,.own K9 Gp),(116,.own Ug Q9),(117,.own Y9 WL),(38,.pure (preT (fun x:Lin×List Coef×Unit=>Z6 x.1&&decide (x.2.1.length<=9223372036854775807))) (Zf (fun x:Lin×List Coef×Unit=>YP x.1 x.2.1))),(194,.own (QP 128) (K4 lessB))]
theorem a8l{G:Zw->Prop}(E:YA)(l:Lin)(p:List Int)(vs:List Coef)(z:Int)(s:Bool)(h:(Go.Pl.preT (fun(x:Lin×List Coef×Unit)=>Z6 x.1&&decide (List.length x.2.1<=9223372036854775807)) [(.agg [(.int .i64 l.k),(.sl 2 false (List.map enc l.t))]),(.sl 2 false (List.map enc vs))])=true∧(∃ y0:Int×Int,AV.pv (Zf (fun(x:Lin×List Coef×Unit)=>YP x.1 x.2.1) [(.agg [(.int .i64 l.k),(.sl 2 false (List.map enc l.t))]),(.sl 2 false (List.map enc vs))])=AV.pv (enc y0)∧(if (y0.2 != 0)=true then G ([(.obj (.box [(.pv (.int .i64 l.k)),(.pv (.sl 2 false (List.map enc l.t)))])),(.obj (.box [(.pv (.int .i64 0))])),(.obj (.box [(.pv (.int .i64 y0.2))])),(.obj (.box [(.pv (.int .i64 z))])),(.obj (.box [(.pv (.bool s))])),(.obj (.box [(.fn 194 [] [(.ptr 4 0),(.ptr 6 0),(.ptr 3 0)])])),(.obj (.box [(.pv (.fn 128))])),.fresh,.fresh])else(E 99 ⟨ZX 49 0 [],[(.obj (.box [(.pv (.int .i64 l.k)),(.pv (.sl 2 false (List.map enc l.t)))])),(.obj (.box [(.pv (.int .i64 0))])),(.obj (.box [(.pv (.int .i64 0))])),(.obj (.box [(.pv (.int .i64 (if (!s||lessB y0.1 z)=true then y0.1 else z)))])),(.obj (.box [(.pv (.bool true))])),(.obj (.box [(.fn 194 [] [(.ptr 4 0),(.ptr 6 0),(.ptr 3 0)])])),(.obj (.box [(.pv (.fn 128))]))]⟩ (fun x S'=>Jj E9 E 7 (fun st=>G st.heap) Qk 99 x S'))))):ZI E9 E 7 (fun st=>G st.heap) (.inl Qk) [.seq (.ext 99 [])] ⟨ZX 49 0 [(6,.ptr 0 0),(8,.ptr 1 0),(9,.ptr 2 0),(11,.ptr 3 0),(12,.ptr 4 0),(13,.ptr 5 0),(15,.pv (enc vs)),(32,.pv (enc p)),(33,.pv (enc vs))],[.obj (.box [.pv (.int .i64 l.k),.pv (enc l.t)]),.obj (.box [.pv (.int .i64 0)]),.obj (.box [.pv (.int .i64 0)]),.obj (.box [.pv (.int .i64 z)]),.obj (.box [.pv (.bool s)]),.obj (.box [.fn 194 [] [.ptr 4 0,.ptr 6 0,.ptr 3 0]]),.obj (.box [.pv (.fn 128)])]⟩:=ZI.mh (.req (.abs (Int×Int) (fun YY=>AV.pv (enc YY)) (.lit (.ask (.nil) (.lit (.keep (.nil))))))) h (by kernel_rfl)
end Go.Pl

namespace Go.Pl
open Go.RowKit
open Enc (enc dec is)
open EncL (encL decL isL)
theorem TF{s:Str}: ∀ {vs:List Str} {p:List Int},s∈vs->p.length=vs.length-> ∃ x∈p,Y6 (Zi vs p) s=some x
 | [],_,h,_=>by cases h
 | v::vs,[],_,h=>by simp at h
 | v::vs,x::p,h,hl=>by
  by_cases e:v=s
  ·refine⟨x,by simp,?_⟩
   show((List.find? (fun t:Coef=>decide (t.v=s)) (⟨v,x⟩::Zi vs p)).map (·.c))=some x
   rw[List.find?_cons_of_pos (by simpa using e)];rfl
  ·obtain⟨y,hy,h2⟩:=TF (s:=s) (vs:=vs) (p:=p) ((List.mem_cons.1 h).resolve_left fun h=>e h.symm) (by simpa using hl)
   refine⟨y,by simp[hy],?_⟩
   show((List.find? (fun t:Coef=>decide (t.v=s)) (⟨v,x⟩::Zi vs p)).map (·.c))=some y
   rw[List.find?_cons_of_neg (by simpa using e)]
   exact h2
theorem BD{vs:List Str}{p:List Int}(hl:p.length=vs.length)(hx : ∀ x∈p,-1000000000<=x∧x<=1000000000): ∀ (ts:List Coef) (n:Int),(∀ t∈ts,t.v∈vs)->(Jl (Zi vs p) n ts).2=0
 | [],n,_=>rfl
 | t::r,n,h=>by
  obtain⟨x,h1,h2⟩:=TF (h t (by simp)) hl
  have:=hx x h1
  rw[Jl,h2]
  show(if x < -1000000000 then((0:Int),(2:Int))else if x>1000000000 then(0,2)else _).2=0
  rw[if_neg (by omega),if_neg (by omega)]
  exact BD hl hx r _ fun u hu=>h u (by simp[hu])
theorem b8a{b:BoxT}{fs:List Fact}{p:List Int}(hv:YZ b=true)(h:p∈Z0 b fs):p.length=b.v.length∧(∀ x∈p,0<=x∧x<=b.m)∧ ∀ x∈p,-1<=x∧x<=20000:=by
 unfold Z0 at h
 rw[WX hv]at h
 have h:=(List.mem_filter.1 h).1
 obtain⟨h1,h2⟩:=KS.1 h
 have:0<=b.m:=(X7.1 hv).2.2.2.1
 exact⟨h1,fun x hx=>by have:=h2 x hx;omega,b9j hv p h⟩
theorem MJ{b:BoxT}{fs:List Fact}{l:Lin}{p:List Int}(hr:Zm b fs (Zz l) (Zp l)=0)(h:p∈Z0 b fs):(YP l (Zi b.v p)).2=0:=by
 obtain⟨hv,_,hl,hin⟩:=WA _ _ _ _ hr
 obtain⟨h1,_,h3⟩:=b8a hv h
 rw[a7r,Bool.and_eq_true]at hin
 unfold YP
 rw[if_pos hl]
 refine BD h1 (fun x hx=>by have:=h3 x hx;omega) _ _ fun t ht=> ?_
 have:=List.all_eq_true.1 hin.1 t.v (by unfold Zp;exact List.mem_map.2 ⟨t,ht,rfl⟩)
 simpa using this
theorem a5v(f:Int->Int->Bool)(l:List Int)(x:Int):Ue f (l++[x])=some (match Ue f l with|none=>x|some z=>if f x z then x else z):=by
 cases l with
 | nil=>rfl
 | cons y l=>simp[Ue,List.foldl_append]
def Va(f:Int->Int->Bool)(l:List Int):Int×Bool:=match Ue f l with|none=>(0,false)|some z=>(z,true)
theorem TB(f:Int->Int->Bool)(l:List Int)(x:Int):Va f (l++[x])=(if !(Va f l).2||f x (Va f l).1 then x else(Va f l).1,true):=by
 unfold Va
 rw[a5v]
 cases Ue f l <;> rfl
theorem c4c(l:Lin):EX (PV.agg [enc l.k,enc l.t])=l:=Enc.dec_enc l
theorem a1w(b:BoxT):OA (PV.agg [enc b.v,enc b.m])=b:=Enc.dec_enc b
theorem L9(fs:List Fact):BS (enc fs)=fs:=Enc.dec_enc fs
def Lc(l:Lin)(z:Int)(s:Bool):Zw:=[.obj (.box [.pv (.int .i64 l.k),.pv (enc l.t)]),.obj (.box [.pv (.int .i64 0)]),.obj (.box [.pv (.int .i64 0)]),.obj (.box [.pv (.int .i64 z)]),.obj (.box [.pv (.bool s)]),.obj (.box [.fn 194 [] [.ptr 4 0,.ptr 6 0,.ptr 3 0]]),.obj (.box [.pv (.fn 128)])]
theorem b2b: ∀ args os,QP 128 args os=true->Zc Ox os.length (Zl os.length PU fun r=>r=K4 lessB args os) RY [] (YR c0t args os):=by
 intro args os h
 unfold QP at h
 split at h
 ·rename_i n s g z
  have h:g=128:=by simpa using h
  subst h
  refine c6z n s z (XX (fun h=> ?_) fun h=>Zd (n,z,()) rfl (Wx (fun h2=> ?_) fun h2=> ?_))
  ·subst h;rfl
  ·subst h
   have h2:lessB n z=true:=h2
   show _=(AV.tup [],[AObj.box [.pv (.bool true)],.box [.pv (.fn 128)],.box [.pv (.int .i64 (if !true||lessB n z then n else z))]],[])
   rw[h2];rfl
  ·subst h
   have h2:lessB n z=false:=h2
   show _=(AV.tup [],[AObj.box [.pv (.bool true)],.box [.pv (.fn 128)],.box [.pv (.int .i64 (if !true||lessB n z then n else z))]],[])
   rw[h2];rfl
 ·cases h
def JG:YA:=fun n st q=>n=0∧GI VX 0 (.t 31) 177 [32,33] [(15,33)] Ut Ke UT DY st q
theorem Lv(b:BoxT)(fs:List Fact)(l:Lin)(hl:Z6 l=true)(hb:b.v.length<=1000)(hr:Zm b fs (Zz l) (Zp l)=0)(k:Nat)(p:List Int)(hp:(Z0 b fs)[k]? = some p):
  ZI VX (fun n S' _=>n=99∧S'.heap=Lc l (Va lessB ((Yz b fs l).take (k+1))).1 (Va lessB ((Yz b fs l).take (k+1))).2) 7 (fun st=>False) (.inl Ut) [.seq (.ext 99 [])]
   ⟨ZX 49 0 [(6,.ptr 0 0),(8,.ptr 1 0),(9,.ptr 2 0),(11,.ptr 3 0),(12,.ptr 4 0),(13,.ptr 5 0),(15,.pv (enc (Zi b.v p))),(32,.pv (enc p)),(33,.pv (enc (Zi b.v p)))],Lc l (Va lessB ((Yz b fs l).take k)).1 (Va lessB ((Yz b fs l).take k)).2⟩:=by
 have hk:=(List.getElem?_eq_some_iff.1 hp).1
 have hkp:=(List.getElem?_eq_some_iff.1 hp).2
 have hm:p∈Z0 b fs:=List.mem_of_getElem? hp
 have hkv:k<(Yz b fs l).length:=by unfold Yz;rw[List.length_map];exact hk
 have hgv:(Yz b fs l)[k]=(YP l (Zi b.v p)).1:=by
  have:(Yz b fs l)[k]? = some (YP l (Zi b.v p)).1:=by unfold Yz;rw[List.getElem?_map,hp];rfl
  exact(List.getElem?_eq_some_iff.1 this).2
 have ht:(Yz b fs l).take (k+1)=(Yz b fs l).take k++[(YP l (Zi b.v p)).1]:=by rw[List.take_succ_eq_append_getElem hkv,hgv]
 rw[ht,TB]
 refine b2k (G:=fun _=>False) _ l p (Zi b.v p) _ _ ⟨Ze (l,Zi b.v p,()) rfl ?_,Zd (l,Zi b.v p,()) rfl ?_⟩
 ·show(Z6 l&&decide ((Zi b.v p).length<=9223372036854775807))=true
  rw[hl,decide_eq_true (by unfold Zi;rw[List.length_zipWith];omega)];rfl
 ·refine ZN (by rw[MJ hr hm];simp) ⟨rfl,rfl⟩
theorem a3i: ∀ x:BoxT×List Fact×Lin×FnV 128×Unit,(Xw x.1 x.2.1 x.2.2.1&&x.2.2.1.t.isEmpty)=true->Kg VX JG 0 (Za QG (Zj (XM lessB x.1 x.2.1 x.2.2.1))) Ur [] (Yr b1w (encL x)):=by
 rintro⟨b,fs,l,⟨⟩,⟨⟩⟩ hp
 simp only[Xw,Bool.and_eq_true,decide_eq_true_eq]at hp
 obtain⟨⟨⟨⟨⟨⟨h1,h2⟩,h3⟩,h4⟩,h5⟩,h6⟩,h7⟩:=hp
 have key:Zm b fs (Zz l) (Zp l)=0->JG 0 ⟨ZX 49 0 [(6,(.ptr 0 0)),(8,(.ptr 1 0)),(9,(.ptr 2 0)),(11,(.ptr 3 0)),(12,(.ptr 4 0)),(13,(.ptr 5 0)),(15,.undef),(16,.undef),(17,.undef),(31,(.fn 177 [] [(.ptr 6 0),(.ptr 7 0)])),(33,.undef),(34,.undef),(35,.undef),(36,.undef),(37,.undef),(38,.undef),(39,.undef),(40,.undef),(41,.undef),(42,.undef),(43,.undef),(44,.undef)],[(.obj (.box [(.pv (.int .i64 (Lin.k l))),(.pv (.sl 2 false (List.map enc (Lin.t l))))])),(.obj (.box [(.pv (.int .i64 0))])),(.obj (.box [(.pv (.int .i64 0))])),(.obj (.box [(.pv (.int .i64 0))])),(.obj (.box [(.pv (.bool false))])),(.obj (.box [(.fn 194 [] [(.ptr 4 0),(.ptr 8 0),(.ptr 3 0)])])),(.obj (.box [(.pv (.sl 1 false (List.map enc (BoxT.v b)))),(.pv (.int .i64 (BoxT.m b)))])),(.obj (.box [(.pv (.sl 3 false (List.map enc fs)))])),(.obj (.box [(.pv (.fn 128))]))]⟩ (fun x S'=>Jj VX JG 0 (Za QG (Zj (XM lessB b fs l))) Ur 0 x S'):=by
  intro h0
  obtain⟨hv,_⟩:=WA _ _ _ _ h0
  refine⟨rfl,[6,7],[[enc b.v,.int .i64 b.m],[enc fs]],[6,8,9,11,12,13],[],⟨ZX 49 0 [(6,.ptr 0 0),(8,.ptr 1 0),(9,.ptr 2 0),(11,.ptr 3 0),(12,.ptr 4 0),(13,.ptr 5 0)],Lc l 0 false⟩,(fun k σ=>σ=Lc l (Va lessB ((Yz b fs l).take k)).1 (Va lessB ((Yz b fs l).take k)).2),fun _=>False,rfl,by simp,rfl,?_,by kernel_rfl,CW hv h2 h4,rfl,?_,?_,fun σ h=>h.elim⟩
  ·intro j l' ps hl hps
   match j with
   | 0=>cases hl;cases hps;rfl
   | 1=>cases hl;cases hps;rfl
   | j+2=>simp at hl
  ·intro k x σ hx hI
   rw[Tc,List.getElem?_map]at hx
   obtain⟨p,hp,rfl⟩:=Option.map_eq_some_iff.1 hx
   subst hI
   have e:SQ [(15,33)] (D7 [32,33] ((Ke (p,Zi b.v p)).map .pv) (ZX 49 0 [(6,.ptr 0 0),(8,.ptr 1 0),(9,.ptr 2 0),(11,.ptr 3 0),(12,.ptr 4 0),(13,.ptr 5 0)]))=ZX 49 0 [(6,.ptr 0 0),(8,.ptr 1 0),(9,.ptr 2 0),(11,.ptr 3 0),(12,.ptr 4 0),(13,.ptr 5 0),(15,.pv (enc (Zi b.v p))),(32,.pv (enc p)),(33,.pv (enc (Zi b.v p)))]:=by kernel_rfl
   have:=Lv b fs l h5 h4 h0 k p hp
   rw[<- e]at this
   exact this
  ·intro σ hI
   rw[Tc,List.length_map]at hI
   subst hI
   have hall:(Yz b fs l).take (Z0 b fs).length=Yz b fs l:=List.take_of_length_le (by unfold Yz;rw[List.length_map];exact Nat.le_refl _)
   rw[hall]
   refine b6m (G:=Zj (XM lessB b fs l)) JG b fs l _ _ ?_
   unfold XM Va
   rw[if_pos h0]
   cases Ue lessB (Yz b fs l)with
   | none=>exact ZU rfl (ZP (x:=((0:Int),(9:Int))) rfl)
   | some z=>exact ZN (by simp) (ZP (x:=((z:Int),(0:Int))) rfl)
 have hbad:Zm b fs (Zz l) (Zp l)≠0->Zj (XM lessB b fs l) (.tup [.int .i64 0,.int .i64 (Zm b fs (Zz l) (Zp l))]):=by
  intro h0
  unfold XM
  rw[if_neg h0]
  exact ZP (x:=((0:Int),Zm b fs (Zz l) (Zp l))) rfl
 have ht:l.t=[]:=List.isEmpty_iff.1 h7
 have hn:Zp l=[]:=by unfold Zp;rw[ht];rfl
 refine c1t JG b fs l ⟨Ze (l,()) rfl h5,Zd (l,()) rfl ⟨?_,Ze (b,fs,Zz l,⟨⟩,()) rfl (by simp[h1,h2,h3]),Zd (b,fs,Zz l,⟨⟩,()) rfl ?_⟩⟩
 ·show(Vz Lin (enc l)&&(dec (enc l:PV):Lin).t.isEmpty)=true
  rw[Ya,Enc.dec_enc,ht];rfl
 ·show if (Zm b fs (Zz l) [] != 0)=true then _ else _
  rw[hn]at key hbad
  by_cases h0:Zm b fs (Zz l) []=0
  ·rw[if_neg (by simp[h0])]
   refine⟨?_,key h0⟩
   show(Vz (List Str) (enc b.v)&&Vz (List Fact) (enc fs))=true
   rw[Ya,Ya];rfl
  ·rw[if_pos (by simpa using h0)]
   exact hbad h0
def JX:YA:=fun n st q=>n=0∧GI VU 0 (.t 31) 177 [32,33] [(15,33)] Qk Ke UT DY st q
theorem Mr(b:BoxT)(fs:List Fact)(l:Lin)(hl:Z6 l=true)(hb:b.v.length<=1000)(hr:Zm b fs (Zz l) (Zp l)=0)(k:Nat)(p:List Int)(hp:(Z0 b fs)[k]? = some p):
  ZI VU (fun n S' _=>n=99∧S'.heap=Lc l (Va lessB ((Yz b fs l).take (k+1))).1 (Va lessB ((Yz b fs l).take (k+1))).2) 7 (fun st=>False) (.inl Qk) [.seq (.ext 99 [])]
   ⟨ZX 49 0 [(6,.ptr 0 0),(8,.ptr 1 0),(9,.ptr 2 0),(11,.ptr 3 0),(12,.ptr 4 0),(13,.ptr 5 0),(15,.pv (enc (Zi b.v p))),(32,.pv (enc p)),(33,.pv (enc (Zi b.v p)))],Lc l (Va lessB ((Yz b fs l).take k)).1 (Va lessB ((Yz b fs l).take k)).2⟩:=by
 have hk:=(List.getElem?_eq_some_iff.1 hp).1
 have hkp:=(List.getElem?_eq_some_iff.1 hp).2
 have hm:p∈Z0 b fs:=List.mem_of_getElem? hp
 have hkv:k<(Yz b fs l).length:=by unfold Yz;rw[List.length_map];exact hk
 have hgv:(Yz b fs l)[k]=(YP l (Zi b.v p)).1:=by
  have:(Yz b fs l)[k]? = some (YP l (Zi b.v p)).1:=by unfold Yz;rw[List.getElem?_map,hp];rfl
  exact(List.getElem?_eq_some_iff.1 this).2
 have ht:(Yz b fs l).take (k+1)=(Yz b fs l).take k++[(YP l (Zi b.v p)).1]:=by rw[List.take_succ_eq_append_getElem hkv,hgv]
 rw[ht,TB]
 refine a8l (G:=fun _=>False) _ l p (Zi b.v p) _ _ ⟨Ze (l,Zi b.v p,()) rfl ?_,Zd (l,Zi b.v p,()) rfl ?_⟩
 ·show(Z6 l&&decide ((Zi b.v p).length<=9223372036854775807))=true
  rw[hl,decide_eq_true (by unfold Zi;rw[List.length_zipWith];omega)];rfl
 ·refine ZN (by rw[MJ hr hm];simp) ⟨rfl,rfl⟩
theorem a3l: ∀ x:BoxT×List Fact×Lin×FnV 128×Unit,(Xw x.1 x.2.1 x.2.2.1&& !x.2.2.1.t.isEmpty)=true->Kg VU JX 0 (Za QD (Zj (XM lessB x.1 x.2.1 x.2.2.1))) Qj [] (Yr a9k (encL x)):=by
 rintro⟨b,fs,l,⟨⟩,⟨⟩⟩ hp
 simp only[Xw,Bool.and_eq_true,decide_eq_true_eq]at hp
 obtain⟨⟨⟨⟨⟨⟨h1,h2⟩,h3⟩,h4⟩,h5⟩,h6⟩,h7⟩:=hp
 have key:Zm b fs (Zz l) (Zp l)=0->JX 0 ⟨ZX 49 0 [(6,(.ptr 0 0)),(8,(.ptr 1 0)),(9,(.ptr 2 0)),(11,(.ptr 3 0)),(12,(.ptr 4 0)),(13,(.ptr 5 0)),(15,.undef),(16,.undef),(17,.undef),(31,(.fn 177 [] [(.ptr 6 0),(.ptr 7 0)])),(33,.undef),(34,.undef),(35,.undef),(36,.undef),(37,.undef),(38,.undef),(39,.undef),(40,.undef),(41,.undef),(42,.undef),(43,.undef),(44,.undef)],[(.obj (.box [(.pv (.int .i64 (Lin.k l))),(.pv (.sl 2 false (List.map enc (Lin.t l))))])),(.obj (.box [(.pv (.int .i64 0))])),(.obj (.box [(.pv (.int .i64 0))])),(.obj (.box [(.pv (.int .i64 0))])),(.obj (.box [(.pv (.bool false))])),(.obj (.box [(.fn 194 [] [(.ptr 4 0),(.ptr 8 0),(.ptr 3 0)])])),(.obj (.box [(.pv (.sl 1 false (List.map enc (BoxT.v b)))),(.pv (.int .i64 (BoxT.m b)))])),(.obj (.box [(.pv (.sl 3 false (List.map enc fs)))])),(.obj (.box [(.pv (.fn 128))]))]⟩ (fun x S'=>Jj VU JX 0 (Za QD (Zj (XM lessB b fs l))) Qj 0 x S'):=by
  intro h0
  obtain⟨hv,_⟩:=WA _ _ _ _ h0
  refine⟨rfl,[6,7],[[enc b.v,.int .i64 b.m],[enc fs]],[6,8,9,11,12,13],[],⟨ZX 49 0 [(6,.ptr 0 0),(8,.ptr 1 0),(9,.ptr 2 0),(11,.ptr 3 0),(12,.ptr 4 0),(13,.ptr 5 0)],Lc l 0 false⟩,(fun k σ=>σ=Lc l (Va lessB ((Yz b fs l).take k)).1 (Va lessB ((Yz b fs l).take k)).2),fun _=>False,rfl,by simp,rfl,?_,by kernel_rfl,CW hv h2 h4,rfl,?_,?_,fun σ h=>h.elim⟩
  ·intro j l' ps hl hps
   match j with
   | 0=>cases hl;cases hps;rfl
   | 1=>cases hl;cases hps;rfl
   | j+2=>simp at hl
  ·intro k x σ hx hI
   rw[Tc,List.getElem?_map]at hx
   obtain⟨p,hp,rfl⟩:=Option.map_eq_some_iff.1 hx
   subst hI
   have e:SQ [(15,33)] (D7 [32,33] ((Ke (p,Zi b.v p)).map .pv) (ZX 49 0 [(6,.ptr 0 0),(8,.ptr 1 0),(9,.ptr 2 0),(11,.ptr 3 0),(12,.ptr 4 0),(13,.ptr 5 0)]))=ZX 49 0 [(6,.ptr 0 0),(8,.ptr 1 0),(9,.ptr 2 0),(11,.ptr 3 0),(12,.ptr 4 0),(13,.ptr 5 0),(15,.pv (enc (Zi b.v p))),(32,.pv (enc p)),(33,.pv (enc (Zi b.v p)))]:=by kernel_rfl
   have:=Mr b fs l h5 h4 h0 k p hp
   rw[<- e]at this
   exact this
  ·intro σ hI
   rw[Tc,List.length_map]at hI
   subst hI
   have hall:(Yz b fs l).take (Z0 b fs).length=Yz b fs l:=List.take_of_length_le (by unfold Yz;rw[List.length_map];exact Nat.le_refl _)
   rw[hall]
   refine b1z (G:=Zj (XM lessB b fs l)) JX b fs l _ _ ?_
   unfold XM Va
   rw[if_pos h0]
   cases Ue lessB (Yz b fs l)with
   | none=>exact ZU rfl (ZP (x:=((0:Int),(9:Int))) rfl)
   | some z=>exact ZN (by simp) (ZP (x:=((z:Int),(0:Int))) rfl)
 have hbad:Zm b fs (Zz l) (Zp l)≠0->Zj (XM lessB b fs l) (.tup [.int .i64 0,.int .i64 (Zm b fs (Zz l) (Zp l))]):=by
  intro h0
  unfold XM
  rw[if_neg h0]
  exact ZP (x:=((0:Int),Zm b fs (Zz l) (Zp l))) rfl
 have hne:l.t≠[]:=by intro h;rw[h]at h7;simp at h7
 refine b7b JX b fs l ⟨Ze (l,()) rfl h5,Zd (l,()) rfl ⟨?_,?_⟩⟩
 ·show(Vz Lin (enc l)&& !(dec (enc l:PV):Lin).t.isEmpty&&decide ((dec (enc l:PV):Lin).t.length<=1000000))=true
  rw[Ya,Enc.dec_enc,decide_eq_true (by omega)]
  simpa using hne
 ·rw[c4c,a1w,L9,UL]
  have hnl:(Zp l).length=l.t.length:=by unfold Zp;rw[List.length_map]
  refine⟨?_,?_⟩
  ·show(Vz BoxT (enc b)&&Vz (List Fact) (enc fs)&&9==9&&SS (Zp l).length (Zp l).length ((Zp l).map enc)&&decide ((Zp l).length<=1000)&& !((Zp l).map (enc:Str->PV)).isEmpty&&ZW (dec (enc b:PV))&&Zo (dec (enc fs:PV))&&decide ((dec (enc fs:PV):List Fact).length<=100)&&decide (((Zp l).map (enc:Str->PV)).length<=1000))=true
   rw[List.length_map,Ya,Ya,Enc.dec_enc,Enc.dec_enc,Cv rfl (by omega),h1,h2,decide_eq_true h3,decide_eq_true (show(Zp l).length<=1000 by omega)]
   have:((Zp l).map (enc:Str->PV)).isEmpty=false:=by
    rw[List.isEmpty_eq_false_iff]
    intro h
    have:=congrArg List.length h
    rw[List.length_map,hnl]at this
    exact hne (List.length_eq_zero_iff.1 this)
   rw[this];simp
  ·show if (Zm b fs (Zz l) (Zp l) != 0)=true then _ else _
   by_cases h0:Zm b fs (Zz l) (Zp l)=0
   ·rw[if_neg (by simp[h0])]
    refine⟨?_,key h0⟩
    show(Vz (List Str) (enc b.v)&&Vz (List Fact) (enc fs))=true
    rw[Ya,Ya];rfl
   ·rw[if_pos (by simpa using h0)]
    exact hbad h0
theorem b6x: ∀ x:BoxT×List Fact×Lin×Unit,Xw x.1 x.2.1 x.2.2.1=true->Zc El 0 (Za Pg (Zj (XM lessB x.1 x.2.1 x.2.2.1))) Nn [] (Yr c2c (encL x)):=by
 rintro⟨b,fs,l,⟨⟩⟩ hp
 exact c5l b fs l ⟨Ze (b,fs,l,⟨()⟩,()) rfl hp,Zd (b,fs,l,⟨()⟩,()) rfl (ZP (x:=XM lessB b fs l) rfl)⟩
theorem c0f: ∀ x:Int×Int×Unit,(fun _:Int×Int×Unit=>true) x=true->Zc a9n 0 (Za Eg (Zj (decide (x.1<x.2.1)))) Ex [] (Yr c5x (encL x)):=by
 rintro⟨m,n,⟨⟩⟩ _
 exact c8k m n (ZM rfl)
end Go.Pl

namespace Go.Pl
open Go.RowKit
open Enc (enc dec is)
open EncL (encL decL isL)
set_option maxRecDepth 100000
def NS:IC:=(.seq (.reg [⟨(some 2),(.mv (.c (.bool false))),0,none⟩] none) (.seq (.reg [⟨(some 3),(.mv (.t 0)),0,none⟩,⟨(some 4),(.call (.c (.fn 119)) [(.t 3)]),0,none⟩,⟨(some 5),(.un .not (.t 4)),2,none⟩,⟨(some 2),(.mv (.t 5)),2,none⟩] none) .ret))
def Ny:List IRes:=[(.tmp 2)]
abbrev c0q:Nat:=6
def EE:ZK:=Xp [(119,.pure (preT (fun x:Str×Unit=>decide (x.1.s.length<=281474976710656))) (Zf (fun x:Str×Unit=>ZB x.1)))]
theorem c5v{G:PV->Prop}(s:List UInt8)(h:(Go.Pl.preT (fun(x:Str×Unit)=>decide (List.length (Str.s x.1)<=281474976710656)) [(.str s)])=true∧(∃ y0:Bool,AV.pv (Zf (fun(x:Str×Unit)=>ZB x.1) [(.str s)])=AV.pv (enc y0)∧(G ((.bool !y0))))):Zc EE 0 (Za Ny G) NS [] (Yr 6 [.str s]):=Zc.tp (.req (.abs (Bool) (fun YY=>AV.pv (enc YY)) (.nil))) h (by kernel_rfl)
def JC:IC:=UE
def JZ:List IRes:=[(.tmp 4)]
abbrev c6t:Nat:=19
def C8:ZK:=Xp [(185,.pure (preT (fun x:Str×Unit=>decide (x.1.s.length<=281474976710656))) (Zf (fun x:Str×Unit=> !(ZB x.1))))]
theorem c8l{G:PV->Prop}(l:List Str)(h:At C8 0 (Za JZ G) JC 0 19 [(0,(.pv (.sl 1 false (List.map enc l)))),(1,(.pv (.fn 185))),(7,(.pv (.int .i64 (↑(List.length (List.map enc l)):Int)))),(8,(.pv (.int .i64 0)))] []):Zc C8 0 (Za JZ G) JC [] (Yr 19 [enc l,.fn 185]):=Zc.tp (.nil) h (by kernel_rfl)
theorem b4l{G:PV->Prop}(l:List Str)(i:Int)(h:if (decide (i<(↑(List.length l):Int)))=true then(decide (0<=i)&&decide (Int.toNat i<List.length (List.map enc l))&&Enc.sz Str==1)=true∧(∃ y0:Str,AV.pv (PV.rptr (PV.cells (List.getD (List.map enc l) (Int.toNat i) default)))=AV.pv (PV.rptr (PV.cells ((enc) y0)))∧((Go.Pl.preT (fun(x:Str×Unit)=>decide (List.length (Str.s x.1)<=281474976710656)) [(.str (PV.asStr (List.getD (PV.cells (enc y0)) 0 default)))])=true∧(∃ y1:Bool,AV.pv (Zf (fun(x:Str×Unit)=> !ZB x.1) [(.str (PV.asStr (List.getD (PV.cells (enc y0)) 0 default)))])=AV.pv (enc y1)∧(if (y1)=true then G ((.int .i64 i))else(At C8 0 (Za JZ G) JC 0 19 [(0,(.pv (.sl 1 false (List.map enc l)))),(1,(.pv (.fn 185))),(7,(.pv (.int .i64 (↑(List.length l):Int)))),(8,(.pv (.int .i64 (IntKind.wrap IntKind.i64 (i+1)))))] [])))))else(G ((.int .i64 (-1))))):At C8 0 (Za JZ G) JC 0 19 [(0,.pv (enc l)),(1,.pv (.fn 185)),(7,.pv (.int .i64 l.length)),(8,.pv (.int .i64 i))] []:=At.tp (.lit (.ask (.req (.abs (Str) (fun YY=>AV.pv (PV.rptr (PV.cells ((enc) YY)))) (.lit (.req (.abs (Bool) (fun YY=>AV.pv (enc YY)) (.ask (.nil) (.lit (.nil)))))))) (.nil))) h (by kernel_rfl)
def EA:IC:=CU
def Es:List IRes:=[(.tmp 4)]
abbrev c5p:Nat:=9
def a8t:ZK:=Xp [(238,.pure (preT (fun x:List Str×FnV 185×Unit=>YB x.1)) (Zf (fun x:List Str×FnV 185×Unit=>ZE (fun s:Str=> !(ZB s)) x.1)))]
theorem c9d{G:PV->Prop}(l:List Str)(h:(Go.Pl.preT (fun(x:List Str×FnV 185×Unit)=>YB x.1) [(.sl 1 false (List.map enc l)),(.fn 185)])=true∧(∃ y0:Int,AV.pv (Zf (fun(x:List Str×FnV 185×Unit)=>ZE (fun(s:Str)=> !ZB s) x.1) [(.sl 1 false (List.map enc l)),(.fn 185)])=AV.pv (enc y0)∧(G ((.bool (decide (y0 ≥ 0))))))):Zc a8t 0 (Za Es G) EA [] (Yr 9 [enc l,.fn 185]):=Zc.tp (.req (.abs (Int) (fun YY=>AV.pv (enc YY)) (.lit (.nil)))) h (by kernel_rfl)
def NB:IC:=(.seq (.reg [⟨(some 2),(.mv (.c (.bool false))),0,none⟩] none) (.seq (.reg [⟨(some 3),(.mv (.t 0)),0,none⟩,⟨(some 4),(.mv (.t 0)),0,none⟩,⟨(some 5),(.bin .num .neq (.t 3) (.t 4)),0,none⟩,⟨(some 2),(.mv (.t 5)),0,none⟩] none) .ret))
def Ni:List IRes:=[(.tmp 2)]
abbrev c0r:Nat:=6
def ET:ZK:=Xp []
theorem c6y{G:PV->Prop}(s:List UInt8)(h:G ((.bool (!s==s)))):Zc ET 0 (Za Ni G) NB [] (Yr 6 [.str s]):=Zc.tp (.lit (.nil)) h (by kernel_rfl)
def BO:IC:=(.seq (.reg [⟨(some 4),(.mv (.c (.bool false))),0,none⟩] none) (.seq (.reg [⟨(some 5),(.mv (.t 0)),0,none⟩,⟨(some 6),(.call (.c (.fn 283)) [(.t 5)]),0,none⟩,⟨(some 7),(.mv (.t 6)),2,none⟩,⟨(some 8),(.mv (.t 1)),2,(some (7,true))⟩,⟨(some 9),(.call (.c (.fn 283)) [(.t 8)]),2,(some (7,true))⟩,⟨(some 10),(.un .not (.t 9)),4,(some (7,true))⟩,⟨(some 11),(.pick (.t 7) (.t 10) (.c (.bool false))),4,none⟩,⟨(some 12),(.mv (.t 11)),4,none⟩,⟨(some 13),(.mv (.t 0)),4,(some (12,false))⟩,⟨(some 14),(.mv (.t 1)),4,(some (12,false))⟩,⟨(some 15),(.bin .num .lss (.t 13) (.t 14)),4,(some (12,false))⟩,⟨(some 16),(.pick (.t 12) (.c (.bool true)) (.t 15)),4,none⟩,⟨(some 4),(.mv (.t 16)),4,none⟩] none) .ret))
def Ad:List IRes:=[(.tmp 4)]
abbrev b3t:Nat:=17
def NC:ZK:=Xp [(283,.pure (preT (fun _:Str×Unit=>true)) (Zf (fun _:Str×Unit=>false)))]
theorem c1j{G:PV->Prop}(s t:List UInt8)(h : ∃ y0:Bool,AV.pv (Zf (fun(x:Str×Unit)=>false) [(.str s)])=AV.pv (enc y0)∧(if (y0)=true then ∃ y1:Bool,AV.pv (Zf (fun(x:Str×Unit)=>false) [(.str t)])=AV.pv (enc y1)∧(if (!y1)=true then G ((.bool true))else(G ((.bool (Op.bytesLess s t)))))else(G ((.bool (Op.bytesLess s t)))))):Zc NC 0 (Za Ad G) BO [] (Yr 17 [.str s,.str t]):=Zc.tp (.lit (.abs (Bool) (fun YY=>AV.pv (enc YY)) (.ask (.lit (.lit (.abs (Bool) (fun YY=>AV.pv (enc YY)) (.lit (.lit (.ask (.lit (.lit (.lit (.nil)))) (.lit (.lit (.lit (.lit (.nil))))))))))) (.lit (.lit (.lit (.lit (.lit (.lit (.lit (.lit (.nil)))))))))))) h (by kernel_rfl)
def NF:IC:=(.seq (.reg [⟨(some 4),(.mv (.c (.int .i64 0))),0,none⟩] none) (.seq (.reg [⟨(some 7),(.mv (.t 0)),0,none⟩,⟨(some 8),(.call (.c (.fn 283)) [(.t 7)]),0,none⟩,⟨(some 5),(.mv (.t 8)),2,none⟩] none) (.seq (.reg [⟨(some 9),(.mv (.t 1)),0,none⟩,⟨(some 10),(.call (.c (.fn 283)) [(.t 9)]),0,none⟩,⟨(some 6),(.mv (.t 10)),2,none⟩] none) (.seq (.seq (.reg [⟨(some 11),(.mv (.t 5)),0,none⟩] none) (.cond (.t 11) (.seq (.seq (.reg [⟨(some 12),(.mv (.t 6)),0,none⟩] none) (.cond (.t 12) (.seq (.reg [⟨(some 4),(.mv (.c (.int .i64 0))),0,none⟩] none) .ret) .skip)) (.seq (.reg [⟨(some 4),(.mv (.c (.int .i64 (-1)))),0,none⟩] none) .ret)) .skip)) (.seq (.seq (.reg [⟨(some 13),(.mv (.t 6)),0,none⟩] none) (.cond (.t 13) (.seq (.reg [⟨(some 4),(.mv (.c (.int .i64 1))),0,none⟩] none) .ret) .skip)) (.seq (.seq (.reg [⟨(some 14),(.mv (.t 0)),0,none⟩,⟨(some 15),(.mv (.t 1)),0,none⟩,⟨(some 16),(.bin .num .lss (.t 14) (.t 15)),0,none⟩] none) (.cond (.t 16) (.seq (.reg [⟨(some 4),(.mv (.c (.int .i64 (-1)))),0,none⟩] none) .ret) .skip)) (.seq (.seq (.reg [⟨(some 17),(.mv (.t 0)),0,none⟩,⟨(some 18),(.mv (.t 1)),0,none⟩,⟨(some 19),(.bin .num .gtr (.t 17) (.t 18)),0,none⟩] none) (.cond (.t 19) (.seq (.reg [⟨(some 4),(.mv (.c (.int .i64 1))),0,none⟩] none) .ret) .skip)) (.seq (.reg [⟨(some 4),(.mv (.c (.int .i64 0))),0,none⟩] none) .ret))))))))
def Ns:List IRes:=[(.tmp 4)]
abbrev b7y:Nat:=20
def Ep:ZK:=Xp [(283,.pure (preT (fun _:Str×Unit=>true)) (Zf (fun _:Str×Unit=>false)))]
theorem c6d{G:PV->Prop}(s t:List UInt8)(h : ∃ y0:Bool,AV.pv (Zf (fun(x:Str×Unit)=>false) [(.str s)])=AV.pv (enc y0)∧(∃ y1:Bool,AV.pv (Zf (fun(x:Str×Unit)=>false) [(.str t)])=AV.pv (enc y1)∧(if (y0)=true then if (y1)=true then G ((.int .i64 0))else(G ((.int .i64 (-1))))else(if (y1)=true then G ((.int .i64 1))else(if (Op.bytesLess s t)=true then G ((.int .i64 (-1)))else(if (!(Op.bytesLess s t||s==t))=true then G ((.int .i64 1))else(G ((.int .i64 0))))))))):Zc Ep 0 (Za Ns G) NF [] (Yr 20 [.str s,.str t]):=Zc.tp (.lit (.abs (Bool) (fun YY=>AV.pv (enc YY)) (.lit (.abs (Bool) (fun YY=>AV.pv (enc YY)) (.ask (.ask (.nil) (.nil)) (.ask (.nil) (.lit (.ask (.nil) (.lit (.ask (.nil) (.nil))))))))))) h (by kernel_rfl)
def WR:IC:=(.seq (.reg [⟨(some 2),(.mv (.c (.bool false))),0,none⟩] none) (.seq (.seq (.reg [⟨(some 4),(.mv (.t 0)),0,none⟩,⟨(some 5),(.len 1 (.t 4)),0,none⟩,⟨(some 6),(.bin .num .sub (.t 5) (.c (.int .i64 1))),0,none⟩,⟨(some 3),(.mv (.t 6)),0,none⟩] none) (.block 0 (.loop [3,0] (.seq (.seq (.reg [⟨(some 7),(.mv (.t 3)),0,none⟩,⟨(some 8),(.bin .num .gtr (.t 7) (.c (.int .i64 0))),0,none⟩] none) (.cond (.t 8) .skip (.exit 0))) (.seq (.block 1 (.seq (.reg [⟨(some 11),(.mv (.t 0)),0,none⟩,⟨(some 12),(.mv (.t 3)),0,none⟩,⟨(some 13),(.iaddr 1 (.t 11) (.t 12)),0,none⟩,⟨(some 14),(.load false [.str] (.t 13)),0,none⟩,⟨(some 15),(.mv (.t 0)),0,none⟩,⟨(some 16),(.mv (.t 3)),0,none⟩,⟨(some 17),(.bin .num .sub (.t 16) (.c (.int .i64 1))),0,none⟩,⟨(some 18),(.iaddr 1 (.t 15) (.t 17)),0,none⟩,⟨(some 19),(.load false [.str] (.t 18)),0,none⟩,⟨(some 20),(.call (.c (.fn 244)) [(.t 14),(.t 19)]),0,none⟩] (some [[],[],[0,1],[2,0,1],[],[],[5],[4,6,5],[7,4,6,5],[3,8,2,0,1,7,4,6,5]])) (.cond (.t 20) (.seq (.reg [⟨(some 2),(.mv (.c (.bool false))),0,none⟩] none) .ret) .skip))) (.reg [⟨(some 9),(.mv (.t 3)),0,none⟩,⟨(some 10),(.bin .num .sub (.t 9) (.c (.int .i64 1))),0,none⟩,⟨(some 3),(.mv (.t 10)),0,none⟩] none)))))) (.seq (.reg [⟨(some 2),(.mv (.c (.bool true))),0,none⟩] none) .ret)))
def WO:List IRes:=[(.tmp 2)]
abbrev EY:Nat:=21
def VK:ZK:=Xp [(244,.pure (preT (fun _:Str×Str×Unit=>true)) (Zf (fun x:Str×Str×Unit=>decide (x.1.s<x.2.1.s))))]
theorem a4w{G:PV->Prop}(l:List Str)(h:At VK 0 (Za WO G) WR 0 21 [(0,(.pv (.sl 1 false (List.map enc l)))),(3,(.pv (.int .i64 (IntKind.wrap IntKind.i64 ((↑(List.length (List.map enc l)):Int) - 1)))))] []):Zc VK 0 (Za WO G) WR [] (Yr 21 [enc l]):=Zc.tp (.lit (.nil)) h (by kernel_rfl)
theorem JV{G:PV->Prop}(l:List Str)(i:Int)(h:if (decide (i>0))=true then(decide (0<=i)&&decide (Int.toNat i<List.length (List.map enc l))&&Enc.sz Str==1)=true∧(∃ y0:Str,AV.pv (PV.rptr (PV.cells (List.getD (List.map enc l) (Int.toNat i) default)))=AV.pv (PV.rptr (PV.cells ((enc) y0)))∧((decide (0<=IntKind.wrap IntKind.i64 (i - 1))&&decide (Int.toNat (IntKind.wrap IntKind.i64 (i - 1))<List.length (List.map enc l))&&Enc.sz Str==1)=true∧(∃ y1:Str,AV.pv (PV.rptr (PV.cells (List.getD (List.map enc l) (Int.toNat (IntKind.wrap IntKind.i64 (i - 1))) default)))=AV.pv (PV.rptr (PV.cells ((enc) y1)))∧(∃ y2:Bool,AV.pv (Zf (fun(x:Str×Str×Unit)=>decide (Str.s x.1<Str.s x.2.1)) [(.str (PV.asStr (List.getD (PV.cells (enc y0)) 0 default))),(.str (PV.asStr (List.getD (PV.cells (enc y1)) 0 default)))])=AV.pv (enc y2)∧(if (y2)=true then G ((.bool false))else(At VK 0 (Za WO G) WR 0 21 [(0,(.pv (.sl 1 false (List.map enc l)))),(3,(.pv (.int .i64 (IntKind.wrap IntKind.i64 (i - 1)))))] []))))))else(G ((.bool true)))):At VK 0 (Za WO G) WR 0 21 [(0,.pv (enc l)),(3,.pv (.int .i64 i))] []:=At.tp (.lit (.ask (.req (.abs (Str) (fun YY=>AV.pv (PV.rptr (PV.cells ((enc) YY)))) (.lit (.lit (.req (.abs (Str) (fun YY=>AV.pv (PV.rptr (PV.cells ((enc) YY)))) (.lit (.lit (.abs (Bool) (fun YY=>AV.pv (enc YY)) (.ask (.nil) (.lit (.nil)))))))))))) (.nil))) h (by kernel_rfl)
def VE:IC:=(.seq (.reg [⟨(some 4),(.mv (.c (.int .i64 0))),0,none⟩] none) (.seq (.seq (.reg [⟨(some 9),(.mv (.t 0)),0,none⟩,⟨(some 10),(.len 1 (.t 9)),0,none⟩,⟨(some 11),(.mv (.c (.int .i64 0))),0,none⟩] none) (.block 0 (.loop [11,10,9,1,0] (.seq (.reg [⟨(some 12),(.bin .num .lss (.t 11) (.t 10)),0,none⟩] none) (.seq (.cond (.t 12) .skip (.exit 0)) (.seq (.block 1 (.seq (.reg [⟨(some 13),(.mv (.t 11)),0,none⟩,⟨(some 14),(.iaddr 1 (.t 9) (.t 11)),0,none⟩,⟨(some 15),(.load false [.str] (.t 14)),0,none⟩,⟨(some 5),(.mv (.t 13)),0,none⟩,⟨(some 6),(.mv (.t 15)),0,none⟩] none) (.seq (.seq (.reg [⟨(some 16),(.mv (.t 5)),0,none⟩,⟨(some 17),(.mv (.t 1)),0,none⟩,⟨(some 18),(.len 1 (.t 17)),0,none⟩,⟨(some 19),(.bin .num .geq (.t 16) (.t 18)),0,none⟩] none) (.cond (.t 19) (.seq (.reg [⟨(some 4),(.mv (.c (.int .i64 1))),0,none⟩] none) .ret) .skip)) (.seq (.reg [⟨(some 20),(.mv (.t 1)),0,none⟩,⟨(some 21),(.mv (.t 5)),0,none⟩,⟨(some 22),(.iaddr 1 (.t 20) (.t 21)),0,none⟩,⟨(some 23),(.load false [.str] (.t 22)),0,none⟩,⟨(some 7),(.mv (.t 23)),0,none⟩] none) (.seq (.reg [⟨(some 24),(.mv (.t 6)),0,none⟩,⟨(some 25),(.mv (.t 7)),0,none⟩,⟨(some 26),(.call (.c (.fn 245)) [(.t 24),(.t 25)]),0,none⟩,⟨(some 8),(.mv (.t 26)),2,none⟩] none) (.seq (.reg [⟨(some 27),(.mv (.t 8)),0,none⟩,⟨(some 28),(.bin .num .neq (.t 27) (.c (.int .i64 0))),0,none⟩] none) (.cond (.t 28) (.seq (.reg [⟨(some 29),(.mv (.t 8)),0,none⟩,⟨(some 4),(.mv (.t 29)),0,none⟩] none) .ret) .skip))))))) (.reg [⟨(some 30),(.bin .num .add (.t 11) (.c (.int .i64 1))),0,none⟩,⟨(some 11),(.mv (.t 30)),0,none⟩] none))))))) (.seq (.seq (.reg [⟨(some 31),(.mv (.t 0)),0,none⟩,⟨(some 32),(.len 1 (.t 31)),0,none⟩,⟨(some 33),(.mv (.t 1)),0,none⟩,⟨(some 34),(.len 1 (.t 33)),0,none⟩,⟨(some 35),(.bin .num .lss (.t 32) (.t 34)),0,none⟩] none) (.cond (.t 35) (.seq (.reg [⟨(some 4),(.mv (.c (.int .i64 (-1)))),0,none⟩] none) .ret) .skip)) (.seq (.reg [⟨(some 4),(.mv (.c (.int .i64 0))),0,none⟩] none) .ret))))
def VN:List IRes:=[(.tmp 4)]
abbrev a5u:Nat:=36
def UN:ZK:=Xp [(245,.pure (preT (fun _:Str×Str×Unit=>true)) (Zf (fun x:Str×Str×Unit=>SN x.1 x.2.1)))]
theorem b0o{G:PV->Prop}(a b:List Str)(h:At UN 0 (Za VN G) VE 0 36 [(0,(.pv (.sl 1 false (List.map enc a)))),(1,(.pv (.sl 1 false (List.map enc b)))),(9,(.pv (.sl 1 false (List.map enc a)))),(10,(.pv (.int .i64 (↑(List.length (List.map enc a)):Int)))),(11,(.pv (.int .i64 0)))] []):Zc UN 0 (Za VN G) VE [] (Yr 36 [enc a,enc b]):=Zc.tp (.nil) h (by kernel_rfl)
theorem TA{G:PV->Prop}(a b:List Str)(i:Int)(h:if (decide (i<(↑(List.length a):Int)))=true then(decide (0<=i)&&decide (Int.toNat i<List.length (List.map enc a))&&Enc.sz Str==1)=true∧(∃ y0:Str,AV.pv (PV.rptr (PV.cells (List.getD (List.map enc a) (Int.toNat i) default)))=AV.pv (PV.rptr (PV.cells ((enc) y0)))∧(if (decide (i ≥ (↑(List.length (List.map enc b)):Int)))=true then G ((.int .i64 1))else((decide (0<=i)&&decide (Int.toNat i<List.length (List.map enc b))&&Enc.sz Str==1)=true∧(∃ y1:Str,AV.pv (PV.rptr (PV.cells (List.getD (List.map enc b) (Int.toNat i) default)))=AV.pv (PV.rptr (PV.cells ((enc) y1)))∧(∃ y2:Int,AV.pv (Zf (fun(x:Str×Str×Unit)=>SN x.1 x.2.1) [(.str (PV.asStr (List.getD (PV.cells (enc y0)) 0 default))),(.str (PV.asStr (List.getD (PV.cells (enc y1)) 0 default)))])=AV.pv (enc y2)∧(if (y2 != 0)=true then G ((.int .i64 y2))else(At UN 0 (Za VN G) VE 0 36 [(0,(.pv (.sl 1 false (List.map enc a)))),(1,(.pv (.sl 1 false (List.map enc b)))),(9,(.pv (.sl 1 false (List.map enc a)))),(10,(.pv (.int .i64 (↑(List.length a):Int)))),(11,(.pv (.int .i64 (IntKind.wrap IntKind.i64 (i+1)))))] [])))))))else(if (decide ((↑(List.length (List.map enc a)):Int)<(↑(List.length (List.map enc b)):Int)))=true then G ((.int .i64 (-1)))else(G ((.int .i64 0))))):At UN 0 (Za VN G) VE 0 36 [(0,.pv (enc a)),(1,.pv (enc b)),(9,.pv (enc a)),(10,.pv (.int .i64 a.length)),(11,.pv (.int .i64 i))] []:=At.tp (.lit (.ask (.req (.abs (Str) (fun YY=>AV.pv (PV.rptr (PV.cells ((enc) YY)))) (.lit (.lit (.ask (.nil) (.req (.abs (Str) (fun YY=>AV.pv (PV.rptr (PV.cells ((enc) YY)))) (.lit (.lit (.abs (Int) (fun YY=>AV.pv (enc YY)) (.lit (.ask (.nil) (.lit (.nil)))))))))))))) (.lit (.ask (.nil) (.nil))))) h (by kernel_rfl)
def WV:IC:=(.seq (.reg [⟨(some 2),(.mv (.c (.bool false))),0,none⟩] none) (.seq (.seq (.reg [⟨(some 5),(.mv (.t 0)),0,none⟩,⟨(some 6),(.len 1 (.t 5)),0,none⟩,⟨(some 7),(.mv (.c (.int .i64 0))),0,none⟩] none) (.block 0 (.loop [7,6,5,0] (.seq (.reg [⟨(some 8),(.bin .num .lss (.t 7) (.t 6)),0,none⟩] none) (.seq (.cond (.t 8) .skip (.exit 0)) (.seq (.block 1 (.seq (.reg [⟨(some 9),(.mv (.t 7)),0,none⟩,⟨(some 10),(.iaddr 2 (.t 5) (.t 7)),0,none⟩,⟨(some 11),(.load true [(.int .i64),(.sl 1)] (.t 10)),0,none⟩,⟨(some 4),(.alloc (.agg [(.int .i64 0),(.sl 0 true [])])),0,none⟩,⟨(some 3),(.mv (.t 9)),1,none⟩,⟨none,(.store 2 (.t 4) (.t 11)),1,none⟩] none) (.seq (.seq (.reg [⟨(some 12),(.faddr 0 (.t 4)),0,none⟩,⟨(some 13),(.load false [(.int .i64)] (.t 12)),0,none⟩,⟨(some 14),(.bin .num .eql (.t 13) (.c (.int .i64 0))),0,none⟩,⟨(some 15),(.mv (.t 14)),0,none⟩,⟨(some 16),(.faddr 0 (.t 4)),0,(some (15,false))⟩,⟨(some 17),(.load false [(.int .i64)] (.t 16)),0,(some (15,false))⟩,⟨(some 18),(.bin .num .lss (.t 17) (.c (.int .i64 (-1099511627776)))),0,(some (15,false))⟩,⟨(some 19),(.pick (.t 15) (.c (.bool true)) (.t 18)),0,none⟩,⟨(some 20),(.mv (.t 19)),0,none⟩,⟨(some 21),(.faddr 0 (.t 4)),0,(some (20,false))⟩,⟨(some 22),(.load false [(.int .i64)] (.t 21)),0,(some (20,false))⟩,⟨(some 23),(.bin .num .gtr (.t 22) (.c (.int .i64 1099511627776))),0,(some (20,false))⟩,⟨(some 24),(.pick (.t 20) (.c (.bool true)) (.t 23)),0,none⟩,⟨(some 25),(.mv (.t 24)),0,none⟩,⟨(some 26),(.faddr 1 (.t 4)),0,(some (25,false))⟩,⟨(some 27),(.load false [(.sl 1)] (.t 26)),0,(some (25,false))⟩,⟨(some 28),(.len 1 (.t 27)),0,(some (25,false))⟩,⟨(some 29),(.bin .num .gtr (.t 28) (.c (.int .i64 8))),0,(some (25,false))⟩,⟨(some 30),(.pick (.t 25) (.c (.bool true)) (.t 29)),0,none⟩,⟨(some 31),(.mv (.t 30)),0,none⟩,⟨(some 32),(.faddr 1 (.t 4)),0,(some (31,false))⟩,⟨(some 33),(.load false [(.sl 1)] (.t 32)),0,(some (31,false))⟩,⟨(some 34),(.call (.c (.fn 184)) [(.t 33)]),0,(some (31,false))⟩,⟨(some 35),(.un .not (.t 34)),2,(some (31,false))⟩,⟨(some 36),(.pick (.t 31) (.c (.bool true)) (.t 35)),2,none⟩] none) (.cond (.t 36) (.seq (.reg [⟨(some 2),(.mv (.c (.bool false))),0,none⟩] none) .ret) .skip)) (.seq (.seq (.reg [⟨(some 37),(.faddr 1 (.t 4)),0,none⟩,⟨(some 38),(.load false [(.sl 1)] (.t 37)),0,none⟩,⟨(some 39),(.call (.c (.fn 175)) [(.t 38),(.c (.fn 185))]),0,none⟩] none) (.cond (.t 39) (.seq (.reg [⟨(some 2),(.mv (.c (.bool false))),0,none⟩] none) .ret) .skip)) (.seq (.reg [⟨(some 40),(.mv (.t 3)),0,none⟩,⟨(some 41),(.bin .num .gtr (.t 40) (.c (.int .i64 0))),0,none⟩,⟨(some 42),(.mv (.t 41)),0,none⟩,⟨(some 43),(.mv (.t 0)),0,(some (42,true))⟩,⟨(some 44),(.mv (.t 3)),0,(some (42,true))⟩,⟨(some 45),(.bin .num .sub (.t 44) (.c (.int .i64 1))),0,(some (42,true))⟩,⟨(some 46),(.iaddr 2 (.t 43) (.t 45)),0,(some (42,true))⟩,⟨(some 47),(.faddr 1 (.t 46)),0,(some (42,true))⟩,⟨(some 48),(.load false [(.sl 1)] (.t 47)),0,(some (42,true))⟩,⟨(some 49),(.faddr 1 (.t 4)),0,(some (42,true))⟩,⟨(some 50),(.load false [(.sl 1)] (.t 49)),0,(some (42,true))⟩,⟨(some 51),(.call (.c (.fn 186)) [(.t 48),(.t 50)]),0,(some (42,true))⟩,⟨(some 52),(.bin .num .geq (.t 51) (.c (.int .i64 0))),2,(some (42,true))⟩,⟨(some 53),(.pick (.t 42) (.t 52) (.c (.bool false))),2,none⟩] (some [[],[0],[1,0],[2,1,0],[2,1,0],[4,2,1,0],[3,5,2,1,0,4],[6,2,3,5,1,0,4],[7,2,6,3,5,1,0,4],[2,1,0],[9,2,1,0],[8,10,2,7,6,3,5,1,0,4,9],[11,2,8,10,7,6,3,5,1,0,4,9],[2,12,1,0,11,8,10,7,6,3,5,4,9]])) (.cond (.t 53) (.seq (.reg [⟨(some 2),(.mv (.c (.bool false))),0,none⟩] none) .ret) .skip)))))) (.reg [⟨(some 54),(.bin .num .add (.t 7) (.c (.int .i64 1))),0,none⟩,⟨(some 7),(.mv (.t 54)),0,none⟩] none))))))) (.seq (.reg [⟨(some 55),(.mv (.t 0)),0,none⟩,⟨(some 56),(.len 1 (.t 55)),0,none⟩,⟨(some 57),(.bin .num .leq (.t 56) (.c (.int .i64 60))),0,none⟩,⟨(some 2),(.mv (.t 57)),0,none⟩] none) .ret)))
def Wq:List IRes:=[(.tmp 2)]
abbrev a5j:Nat:=58
def Ve:ZK:=Xp [(184,.pure (preT (fun x:List Str×Unit=>Zn x.1)) (Zf (fun x:List Str×Unit=>QA x.1))),(175,.pure (preT (fun x:List Str×FnV 185×Unit=>YB x.1)) (Zf (fun x:List Str×FnV 185×Unit=>x.1.any fun s:Str=> !(ZB s)))),(186,.pure (preT (fun x:List Str×List Str×Unit=>Zn x.1&&Zn x.2.1)) (Zf (fun x:List Str×List Str×Unit=>Gz x.1 x.2.1)))]
theorem b4m{G:PV->Prop}(p:List Mono)(h:At Ve 0 (Za Wq G) WV 0 58 [(0,(.pv (.sl 2 false (List.map enc p)))),(5,(.pv (.sl 2 false (List.map enc p)))),(6,(.pv (.int .i64 (↑(List.length (List.map enc p)):Int)))),(7,(.pv (.int .i64 0)))] []):Zc Ve 0 (Za Wq G) WV [] (Yr 58 [enc p]):=Zc.tp (.nil) h (by kernel_rfl)
theorem TC{G:PV->Prop}(p:List Mono)(i:Int)(h:if (decide (i<(↑(List.length p):Int)))=true then(decide (0<=i)&&decide (Int.toNat i<List.length (List.map enc p))&&Enc.sz Mono==2)=true∧(∃ y0:Mono,AV.pv (PV.rptr (PV.cells (List.getD (List.map enc p) (Int.toNat i) default)))=AV.pv (PV.rptr (PV.cells ((enc) y0)))∧(if (PV.asInt (List.getD (PV.cells (enc y0)) 0 default)==0)=true then G ((.bool false))else(if (decide (PV.asInt (List.getD (PV.cells (enc y0)) 0 default)<(-1099511627776:Int)))=true then G ((.bool false))else(if (decide (PV.asInt (List.getD (PV.cells (enc y0)) 0 default)>1099511627776))=true then G ((.bool false))else(if (decide ((↑(List.length (PV.asXs (List.getD (PV.cells (enc y0)) (0+1) default))):Int)>8))=true then G ((.bool false))else((Go.Pl.preT (fun(x:List Str×Unit)=>Zn x.1) [(.sl 1 false (PV.asXs (List.getD (PV.cells (enc y0)) (0+1) default)))])=true∧(∃ y1:Bool,AV.pv (Zf (fun(x:List Str×Unit)=>QA x.1) [(.sl 1 false (PV.asXs (List.getD (PV.cells (enc y0)) (0+1) default)))])=AV.pv (enc y1)∧(if (!y1)=true then G ((.bool false))else((Go.Pl.preT (fun(x:List Str×FnV 185×Unit)=>YB x.1) [(.sl 1 false (PV.asXs (List.getD (PV.cells (enc y0)) (0+1) default))),(.fn 185)])=true∧(∃ y2:Bool,AV.pv (Zf (fun(x:List Str×FnV 185×Unit)=>List.any x.1 fun(s:Str)=> !ZB s) [(.sl 1 false (PV.asXs (List.getD (PV.cells (enc y0)) (0+1) default))),(.fn 185)])=AV.pv (enc y2)∧(if (y2)=true then G ((.bool false))else(if (decide (i>0))=true then(decide (0<=IntKind.wrap IntKind.i64 (i - 1))&&decide (Int.toNat (IntKind.wrap IntKind.i64 (i - 1))<List.length (List.map enc p))&&Enc.sz Mono==2)=true∧(∃ y3:Mono,AV.pv (PV.rptr (PV.cells (List.getD (List.map enc p) (Int.toNat (IntKind.wrap IntKind.i64 (i - 1))) default)))=AV.pv (PV.rptr (PV.cells ((enc) y3)))∧((Go.Pl.preT (fun(x:List Str×List Str×Unit)=>Zn x.1&&Zn x.2.1) [(.sl 1 false (PV.asXs (List.getD (List.drop 1 (PV.cells (enc y3))) 0 default))),(.sl 1 false (PV.asXs (List.getD (PV.cells (enc y0)) (0+1) default)))])=true∧(∃ y4:Int,AV.pv (Zf (fun(x:List Str×List Str×Unit)=>Gz x.1 x.2.1) [(.sl 1 false (PV.asXs (List.getD (List.drop 1 (PV.cells (enc y3))) 0 default))),(.sl 1 false (PV.asXs (List.getD (PV.cells (enc y0)) (0+1) default)))])=AV.pv (enc y4)∧(if (decide (y4 ≥ 0))=true then G ((.bool false))else(At Ve 0 (Za Wq G) WV 0 58 [(0,(.pv (.sl 2 false (List.map enc p)))),(5,(.pv (.sl 2 false (List.map enc p)))),(6,(.pv (.int .i64 (↑(List.length p):Int)))),(7,(.pv (.int .i64 (IntKind.wrap IntKind.i64 (i+1)))))] [])))))else(At Ve 0 (Za Wq G) WV 0 58 [(0,(.pv (.sl 2 false (List.map enc p)))),(5,(.pv (.sl 2 false (List.map enc p)))),(6,(.pv (.int .i64 (↑(List.length p):Int)))),(7,(.pv (.int .i64 (IntKind.wrap IntKind.i64 (i+1)))))] [])))))))))))))else(G ((.bool (decide ((↑(List.length (List.map enc p)):Int)<=60)))))):At Ve 0 (Za Wq G) WV 0 58 [(0,.pv (enc p)),(5,.pv (enc p)),(6,.pv (.int .i64 p.length)),(7,.pv (.int .i64 i))] []:=At.tp (.lit (.ask (.req (.abs (Mono) (fun YY=>AV.pv (PV.rptr (PV.cells ((enc) YY)))) (.lit (.lit (.ask (.lit (.lit (.lit (.lit (.lit (.lit (.lit (.lit (.lit (.lit (.lit (.lit (.lit (.lit (.lit (.lit (.lit (.lit (.nil))))))))))))))))))) (.lit (.lit (.lit (.lit (.ask (.lit (.lit (.lit (.lit (.lit (.lit (.lit (.lit (.lit (.lit (.lit (.lit (.lit (.lit (.nil))))))))))))))) (.lit (.lit (.lit (.lit (.ask (.lit (.lit (.lit (.lit (.lit (.lit (.lit (.lit (.lit (.lit (.nil))))))))))) (.lit (.lit (.lit (.lit (.lit (.ask (.lit (.lit (.lit (.lit (.lit (.nil)))))) (.lit (.lit (.req (.abs (Bool) (fun YY=>AV.pv (enc YY)) (.lit (.lit (.ask (.nil) (.req (.abs (Bool) (fun YY=>AV.pv (enc YY)) (.ask (.nil) (.lit (.ask (.lit (.lit (.lit (.lit (.req (.abs (Mono) (fun YY=>AV.pv (PV.rptr (PV.cells ((enc) YY)))) (.lit (.lit (.lit (.lit (.lit (.lit (.req (.abs (Int) (fun YY=>AV.pv (enc YY)) (.lit (.lit (.lit (.ask (.nil) (.lit (.nil)))))))))))))))))))) (.lit (.lit (.lit (.lit (.lit (.lit (.lit (.lit (.lit (.lit (.lit (.lit (.nil)))))))))))))))))))))))))))))))))))))))))))))) (.lit (.nil)))) h (by kernel_rfl)
end Go.Pl

namespace Go.Pl
open Go.RowKit
open Enc (enc dec is)
open EncL (encL decL isL)
theorem b5i: ∀ x:Str×Unit,decide (x.1.s.length<=281474976710656)=true->Zc EE 0 (Za Ny (Zj (!(ZB x.1)))) NS [] (Yr c0q (encL x)):=by
 rintro⟨⟨s⟩,⟨⟩⟩ h
 exact c5v s ⟨Ze (⟨s⟩,()) rfl h,Zd (⟨s⟩,()) rfl (ZM rfl)⟩
theorem b4g(l:List Str)(hs : ∀ s∈l,decide (s.s.length<=281474976710656)=true)(hl:l.length<=9223372036854775807): ∀ (m i:Nat),m+i=l.length->(∀ j (h:j<l.length),j<i->(!(ZB l[j]))=false) ->
  At C8 0 (Za JZ (Zj (ZE (fun s:Str=> !(ZB s)) l))) JC 0 19 [(0,.pv (enc l)),(1,.pv (.fn 185)),(7,.pv (.int .i64 l.length)),(8,.pv (.int .i64 i))] []:=by
 intro m
 induction m with
 | zero=>
  intro i hi hno
  refine b4l l i (ZN (Ye (by omega)) (Uv ?_))
  rw[U2 _ _ (fun j hj=>hno j hj (by omega))]
 | succ m ih=>
  intro i hi hno
  have hlt:i<l.length:=by omega
  refine b4l l i (ZU (Z9 hlt) ⟨Zq hlt rfl,ZF hlt ⟨Ze (l[i],()) rfl (hs _ (List.getElem_mem hlt)),Zd (l[i],()) rfl (Wx (fun hb=> ?_) fun hb=> ?_)⟩⟩)
  ·exact Uv (U3 (fun s:Str=> !(ZB s)) l i hlt hno hb).symm
  ·rw[next (by omega)]
   refine ih (i+1) (by omega) fun j hj hji=> ?_
   by_cases e:j=i
   ·subst e;exact hb
   ·exact hno j hj (by omega)
theorem c1i: ∀ a:List Str×FnV 185×Unit,YB a.1=true->Zc C8 0 (Za JZ (Zj (ZE (fun s:Str=> !(ZB s)) a.1))) JC [] (Yr c6t (encL a)):=by
 rintro⟨l,g,⟨⟩⟩ h
 have h':=h
 simp only[YB,Bool.and_eq_true,List.all_eq_true]at h'
 refine c8l l ?_
 rw[List.length_map]
 exact b4g l h'.2 (Zu.1 h'.1) l.length 0 (by omega) (fun j hj h=>by omega)
theorem b7s: ∀ a:List Str×FnV 185×Unit,YB a.1=true->Zc a8t 0 (Za Es (Zj (a.1.any fun s:Str=> !(ZB s)))) EA [] (Yr c5p (encL a)):=by
 rintro⟨l,g,⟨⟩⟩ h
 exact c9d l ⟨Ze (l,{},()) rfl h,Zd (l,{},()) rfl (ZM (XN _ _))⟩
theorem b6q: ∀ a:Str×Unit,(fun _:Str×Unit=>true) a=true->Zc ET 0 (Za Ni (Zj (false:Bool))) NB [] (Yr c0r (encL a)):=by
 rintro⟨⟨s⟩,⟨⟩⟩ _
 exact c6y s (ZM (by simp))
theorem a4z: ∀ a:Str×Str×Unit,(fun _:Str×Str×Unit=>true) a=true->Zc NC 0 (Za Ad (Zj (decide (a.1.s<a.2.1.s)))) BO [] (Yr b3t (encL a)):=by
 rintro⟨⟨s⟩,⟨t⟩,⟨⟩⟩ _
 exact c1j s t (Zd (⟨s⟩,()) rfl (ZN (by simp) (ZM (Yq s t))))
theorem b0i: ∀ a:Str×Str×Unit,(fun _:Str×Str×Unit=>true) a=true->Zc Ep 0 (Za Ns (Zj (SN a.1 a.2.1))) NF [] (Yr b7y (encL a)):=by
 rintro⟨⟨s⟩,⟨t⟩,⟨⟩⟩ _
 refine c6d s t (Zd (⟨s⟩,()) rfl (Zd (⟨t⟩,()) rfl (ZN (by simp) (ZN (by simp) ?_))))
 show if (Op.bytesLess s t)=true then Zj (SN ⟨s⟩ ⟨t⟩) _ else if (!(Op.bytesLess s t||s==t))=true then Zj (SN ⟨s⟩ ⟨t⟩) _ else Zj (SN ⟨s⟩ ⟨t⟩) _
 rw[Yq]
 unfold SN
 by_cases h1:s<t
 ·rw[decide_eq_true h1,if_pos rfl,if_pos h1];exact Uv rfl
 ·rw[decide_eq_false h1,if_neg (by simp),if_neg h1]
  by_cases h2:s=t
  ·subst h2
   rw[if_neg (by simp),if_neg h1];exact Uv rfl
  ·have h3:t<s:=by
    rcases List.le_total s t with h|h
    ·exact absurd (Std.lt_of_le_of_ne h h2) h1
    ·exact Std.lt_of_le_of_ne h (Ne.symm h2)
   rw[if_pos (by simp[h2]),if_pos h3];exact Uv rfl
theorem a9b(l:List Str):QA l=true ↔ ∀ i (h:i+1<l.length),¬ l[i+1].s<l[i].s:=by
 induction l with
 | nil=>simp[QA]
 | cons x l ih=>
  cases l with
  | nil=>simp[QA]
  | cons y r=>
   rw[QA,Bool.and_eq_true,ih]
   constructor
   ·rintro⟨h1,h2⟩ i hi
    cases i with
    | zero=>simpa using h1
    | succ i=>exact h2 i (by simpa using hi)
   ·intro h
    exact⟨by simpa using h 0 (by simp),fun i hi=>h (i+1) (by simpa using hi)⟩
theorem PG(l:List Str)(hl:l.length<=9223372036854775807): ∀ (i:Nat),i<l.length->(∀ j (h:j+1<l.length),i<=j-> ¬ l[j+1].s<l[j].s) ->
  At VK 0 (Za WO (Zj (QA l))) WR 0 21 [(0,.pv (enc l)),(3,.pv (.int .i64 i))] []:=by
 intro i
 induction i with
 | zero=>
  intro hi hok
  refine JV l ((0:Nat):Int) (ZN (by decide) (ZM ?_))
  exact((a9b l).2 fun j hj=>hok j hj (Nat.zero_le _)).symm
 | succ i ih=>
  intro hi hok
  have hi2:i<l.length:=by omega
  have e:((i+1:Nat):Int) - 1=(i:Int):=by omega
  have hw:IntKind.i64.wrap (((i+1:Nat):Int) - 1)=(i:Int):=by rw[e];exact X8 (by omega) (by omega)
  refine JV l ((i+1:Nat):Int) (ZU (by simp) ⟨Zq hi rfl,ZF hi ?_⟩)
  rw[hw]
  refine⟨Zq hi2 rfl,ZF hi2 (Zd (l[i+1],l[i],()) rfl (Wx (fun h=>ZM ?_) fun h=>ih hi2 fun j hj hij=> ?_))⟩
  ·have h:l[i+1].s<l[i].s:=of_decide_eq_true h
   cases hc:QA l
   ·rfl
   ·exact absurd h ((a9b l).1 hc i hi)
  ·have h : ¬ l[i+1].s<l[i].s:=of_decide_eq_false h
   by_cases ej:j=i
   ·subst ej;exact h
   ·exact hok j hj (by omega)
theorem MX: ∀ a:List Str×Unit,Zn a.1=true->Zc VK 0 (Za WO (Zj (QA a.1))) WR [] (Yr EY (encL a)):=by
 rintro⟨l,⟨⟩⟩ h
 have hl:=Zu.1 h
 refine a4w l ?_
 rw[List.length_map]
 cases hc:l with
 | nil=>
  refine JV [] _ (ZN (by decide) (ZM rfl))
 | cons x r=>
  have hw:IntKind.i64.wrap (((x::r).length:Int) - 1)=((r.length:Nat):Int):=by
   rw[List.length_cons]
   rw[hc,List.length_cons]at hl
   rw[show((r.length+1:Nat):Int) - 1=(r.length:Int) by omega]
   exact X8 (by omega) (by omega)
  rw[hw]
  exact PG (x::r) (by rw[<- hc];exact hl) r.length (by simp) (fun j hj h=>by simp at hj;omega)
theorem Lx(a b:List Str)(ha:a.length<=9223372036854775807)(hb:b.length<=9223372036854775807): ∀ (k i:Nat),k+i=a.length->i<=b.length ->
  At UN 0 (Za VN (Zj (Gz (a.drop i) (b.drop i)))) VE 0 36 [(0,.pv (enc a)),(1,.pv (enc b)),(9,.pv (enc a)),(10,.pv (.int .i64 a.length)),(11,.pv (.int .i64 i))] []:=by
 intro k
 induction k with
 | zero=>
  intro i hi hib
  rw[List.drop_of_length_le (show a.length<=i by omega)]
  refine TA a b i (ZN (Ye (by omega)) ?_)
  simp only[List.length_map]
  refine Xy (fun h=> ?_) fun h=> ?_
  ·rw[List.drop_eq_getElem_cons (show i<b.length by omega)]
   exact Uv rfl
  ·rw[List.drop_of_length_le (show b.length<=i by omega)]
   exact Uv rfl
 | succ k ih=>
  intro i hi hib
  have hlt:i<a.length:=by omega
  rw[List.drop_eq_getElem_cons hlt]
  refine TA a b i (ZU (Z9 hlt) ⟨Zq hlt rfl,ZF hlt ?_⟩)
  simp only[List.length_map]
  refine Xy (fun h=> ?_) fun h=> ?_
  ·rw[List.drop_of_length_le (show b.length<=i by omega)]
   exact Uv rfl
  ·have hlt2:i<b.length:=by omega
   have h1:=ih (i+1) (by omega) (by omega)
   rw[List.drop_eq_getElem_cons hlt2]
   refine⟨by simp[hlt2],ZF hlt2 (Zd (a[i],b[i],()) rfl ?_)⟩
   show if (SN a[i] b[i] != 0)=true then _ else _
   unfold Gz SN
   by_cases q1:a[i].s<b[i].s
   ·rw[if_pos q1,if_pos (by simp),if_pos q1];exact Uv rfl
   ·rw[if_neg q1,if_neg q1]
    by_cases q2:b[i].s<a[i].s
    ·rw[if_pos q2,if_pos (by simp),if_pos q2];exact Uv rfl
    ·rw[if_neg q2,if_neg (by simp),if_neg q2,next (by omega)]
     exact h1
theorem FR: ∀ x:List Str×List Str×Unit,(Zn x.1&&Zn x.2.1)=true->Zc UN 0 (Za VN (Zj (Gz x.1 x.2.1))) VE [] (Yr a5u (encL x)):=by
 rintro⟨a,b,⟨⟩⟩ h
 simp only[Bool.and_eq_true]at h
 refine b0o a b ?_
 rw[List.length_map]
 exact Lx a b (Zu.1 h.1) (Zu.1 h.2) a.length 0 (by omega) (Nat.zero_le _)
theorem BU: ∀ a b:List Str,Gz a b<0 ↔ Yg a b<0
 | [],[]=>by decide
 | [],y::b=>by
  have e1:Gz [] (y::b) = -1:=rfl
  have e2:Yg [] (y::b) = -((y::b).length:Int):=rfl
  rw[e1,e2,List.length_cons];omega
 | x::a,[]=>by
  have e1:Gz (x::a) []=1:=rfl
  have e2:Yg (x::a) []=((x::a).length:Int):=rfl
  rw[e1,e2];omega
 | x::a,y::b=>by
  rw[Gz,Yg]
  split
  ·exact Iff.rfl
  ·split
   ·exact Iff.rfl
   ·exact BU a b
def pvL:Option Mono->List Mono->Bool
 | _,[]=>true
 | o,m::r=>YK m&&(match o with|none=>true|some q=>decide (Yg q.v m.v<0))&&pvL (some m) r
theorem b2p(o:Option Mono)(m:Mono)(r:List Mono):pvL o (m::r)=(YK m&&(match o with|none=>true|some q=>decide (Yg q.v m.v<0))&&pvL (some m) r):=by cases o <;> rfl
theorem LY: ∀ (l:List Mono) (q:Mono),pvL (some q) l=(l.all YK&&D8 (q::l))
 | [],q=>rfl
 | m::r,q=>by
  rw[pvL,LY r m,D8,List.all_cons]
  cases YK m <;> cases decide (Yg q.v m.v<0) <;> cases r.all YK <;> cases D8 (m::r) <;> rfl
theorem b2a(l:List Mono):(pvL none l&&decide (l.length<=60))=ZC l:=by
 unfold ZC
 cases l with
 | nil=>rfl
 | cons m r=>
  rw[pvL,LY,List.all_cons,Bool.and_true]
  cases YK m <;> cases decide ((m::r).length<=60) <;> cases r.all YK <;> cases D8 (m::r) <;> rfl
def MB(p:List Mono):Nat->Option Mono
 | 0=>none
 | i+1=>p[i]?
theorem Mt(p:List Mono)(hp:Yf p=true): ∀ (k i:Nat),k+i=p.length ->
  At Ve 0 (Za Wq (Zj (pvL (MB p i) (p.drop i)&&decide (p.length<=60)))) WV 0 58 [(0,.pv (enc p)),(5,.pv (enc p)),(6,.pv (.int .i64 p.length)),(7,.pv (.int .i64 i))] []:=by
 simp only[Yf,Bool.and_eq_true,List.all_eq_true]at hp
 have hl:=Zu.1 hp.1
 intro k
 induction k with
 | zero=>
  intro i hi
  rw[List.drop_of_length_le (by omega)]
  refine TC p i (ZN (Ye (by omega)) (ZM ?_))
  rw[List.length_map,pvL,Bool.true_and]
  exact decide_eq_decide.2 (by omega)
 | succ k ih=>
  intro i hi
  have hlt:i<p.length:=by omega
  have hm:=hp.2 _ (List.getElem_mem hlt)
  have hml:Zn p[i].v=true:=by
   simp only[YB,Bool.and_eq_true]at hm
   exact hm.1
  have h1:=ih (i+1) (by omega)
  have hpr:MB p (i+1)=some p[i]:=List.getElem?_eq_getElem hlt
  rw[hpr]at h1
  rw[List.drop_eq_getElem_cons hlt,b2p]
  have bad:YK p[i]=false->Zj (YK p[i]&&(match MB p i with|none=>true|some q=>decide (Yg q.v p[i].v<0))&&pvL (some p[i]) (p.drop (i+1))&&decide (p.length<=60)) (.bool false):=fun h=>ZM (by rw[h];simp)
  apply TC (G:=Zj (YK p[i]&&(match MB p i with|none=>true|some q=>decide (Yg q.v p[i].v<0))&&pvL (some p[i]) (p.drop (i+1))&&decide (p.length<=60))) p i
  apply ZU (Z9 hlt)
  refine⟨Zq hlt rfl,ZF hlt (KE (fun h=>bad ?_) fun h2=>Xy (fun h=>bad ?_) fun h3=>Xy (fun h=>bad ?_) fun h4=>Xy (fun h=>bad ?_) fun h5=>⟨Ze (p[i].v,()) rfl hml,Zd (p[i].v,()) rfl (XX (fun h=>bad ?_) fun h6=>⟨Ze (p[i].v,{},()) rfl hm,Zd (p[i].v,{},()) rfl (Wx (fun h=>bad ?_) fun h7=> ?_)⟩)⟩)⟩
  ·have h:p[i].c=0:=h
   simp[YK,h]
  ·have h:p[i].c < -1099511627776:=h
   unfold YK
   rw[decide_eq_false (show ¬ -1099511627776<=p[i].c by omega)];simp
  ·have h:p[i].c>1099511627776:=h
   unfold YK
   rw[decide_eq_false (show ¬ p[i].c<=1099511627776 by omega)];simp
  ·have h:((p[i].v.map (enc:Str->PV)).length:Int)>8:=h
   rw[List.length_map]at h
   unfold YK
   rw[decide_eq_false (show ¬ p[i].v.length<=8 by omega)];simp
  ·have h:QA p[i].v=false:=h
   simp[YK,h]
  ·have h:(p[i].v.any fun s=> !(ZB s))=true:=h
   have h2:p[i].v.all ZB=false:=by
    rw[<- Bool.not_eq_true]
    intro h3
    obtain⟨s,hs,h4⟩:=List.any_eq_true.1 h
    rw[List.all_eq_true.1 h3 s hs]at h4
    cases h4
   unfold YK
   rw[h2];simp
  ·have hok:YK p[i]=true:=by
    have h2 : ¬ p[i].c=0:=h2
    have h3 : ¬ p[i].c < -1099511627776:=h3
    have h4 : ¬ p[i].c>1099511627776:=h4
    have h5 : ¬ ((p[i].v.map (enc:Str->PV)).length:Int)>8:=h5
    rw[List.length_map]at h5
    have h6:QA p[i].v=true:=h6
    have h7:(p[i].v.any fun s=> !(ZB s))=false:=h7
    have h8:p[i].v.all ZB=true:=by
     rw[List.all_eq_true]
     intro s hs
     cases hn:ZB s
     ·rw[<- Bool.not_eq_true]at h7
      exact absurd (List.any_eq_true.2 ⟨s,hs,by rw[hn];rfl⟩) h7
     ·rfl
    unfold YK
    rw[decide_eq_true h2,decide_eq_true (show -1099511627776<=p[i].c by omega),decide_eq_true (show p[i].c<=1099511627776 by omega),decide_eq_true (show p[i].v.length<=8 by omega),h6,h8]
    rfl
   rw[hok,Bool.true_and]
   cases i with
   | zero=>
    refine ZN (by decide) ?_
    rw[next (by omega)]
    exact h1
   | succ j=>
    have hj:j<p.length:=by omega
    have e:((j+1:Nat):Int) - 1=(j:Int):=by omega
    have hw:IntKind.i64.wrap (((j+1:Nat):Int) - 1)=(j:Int):=by rw[e];exact X8 (by omega) (by omega)
    have hprev:MB p (j+1)=some p[j]:=List.getElem?_eq_getElem hj
    rw[hprev]
    have hjl:Zn p[j].v=true:=by
     have:=hp.2 _ (List.getElem_mem hj)
     simp only[YB,Bool.and_eq_true]at this
     exact this.1
    refine ZU (by simp) ?_
    rw[hw]
    refine⟨Zq hj rfl,ZF hj ⟨Ze (p[j].v,p[j+1].v,()) rfl (by show(Zn p[j].v&&Zn p[j+1].v)=true;rw[hjl,hml];rfl),Zd (p[j].v,p[j+1].v,()) rfl (Xy (fun h=> ?_) fun h=> ?_)⟩⟩
    ·have h:Gz p[j].v p[j+1].v ≥ 0:=h
     have : ¬ Yg p[j].v p[j+1].v<0:=fun h2=>by have:=(BU _ _).2 h2;omega
     exact ZM (by simp[this])
    ·have h : ¬ Gz p[j].v p[j+1].v ≥ 0:=h
     have:Yg p[j].v p[j+1].v<0:=(BU _ _).1 (by omega)
     show At Ve 0 (Za Wq (Zj (decide (Yg p[j].v p[j+1].v<0)&&_&&_))) _ _ _ _ _
     rw[decide_eq_true this,Bool.true_and,next (by omega)]
     exact h1
theorem En: ∀ x:List Mono×Unit,Yf x.1=true->Zc Ve 0 (Za Wq (Zj (ZC x.1))) WV [] (Yr a5j (encL x)):=by
 rintro⟨p,⟨⟩⟩ h
 refine b4m p ?_
 rw[List.length_map,<- b2a]
 exact Mt p h p.length 0 (by omega)
end Go.Pl

namespace Go.Pl
open Go.RowKit
open Enc (enc dec is)
open EncL (encL decL isL)
set_option maxRecDepth 100000
def Xl:IC:=(.seq (.reg [⟨(some 2),(.mv (.c (.sl 0 true []))),0,none⟩] none) (.seq (.seq (.reg [⟨(some 6),(.mv (.t 0)),0,none⟩,⟨(some 7),(.call (.c (.fn 122)) [(.t 6)]),0,none⟩,⟨(some 8),(.un .not (.t 7)),2,none⟩] none) (.cond (.t 8) (.seq (.reg [⟨(some 2),(.mv (.c (.sl 0 true []))),0,none⟩] none) .ret) .skip)) (.seq (.reg [⟨(some 3),(.mv (.c (.sl 0 true []))),0,none⟩] none) (.seq (.seq (.reg [⟨(some 9),(.mv (.t 0)),0,none⟩,⟨(some 10),(.len 1 (.t 9)),0,none⟩,⟨(some 11),(.mv (.c (.int .i64 0))),0,none⟩] none) (.block 0 (.loop [11,10,9,3] (.seq (.reg [⟨(some 12),(.bin .num .lss (.t 11) (.t 10)),0,none⟩] none) (.seq (.cond (.t 12) .skip (.exit 0)) (.seq (.block 1 (.seq (.reg [⟨(some 13),(.iaddr 2 (.t 9) (.t 11)),0,none⟩,⟨(some 14),(.load true [(.int .i64),(.sl 1)] (.t 13)),0,none⟩,⟨(some 5),(.alloc (.agg [(.int .i64 0),(.sl 0 true [])])),0,none⟩,⟨none,(.store 2 (.t 5) (.t 14)),1,none⟩] none) (.reg [⟨(some 15),(.mv (.t 3)),0,none⟩,⟨(some 16),(.faddr 1 (.t 5)),0,none⟩,⟨(some 17),(.load false [(.sl 1)] (.t 16)),0,none⟩,⟨(some 18),(.append 9 1 16 (.t 15) (.t 17)),0,none⟩,⟨(some 3),(.mv (.t 18)),1,none⟩] none))) (.reg [⟨(some 19),(.bin .num .add (.t 11) (.c (.int .i64 1))),0,none⟩,⟨(some 11),(.mv (.t 19)),0,none⟩] none))))))) (.seq (.reg [⟨(some 20),(.mv (.t 3)),0,none⟩,⟨(some 21),(.call (.c (.fn 154)) [(.t 20)]),0,none⟩] none) (.seq (.reg [⟨(some 22),(.mv (.t 3)),0,none⟩,⟨(some 23),(.call (.c (.fn 187)) [(.t 22)]),0,none⟩,⟨(some 2),(.mv (.t 23)),2,none⟩] none) .ret))))))
def Xh:List IRes:=[(.tmp 2)]
abbrev Sk:Nat:=24
def XT:ZK:=Xp [(122,.pure (preT (fun x:List Mono×Unit=>Yf x.1)) (Zf (fun x:List Mono×Unit=>ZC x.1))),(154,.own XP Qo),(187,.own XP Qr)]
theorem a1b{G:AV×List AObj×List AObj->Prop}(p:List Mono)(h:(Go.Pl.preT (fun(x:List Mono×Unit)=>Yf x.1) [(.sl 2 false (List.map enc p))])=true∧(∃ y0:Bool,AV.pv (Zf (fun(x:List Mono×Unit)=>ZC x.1) [(.sl 2 false (List.map enc p))])=AV.pv (enc y0)∧(if (!y0)=true then G (((.pv (.sl 0 true [])),([],[])))else(At XT 0 (Zl 0 Xh G) Xl 0 24 [(3,(.pv (.sl 0 true []))),(9,(.pv (.sl 2 false (List.map enc p)))),(10,(.pv (.int .i64 (↑(List.length (List.map enc p)):Int)))),(11,(.pv (.int .i64 0)))] [])))):Zc XT 0 (Zl 0 Xh G) Xl [] (YR 24 [.pv (enc p)] []):=Zc.to (.req (.abs (Bool) (fun YY=>AV.pv (enc YY)) (.ask (.nil) (.nil)))) h (by kernel_rfl)
theorem Ty{G:AV×List AObj×List AObj->Prop}(p:List Mono)(i:Int)(h:if (decide (i<(↑(List.length p):Int)))=true then(decide (0<=i)&&decide (Int.toNat i<List.length (List.map enc p))&&Enc.sz Mono==2)=true∧(∃ y0:Mono,AV.pv (PV.rptr (PV.cells (List.getD (List.map enc p) (Int.toNat i) default)))=AV.pv (PV.rptr (PV.cells ((enc) y0)))∧((List.isEmpty (PV.asXs (List.getD (PV.cells (enc y0)) (0+1) default))||1==1)=true∧(if (List.isEmpty (PV.asXs (List.getD (PV.cells (enc y0)) (0+1) default)))=true then At XT 0 (Zl 0 Xh G) Xl 0 24 [(3,(.pv (.sl 0 true []))),(9,(.pv (.sl 2 false (List.map enc p)))),(10,(.pv (.int .i64 (↑(List.length p):Int)))),(11,(.pv (.int .i64 (IntKind.wrap IntKind.i64 (i+1)))))] []else(((List.isEmpty ([]:List PV)||0==1)&&decide ((List.length ([]:List PV)+List.length (PV.asXs (List.getD (PV.cells (enc y0)) (0+1) default)))*16<=1099511627776)&&decide (List.length ([]:List PV)+List.length (PV.asXs (List.getD (PV.cells (enc y0)) (0+1) default))<=1099511627776))=true∧(At XT 0 (Zl 0 Xh G) Xl 0 24 [(3,(.row 0 (List.length ([]:List PV)+List.length (PV.asXs (List.getD (PV.cells (enc y0)) (0+1) default))) 0 (List.length ([]:List PV)+List.length (PV.asXs (List.getD (PV.cells (enc y0)) (0+1) default))))),(9,(.pv (.sl 2 false (List.map enc p)))),(10,(.pv (.int .i64 (↑(List.length p):Int)))),(11,(.pv (.int .i64 (IntKind.wrap IntKind.i64 (i+1)))))] [(.obj (.row false 9 1 (([]:List PV)++PV.asXs (List.getD (PV.cells (enc y0)) (0+1) default))))])))))else(G (((.pv (.sl 0 true [])),([],[]))))):At XT 0 (Zl 0 Xh G) Xl 0 24 [(3,.pv (.sl 0 true [])),(9,.pv (enc p)),(10,.pv (.int .i64 p.length)),(11,.pv (.int .i64 i))] []:=At.to (.lit (.ask (.req (.abs (Mono) (fun YY=>AV.pv (PV.rptr (PV.cells ((enc) YY)))) (.lit (.req (.lit (.ask (.lit (.nil)) (.req (.lit (.nil))))))))) (.lit (.keep (.lit (.keep (.nil))))))) h (by kernel_rfl)
theorem Rm{G:AV×List AObj×List AObj->Prop}(p:List Mono)(i:Int)(q:Nat)(xs:List Str)(h:if (decide (i<(↑(List.length p):Int)))=true then(decide (0<=i)&&decide (Int.toNat i<List.length (List.map enc p))&&Enc.sz Mono==2)=true∧(∃ y0:Mono,AV.pv (PV.rptr (PV.cells (List.getD (List.map enc p) (Int.toNat i) default)))=AV.pv (PV.rptr (PV.cells ((enc) y0)))∧((List.isEmpty (PV.asXs (List.getD (PV.cells (enc y0)) (0+1) default))||1==1)=true∧((List.length (List.map enc xs)==q&&q==q&&decide ((q+List.length (PV.asXs (List.getD (PV.cells (enc y0)) (0+1) default)))*16<=1099511627776)&&decide (q+List.length (PV.asXs (List.getD (PV.cells (enc y0)) (0+1) default))<=1099511627776))=true∧(At XT 0 (Zl 0 Xh G) Xl 0 24 [(3,(.row 0 (q+List.length (PV.asXs (List.getD (PV.cells (enc y0)) (0+1) default))) 0 (q+List.length (PV.asXs (List.getD (PV.cells (enc y0)) (0+1) default))))),(9,(.pv (.sl 2 false (List.map enc p)))),(10,(.pv (.int .i64 (↑(List.length p):Int)))),(11,(.pv (.int .i64 (IntKind.wrap IntKind.i64 (i+1)))))] [(.obj (.row false 9 1 (List.map enc xs++PV.asXs (List.getD (PV.cells (enc y0)) (0+1) default))))]))))else((XP [(.row 0 q 0 q)] [(.row false 9 1 (List.map enc xs))])=true∧((XP [(.row 0 q 0 q)] [(.row false 9 1 (List.map PV.str (Wu (List.map UJ (List.map enc xs)))))])=true∧(G (((.row 0 q 0 (List.length (Lib.compact (List.map UJ (List.map PV.str (Wu (List.map UJ (List.map enc xs)))))))),([],[(.row false 9 1 (List.map PV.str (Vx (List.map UJ (List.map PV.str (Wu (List.map UJ (List.map enc xs))))))))]))))))):At XT 0 (Zl 0 Xh G) Xl 0 24 [(3,.row 0 q 0 q),(9,.pv (enc p)),(10,.pv (.int .i64 p.length)),(11,.pv (.int .i64 i))] [.obj (.row false 9 1 (xs.map enc))]:=At.to (.lit (.ask (.req (.abs (Mono) (fun YY=>AV.pv (PV.rptr (PV.cells ((enc) YY)))) (.lit (.req (.req (.lit (.nil))))))) (.req (.keep (.req (.keep (.nil))))))) h (by kernel_rfl)
def O3:IC:=(.seq (.reg [⟨(some 2),(.box 2 (.t 0)),0,none⟩,⟨(some 3),(.mv (.c (.bool false))),1,none⟩] none) (.seq (.reg [⟨(some 4),(.faddr 0 (.t 2)),0,none⟩,⟨(some 5),(.load false [.str] (.t 4)),0,none⟩,⟨(some 6),(.load false [.str] (.t 1)),0,none⟩,⟨(some 7),(.bin .num .eql (.t 5) (.t 6)),0,none⟩,⟨(some 3),(.mv (.t 7)),0,none⟩] none) .ret))
def FO:List IRes:=[(.tmp 3)]
abbrev c7m:Nat:=8
def b6i:ZK:=Xp []
theorem c8b{G:AV×List AObj×List AObj->Prop}(x:Coef)(v:List UInt8)(h:G (((.pv (.bool (Str.s x.v==v))),([(.box [(.pv (.str v))])],[])))):Zc b6i 1 (Zl 1 FO G) O3 [] (YR 8 [.pv (enc x),.ptr 0 0] [.box [.pv (.str v)]]):=Zc.to (.lit (.nil)) h (by kernel_rfl)
def JI:IC:=Kw
def Ju:List IRes:=[(.tmp 4)]
abbrev c6l:Nat:=19
def Ac:ZK:=Xp [(188,.own Gc Cx)]
theorem c7z{G:AV×List AObj×List AObj->Prop}(l:List Coef)(v:List UInt8)(h:At Ac 1 (Zl 1 Ju G) JI 0 19 [(0,(.pv (.sl 2 false (List.map enc l)))),(1,(.fn 188 [] [(.ptr 0 0)])),(7,(.pv (.int .i64 (↑(List.length (List.map enc l)):Int)))),(8,(.pv (.int .i64 0)))] [(.obj (.box [(.pv (.str v))]))]):Zc Ac 1 (Zl 1 Ju G) JI [] (YR 19 [.pv (enc l),.fn 188 [] [.ptr 0 0]] [.box [.pv (.str v)]]):=Zc.to (.nil) h (by kernel_rfl)
theorem b1t{G:AV×List AObj×List AObj->Prop}(l:List Coef)(v:List UInt8)(i:Int)(h:if (decide (i<(↑(List.length l):Int)))=true then(decide (0<=i)&&decide (Int.toNat i<List.length (List.map enc l))&&Enc.sz Coef==2)=true∧(∃ y0:Coef,AV.pv (PV.rptr (PV.cells (List.getD (List.map enc l) (Int.toNat i) default)))=AV.pv (PV.rptr (PV.cells ((enc) y0)))∧((Gc [(.pv (.agg [(.str (PV.asStr (List.getD (PV.cells (enc y0)) 0 default))),(.int .i64 (PV.asInt (List.getD (PV.cells (enc y0)) (0+1) default)))])),(.ptr 0 0)] [(.box [(.pv (.str v))])])=true∧(if (Str.s (Coef.v (dec (PV.agg (QF (PV.cells (enc y0)) 0 [Sh.str,Sh.int .i64]))))==v)=true then G (((.pv (.int .i64 i)),([(.box [(.pv (.str v))])],[])))else(At Ac 1 (Zl 1 Ju G) JI 0 19 [(0,(.pv (.sl 2 false (List.map enc l)))),(1,(.fn 188 [] [(.ptr 0 0)])),(7,(.pv (.int .i64 (↑(List.length l):Int)))),(8,(.pv (.int .i64 (IntKind.wrap IntKind.i64 (i+1)))))] [(.obj (.box [(.pv (.str v))]))]))))else(G (((.pv (.int .i64 (-1))),([(.box [(.pv (.str v))])],[]))))):At Ac 1 (Zl 1 Ju G) JI 0 19 [(0,.pv (enc l)),(1,.fn 188 [] [.ptr 0 0]),(7,.pv (.int .i64 l.length)),(8,.pv (.int .i64 i))] [.obj (.box [.pv (.str v)])]:=At.to (.lit (.ask (.req (.abs (Coef) (fun YY=>AV.pv (PV.rptr (PV.cells ((enc) YY)))) (.lit (.req (.keep (.ask (.nil) (.lit (.nil)))))))) (.nil))) h (by kernel_rfl)
def QO:IC:=(.seq (.reg [⟨(some 4),(.mv (.c (.int .i64 0))),0,none⟩] none) (.seq (.seq (.reg [⟨(some 6),(.mv (.t 0)),0,none⟩,⟨(some 7),(.len 1 (.t 6)),0,none⟩,⟨(some 8),(.mv (.c (.int .i64 0))),0,none⟩] none) (.block 0 (.loop [8,7,1,0] (.seq (.reg [⟨(some 9),(.bin .num .lss (.t 8) (.t 7)),0,none⟩] none) (.seq (.cond (.t 9) .skip (.exit 0)) (.seq (.block 1 (.seq (.reg [⟨(some 10),(.mv (.t 8)),0,none⟩,⟨(some 5),(.mv (.t 10)),0,none⟩] none) (.seq (.reg [⟨(some 11),(.mv (.t 1)),0,none⟩,⟨(some 12),(.mv (.t 0)),0,none⟩,⟨(some 13),(.mv (.t 5)),0,none⟩,⟨(some 14),(.iaddr 1 (.t 12) (.t 13)),0,none⟩,⟨(some 15),(.load false [(.int .i64)] (.t 14)),0,none⟩,⟨(some 16),(.bin .num .eql (.t 11) (.t 15)),0,none⟩] none) (.cond (.t 16) (.seq (.reg [⟨(some 17),(.mv (.t 5)),0,none⟩,⟨(some 4),(.mv (.t 17)),0,none⟩] none) .ret) .skip)))) (.reg [⟨(some 18),(.bin .num .add (.t 8) (.c (.int .i64 1))),0,none⟩,⟨(some 8),(.mv (.t 18)),0,none⟩] none))))))) (.seq (.reg [⟨(some 4),(.mv (.c (.int .i64 (-1)))),0,none⟩] none) .ret)))
def Q5:List IRes:=[(.tmp 4)]
abbrev c1d:Nat:=19
def JU:ZK:=Xp []
theorem c5o{G:PV->Prop}(l:List Int)(n:Int)(h:At JU 0 (Za Q5 G) QO 0 19 [(0,(.pv (.sl 1 false (List.map enc l)))),(1,(.pv (.int .i64 n))),(7,(.pv (.int .i64 (↑(List.length (List.map enc l)):Int)))),(8,(.pv (.int .i64 0)))] []):Zc JU 0 (Za Q5 G) QO [] (Yr 19 [enc l,enc n]):=Zc.tp (.nil) h (by kernel_rfl)
theorem a2g{G:PV->Prop}(l:List Int)(n:Int)(i:Int)(h:if (decide (i<(↑(List.length l):Int)))=true then(decide (0<=i)&&decide (Int.toNat i<List.length (List.map enc l))&&Enc.sz Int==1)=true∧(∃ y0:Int,AV.pv (PV.rptr (PV.cells (List.getD (List.map enc l) (Int.toNat i) default)))=AV.pv (PV.rptr (PV.cells ((enc) y0)))∧(if (n==PV.asInt (List.getD (PV.cells (enc y0)) 0 default))=true then G ((.int .i64 i))else(At JU 0 (Za Q5 G) QO 0 19 [(0,(.pv (.sl 1 false (List.map enc l)))),(1,(.pv (.int .i64 n))),(7,(.pv (.int .i64 (↑(List.length l):Int)))),(8,(.pv (.int .i64 (IntKind.wrap IntKind.i64 (i+1)))))] [])))else(G ((.int .i64 (-1))))):At JU 0 (Za Q5 G) QO 0 19 [(0,.pv (enc l)),(1,.pv (enc n)),(7,.pv (.int .i64 l.length)),(8,.pv (.int .i64 i))] []:=At.tp (.lit (.ask (.req (.abs (Int) (fun YY=>AV.pv (PV.rptr (PV.cells ((enc) YY)))) (.lit (.lit (.ask (.nil) (.lit (.nil))))))) (.nil))) h (by kernel_rfl)
def Gw:IC:=(.seq (.reg [⟨(some 4),(.mv (.c (.bool false))),0,none⟩] none) (.seq (.reg [⟨(some 5),(.mv (.t 0)),0,none⟩,⟨(some 6),(.mv (.t 1)),0,none⟩,⟨(some 7),(.call (.c (.fn 284)) [(.t 5),(.t 6)]),0,none⟩,⟨(some 8),(.bin .num .geq (.t 7) (.c (.int .i64 0))),2,none⟩,⟨(some 4),(.mv (.t 8)),2,none⟩] none) .ret))
def Gs:List IRes:=[(.tmp 4)]
abbrev a3w:Nat:=9
def Ao:ZK:=Xp [(284,.pure (preT (fun x:List Int×Int×Unit=>Zn x.1)) (Zf (fun x:List Int×Int×Unit=>ZE (fun n:Int=>decide (x.2.1=n)) x.1)))]
theorem a8n{G:PV->Prop}(l:List Int)(n:Int)(h:(Go.Pl.preT (fun(x:List Int×Int×Unit)=>Zn x.1) [(.sl 1 false (List.map enc l)),(.int .i64 n)])=true∧(∃ y0:Int,AV.pv (Zf (fun(x:List Int×Int×Unit)=>ZE (fun(n:Int)=>decide (x.2.1=n)) x.1) [(.sl 1 false (List.map enc l)),(.int .i64 n)])=AV.pv (enc y0)∧(G ((.bool (decide (y0 ≥ 0))))))):Zc Ao 0 (Za Gs G) Gw [] (Yr 9 [enc l,enc n]):=Zc.tp (.req (.abs (Int) (fun YY=>AV.pv (enc YY)) (.lit (.nil)))) h (by kernel_rfl)
def Uu:IC:=(.seq (.reg [⟨(some 2),(.mv (.c (.int .i64 0))),0,none⟩,⟨(some 3),(.mv (.c (.int .i64 0))),0,none⟩] none) (.seq (.seq (.reg [⟨(some 9),(.mv (.t 0)),0,none⟩,⟨(some 10),(.call (.c (.fn 246)) [(.t 9),(.c (.int .i64 0))]),0,none⟩] none) (.cond (.t 10) (.seq (.reg [⟨(some 2),(.mv (.c (.int .i64 0))),0,none⟩,⟨(some 3),(.mv (.c (.int .i64 0))),0,none⟩] none) .ret) .skip)) (.seq (.reg [⟨(some 4),(.mv (.c (.int .i64 1))),0,none⟩] none) (.seq (.seq (.reg [⟨(some 11),(.mv (.t 0)),0,none⟩,⟨(some 12),(.len 1 (.t 11)),0,none⟩,⟨(some 13),(.mv (.c (.int .i64 0))),0,none⟩] none) (.block 0 (.loop [13,12,11,4] (.seq (.reg [⟨(some 14),(.bin .num .lss (.t 13) (.t 12)),0,none⟩] none) (.seq (.cond (.t 14) .skip (.exit 0)) (.seq (.block 1 (.seq (.reg [⟨(some 15),(.iaddr 1 (.t 11) (.t 13)),0,none⟩,⟨(some 16),(.load false [(.int .i64)] (.t 15)),0,none⟩,⟨(some 6),(.mv (.t 16)),0,none⟩] none) (.seq (.reg [⟨(some 18),(.mv (.t 4)),0,none⟩,⟨(some 19),(.mv (.t 6)),0,none⟩,⟨(some 20),(.call (.c (.fn 247)) [(.t 18),(.t 19)]),0,none⟩,⟨(some 17),(.mv (.t 20)),2,none⟩,⟨(some 21),(.extract (.t 17) 0),2,none⟩,⟨(some 22),(.extract (.t 17) 1),2,none⟩,⟨(some 7),(.mv (.t 21)),2,none⟩,⟨(some 8),(.mv (.t 22)),2,none⟩] none) (.seq (.seq (.reg [⟨(some 23),(.mv (.t 8)),0,none⟩,⟨(some 24),(.bin .num .neq (.t 23) (.c (.int .i64 0))),0,none⟩] none) (.cond (.t 24) (.seq (.reg [⟨(some 25),(.mv (.t 8)),0,none⟩,⟨(some 2),(.mv (.c (.int .i64 0))),0,none⟩,⟨(some 3),(.mv (.t 25)),0,none⟩] none) .ret) .skip)) (.reg [⟨(some 26),(.mv (.t 7)),0,none⟩,⟨(some 4),(.mv (.t 26)),0,none⟩] none))))) (.reg [⟨(some 27),(.bin .num .add (.t 13) (.c (.int .i64 1))),0,none⟩,⟨(some 13),(.mv (.t 27)),0,none⟩] none))))))) (.seq (.reg [⟨(some 28),(.mv (.t 4)),0,none⟩,⟨(some 2),(.mv (.t 28)),0,none⟩,⟨(some 3),(.mv (.c (.int .i64 0))),0,none⟩] none) .ret)))))
def VY:List IRes:=[(.tmp 2),(.tmp 3)]
abbrev b3m:Nat:=29
def UY:ZK:=Xp [(246,.pure (preT (fun x:List Int×Int×Unit=>Zn x.1)) (Zf (fun x:List Int×Int×Unit=>x.1.contains x.2.1))),(247,.pure (preT (fun _:Int×Int×Unit=>true)) (Zf (fun x:Int×Int×Unit=>JS x.1 x.2.1)))]
theorem b9m{G:PV->Prop}(l:List Int)(h:(Go.Pl.preT (fun(x:List Int×Int×Unit)=>Zn x.1) [(.sl 1 false (List.map enc l)),(.int .i64 0)])=true∧(∃ y0:Bool,AV.pv (Zf (fun(x:List Int×Int×Unit)=>List.contains x.1 x.2.1) [(.sl 1 false (List.map enc l)),(.int .i64 0)])=AV.pv (enc y0)∧(if (y0)=true then G ((.tup [(.int .i64 0),(.int .i64 0)]))else(At UY 0 (Za VY G) Uu 0 29 [(4,(.pv (.int .i64 1))),(11,(.pv (.sl 1 false (List.map enc l)))),(12,(.pv (.int .i64 (↑(List.length (List.map enc l)):Int)))),(13,(.pv (.int .i64 0)))] [])))):Zc UY 0 (Za VY G) Uu [] (Yr 29 [enc l]):=Zc.tp (.req (.abs (Bool) (fun YY=>AV.pv (enc YY)) (.ask (.nil) (.nil)))) h (by kernel_rfl)
theorem LG{G:PV->Prop}(l:List Int)(o i:Int)(h:if (decide (i<(↑(List.length l):Int)))=true then(decide (0<=i)&&decide (Int.toNat i<List.length (List.map enc l))&&Enc.sz Int==1)=true∧(∃ y0:Int,AV.pv (PV.rptr (PV.cells (List.getD (List.map enc l) (Int.toNat i) default)))=AV.pv (PV.rptr (PV.cells ((enc) y0)))∧(∃ y1:Int×Int,AV.pv (Zf (fun(x:Int×Int×Unit)=>JS x.1 x.2.1) [(.int .i64 o),(.int .i64 (PV.asInt (List.getD (PV.cells (enc y0)) 0 default)))])=AV.pv (enc y1)∧(if (y1.2 != 0)=true then G ((.tup [(.int .i64 0),(.int .i64 y1.2)]))else(At UY 0 (Za VY G) Uu 0 29 [(4,(.pv (.int .i64 y1.1))),(11,(.pv (.sl 1 false (List.map enc l)))),(12,(.pv (.int .i64 (↑(List.length l):Int)))),(13,(.pv (.int .i64 (IntKind.wrap IntKind.i64 (i+1)))))] []))))else(G ((.tup [(.int .i64 o),(.int .i64 0)])))):At UY 0 (Za VY G) Uu 0 29 [(4,.pv (.int .i64 o)),(11,.pv (enc l)),(12,.pv (.int .i64 l.length)),(13,.pv (.int .i64 i))] []:=At.tp (.lit (.ask (.req (.abs (Int) (fun YY=>AV.pv (PV.rptr (PV.cells ((enc) YY)))) (.lit (.lit (.abs (Int×Int) (fun YY=>AV.pv (enc YY)) (.lit (.ask (.nil) (.lit (.nil))))))))) (.nil))) h (by kernel_rfl)
def ZL:IC:=(.seq (.reg [⟨(some 4),(.mv (.c (.int .i64 0))),0,none⟩,⟨(some 5),(.mv (.c (.int .i64 0))),0,none⟩] none) (.seq (.seq (.reg [⟨(some 20),(.mv (.t 0)),0,none⟩,⟨(some 21),(.call (.c (.fn 122)) [(.t 20)]),0,none⟩,⟨(some 22),(.un .not (.t 21)),2,none⟩] none) (.cond (.t 22) (.seq (.reg [⟨(some 4),(.mv (.c (.int .i64 0))),0,none⟩,⟨(some 5),(.mv (.c (.int .i64 1))),0,none⟩] none) .ret) .skip)) (.seq (.reg [⟨(some 6),(.mv (.c (.sl 0 true []))),0,none⟩] none) (.seq (.reg [⟨(some 7),(.mv (.c (.bool false))),0,none⟩] none) (.seq (.seq (.reg [⟨(some 23),(.mv (.t 0)),0,none⟩,⟨(some 24),(.len 1 (.t 23)),0,none⟩,⟨(some 25),(.mv (.c (.int .i64 0))),0,none⟩] none) (.block 0 (.loop [25,24,23,1,7,6] (.seq (.reg [⟨(some 26),(.bin .num .lss (.t 25) (.t 24)),0,none⟩] none) (.seq (.cond (.t 26) .skip (.exit 0)) (.seq (.block 1 (.seq (.reg [⟨(some 27),(.iaddr 2 (.t 23) (.t 25)),0,none⟩,⟨(some 28),(.load true [(.int .i64),(.sl 1)] (.t 27)),0,none⟩,⟨(some 9),(.alloc (.agg [(.int .i64 0),(.sl 0 true [])])),0,none⟩,⟨none,(.store 2 (.t 9) (.t 28)),1,none⟩] none) (.seq (.reg [⟨(some 29),(.faddr 0 (.t 9)),0,none⟩,⟨(some 30),(.load false [(.int .i64)] (.t 29)),0,none⟩,⟨(some 31),(.bslice 3 1 1 (.int .i64 0) [(0,(.t 30))]),0,none⟩,⟨(some 10),(.mv (.t 31)),1,none⟩] none) (.seq (.seq (.reg [⟨(some 32),(.faddr 1 (.t 9)),0,none⟩,⟨(some 33),(.load false [(.sl 1)] (.t 32)),0,none⟩,⟨(some 34),(.len 1 (.t 33)),0,none⟩,⟨(some 35),(.mv (.c (.int .i64 0))),0,none⟩] none) (.block 2 (.loop [35,34,33,1,7,10,6,25,24,23] (.seq (.reg [⟨(some 36),(.bin .num .lss (.t 35) (.t 34)),0,none⟩] none) (.seq (.cond (.t 36) .skip (.exit 2)) (.seq (.block 3 (.seq (.reg [⟨(some 37),(.iaddr 1 (.t 33) (.t 35)),0,none⟩,⟨(some 38),(.load false [.str] (.t 37)),0,none⟩,⟨(some 12),(.alloc (.str [])),0,none⟩,⟨none,(.store 1 (.t 12) (.t 38)),1,none⟩] none) (.seq (.reg [⟨(some 39),(.mv (.t 1)),0,none⟩,⟨(some 40),(.mkfn 188 [] [(.t 12)]),0,none⟩,⟨(some 41),(.call (.c (.fn 109)) [(.t 39),(.t 40)]),0,none⟩,⟨(some 13),(.mv (.t 41)),2,none⟩] none) (.seq (.seq (.reg [⟨(some 42),(.mv (.t 13)),0,none⟩,⟨(some 43),(.bin .num .lss (.t 42) (.c (.int .i64 0))),0,none⟩] none) (.cond (.t 43) (.seq (.reg [⟨(some 4),(.mv (.c (.int .i64 0))),0,none⟩,⟨(some 5),(.mv (.c (.int .i64 7))),0,none⟩] none) .ret) .skip)) (.seq (.reg [⟨(some 44),(.mv (.t 1)),0,none⟩,⟨(some 45),(.mv (.t 13)),0,none⟩,⟨(some 46),(.iaddr 2 (.t 44) (.t 45)),0,none⟩,⟨(some 47),(.faddr 1 (.t 46)),0,none⟩,⟨(some 48),(.load false [(.int .i64)] (.t 47)),0,none⟩,⟨(some 14),(.mv (.t 48)),0,none⟩] none) (.seq (.reg [⟨(some 49),(.mv (.t 7)),0,none⟩,⟨(some 50),(.mv (.t 49)),0,none⟩,⟨(some 51),(.mv (.t 14)),0,(some (50,false))⟩,⟨(some 52),(.bin .num .lss (.t 51) (.c (.int .i64 (-4611686018427387904)))),0,(some (50,false))⟩,⟨(some 53),(.pick (.t 50) (.c (.bool true)) (.t 52)),0,none⟩,⟨(some 54),(.mv (.t 53)),0,none⟩,⟨(some 55),(.mv (.t 14)),0,(some (54,false))⟩,⟨(some 56),(.bin .num .gtr (.t 55) (.c (.int .i64 4611686018427387904))),0,(some (54,false))⟩,⟨(some 57),(.pick (.t 54) (.c (.bool true)) (.t 56)),0,none⟩,⟨(some 7),(.mv (.t 57)),0,none⟩] none) (.reg [⟨(some 58),(.mv (.t 10)),0,none⟩,⟨(some 59),(.mv (.t 14)),0,none⟩,⟨(some 60),(.bslice 3 1 1 (.int .i64 0) [(0,(.t 59))]),0,none⟩,⟨(some 61),(.append 3 1 8 (.t 58) (.t 60)),1,none⟩,⟨(some 10),(.mv (.t 61)),2,none⟩] none))))))) (.reg [⟨(some 62),(.bin .num .add (.t 35) (.c (.int .i64 1))),0,none⟩,⟨(some 35),(.mv (.t 62)),0,none⟩] none))))))) (.reg [⟨(some 63),(.mv (.t 6)),0,none⟩,⟨(some 64),(.mv (.t 10)),0,none⟩,⟨(some 65),(.bslice 34 1 1 (.sl 0 true []) [(0,(.t 64))]),0,none⟩,⟨(some 66),(.append 34 1 24 (.t 63) (.t 65)),1,none⟩,⟨(some 6),(.mv (.t 66)),2,none⟩] none))))) (.reg [⟨(some 67),(.bin .num .add (.t 25) (.c (.int .i64 1))),0,none⟩,⟨(some 25),(.mv (.t 67)),0,none⟩] none))))))) (.seq (.seq (.reg [⟨(some 68),(.mv (.t 7)),0,none⟩] none) (.cond (.t 68) (.seq (.reg [⟨(some 4),(.mv (.c (.int .i64 0))),0,none⟩,⟨(some 5),(.mv (.c (.int .i64 2))),0,none⟩] none) .ret) .skip)) (.seq (.reg [⟨(some 15),(.mv (.c (.sl 0 true []))),0,none⟩] none) (.seq (.seq (.reg [⟨(some 69),(.mv (.t 6)),0,none⟩,⟨(some 70),(.len 1 (.t 69)),0,none⟩,⟨(some 71),(.mv (.c (.int .i64 0))),0,none⟩] none) (.block 4 (.loop [71,70,69,15] (.seq (.reg [⟨(some 72),(.bin .num .lss (.t 71) (.t 70)),0,none⟩] none) (.seq (.cond (.t 72) .skip (.exit 4)) (.seq (.block 5 (.seq (.reg [⟨(some 73),(.iaddr 1 (.t 69) (.t 71)),0,none⟩,⟨(some 74),(.load false [(.sl 1)] (.t 73)),0,none⟩,⟨(some 17),(.mv (.t 74)),0,none⟩] none) (.seq (.reg [⟨(some 76),(.mv (.t 17)),0,none⟩,⟨(some 77),(.call (.c (.fn 189)) [(.t 76)]),0,none⟩,⟨(some 75),(.mv (.t 77)),2,none⟩,⟨(some 78),(.extract (.t 75) 0),2,none⟩,⟨(some 79),(.extract (.t 75) 1),2,none⟩,⟨(some 18),(.mv (.t 78)),2,none⟩,⟨(some 19),(.mv (.t 79)),2,none⟩] none) (.seq (.seq (.reg [⟨(some 80),(.mv (.t 19)),0,none⟩,⟨(some 81),(.bin .num .neq (.t 80) (.c (.int .i64 0))),0,none⟩] none) (.cond (.t 81) (.seq (.reg [⟨(some 4),(.mv (.c (.int .i64 0))),0,none⟩,⟨(some 5),(.mv (.c (.int .i64 2))),0,none⟩] none) .ret) .skip)) (.reg [⟨(some 82),(.mv (.t 15)),0,none⟩,⟨(some 83),(.mv (.t 18)),0,none⟩,⟨(some 84),(.bslice 3 1 1 (.int .i64 0) [(0,(.t 83))]),0,none⟩,⟨(some 85),(.append 3 1 8 (.t 82) (.t 84)),1,none⟩,⟨(some 15),(.mv (.t 85)),2,none⟩] none))))) (.reg [⟨(some 86),(.bin .num .add (.t 71) (.c (.int .i64 1))),0,none⟩,⟨(some 71),(.mv (.t 86)),0,none⟩] none))))))) (.seq (.reg [⟨(some 87),(.mv (.t 15)),0,none⟩,⟨(some 88),(.call (.c (.fn 190)) [(.t 87)]),0,none⟩,⟨(some 89),(.extract (.t 88) 0),2,none⟩,⟨(some 90),(.extract (.t 88) 1),2,none⟩,⟨(some 4),(.mv (.t 89)),2,none⟩,⟨(some 5),(.mv (.t 90)),2,none⟩] none) .ret)))))))))
def ZJ:List IRes:=[(.tmp 4),(.tmp 5)]
abbrev a8a:Nat:=91
def ZT:ZK:=Xp [(122,.pure (preT (fun x:List Mono×Unit=>Yf x.1)) (Zf (fun x:List Mono×Unit=>ZC x.1))),(109,.own (VW 188) Ce),(189,.pure (preT (fun x:List Int×Unit=>Zn x.1)) (Zf (fun x:List Int×Unit=>YN x.1))),(190,.pure (preT (fun x:List Int×Unit=>decide (x.1.length<=10000))) (Zf (fun x:List Int×Unit=>XY x.1)))]
theorem b9z{G:PV->Prop}(p:List Mono)(vs:List Coef)(h:(Go.Pl.preT (fun(x:List Mono×Unit)=>Yf x.1) [(.sl 2 false (List.map enc p))])=true∧(∃ y0:Bool,AV.pv (Zf (fun(x:List Mono×Unit)=>ZC x.1) [(.sl 2 false (List.map enc p))])=AV.pv (enc y0)∧(if (!y0)=true then G ((.tup [(.int .i64 0),(.int .i64 1)]))else(At ZT 0 (Za ZJ G) ZL 0 91 [(1,(.pv (.sl 2 false (List.map enc vs)))),(6,(.pv (.sl 0 true []))),(7,(.pv (.bool false))),(23,(.pv (.sl 2 false (List.map enc p)))),(24,(.pv (.int .i64 (↑(List.length (List.map enc p)):Int)))),(25,(.pv (.int .i64 0)))] [])))):Zc ZT 0 (Za ZJ G) ZL [] (Yr 91 [enc p,enc vs]):=Zc.tp (.req (.abs (Bool) (fun YY=>AV.pv (enc YY)) (.ask (.nil) (.nil)))) h (by kernel_rfl)
theorem Rl{G:PV->Prop}(p:List Mono)(vs:List Coef)(bd:Bool)(i:Int)(h:if (decide (i<(↑(List.length p):Int)))=true then(decide (0<=i)&&decide (Int.toNat i<List.length (List.map enc p))&&Enc.sz Mono==2)=true∧(∃ y0:Mono,AV.pv (PV.rptr (PV.cells (List.getD (List.map enc p) (Int.toNat i) default)))=AV.pv (PV.rptr (PV.cells ((enc) y0)))∧(At ZT 0 (Za ZJ G) ZL 1 91 [(1,(.pv (.sl 2 false (List.map enc vs)))),(6,(.pv (.sl 0 true []))),(7,(.pv (.bool bd))),(10,(.row 0 1 0 1)),(23,(.pv (.sl 2 false (List.map enc p)))),(24,(.pv (.int .i64 (↑(List.length p):Int)))),(25,(.pv (.int .i64 i))),(33,(.pv (.sl 1 false (PV.asXs (List.getD (PV.cells (enc y0)) (0+1) default))))),(34,(.pv (.int .i64 (↑(List.length (PV.asXs (List.getD (PV.cells (enc y0)) (0+1) default))):Int)))),(35,(.pv (.int .i64 0)))] [(.obj (.row false 3 1 [(.int .i64 (PV.asInt (List.getD (PV.cells (enc y0)) 0 default)))]))]))else(if (bd)=true then G ((.tup [(.int .i64 0),(.int .i64 2)]))else(At ZT 0 (Za ZJ G) ZL 2 91 [(15,(.pv (.sl 0 true []))),(69,(.pv (.sl 0 true []))),(70,(.pv (.int .i64 0))),(71,(.pv (.int .i64 0)))] []))):At ZT 0 (Za ZJ G) ZL 0 91 [(6,.pv (.sl 0 true [])),(1,.pv (enc vs)),(7,.pv (.bool bd)),(23,.pv (enc p)),(24,.pv (.int .i64 p.length)),(25,.pv (.int .i64 i))] []:=At.tp (.lit (.ask (.req (.abs (Mono) (fun YY=>AV.pv (PV.rptr (PV.cells ((enc) YY)))) (.lit (.lit (.nil))))) (.ask (.nil) (.nil)))) h (by kernel_rfl)
theorem Rb{G:PV->Prop}(p:List Mono)(vs:List Coef)(bd:Bool)(i:Int)(q:Nat)(fs:List (List Int))(h:if (decide (i<(↑(List.length p):Int)))=true then(decide (0<=i)&&decide (Int.toNat i<List.length (List.map enc p))&&Enc.sz Mono==2)=true∧(∃ y0:Mono,AV.pv (PV.rptr (PV.cells (List.getD (List.map enc p) (Int.toNat i) default)))=AV.pv (PV.rptr (PV.cells ((enc) y0)))∧(At ZT 0 (Za ZJ G) ZL 1 91 [(1,(.pv (.sl 2 false (List.map enc vs)))),(6,(.row 0 q 0 q)),(7,(.pv (.bool bd))),(10,(.row 1 1 0 1)),(23,(.pv (.sl 2 false (List.map enc p)))),(24,(.pv (.int .i64 (↑(List.length p):Int)))),(25,(.pv (.int .i64 i))),(33,(.pv (.sl 1 false (PV.asXs (List.getD (PV.cells (enc y0)) (0+1) default))))),(34,(.pv (.int .i64 (↑(List.length (PV.asXs (List.getD (PV.cells (enc y0)) (0+1) default))):Int)))),(35,(.pv (.int .i64 0)))] [(.obj (.row false 34 1 (List.map enc fs))),(.obj (.row false 3 1 [(.int .i64 (PV.asInt (List.getD (PV.cells (enc y0)) 0 default)))]))]))else(if (bd)=true then G ((.tup [(.int .i64 0),(.int .i64 2)]))else(At ZT 0 (Za ZJ G) ZL 2 91 [(15,(.pv (.sl 0 true []))),(69,(.row 0 q 0 q)),(70,(.pv (.int .i64 (↑(q - 0):Int)))),(71,(.pv (.int .i64 0)))] [(.obj (.row false 34 1 (List.map enc fs)))]))):At ZT 0 (Za ZJ G) ZL 0 91 [(6,.row 0 q 0 q),(1,.pv (enc vs)),(7,.pv (.bool bd)),(23,.pv (enc p)),(24,.pv (.int .i64 p.length)),(25,.pv (.int .i64 i))] [.obj (.row false 34 1 (fs.map enc))]:=At.tp (.lit (.ask (.req (.abs (Mono) (fun YY=>AV.pv (PV.rptr (PV.cells ((enc) YY)))) (.lit (.lit (.nil))))) (.ask (.nil) (.nil)))) h (by kernel_rfl)
theorem Rk{G:PV->Prop}(p:List Mono)(vs:List Coef)(bd:Bool)(i j:Int)(ns:List Str)(r:Nat)(l:List Int)(h:if (decide (j<(↑(List.length ns):Int)))=true then(decide (0<=j)&&decide (Int.toNat j<List.length (List.map enc ns))&&Enc.sz Str==1)=true∧(∃ y0:Str,AV.pv (PV.rptr (PV.cells (List.getD (List.map enc ns) (Int.toNat j) default)))=AV.pv (PV.rptr (PV.cells ((enc) y0)))∧((VW 188 [(.pv (.sl 2 false (List.map enc vs))),(.fn 188 [] [(.ptr 0 0)])] [(.box [(.pv (.str (PV.asStr (List.getD (PV.cells (enc y0)) 0 default))))])])=true∧(if (decide (ZE (fun(t:Coef)=>Str.s t.v==PV.asStr (List.getD (PV.cells (enc y0)) 0 default)) (Kb (enc vs))<0))=true then G ((.tup [(.int .i64 0),(.int .i64 7)]))else((decide (0<=ZE (fun(t:Coef)=>Str.s t.v==PV.asStr (List.getD (PV.cells (enc y0)) 0 default)) (Kb (enc vs)))&&decide (Int.toNat (ZE (fun(t:Coef)=>Str.s t.v==PV.asStr (List.getD (PV.cells (enc y0)) 0 default)) (Kb (enc vs)))<List.length (List.map enc vs))&&Enc.sz Coef==2)=true∧(∃ y1:Coef,AV.pv (PV.rptr (PV.cells (List.getD (List.map enc vs) (Int.toNat (ZE (fun(t:Coef)=>Str.s t.v==PV.asStr (List.getD (PV.cells (enc y0)) 0 default)) (Kb (enc vs)))) default)))=AV.pv (PV.rptr (PV.cells ((enc) y1)))∧(if (bd)=true then(List.length (List.map enc l)==r&&r==r&&decide ((r+List.length (List.drop 0 (List.take 1 [Sh.co (Sh.int .i64) (List.getD (List.drop 1 (PV.cells (enc y1))) 0 default)])))*8<=1099511627776)&&decide (r+List.length (List.drop 0 (List.take 1 [Sh.co (Sh.int .i64) (List.getD (List.drop 1 (PV.cells (enc y1))) 0 default)]))<=1099511627776))=true∧(At ZT 0 (Za ZJ G) ZL 1 91 [(1,(.pv (.sl 2 false (List.map enc vs)))),(6,(.pv (.sl 0 true []))),(7,(.pv (.bool true))),(10,(.row 0 (r+List.length (List.drop 0 (List.take 1 [Sh.co (Sh.int .i64) (List.getD (List.drop 1 (PV.cells (enc y1))) 0 default)]))) 0 (r+List.length (List.drop 0 (List.take 1 [Sh.co (Sh.int .i64) (List.getD (List.drop 1 (PV.cells (enc y1))) 0 default)]))))),(23,(.pv (.sl 2 false (List.map enc p)))),(24,(.pv (.int .i64 (↑(List.length p):Int)))),(25,(.pv (.int .i64 i))),(33,(.pv (.sl 1 false (List.map enc ns)))),(34,(.pv (.int .i64 (↑(List.length ns):Int)))),(35,(.pv (.int .i64 (IntKind.wrap IntKind.i64 (j+1)))))] [(.obj (.row false 3 1 (List.map enc l++List.drop 0 (List.take 1 [Sh.co (Sh.int .i64) (List.getD (List.drop 1 (PV.cells (enc y1))) 0 default)]))))])else(if (decide (PV.asInt (List.getD (List.drop 1 (PV.cells (enc y1))) 0 default)<(-4611686018427387904:Int)))=true then(List.length (List.map enc l)==r&&r==r&&decide ((r+List.length (List.drop 0 (List.take 1 [Sh.co (Sh.int .i64) (List.getD (List.drop 1 (PV.cells (enc y1))) 0 default)])))*8<=1099511627776)&&decide (r+List.length (List.drop 0 (List.take 1 [Sh.co (Sh.int .i64) (List.getD (List.drop 1 (PV.cells (enc y1))) 0 default)]))<=1099511627776))=true∧(At ZT 0 (Za ZJ G) ZL 1 91 [(1,(.pv (.sl 2 false (List.map enc vs)))),(6,(.pv (.sl 0 true []))),(7,(.pv (.bool true))),(10,(.row 0 (r+List.length (List.drop 0 (List.take 1 [Sh.co (Sh.int .i64) (List.getD (List.drop 1 (PV.cells (enc y1))) 0 default)]))) 0 (r+List.length (List.drop 0 (List.take 1 [Sh.co (Sh.int .i64) (List.getD (List.drop 1 (PV.cells (enc y1))) 0 default)]))))),(23,(.pv (.sl 2 false (List.map enc p)))),(24,(.pv (.int .i64 (↑(List.length p):Int)))),(25,(.pv (.int .i64 i))),(33,(.pv (.sl 1 false (List.map enc ns)))),(34,(.pv (.int .i64 (↑(List.length ns):Int)))),(35,(.pv (.int .i64 (IntKind.wrap IntKind.i64 (j+1)))))] [(.obj (.row false 3 1 (List.map enc l++List.drop 0 (List.take 1 [Sh.co (Sh.int .i64) (List.getD (List.drop 1 (PV.cells (enc y1))) 0 default)]))))])else((List.length (List.map enc l)==r&&r==r&&decide ((r+List.length (List.drop 0 (List.take 1 [Sh.co (Sh.int .i64) (List.getD (List.drop 1 (PV.cells (enc y1))) 0 default)])))*8<=1099511627776)&&decide (r+List.length (List.drop 0 (List.take 1 [Sh.co (Sh.int .i64) (List.getD (List.drop 1 (PV.cells (enc y1))) 0 default)]))<=1099511627776))=true∧(At ZT 0 (Za ZJ G) ZL 1 91 [(1,(.pv (.sl 2 false (List.map enc vs)))),(6,(.pv (.sl 0 true []))),(7,(.pv (.bool (decide (PV.asInt (List.getD (List.drop 1 (PV.cells (enc y1))) 0 default)>4611686018427387904))))),(10,(.row 0 (r+List.length (List.drop 0 (List.take 1 [Sh.co (Sh.int .i64) (List.getD (List.drop 1 (PV.cells (enc y1))) 0 default)]))) 0 (r+List.length (List.drop 0 (List.take 1 [Sh.co (Sh.int .i64) (List.getD (List.drop 1 (PV.cells (enc y1))) 0 default)]))))),(23,(.pv (.sl 2 false (List.map enc p)))),(24,(.pv (.int .i64 (↑(List.length p):Int)))),(25,(.pv (.int .i64 i))),(33,(.pv (.sl 1 false (List.map enc ns)))),(34,(.pv (.int .i64 (↑(List.length ns):Int)))),(35,(.pv (.int .i64 (IntKind.wrap IntKind.i64 (j+1)))))] [(.obj (.row false 3 1 (List.map enc l++List.drop 0 (List.take 1 [Sh.co (Sh.int .i64) (List.getD (List.drop 1 (PV.cells (enc y1))) 0 default)]))))])))))))))else((List.length (List.map enc l)==r)=true∧(At ZT 0 (Za ZJ G) ZL 0 91 [(1,(.pv (.sl 2 false (List.map enc vs)))),(6,(.row 0 1 0 1)),(7,(.pv (.bool bd))),(23,(.pv (.sl 2 false (List.map enc p)))),(24,(.pv (.int .i64 (↑(List.length p):Int)))),(25,(.pv (.int .i64 (IntKind.wrap IntKind.i64 (i+1)))))] [(.obj (.row false 34 1 [(.sl 1 false (List.drop 0 (List.take r (List.map enc l))))]))]))):At ZT 0 (Za ZJ G) ZL 1 91 [(6,.pv (.sl 0 true [])),(1,.pv (enc vs)),(7,.pv (.bool bd)),(23,.pv (enc p)),(24,.pv (.int .i64 p.length)),(25,.pv (.int .i64 i)),(33,.pv (enc ns)),(34,.pv (.int .i64 ns.length)),(35,.pv (.int .i64 j)),(10,.row 0 r 0 r)] [.obj (.row false 3 1 (l.map enc))]:=At.tp (.lit (.ask (.req (.abs (Str) (fun YY=>AV.pv (PV.rptr (PV.cells ((enc) YY)))) (.lit (.req (.keep (.lit (.ask (.nil) (.req (.abs (Coef) (fun YY=>AV.pv (PV.rptr (PV.cells ((enc) YY)))) (.lit (.ask (.lit (.lit (.lit (.lit (.lit (.lit (.lit (.req (.lit (.nil)))))))))) (.lit (.lit (.lit (.ask (.lit (.lit (.lit (.lit (.req (.lit (.nil))))))) (.lit (.lit (.lit (.lit (.lit (.req (.lit (.nil))))))))))))))))))))))) (.req (.lit (.lit (.lit (.lit (.lit (.lit (.nil)))))))))) h (by kernel_rfl)
theorem Ri{G:PV->Prop}(p:List Mono)(vs:List Coef)(bd:Bool)(i j:Int)(ns:List Str)(r:Nat)(l:List Int)(q:Nat)(fs:List (List Int))(h:if (decide (j<(↑(List.length ns):Int)))=true then(decide (0<=j)&&decide (Int.toNat j<List.length (List.map enc ns))&&Enc.sz Str==1)=true∧(∃ y0:Str,AV.pv (PV.rptr (PV.cells (List.getD (List.map enc ns) (Int.toNat j) default)))=AV.pv (PV.rptr (PV.cells ((enc) y0)))∧((VW 188 [(.pv (.sl 2 false (List.map enc vs))),(.fn 188 [] [(.ptr 0 0)])] [(.box [(.pv (.str (PV.asStr (List.getD (PV.cells (enc y0)) 0 default))))])])=true∧(if (decide (ZE (fun(t:Coef)=>Str.s t.v==PV.asStr (List.getD (PV.cells (enc y0)) 0 default)) (Kb (enc vs))<0))=true then G ((.tup [(.int .i64 0),(.int .i64 7)]))else((decide (0<=ZE (fun(t:Coef)=>Str.s t.v==PV.asStr (List.getD (PV.cells (enc y0)) 0 default)) (Kb (enc vs)))&&decide (Int.toNat (ZE (fun(t:Coef)=>Str.s t.v==PV.asStr (List.getD (PV.cells (enc y0)) 0 default)) (Kb (enc vs)))<List.length (List.map enc vs))&&Enc.sz Coef==2)=true∧(∃ y1:Coef,AV.pv (PV.rptr (PV.cells (List.getD (List.map enc vs) (Int.toNat (ZE (fun(t:Coef)=>Str.s t.v==PV.asStr (List.getD (PV.cells (enc y0)) 0 default)) (Kb (enc vs)))) default)))=AV.pv (PV.rptr (PV.cells ((enc) y1)))∧(if (bd)=true then(List.length (List.map enc l)==r&&r==r&&decide ((r+List.length (List.drop 0 (List.take 1 [Sh.co (Sh.int .i64) (List.getD (List.drop 1 (PV.cells (enc y1))) 0 default)])))*8<=1099511627776)&&decide (r+List.length (List.drop 0 (List.take 1 [Sh.co (Sh.int .i64) (List.getD (List.drop 1 (PV.cells (enc y1))) 0 default)]))<=1099511627776))=true∧(At ZT 0 (Za ZJ G) ZL 1 91 [(1,(.pv (.sl 2 false (List.map enc vs)))),(6,(.row 0 q 0 q)),(7,(.pv (.bool true))),(10,(.row 1 (r+List.length (List.drop 0 (List.take 1 [Sh.co (Sh.int .i64) (List.getD (List.drop 1 (PV.cells (enc y1))) 0 default)]))) 0 (r+List.length (List.drop 0 (List.take 1 [Sh.co (Sh.int .i64) (List.getD (List.drop 1 (PV.cells (enc y1))) 0 default)]))))),(23,(.pv (.sl 2 false (List.map enc p)))),(24,(.pv (.int .i64 (↑(List.length p):Int)))),(25,(.pv (.int .i64 i))),(33,(.pv (.sl 1 false (List.map enc ns)))),(34,(.pv (.int .i64 (↑(List.length ns):Int)))),(35,(.pv (.int .i64 (IntKind.wrap IntKind.i64 (j+1)))))] [(.obj (.row false 34 1 (List.map enc fs))),(.obj (.row false 3 1 (List.map enc l++List.drop 0 (List.take 1 [Sh.co (Sh.int .i64) (List.getD (List.drop 1 (PV.cells (enc y1))) 0 default)]))))])else(if (decide (PV.asInt (List.getD (List.drop 1 (PV.cells (enc y1))) 0 default)<(-4611686018427387904:Int)))=true then(List.length (List.map enc l)==r&&r==r&&decide ((r+List.length (List.drop 0 (List.take 1 [Sh.co (Sh.int .i64) (List.getD (List.drop 1 (PV.cells (enc y1))) 0 default)])))*8<=1099511627776)&&decide (r+List.length (List.drop 0 (List.take 1 [Sh.co (Sh.int .i64) (List.getD (List.drop 1 (PV.cells (enc y1))) 0 default)]))<=1099511627776))=true∧(At ZT 0 (Za ZJ G) ZL 1 91 [(1,(.pv (.sl 2 false (List.map enc vs)))),(6,(.row 0 q 0 q)),(7,(.pv (.bool true))),(10,(.row 1 (r+List.length (List.drop 0 (List.take 1 [Sh.co (Sh.int .i64) (List.getD (List.drop 1 (PV.cells (enc y1))) 0 default)]))) 0 (r+List.length (List.drop 0 (List.take 1 [Sh.co (Sh.int .i64) (List.getD (List.drop 1 (PV.cells (enc y1))) 0 default)]))))),(23,(.pv (.sl 2 false (List.map enc p)))),(24,(.pv (.int .i64 (↑(List.length p):Int)))),(25,(.pv (.int .i64 i))),(33,(.pv (.sl 1 false (List.map enc ns)))),(34,(.pv (.int .i64 (↑(List.length ns):Int)))),(35,(.pv (.int .i64 (IntKind.wrap IntKind.i64 (j+1)))))] [(.obj (.row false 34 1 (List.map enc fs))),(.obj (.row false 3 1 (List.map enc l++List.drop 0 (List.take 1 [Sh.co (Sh.int .i64) (List.getD (List.drop 1 (PV.cells (enc y1))) 0 default)]))))])else((List.length (List.map enc l)==r&&r==r&&decide ((r+List.length (List.drop 0 (List.take 1 [Sh.co (Sh.int .i64) (List.getD (List.drop 1 (PV.cells (enc y1))) 0 default)])))*8<=1099511627776)&&decide (r+List.length (List.drop 0 (List.take 1 [Sh.co (Sh.int .i64) (List.getD (List.drop 1 (PV.cells (enc y1))) 0 default)]))<=1099511627776))=true∧(At ZT 0 (Za ZJ G) ZL 1 91 [(1,(.pv (.sl 2 false (List.map enc vs)))),(6,(.row 0 q 0 q)),(7,(.pv (.bool (decide (PV.asInt (List.getD (List.drop 1 (PV.cells (enc y1))) 0 default)>4611686018427387904))))),(10,(.row 1 (r+List.length (List.drop 0 (List.take 1 [Sh.co (Sh.int .i64) (List.getD (List.drop 1 (PV.cells (enc y1))) 0 default)]))) 0 (r+List.length (List.drop 0 (List.take 1 [Sh.co (Sh.int .i64) (List.getD (List.drop 1 (PV.cells (enc y1))) 0 default)]))))),(23,(.pv (.sl 2 false (List.map enc p)))),(24,(.pv (.int .i64 (↑(List.length p):Int)))),(25,(.pv (.int .i64 i))),(33,(.pv (.sl 1 false (List.map enc ns)))),(34,(.pv (.int .i64 (↑(List.length ns):Int)))),(35,(.pv (.int .i64 (IntKind.wrap IntKind.i64 (j+1)))))] [(.obj (.row false 34 1 (List.map enc fs))),(.obj (.row false 3 1 (List.map enc l++List.drop 0 (List.take 1 [Sh.co (Sh.int .i64) (List.getD (List.drop 1 (PV.cells (enc y1))) 0 default)]))))])))))))))else((List.length (List.map enc l)==r)=true∧((List.length (List.map enc fs)==q&&q==q&&decide ((q+List.length (List.drop 0 (List.take 1 [PV.sl 1 false (List.drop 0 (List.take r (List.map enc l)))])))*24<=1099511627776)&&decide (q+List.length (List.drop 0 (List.take 1 [PV.sl 1 false (List.drop 0 (List.take r (List.map enc l)))]))<=1099511627776))=true∧(At ZT 0 (Za ZJ G) ZL 0 91 [(1,(.pv (.sl 2 false (List.map enc vs)))),(6,(.row 0 (q+List.length (List.drop 0 (List.take 1 [PV.sl 1 false (List.drop 0 (List.take r (List.map enc l)))]))) 0 (q+List.length (List.drop 0 (List.take 1 [PV.sl 1 false (List.drop 0 (List.take r (List.map enc l)))]))))),(7,(.pv (.bool bd))),(23,(.pv (.sl 2 false (List.map enc p)))),(24,(.pv (.int .i64 (↑(List.length p):Int)))),(25,(.pv (.int .i64 (IntKind.wrap IntKind.i64 (i+1)))))] [(.obj (.row false 34 1 (List.map enc fs++List.drop 0 (List.take 1 [PV.sl 1 false (List.drop 0 (List.take r (List.map enc l)))]))))])))):At ZT 0 (Za ZJ G) ZL 1 91 [(6,.row 0 q 0 q),(1,.pv (enc vs)),(7,.pv (.bool bd)),(23,.pv (enc p)),(24,.pv (.int .i64 p.length)),(25,.pv (.int .i64 i)),(33,.pv (enc ns)),(34,.pv (.int .i64 ns.length)),(35,.pv (.int .i64 j)),(10,.row 1 r 0 r)] [.obj (.row false 34 1 (fs.map enc)),.obj (.row false 3 1 (l.map enc))]:=At.tp (.lit (.ask (.req (.abs (Str) (fun YY=>AV.pv (PV.rptr (PV.cells ((enc) YY)))) (.lit (.req (.keep (.lit (.ask (.nil) (.req (.abs (Coef) (fun YY=>AV.pv (PV.rptr (PV.cells ((enc) YY)))) (.lit (.ask (.lit (.lit (.lit (.lit (.lit (.lit (.lit (.req (.lit (.nil)))))))))) (.lit (.lit (.lit (.ask (.lit (.lit (.lit (.lit (.req (.lit (.nil))))))) (.lit (.lit (.lit (.lit (.lit (.req (.lit (.nil))))))))))))))))))))))) (.req (.lit (.lit (.req (.lit (.nil)))))))) h (by kernel_rfl)
theorem a2u{G:PV->Prop}(p:List Mono)(vs:List Coef)(i:Int)(q:Nat)(fs:List (List Int))(h:if (decide (i<(↑q:Int)))=true then(decide (0<=i)&&decide (0+Int.toNat i<q)&&List.length (List.map enc fs)==q)=true∧((List.length (List.map enc fs)==q&&decide (0+Int.toNat i<List.length (List.map enc fs)))=true∧((decide (0+List.length [Sh.sl 1]<=List.length (PV.cells (List.getD (List.map enc fs) (0+Int.toNat i) default)))&&XW (PV.cells (List.getD (List.map enc fs) (0+Int.toNat i) default)) 0 [Sh.sl 1])=true∧((Go.Pl.preT (fun(x:List Int×Unit)=>Zn x.1) [(.sl 1 (PV.asT (List.getD (PV.cells (List.getD (List.map enc fs) (0+Int.toNat i) default)) 0 default)) (PV.asXs (List.getD (PV.cells (List.getD (List.map enc fs) (0+Int.toNat i) default)) 0 default)))])=true∧(∃ y0:Int×Int,AV.pv (Zf (fun(x:List Int×Unit)=>YN x.1) [(.sl 1 (PV.asT (List.getD (PV.cells (List.getD (List.map enc fs) (0+Int.toNat i) default)) 0 default)) (PV.asXs (List.getD (PV.cells (List.getD (List.map enc fs) (0+Int.toNat i) default)) 0 default)))])=AV.pv (enc y0)∧(if (y0.2 != 0)=true then G ((.tup [(.int .i64 0),(.int .i64 2)]))else(At ZT 0 (Za ZJ G) ZL 2 91 [(15,(.row 0 1 0 1)),(69,(.row 1 q 0 q)),(70,(.pv (.int .i64 (↑q:Int)))),(71,(.pv (.int .i64 (IntKind.wrap IntKind.i64 (i+1)))))] [(.obj (.row false 3 1 [(.int .i64 y0.1)])),(.obj (.row false 34 1 (List.map enc fs)))]))))))else(∃ y1:Int×Int,AV.pv (Zf (fun(x:List Int×Unit)=>XY x.1) [(.sl 0 true [])])=AV.pv (enc y1)∧(G ((.tup [(.int .i64 y1.1),(.int .i64 y1.2)]))))):At ZT 0 (Za ZJ G) ZL 2 91 [(15,.pv (.sl 0 true [])),(69,.row 0 q 0 q),(70,.pv (.int .i64 q)),(71,.pv (.int .i64 i))] [.obj (.row false 34 1 (fs.map enc))]:=At.tp (.lit (.ask (.req (.keep (.req (.req (.req (.abs (Int×Int) (fun YY=>AV.pv (enc YY)) (.lit (.ask (.nil) (.lit (.lit (.lit (.lit (.lit (.lit (.nil))))))))))))))) (.lit (.abs (Int×Int) (fun YY=>AV.pv (enc YY)) (.nil))))) h (by kernel_rfl)
theorem Tt{G:PV->Prop}(p:List Mono)(vs:List Coef)(i:Int)(q:Nat)(fs:List (List Int))(r:Nat)(ps:List Int)(h:if (decide (i<(↑q:Int)))=true then(decide (0<=i)&&decide (0+Int.toNat i<q)&&List.length (List.map enc fs)==q)=true∧((List.length (List.map enc fs)==q&&decide (0+Int.toNat i<List.length (List.map enc fs)))=true∧((decide (0+List.length [Sh.sl 1]<=List.length (PV.cells (List.getD (List.map enc fs) (0+Int.toNat i) default)))&&XW (PV.cells (List.getD (List.map enc fs) (0+Int.toNat i) default)) 0 [Sh.sl 1])=true∧((Go.Pl.preT (fun(x:List Int×Unit)=>Zn x.1) [(.sl 1 (PV.asT (List.getD (PV.cells (List.getD (List.map enc fs) (0+Int.toNat i) default)) 0 default)) (PV.asXs (List.getD (PV.cells (List.getD (List.map enc fs) (0+Int.toNat i) default)) 0 default)))])=true∧(∃ y0:Int×Int,AV.pv (Zf (fun(x:List Int×Unit)=>YN x.1) [(.sl 1 (PV.asT (List.getD (PV.cells (List.getD (List.map enc fs) (0+Int.toNat i) default)) 0 default)) (PV.asXs (List.getD (PV.cells (List.getD (List.map enc fs) (0+Int.toNat i) default)) 0 default)))])=AV.pv (enc y0)∧(if (y0.2 != 0)=true then G ((.tup [(.int .i64 0),(.int .i64 2)]))else((List.length (List.map enc ps)==r&&r==r&&decide ((r+List.length (List.drop 0 (List.take 1 [enc y0.1])))*8<=1099511627776)&&decide (r+List.length (List.drop 0 (List.take 1 [enc y0.1]))<=1099511627776))=true∧(At ZT 0 (Za ZJ G) ZL 2 91 [(15,(.row 0 (r+List.length (List.drop 0 (List.take 1 [enc y0.1]))) 0 (r+List.length (List.drop 0 (List.take 1 [enc y0.1]))))),(69,(.row 1 q 0 q)),(70,(.pv (.int .i64 (↑q:Int)))),(71,(.pv (.int .i64 (IntKind.wrap IntKind.i64 (i+1)))))] [(.obj (.row false 3 1 (List.map enc ps++List.drop 0 (List.take 1 [enc y0.1])))),(.obj (.row false 34 1 (List.map enc fs)))])))))))else((List.length (List.map enc ps)==r)=true∧((Go.Pl.preT (fun(x:List Int×Unit)=>decide (List.length x.1<=10000)) [(.sl 1 false (List.drop 0 (List.take r (List.map enc ps))))])=true∧(∃ y1:Int×Int,AV.pv (Zf (fun(x:List Int×Unit)=>XY x.1) [(.sl 1 false (List.drop 0 (List.take r (List.map enc ps))))])=AV.pv (enc y1)∧(G ((.tup [(.int .i64 y1.1),(.int .i64 y1.2)]))))))):At ZT 0 (Za ZJ G) ZL 2 91 [(15,.row 0 r 0 r),(69,.row 1 q 0 q),(70,.pv (.int .i64 q)),(71,.pv (.int .i64 i))] [.obj (.row false 3 1 (ps.map enc)),.obj (.row false 34 1 (fs.map enc))]:=At.tp (.lit (.ask (.req (.keep (.req (.req (.req (.abs (Int×Int) (fun YY=>AV.pv (enc YY)) (.lit (.ask (.nil) (.lit (.lit (.req (.lit (.nil))))))))))))) (.req (.req (.abs (Int×Int) (fun YY=>AV.pv (enc YY)) (.nil)))))) h (by kernel_rfl)
theorem a5t{G:PV->Prop}(p:List Mono)(vs:List Coef)(h : ∃ y0:Int×Int,AV.pv (Zf (fun(x:List Int×Unit)=>XY x.1) [(.sl 0 true [])])=AV.pv (enc y0)∧(G ((.tup [(.int .i64 y0.1),(.int .i64 y0.2)])))):At ZT 0 (Za ZJ G) ZL 2 91 [(15,.pv (.sl 0 true [])),(69,.pv (.sl 0 true [])),(70,.pv (.int .i64 0)),(71,.pv (.int .i64 0))] []:=At.tp (.lit (.lit (.lit (.abs (Int×Int) (fun YY=>AV.pv (enc YY)) (.nil))))) h (by kernel_rfl)
def CK:IC:=(.reg [⟨(some 4),(.load false [(.sl 1)] (.t 1)),0,none⟩,⟨(some 5),(.mv (.t 0)),0,none⟩,⟨(some 6),(.bin .num .shr (.t 5) (.c (.int .u64 31))),0,none⟩,⟨(some 7),(.bslice 3 1 1 (.int .i64 0) [(0,(.t 6))]),0,none⟩,⟨(some 8),(.append 3 1 8 (.t 4) (.t 7)),1,none⟩,⟨(some 9),(.load false [(.sl 1)] (.t 2)),2,none⟩,⟨(some 10),(.mv (.t 0)),2,none⟩,⟨(some 11),(.bin .num .and (.t 10) (.c (.int .i64 2147483647))),2,none⟩,⟨(some 12),(.bslice 3 1 1 (.int .i64 0) [(0,(.t 11))]),2,none⟩,⟨(some 13),(.append 3 1 8 (.t 9) (.t 12)),3,none⟩,⟨none,(.store 1 (.t 1) (.t 8)),4,none⟩,⟨none,(.store 1 (.t 2) (.t 13)),4,none⟩] (some [[],[],[1],[2,1],[0,3,2,1],[],[],[6],[7,6],[5,8,4,7,6,0,3,2,1],[4,9,0,1,2,3,5,8,7,6],[9,10,0,1,2,3,4,5,6,7,8]]))
def CG:List IRes:=[]
abbrev b8z:Nat:=14
def NG:ZK:=Xp []
theorem c4k{G:AV×List AObj×List AObj->Prop}(n:Int)(h:G (((.tup []),([(.box [(.row 2 1 0 1)]),(.box [(.row 3 1 0 1)])],[(.row false 3 1 [(.int .i64 (Int.fdiv n (2 ^ min (Int.toNat 31) (IntKind.bits IntKind.i64))))]),(.row false 3 1 [(.int .i64 (IntKind.wrap IntKind.i64 (↑(BitVec.toNat (BitVec.ofInt (IntKind.bits IntKind.i64) n &&& BitVec.ofInt (IntKind.bits IntKind.i64) 2147483647)):Int)))])])))):Zc NG 2 (Zl 2 CG G) CK [] (YR 14 [.pv (.int .i64 n),.ptr 0 0,.ptr 1 0] [.box [.pv (.sl 0 true [])],.box [.pv (.sl 0 true [])]]):=Zc.to (.lit (.lit (.lit (.lit (.lit (.lit (.lit (.lit (.lit (.lit (.lit (.lit (.nil))))))))))))) h (by kernel_rfl)
theorem c6s{G:AV×List AObj×List AObj->Prop}(n:Int)(q:Nat)(xs ys:List PV)(h:(List.length xs==q&&q==q&&decide ((q+List.length (List.drop 0 (List.take 1 [PV.int .i64 (Int.fdiv n (2 ^ min (Int.toNat 31) (IntKind.bits IntKind.i64)))])))*8<=1099511627776)&&decide (q+List.length (List.drop 0 (List.take 1 [PV.int .i64 (Int.fdiv n (2 ^ min (Int.toNat 31) (IntKind.bits IntKind.i64)))]))<=1099511627776))=true∧((List.length ys==q&&q==q&&decide ((q+List.length (List.drop 0 (List.take 1 [PV.int .i64 (IntKind.wrap IntKind.i64 (↑(BitVec.toNat (BitVec.ofInt (IntKind.bits IntKind.i64) n &&& BitVec.ofInt (IntKind.bits IntKind.i64) 2147483647)):Int))])))*8<=1099511627776)&&decide (q+List.length (List.drop 0 (List.take 1 [PV.int .i64 (IntKind.wrap IntKind.i64 (↑(BitVec.toNat (BitVec.ofInt (IntKind.bits IntKind.i64) n &&& BitVec.ofInt (IntKind.bits IntKind.i64) 2147483647)):Int))]))<=1099511627776))=true∧(G (((.tup []),([(.box [(.row 2 (q+List.length (List.drop 0 (List.take 1 [PV.int .i64 (Int.fdiv n (2 ^ min (Int.toNat 31) (IntKind.bits IntKind.i64)))]))) 0 (q+List.length (List.drop 0 (List.take 1 [PV.int .i64 (Int.fdiv n (2 ^ min (Int.toNat 31) (IntKind.bits IntKind.i64)))]))))]),(.box [(.row 3 (q+List.length (List.drop 0 (List.take 1 [PV.int .i64 (IntKind.wrap IntKind.i64 (↑(BitVec.toNat (BitVec.ofInt (IntKind.bits IntKind.i64) n &&& BitVec.ofInt (IntKind.bits IntKind.i64) 2147483647)):Int))]))) 0 (q+List.length (List.drop 0 (List.take 1 [PV.int .i64 (IntKind.wrap IntKind.i64 (↑(BitVec.toNat (BitVec.ofInt (IntKind.bits IntKind.i64) n &&& BitVec.ofInt (IntKind.bits IntKind.i64) 2147483647)):Int))]))))]),(.row false 3 1 (xs++List.drop 0 (List.take 1 [PV.int .i64 (Int.fdiv n (2 ^ min (Int.toNat 31) (IntKind.bits IntKind.i64)))]))),(.row false 3 1 (ys++List.drop 0 (List.take 1 [PV.int .i64 (IntKind.wrap IntKind.i64 (↑(BitVec.toNat (BitVec.ofInt (IntKind.bits IntKind.i64) n &&& BitVec.ofInt (IntKind.bits IntKind.i64) 2147483647)):Int))])))],[])))))):Zc NG 4 (Zl 4 CG G) CK [] (YR 14 [.pv (.int .i64 n),.ptr 0 0,.ptr 1 0] [.box [.row 2 q 0 q],.box [.row 3 q 0 q],.row false 3 1 xs,.row false 3 1 ys]):=Zc.to (.lit (.lit (.lit (.req (.lit (.lit (.lit (.req (.nil))))))))) h (by kernel_rfl)
end Go.Pl

namespace Go.Pl
open Go.RowKit
open Enc (enc dec is)
open EncL (encL decL isL)
def UD(p:List Mono)(i:Nat):List Str:=(p.take i).flatMap (·.v)
theorem M8(p:List Mono){i:Nat}(h:i<p.length):UD p (i+1)=UD p i++p[i].v:=by
 unfold UD
 rw[List.take_succ_eq_append_getElem h,List.flatMap_append]
 simp
theorem Pi(p:List Mono)(hp : ∀ m∈p,m.v.length<=8): ∀ i,i<=p.length->(UD p i).length<=8*i:=by
 intro i
 induction i with
 | zero=>intro _;simp[UD]
 | succ i ih=>
  intro hi
  have:=ih (by omega)
  rw[M8 p (by omega),List.length_append]
  have:=hp _ (List.getElem_mem (show i<p.length by omega))
  omega
theorem Gd{p:List Mono}(h:ZC p=true):p.length<=60∧ ∀ m∈p,m.v.length<=8:=by
 unfold ZC at h
 simp only[Bool.and_eq_true,decide_eq_true_eq]at h
 refine⟨h.1.1,fun m hm=> ?_⟩
 have:=List.all_eq_true.1 h.1.2 m hm
 unfold YK at this
 simp only[Bool.and_eq_true,decide_eq_true_eq]at this
 exact this.1.1.2
theorem b1k(l:List Str):List.map UJ (List.map (enc:Str->PV) l)=l.map (·.s):=by
 rw[List.map_map];rfl
theorem c1f(l:List (List UInt8)):List.map UJ (List.map PV.str l)=l:=by
 rw[List.map_map];exact(List.map_congr_left (fun _ _=>rfl)).trans (List.map_id _)
theorem MM(l:List (List UInt8)):(Wu l).length=l.length:=(List.mergeSort_perm l _).length_eq
def pvW(p:List Mono):AV×List AObj×List AObj:=if (XI p).isEmpty then(.pv (.sl 0 true []),[],[])else R8 [.pv (enc p)] []
theorem FQ(p:List Mono)(hp:ZC p=true): ∀ (k i:Nat),k+i=p.length ->
  if (UD p i).isEmpty then At XT 0 (Zl 0 Xh fun r=>r=pvW p) Xl 0 24 [(3,.pv (.sl 0 true [])),(9,.pv (enc p)),(10,.pv (.int .i64 p.length)),(11,.pv (.int .i64 i))] []
  else At XT 0 (Zl 0 Xh fun r=>r=pvW p) Xl 0 24 [(3,.row 0 (UD p i).length 0 (UD p i).length),(9,.pv (enc p)),(10,.pv (.int .i64 p.length)),(11,.pv (.int .i64 i))] [.obj (.row false 9 1 ((UD p i).map enc))]:=by
 obtain⟨hl,hm⟩:=Gd hp
 intro k
 induction k with
 | zero=>
  intro i hi
  obtain rfl:i=p.length:=by omega
  have e:UD p p.length=XI p:=by unfold UD XI;rw[List.take_length]
  rw[e]
  cases hc:(XI p).isEmpty
  ·rw[if_neg (by simp)]
   have hlen:(XI p).length<=480:=by have:=Pi p hm p.length (Nat.le_refl _);rw[e]at this;omega
   refine Rm p p.length _ (XI p) (ZN (Ye (by omega)) ⟨?_,?_,?_⟩)
   ·show((XI p).length==((XI p).map (enc:Str->PV)).length&&(XI p).length==(XI p).length&&((XI p).map (enc:Str->PV)).all J9&&decide ((XI p).length<4611686018427387904))=true
    have:((XI p).map (enc:Str->PV)).all J9=true:=by rw[List.all_map];exact List.all_eq_true.2 fun _ _=>rfl
    rw[this,List.length_map,decide_eq_true (by omega)];simp
   ·rw[b1k]
    show((XI p).length==((Wu ((XI p).map (·.s))).map PV.str).length&&(XI p).length==(XI p).length&&((Wu ((XI p).map (·.s))).map PV.str).all J9&&decide ((XI p).length<4611686018427387904))=true
    have:((Wu ((XI p).map (·.s))).map PV.str).all J9=true:=by rw[List.all_map];exact List.all_eq_true.2 fun _ _=>rfl
    rw[this,List.length_map,MM,List.length_map,decide_eq_true (by omega)];simp
   ·rw[b1k,c1f]
    unfold pvW
    rw[hc,if_neg (by simp)]
    show _=(AV.row 0 (Xj (dec (enc p:PV))).length 0 (Lib.compact (Xj (dec (enc p:PV)))).length,[],[AObj.row false 9 1 ((Vx (Xj (dec (enc p:PV)))).map .str)])
    rw[Enc.dec_enc]
    have:(Xj p).length=(XI p).length:=by unfold Xj;rw[MM,List.length_map]
    rw[this]
    rfl
  ·rw[if_pos rfl]
   refine Ty p p.length (ZN (Ye (by omega)) ?_)
   unfold pvW
   rw[hc,if_pos rfl]
 | succ k ih=>
  intro i hi
  have hlt:i<p.length:=by omega
  have h1:=ih (i+1) (by omega)
  have hmi:=hm _ (List.getElem_mem hlt)
  have hoi:=Pi p hm i (by omega)
  rw[M8 p hlt]at h1
  cases hc:(UD p i).isEmpty
  ·rw[if_neg (by simp)]
   have hc2:(UD p i++p[i].v).isEmpty=false:=by
    rw[List.isEmpty_eq_false_iff]at hc ⊢
    simp[hc]
   rw[hc2,if_neg (by simp)]at h1
   refine Rm p i _ (UD p i) (ZU (Z9 hlt) ⟨Zq hlt rfl,ZF hlt ⟨by simp,?_,?_⟩⟩)
   ·show(((UD p i).map (enc:Str->PV)).length==(UD p i).length&&(UD p i).length==(UD p i).length&&decide (((UD p i).length+(p[i].v.map (enc:Str->PV)).length)*16<=1099511627776)&&decide ((UD p i).length+(p[i].v.map (enc:Str->PV)).length<=1099511627776))=true
    rw[List.length_map,List.length_map,decide_eq_true (by omega),decide_eq_true (by omega)];simp
   ·rw[next (by omega)]
    rw[List.length_append,List.map_append]at h1
    have e:(PV.asXs (List.getD (PV.cells (enc p[i])) (0+1) default)).length=p[i].v.length:=by
     show(p[i].v.map (enc:Str->PV)).length=_
     rw[List.length_map]
    rw[e]
    exact h1
  ·rw[if_pos rfl]
   have hnil:UD p i=[]:=List.isEmpty_iff.1 hc
   rw[hnil,List.nil_append]at h1
   refine Ty p i (ZU (Z9 hlt) ⟨Zq hlt rfl,ZF hlt ⟨by simp,?_⟩⟩)
   show if (p[i].v.map (enc:Str->PV)).isEmpty=true then _ else _
   rw[List.isEmpty_map]
   cases hv:p[i].v.isEmpty
   ·rw[hv,if_neg (by simp)]at h1
    refine ZN (by simp) ⟨?_,?_⟩
    ·show((List.isEmpty ([]:List PV)||0==1)&&decide ((List.length ([]:List PV)+(p[i].v.map (enc:Str->PV)).length)*16<=1099511627776)&&decide (List.length ([]:List PV)+(p[i].v.map (enc:Str->PV)).length<=1099511627776))=true
     rw[List.length_map,decide_eq_true (by simp;omega),decide_eq_true (by simp;omega)];rfl
    ·rw[next (by omega)]
     have e:List.length ([]:List PV)+(PV.asXs (List.getD (PV.cells (enc p[i])) (0+1) default)).length=p[i].v.length:=by
      show 0+(p[i].v.map (enc:Str->PV)).length=_
      rw[List.length_map,Nat.zero_add]
     rw[e]
     exact h1
   ·rw[hv,if_pos rfl]at h1
    refine ZU rfl ?_
    rw[next (by omega)]
    exact h1
theorem Tw(p:List Mono)(hs:Yf p=true)(hp:ZC p=true):Zc XT 0 (Zl 0 Xh fun r=>r=pvW p) Xl [] (YR Sk [.pv (enc p)] []):=by
 refine a1b p ⟨Ze (p,()) rfl hs,Zd (p,()) rfl (ZN (by simp[hp]) ?_)⟩
 rw[List.length_map]
 have:=FQ p hp p.length 0 (by omega)
 rw[show(UD p 0).isEmpty=true from rfl,if_pos rfl]at this
 exact this
theorem OZ: ∀ args os,UZ args os=true->Zc XT os.length (Zl os.length Xh fun r=>r=R8 args os) Xl [] (YR Sk args os):=by
 intro args os h
 unfold UZ at h
 split at h
 ·rename_i a
  simp only[Bool.and_eq_true,Bool.not_eq_true']at h
  obtain⟨⟨⟨h1,h2⟩,h3⟩,h4⟩:=h
  obtain⟨p,rfl⟩:=YC h1
  rw[Enc.dec_enc]at h2 h3 h4
  have:=Tw p h2 h3
  unfold pvW at this
  rw[h4,if_neg (by simp)]at this
  exact this
 ·cases h
theorem Ej: ∀ args os,Ja args os=true->Zc XT os.length (Zl os.length Xh fun r=>r=Cg args os) Xl [] (YR Sk args os):=by
 intro args os h
 unfold Ja at h
 split at h
 ·rename_i a
  simp only[Bool.and_eq_true]at h
  obtain⟨⟨h1,h2⟩,h3⟩:=h
  obtain⟨p,rfl⟩:=YC h1
  rw[Enc.dec_enc]at h2 h3
  cases hv:ZC p
  ·exact a1b p ⟨Ze (p,()) rfl h2,Zd (p,()) rfl (ZU (by simp[hv]) rfl)⟩
  ·rw[hv]at h3
   have h3:(XI p).isEmpty=true:=by simpa using h3
   have:=Tw p h2 hv
   unfold pvW at this
   rw[h3,if_pos rfl]at this
   exact this
 ·cases h
theorem b8o: ∀ args os,Gc args os=true->Zc b6i os.length (Zl os.length FO fun r=>r=Cx args os) O3 [] (YR c7m args os):=by
 intro args os h
 unfold Gc at h
 split at h
 ·rename_i x v
  obtain⟨x,rfl⟩:=YC h
  refine c8b x v ?_
  simp only[Cx,Enc.dec_enc]
 ·cases h
theorem a9h(l:List Coef)(v:List UInt8)(hl:l.length<=9223372036854775807)(R:AV×List AObj×List AObj)(hR:R=(.pv (.int .i64 (ZE (fun t:Coef=>t.v.s==v) l)),[.box [.pv (.str v)]],[])): ∀ (m i:Nat),m+i=l.length->(∀ j (h:j<l.length),j<i->(l[j].v.s==v)=false) ->
  At Ac 1 (Zl 1 Ju fun r=>r=R) JI 0 19 [(0,.pv (enc l)),(1,.fn 188 [] [.ptr 0 0]),(7,.pv (.int .i64 l.length)),(8,.pv (.int .i64 i))] [.obj (.box [.pv (.str v)])]:=by
 intro m
 induction m with
 | zero=>
  intro i hi hno
  refine b1t l v i (ZN (Ye (by omega)) ?_)
  rw[hR,U2 _ _ (fun j hj=>hno j hj (by omega))]
 | succ m ih=>
  intro i hi hno
  have hlt:i<l.length:=by omega
  have ed:(dec (PV.agg (QF (PV.cells (enc l[i])) 0 [Sh.str,Sh.int .i64])):Coef)=l[i]:=Enc.dec_enc l[i]
  refine b1t l v i (ZU (Z9 hlt) ⟨Zq hlt rfl,ZF hlt ⟨Ya l[i],?_⟩⟩)
  rw[ed]
  refine Wx (fun hb=> ?_) fun hb=> ?_
  ·rw[hR,U3 (fun t:Coef=>t.v.s==v) l i hlt hno hb]
  ·rw[next (by omega)]
   refine ih (i+1) (by omega) fun j hj hji=> ?_
   by_cases e:j=i
   ·subst e;exact hb
   ·exact hno j hj (by omega)
theorem c1w: ∀ args os,VW 188 args os=true->Zc Ac os.length (Zl os.length Ju fun r=>r=Ce args os) JI [] (YR c6l args os):=by
 intro args os h
 unfold VW at h
 split at h
 ·rename_i l g v
  simp only[Bool.and_eq_true,beq_iff_eq,decide_eq_true_eq]at h
  obtain⟨⟨rfl,h1⟩,h2⟩:=h
  obtain⟨l,rfl⟩:=YC h1
  rw[Enc.dec_enc]at h2
  refine c7z l v ?_
  rw[List.length_map]
  exact a9h l v h2 _ (by simp only[Ce,Kb,Enc.dec_enc]) l.length 0 (by omega) (fun j hj h=>by omega)
 ·cases h
theorem a4j(l:List Int)(n:Int)(hl:l.length<=9223372036854775807): ∀ (m i:Nat),m+i=l.length->(∀ j (h:j<l.length),j<i->decide (n=l[j])=false) ->
  At JU 0 (Za Q5 (Zj (ZE (fun x:Int=>decide (n=x)) l))) QO 0 19 [(0,.pv (enc l)),(1,.pv (enc n)),(7,.pv (.int .i64 l.length)),(8,.pv (.int .i64 i))] []:=by
 intro m
 induction m with
 | zero=>
  intro i hi hno
  refine a2g l n i (ZN (Ye (by omega)) (Uv ?_))
  rw[U2 _ _ (fun j hj=>hno j hj (by omega))]
 | succ m ih=>
  intro i hi hno
  have hlt:i<l.length:=by omega
  refine a2g l n i (ZU (Z9 hlt) ⟨Zq hlt rfl,ZF hlt (KE (fun hb=> ?_) fun hb=> ?_)⟩)
  ·have hb:n=l[i]:=hb
   exact Uv (U3 (fun x:Int=>decide (n=x)) l i hlt hno (by simp[hb])).symm
  ·have hb : ¬ n=l[i]:=hb
   rw[next (by omega)]
   refine ih (i+1) (by omega) fun j hj hji=> ?_
   by_cases e:j=i
   ·subst e;simp[hb]
   ·exact hno j hj (by omega)
theorem b2s: ∀ a:List Int×Int×Unit,Zn a.1=true->Zc JU 0 (Za Q5 (Zj (ZE (fun x:Int=>decide (a.2.1=x)) a.1))) QO [] (Yr c1d (encL a)):=by
 rintro⟨l,n,⟨⟩⟩ h
 refine c5o l n ?_
 rw[List.length_map]
 exact a4j l n (Zu.1 h) l.length 0 (by omega) (fun j hj h=>by omega)
theorem FX: ∀ a:List Int×Int×Unit,Zn a.1=true->Zc Ao 0 (Za Gs (Zj (a.1.contains a.2.1))) Gw [] (Yr a3w (encL a)):=by
 rintro⟨l,n,⟨⟩⟩ h
 refine a8n l n ⟨Ze (l,n,()) rfl h,Zd (l,n,()) rfl (ZM ?_)⟩
 show decide (ZE (fun x:Int=>decide (n=x)) l ≥ 0)=_
 rw[XN,Bool.eq_iff_iff]
 simp[List.any_eq_true]
theorem OO(l:List Int)(hl:l.length<=9223372036854775807): ∀ (m i:Nat) (o:Int),m+i=l.length ->
  At UY 0 (Za VY (Zj (DW o (l.drop i)))) Uu 0 29 [(4,.pv (.int .i64 o)),(11,.pv (enc l)),(12,.pv (.int .i64 l.length)),(13,.pv (.int .i64 i))] []:=by
 intro m
 induction m with
 | zero=>
  intro i o hi
  rw[List.drop_of_length_le (by omega)]
  exact LG l o i (ZN (Ye (by omega)) (ZP (x:=(o,(0:Int))) rfl))
 | succ m ih=>
  intro i o hi
  have hlt:i<l.length:=by omega
  rw[List.drop_eq_getElem_cons hlt]
  refine LG l o i (ZU (Z9 hlt) ⟨Zq hlt rfl,ZF hlt (Zd (o,l[i],()) rfl ?_)⟩)
  show if ((JS o l[i]).2 != 0)=true then _ else _
  rw[DW]
  by_cases h:(JS o l[i]).2=0
  ·rw[if_neg (by simp[h]),if_neg (by simp[h]),next (by omega)]
   exact ih (i+1) _ (by omega)
  ·rw[if_pos (by simp[h]),if_pos h]
   exact ZP (x:=((0:Int),(JS o l[i]).2)) rfl
theorem a6f: ∀ a:List Int×Unit,Zn a.1=true->Zc UY 0 (Za VY (Zj (YN a.1))) Uu [] (Yr b3m (encL a)):=by
 rintro⟨l,⟨⟩⟩ h
 refine b9m l ⟨Ze (l,0,()) rfl h,Zd (l,0,()) rfl (Wx (fun hc=> ?_) fun hc=> ?_)⟩
 ·have hc:l.contains 0=true:=hc
  show Zj (YN l) _
  unfold YN
  rw[hc,if_pos rfl]
  exact ZP (x:=((0:Int),(0:Int))) rfl
 ·have hc:l.contains 0=false:=hc
  show At UY 0 (Za VY (Zj (YN l))) _ _ _ _ _
  unfold YN
  rw[hc,if_neg (by simp),List.length_map]
  exact OO l (Zu.1 h) l.length 0 1 (by omega)
theorem Qm{α:Type}[Enc α]{l:List α}{i:Nat}(h:i<l.length):List.getD (List.map (enc:α->PV) l) (0+Int.toNat (i:Int)) default=enc l[i]:=by simp[List.getD,h]
def Qc(ps:List Int)(o:Option (List Int)):Int×Int:=match o with|none=>(0,2)|some l=>XY (ps++l)
theorem a4b(p:List Mono)(vs:List Coef)(fs:List (List Int))(hf:fs.length<=60)(hl : ∀ l∈fs,Zn l=true): ∀ (d i:Nat) (ps:List Int),d+i=fs.length->ps.length=i->1<=i ->
  At ZT 0 (Za ZJ (Zj (Qc ps (Yp (fs.drop i))))) ZL 2 91 [(15,.row 0 i 0 i),(69,.row 1 fs.length 0 fs.length),(70,.pv (.int .i64 fs.length)),(71,.pv (.int .i64 i))] [.obj (.row false 3 1 (ps.map enc)),.obj (.row false 34 1 (fs.map enc))]:=by
 intro d
 induction d with
 | zero=>
  intro i ps hi hps h1
  rw[List.drop_of_length_le (by omega)]
  have hr:Qc ps (Yp [])=XY ps:=by show XY (ps++[])=_;rw[List.append_nil]
  rw[hr]
  have et:List.drop 0 (List.take i (List.map (enc:Int->PV) ps))=ps.map enc:=by rw[List.drop_zero,List.take_of_length_le (by simp[hps])]
  apply Tt (G:=Zj (XY ps)) p vs i fs.length fs i ps
  refine ZN (Ye (by omega)) ⟨by simp[hps],?_⟩
  rw[et]
  exact⟨Ze (ps,()) rfl (by simp;omega),Zd (ps,()) rfl (ZP (x:=XY ps) rfl)⟩
 | succ d ih=>
  intro i ps hi hps h1
  have hlt:i<fs.length:=by omega
  have e:=Qm hlt
  rw[List.drop_eq_getElem_cons hlt,Yp]
  apply Tt (G:=Zj (Qc ps (if (YN fs[i]).2≠0 then none else(Yp (fs.drop (i+1))).map ((YN fs[i]).1:: ·)))) p vs i fs.length fs i ps
  apply ZU (Z9 hlt)
  rw[e]
  refine⟨by simp;omega,by simp;omega,rfl,Ze (fs[i],()) rfl (hl _ (List.getElem_mem hlt)),Zd (fs[i],()) rfl ?_⟩
  show if ((YN fs[i]).2 != 0)=true then _ else _
  by_cases h:(YN fs[i]).2=0
  ·rw[if_neg (by simp[h])]
   have hr:Qc ps (if (YN fs[i]).2≠0 then none else(Yp (fs.drop (i+1))).map ((YN fs[i]).1:: ·))=Qc (ps++[(YN fs[i]).1]) (Yp (fs.drop (i+1))):=by
    rw[if_neg (by simp[h])]
    cases Yp (fs.drop (i+1))with
    | none=>rfl
    | some l=>show XY (ps++_::l)=XY (ps++[_]++l);rw[List.append_assoc];rfl
   rw[hr]
   refine⟨?_,?_⟩
   ·rw[List.length_map,hps]
    show((i==i)&&(i==i)&&decide ((i+1)*8<=1099511627776)&&decide (i+1<=1099511627776))=true
    rw[decide_eq_true (by omega),decide_eq_true (by omega)];simp
   ·rw[next (by omega)]
    have:=ih (i+1) (ps++[(YN fs[i]).1]) (by omega) (by simp[hps]) (by omega)
    rw[List.map_append]at this
    exact this
  ·rw[if_pos (by simp[h])]
   have hr:Qc ps (if (YN fs[i]).2≠0 then none else(Yp (fs.drop (i+1))).map ((YN fs[i]).1:: ·))=((0:Int),(2:Int)):=by rw[if_pos h];rfl
   rw[hr]
   exact ZP (x:=((0:Int),(2:Int))) rfl
theorem d0q(p:List Mono)(vs:List Coef)(fs:List (List Int))(hne:0<fs.length)(hf:fs.length<=60)(hl : ∀ l∈fs,Zn l=true):
  At ZT 0 (Za ZJ (Zj (Qc [] (Yp fs)))) ZL 2 91 [(15,.pv (.sl 0 true [])),(69,.row 0 fs.length 0 fs.length),(70,.pv (.int .i64 fs.length)),(71,.pv (.int .i64 0))] [.obj (.row false 34 1 (fs.map enc))]:=by
 have e:=Qm hne
 have hr:Yp fs=if (YN fs[0]).2≠0 then none else(Yp (fs.drop 1)).map ((YN fs[0]).1:: ·):=by
  cases fs with
  | nil=>simp at hne
  | cons l r=>rfl
 rw[hr]
 apply a2u (G:=Zj (Qc [] (if (YN fs[0]).2≠0 then none else(Yp (fs.drop 1)).map ((YN fs[0]).1:: ·)))) p vs ((0:Nat):Int) fs.length fs
 apply ZU (Z9 hne)
 rw[e]
 refine⟨by simp;omega,by simp;omega,rfl,Ze (fs[0],()) rfl (hl _ (List.getElem_mem hne)),Zd (fs[0],()) rfl ?_⟩
 show if ((YN fs[0]).2 != 0)=true then _ else _
 by_cases h:(YN fs[0]).2=0
 ·rw[if_neg (by simp[h]),if_neg (by simp[h])]
  have hr:Qc [] ((Yp (fs.drop 1)).map ((YN fs[0]).1:: ·))=Qc [(YN fs[0]).1] (Yp (fs.drop 1)):=by
   cases Yp (fs.drop 1)with
   | none=>rfl
   | some l=>rfl
  rw[hr,next (by omega)]
  exact a4b p vs fs hf hl (fs.length - 1) 1 [(YN fs[0]).1] (by omega) rfl (by omega)
 ·rw[if_pos (by simp[h]),if_pos h]
  exact ZP (x:=((0:Int),(2:Int))) rfl
theorem d0n(p:List Mono)(vs:List Coef):At ZT 0 (Za ZJ (Zj (Qc [] (Yp [])))) ZL 2 91 [(15,.pv (.sl 0 true [])),(69,.pv (.sl 0 true [])),(70,.pv (.int .i64 0)),(71,.pv (.int .i64 0))] []:=by
 have hr:Qc [] (Yp [])=XY []:=rfl
 rw[hr]
 apply a5t (G:=Zj (XY [])) p vs
 exact Uz ([],()) rfl (ZP (x:=XY []) rfl)
def Pv(vs:List Coef)(fs:List (List Int))(bd:Bool)(r:List Mono):Int×Int:=match Ht vs r with
 | none=>(0,7)
 | some gs=>if bd||badF gs then(0,2)else Qc [] (Yp (fs++gs))
def evH(vs:List Coef)(fs:List (List Int))(bd:Bool)(l:List Int)(ns:List Str)(r:List Mono):Int×Int:=match JW vs ns with
 | none=>(0,7)
 | some xs=>Pv vs (fs++[l++xs]) (bd||xs.any fun x=> !VT x) r
theorem Fb(vs:List Coef)(fs:List (List Int))(bd:Bool)(m:Mono)(r:List Mono):Pv vs fs bd (m::r)=evH vs fs bd [m.c] m.v r:=by
 unfold Pv evH Ht
 cases JW vs m.v with
 | none=>rfl
 | some xs=>
  show(match (Ht vs r).map ((m.c::xs):: ·)with|none=>_|some gs=>_)=Pv vs (fs++[[m.c]++xs]) _ r
  unfold Pv
  cases Ht vs r with
  | none=>rfl
  | some gs=>
   show(if bd||badF ((m.c::xs)::gs)then _ else Qc [] (Yp (fs++(m.c::xs)::gs)))=(if (bd||xs.any fun x=> !VT x)||badF gs then _ else Qc [] (Yp (fs++[[m.c]++xs]++gs)))
   have e1:badF ((m.c::xs)::gs)=((xs.any fun x=> !VT x)||badF gs):=rfl
   rw[e1,List.append_assoc,Bool.or_assoc]
   rfl
theorem GU(vs:List Coef)(s:Str)(r:List Str):JW vs (s::r)=match Y6 vs s with|none=>none|some x=>(JW vs r).map (x:: ·):=rfl
theorem MI(vs:List Coef)(fs:List (List Int))(bd:Bool)(l:List Int)(s:Str)(ns:List Str)(r:List Mono)(x:Int)(h:Y6 vs s=some x):evH vs fs bd l (s::ns) r=evH vs fs (bd || !VT x) (l++[x]) ns r:=by
 unfold evH
 rw[GU,h]
 show(match (JW vs ns).map (x:: ·)with|none=>_|some xs=>_)=_
 cases JW vs ns with
 | none=>rfl
 | some xs=>
  show Pv vs (fs++[l++x::xs]) (bd||(x::xs).any fun x=> !VT x) r=Pv vs (fs++[l++[x]++xs]) ((bd || !VT x)||xs.any fun x=> !VT x) r
  rw[List.append_assoc,List.any_cons,Bool.or_assoc]
  rfl
theorem Cq(x:Int):(!VT x)=(decide (x < -4611686018427387904)||decide (x>4611686018427387904)):=by
 unfold VT
 by_cases h1:x < -4611686018427387904
 ·rw[decide_eq_true h1,decide_eq_false (show ¬ -4611686018427387904<=x by omega)];rfl
 ·rw[decide_eq_false h1,decide_eq_true (show -4611686018427387904<=x by omega)]
  by_cases h2:x>4611686018427387904
  ·rw[decide_eq_true h2,decide_eq_false (show ¬ x<=4611686018427387904 by omega)];rfl
  ·rw[decide_eq_false h2,decide_eq_true (show x<=4611686018427387904 by omega)];rfl
theorem d1a(p:List Mono)(vs:List Coef)(hv:vs.length<=9223372036854775807)(i:Nat)(hi:i<60)(hip:i<p.length)(ns:List Str)(hn:ns.length<=8)(R:Int×Int)
  (hnext : ∀ (l:List Int) (bd:Bool),l.length<=100->R=Pv vs ([]++[l]) bd (p.drop (i+1))->At ZT 0 (Za ZJ (Zj R)) ZL 0 91 [(6,.row 0 1 0 1),(1,.pv (enc vs)),(7,.pv (.bool bd)),(23,.pv (enc p)),(24,.pv (.int .i64 p.length)),(25,.pv (.int .i64 ((i+1:Nat):Int)))] [.obj (.row false 34 1 (([]++[l]).map enc))]) :
  ∀ (d j:Nat) (l:List Int) (bd:Bool),d+j=ns.length->l.length=j+1->R=evH vs [] bd l (ns.drop j) (p.drop (i+1)) ->
  At ZT 0 (Za ZJ (Zj R)) ZL 1 91 [(6,.pv (.sl 0 true [])),(1,.pv (enc vs)),(7,.pv (.bool bd)),(23,.pv (enc p)),(24,.pv (.int .i64 p.length)),(25,.pv (.int .i64 i)),(33,.pv (enc ns)),(34,.pv (.int .i64 ns.length)),(35,.pv (.int .i64 j)),(10,.row 0 (j+1) 0 (j+1))] [.obj (.row false 3 1 (l.map enc))]:=by
 intro d
 induction d with
 | zero=>
  intro j l bd hd hl hR
  rw[List.drop_of_length_le (by omega)]at hR
  have hR2:R=Pv vs ([]++[l]) bd (p.drop (i+1)):=by
   rw[hR]
   show Pv vs ([]++[l++[]]) (bd||false) _=_
   rw[List.append_nil,Bool.or_false]
  have hn0:=hnext l bd (by omega) hR2
  have et:(PV.sl 1 false (List.drop 0 (List.take (j+1) (List.map (enc:Int->PV) l))))=enc l:=by rw[List.drop_zero,List.take_of_length_le (by simp[hl])];rfl
  apply Rk (G:=Zj R) p vs bd i j ns (j+1) l
  apply ZN (Ye (by omega))
  refine⟨by simp[hl],?_⟩
  rw[et,next (by omega)]
  exact hn0
 | succ d ih=>
  intro j l bd hd hl hR
  have hlt:j<ns.length:=by omega
  rw[List.drop_eq_getElem_cons hlt]at hR
  have ecd:Kb (enc vs)=vs:=Enc.dec_enc vs
  apply Rk (G:=Zj R) p vs bd i j ns (j+1) l
  apply ZU (Z9 hlt)
  refine⟨Zq hlt rfl,ZF hlt ?_⟩
  have e0:PV.asStr (List.getD (PV.cells (enc ns[j])) 0 default)=ns[j].s:=rfl
  rw[e0,ecd]
  refine⟨by show VW _ [.pv (enc vs),_] _=true;simp[VW,hv],?_⟩
  rcases Na vs ns[j]with ⟨h1,h2⟩|⟨k,hk,h1,h2⟩
  ·have:R=(0,7):=by rw[hR];unfold evH;rw[GU,h2]
   rw[this]
   exact ZU (by simpa using h1) (ZP (x:=((0:Int),(7:Int))) rfl)
  ·rw[h1]
   rw[MI vs _ _ _ _ _ _ _ h2]at hR
   have hq : ∀ bd',(bd || !VT vs[k].c)=bd'->At ZT 0 (Za ZJ (Zj R)) ZL 1 91 [(6,.pv (.sl 0 true [])),(1,.pv (enc vs)),(7,.pv (.bool bd')),(23,.pv (enc p)),(24,.pv (.int .i64 p.length)),(25,.pv (.int .i64 i)),(33,.pv (enc ns)),(34,.pv (.int .i64 ns.length)),(35,.pv (.int .i64 ((j+1:Nat):Int))),(10,.row 0 (j+1+1) 0 (j+1+1))] [.obj (.row false 3 1 ((l++[vs[k].c]).map enc))]:=fun bd' hb=>ih (j+1) (l++[vs[k].c]) bd' (by omega) (by simp[hl]) (by rw[<- hb];exact hR)
   have hap:(List.length (List.map (enc:Int->PV) l)==j+1&&(j+1==j+1)&&decide (((j+1)+List.length (List.drop 0 (List.take 1 [PV.int .i64 vs[k].c])))*8<=1099511627776)&&decide ((j+1)+List.length (List.drop 0 (List.take 1 [PV.int .i64 vs[k].c]))<=1099511627776))=true:=by
    rw[List.length_map,hl]
    show((j+1==j+1)&&(j+1==j+1)&&decide (((j+1)+1)*8<=1099511627776)&&decide ((j+1)+1<=1099511627776))=true
    rw[decide_eq_true (by omega),decide_eq_true (by omega)];simp
   refine ZN (by simp) ⟨Zq hk rfl,ZF hk ?_⟩
   rw[next (by omega)]
   rw[List.map_append]at hq
   refine Wx (fun hb=>⟨hap,hq true (by rw[hb];rfl)⟩) fun hb=>Xy (fun h3=>⟨hap,hq true ?_⟩) fun h3=>⟨hap,hq _ ?_⟩
   ·have h3:vs[k].c < -4611686018427387904:=h3
    rw[Cq,decide_eq_true h3,hb];rfl
   ·have h3 : ¬ vs[k].c < -4611686018427387904:=h3
    rw[Cq,decide_eq_false h3,hb];rfl
theorem d0t(p:List Mono)(vs:List Coef)(hv:vs.length<=9223372036854775807)(fs:List (List Int))(hfl:fs.length<=60)(i:Nat)(hi:i<60)(hip:i<p.length)(ns:List Str)(hn:ns.length<=8)(R:Int×Int)
  (hnext : ∀ (l:List Int) (bd:Bool),l.length<=100->R=Pv vs (fs++[l]) bd (p.drop (i+1))->At ZT 0 (Za ZJ (Zj R)) ZL 0 91 [(6,.row 0 (fs.length+1) 0 (fs.length+1)),(1,.pv (enc vs)),(7,.pv (.bool bd)),(23,.pv (enc p)),(24,.pv (.int .i64 p.length)),(25,.pv (.int .i64 ((i+1:Nat):Int)))] [.obj (.row false 34 1 ((fs++[l]).map enc))]) :
  ∀ (d j:Nat) (l:List Int) (bd:Bool),d+j=ns.length->l.length=j+1->R=evH vs fs bd l (ns.drop j) (p.drop (i+1)) ->
  At ZT 0 (Za ZJ (Zj R)) ZL 1 91 [(6,.row 0 fs.length 0 fs.length),(1,.pv (enc vs)),(7,.pv (.bool bd)),(23,.pv (enc p)),(24,.pv (.int .i64 p.length)),(25,.pv (.int .i64 i)),(33,.pv (enc ns)),(34,.pv (.int .i64 ns.length)),(35,.pv (.int .i64 j)),(10,.row 1 (j+1) 0 (j+1))] [.obj (.row false 34 1 (fs.map enc)),.obj (.row false 3 1 (l.map enc))]:=by
 intro d
 induction d with
 | zero=>
  intro j l bd hd hl hR
  rw[List.drop_of_length_le (by omega)]at hR
  have hR2:R=Pv vs (fs++[l]) bd (p.drop (i+1)):=by
   rw[hR]
   show Pv vs (fs++[l++[]]) (bd||false) _=_
   rw[List.append_nil,Bool.or_false]
  have hn0:=hnext l bd (by omega) hR2
  have et:(PV.sl 1 false (List.drop 0 (List.take (j+1) (List.map (enc:Int->PV) l))))=enc l:=by rw[List.drop_zero,List.take_of_length_le (by simp[hl])];rfl
  apply Ri (G:=Zj R) p vs bd i j ns (j+1) l fs.length fs
  apply ZN (Ye (by omega))
  refine⟨by simp[hl],?_,?_⟩
  ·rw[et,List.length_map]
   show((fs.length==fs.length)&&(fs.length==fs.length)&&decide ((fs.length+1)*24<=1099511627776)&&decide (fs.length+1<=1099511627776))=true
   rw[decide_eq_true (by omega),decide_eq_true (by omega)];simp
  ·rw[et,next (by omega)]
   rw[List.map_append]at hn0
   exact hn0
 | succ d ih=>
  intro j l bd hd hl hR
  have hlt:j<ns.length:=by omega
  rw[List.drop_eq_getElem_cons hlt]at hR
  have ecd:Kb (enc vs)=vs:=Enc.dec_enc vs
  apply Ri (G:=Zj R) p vs bd i j ns (j+1) l fs.length fs
  apply ZU (Z9 hlt)
  refine⟨Zq hlt rfl,ZF hlt ?_⟩
  have e0:PV.asStr (List.getD (PV.cells (enc ns[j])) 0 default)=ns[j].s:=rfl
  rw[e0,ecd]
  refine⟨by show VW _ [.pv (enc vs),_] _=true;simp[VW,hv],?_⟩
  rcases Na vs ns[j]with ⟨h1,h2⟩|⟨k,hk,h1,h2⟩
  ·have:R=(0,7):=by rw[hR];unfold evH;rw[GU,h2]
   rw[this]
   exact ZU (by simpa using h1) (ZP (x:=((0:Int),(7:Int))) rfl)
  ·rw[h1]
   rw[MI vs _ _ _ _ _ _ _ h2]at hR
   have hq : ∀ bd',(bd || !VT vs[k].c)=bd'->At ZT 0 (Za ZJ (Zj R)) ZL 1 91 [(6,.row 0 fs.length 0 fs.length),(1,.pv (enc vs)),(7,.pv (.bool bd')),(23,.pv (enc p)),(24,.pv (.int .i64 p.length)),(25,.pv (.int .i64 i)),(33,.pv (enc ns)),(34,.pv (.int .i64 ns.length)),(35,.pv (.int .i64 ((j+1:Nat):Int))),(10,.row 1 (j+1+1) 0 (j+1+1))] [.obj (.row false 34 1 (fs.map enc)),.obj (.row false 3 1 ((l++[vs[k].c]).map enc))]:=fun bd' hb=>ih (j+1) (l++[vs[k].c]) bd' (by omega) (by simp[hl]) (by rw[<- hb];exact hR)
   have hap:(List.length (List.map (enc:Int->PV) l)==j+1&&(j+1==j+1)&&decide (((j+1)+List.length (List.drop 0 (List.take 1 [PV.int .i64 vs[k].c])))*8<=1099511627776)&&decide ((j+1)+List.length (List.drop 0 (List.take 1 [PV.int .i64 vs[k].c]))<=1099511627776))=true:=by
    rw[List.length_map,hl]
    show((j+1==j+1)&&(j+1==j+1)&&decide (((j+1)+1)*8<=1099511627776)&&decide ((j+1)+1<=1099511627776))=true
    rw[decide_eq_true (by omega),decide_eq_true (by omega)];simp
   refine ZN (by simp) ⟨Zq hk rfl,ZF hk ?_⟩
   rw[next (by omega)]
   rw[List.map_append]at hq
   refine Wx (fun hb=>⟨hap,hq true (by rw[hb];rfl)⟩) fun hb=>Xy (fun h3=>⟨hap,hq true ?_⟩) fun h3=>⟨hap,hq _ ?_⟩
   ·have h3:vs[k].c < -4611686018427387904:=h3
    rw[Cq,decide_eq_true h3,hb];rfl
   ·have h3 : ¬ vs[k].c < -4611686018427387904:=h3
    rw[Cq,decide_eq_false h3,hb];rfl
theorem b4q(vs:List Coef)(fs:List (List Int))(bd:Bool):Pv vs fs bd []=if bd then(0,2)else Qc [] (Yp fs):=by
 show(if bd||badF []then _ else Qc [] (Yp (fs++[])))=_
 have:badF []=false:=rfl
 rw[this,Bool.or_false,List.append_nil]
theorem Oi(p:List Mono)(vs:List Coef)(hp:ZC p=true)(hv:vs.length<=9223372036854775807): ∀ (d i:Nat) (fs:List (List Int)) (bd:Bool),d+i=p.length->fs.length=i->1<=i->(∀ l∈fs,l.length<=100) ->
  At ZT 0 (Za ZJ (Zj (Pv vs fs bd (p.drop i)))) ZL 0 91 [(6,.row 0 fs.length 0 fs.length),(1,.pv (enc vs)),(7,.pv (.bool bd)),(23,.pv (enc p)),(24,.pv (.int .i64 p.length)),(25,.pv (.int .i64 i))] [.obj (.row false 34 1 (fs.map enc))]:=by
 obtain⟨hpl,hpm⟩:=Gd hp
 intro d
 induction d with
 | zero=>
  intro i fs bd hi hfi h1 hls
  rw[List.drop_of_length_le (by omega),b4q]
  apply Rb (G:=Zj (if bd then((0:Int),(2:Int))else Qc [] (Yp fs))) p vs bd i fs.length fs
  apply ZN (Ye (by omega))
  refine Wx (fun hb=> ?_) fun hb=> ?_
  ·rw[hb,if_pos rfl]
   exact ZP (x:=((0:Int),(2:Int))) rfl
  ·rw[hb,if_neg (by simp),Nat.sub_zero]
   exact d0q p vs fs (by omega) (by omega) fun l hl=>Zu.2 (by have:=hls l hl;omega)
 | succ d ih=>
  intro i fs bd hi hfi h1 hls
  have hlt:i<p.length:=by omega
  have hm:=hpm _ (List.getElem_mem hlt)
  rw[List.drop_eq_getElem_cons hlt,Fb]
  apply Rb (G:=Zj (evH vs fs bd [p[i].c] p[i].v (p.drop (i+1)))) p vs bd i fs.length fs
  apply ZU (Z9 hlt)
  refine⟨Zq hlt rfl,ZF hlt ?_⟩
  have:=d0t p vs hv fs (by omega) i (by omega) hlt p[i].v hm (evH vs fs bd [p[i].c] p[i].v (p.drop (i+1))) (fun l bd' hl hR=>by
   rw[hR]
   have:=ih (i+1) (fs++[l]) bd' (by omega) (by simp[hfi]) (by omega) (fun x hx=>by
    rcases List.mem_append.1 hx with hx|hx
    ·exact hls x hx
    ·rw[List.mem_singleton.1 hx];exact hl)
   rw[List.length_append]at this
   exact this) p[i].v.length 0 [p[i].c] bd (by omega) rfl rfl
  have eL:(((PV.asXs (List.getD (PV.cells (enc p[i])) (0+1) default)).length:Nat):Int)=(p[i].v.length:Int):=by
   show(((p[i].v.map (enc:Str->PV)).length:Nat):Int)=_
   rw[List.length_map]
  rw[eL]
  exact this
theorem b3z{p:List Mono}{vs:List Coef}(h:ZC p=true):Pv vs [] false p=Z7 p vs:=by
 unfold Pv Z7
 rw[h,if_pos rfl]
 cases Ht vs p with
 | none=>rfl
 | some fs=>
  show(if false||badF fs then _ else Qc [] (Yp ([]++fs)))=_
  rw[Bool.false_or,List.nil_append]
  show _=if badF fs then _ else _
  by_cases hb:badF fs=true
  ·rw[if_pos hb,if_pos hb]
  ·rw[if_neg hb,if_neg hb]
   cases Yp fs with
   | none=>rfl
   | some l=>rfl
theorem a7p: ∀ x:List Mono×List Coef×Unit,(Yf x.1&&Zn x.2.1)=true->Zc ZT 0 (Za ZJ (Zj (Z7 x.1 x.2.1))) ZL [] (Yr a8a (encL x)):=by
 rintro⟨p,vs,⟨⟩⟩ h
 simp only[Bool.and_eq_true]at h
 obtain⟨hs,hv⟩:=h
 have hv:=Zu.1 hv
 refine b9z p vs ⟨Ze (p,()) rfl hs,Zd (p,()) rfl ?_⟩
 show if (!(ZC p))=true then _ else _
 cases hp:ZC p
 ·rw[if_pos (by rfl)]
  have:Z7 p vs=(0,1):=by unfold Z7;rw[hp,if_neg (by simp)]
  show Zj (Z7 p vs) _
  rw[this]
  exact ZP (x:=((0:Int),(1:Int))) rfl
 ·rw[if_neg (by simp)]
  obtain⟨hpl,hpm⟩:=Gd hp
  show At ZT 0 (Za ZJ (Zj (Z7 p vs))) _ _ _ _ _
  rw[<- b3z hp,List.length_map]
  cases hpc:p with
  | nil=>
   have e:Pv vs [] false []=Qc [] (Yp []):=by rw[b4q];rfl
   rw[e]
   apply Rl (G:=Zj (Qc [] (Yp []))) [] vs false ((0:Nat):Int)
   apply ZN (Ye (by simp))
   exact ZN (by simp) (d0n [] vs)
  | cons m r=>
   have hlt:0<p.length:=by rw[hpc];simp
   have e0:p[0]=m:=by simp[hpc]
   rw[<- hpc]
   have hm:=hpm _ (List.getElem_mem hlt)
   have ed:p=p[0]::p.drop 1:=(List.drop_eq_getElem_cons hlt).symm▸rfl
   have eg:Pv vs [] false p=evH vs [] false [p[0].c] p[0].v (p.drop 1):=by
    rw[<- Fb]
    have:=List.drop_eq_getElem_cons hlt
    rw[List.drop_zero]at this
    rw[<- this]
   rw[eg]
   apply Rl (G:=Zj (evH vs [] false [p[0].c] p[0].v (p.drop 1))) p vs false ((0:Nat):Int)
   apply ZU (Z9 hlt)
   refine⟨Zq hlt rfl,ZF hlt ?_⟩
   have:=d1a p vs hv 0 (by omega) hlt p[0].v hm (evH vs [] false [p[0].c] p[0].v (p.drop 1)) (fun l bd' hl hR=>by
    rw[hR]
    exact Oi p vs hp hv (p.length - 1) 1 ([]++[l]) bd' (by omega) (by simp) (by omega) (fun x hx=>by
     rw[List.nil_append]at hx
     rw[List.mem_singleton.1 hx];exact hl)) p[0].v.length 0 [p[0].c] false (by omega) rfl rfl
   have eL:(((PV.asXs (List.getD (PV.cells (enc p[0])) (0+1) default)).length:Nat):Int)=(p[0].v.length:Int):=by
    show(((p[0].v.map (enc:Str->PV)).length:Nat):Int)=_
    rw[List.length_map]
   rw[eL]
   exact this
end Go.Pl

namespace Go.Pl
open Go.RowKit
open Enc (enc dec is)
open EncL (encL decL isL)
set_option maxRecDepth 100000
def YT:IC:=(.seq (.reg [⟨(some 3),(.box 2 (.t 0)),0,none⟩,⟨(some 5),(.box 1 (.t 2)),1,none⟩,⟨(some 6),(.alloc (.int .i64 0)),2,none⟩,⟨(some 7),(.alloc (.int .i64 0)),3,none⟩] none) (.seq (.seq (.reg [⟨(some 19),(.load true [(.sl 1),(.int .i64)] (.t 3)),0,none⟩,⟨(some 20),(.mv (.t 1)),0,none⟩,⟨(some 21),(.load false [(.sl 2)] (.t 5)),0,none⟩,⟨(some 22),(.call (.c (.fn 122)) [(.t 21)]),0,none⟩,⟨(some 23),(.load false [(.sl 2)] (.t 5)),2,none⟩,⟨(some 24),(.call (.c (.fn 123)) [(.t 23)]),2,none⟩,⟨(some 25),(.call (.c (.fn 116)) [(.t 19),(.t 20),(.t 22),(.t 24)]),4,none⟩,⟨(some 8),(.mv (.t 25)),6,none⟩] (some [[],[],[],[2],[],[4,3,2],[0,1,3,5,2,4],[6,0,1,2,3,4,5]])) (.seq (.reg [⟨(some 26),(.mv (.t 8)),0,none⟩,⟨(some 27),(.bin .num .neq (.t 26) (.c (.int .i64 0))),0,none⟩] none) (.cond (.t 27) (.seq (.reg [⟨(some 28),(.mv (.t 8)),0,none⟩,⟨none,(.store 1 (.t 6) (.c (.int .i64 0))),0,none⟩,⟨none,(.store 1 (.t 7) (.t 28)),0,none⟩] none) .ret) .skip))) (.seq (.reg [⟨(some 9),(.alloc (.sl 0 true [])),0,none⟩,⟨(some 10),(.alloc (.sl 0 true [])),1,none⟩] none) (.seq (.reg [⟨(some 29),(.mkfn 124 [] [(.t 9),(.t 10)]),0,none⟩,⟨(some 11),(.alloc .nilfn),0,none⟩,⟨none,(.store 1 (.t 11) (.t 29)),1,none⟩] none) (.seq (.seq (.reg [⟨(some 30),(.load true [(.sl 1),(.int .i64)] (.t 3)),0,none⟩,⟨(some 31),(.mv (.t 1)),0,none⟩,⟨(some 32),(.call (.c (.fn 117)) [(.t 30),(.t 31)]),0,none⟩] none) (.block 0 (.ext 0 [32,34,5,13,36,37,38,35,39,40,15,41,42,6,7,11,14,43,44,9,10]))) (.seq (.reg [⟨(some 16),(.mv (.c (.int .i64 0))),0,none⟩,⟨(some 17),(.mv (.c (.int .i64 0))),0,none⟩] none) (.seq (.seq (.reg [⟨(some 46),(.load false [(.sl 1)] (.t 9)),0,none⟩,⟨(some 47),(.len 1 (.t 46)),0,none⟩,⟨(some 48),(.mv (.c (.int .i64 0))),0,none⟩] none) (.block 2 (.loop [48,47,16,9,17,10,6,7] (.seq (.reg [⟨(some 49),(.bin .num .lss (.t 48) (.t 47)),0,none⟩] none) (.seq (.cond (.t 49) .skip (.exit 2)) (.seq (.block 3 (.seq (.reg [⟨(some 50),(.mv (.t 48)),0,none⟩,⟨(some 18),(.mv (.t 50)),0,none⟩] none) (.reg [⟨(some 51),(.mv (.t 16)),0,none⟩,⟨(some 52),(.load false [(.sl 1)] (.t 9)),0,none⟩,⟨(some 53),(.mv (.t 18)),0,none⟩,⟨(some 54),(.iaddr 1 (.t 52) (.t 53)),0,none⟩,⟨(some 55),(.load false [(.int .i64)] (.t 54)),0,none⟩,⟨(some 56),(.bin .num .add (.t 51) (.t 55)),0,none⟩,⟨(some 57),(.mv (.t 17)),0,none⟩,⟨(some 58),(.load false [(.sl 1)] (.t 10)),0,none⟩,⟨(some 59),(.mv (.t 18)),0,none⟩,⟨(some 60),(.iaddr 1 (.t 58) (.t 59)),0,none⟩,⟨(some 61),(.load false [(.int .i64)] (.t 60)),0,none⟩,⟨(some 62),(.bin .num .add (.t 57) (.t 61)),0,none⟩,⟨(some 16),(.mv (.t 56)),0,none⟩,⟨(some 17),(.mv (.t 62)),0,none⟩] (some [[],[],[],[1,2],[3,1,2],[0,4,3,1,2],[],[],[],[7,8],[9,7,8],[6,10,9,7,8],[5,0,1,2,3,4],[11,12,0,1,2,3,4,5,6,7,8,9,10]])))) (.reg [⟨(some 63),(.bin .num .add (.t 48) (.c (.int .i64 1))),0,none⟩,⟨(some 48),(.mv (.t 63)),0,none⟩] none))))))) (.seq (.reg [⟨(some 64),(.mv (.t 16)),0,none⟩,⟨(some 65),(.mv (.t 17)),0,none⟩,⟨(some 66),(.bin .num .shr (.t 65) (.c (.int .u64 31))),0,none⟩,⟨(some 67),(.bin .num .add (.t 64) (.t 66)),0,none⟩,⟨(some 68),(.mv (.t 17)),0,none⟩,⟨(some 69),(.bin .num .and (.t 68) (.c (.int .i64 2147483647))),0,none⟩,⟨(some 16),(.mv (.t 67)),0,none⟩,⟨(some 17),(.mv (.t 69)),0,none⟩] none) (.seq (.reg [⟨(some 70),(.mv (.t 16)),0,none⟩,⟨(some 71),(.mv (.t 17)),0,none⟩,⟨(some 72),(.bslice 3 1 2 (.int .i64 0) [(0,(.t 70)),(1,(.t 71))]),0,none⟩,⟨(some 73),(.bslice 3 1 2 (.int .i64 0) [(0,(.c (.int .i64 2147483648))),(1,(.c (.int .i64 1)))]),1,none⟩,⟨(some 74),(.call (.c (.fn 126)) [(.t 72),(.t 73)]),2,none⟩,⟨(some 75),(.extract (.t 74) 0),4,none⟩,⟨(some 76),(.extract (.t 74) 1),4,none⟩,⟨none,(.store 1 (.t 6) (.t 75)),4,none⟩,⟨none,(.store 1 (.t 7) (.t 76)),4,none⟩] none) .ret)))))))))
def Y8:List IRes:=[(.cell false 1 6),(.cell false 1 7)]
abbrev a7w:Nat:=77
def YO:ZK:=Xp [(122,.pure (preT (fun x:List Mono×Unit=>Yf x.1)) (Zf (fun x:List Mono×Unit=>ZC x.1))),(123,.own Ja Cg),(116,.pure (preT (fun x:BoxT×List Fact×Bool×NilS×Unit=>ZW x.1&&Zo x.2.1&&decide (x.2.1.length<=100))) (Zf (fun x:BoxT×List Fact×Bool×NilS×Unit=>Zm x.1 x.2.1 x.2.2.1 []))),(117,.own Y9 WL),(125,.pure (preT (fun x:List Mono×List Coef×Unit=>Yf x.1&&Zn x.2.1)) (Zf (fun x:List Mono×List Coef×Unit=>Z7 x.1 x.2.1))),(124,.own Um UX),(126,.pure (preT (fun x:List Int×List Int×Unit=>decide (x.1.length<=10000)&&decide (x.2.1.length<=10000))) (Zf (fun x:List Int×List Int×Unit=>GQ x.1 x.2.1)))]
theorem b7e{G:PV->Prop}(E:YA)(b:BoxT)(fs:List Fact)(p:List Mono)(h:(Go.Pl.preT (fun(x:List Mono×Unit)=>Yf x.1) [(.sl 2 false (List.map enc p))])=true∧(∃ y0:Bool,AV.pv (Zf (fun(x:List Mono×Unit)=>ZC x.1) [(.sl 2 false (List.map enc p))])=AV.pv (enc y0)∧((Ja [(.pv (.sl 2 false (List.map enc p)))] [])=true∧((Go.Pl.preT (fun(x:BoxT×List Fact×Bool×NilS×Unit)=>ZW x.1&&Zo x.2.1&&decide (List.length x.2.1<=100)) [(.agg [(.sl 1 false (List.map enc b.v)),(.int .i64 b.m)]),(.sl 3 false (List.map enc fs)),(.bool y0),(.sl 0 true [])])=true∧(∃ y1:Int,AV.pv (Zf (fun(x:BoxT×List Fact×Bool×NilS×Unit)=>Zm x.1 x.2.1 x.2.2.1 []) [(.agg [(.sl 1 false (List.map enc b.v)),(.int .i64 b.m)]),(.sl 3 false (List.map enc fs)),(.bool y0),(.sl 0 true [])])=AV.pv (enc y1)∧(if (y1 != 0)=true then G ((.tup [(.int .i64 0),(.int .i64 y1)]))else((Y9 [(.pv (.agg [(.sl 1 false (List.map enc b.v)),(.int .i64 b.m)])),(.pv (.sl 3 false (List.map enc fs)))] [])=true∧(E 0 ⟨ZX 77 0 [(5,(.ptr 0 0)),(6,(.ptr 1 0)),(7,(.ptr 2 0)),(9,(.ptr 3 0)),(10,(.ptr 4 0)),(11,(.ptr 5 0)),(13,.undef),(14,.undef),(15,.undef),(32,(.fn 177 [] [(.ptr 6 0),(.ptr 7 0)])),(34,.undef),(35,.undef),(36,.undef),(37,.undef),(38,.undef),(39,.undef),(40,.undef),(41,.undef),(42,.undef),(43,.undef),(44,.undef)],[(.obj (.box [(.pv (.sl 2 false (List.map enc p)))])),(.obj (.box [(.pv (.int .i64 0))])),(.obj (.box [(.pv (.int .i64 0))])),(.obj (.box [(.pv (.sl 0 true []))])),(.obj (.box [(.pv (.sl 0 true []))])),(.obj (.box [(.fn 124 [] [(.ptr 3 0),(.ptr 4 0)])])),(.obj (.box [(.pv (.sl 1 false (List.map enc b.v))),(.pv (.int .i64 b.m))])),(.obj (.box [(.pv (.sl 3 false (List.map enc fs)))]))]⟩ (fun x S'=>Jj YO E 0 (Za Y8 G) YT 0 x S'))))))))):ZI YO E 0 (Za Y8 G) (.inl YT) [] (Yr 77 [enc b,enc fs,enc p]):=ZI.mp (.req (.abs (Bool) (fun YY=>AV.pv (enc YY)) (.req (.keep (.req (.abs (Int) (fun YY=>AV.pv (enc YY)) (.lit (.ask (.nil) (.req (.keep (.nil))))))))))) h (by kernel_rfl)
theorem a2x{G:PV->Prop}(E:YA)(b:BoxT)(fs:List Fact)(p:List Mono)(h : ∃ y0:Int×Int,AV.pv (Zf (fun(x:List Int×List Int×Unit)=>GQ x.1 x.2.1) [(.sl 1 false [(.int .i64 0),(.int .i64 0)]),(.sl 1 false [(.int .i64 2147483648),(.int .i64 1)])])=AV.pv (enc y0)∧(G ((.tup [(.int .i64 y0.1),(.int .i64 y0.2)])))):AtM YO E 0 (Za Y8 G) YT 0 77 [(6,.ptr 0 0),(7,.ptr 1 0),(9,.ptr 2 0),(10,.ptr 3 0),(16,.pv (.int .i64 0)),(17,.pv (.int .i64 0)),(47,.pv (.int .i64 0)),(48,.pv (.int .i64 0))] [.obj (.box [.pv (.int .i64 0)]),.obj (.box [.pv (.int .i64 0)]),.obj (.box [.pv (.sl 0 true [])]),.obj (.box [.pv (.sl 0 true [])])]:=ZI.mp (.lit (.lit (.lit (.lit (.lit (.lit (.lit (.lit (.lit (.lit (.abs (Int×Int) (fun YY=>AV.pv (enc YY)) (.nil)))))))))))) h (by kernel_rfl)
theorem Tg{G:PV->Prop}(E:YA)(b:BoxT)(fs:List Fact)(p:List Mono)(u z i:Int)(n:Nat)(xs ys:List Int)(h:if (decide (i<(↑n:Int)))=true then(decide (0<=i)&&decide (0+Int.toNat i<n)&&List.length (List.map enc xs)==n)=true∧((List.length (List.map enc xs)==n&&decide (0+Int.toNat i<List.length (List.map enc xs)))=true∧((decide (0+List.length [Sh.int .i64]<=List.length (PV.cells (List.getD (List.map enc xs) (0+Int.toNat i) default)))&&XW (PV.cells (List.getD (List.map enc xs) (0+Int.toNat i) default)) 0 [Sh.int .i64])=true∧((decide (0<=i)&&decide (0+Int.toNat i<n)&&List.length (List.map enc ys)==n)=true∧((List.length (List.map enc ys)==n&&decide (0+Int.toNat i<List.length (List.map enc ys)))=true∧((decide (0+List.length [Sh.int .i64]<=List.length (PV.cells (List.getD (List.map enc ys) (0+Int.toNat i) default)))&&XW (PV.cells (List.getD (List.map enc ys) (0+Int.toNat i) default)) 0 [Sh.int .i64])=true∧(AtM YO E 0 (Za Y8 G) YT 0 77 [(6,(.ptr 0 0)),(7,(.ptr 1 0)),(9,(.ptr 2 0)),(10,(.ptr 3 0)),(16,(.pv (.int .i64 (IntKind.wrap IntKind.i64 (u+PV.asInt (List.getD (PV.cells (List.getD (List.map enc xs) (0+Int.toNat i) default)) 0 default)))))),(17,(.pv (.int .i64 (IntKind.wrap IntKind.i64 (z+PV.asInt (List.getD (PV.cells (List.getD (List.map enc ys) (0+Int.toNat i) default)) 0 default)))))),(47,(.pv (.int .i64 (↑n:Int)))),(48,(.pv (.int .i64 (IntKind.wrap IntKind.i64 (i+1)))))] [(.obj (.box [(.pv (.int .i64 0))])),(.obj (.box [(.pv (.int .i64 0))])),(.obj (.box [(.row 4 n 0 n)])),(.obj (.box [(.row 5 n 0 n)])),(.obj (.row false 3 1 (List.map enc xs))),(.obj (.row false 3 1 (List.map enc ys)))]))))))else(∃ y0:Int×Int,AV.pv (Zf (fun(x:List Int×List Int×Unit)=>GQ x.1 x.2.1) [(.sl 1 false [(.int .i64 (IntKind.wrap IntKind.i64 (u+Int.fdiv z (2 ^ min (Int.toNat 31) (IntKind.bits IntKind.i64))))),(.int .i64 (IntKind.wrap IntKind.i64 (↑(BitVec.toNat (BitVec.ofInt (IntKind.bits IntKind.i64) z &&& BitVec.ofInt (IntKind.bits IntKind.i64) 2147483647)):Int)))]),(.sl 1 false [(.int .i64 2147483648),(.int .i64 1)])])=AV.pv (enc y0)∧(G ((.tup [(.int .i64 y0.1),(.int .i64 y0.2)]))))):AtM YO E 0 (Za Y8 G) YT 0 77 [(6,.ptr 0 0),(7,.ptr 1 0),(9,.ptr 2 0),(10,.ptr 3 0),(16,.pv (.int .i64 u)),(17,.pv (.int .i64 z)),(47,.pv (.int .i64 n)),(48,.pv (.int .i64 i))] [.obj (.box [.pv (.int .i64 0)]),.obj (.box [.pv (.int .i64 0)]),.obj (.box [.row 4 n 0 n]),.obj (.box [.row 5 n 0 n]),.obj (.row false 3 1 (xs.map enc)),.obj (.row false 3 1 (ys.map enc))]:=ZI.mp (.lit (.ask (.req (.keep (.req (.req (.lit (.req (.keep (.req (.req (.lit (.lit (.nil)))))))))))) (.lit (.lit (.lit (.lit (.lit (.lit (.lit (.lit (.abs (Int×Int) (fun YY=>AV.pv (enc YY)) (.nil)))))))))))) h (by kernel_rfl)
theorem a6g{G:PV->Prop}(E:YA)(b:BoxT)(fs:List Fact)(p:List Mono)(h:AtM YO E 0 (Za Y8 G) YT 0 77 [(6,(.ptr 0 0)),(7,(.ptr 1 0)),(9,(.ptr 2 0)),(10,(.ptr 3 0)),(16,(.pv (.int .i64 0))),(17,(.pv (.int .i64 0))),(47,(.pv (.int .i64 0))),(48,(.pv (.int .i64 0)))] [(.obj (.box [(.pv (.int .i64 0))])),(.obj (.box [(.pv (.int .i64 0))])),(.obj (.box [(.pv (.sl 0 true []))])),(.obj (.box [(.pv (.sl 0 true []))]))]):Jj YO E 0 (Za Y8 G) YT 0 .normal ⟨ZX 77 0 [(5,.ptr 0 0),(6,.ptr 1 0),(7,.ptr 2 0),(9,.ptr 3 0),(10,.ptr 4 0),(11,.ptr 5 0)],[.obj (.box [.pv (enc p)]),.obj (.box [.pv (.int .i64 0)]),.obj (.box [.pv (.int .i64 0)]),.obj (.box [.pv (.sl 0 true [])]),.obj (.box [.pv (.sl 0 true [])]),.obj (.box [.fn 124 [] [.ptr 3 0,.ptr 4 0]])]⟩:=ZI.mp (.nil) h (by kernel_rfl)
theorem a3f{G:PV->Prop}(E:YA)(b:BoxT)(fs:List Fact)(p:List Mono)(n:Nat)(xs ys:List Int)(h:AtM YO E 0 (Za Y8 G) YT 0 77 [(6,(.ptr 0 0)),(7,(.ptr 1 0)),(9,(.ptr 2 0)),(10,(.ptr 3 0)),(16,(.pv (.int .i64 0))),(17,(.pv (.int .i64 0))),(47,(.pv (.int .i64 (↑(n - 0):Int)))),(48,(.pv (.int .i64 0)))] [(.obj (.box [(.pv (.int .i64 0))])),(.obj (.box [(.pv (.int .i64 0))])),(.obj (.box [(.row 4 n 0 n)])),(.obj (.box [(.row 5 n 0 n)])),(.obj (.row false 3 1 (List.map enc xs))),(.obj (.row false 3 1 (List.map enc ys)))]):Jj YO E 0 (Za Y8 G) YT 0 .normal ⟨ZX 77 0 [(5,.ptr 0 0),(6,.ptr 1 0),(7,.ptr 2 0),(9,.ptr 3 0),(10,.ptr 4 0),(11,.ptr 5 0)],[.obj (.box [.pv (enc p)]),.obj (.box [.pv (.int .i64 0)]),.obj (.box [.pv (.int .i64 0)]),.obj (.box [.row 6 n 0 n]),.obj (.box [.row 7 n 0 n]),.obj (.box [.fn 124 [] [.ptr 3 0,.ptr 4 0]]),.obj (.row false 3 1 (xs.map enc)),.obj (.row false 3 1 (ys.map enc))]⟩:=ZI.mp (.nil) h (by kernel_rfl)
theorem Ot{G:PV->Prop}(E:YA)(b:BoxT)(fs:List Fact)(p:List Mono)(h:G ((.tup [(.int .i64 0),(.int .i64 2)]))):Jj YO E 0 (Za Y8 G) YT 0 .ret ⟨ZX 77 0 [(5,.ptr 0 0),(6,.ptr 1 0),(7,.ptr 2 0),(9,.ptr 3 0),(10,.ptr 4 0),(11,.ptr 5 0)],[.obj (.box [.pv (enc p)]),.obj (.box [.pv (.int .i64 0)]),.obj (.box [.pv (.int .i64 2)]),.obj (.box [.pv (.sl 0 true [])]),.obj (.box [.pv (.sl 0 true [])]),.obj (.box [.fn 124 [] [.ptr 3 0,.ptr 4 0]]),.fresh,.fresh]⟩:=ZI.mp (.nil) h (by kernel_rfl)
theorem OG{G:PV->Prop}(E:YA)(b:BoxT)(fs:List Fact)(p:List Mono)(n:Nat)(xs ys:List Int)(h:G ((.tup [(.int .i64 0),(.int .i64 2)]))):Jj YO E 0 (Za Y8 G) YT 0 .ret ⟨ZX 77 0 [(5,.ptr 0 0),(6,.ptr 1 0),(7,.ptr 2 0),(9,.ptr 3 0),(10,.ptr 4 0),(11,.ptr 5 0)],[.obj (.box [.pv (enc p)]),.obj (.box [.pv (.int .i64 0)]),.obj (.box [.pv (.int .i64 2)]),.obj (.box [.row 6 n 0 n]),.obj (.box [.row 7 n 0 n]),.obj (.box [.fn 124 [] [.ptr 3 0,.ptr 4 0]]),.obj (.row false 3 1 (xs.map enc)),.obj (.row false 3 1 (ys.map enc)),.fresh,.fresh]⟩:=ZI.mp (.nil) h (by kernel_rfl)
def Vq:IC:=(.block 1 (.seq (.reg [⟨(some 36),(.load false [(.sl 2)] (.t 5)),0,none⟩,⟨(some 37),(.mv (.t 13)),0,none⟩,⟨(some 38),(.call (.c (.fn 125)) [(.t 36),(.t 37)]),0,none⟩,⟨(some 35),(.mv (.t 38)),2,none⟩,⟨(some 39),(.extract (.t 35) 0),2,none⟩,⟨(some 40),(.extract (.t 35) 1),2,none⟩,⟨(some 14),(.mv (.t 39)),2,none⟩,⟨(some 15),(.mv (.t 40)),2,none⟩] none) (.seq (.seq (.reg [⟨(some 41),(.mv (.t 15)),0,none⟩,⟨(some 42),(.bin .num .neq (.t 41) (.c (.int .i64 0))),0,none⟩] none) (.cond (.t 42) (.seq (.reg [⟨none,(.store 1 (.t 6) (.c (.int .i64 0))),0,none⟩,⟨none,(.store 1 (.t 7) (.c (.int .i64 2))),0,none⟩] none) .ret) .skip)) (.reg [⟨(some 43),(.load false [.any] (.t 11)),0,none⟩,⟨(some 44),(.mv (.t 14)),0,none⟩,⟨(some 45),(.call (.t 43) [(.t 44)]),0,none⟩] none))))
def Ch:ZK:=Xp [(122,.pure (preT (fun x:List Mono×Unit=>Yf x.1)) (Zf (fun x:List Mono×Unit=>ZC x.1))),(123,.own Ja Cg),(116,.pure (preT (fun x:BoxT×List Fact×Bool×NilS×Unit=>ZW x.1&&Zo x.2.1&&decide (x.2.1.length<=100))) (Zf (fun x:BoxT×List Fact×Bool×NilS×Unit=>Zm x.1 x.2.1 x.2.2.1 []))),(117,.own Y9 WL),(125,.pure (preT (fun x:List Mono×List Coef×Unit=>Yf x.1&&Zn x.2.1)) (Zf (fun x:List Mono×List Coef×Unit=>Z7 x.1 x.2.1))),(124,.own Um UX),(126,.pure (preT (fun x:List Int×List Int×Unit=>decide (x.1.length<=10000)&&decide (x.2.1.length<=10000))) (Zf (fun x:List Int×List Int×Unit=>GQ x.1 x.2.1)))]
theorem b5w{G:Zw->Prop}(E:YA)(p:List Mono)(q:List Int)(vs:List Coef)(h:(Go.Pl.preT (fun(x:List Mono×List Coef×Unit)=>Yf x.1&&Zn x.2.1) [(.sl 2 false (List.map enc p)),(.sl 2 false (List.map enc vs))])=true∧(∃ y0:Int×Int,AV.pv (Zf (fun(x:List Mono×List Coef×Unit)=>Z7 x.1 x.2.1) [(.sl 2 false (List.map enc p)),(.sl 2 false (List.map enc vs))])=AV.pv (enc y0)∧(if (y0.2 != 0)=true then G ([(.obj (.box [(.pv (.sl 2 false (List.map enc p)))])),(.obj (.box [(.pv (.int .i64 0))])),(.obj (.box [(.pv (.int .i64 2))])),(.obj (.box [(.pv (.sl 0 true []))])),(.obj (.box [(.pv (.sl 0 true []))])),(.obj (.box [(.fn 124 [] [(.ptr 3 0),(.ptr 4 0)])])),.fresh,.fresh])else(E 99 ⟨ZX 77 0 [],[(.obj (.box [(.pv (.sl 2 false (List.map enc p)))])),(.obj (.box [(.pv (.int .i64 0))])),(.obj (.box [(.pv (.int .i64 0))])),(.obj (.box [(.row 6 1 0 1)])),(.obj (.box [(.row 7 1 0 1)])),(.obj (.box [(.fn 124 [] [(.ptr 3 0),(.ptr 4 0)])])),(.obj (.row false 3 1 [(.int .i64 (Wt y0.1))])),(.obj (.row false 3 1 [(.int .i64 (X3 y0.1))]))]⟩ (fun x S'=>Jj Ch E 6 (fun st=>G st.heap) Vq 99 x S'))))):ZI Ch E 6 (fun st=>G st.heap) (.inl Vq) [.seq (.ext 99 [])] ⟨ZX 77 0 [(5,.ptr 0 0),(6,.ptr 1 0),(7,.ptr 2 0),(9,.ptr 3 0),(10,.ptr 4 0),(11,.ptr 5 0),(13,.pv (enc vs)),(33,.pv (enc q)),(34,.pv (enc vs))],[.obj (.box [.pv (enc p)]),.obj (.box [.pv (.int .i64 0)]),.obj (.box [.pv (.int .i64 0)]),.obj (.box [.pv (.sl 0 true [])]),.obj (.box [.pv (.sl 0 true [])]),.obj (.box [.fn 124 [] [.ptr 3 0,.ptr 4 0]])]⟩:=ZI.mh (.req (.abs (Int×Int) (fun YY=>AV.pv (enc YY)) (.lit (.ask (.nil) (.lit (.keep (.nil))))))) h (by kernel_rfl)
theorem a9z{G:Zw->Prop}(E:YA)(p:List Mono)(q:List Int)(vs:List Coef)(n:Nat)(xs ys:List Int)(h:(Go.Pl.preT (fun(x:List Mono×List Coef×Unit)=>Yf x.1&&Zn x.2.1) [(.sl 2 false (List.map enc p)),(.sl 2 false (List.map enc vs))])=true∧(∃ y0:Int×Int,AV.pv (Zf (fun(x:List Mono×List Coef×Unit)=>Z7 x.1 x.2.1) [(.sl 2 false (List.map enc p)),(.sl 2 false (List.map enc vs))])=AV.pv (enc y0)∧(if (y0.2 != 0)=true then G ([(.obj (.box [(.pv (.sl 2 false (List.map enc p)))])),(.obj (.box [(.pv (.int .i64 0))])),(.obj (.box [(.pv (.int .i64 2))])),(.obj (.box [(.row 6 n 0 n)])),(.obj (.box [(.row 7 n 0 n)])),(.obj (.box [(.fn 124 [] [(.ptr 3 0),(.ptr 4 0)])])),(.obj (.row false 3 1 (List.map enc xs))),(.obj (.row false 3 1 (List.map enc ys))),.fresh,.fresh])else((Um [(.pv (.int .i64 y0.1)),(.ptr 0 0),(.ptr 1 0)] [(.box [(.row 2 n 0 n)]),(.box [(.row 3 n 0 n)]),(.row false 3 1 (List.map enc xs)),(.row false 3 1 (List.map enc ys))])=true∧(E 99 ⟨ZX 77 0 [],[(.obj (.box [(.pv (.sl 2 false (List.map enc p)))])),(.obj (.box [(.pv (.int .i64 0))])),(.obj (.box [(.pv (.int .i64 0))])),(.obj (.box [(.row 6 (n+1) 0 (n+1))])),(.obj (.box [(.row 7 (n+1) 0 (n+1))])),(.obj (.box [(.fn 124 [] [(.ptr 3 0),(.ptr 4 0)])])),(.obj (.row false 3 1 (List.map enc xs++[PV.int .i64 (Wt y0.1)]))),(.obj (.row false 3 1 (List.map enc ys++[PV.int .i64 (X3 y0.1)])))]⟩ (fun x S'=>Jj Ch E 8 (fun st=>G st.heap) Vq 99 x S')))))):ZI Ch E 8 (fun st=>G st.heap) (.inl Vq) [.seq (.ext 99 [])] ⟨ZX 77 0 [(5,.ptr 0 0),(6,.ptr 1 0),(7,.ptr 2 0),(9,.ptr 3 0),(10,.ptr 4 0),(11,.ptr 5 0),(13,.pv (enc vs)),(33,.pv (enc q)),(34,.pv (enc vs))],[.obj (.box [.pv (enc p)]),.obj (.box [.pv (.int .i64 0)]),.obj (.box [.pv (.int .i64 0)]),.obj (.box [.row 6 n 0 n]),.obj (.box [.row 7 n 0 n]),.obj (.box [.fn 124 [] [.ptr 3 0,.ptr 4 0]]),.obj (.row false 3 1 (xs.map enc)),.obj (.row false 3 1 (ys.map enc))]⟩:=ZI.mh (.req (.abs (Int×Int) (fun YY=>AV.pv (enc YY)) (.lit (.ask (.nil) (.req (.keep (.nil))))))) h (by kernel_rfl)
def Y4:IC:=YT
def Y1:List IRes:=[(.cell false 1 6),(.cell false 1 7)]
abbrev a8f:Nat:=77
def YQ:ZK:=Xp [(122,.pure (preT (fun x:List Mono×Unit=>Yf x.1)) (Zf (fun x:List Mono×Unit=>ZC x.1))),(123,.own UZ Nk),(116,.own Ug Q9),(117,.own Y9 WL),(125,.pure (preT (fun x:List Mono×List Coef×Unit=>Yf x.1&&Zn x.2.1)) (Zf (fun x:List Mono×List Coef×Unit=>Z7 x.1 x.2.1))),(124,.own Um UX),(126,.pure (preT (fun x:List Int×List Int×Unit=>decide (x.1.length<=10000)&&decide (x.2.1.length<=10000))) (Zf (fun x:List Int×List Int×Unit=>GQ x.1 x.2.1)))]
theorem b8v{G:PV->Prop}(E:YA)(b:BoxT)(fs:List Fact)(p:List Mono)(h:(Go.Pl.preT (fun(x:List Mono×Unit)=>Yf x.1) [(.sl 2 false (List.map enc p))])=true∧(∃ y0:Bool,AV.pv (Zf (fun(x:List Mono×Unit)=>ZC x.1) [(.sl 2 false (List.map enc p))])=AV.pv (enc y0)∧((UZ [(.pv (.sl 2 false (List.map enc p)))] [])=true∧((Ug [(.pv (.agg [(.sl 1 false (List.map enc b.v)),(.int .i64 b.m)])),(.pv (.sl 3 false (List.map enc fs))),(.pv (.bool y0)),(.row 0 (List.length (Yo (V4 (enc p)))) 0 (List.length (Yo (V4 (enc p)))))] [(.row false 9 1 (List.map enc (Yo (V4 (enc p)))))])=true∧(if (Zm (OA (PV.agg [enc b.v,enc b.m])) (BS (enc fs)) y0 (KM (List.map enc (Yo (V4 (enc p))))) != 0)=true then G ((.tup [(.int .i64 0),(.int .i64 (Zm (OA (PV.agg [enc b.v,enc b.m])) (BS (enc fs)) y0 (KM (List.map enc (Yo (V4 (enc p)))))))]))else((Y9 [(.pv (.agg [(.sl 1 false (List.map enc b.v)),(.int .i64 b.m)])),(.pv (.sl 3 false (List.map enc fs)))] [])=true∧(E 0 ⟨ZX 77 0 [(5,(.ptr 0 0)),(6,(.ptr 1 0)),(7,(.ptr 2 0)),(9,(.ptr 3 0)),(10,(.ptr 4 0)),(11,(.ptr 5 0)),(13,.undef),(14,.undef),(15,.undef),(32,(.fn 177 [] [(.ptr 6 0),(.ptr 7 0)])),(34,.undef),(35,.undef),(36,.undef),(37,.undef),(38,.undef),(39,.undef),(40,.undef),(41,.undef),(42,.undef),(43,.undef),(44,.undef)],[(.obj (.box [(.pv (.sl 2 false (List.map enc p)))])),(.obj (.box [(.pv (.int .i64 0))])),(.obj (.box [(.pv (.int .i64 0))])),(.obj (.box [(.pv (.sl 0 true []))])),(.obj (.box [(.pv (.sl 0 true []))])),(.obj (.box [(.fn 124 [] [(.ptr 3 0),(.ptr 4 0)])])),(.obj (.box [(.pv (.sl 1 false (List.map enc b.v))),(.pv (.int .i64 b.m))])),(.obj (.box [(.pv (.sl 3 false (List.map enc fs)))]))]⟩ (fun x S'=>Jj YQ E 0 (Za Y1 G) Y4 0 x S')))))))):ZI YQ E 0 (Za Y1 G) (.inl Y4) [] (Yr 77 [enc b,enc fs,enc p]):=ZI.mp (.req (.abs (Bool) (fun YY=>AV.pv (enc YY)) (.req (.keep (.req (.keep (.lit (.ask (.nil) (.req (.keep (.nil))))))))))) h (by kernel_rfl)
theorem a3h{G:PV->Prop}(E:YA)(b:BoxT)(fs:List Fact)(p:List Mono)(h : ∃ y0:Int×Int,AV.pv (Zf (fun(x:List Int×List Int×Unit)=>GQ x.1 x.2.1) [(.sl 1 false [(.int .i64 0),(.int .i64 0)]),(.sl 1 false [(.int .i64 2147483648),(.int .i64 1)])])=AV.pv (enc y0)∧(G ((.tup [(.int .i64 y0.1),(.int .i64 y0.2)])))):AtM YQ E 0 (Za Y1 G) Y4 0 77 [(6,.ptr 0 0),(7,.ptr 1 0),(9,.ptr 2 0),(10,.ptr 3 0),(16,.pv (.int .i64 0)),(17,.pv (.int .i64 0)),(47,.pv (.int .i64 0)),(48,.pv (.int .i64 0))] [.obj (.box [.pv (.int .i64 0)]),.obj (.box [.pv (.int .i64 0)]),.obj (.box [.pv (.sl 0 true [])]),.obj (.box [.pv (.sl 0 true [])])]:=ZI.mp (.lit (.lit (.lit (.lit (.lit (.lit (.lit (.lit (.lit (.lit (.abs (Int×Int) (fun YY=>AV.pv (enc YY)) (.nil)))))))))))) h (by kernel_rfl)
theorem Tk{G:PV->Prop}(E:YA)(b:BoxT)(fs:List Fact)(p:List Mono)(u z i:Int)(n:Nat)(xs ys:List Int)(h:if (decide (i<(↑n:Int)))=true then(decide (0<=i)&&decide (0+Int.toNat i<n)&&List.length (List.map enc xs)==n)=true∧((List.length (List.map enc xs)==n&&decide (0+Int.toNat i<List.length (List.map enc xs)))=true∧((decide (0+List.length [Sh.int .i64]<=List.length (PV.cells (List.getD (List.map enc xs) (0+Int.toNat i) default)))&&XW (PV.cells (List.getD (List.map enc xs) (0+Int.toNat i) default)) 0 [Sh.int .i64])=true∧((decide (0<=i)&&decide (0+Int.toNat i<n)&&List.length (List.map enc ys)==n)=true∧((List.length (List.map enc ys)==n&&decide (0+Int.toNat i<List.length (List.map enc ys)))=true∧((decide (0+List.length [Sh.int .i64]<=List.length (PV.cells (List.getD (List.map enc ys) (0+Int.toNat i) default)))&&XW (PV.cells (List.getD (List.map enc ys) (0+Int.toNat i) default)) 0 [Sh.int .i64])=true∧(AtM YQ E 0 (Za Y1 G) Y4 0 77 [(6,(.ptr 0 0)),(7,(.ptr 1 0)),(9,(.ptr 2 0)),(10,(.ptr 3 0)),(16,(.pv (.int .i64 (IntKind.wrap IntKind.i64 (u+PV.asInt (List.getD (PV.cells (List.getD (List.map enc xs) (0+Int.toNat i) default)) 0 default)))))),(17,(.pv (.int .i64 (IntKind.wrap IntKind.i64 (z+PV.asInt (List.getD (PV.cells (List.getD (List.map enc ys) (0+Int.toNat i) default)) 0 default)))))),(47,(.pv (.int .i64 (↑n:Int)))),(48,(.pv (.int .i64 (IntKind.wrap IntKind.i64 (i+1)))))] [(.obj (.box [(.pv (.int .i64 0))])),(.obj (.box [(.pv (.int .i64 0))])),(.obj (.box [(.row 4 n 0 n)])),(.obj (.box [(.row 5 n 0 n)])),(.obj (.row false 3 1 (List.map enc xs))),(.obj (.row false 3 1 (List.map enc ys)))]))))))else(∃ y0:Int×Int,AV.pv (Zf (fun(x:List Int×List Int×Unit)=>GQ x.1 x.2.1) [(.sl 1 false [(.int .i64 (IntKind.wrap IntKind.i64 (u+Int.fdiv z (2 ^ min (Int.toNat 31) (IntKind.bits IntKind.i64))))),(.int .i64 (IntKind.wrap IntKind.i64 (↑(BitVec.toNat (BitVec.ofInt (IntKind.bits IntKind.i64) z &&& BitVec.ofInt (IntKind.bits IntKind.i64) 2147483647)):Int)))]),(.sl 1 false [(.int .i64 2147483648),(.int .i64 1)])])=AV.pv (enc y0)∧(G ((.tup [(.int .i64 y0.1),(.int .i64 y0.2)]))))):AtM YQ E 0 (Za Y1 G) Y4 0 77 [(6,.ptr 0 0),(7,.ptr 1 0),(9,.ptr 2 0),(10,.ptr 3 0),(16,.pv (.int .i64 u)),(17,.pv (.int .i64 z)),(47,.pv (.int .i64 n)),(48,.pv (.int .i64 i))] [.obj (.box [.pv (.int .i64 0)]),.obj (.box [.pv (.int .i64 0)]),.obj (.box [.row 4 n 0 n]),.obj (.box [.row 5 n 0 n]),.obj (.row false 3 1 (xs.map enc)),.obj (.row false 3 1 (ys.map enc))]:=ZI.mp (.lit (.ask (.req (.keep (.req (.req (.lit (.req (.keep (.req (.req (.lit (.lit (.nil)))))))))))) (.lit (.lit (.lit (.lit (.lit (.lit (.lit (.lit (.abs (Int×Int) (fun YY=>AV.pv (enc YY)) (.nil)))))))))))) h (by kernel_rfl)
theorem a3s{G:PV->Prop}(E:YA)(b:BoxT)(fs:List Fact)(p:List Mono)(h:AtM YQ E 0 (Za Y1 G) Y4 0 77 [(6,(.ptr 0 0)),(7,(.ptr 1 0)),(9,(.ptr 2 0)),(10,(.ptr 3 0)),(16,(.pv (.int .i64 0))),(17,(.pv (.int .i64 0))),(47,(.pv (.int .i64 0))),(48,(.pv (.int .i64 0)))] [(.obj (.box [(.pv (.int .i64 0))])),(.obj (.box [(.pv (.int .i64 0))])),(.obj (.box [(.pv (.sl 0 true []))])),(.obj (.box [(.pv (.sl 0 true []))]))]):Jj YQ E 0 (Za Y1 G) Y4 0 .normal ⟨ZX 77 0 [(5,.ptr 0 0),(6,.ptr 1 0),(7,.ptr 2 0),(9,.ptr 3 0),(10,.ptr 4 0),(11,.ptr 5 0)],[.obj (.box [.pv (enc p)]),.obj (.box [.pv (.int .i64 0)]),.obj (.box [.pv (.int .i64 0)]),.obj (.box [.pv (.sl 0 true [])]),.obj (.box [.pv (.sl 0 true [])]),.obj (.box [.fn 124 [] [.ptr 3 0,.ptr 4 0]])]⟩:=ZI.mp (.nil) h (by kernel_rfl)
theorem a6o{G:PV->Prop}(E:YA)(b:BoxT)(fs:List Fact)(p:List Mono)(n:Nat)(xs ys:List Int)(h:AtM YQ E 0 (Za Y1 G) Y4 0 77 [(6,(.ptr 0 0)),(7,(.ptr 1 0)),(9,(.ptr 2 0)),(10,(.ptr 3 0)),(16,(.pv (.int .i64 0))),(17,(.pv (.int .i64 0))),(47,(.pv (.int .i64 (↑(n - 0):Int)))),(48,(.pv (.int .i64 0)))] [(.obj (.box [(.pv (.int .i64 0))])),(.obj (.box [(.pv (.int .i64 0))])),(.obj (.box [(.row 4 n 0 n)])),(.obj (.box [(.row 5 n 0 n)])),(.obj (.row false 3 1 (List.map enc xs))),(.obj (.row false 3 1 (List.map enc ys)))]):Jj YQ E 0 (Za Y1 G) Y4 0 .normal ⟨ZX 77 0 [(5,.ptr 0 0),(6,.ptr 1 0),(7,.ptr 2 0),(9,.ptr 3 0),(10,.ptr 4 0),(11,.ptr 5 0)],[.obj (.box [.pv (enc p)]),.obj (.box [.pv (.int .i64 0)]),.obj (.box [.pv (.int .i64 0)]),.obj (.box [.row 6 n 0 n]),.obj (.box [.row 7 n 0 n]),.obj (.box [.fn 124 [] [.ptr 3 0,.ptr 4 0]]),.obj (.row false 3 1 (xs.map enc)),.obj (.row false 3 1 (ys.map enc))]⟩:=ZI.mp (.nil) h (by kernel_rfl)
theorem EU{G:PV->Prop}(E:YA)(b:BoxT)(fs:List Fact)(p:List Mono)(h:G ((.tup [(.int .i64 0),(.int .i64 2)]))):Jj YQ E 0 (Za Y1 G) Y4 0 .ret ⟨ZX 77 0 [(5,.ptr 0 0),(6,.ptr 1 0),(7,.ptr 2 0),(9,.ptr 3 0),(10,.ptr 4 0),(11,.ptr 5 0)],[.obj (.box [.pv (enc p)]),.obj (.box [.pv (.int .i64 0)]),.obj (.box [.pv (.int .i64 2)]),.obj (.box [.pv (.sl 0 true [])]),.obj (.box [.pv (.sl 0 true [])]),.obj (.box [.fn 124 [] [.ptr 3 0,.ptr 4 0]]),.fresh,.fresh]⟩:=ZI.mp (.nil) h (by kernel_rfl)
theorem Oc{G:PV->Prop}(E:YA)(b:BoxT)(fs:List Fact)(p:List Mono)(n:Nat)(xs ys:List Int)(h:G ((.tup [(.int .i64 0),(.int .i64 2)]))):Jj YQ E 0 (Za Y1 G) Y4 0 .ret ⟨ZX 77 0 [(5,.ptr 0 0),(6,.ptr 1 0),(7,.ptr 2 0),(9,.ptr 3 0),(10,.ptr 4 0),(11,.ptr 5 0)],[.obj (.box [.pv (enc p)]),.obj (.box [.pv (.int .i64 0)]),.obj (.box [.pv (.int .i64 2)]),.obj (.box [.row 6 n 0 n]),.obj (.box [.row 7 n 0 n]),.obj (.box [.fn 124 [] [.ptr 3 0,.ptr 4 0]]),.obj (.row false 3 1 (xs.map enc)),.obj (.row false 3 1 (ys.map enc)),.fresh,.fresh]⟩:=ZI.mp (.nil) h (by kernel_rfl)
def VZ:IC:=Vq
def Cj:ZK:=Xp [(122,.pure (preT (fun x:List Mono×Unit=>Yf x.1)) (Zf (fun x:List Mono×Unit=>ZC x.1))),(123,.own UZ Nk),(116,.own Ug Q9),(117,.own Y9 WL),(125,.pure (preT (fun x:List Mono×List Coef×Unit=>Yf x.1&&Zn x.2.1)) (Zf (fun x:List Mono×List Coef×Unit=>Z7 x.1 x.2.1))),(124,.own Um UX),(126,.pure (preT (fun x:List Int×List Int×Unit=>decide (x.1.length<=10000)&&decide (x.2.1.length<=10000))) (Zf (fun x:List Int×List Int×Unit=>GQ x.1 x.2.1)))]
theorem b6v{G:Zw->Prop}(E:YA)(p:List Mono)(q:List Int)(vs:List Coef)(h:(Go.Pl.preT (fun(x:List Mono×List Coef×Unit)=>Yf x.1&&Zn x.2.1) [(.sl 2 false (List.map enc p)),(.sl 2 false (List.map enc vs))])=true∧(∃ y0:Int×Int,AV.pv (Zf (fun(x:List Mono×List Coef×Unit)=>Z7 x.1 x.2.1) [(.sl 2 false (List.map enc p)),(.sl 2 false (List.map enc vs))])=AV.pv (enc y0)∧(if (y0.2 != 0)=true then G ([(.obj (.box [(.pv (.sl 2 false (List.map enc p)))])),(.obj (.box [(.pv (.int .i64 0))])),(.obj (.box [(.pv (.int .i64 2))])),(.obj (.box [(.pv (.sl 0 true []))])),(.obj (.box [(.pv (.sl 0 true []))])),(.obj (.box [(.fn 124 [] [(.ptr 3 0),(.ptr 4 0)])])),.fresh,.fresh])else(E 99 ⟨ZX 77 0 [],[(.obj (.box [(.pv (.sl 2 false (List.map enc p)))])),(.obj (.box [(.pv (.int .i64 0))])),(.obj (.box [(.pv (.int .i64 0))])),(.obj (.box [(.row 6 1 0 1)])),(.obj (.box [(.row 7 1 0 1)])),(.obj (.box [(.fn 124 [] [(.ptr 3 0),(.ptr 4 0)])])),(.obj (.row false 3 1 [(.int .i64 (Wt y0.1))])),(.obj (.row false 3 1 [(.int .i64 (X3 y0.1))]))]⟩ (fun x S'=>Jj Cj E 6 (fun st=>G st.heap) VZ 99 x S'))))):ZI Cj E 6 (fun st=>G st.heap) (.inl VZ) [.seq (.ext 99 [])] ⟨ZX 77 0 [(5,.ptr 0 0),(6,.ptr 1 0),(7,.ptr 2 0),(9,.ptr 3 0),(10,.ptr 4 0),(11,.ptr 5 0),(13,.pv (enc vs)),(33,.pv (enc q)),(34,.pv (enc vs))],[.obj (.box [.pv (enc p)]),.obj (.box [.pv (.int .i64 0)]),.obj (.box [.pv (.int .i64 0)]),.obj (.box [.pv (.sl 0 true [])]),.obj (.box [.pv (.sl 0 true [])]),.obj (.box [.fn 124 [] [.ptr 3 0,.ptr 4 0]])]⟩:=ZI.mh (.req (.abs (Int×Int) (fun YY=>AV.pv (enc YY)) (.lit (.ask (.nil) (.lit (.keep (.nil))))))) h (by kernel_rfl)
theorem b0y{G:Zw->Prop}(E:YA)(p:List Mono)(q:List Int)(vs:List Coef)(n:Nat)(xs ys:List Int)(h:(Go.Pl.preT (fun(x:List Mono×List Coef×Unit)=>Yf x.1&&Zn x.2.1) [(.sl 2 false (List.map enc p)),(.sl 2 false (List.map enc vs))])=true∧(∃ y0:Int×Int,AV.pv (Zf (fun(x:List Mono×List Coef×Unit)=>Z7 x.1 x.2.1) [(.sl 2 false (List.map enc p)),(.sl 2 false (List.map enc vs))])=AV.pv (enc y0)∧(if (y0.2 != 0)=true then G ([(.obj (.box [(.pv (.sl 2 false (List.map enc p)))])),(.obj (.box [(.pv (.int .i64 0))])),(.obj (.box [(.pv (.int .i64 2))])),(.obj (.box [(.row 6 n 0 n)])),(.obj (.box [(.row 7 n 0 n)])),(.obj (.box [(.fn 124 [] [(.ptr 3 0),(.ptr 4 0)])])),(.obj (.row false 3 1 (List.map enc xs))),(.obj (.row false 3 1 (List.map enc ys))),.fresh,.fresh])else((Um [(.pv (.int .i64 y0.1)),(.ptr 0 0),(.ptr 1 0)] [(.box [(.row 2 n 0 n)]),(.box [(.row 3 n 0 n)]),(.row false 3 1 (List.map enc xs)),(.row false 3 1 (List.map enc ys))])=true∧(E 99 ⟨ZX 77 0 [],[(.obj (.box [(.pv (.sl 2 false (List.map enc p)))])),(.obj (.box [(.pv (.int .i64 0))])),(.obj (.box [(.pv (.int .i64 0))])),(.obj (.box [(.row 6 (n+1) 0 (n+1))])),(.obj (.box [(.row 7 (n+1) 0 (n+1))])),(.obj (.box [(.fn 124 [] [(.ptr 3 0),(.ptr 4 0)])])),(.obj (.row false 3 1 (List.map enc xs++[PV.int .i64 (Wt y0.1)]))),(.obj (.row false 3 1 (List.map enc ys++[PV.int .i64 (X3 y0.1)])))]⟩ (fun x S'=>Jj Cj E 8 (fun st=>G st.heap) VZ 99 x S')))))):ZI Cj E 8 (fun st=>G st.heap) (.inl VZ) [.seq (.ext 99 [])] ⟨ZX 77 0 [(5,.ptr 0 0),(6,.ptr 1 0),(7,.ptr 2 0),(9,.ptr 3 0),(10,.ptr 4 0),(11,.ptr 5 0),(13,.pv (enc vs)),(33,.pv (enc q)),(34,.pv (enc vs))],[.obj (.box [.pv (enc p)]),.obj (.box [.pv (.int .i64 0)]),.obj (.box [.pv (.int .i64 0)]),.obj (.box [.row 6 n 0 n]),.obj (.box [.row 7 n 0 n]),.obj (.box [.fn 124 [] [.ptr 3 0,.ptr 4 0]]),.obj (.row false 3 1 (xs.map enc)),.obj (.row false 3 1 (ys.map enc))]⟩:=ZI.mh (.req (.abs (Int×Int) (fun YY=>AV.pv (enc YY)) (.lit (.ask (.nil) (.req (.keep (.nil))))))) h (by kernel_rfl)
end Go.Pl

namespace Go.Pl
open Go.RowKit
open Enc (enc dec is)
open EncL (encL decL isL)
theorem J5{a b:Int}: ∀ {l:List Int},(∀ x∈l,a<=x∧x<=b)->l.length*a<=l.sum∧l.sum<=l.length*b
 | [],_=>by simp
 | x::l,h=>by
  have h1:=h x (by simp)
  have h2:=J5 (l:=l) fun y hy=>h y (by simp[hy])
  rw[List.length_cons,List.sum_cons,Int.natCast_add,Int.add_mul,Int.add_mul]
  simp only[Int.natCast_one,Int.one_mul]
  omega
theorem c4m(n:Int):Wt n*2147483648+X3 n=n:=by unfold Wt X3;omega
theorem b0w{n:Int}(h:VT n=true): -2147483648<=Wt n∧Wt n<=2147483648:=by
 unfold VT at h
 simp only[Bool.and_eq_true,decide_eq_true_eq]at h
 unfold Wt;omega
theorem b0j(n:Int):0<=X3 n∧X3 n<=2147483647:=by unfold X3;omega
theorem Bu: ∀ l:List Int,(l.map Wt).sum*2147483648+(l.map X3).sum=l.sum
 | []=>rfl
 | n::l=>by
  have h1:=c4m n
  have h2:=Bu l
  simp only[List.map_cons,List.sum_cons,Int.add_mul]
  omega
theorem Sn{l:List Int}(hl:l.length<=20000)(hr : ∀ x∈l,VT x=true){H L:Int}(hH:H=(l.map Wt).sum+(l.map X3).sum / 2147483648)(hL:L=(l.map X3).sum % 2147483648):
  GQ [H,L] [2147483648,1]=XY l:=by
 have h1:=J5 (l:=l.map Wt) (a:= -2147483648) (b:=2147483648) (by
  intro x hx
  obtain⟨n,hn,rfl⟩:=List.mem_map.1 hx
  exact b0w (hr n hn))
 have h2:=J5 (l:=l.map X3) (a:=0) (b:=2147483647) (by
  intro x hx
  obtain⟨n,hn,rfl⟩:=List.mem_map.1 hx
  exact b0j n)
 have h3:=Bu l
 rw[List.length_map]at h1 h2
 have hd:OM [H,L] [2147483648,1]=l.sum:=by
  show H*2147483648+(L*1+0)=_
  omega
 have ha:l.all VT=true:=List.all_eq_true.2 hr
 have e1:VT H=true:=by
  unfold VT
  rw[decide_eq_true (by omega),decide_eq_true (by omega)];rfl
 have e2:VT L=true:=by
  unfold VT
  rw[decide_eq_true (by omega),decide_eq_true (by omega)];rfl
 unfold GQ XY
 rw[hd,ha,if_pos (by rfl)]
 have:(List.all [H,L] VT&&List.all [(2147483648:Int),1] VT)=true:=by
  simp only[List.all_cons,List.all_nil,Bool.and_true,e1,e2,Bool.and_eq_true]
  decide
 rw[this]
theorem a1l{l:List Int}:VT (XY l).1=true:=by
 unfold XY
 split
 ·rename_i h
  simp only[Bool.and_eq_true]at h
  exact h.2
 ·decide
theorem b1j(p:List Mono)(vs:List Coef):VT (Z7 p vs).1=true:=by
 unfold Z7
 split
 ·split
  ·decide
  ·split
   ·decide
   ·split
    ·decide
    ·exact a1l
 ·decide
theorem Qh{p:List Mono}{vs:List Str}: ∀ {qs:List (List Int)} {l:List Int},Xm p vs qs=some l->l.length=qs.length
 | [],_,h=>by cases h;rfl
 | q::r,l,h=>by
  rw[Xm]at h
  split at h
  ·cases h
  ·obtain⟨m,hm,rfl⟩:=Option.map_eq_some_iff.1 h
   simp[Qh hm]
theorem AX{p:List Mono}{vs:List Str}: ∀ {qs:List (List Int)} {l:List Int},Xm p vs qs=some l-> ∀ x∈l,VT x=true
 | [],_,h=>by cases h;simp
 | q::r,l,h=>by
  rw[Xm]at h
  split at h
  ·cases h
  ·obtain⟨m,hm,rfl⟩:=Option.map_eq_some_iff.1 h
   intro x hx
   rcases List.mem_cons.1 hx with rfl|hx
   ·exact b1j _ _
   ·exact AX hm x hx
theorem Us{p:List Mono}{vs:List Str}{q:List Int}(hq:(Z7 p (Zi vs q)).2=0): ∀ {qs:List (List Int)} {l:List Int},Xm p vs qs=some l->Xm p vs (qs++[q])=some (l++[(Z7 p (Zi vs q)).1])
 | [],_,h=>by cases h;rw[List.nil_append,Xm,if_neg (by simp[hq])];rfl
 | q'::r,l,h=>by
  rw[Xm]at h
  split at h
  ·cases h
  ·rename_i h2
   obtain⟨m,hm,rfl⟩:=Option.map_eq_some_iff.1 h
   rw[List.cons_append,Xm,if_neg h2,Us hq hm];rfl
theorem Sg{p:List Mono}{vs:List Str}{q:List Int}(hq:(Z7 p (Zi vs q)).2≠0){r:List (List Int)}: ∀ (qs:List (List Int)),Xm p vs (qs++q::r)=none
 | []=>by rw[List.nil_append,Xm,if_pos hq]
 | q'::qs=>by
  rw[List.cons_append,Xm,Sg hq qs]
  split <;> rfl
section
variable {α:Type} [Inhabited α] [DecidableEq α]
theorem Pp{d:Array α}{x:α}: ∀ {m:Nat},m<=d.size->x∈Lib.compactUpTo d m-> ∃ j,j<m∧x=d[j]!
 | 0,_,h=>by simp[Lib.compactUpTo]at h
 | m+1,hm,h=>by
  rw[Lib.compactUpTo_succ,List.mem_append]at h
  rcases h with h|h
  ·obtain⟨j,h1,h2⟩:=Pp (by omega) h;exact⟨j,by omega,h2⟩
  ·split at h
   ·exact⟨m,by omega,by simpa using h⟩
   ·simp at h
theorem ND{d:Array α}: ∀ {m:Nat},m<=d.size-> ∀ j,j<m->d[j]! ∈ Lib.compactUpTo d m
 | 0,_,j,h=>by omega
 | m+1,hm,j,h=>by
  rw[Lib.compactUpTo_succ,List.mem_append]
  by_cases hj:j<m
  ·exact .inl (ND (by omega) j hj)
  ·have:j=m:=by omega
   subst this
   cases hk:Lib.keeps d j
   ·refine .inl ?_
    have h0:j≠0∧d[j]! = d[j - 1]! :=by
     unfold Lib.keeps at hk
     simpa [not_or]using hk
    rw[h0.2]
    exact ND (by omega) (j - 1) (by omega)
   ·right;simp
theorem MH{zs:List α}{x:α}:x∈Lib.compact zs ↔ x∈zs:=by
 unfold Lib.compact
 constructor
 ·intro h
  obtain⟨j,h1,rfl⟩:=Pp (by simp) h
  simp[getElem!_pos,h1]
 ·intro h
  obtain⟨j,hj,rfl⟩:=List.getElem_of_mem h
  have:=ND (d:=zs.toArray) (m:=zs.length) (by simp) j hj
  simpa [getElem!_pos,hj]using this
end
theorem a0p{d:Array (List UInt8)}(hs : ∀ i j,i<j->j<d.size->d[i]! <= d[j]!): ∀ {m:Nat},m<=d.size->(Lib.compactUpTo d m).Pairwise (· < ·)
 | 0,_=>by simp[Lib.compactUpTo]
 | m+1,hm=>by
  rw[Lib.compactUpTo_succ,List.pairwise_append]
  refine⟨a0p hs (by omega),by split <;> simp,?_⟩
  intro x hx y hy
  split at hy
  ·rename_i hk
   have hy:y=d[m]! :=by simpa using hy
   subst hy
   obtain⟨j,hj,rfl⟩:=Pp (by omega) hx
   have h0:m≠0:=by omega
   have hne:d[m]! ≠ d[m - 1]! :=by
    unfold Lib.keeps at hk
    simpa [h0]using hk
   have h1:d[m - 1]! <= d[m]! :=hs _ _ (by omega) (by omega)
   have h2:d[j]! <= d[m - 1]! :=by
    by_cases e:j=m - 1
    ·rw[e];exact List.le_refl _
    ·exact hs _ _ (by omega) (by omega)
   have h3:d[m - 1]! < d[m]! :=by
    rcases List.le_iff_lt_or_eq.1 h1 with h|h
    ·exact h
    ·exact absurd h.symm hne
   exact Std.lt_of_le_of_lt h2 h3
  ·simp at hy
theorem a9c(ss:List (List UInt8)):(Wu ss).Pairwise (· <= ·):=by
 have:=List.pairwise_mergeSort (le:=fun x y:List UInt8=>decide (x<=y)) (fun a b c h1 h2=>by
  simp only[decide_eq_true_eq]at *;exact List.le_trans h1 h2) (fun a b=>by
  simp only[Bool.or_eq_true,decide_eq_true_eq];exact List.le_total a b) ss
 exact this.imp fun h=>by simpa using h
theorem a8v(ss:List (List UInt8)):(Lib.compact (Wu ss)).Pairwise (· < ·):=by
 unfold Lib.compact
 refine a0p ?_ (by simp)
 intro i j hij hj
 have hj:j<(Wu ss).length:=by simpa using hj
 have:=List.pairwise_iff_getElem.1 (a9c ss) i j (by omega) hj hij
 simpa [getElem!_pos,hj,show i<(Wu ss).length by omega]using this
theorem RS(p:List Mono)(x:Str):x∈Yo p ↔ x∈XI p:=by
 unfold Yo
 rw[List.mem_map]
 constructor
 ·rintro⟨s,hs,rfl⟩
  have:=(List.mergeSort_perm _ _).mem_iff.1 (MH.1 hs)
  obtain⟨y,hy,e⟩:=List.mem_map.1 this
  cases y;cases e;exact hy
 ·intro h
  exact⟨x.s,MH.2 ((List.mergeSort_perm _ _).mem_iff.2 (List.mem_map.2 ⟨x,h,rfl⟩)),rfl⟩
theorem a6x(p:List Mono):(Yo p).Pairwise fun x y:Str=>x.s<y.s:=by
 unfold Yo Xj
 rw[List.pairwise_map]
 exact a8v _
theorem C9{s x:Str}: ∀ {l:List Str},x∈GN l s ↔ x=s∨x∈l
 | []=>by simp[GN]
 | t::r=>by
  rw[GN]
  split
  ·rw[List.mem_cons,C9,List.mem_cons]
   constructor
   ·rintro(h|h|h) <;> simp[h]
   ·rintro(h|h|h) <;> simp[h]
  ·split
   ·rename_i h;subst h
    simp
   ·simp
theorem M6{s:Str}: ∀ {l:List Str},(l.Pairwise fun x y:Str=>x.s<y.s)->(GN l s).Pairwise fun x y:Str=>x.s<y.s
 | [],_=>by simp[GN]
 | t::r,h=>by
  have ht:=List.pairwise_cons.1 h
  rw[GN]
  split
  ·rename_i h1
   refine List.pairwise_cons.2 ⟨fun y hy=> ?_,M6 ht.2⟩
   rcases C9.1 hy with rfl|hy
   ·exact h1
   ·exact ht.1 y hy
  ·split
   ·exact h
   ·rename_i h1 h2
    have h3:s.s<t.s:=by
     rcases List.le_iff_lt_or_eq.1 (List.not_lt.1 h1)with h|h
     ·exact h
     ·exact absurd (by cases s;cases t;simpa using h.symm) h2
    refine List.pairwise_cons.2 ⟨fun y hy=> ?_,h⟩
    rcases List.mem_cons.1 hy with rfl|hy
    ·exact h3
    ·exact List.lt_trans h3 (ht.1 y hy)
theorem NY: ∀ (l o:List Str),(o.Pairwise fun x y:Str=>x.s<y.s)->((l.foldl GN o).Pairwise fun x y:Str=>x.s<y.s)∧ ∀ x,x∈l.foldl GN o ↔ x∈l∨x∈o
 | [],o,h=>⟨h,by simp⟩
 | s::l,o,h=>by
  obtain⟨h1,h2⟩:=NY l (GN o s) (M6 h)
  refine⟨h1,fun x=> ?_⟩
  show x∈l.foldl GN (GN o s) ↔ _
  rw[h2,C9,List.mem_cons]
  constructor
  ·rintro(h|h|h) <;> simp[h]
  ·rintro((h|h)|h) <;> simp[h]
theorem a0d: ∀ {a b:List Str},(a.Pairwise fun x y:Str=>x.s<y.s)->(b.Pairwise fun x y:Str=>x.s<y.s)->(∀ x,x∈a ↔ x∈b)->a=b
 | [],[],_,_,_=>rfl
 | [],y::b,_,_,h=>absurd ((h y).2 (by simp)) (by simp)
 | x::a,[],_,_,h=>absurd ((h x).1 (by simp)) (by simp)
 | x::a,y::b,ha,hb,h=>by
  have ha':=List.pairwise_cons.1 ha
  have hb':=List.pairwise_cons.1 hb
  have e:x=y:=by
   rcases List.mem_cons.1 ((h x).1 (by simp))with e|h1
   ·exact e
   ·rcases List.mem_cons.1 ((h y).2 (by simp))with e|h2
    ·exact e.symm
    ·exact absurd (List.lt_trans (hb'.1 x h1) (ha'.1 y h2)) (List.lt_irrefl _)
  subst e
  rw[a0d ha'.2 hb'.2 fun z=> ?_]
  constructor
  ·intro hz
   rcases List.mem_cons.1 ((h z).1 (by simp[hz]))with e|h1
   ·subst e;exact absurd (ha'.1 z hz) (List.lt_irrefl _)
   ·exact h1
  ·intro hz
   rcases List.mem_cons.1 ((h z).2 (by simp[hz]))with e|h1
   ·subst e;exact absurd (hb'.1 z hz) (List.lt_irrefl _)
   ·exact h1
theorem Rv(p:List Mono):Yo p=(XI p).foldl GN []:=by
 obtain⟨h1,h2⟩:=NY (XI p) [] .nil
 exact a0d (a6x p) h1 fun x=>by rw[RS,h2];simp
theorem TI{p:List Mono}(h:(XI p).isEmpty=true):Yo p=[]:=by
 rw[Rv,List.isEmpty_iff.1 h];rfl
theorem b2y{p:List Mono}(h:(XI p).isEmpty=false):(Yo p).isEmpty=false:=by
 rw[List.isEmpty_eq_false_iff]at h ⊢
 intro e
 obtain⟨x,hx⟩:=List.exists_mem_of_ne_nil _ h
 have:=(RS p x).2 hx
 rw[e]at this;cases this
theorem a4k(p:List Mono):(Yo p).length<=(XI p).length:=by
 unfold Yo
 rw[List.length_map]
 refine Nat.le_trans (HV _) ?_
 unfold Xj Wu
 rw[(List.mergeSort_perm _ _).length_eq,List.length_map];exact Nat.le_refl _
end Go.Pl

namespace Go.Pl
open Go.RowKit
open Enc (enc dec is)
open EncL (encL decL isL)
theorem b7q(n:Int):Int.fdiv n (2 ^ min (Int.toNat 31) (IntKind.bits .i64))=Wt n:=by
 show Int.fdiv n 2147483648=n / 2147483648
 exact Int.fdiv_eq_ediv_of_nonneg n (by decide)
theorem a2m(n:Int):IntKind.i64.wrap ((BitVec.toNat (BitVec.ofInt (IntKind.bits .i64) n &&& BitVec.ofInt (IntKind.bits .i64) 2147483647):Nat):Int)=X3 n:=by
 have e:BitVec.toNat (BitVec.ofInt (IntKind.bits .i64) n &&& BitVec.ofInt (IntKind.bits .i64) 2147483647)=(n % 2147483648).toNat:=by
  rw[BitVec.toNat_and]
  have e2:(BitVec.ofInt (IntKind.bits .i64) 2147483647).toNat=2 ^ 31 - 1:=rfl
  rw[e2,Nat.and_two_pow_sub_one_eq_mod,BitVec.toNat_ofInt]
  show(n % 18446744073709551616).toNat % 2147483648=_
  omega
 rw[e,WN (by omega) (by omega)]
 unfold X3
 omega
theorem c0z: ∀ args os,Um args os=true->Zc NG os.length (Zl os.length CG fun r=>r=UX args os) CK [] (YR b8z args os):=by
 intro args os h
 unfold Um at h
 split at h
 ·rename_i n
  apply c4k (G:=fun r=>r=UX _ _) n
  rw[b7q,a2m]
  rfl
 ·rename_i n q q' r r' ty xs ty' ys
  simp only[Bool.and_eq_true,beq_iff_eq,decide_eq_true_eq]at h
  obtain⟨⟨⟨⟨⟨⟨⟨h1,h2⟩,h3⟩,h4⟩,h5⟩,h6⟩,h7⟩,h8⟩:=h
  subst h1 h2 h3 h4 h5
  apply c6s (G:=fun r=>r=UX _ _) n r' xs ys
  rw[b7q,a2m,h6,h7]
  have hd:((r'==r')&&(r'==r')&&decide ((r'+1)*8<=1099511627776)&&decide (r'+1<=1099511627776))=true:=by
   rw[decide_eq_true (by omega),decide_eq_true (by omega)];simp
  exact⟨hd,hd,rfl⟩
 ·cases h
def hN(p:List Mono):Zw:=[.obj (.box [.pv (enc p)]),.obj (.box [.pv (.int .i64 0)]),.obj (.box [.pv (.int .i64 0)]),.obj (.box [.pv (.sl 0 true [])]),.obj (.box [.pv (.sl 0 true [])]),.obj (.box [.fn 124 [] [.ptr 3 0,.ptr 4 0]])]
def hR(p:List Mono)(n:Nat)(xs ys:List Int):Zw:=[.obj (.box [.pv (enc p)]),.obj (.box [.pv (.int .i64 0)]),.obj (.box [.pv (.int .i64 0)]),.obj (.box [.row 6 n 0 n]),.obj (.box [.row 7 n 0 n]),.obj (.box [.fn 124 [] [.ptr 3 0,.ptr 4 0]]),.obj (.row false 3 1 (xs.map enc)),.obj (.row false 3 1 (ys.map enc))]
def hNX(p:List Mono):Zw:=[.obj (.box [.pv (enc p)]),.obj (.box [.pv (.int .i64 0)]),.obj (.box [.pv (.int .i64 2)]),.obj (.box [.pv (.sl 0 true [])]),.obj (.box [.pv (.sl 0 true [])]),.obj (.box [.fn 124 [] [.ptr 3 0,.ptr 4 0]]),.fresh,.fresh]
def hRX(p:List Mono)(n:Nat)(xs ys:List Int):Zw:=[.obj (.box [.pv (enc p)]),.obj (.box [.pv (.int .i64 0)]),.obj (.box [.pv (.int .i64 2)]),.obj (.box [.row 6 n 0 n]),.obj (.box [.row 7 n 0 n]),.obj (.box [.fn 124 [] [.ptr 3 0,.ptr 4 0]]),.obj (.row false 3 1 (xs.map enc)),.obj (.row false 3 1 (ys.map enc)),.fresh,.fresh]
def gsI(b:BoxT)(fs:List Fact)(p:List Mono)(k:Nat)(σ:Zw):Prop:=
 ∃ l,Xm p b.v ((Z0 b fs).take k)=some l∧((k=0∧σ=hN p)∨(0<k∧k<=(Z0 b fs).length∧σ=hR p k (l.map Wt) (l.map X3)))
def gsX(b:BoxT)(fs:List Fact)(p:List Mono)(σ:Zw):Prop:=Xm p b.v (Z0 b fs)=none∧(σ=hNX p ∨ ∃ n xs ys,σ=hRX p n xs ys)
theorem R6{b:BoxT}{fs:List Fact}(hv:YZ b=true):(Z0 b fs).length<=20000:=by
 unfold Z0
 refine Nat.le_trans (List.length_filter_le _ _) ?_
 rw[WX hv,Gi]
 exact CO hv
theorem H5{b:BoxT}{fs:List Fact}{p:List Mono}{k:Nat}{q:List Int}(hq:(Z0 b fs)[k]? = some q)(h:(Z7 p (Zi b.v q)).2≠0):Xm p b.v (Z0 b fs)=none:=by
 have hk:=(List.getElem?_eq_some_iff.1 hq).1
 have hkp:=(List.getElem?_eq_some_iff.1 hq).2
 have e:Z0 b fs=(Z0 b fs).take k++q::(Z0 b fs).drop (k+1):=by
  rw[<- hkp,<- List.drop_eq_getElem_cons hk,List.take_append_drop]
 rw[e]
 exact Sg h _
def Vm:YA:=fun n st q=>n=0∧GI YO 0 (.t 32) 177 [33,34] [(13,34)] Vq Ke UT DY st q
theorem a5y(b:BoxT)(fs:List Fact)(p:List Mono)(hp:Yf p=true)(hv:YZ b=true)(hb:b.v.length<=1000)(k:Nat)(q:List Int)(σ:Zw)(hq:(Z0 b fs)[k]? = some q)(h:gsI b fs p k σ):
  ZI YO (fun n S' _=>n=99∧gsI b fs p (k+1) S'.heap) σ.length (fun st=>gsX b fs p st.heap) (.inl Vq) [.seq (.ext 99 [])]
   ⟨ZX 77 0 [(5,.ptr 0 0),(6,.ptr 1 0),(7,.ptr 2 0),(9,.ptr 3 0),(10,.ptr 4 0),(11,.ptr 5 0),(13,.pv (enc (Zi b.v q))),(33,.pv (enc q)),(34,.pv (enc (Zi b.v q)))],σ⟩:=by
 have hk:=(List.getElem?_eq_some_iff.1 hq).1
 have hkp:=(List.getElem?_eq_some_iff.1 hq).2
 have h20:=R6 (fs:=fs) hv
 have ht:(Z0 b fs).take (k+1)=(Z0 b fs).take k++[q]:=by rw[List.take_succ_eq_append_getElem hk,hkp]
 have hvl:(Zi b.v q).length<=9223372036854775807:=by unfold Zi;rw[List.length_zipWith];omega
 have hpre:preT (fun x:List Mono×List Coef×Unit=>Yf x.1&&Zn x.2.1) (encL (p,Zi b.v q,()))=true:=Ze (p,Zi b.v q,()) rfl (by rw[hp,Zu.2 hvl];rfl)
 obtain⟨l,hl,hσ⟩:=h
 have hlen:=Qh hl
 rw[List.length_take]at hlen
 rcases hσ with ⟨rfl,rfl⟩|⟨h0,h1,rfl⟩
 ·apply b5w (G:=gsX b fs p) (fun n S' _=>n=99∧gsI b fs p (0+1) S'.heap) p q (Zi b.v q)
  refine⟨hpre,Zd (p,Zi b.v q,()) rfl ?_⟩
  refine Wx (fun he=> ?_) fun he=> ?_
  ·have he:(Z7 p (Zi b.v q)).2≠0:=by simpa using he
   exact⟨H5 hq he,.inl rfl⟩
  ·have he:(Z7 p (Zi b.v q)).2=0:=by simpa using he
   have hs:=Us he hl
   rw[<- ht]at hs
   have hnil:l=[]:=List.length_eq_zero_iff.1 (by omega)
   subst hnil
   exact⟨rfl,_,hs,.inr ⟨by omega,by omega,rfl⟩⟩
 ·have hlk:l.length=k:=by omega
  apply a9z (G:=gsX b fs p) (fun n S' _=>n=99∧gsI b fs p (k+1) S'.heap) p q (Zi b.v q) k (l.map Wt) (l.map X3)
  refine⟨hpre,Zd (p,Zi b.v q,()) rfl ?_⟩
  refine Wx (fun he=> ?_) fun he=> ?_
  ·have he:(Z7 p (Zi b.v q)).2≠0:=by simpa using he
   exact⟨H5 hq he,.inr ⟨k,_,_,rfl⟩⟩
  ·have he:(Z7 p (Zi b.v q)).2=0:=by simpa using he
   have hs:=Us he hl
   rw[<- ht]at hs
   refine⟨?_,rfl,_,hs,.inr ⟨by omega,by omega,?_⟩⟩
   ·show(k==k&&k==k&&k==k&&3==3&&3==3&&((l.map Wt).map (enc:Int->PV)).length==k&&((l.map X3).map (enc:Int->PV)).length==k&&decide (k<=1000000))=true
    rw[List.length_map,List.length_map,List.length_map,List.length_map,hlk,decide_eq_true (by omega)];simp
   ·unfold hR
    rw[List.map_append,List.map_append,List.map_append,List.map_append]
    rfl
theorem b5p(b:BoxT)(fs:List Fact)(p:List Mono)(l:List Int)(hl:l.length<=20000)(hr : ∀ x∈l,VT x=true)(R:Int×Int)(hR:R=XY l): ∀ (d i:Nat),d+i=l.length ->
  AtM YO Vm 0 (Za Y8 (Zj R)) YT 0 77 [(6,.ptr 0 0),(7,.ptr 1 0),(9,.ptr 2 0),(10,.ptr 3 0),(16,.pv (.int .i64 ((l.map Wt).take i).sum)),(17,.pv (.int .i64 ((l.map X3).take i).sum)),(47,.pv (.int .i64 l.length)),(48,.pv (.int .i64 i))]
   [.obj (.box [.pv (.int .i64 0)]),.obj (.box [.pv (.int .i64 0)]),.obj (.box [.row 4 l.length 0 l.length]),.obj (.box [.row 5 l.length 0 l.length]),.obj (.row false 3 1 ((l.map Wt).map enc)),.obj (.row false 3 1 ((l.map X3).map enc))]:=by
 have hb1 : ∀ i,((l.map Wt).take i).length*(-2147483648:Int)<=((l.map Wt).take i).sum∧((l.map Wt).take i).sum<=((l.map Wt).take i).length*(2147483648:Int):=fun i=>J5 (by
  intro x hx
  obtain⟨n,hn,rfl⟩:=List.mem_map.1 (List.mem_of_mem_take hx)
  exact b0w (hr n hn))
 have hb2 : ∀ i,((l.map X3).take i).length*(0:Int)<=((l.map X3).take i).sum∧((l.map X3).take i).sum<=((l.map X3).take i).length*(2147483647:Int):=fun i=>J5 (by
  intro x hx
  obtain⟨n,hn,rfl⟩:=List.mem_map.1 (List.mem_of_mem_take hx)
  exact b0j n)
 have hc1 : ∀ i,((l.map Wt).take i).length<=20000:=fun i=>by rw[List.length_take,List.length_map];omega
 have hc2 : ∀ i,((l.map X3).take i).length<=20000:=fun i=>by rw[List.length_take,List.length_map];omega
 intro d
 induction d with
 | zero=>
  intro i hi
  apply Tg (G:=Zj R) Vm b fs p
  refine ZN (Ye (by omega)) ?_
  have e1:(l.map Wt).take i=l.map Wt:=List.take_of_length_le (by rw[List.length_map];omega)
  have e2:(l.map X3).take i=l.map X3:=List.take_of_length_le (by rw[List.length_map];omega)
  have a1:=hb1 i
  have a2:=hb2 i
  have a3:=hc1 i
  have a4:=hc2 i
  rw[e1]at a1 a3
  rw[e2]at a2 a4
  rw[e1,e2,b7q,a2m]
  have hh:Wt (l.map X3).sum=(l.map X3).sum / 2147483648:=rfl
  have hw:IntKind.i64.wrap ((l.map Wt).sum+Wt (l.map X3).sum)=(l.map Wt).sum+Wt (l.map X3).sum:=WN (by rw[hh];omega) (by rw[hh];omega)
  rw[hw]
  refine Zd ([(l.map Wt).sum+Wt (l.map X3).sum,X3 (l.map X3).sum],[2147483648,1],()) rfl ?_
  rw[hR,<- Sn hl hr (H:=(l.map Wt).sum+Wt (l.map X3).sum) (L:=X3 (l.map X3).sum) rfl rfl]
  exact ZP rfl
 | succ d ih=>
  intro i hi
  have hlt:i<l.length:=by omega
  have hl1:i<(l.map Wt).length:=by rw[List.length_map];omega
  have hl2:i<(l.map X3).length:=by rw[List.length_map];omega
  apply Tg (G:=Zj R) Vm b fs p
  apply ZU (Z9 hlt)
  rw[Qm hl1,Qm hl2]
  refine⟨by simp;omega,by simp;omega,rfl,by simp;omega,by simp;omega,rfl,?_⟩
  rw[next (by omega)]
  show AtM YO _ _ _ _ _ _ [_,_,_,_,(16,.pv (.int .i64 (IntKind.i64.wrap (((l.map Wt).take i).sum+(l.map Wt)[i])))),(17,.pv (.int .i64 (IntKind.i64.wrap (((l.map X3).take i).sum+(l.map X3)[i])))),_,_] _
  have s1:((l.map Wt).take i).sum+(l.map Wt)[i]=((l.map Wt).take (i+1)).sum:=by rw[List.take_succ_eq_append_getElem hl1,List.sum_append];simp
  have s2:((l.map X3).take i).sum+(l.map X3)[i]=((l.map X3).take (i+1)).sum:=by rw[List.take_succ_eq_append_getElem hl2,List.sum_append];simp
  have a1:=hb1 (i+1)
  have a2:=hb2 (i+1)
  have a3:=hc1 (i+1)
  have a4:=hc2 (i+1)
  rw[s1,s2,WN (by omega) (by omega),WN (by omega) (by omega)]
  exact ih (i+1) (by omega)
theorem a6h: ∀ x:BoxT×List Fact×List Mono×Unit,(YE x.1 x.2.1 x.2.2.1&&(!ZC x.2.2.1||(XI x.2.2.1).isEmpty))=true->Kg YO Vm 0 (Za Y8 (Zj (Z8 x.1 x.2.1 x.2.2.1))) YT [] (Yr a7w (encL x)):=by
 rintro⟨b,fs,p,⟨⟩⟩ hp
 simp only[YE,Bool.and_eq_true,decide_eq_true_eq]at hp
 obtain⟨⟨⟨⟨⟨h1,h2⟩,h3⟩,h4⟩,h5⟩,h6⟩:=hp
 have key:Zm b fs (ZC p) (Yo p)=0->Vm 0 ⟨ZX 77 0 [(5,.ptr 0 0),(6,.ptr 1 0),(7,.ptr 2 0),(9,.ptr 3 0),(10,.ptr 4 0),(11,.ptr 5 0),(13,.undef),(14,.undef),(15,.undef),(32,(.fn 177 [] [(.ptr 6 0),(.ptr 7 0)])),(34,.undef),(35,.undef),(36,.undef),(37,.undef),(38,.undef),(39,.undef),(40,.undef),(41,.undef),(42,.undef),(43,.undef),(44,.undef)],
   hN p++[(.obj (.box [(.pv (.sl 1 false (List.map enc b.v))),(.pv (.int .i64 b.m))])),(.obj (.box [(.pv (.sl 3 false (List.map enc fs)))]))]⟩ (fun x S'=>Jj YO Vm 0 (Za Y8 (Zj (Z8 b fs p))) YT 0 x S'):=by
  intro h0
  obtain⟨hv,_⟩:=WA _ _ _ _ h0
  have h20:=R6 (fs:=fs) hv
  refine⟨rfl,[6,7],[[enc b.v,.int .i64 b.m],[enc fs]],[5,6,7,9,10,11],[],⟨ZX 77 0 [(5,.ptr 0 0),(6,.ptr 1 0),(7,.ptr 2 0),(9,.ptr 3 0),(10,.ptr 4 0),(11,.ptr 5 0)],hN p⟩,gsI b fs p,gsX b fs p,rfl,by simp,rfl,?_,by kernel_rfl,CW hv h2 h4,⟨[],rfl,.inl ⟨rfl,rfl⟩⟩,?_,?_,?_⟩
  ·intro j l' ps hl hps
   match j with
   | 0=>cases hl;cases hps;rfl
   | 1=>cases hl;cases hps;rfl
   | j+2=>simp at hl
  ·intro k x σ hx hI
   rw[Tc,List.getElem?_map]at hx
   obtain⟨q,hq,rfl⟩:=Option.map_eq_some_iff.1 hx
   have e:SQ [(13,34)] (D7 [33,34] ((Ke (q,Zi b.v q)).map .pv) (ZX 77 0 [(5,.ptr 0 0),(6,.ptr 1 0),(7,.ptr 2 0),(9,.ptr 3 0),(10,.ptr 4 0),(11,.ptr 5 0)]))=ZX 77 0 [(5,.ptr 0 0),(6,.ptr 1 0),(7,.ptr 2 0),(9,.ptr 3 0),(10,.ptr 4 0),(11,.ptr 5 0),(13,.pv (enc (Zi b.v q))),(33,.pv (enc q)),(34,.pv (enc (Zi b.v q)))]:=by kernel_rfl
   have:=a5y b fs p h5 hv h4 k q σ hq hI
   rw[<- e]at this
   exact this
  ·intro σ hI
   rw[Tc,List.length_map]at hI
   obtain⟨l,hl,hσ⟩:=hI
   rw[List.take_length]at hl
   have hT:Z8 b fs p=XY l:=by unfold Z8;rw[if_pos h0,hl]
   have hlen:=Qh hl
   rcases hσ with ⟨e0,rfl⟩|⟨_,_,rfl⟩
   ·refine a6g (G:=Zj (Z8 b fs p)) Vm b fs p ?_
    refine a2x (G:=Zj (Z8 b fs p)) Vm b fs p (Zd ([0,0],[2147483648,1],()) rfl ?_)
    have:l=[]:=List.length_eq_zero_iff.1 (by omega)
    rw[hT,this]
    exact ZP (x:=((0:Int),(0:Int))) rfl
   ·refine a3f (G:=Zj (Z8 b fs p)) Vm b fs p _ _ _ ?_
    have:=b5p b fs p l (by omega) (AX hl) (Z8 b fs p) hT l.length 0 (by omega)
    rw[hlen]at this
    exact this
  ·intro σ hX
   obtain⟨hn,hσ⟩:=hX
   have hT:Z8 b fs p=(0,2):=by unfold Z8;rw[if_pos h0,hn]
   rcases hσ with rfl|⟨n,xs,ys,rfl⟩
   ·exact Ot (G:=Zj (Z8 b fs p)) Vm b fs p (by rw[hT];exact ZP (x:=((0:Int),(2:Int))) rfl)
   ·exact OG (G:=Zj (Z8 b fs p)) Vm b fs p n xs ys (by rw[hT];exact ZP (x:=((0:Int),(2:Int))) rfl)
 have hbad:Zm b fs (ZC p) (Yo p)≠0->Zj (Z8 b fs p) (.tup [.int .i64 0,.int .i64 (Zm b fs (ZC p) (Yo p))]):=by
  intro h0
  unfold Z8
  rw[if_neg h0]
  exact ZP (x:=((0:Int),Zm b fs (ZC p) (Yo p))) rfl
 have hn:Zm b fs (ZC p) (Yo p)=Zm b fs (ZC p) []:=by
  cases hv:ZC p
  ·unfold Zm;simp
  ·rw[hv]at h6
   rw[TI (by simpa using h6)]
 rw[hn]at key hbad
 refine b7e Vm b fs p ⟨Ze (p,()) rfl h5,Zd (p,()) rfl ⟨?_,Ze (b,fs,ZC p,⟨⟩,()) rfl (by simp[h1,h2,h3]),Zd (b,fs,ZC p,⟨⟩,()) rfl ?_⟩⟩
 ·show(Vz (List Mono) (enc p)&&Yf (dec (enc p:PV))&&(!ZC (dec (enc p:PV))||(XI (dec (enc p:PV))).isEmpty))=true
  rw[Ya,Enc.dec_enc,h5,h6];rfl
 ·show if (Zm b fs (ZC p) [] != 0)=true then _ else _
  by_cases h0:Zm b fs (ZC p) []=0
  ·rw[if_neg (by simp[h0])]
   refine⟨?_,key h0⟩
   show(Vz (List Str) (enc b.v)&&Vz (List Fact) (enc fs))=true
   rw[Ya,Ya];rfl
  ·rw[if_pos (by simpa using h0)]
   exact hbad h0
def WZ:YA:=fun n st q=>n=0∧GI YQ 0 (.t 32) 177 [33,34] [(13,34)] VZ Ke UT DY st q
theorem a4s(b:BoxT)(fs:List Fact)(p:List Mono)(hp:Yf p=true)(hv:YZ b=true)(hb:b.v.length<=1000)(k:Nat)(q:List Int)(σ:Zw)(hq:(Z0 b fs)[k]? = some q)(h:gsI b fs p k σ):
  ZI YQ (fun n S' _=>n=99∧gsI b fs p (k+1) S'.heap) σ.length (fun st=>gsX b fs p st.heap) (.inl VZ) [.seq (.ext 99 [])]
   ⟨ZX 77 0 [(5,.ptr 0 0),(6,.ptr 1 0),(7,.ptr 2 0),(9,.ptr 3 0),(10,.ptr 4 0),(11,.ptr 5 0),(13,.pv (enc (Zi b.v q))),(33,.pv (enc q)),(34,.pv (enc (Zi b.v q)))],σ⟩:=by
 have hk:=(List.getElem?_eq_some_iff.1 hq).1
 have hkp:=(List.getElem?_eq_some_iff.1 hq).2
 have h20:=R6 (fs:=fs) hv
 have ht:(Z0 b fs).take (k+1)=(Z0 b fs).take k++[q]:=by rw[List.take_succ_eq_append_getElem hk,hkp]
 have hvl:(Zi b.v q).length<=9223372036854775807:=by unfold Zi;rw[List.length_zipWith];omega
 have hpre:preT (fun x:List Mono×List Coef×Unit=>Yf x.1&&Zn x.2.1) (encL (p,Zi b.v q,()))=true:=Ze (p,Zi b.v q,()) rfl (by rw[hp,Zu.2 hvl];rfl)
 obtain⟨l,hl,hσ⟩:=h
 have hlen:=Qh hl
 rw[List.length_take]at hlen
 rcases hσ with ⟨rfl,rfl⟩|⟨h0,h1,rfl⟩
 ·apply b6v (G:=gsX b fs p) (fun n S' _=>n=99∧gsI b fs p (0+1) S'.heap) p q (Zi b.v q)
  refine⟨hpre,Zd (p,Zi b.v q,()) rfl ?_⟩
  refine Wx (fun he=> ?_) fun he=> ?_
  ·have he:(Z7 p (Zi b.v q)).2≠0:=by simpa using he
   exact⟨H5 hq he,.inl rfl⟩
  ·have he:(Z7 p (Zi b.v q)).2=0:=by simpa using he
   have hs:=Us he hl
   rw[<- ht]at hs
   have hnil:l=[]:=List.length_eq_zero_iff.1 (by omega)
   subst hnil
   exact⟨rfl,_,hs,.inr ⟨by omega,by omega,rfl⟩⟩
 ·have hlk:l.length=k:=by omega
  apply b0y (G:=gsX b fs p) (fun n S' _=>n=99∧gsI b fs p (k+1) S'.heap) p q (Zi b.v q) k (l.map Wt) (l.map X3)
  refine⟨hpre,Zd (p,Zi b.v q,()) rfl ?_⟩
  refine Wx (fun he=> ?_) fun he=> ?_
  ·have he:(Z7 p (Zi b.v q)).2≠0:=by simpa using he
   exact⟨H5 hq he,.inr ⟨k,_,_,rfl⟩⟩
  ·have he:(Z7 p (Zi b.v q)).2=0:=by simpa using he
   have hs:=Us he hl
   rw[<- ht]at hs
   refine⟨?_,rfl,_,hs,.inr ⟨by omega,by omega,?_⟩⟩
   ·show(k==k&&k==k&&k==k&&3==3&&3==3&&((l.map Wt).map (enc:Int->PV)).length==k&&((l.map X3).map (enc:Int->PV)).length==k&&decide (k<=1000000))=true
    rw[List.length_map,List.length_map,List.length_map,List.length_map,hlk,decide_eq_true (by omega)];simp
   ·unfold hR
    rw[List.map_append,List.map_append,List.map_append,List.map_append]
    rfl
theorem b3u(b:BoxT)(fs:List Fact)(p:List Mono)(l:List Int)(hl:l.length<=20000)(hr : ∀ x∈l,VT x=true)(R:Int×Int)(hR:R=XY l): ∀ (d i:Nat),d+i=l.length ->
  AtM YQ WZ 0 (Za Y1 (Zj R)) Y4 0 77 [(6,.ptr 0 0),(7,.ptr 1 0),(9,.ptr 2 0),(10,.ptr 3 0),(16,.pv (.int .i64 ((l.map Wt).take i).sum)),(17,.pv (.int .i64 ((l.map X3).take i).sum)),(47,.pv (.int .i64 l.length)),(48,.pv (.int .i64 i))]
   [.obj (.box [.pv (.int .i64 0)]),.obj (.box [.pv (.int .i64 0)]),.obj (.box [.row 4 l.length 0 l.length]),.obj (.box [.row 5 l.length 0 l.length]),.obj (.row false 3 1 ((l.map Wt).map enc)),.obj (.row false 3 1 ((l.map X3).map enc))]:=by
 have hb1 : ∀ i,((l.map Wt).take i).length*(-2147483648:Int)<=((l.map Wt).take i).sum∧((l.map Wt).take i).sum<=((l.map Wt).take i).length*(2147483648:Int):=fun i=>J5 (by
  intro x hx
  obtain⟨n,hn,rfl⟩:=List.mem_map.1 (List.mem_of_mem_take hx)
  exact b0w (hr n hn))
 have hb2 : ∀ i,((l.map X3).take i).length*(0:Int)<=((l.map X3).take i).sum∧((l.map X3).take i).sum<=((l.map X3).take i).length*(2147483647:Int):=fun i=>J5 (by
  intro x hx
  obtain⟨n,hn,rfl⟩:=List.mem_map.1 (List.mem_of_mem_take hx)
  exact b0j n)
 have hc1 : ∀ i,((l.map Wt).take i).length<=20000:=fun i=>by rw[List.length_take,List.length_map];omega
 have hc2 : ∀ i,((l.map X3).take i).length<=20000:=fun i=>by rw[List.length_take,List.length_map];omega
 intro d
 induction d with
 | zero=>
  intro i hi
  apply Tk (G:=Zj R) WZ b fs p
  refine ZN (Ye (by omega)) ?_
  have e1:(l.map Wt).take i=l.map Wt:=List.take_of_length_le (by rw[List.length_map];omega)
  have e2:(l.map X3).take i=l.map X3:=List.take_of_length_le (by rw[List.length_map];omega)
  have a1:=hb1 i
  have a2:=hb2 i
  have a3:=hc1 i
  have a4:=hc2 i
  rw[e1]at a1 a3
  rw[e2]at a2 a4
  rw[e1,e2,b7q,a2m]
  have hh:Wt (l.map X3).sum=(l.map X3).sum / 2147483648:=rfl
  have hw:IntKind.i64.wrap ((l.map Wt).sum+Wt (l.map X3).sum)=(l.map Wt).sum+Wt (l.map X3).sum:=WN (by rw[hh];omega) (by rw[hh];omega)
  rw[hw]
  refine Zd ([(l.map Wt).sum+Wt (l.map X3).sum,X3 (l.map X3).sum],[2147483648,1],()) rfl ?_
  rw[hR,<- Sn hl hr (H:=(l.map Wt).sum+Wt (l.map X3).sum) (L:=X3 (l.map X3).sum) rfl rfl]
  exact ZP rfl
 | succ d ih=>
  intro i hi
  have hlt:i<l.length:=by omega
  have hl1:i<(l.map Wt).length:=by rw[List.length_map];omega
  have hl2:i<(l.map X3).length:=by rw[List.length_map];omega
  apply Tk (G:=Zj R) WZ b fs p
  apply ZU (Z9 hlt)
  rw[Qm hl1,Qm hl2]
  refine⟨by simp;omega,by simp;omega,rfl,by simp;omega,by simp;omega,rfl,?_⟩
  rw[next (by omega)]
  show AtM YQ _ _ _ _ _ _ [_,_,_,_,(16,.pv (.int .i64 (IntKind.i64.wrap (((l.map Wt).take i).sum+(l.map Wt)[i])))),(17,.pv (.int .i64 (IntKind.i64.wrap (((l.map X3).take i).sum+(l.map X3)[i])))),_,_] _
  have s1:((l.map Wt).take i).sum+(l.map Wt)[i]=((l.map Wt).take (i+1)).sum:=by rw[List.take_succ_eq_append_getElem hl1,List.sum_append];simp
  have s2:((l.map X3).take i).sum+(l.map X3)[i]=((l.map X3).take (i+1)).sum:=by rw[List.take_succ_eq_append_getElem hl2,List.sum_append];simp
  have a1:=hb1 (i+1)
  have a2:=hb2 (i+1)
  have a3:=hc1 (i+1)
  have a4:=hc2 (i+1)
  rw[s1,s2,WN (by omega) (by omega),WN (by omega) (by omega)]
  exact ih (i+1) (by omega)
theorem a6z: ∀ x:BoxT×List Fact×List Mono×Unit,(YE x.1 x.2.1 x.2.2.1&&(ZC x.2.2.1&& !(XI x.2.2.1).isEmpty))=true->Kg YQ WZ 0 (Za Y1 (Zj (Z8 x.1 x.2.1 x.2.2.1))) Y4 [] (Yr a8f (encL x)):=by
 rintro⟨b,fs,p,⟨⟩⟩ hp
 simp only[YE,Bool.and_eq_true,decide_eq_true_eq]at hp
 obtain⟨⟨⟨⟨⟨h1,h2⟩,h3⟩,h4⟩,h5⟩,h6⟩:=hp
 have key:Zm b fs (ZC p) (Yo p)=0->WZ 0 ⟨ZX 77 0 [(5,.ptr 0 0),(6,.ptr 1 0),(7,.ptr 2 0),(9,.ptr 3 0),(10,.ptr 4 0),(11,.ptr 5 0),(13,.undef),(14,.undef),(15,.undef),(32,(.fn 177 [] [(.ptr 6 0),(.ptr 7 0)])),(34,.undef),(35,.undef),(36,.undef),(37,.undef),(38,.undef),(39,.undef),(40,.undef),(41,.undef),(42,.undef),(43,.undef),(44,.undef)],
   hN p++[(.obj (.box [(.pv (.sl 1 false (List.map enc b.v))),(.pv (.int .i64 b.m))])),(.obj (.box [(.pv (.sl 3 false (List.map enc fs)))]))]⟩ (fun x S'=>Jj YQ WZ 0 (Za Y1 (Zj (Z8 b fs p))) Y4 0 x S'):=by
  intro h0
  obtain⟨hv,_⟩:=WA _ _ _ _ h0
  have h20:=R6 (fs:=fs) hv
  refine⟨rfl,[6,7],[[enc b.v,.int .i64 b.m],[enc fs]],[5,6,7,9,10,11],[],⟨ZX 77 0 [(5,.ptr 0 0),(6,.ptr 1 0),(7,.ptr 2 0),(9,.ptr 3 0),(10,.ptr 4 0),(11,.ptr 5 0)],hN p⟩,gsI b fs p,gsX b fs p,rfl,by simp,rfl,?_,by kernel_rfl,CW hv h2 h4,⟨[],rfl,.inl ⟨rfl,rfl⟩⟩,?_,?_,?_⟩
  ·intro j l' ps hl hps
   match j with
   | 0=>cases hl;cases hps;rfl
   | 1=>cases hl;cases hps;rfl
   | j+2=>simp at hl
  ·intro k x σ hx hI
   rw[Tc,List.getElem?_map]at hx
   obtain⟨q,hq,rfl⟩:=Option.map_eq_some_iff.1 hx
   have e:SQ [(13,34)] (D7 [33,34] ((Ke (q,Zi b.v q)).map .pv) (ZX 77 0 [(5,.ptr 0 0),(6,.ptr 1 0),(7,.ptr 2 0),(9,.ptr 3 0),(10,.ptr 4 0),(11,.ptr 5 0)]))=ZX 77 0 [(5,.ptr 0 0),(6,.ptr 1 0),(7,.ptr 2 0),(9,.ptr 3 0),(10,.ptr 4 0),(11,.ptr 5 0),(13,.pv (enc (Zi b.v q))),(33,.pv (enc q)),(34,.pv (enc (Zi b.v q)))]:=by kernel_rfl
   have:=a4s b fs p h5 hv h4 k q σ hq hI
   rw[<- e]at this
   exact this
  ·intro σ hI
   rw[Tc,List.length_map]at hI
   obtain⟨l,hl,hσ⟩:=hI
   rw[List.take_length]at hl
   have hT:Z8 b fs p=XY l:=by unfold Z8;rw[if_pos h0,hl]
   have hlen:=Qh hl
   rcases hσ with ⟨e0,rfl⟩|⟨_,_,rfl⟩
   ·refine a3s (G:=Zj (Z8 b fs p)) WZ b fs p ?_
    refine a3h (G:=Zj (Z8 b fs p)) WZ b fs p (Zd ([0,0],[2147483648,1],()) rfl ?_)
    have:l=[]:=List.length_eq_zero_iff.1 (by omega)
    rw[hT,this]
    exact ZP (x:=((0:Int),(0:Int))) rfl
   ·refine a6o (G:=Zj (Z8 b fs p)) WZ b fs p _ _ _ ?_
    have:=b3u b fs p l (by omega) (AX hl) (Z8 b fs p) hT l.length 0 (by omega)
    rw[hlen]at this
    exact this
  ·intro σ hX
   obtain⟨hn,hσ⟩:=hX
   have hT:Z8 b fs p=(0,2):=by unfold Z8;rw[if_pos h0,hn]
   rcases hσ with rfl|⟨n,xs,ys,rfl⟩
   ·exact EU (G:=Zj (Z8 b fs p)) WZ b fs p (by rw[hT];exact ZP (x:=((0:Int),(2:Int))) rfl)
   ·exact Oc (G:=Zj (Z8 b fs p)) WZ b fs p n xs ys (by rw[hT];exact ZP (x:=((0:Int),(2:Int))) rfl)
 have hbad:Zm b fs (ZC p) (Yo p)≠0->Zj (Z8 b fs p) (.tup [.int .i64 0,.int .i64 (Zm b fs (ZC p) (Yo p))]):=by
  intro h0
  unfold Z8
  rw[if_neg h0]
  exact ZP (x:=((0:Int),Zm b fs (ZC p) (Yo p))) rfl
 have hpv:ZC p=true:=by simp at h6;exact h6.1
 have hne:(XI p).isEmpty=false:=by simp only[Bool.and_eq_true,Bool.not_eq_true']at h6;exact h6.2
 refine b8v WZ b fs p ⟨Ze (p,()) rfl h5,Zd (p,()) rfl ⟨?_,?_⟩⟩
 ·show(Vz (List Mono) (enc p)&&Yf (dec (enc p:PV))&&ZC (dec (enc p:PV))&& !(XI (dec (enc p:PV))).isEmpty)=true
  rw[Ya,Enc.dec_enc,h5,hpv,hne];rfl
 ·have hmd:V4 (enc p)=p:=Enc.dec_enc p
  rw[hmd,a1w,L9,UL]
  have hnl:(Yo p).length<=480:=by
   have a:=a4k p
   have c:=Pi p (Gd hpv).2 p.length (Nat.le_refl _)
   unfold UD at c
   rw[List.take_length]at c
   have:=(Gd hpv).1
   unfold XI at a
   omega
  refine⟨?_,?_⟩
  ·show(Vz BoxT (enc b)&&Vz (List Fact) (enc fs)&&9==9&&SS (Yo p).length (Yo p).length ((Yo p).map enc)&&decide ((Yo p).length<=1000)&& !((Yo p).map (enc:Str->PV)).isEmpty&&ZW (dec (enc b:PV))&&Zo (dec (enc fs:PV))&&decide ((dec (enc fs:PV):List Fact).length<=100)&&decide (((Yo p).map (enc:Str->PV)).length<=1000))=true
   rw[List.length_map,Ya,Ya,Enc.dec_enc,Enc.dec_enc,Cv rfl (by omega),h1,h2,decide_eq_true h3,decide_eq_true (show(Yo p).length<=1000 by omega)]
   have:((Yo p).map (enc:Str->PV)).isEmpty=false:=by
    have:=b2y hne
    rw[List.isEmpty_eq_false_iff]at this ⊢
    intro h
    exact this (List.map_eq_nil_iff.1 h)
   rw[this];simp
  ·show if (Zm b fs (ZC p) (Yo p) != 0)=true then _ else _
   by_cases h0:Zm b fs (ZC p) (Yo p)=0
   ·rw[if_neg (by simp[h0])]
    refine⟨?_,key h0⟩
    show(Vz (List Str) (enc b.v)&&Vz (List Fact) (enc fs))=true
    rw[Ya,Ya];rfl
   ·rw[if_pos (by simpa using h0)]
    exact hbad h0
end Go.Pl

namespace Go.Pl
open Go.RowKit
open Enc (enc dec is)
open EncL (encL decL isL)
def xN:Str:=⟨[110]⟩
def xM:Str:=⟨[109]⟩
def Kn(a b c:Int):Fact:=⟨false,Kt (Kt ⟨c,[]⟩ xN a) xM b⟩
end Go.Pl

namespace Go.Pl
open Go.RowKit
open Enc (enc dec is)
open EncL (encL decL isL)
set_option maxRecDepth 100000
def JK:IC:=(.seq (.reg [⟨(some 6),(.alloc (.agg [(.bool false),(.int .i64 0),(.sl 0 true [])])),0,none⟩] none) (.seq (.reg [⟨(some 7),(.mv (.t 2)),0,none⟩,⟨(some 8),(.call (.c (.fn 91)) [(.t 7)]),0,none⟩,⟨(some 9),(.mv (.t 0)),2,none⟩,⟨(some 10),(.call (.c (.fn 89)) [(.t 8),(.c (.str [110])),(.t 9)]),2,none⟩,⟨(some 11),(.mv (.t 1)),4,none⟩,⟨(some 12),(.call (.c (.fn 89)) [(.t 10),(.c (.str [109])),(.t 11)]),4,none⟩,⟨(some 13),(.build [(.bool false),(.int .i64 0),(.sl 0 true [])] [(1,(2,(.t 12)))]),6,none⟩,⟨none,(.store 3 (.t 6) (.t 13)),6,none⟩] none) .ret))
def J4:List IRes:=[(.cell true 3 6)]
abbrev Ol:Nat:=14
def G7:ZK:=Xp [(91,.pure (preT (fun _:Int×Unit=>true)) (Zf (fun x:Int×Unit=>(⟨x.1,[]⟩:Lin)))),(89,.pure (preT (fun x:Lin×Str×Int×Unit=>decide (x.1.t.length<=1000000))) (Zf (fun x:Lin×Str×Int×Unit=>Kt x.1 x.2.1 x.2.2.1)))]
theorem a5z{G:PV->Prop}(a b c:Int)(h : ∃ y0:Lin,AV.pv (Zf (fun(x:Int×Unit)=>Lin.mk x.1 []) [(.int .i64 c)])=AV.pv (enc y0)∧((Go.Pl.preT (fun(x:Lin×Str×Int×Unit)=>decide (List.length x.1.t<=1000000)) [(.agg [(.int .i64 y0.k),(.sl 2 false (List.map enc y0.t))]),(.str [(110:UInt8)]),(.int .i64 a)])=true∧(∃ y1:Lin,AV.pv (Zf (fun(x:Lin×Str×Int×Unit)=>Kt x.1 x.2.1 x.2.2.1) [(.agg [(.int .i64 y0.k),(.sl 2 false (List.map enc y0.t))]),(.str [(110:UInt8)]),(.int .i64 a)])=AV.pv (enc y1)∧((Go.Pl.preT (fun(x:Lin×Str×Int×Unit)=>decide (List.length x.1.t<=1000000)) [(.agg [(.int .i64 y1.k),(.sl 2 false (List.map enc y1.t))]),(.str [(109:UInt8)]),(.int .i64 b)])=true∧(∃ y2:Lin,AV.pv (Zf (fun(x:Lin×Str×Int×Unit)=>Kt x.1 x.2.1 x.2.2.1) [(.agg [(.int .i64 y1.k),(.sl 2 false (List.map enc y1.t))]),(.str [(109:UInt8)]),(.int .i64 b)])=AV.pv (enc y2)∧(G ((.agg [(.bool false),(.int .i64 y2.k),(.sl 2 false (List.map enc y2.t))])))))))):Zc G7 0 (Za J4 G) JK [] (Yr 14 [enc a,enc b,enc c]):=Zc.tp (.lit (.abs (Lin) (fun YY=>AV.pv (enc YY)) (.req (.abs (Lin) (fun YY=>AV.pv (enc YY)) (.req (.abs (Lin) (fun YY=>AV.pv (enc YY)) (.nil))))))) h (by kernel_rfl)
def JL:IC:=(.seq (.reg [⟨(some 0),(.mv (.c (.bool false))),0,none⟩] none) (.seq (.reg [⟨(some 9),(.bslice 9 1 2 (.str []) [(0,(.c (.str [110]))),(1,(.c (.str [109])))]),0,none⟩,⟨(some 10),(.build [(.sl 0 true []),(.int .i64 0)] [(0,(1,(.t 9))),(1,(1,(.c (.int .i64 3))))]),1,none⟩,⟨(some 1),(.alloc (.agg [(.sl 0 true []),(.int .i64 0)])),1,none⟩,⟨none,(.store 2 (.t 1) (.t 10)),2,none⟩] none) (.seq (.reg [⟨(some 11),(.call (.c (.fn 115)) [(.c (.int .i64 1)),(.c (.int .i64 (-1))),(.c (.int .i64 (-1)))]),0,none⟩,⟨(some 12),(.bslice 100 3 1 (.agg [(.bool false),(.int .i64 0),(.sl 0 true [])]) [(0,(.t 11))]),2,none⟩,⟨(some 2),(.mv (.t 12)),3,none⟩] none) (.seq (.reg [⟨(some 14),(.load true [(.sl 1),(.int .i64)] (.t 1)),0,none⟩,⟨(some 15),(.mv (.t 2)),0,none⟩,⟨(some 16),(.call (.c (.fn 47)) [(.t 14),(.t 15)]),0,none⟩,⟨(some 13),(.mv (.t 16)),2,none⟩,⟨(some 17),(.extract (.t 13) 0),2,none⟩,⟨(some 18),(.extract (.t 13) 1),2,none⟩,⟨(some 3),(.mv (.t 17)),2,none⟩,⟨(some 4),(.mv (.t 18)),2,none⟩] none) (.seq (.reg [⟨(some 20),(.load true [(.sl 1),(.int .i64)] (.t 1)),0,none⟩,⟨(some 21),(.mv (.t 2)),0,none⟩,⟨(some 22),(.call (.c (.fn 115)) [(.c (.int .i64 2)),(.c (.int .i64 1)),(.c (.int .i64 0))]),0,none⟩,⟨(some 23),(.field true 1 2 (.t 22)),2,none⟩,⟨(some 24),(.call (.c (.fn 58)) [(.t 20),(.t 21),(.t 23)]),2,none⟩,⟨(some 19),(.mv (.t 24)),4,none⟩,⟨(some 25),(.extract (.t 19) 0),4,none⟩,⟨(some 26),(.extract (.t 19) 1),4,none⟩,⟨(some 5),(.mv (.t 25)),4,none⟩,⟨(some 6),(.mv (.t 26)),4,none⟩] (some [[],[],[],[2],[0,1,3,2],[4,0,1,3,2],[5,4,0,1,3,2],[5,4,0,1,3,2],[6,4,0,1,2,3,5],[7,8,0,1,2,3,4,5,6]])) (.seq (.reg [⟨(some 28),(.load true [(.sl 1),(.int .i64)] (.t 1)),0,none⟩,⟨(some 29),(.mv (.t 2)),0,none⟩,⟨(some 30),(.bslice 9 1 2 (.str []) [(0,(.c (.str [109]))),(1,(.c (.str [110])))]),0,none⟩,⟨(some 31),(.build [(.int .i64 0),(.sl 0 true [])] [(0,(1,(.c (.int .i64 1)))),(1,(1,(.t 30)))]),1,none⟩,⟨(some 32),(.bslice 104 2 1 (.agg [(.int .i64 0),(.sl 0 true [])]) [(0,(.t 31))]),1,none⟩,⟨(some 33),(.call (.c (.fn 57)) [(.t 28),(.t 29),(.t 32)]),2,none⟩,⟨(some 27),(.mv (.t 33)),4,none⟩,⟨(some 34),(.extract (.t 27) 0),4,none⟩,⟨(some 35),(.extract (.t 27) 1),4,none⟩,⟨(some 7),(.mv (.t 34)),4,none⟩,⟨(some 8),(.mv (.t 35)),4,none⟩] none) (.seq (.reg [⟨(some 36),(.mv (.t 3)),0,none⟩,⟨(some 37),(.bin .num .eql (.t 36) (.c (.int .i64 6))),0,none⟩,⟨(some 38),(.mv (.t 37)),0,none⟩,⟨(some 39),(.mv (.t 5)),0,(some (38,true))⟩,⟨(some 40),(.bin .num .eql (.t 39) (.c (.int .i64 2))),0,(some (38,true))⟩,⟨(some 41),(.pick (.t 38) (.t 40) (.c (.bool false))),0,none⟩,⟨(some 42),(.mv (.t 41)),0,none⟩,⟨(some 43),(.mv (.t 7)),0,(some (42,true))⟩,⟨(some 44),(.bin .num .eql (.t 43) (.c (.int .i64 11))),0,(some (42,true))⟩,⟨(some 45),(.pick (.t 42) (.t 44) (.c (.bool false))),0,none⟩,⟨(some 46),(.mv (.t 45)),0,none⟩,⟨(some 47),(.mv (.t 4)),0,(some (46,true))⟩,⟨(some 48),(.bin .num .eql (.t 47) (.c (.int .i64 0))),0,(some (46,true))⟩,⟨(some 49),(.pick (.t 46) (.t 48) (.c (.bool false))),0,none⟩,⟨(some 50),(.mv (.t 49)),0,none⟩,⟨(some 51),(.mv (.t 6)),0,(some (50,true))⟩,⟨(some 52),(.bin .num .eql (.t 51) (.c (.int .i64 0))),0,(some (50,true))⟩,⟨(some 53),(.pick (.t 50) (.t 52) (.c (.bool false))),0,none⟩,⟨(some 54),(.mv (.t 53)),0,none⟩,⟨(some 55),(.mv (.t 8)),0,(some (54,true))⟩,⟨(some 56),(.bin .num .eql (.t 55) (.c (.int .i64 0))),0,(some (54,true))⟩,⟨(some 57),(.pick (.t 54) (.t 56) (.c (.bool false))),0,none⟩,⟨(some 58),(.mv (.t 57)),0,none⟩,⟨(some 59),(.load true [(.sl 1),(.int .i64)] (.t 1)),0,(some (58,true))⟩,⟨(some 60),(.call (.c (.fn 50)) [(.t 59)]),0,(some (58,true))⟩,⟨(some 61),(.pick (.t 58) (.t 60) (.c (.bool false))),2,none⟩,⟨(some 0),(.mv (.t 61)),2,none⟩] none) .ret)))))))
def J2:List IRes:=[(.tmp 0)]
abbrev F3:Nat:=62
def Gt:ZK:=Xp [(115,.pure (preT (fun _:Int×Int×Int×Unit=>true)) (Zf (fun x:Int×Int×Int×Unit=>Kn x.1 x.2.1 x.2.2.1))),(47,.pure (preT (fun x:BoxT×List Fact×Unit=>ZW x.1&&Zo x.2.1&&decide (x.2.1.length<=100)&&decide (x.1.v.length<=1000))) (Zf (fun x:BoxT×List Fact×Unit=>YD x.1 x.2.1))),(58,.pure (preT (fun x:BoxT×List Fact×Lin×Unit=>Xw x.1 x.2.1 x.2.2.1)) (Zf (fun x:BoxT×List Fact×Lin×Unit=>XM lessB x.1 x.2.1 x.2.2.1))),(57,.pure (preT (fun x:BoxT×List Fact×List Mono×Unit=>YE x.1 x.2.1 x.2.2.1)) (Zf (fun x:BoxT×List Fact×List Mono×Unit=>Z8 x.1 x.2.1 x.2.2.1))),(50,.pure (preT (fun x:BoxT×Unit=>ZW x.1)) (Zf (fun x:BoxT×Unit=>YZ x.1)))]
theorem a6i{G:PV->Prop}(h : ∃ y0:Fact,AV.pv (Zf (fun(x:Int×Int×Int×Unit)=>Kn x.1 x.2.1 x.2.2.1) [(.int .i64 1),(.int .i64 (-1)),(.int .i64 (-1))])=AV.pv (enc y0)∧((Go.Pl.preT (fun(x:BoxT×List Fact×Unit)=>ZW x.1&&Zo x.2.1&&decide (List.length x.2.1<=100)&&decide (List.length x.1.v<=1000)) [(.agg [(.sl 1 false [(.str [(110:UInt8)]),(.str [(109:UInt8)])]),(.int .i64 3)]),(.sl 3 false [(.agg [(.bool y0.eq),(.int .i64 (Lin.k y0.l)),(.sl 2 false (List.map enc (Lin.t y0.l)))])])])=true∧(∃ y1:Int×Int,AV.pv (Zf (fun(x:BoxT×List Fact×Unit)=>YD x.1 x.2.1) [(.agg [(.sl 1 false [(.str [(110:UInt8)]),(.str [(109:UInt8)])]),(.int .i64 3)]),(.sl 3 false [(.agg [(.bool y0.eq),(.int .i64 (Lin.k y0.l)),(.sl 2 false (List.map enc (Lin.t y0.l)))])])])=AV.pv (enc y1)∧(∃ y2:Fact,AV.pv (Zf (fun(x:Int×Int×Int×Unit)=>Kn x.1 x.2.1 x.2.2.1) [(.int .i64 2),(.int .i64 1),(.int .i64 0)])=AV.pv (enc y2)∧((Go.Pl.preT (fun(x:BoxT×List Fact×Lin×Unit)=>Xw x.1 x.2.1 x.2.2.1) [(.agg [(.sl 1 false [(.str [(110:UInt8)]),(.str [(109:UInt8)])]),(.int .i64 3)]),(.sl 3 false [(.agg [(.bool y0.eq),(.int .i64 (Lin.k y0.l)),(.sl 2 false (List.map enc (Lin.t y0.l)))])]),(.agg [(.int .i64 (Lin.k y2.l)),(.sl 2 false (List.map enc (Lin.t y2.l)))])])=true∧(∃ y3:Int×Int,AV.pv (Zf (fun(x:BoxT×List Fact×Lin×Unit)=>XM lessB x.1 x.2.1 x.2.2.1) [(.agg [(.sl 1 false [(.str [(110:UInt8)]),(.str [(109:UInt8)])]),(.int .i64 3)]),(.sl 3 false [(.agg [(.bool y0.eq),(.int .i64 (Lin.k y0.l)),(.sl 2 false (List.map enc (Lin.t y0.l)))])]),(.agg [(.int .i64 (Lin.k y2.l)),(.sl 2 false (List.map enc (Lin.t y2.l)))])])=AV.pv (enc y3)∧((Go.Pl.preT (fun(x:BoxT×List Fact×List Mono×Unit)=>YE x.1 x.2.1 x.2.2.1) [(.agg [(.sl 1 false [(.str [(110:UInt8)]),(.str [(109:UInt8)])]),(.int .i64 3)]),(.sl 3 false [(.agg [(.bool y0.eq),(.int .i64 (Lin.k y0.l)),(.sl 2 false (List.map enc (Lin.t y0.l)))])]),(.sl 2 false [(.agg [(.int .i64 1),(.sl 1 false [(.str [(109:UInt8)]),(.str [(110:UInt8)])])])])])=true∧(∃ y4:Int×Int,AV.pv (Zf (fun(x:BoxT×List Fact×List Mono×Unit)=>Z8 x.1 x.2.1 x.2.2.1) [(.agg [(.sl 1 false [(.str [(110:UInt8)]),(.str [(109:UInt8)])]),(.int .i64 3)]),(.sl 3 false [(.agg [(.bool y0.eq),(.int .i64 (Lin.k y0.l)),(.sl 2 false (List.map enc (Lin.t y0.l)))])]),(.sl 2 false [(.agg [(.int .i64 1),(.sl 1 false [(.str [(109:UInt8)]),(.str [(110:UInt8)])])])])])=AV.pv (enc y4)∧(if (y1.1==6)=true then if (y3.1==2)=true then if (y4.1==11)=true then if (y1.2==0)=true then if (y3.2==0)=true then if (y4.2==0)=true then ∃ y5:Bool,AV.pv (Zf (fun(x:BoxT×Unit)=>YZ x.1) [(.agg [(.sl 1 false [(.str [(110:UInt8)]),(.str [(109:UInt8)])]),(.int .i64 3)])])=AV.pv (enc y5)∧(G ((.bool y5)))else(G ((.bool false)))else(G ((.bool false)))else(G ((.bool false)))else(G ((.bool false)))else(G ((.bool false)))else(G ((.bool false)))))))))))):Zc Gt 0 (Za J2 G) JL [] (Yr 62 []):=Zc.tp (.lit (.lit (.abs (Fact) (fun YY=>AV.pv (enc YY)) (.lit (.lit (.lit (.req (.abs (Int×Int) (fun YY=>AV.pv (enc YY)) (.lit (.abs (Fact) (fun YY=>AV.pv (enc YY)) (.lit (.lit (.req (.abs (Int×Int) (fun YY=>AV.pv (enc YY)) (.lit (.lit (.lit (.lit (.lit (.lit (.req (.abs (Int×Int) (fun YY=>AV.pv (enc YY)) (.lit (.ask (.lit (.lit (.lit (.ask (.lit (.lit (.lit (.ask (.lit (.lit (.lit (.ask (.lit (.lit (.lit (.ask (.lit (.lit (.lit (.ask (.lit (.lit (.lit (.abs (Bool) (fun YY=>AV.pv (enc YY)) (.lit (.nil)))))) (.lit (.lit (.nil))))))) (.lit (.lit (.lit (.lit (.lit (.nil)))))))))) (.lit (.lit (.lit (.lit (.lit (.lit (.lit (.lit (.nil))))))))))))) (.lit (.lit (.lit (.lit (.lit (.lit (.lit (.lit (.lit (.lit (.lit (.nil)))))))))))))))) (.lit (.lit (.lit (.lit (.lit (.lit (.lit (.lit (.lit (.lit (.lit (.lit (.lit (.lit (.nil))))))))))))))))))) (.lit (.lit (.lit (.lit (.lit (.lit (.lit (.lit (.lit (.lit (.lit (.lit (.lit (.lit (.lit (.lit (.lit (.nil)))))))))))))))))))))))))))))))))))))))))) h (by kernel_rfl)
end Go.Pl

namespace Go.Pl
open Go.RowKit
open Enc (enc dec is)
open EncL (encL decL isL)
theorem Fw: ∀ x:Int×Int×Int×Unit,(fun _:Int×Int×Int×Unit=>true) x=true->Zc G7 0 (Za J4 (Zj (Kn x.1 x.2.1 x.2.2.1))) JK [] (Yr Ol (encL x)):=by
 rintro⟨a,b,c,⟨⟩⟩ -
 have h1:=a8z ⟨c,[]⟩ xN a
 refine a5z a b c (Zd (c,()) rfl ⟨Ze ((⟨c,[]⟩:Lin),xN,a,()) rfl rfl,Zd ((⟨c,[]⟩:Lin),xN,a,()) rfl ⟨Ze (Kt ⟨c,[]⟩ xN a,xM,b,()) rfl ?_,Zd (Kt ⟨c,[]⟩ xN a,xM,b,()) rfl ?_⟩⟩)
 ·exact decide_eq_true (Nat.le_trans h1 (show 0+1<=1000000 by decide))
 ·exact ZP (x:=Kn a b c) rfl
def G9:BoxT:=⟨[xN,xM],3⟩
def GV:Fact:=⟨false,⟨-1,[⟨xM,-1⟩,⟨xN,1⟩]⟩⟩
def a4q:Lin:=⟨0,[⟨xM,1⟩,⟨xN,2⟩]⟩
def b6l:List Mono:=[⟨1,[xM,xN]⟩]
theorem b8n:Kn 1 (-1) (-1)=GV:=by decide
theorem c5g:(Kn 2 1 0).l=a4q:=by decide
theorem FV:Z0 G9 [GV]=[[1,0],[2,0],[2,1],[3,0],[3,1],[3,2]]:=by kernel_rfl
theorem b3j:Zm G9 [GV] true [xM,xN]=0:=by kernel_rfl
theorem c0c:Zm G9 [GV] true []=0:=by kernel_rfl
theorem a8r:YD G9 [GV]=(6,0):=by
 unfold YD YG
 rw[if_pos c0c,FV];rfl
theorem b6z:XM lessB G9 [GV] a4q=(2,0):=by
 have h1:Zz a4q=true:=by kernel_rfl
 have h2:Zp a4q=[xM,xN]:=rfl
 unfold XM Yz
 rw[h1,h2,if_pos b3j,FV]
 decide +kernel
theorem c6f:Z8 G9 [GV] b6l=(11,0):=by
 have h1:ZC b6l=true:=by kernel_rfl
 have h2:Yo b6l=[xM,xN]:=by rw[Rv];kernel_rfl
 unfold Z8
 rw[h1,h2,if_pos b3j,FV]
 decide +kernel
theorem Le: ∀ a:Unit,(fun _:Unit=>true) a=true->Zc Gt 0 (Za J2 (Zj true)) JL [] (Yr F3 (encL a)):=by
 rintro⟨⟩ -
 refine a6i (Zd ((1:Int),(-1:Int),(-1:Int),()) rfl ?_)
 simp only[b8n]
 refine⟨Ze (G9,[GV],()) rfl (by decide),Zd (G9,[GV],()) rfl (Zd ((2:Int),(1:Int),(0:Int),()) rfl ?_)⟩
 simp only[a8r,c5g]
 refine⟨Ze (G9,[GV],a4q,()) rfl (by decide),Zd (G9,[GV],a4q,()) rfl ?_⟩
 simp only[b6z]
 refine⟨Ze (G9,[GV],b6l,()) rfl (by decide),Zd (G9,[GV],b6l,()) rfl ?_⟩
 simp only[c6f]
 refine ZU rfl (ZU rfl (ZU rfl (ZU rfl (ZU rfl (ZU rfl (Zd (G9,()) rfl (ZM ?_)))))))
 kernel_rfl
end Go.Pl

namespace Go.Pl
open Go.RowKit
open Enc (enc dec is)
open EncL (encL decL isL)
set_option maxRecDepth 100000
end Go.Pl

namespace Go.Pl
open Go.RowKit
open Enc (enc dec is)
open EncL (encL decL isL)
theorem a1e{l:Lin}{n:Int}(h:QR l n=true)(hn:n<=1000):Z6 l=true∧(l.t.length:Int)<=n:=by
 unfold QR at h
 simp only[Bool.and_eq_true,decide_eq_true_eq]at h
 refine⟨?_,h.2⟩
 unfold Z6 Xq
 rw[Bool.and_eq_true]
 refine⟨decide_eq_true (by omega),List.all_eq_true.2 fun t ht=> ?_⟩
 have:=List.all_eq_true.1 h.1 t ht
 have:=of_decide_eq_true this
 exact decide_eq_true (by omega)
theorem a3j{b:BoxT}{fs:List Fact}(h:Qi b fs=true):b.v.length<=5∧fs.length<=6∧Zo fs=true∧(∀ f∈fs,QR f.l 8=true):=by
 unfold Qi Cb at h
 simp only[Bool.and_eq_true,decide_eq_true_eq]at h
 obtain⟨⟨⟨h1,h2⟩,h3⟩,h4,h5⟩:=h
 have h4:=List.all_eq_true.1 h4
 refine⟨h1,h3,?_,h4⟩
 unfold Zo
 rw[Bool.and_eq_true]
 exact⟨decide_eq_true (by omega),List.all_eq_true.2 fun f hf=>(a1e (h4 f hf) (by omega)).1⟩
theorem c6e{b:BoxT}{fs:List Fact}(hr:(YG b fs).1≠[]):YZ b=true∧(YG b fs).1=Z0 b fs:=by
 unfold YG at hr ⊢
 split at hr
 ·rename_i h0
  exact⟨(WA _ _ _ _ h0).1,by rw[if_pos h0]⟩
 ·exact absurd rfl hr
theorem a3t{b:BoxT}{fs:List Fact}(hb:b.v.length<=1000):(YG b fs).1.length<=20000∧(YG b fs).1.all Zn=true:=by
 by_cases h:(YG b fs).1=[]
 ·rw[h];exact⟨by simp,rfl⟩
 ·obtain⟨hv,e⟩:=c6e h
  rw[e]
  constructor
  ·unfold Z0
   refine Nat.le_trans (List.length_filter_le _ _) ?_
   rw[WX hv,Gi]
   exact CO hv
  ·refine List.all_eq_true.2 fun p hp=>Zu.2 ?_
   unfold Z0 at hp
   rw[WX hv]at hp
   have:=(KS.1 (List.mem_filter.1 hp).1).1
   omega
end Go.Pl

namespace Go.Pl
open Go.RowKit
open Enc (enc dec is)
open EncL (encL decL isL)
theorem Gf{b:BoxT}{fs:List Fact}(hv:YZ b=true){p:List Int}:p∈Z0 b fs ↔ (p.length=b.v.length∧X4 b.v fs p=true)∧ ∀ x∈p,0<=x∧x<=b.m:=by
 unfold Z0
 rw[WX hv,List.mem_filter,KS]
 have:0<=b.m:=(X7.1 hv).2.2.2.1
 have e:(b.m.toNat:Int)=b.m:=by omega
 rw[e]
 exact⟨fun h=>⟨⟨h.1.1,h.2⟩,h.1.2⟩,fun h=>⟨⟨h.1.1,h.2⟩,h.1.2⟩⟩
end Go.Pl

namespace Go.Pl
open Go.RowKit
end Go.Pl

namespace Go.Pl
open Go.RowKit
open Enc (enc dec is)
open EncL (encL decL isL)
theorem TT: ∀ {l:List Int} {z:Int},Ue lessB l=some z->z∈l∧ ∀ n∈l,z<=n:=by
 have key : ∀ (l:List Int) (x:Int),(l.foldl (fun z n=>if lessB n z then n else z) x=x∨l.foldl (fun z n=>if lessB n z then n else z) x∈l)∧l.foldl (fun z n=>if lessB n z then n else z) x<=x∧ ∀ n∈l,l.foldl (fun z n=>if lessB n z then n else z) x<=n:=by
  intro l
  induction l with
  | nil=>intro x;exact⟨.inl rfl,by simp,by simp⟩
  | cons y l ih=>
   intro x
   rw[List.foldl_cons]
   by_cases h:y<x
   ·have e:(if lessB y x=true then y else x)=y:=if_pos (decide_eq_true h)
    rw[e]
    obtain⟨a,b,c⟩:=ih y
    refine⟨.inr ?_,by omega,fun n hn=> ?_⟩
    ·rcases a with a|a
     ·rw[a];simp
     ·exact List.mem_cons_of_mem _ a
    ·rcases List.mem_cons.1 hn with rfl|hn
     ·exact b
     ·exact c n hn
   ·have e:(if lessB y x=true then y else x)=x:=if_neg (by simpa [lessB]using h)
    rw[e]
    obtain⟨a,b,c⟩:=ih x
    refine⟨?_,b,fun n hn=> ?_⟩
    ·rcases a with a|a
     ·exact .inl a
     ·exact .inr (List.mem_cons_of_mem _ a)
    ·rcases List.mem_cons.1 hn with rfl|hn
     ·omega
     ·exact c n hn
 intro l z h
 cases l with
 | nil=>cases h
 | cons x l=>
  have h:l.foldl (fun z n=>if lessB n z then n else z) x=z:=by simpa [Ue]using h
  obtain⟨a,b,c⟩:=key l x
  rw[h]at a b c
  refine⟨?_,fun n hn=> ?_⟩
  ·rcases a with a|a
   ·simp[a]
   ·exact List.mem_cons_of_mem _ a
  ·rcases List.mem_cons.1 hn with rfl|hn
   ·exact b
   ·exact c n hn
theorem RJ(f:Int->Int->Bool)(l:List Int):Ue f l=none ↔ l=[]:=by
 cases l <;> simp[Ue]
end Go.Pl

