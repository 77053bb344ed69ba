/-
  Texts of mine that belong together (packed by pack.py), for every input: TyWk, TyWc, TyCm, TyWe, TyRa, GWz, TyCd, GWh, GWb, QCa, QCb, QCd, QCc, TyWp, TyWq, TyCf, QCe, QCf.
-/
import Derived.Test.YtgllkpfiokkdhaaGreatDoorChecked
import Derived.Test.YtgllkpfiokkdhaaGreatDoorCC2
import Derived.Test.YtgllkpfiokkdhaaGreatDoorCC3
import Derived.Test.YtgllkpfiokkdhaaGreatDoorCC4
import Derived.KernelRfl
set_option linter.unusedVariables false
set_option linter.unusedSimpArgs false
namespace Go.Pl
open Go.RowKit
open Enc (enc dec is)
open EncL (encL decL isL)
def c9e(a n:Nat)(m:List Int):List Int:=m.take a++List.replicate n 0++m.drop a
def c4u(k:Int):Bool:=k==1||k==2
mutual
def Ea(a n:Int):Cert->Option Cert
 | .mk k m l ks=>if (decide (a<0)||decide (n<0)||decide (n>100)||(c4u k&&decide ((m.length:Int)<a)))=true then none else
  match Qw a n ks with
  | none=>none
  | some ks'=>some (.mk k (if c4u k=true then c9e a.toNat n.toNat m else m) l ks')
def Qw(a n:Int):List Cert->Option (List Cert)
 | []=>some []
 | c::cs=>match Ea a n c with
  | none=>none
  | some c'=>match Qw a n cs with
   | none=>none
   | some cs'=>some (c'::cs')
end
structure C5 where
 k:Int
 m:List Int
 lk:Int
 lt:List Coef
 ks:List Cert
instance:Enc C5 where
 sz:=5
 enc x:=.agg [enc x.k,enc x.m,enc x.lk,enc x.lt,enc x.ks]
 dec | .agg [a,b,c,d,e]=>⟨dec a,dec b,dec c,dec d,dec e⟩|_=>⟨0,[],0,[],[]⟩
 is | .agg [a,b,c,d,e]=>is Int a&&is (List Int) b&&is Int c&&is (List Coef) d&&is (List Cert) e|_=>false
 is_enc v:=by simp
 dec_enc v:=by simp
 sub p h:=by
  cases p with
  | agg xs=>
   match xs,h with
   | [a,b,c,d,e],h=>
    simp only[Bool.and_eq_true]at h
    exact .agg (.cons (Enc.sub a h.1.1.1.1).2 (.cons (Enc.sub b h.1.1.1.2).2 (.cons (Enc.sub c h.1.1.2).2 (.cons (Enc.sub d h.1.2).2 (.cons (Enc.sub e h.2).2 .nil)))))
  | _=>cases h
def c5:Cert->C5
 | .mk k m l ks=>⟨k,m,l.k,l.t,ks⟩
def C5.c(x:C5):Cert:=.mk x.k x.m ⟨x.lk,x.lt⟩ x.ks
theorem d6d(c:Cert):(enc (c5 c):PV)=enc c:=by
 cases c with
 | mk k m l ks=>
  show PV.agg [enc k,enc m,enc l.k,enc l.t,.sl 5 false (ks.map enc)]=PV.agg [enc k,enc m,enc l.k,enc l.t,.sl 5 false (Wo ks)]
  rw[PM]
  rfl
mutual
def cW:Cert->Bool
 | .mk _ m l ks=>decide (m.length<=1000)&&decide (l.t.length<=1000)&&decide (ks.length<=1000)&&cWs ks
def cWs:List Cert->Bool
 | []=>true
 | c::cs=>cW c&&cWs cs
end
end Go.Pl
namespace Go.Pl
open Go.RowKit
open Enc (enc dec is)
open EncL (encL decL isL)
def encIs(m:List Int):List UInt8:=encI m.length++m.flatMap encI
mutual
def encC:Cert->List UInt8
 | .mk k m l ks=>encI k++(encIs m++(ZV l++(encI ks.length++XO ks)))
def XO:List Cert->List UInt8
 | []=>[]
 | c::cs=>encC c++XO cs
end
def KS(g:Nat):List AV->List AObj->Bool
 | [.pv p,.pv l,.pv (.fn f)],[]=>f==g&&QV (List UInt8) p&&QV (List Int) l&&decide ((Za p++encIs (dec l)).length<=1000000)
 | _,_=>false
def Dx(tb:Nat):List AV->List AObj->AV×List AObj×List AObj
 | [.pv p,.pv l,_],[]=>(.row 0 (Za p++encIs (dec l)).length 0 (Za p++encIs (dec l)).length,[],[.row false tb 1 ((Za p++encIs (dec l)).map enc)])
 | _,_=>Nf
def CS:List AV->List AObj->Bool
 | [.pv p,.pv c],[]=>QV (List UInt8) p&&QV Cert c&&Y8 (dec c)&&decide ((Za p++encC (dec c)).length<=1000000)
 | _,_=>false
def Qp(tb:Nat):List AV->List AObj->Bool
 | [.pv p,.pv c],[]=>QV (List UInt8) p&&QV Cert c&&Y8 (dec c)&&decide ((Za p++encC (dec c)).length<=1000000)
 | [.row 0 q 0 q',.pv c],[.row fz ty 1 xs]=>ty==tb&&Aq xs&&xs.length==q&&q'==q&&QV Cert c&&Y8 (dec c)&&decide (q+(encC (dec c)).length<=1000000)
 | _,_=>false
def X6(tb:Nat):List AV->List AObj->AV×List AObj×List AObj
 | [.pv p,.pv c],[]=>(.row 0 (Za p++encC (dec c)).length 0 (Za p++encC (dec c)).length,[],[.row false tb 1 ((Za p++encC (dec c)).map enc)])
 | [.row _ q _ _,.pv c],[.row fz ty sz xs]=>(.row 1 (Za (.sl 1 false xs)++encC (dec c)).length 0 (Za (.sl 1 false xs)++encC (dec c)).length,[.row true ty 1 xs],[.row false tb 1 ((Za (.sl 1 false xs)++encC (dec c)).map enc)])
 | _,_=>Nf
def Ji:List AV->List AObj->Nat
 | [_,.pv c],_=>ZL (dec c)
 | _,_=>0
def Vb:List AV->List AObj->Bool
 | [.pv (.sl 0 true []),.pv c],[]=>is Cert c&&Y8 (dec c)&&decide ((encC (dec c)).length<=1000000)
 | _,_=>false
def Dy(tb:Nat):List AV->List AObj->AV×List AObj×List AObj
 | [_,.pv c],[]=>(.row 0 (encC (dec c)).length 0 (encC (dec c)).length,[],[.row false tb 1 ((encC (dec c)).map enc)])
 | _,_=>Nf
def YX(lo hi:Int):Nat->List UInt8->Int->List Int×List UInt8×Int
 | 0,x,e=>([],x,e)
 | j+1,x,e=>if e≠0 then([],x,e)else
  let c:=Zc lo hi 2 x 0
  let r:=YX lo hi j c.2.1 c.2.2
  (c.1::r.1,r.2)
def UU(most lo hi:Int)(x:List UInt8)(e:Int):List Int×List UInt8×Int:=
 let n:=Zc 0 most 3 x e
 YX lo hi n.1.toNat n.2.1 n.2.2
def Zg(most lo hi:Int)(x:List UInt8)(e:Int):List Int×List UInt8×Int:=
 if e≠0 then([],x,e)else
 let a:=UU most lo hi x 0
 if a.2.2≠0 then([],x,a.2.2)else a
def JG(r:List Int×List UInt8×Int)(os:List AObj):AV×List AObj×List AObj:=(.pv (enc r.1),sB r.2.1 r.2.2::os,[])
def Jm:List AV->List AObj->Bool
 | [.ptr 0 0,.ptr 1 0,.ptr 2 0],[.box [.ptr 3 0],.box [.pv (.int .i64 lo)],.box [.pv (.int .i64 hi)],.box [.pv p,.pv (.int .i64 err)]]=>XL p
 | _,_=>false
def Ob:List AV->List AObj->AV×List AObj×List AObj
 | _,[.box [.ptr 3 0],.box [.pv (.int .i64 lo)],.box [.pv (.int .i64 hi)],.box [.pv p,.pv (.int .i64 err)]]=>
  (.pv (.int .i64 (Zc lo hi 2 (Za p) err).1),[.box [.ptr 3 0],Va lo,Va hi,sB (Zc lo hi 2 (Za p) err).2.1 (Zc lo hi 2 (Za p) err).2.2],[])
 | _,_=>Nf
def J8(g:Nat):List AV->List AObj->Bool
 | [.ptr 0 0,.pv (.int .i64 most),.fn g' [] [.ptr 1 0,.ptr 2 0,.ptr 3 0]],[.box [.pv p,.pv (.int .i64 err)],.box [.ptr 0 0],.box [.pv (.int .i64 lo)],.box [.pv (.int .i64 hi)]]=>g'==g&&XL p&&decide (most<=2000)&&decide (0<=most)
 | _,_=>false
def CW:List AV->List AObj->AV×List AObj×List AObj
 | [_,.pv (.int .i64 most),_],[.box [.pv p,.pv (.int .i64 err)],.box [.ptr 0 0],.box [.pv (.int .i64 lo)],.box [.pv (.int .i64 hi)]]=>JG (UU most lo hi (Za p) err) [.box [.ptr 0 0],Va lo,Va hi]
 | _,_=>Nf
def KH:List AV->List AObj->Bool
 | [.ptr 0 0,.ptr 1 0,.ptr 2 0,.ptr 3 0],[.box [.pv p,.pv (.int .i64 err)],.box [.pv (.int .i64 most)],.box [.pv (.int .i64 lo)],.box [.pv (.int .i64 hi)]]=>XL p&&decide (most<=2000)&&decide (0<=most)
 | _,_=>false
def BL:List AV->List AObj->AV×List AObj×List AObj
 | _,[.box [.pv p,.pv (.int .i64 err)],.box [.pv (.int .i64 most)],.box [.pv (.int .i64 lo)],.box [.pv (.int .i64 hi)]]=>JG (UU most lo hi (Za p) err) [Va most,Va lo,Va hi]
 | _,_=>Nf
def JS(g:Nat):List AV->List AObj->Bool
 | [.ptr 0 0,.fn g' [] [.ptr 1 0,.ptr 2 0,.ptr 3 0]],[.box [.pv p,.pv (.int .i64 err)],.box [.pv (.int .i64 most)],.box [.pv (.int .i64 lo)],.box [.pv (.int .i64 hi)]]=>g'==g&&XL p&&decide (most<=2000)&&decide (0<=most)
 | _,_=>false
def DK:List AV->List AObj->AV×List AObj×List AObj
 | _,[.box [.pv p,.pv (.int .i64 err)],.box [.pv (.int .i64 most)],.box [.pv (.int .i64 lo)],.box [.pv (.int .i64 hi)]]=>JG (Zg most lo hi (Za p) err) [Va most,Va lo,Va hi]
 | _,_=>Nf
def Xg:List AV->List AObj->Bool
 | [.ptr 0 0,.pv (.int .i64 most),.pv (.int .i64 lo),.pv (.int .i64 hi)],[.box [.pv p,.pv (.int .i64 err)]]=>XL p&&decide (most<=2000)&&decide (0<=most)
 | _,_=>false
def Uh:List AV->List AObj->AV×List AObj×List AObj
 | [_,.pv (.int .i64 most),.pv (.int .i64 lo),.pv (.int .i64 hi)],[.box [.pv p,.pv (.int .i64 err)]]=>JG (Zg most lo hi (Za p) err) []
 | _,_=>Nf
def QN(t:Bool)(x:List UInt8):Int×List UInt8×Int:=
 if t=true then Zc 0 2 3 x 0 else
 let b:=Zc (-9223372036854775808) 9223372036854775807 2 x 0
 if b.2.2=0∧(b.1<0∨b.1>2)then(b.1,b.2.1,3)else b
def Z8(d:Int->List UInt8->C5×List UInt8×Int×Int):Nat->Int->List UInt8->Int->List Cert×List UInt8×Int×Int
 | 0,w,x,e=>([],x,e,w)
 | j+1,w,x,e=>if e≠0 then([],x,e,w)else
  let c:=d w x
  let r:=Z8 d j c.2.2.2 c.2.1 c.2.2.1
  (c.1.c::r.1,r.2)
def QC:C5:=⟨0,[],0,[],[]⟩
def VC(t:Bool)(d:Int->List UInt8->C5×List UInt8×Int×Int)(w:Int)(x:List UInt8):C5×List UInt8×Int×Int:=
 let k:=Zc 1 3 2 x 0
 let m:=Zg 1100 (-1000000000) 1000000000 k.2.1 k.2.2
 let l:=Zp m.2.1 m.2.2
 if l.2.2≠0 then(if t=true then QC else⟨k.1,m.1,l.1.k,l.1.t,[]⟩,l.2.1,l.2.2,w - 1)else
 let n:=QN t l.2.1
 let r:=Z8 d n.1.toNat (w - 1) n.2.1 n.2.2
 (⟨k.1,m.1,l.1.k,l.1.t,r.1⟩,r.2)
def Ua(t:Bool):Nat->Int->List UInt8->C5×List UInt8×Int×Int
 | 0,w,x=>(QC,x,3,w)
 | F+1,w,x=>if w<=0 then(QC,x,3,if t=true then w else w - 1)else VC t (Ua t F) w x
def Zx(t:Bool)(w:Int)(x:List UInt8):C5×List UInt8×Int×Int:=Ua t (w.toNat+1) w x
def ZF(t:Bool)(n:Int):Int:=if t=true then n else 1000 - n
def d1l(t:Bool)(r:C5×List UInt8×Int×Int):AV×List AObj×List AObj:=(.pv (enc r.1),[sB r.2.1 r.2.2.1,Va (ZF t r.2.2.2)],[])
def YE:List AV->List AObj->Bool
 | [.ptr 0 0,.ptr 1 0],[.box [.pv p,.pv (.int .i64 err)],.box [.pv (.int .i64 n)]]=>XL p&&decide (err=0)&&decide (0<=n)&&decide (n<=1000)
 | _,_=>false
def VU(t:Bool):List AV->List AObj->AV×List AObj×List AObj
 | _,[.box [.pv p,.pv (.int .i64 err)],.box [.pv (.int .i64 n)]]=>d1l t (Zx t (ZF t n) (Za p))
 | _,_=>Nf
def WQ(t:Bool):List AV->List AObj->Nat
 | _,[_,.box [.pv (.int .i64 n)]]=>(ZF t n).toNat
 | _,_=>0
def Zb(x:List UInt8)(err:Int):C5×List UInt8×Int:=
 if err≠0 then(QC,x,err)else
 let r:=Zx true 1000 x
 if r.2.2.1≠0 then(QC,x,r.2.2.1)else(r.1,r.2.1,0)
def Z0:List AV->List AObj->AV×List AObj×List AObj
 | [.ptr 0 0],[.box [.pv p,.pv (.int .i64 err)]]=>(.pv (enc (Zb (Za p) err).1),[sB (Zb (Za p) err).2.1 (Zb (Za p) err).2.2],[])
 | [.pv .nilp],[]=>(.pv (enc QC),[],[])
 | _,_=>Nf
end Go.Pl
namespace Go.Pl.Cm
open Go.RowKit
open Enc (enc dec is)
open EncL (encL decL isL)
structure CmpOK {α:Type} (f:α->α->Int):Prop where
 anti : ∀ a b,f b a = - f a b
 zero : ∀ a b,f a b=0 ↔ a=b
 trans : ∀ a b c,f a b<=0->f b c<=0->f a c<=0
 rng : ∀ a b,-1<=f a b∧f a b<=1
theorem CmpOK.strict{α:Type}{f:α->α->Int}(h:CmpOK f){a b c:α}(h1:f a b<0)(h2:f b c<=0):f a c<0:=by
 have h3:=h.trans a b c (by omega) h2
 by_cases h0:f a c=0
 ·obtain rfl:=(h.zero a c).1 h0
  have:=h.anti a b
  omega
 ·omega
def Vo{α:Type}(f:α->α->Int):List α->List α->Int
 | [],[]=>0
 | [],_::_=> -1
 | _::_,[]=>1
 | x::l,y::m=>if f x y≠0 then f x y else Vo f l m
theorem NU{α:Type}{f:α->α->Int}(h:CmpOK f): ∀ a b,Vo f b a = - Vo f a b
 | [],[]=>rfl
 | [],_::_=>rfl
 | _::_,[]=>rfl
 | x::l,y::m=>by
  have h1:=h.anti x y
  rw[Vo,Vo,h1,NU h l m]
  by_cases h0:f x y=0
  ·rw[if_neg (by omega),if_neg (by omega)]
  ·rw[if_pos (by omega),if_pos (by omega)]
theorem NS{α:Type}{f:α->α->Int}(h:CmpOK f): ∀ a b,Vo f a b=0 ↔ a=b
 | [],[]=>by simp[Vo]
 | [],_::_=>by simp[Vo]
 | _::_,[]=>by simp[Vo]
 | x::l,y::m=>by
  rw[Vo,List.cons.injEq,<- h.zero x y,<- NS h l m]
  by_cases h0:f x y=0
  ·rw[if_neg (by omega)];omega
  ·rw[if_pos (by omega)];omega
theorem O7{α:Type}{f:α->α->Int}(h:CmpOK f): ∀ a b,-1<=Vo f a b∧Vo f a b<=1
 | [],[]=>by simp[Vo]
 | [],_::_=>by simp[Vo]
 | _::_,[]=>by simp[Vo]
 | x::l,y::m=>by
  rw[Vo]
  split
  ·exact h.rng x y
  ·exact O7 h l m
theorem TC{α:Type}{f:α->α->Int}(h:CmpOK f): ∀ a b c,Vo f a b<=0->Vo f b c<=0->Vo f a c<=0
 | [],_,[],_,_=>by simp[Vo]
 | [],_,_::_,_,_=>by simp[Vo]
 | _::_,[],_,h1,_=>by simp[Vo]at h1
 | _::_,_::_,[],_,h2=>by simp[Vo]at h2
 | x::l,y::m,z::n,h1,h2=>by
  rw[Vo]at h1 h2 ⊢
  by_cases a:f x y=0
  ·obtain rfl:=(h.zero x y).1 a
   rw[if_neg (by omega)]at h1
   by_cases b:f x z=0
   ·rw[if_neg (by omega)]at h2 ⊢
    exact TC h l m n h1 h2
   ·rw[if_pos b]at h2 ⊢
    exact h2
  ·rw[if_pos a]at h1
   by_cases b:f y z=0
   ·obtain rfl:=(h.zero y z).1 b
    rw[if_pos a]
    exact h1
   ·rw[if_pos b]at h2
    have:=h.strict (show f x y<0 by omega) h2
    rw[if_pos (by omega)]
    omega
theorem a8u{α:Type}{f:α->α->Int}(h:CmpOK f):CmpOK (Vo f):=⟨NU h,NS h,TC h,O7 h⟩
theorem a9c{α β γ:Type}{f:β->β->Int}{g:γ->γ->Int}(p:α->β)(q:α->γ)(hpq : ∀ a b,p a=p b->q a=q b->a=b)(hf:CmpOK f)(hg:CmpOK g):CmpOK fun a b:α=>if f (p a) (p b)≠0 then f (p a) (p b)else g (q a) (q b):=by
 refine⟨fun a b=> ?_,fun a b=> ?_,fun a b c h1 h2=> ?_,fun a b=> ?_⟩
 ·have h1:=hf.anti (p a) (p b)
  have h2:=hg.anti (q a) (q b)
  try simp only
  by_cases h0:f (p a) (p b)=0
  ·rw[if_neg (by omega),if_neg (by omega),h2]
  ·rw[if_pos (by omega),if_pos h0,h1]
 ·try simp only
  by_cases h0:f (p a) (p b)=0
  ·rw[if_neg (by omega),hg.zero]
   exact⟨fun h=>hpq a b ((hf.zero _ _).1 h0) h,fun h=>by rw[h]⟩
  ·rw[if_pos h0]
   exact⟨fun h=>absurd h h0,fun h=>absurd ((hf.zero _ _).2 (by rw[h])) h0⟩
 ·try simp only at h1 h2 ⊢
  by_cases x:f (p a) (p b)=0
  ·have e:=(hf.zero _ _).1 x
   rw[if_neg (by omega)]at h1
   rw[e]
   by_cases y:f (p b) (p c)=0
   ·rw[if_neg (by omega)]at h2 ⊢
    exact hg.trans _ _ _ h1 h2
   ·rw[if_pos y]at h2 ⊢
    exact h2
  ·rw[if_pos x]at h1
   by_cases y:f (p b) (p c)=0
   ·have e:=(hf.zero _ _).1 y
    rw[<- e,if_pos x]
    exact h1
   ·rw[if_pos y]at h2
    have:=hf.strict (show f (p a) (p b)<0 by omega) h2
    rw[if_pos (by omega)]
    omega
 ·try simp only
  split
  ·exact hf.rng _ _
  ·exact hg.rng _ _
theorem HZ:CmpOK Su:=by
 refine⟨fun a b=> ?_,fun a b=> ?_,fun a b c=> ?_,fun a b=> ?_⟩ <;> unfold Su <;> (repeat' split) <;> omega
def b4s(a b:UInt8):Int:=if a<b then -1 else if b<a then 1 else 0
theorem Jt(a b:UInt8):b4s a b=Su a.toNat b.toNat:=by
 unfold b4s Su
 simp only[UInt8.lt_iff_toNat_lt]
 repeat' split
 all_goals omega
theorem c8v:CmpOK b4s:=by
 refine⟨fun a b=> ?_,fun a b=> ?_,fun a b c=> ?_,fun a b=> ?_⟩
 ·rw[Jt,Jt];exact HZ.anti _ _
 ·rw[Jt,HZ.zero]
  exact⟨fun h=>UInt8.toNat_inj.1 (by omega),fun h=>by rw[h]⟩
 ·rw[Jt,Jt,Jt];exact HZ.trans _ _ _
 ·rw[Jt];exact HZ.rng _ _
theorem a2w: ∀ a b:List UInt8,Lib.compareBytes a b=Vo b4s a b
 | [],[]=>rfl
 | [],_::_=>rfl
 | _::_,[]=>rfl
 | x::l,y::m=>by
  rw[Lib.compareBytes,Vo,a2w l m]
  unfold b4s
  by_cases h1:x<y
  ·simp[h1]
  ·by_cases h2:y<x
   ·simp[h1,h2]
   ·simp[h1,h2]
theorem a1a:CmpOK Lib.compareBytes:=by
 have:Lib.compareBytes=Vo b4s:=by funext a b;exact a2w a b
 rw[this]
 exact a8u c8v
theorem Fe:CmpOK OY:=a9c (fun x:Coef=>x.v.s) (fun x:Coef=>x.c) (fun a b h1 h2=>by
 obtain⟨⟨s⟩,c⟩:=a
 obtain⟨⟨s'⟩,c'⟩:=b
 simp only at h1 h2
 rw[h1,h2]) a1a HZ
theorem O6: ∀ a b:List Coef,C8 a b=Vo OY a b
 | [],[]=>rfl
 | [],_::_=>rfl
 | _::_,[]=>rfl
 | x::l,y::m=>by rw[C8,Vo,O6 l m]
theorem c3b:CmpOK C8:=by
 have:C8=Vo OY:=by funext a b;exact O6 a b
 rw[this]
 exact a8u Fe
theorem b3i:CmpOK FE:=a9c (fun x:Lin=>x.t) (fun x:Lin=>x.k) (fun a b h1 h2=>by
 obtain⟨k,t⟩:=a
 obtain⟨k',t'⟩:=b
 simp only at h1 h2
 rw[h1,h2]) c3b HZ
theorem a1s: ∀ a b:List UInt8,Lib.compareBytes a b<0 ↔ a<b
 | [],[]=>by simp[Lib.compareBytes]
 | [],_::_=>by simp[Lib.compareBytes]
 | _::_,[]=>by simp[Lib.compareBytes]
 | x::l,y::m=>by
  rw[Lib.compareBytes,List.cons_lt_cons_iff,<- a1s l m]
  by_cases h1:x<y
  ·simp[h1]
  ·by_cases h2:y<x
   ·have:x≠y:=fun e=>by subst e;exact h1 h2
    simp[h1,h2,this]
   ·have:x=y:=UInt8.toNat_inj.1 (by simp only[UInt8.lt_iff_toNat_lt]at h1 h2;omega)
    simp[this]
theorem d1f(x y:Coef):OY x y<0 ↔ (x.v.s<y.v.s∨x.v.s=y.v.s∧x.c<y.c):=by
 unfold OY
 rw[<- a1s,<- a1a.zero]
 split
 ·omega
 ·have:Su x.c y.c<0 ↔ x.c<y.c:=by
   unfold Su
   repeat' split
   all_goals omega
  rw[this]
  omega
theorem a7v: ∀ a b:List Coef,Cf a b=C8 a b
 | [],[]=>rfl
 | [],_::_=>rfl
 | _::_,[]=>rfl
 | x::l,y::m=>by
  have h1:=d1f x y
  have h2:=Fe.zero x y
  have h3:=Fe.rng x y
  rw[Cf,C8,a7v l m]
  by_cases a:OY x y<0
  ·rw[if_pos (h1.1 a),if_pos (by omega)];omega
  ·rw[if_neg (fun h=>a (h1.2 h))]
   by_cases b:OY x y=0
   ·rw[if_pos (h2.1 b),if_neg (by omega)]
   ·rw[if_neg (fun h=>b (h2.2 h)),if_pos b];omega
theorem b1j(a b:Lin):Nl a b=FE a b:=by
 unfold Nl FE
 rw[a7v]
theorem a6j(a b:Lin):(FE a b==0)=decide (a=b):=by
 have:=b3i.zero a b
 by_cases h:a=b
 ·rw[this.2 h,decide_eq_true h];rfl
 ·rw[decide_eq_false h]
  exact beq_eq_false_iff_ne.2 fun e=>h (this.1 e)
theorem cmpL_dec(a b:Lin):(Nl a b==0)=decide (a=b):=by rw[b1j,a6j]
end Go.Pl.Cm
namespace Go.Pl
open Go.RowKit
open Enc (enc dec is)
open EncL (encL decL isL)
mutual
def OZ:Cert->Cert->Bool
 | .mk k m l ks,.mk k' m' l' ks'=>(k==k')&&(decide (m=m')&&(decide (l=l')&&Sr ks ks'))
def Sr:List Cert->List Cert->Bool
 | [],[]=>true
 | c::cs,d::ds=>OZ c d&&Sr cs ds
 | [],_::_=>false
 | _::_,[]=>false
end
mutual
theorem Ru: ∀ c:Cert,OZ c c=true
 | .mk k m l ks=>by simp[OZ,Mm ks]
theorem Mm: ∀ cs:List Cert,Sr cs cs=true
 | []=>by simp[Sr]
 | c::cs=>by simp[Sr,Ru c,Mm cs]
end
theorem En: ∀ {cs ds:List Cert},cs.length≠ds.length->Sr cs ds=false
 | [],[],h=>absurd rfl h
 | [],_::_,_=>by simp[Sr]
 | _::_,[],_=>by simp[Sr]
 | c::cs,d::ds,h=>by rw[Sr,En (cs:=cs) (ds:=ds) (by simpa using h),Bool.and_false]
theorem RU{a n:Int}: ∀ {cs ds:List Cert},Qw a n cs=some ds->ds.length=cs.length
 | [],ds,h=>by rw[Qw]at h;cases h;rfl
 | c::cs,ds,h=>by
  rw[Qw]at h
  cases hc:Ea a n c with
  | none=>rw[hc]at h;cases h
  | some c'=>
   rw[hc]at h
   cases hd:Qw a n cs with
   | none=>rw[hd]at h;cases h
   | some cs'=>
    rw[hd]at h
    cases h
    simp[RU hd]
end Go.Pl
namespace Go.Pl
open Go.RowKit
open Enc (enc dec is)
open EncL (encL decL isL)
structure BoxT where
 v:List Str
 m:Int
 deriving DecidableEq
instance:Enc BoxT where
 sz:=2
 enc x:=.agg [enc x.v,enc x.m]
 dec | .agg [a,b]=>⟨dec a,dec b⟩|_=>⟨[],0⟩
 is | .agg [a,b]=>is (List Str) a&&is Int b|_=>false
 is_enc v:=by simp
 dec_enc v:=by simp
 sub p h:=by
  cases p with
  | agg xs=>
   match xs,h with
   | [a,b],h=>
    simp only[Bool.and_eq_true]at h
    exact .agg (.cons (Enc.sub a h.1).2 (.cons (Enc.sub b h.2).2 .nil))
  | _=>cases h
@[simp] theorem e0x (a b : PV) : is BoxT (.agg [a, b]) = (is (List Str) a && is Int b) := rfl
@[simp] theorem d9a (a b : PV) : (dec (.agg [a, b]) : BoxT) = ⟨dec a, dec b⟩ := rfl
structure Mono where
 c:Int
 v:List Str
 deriving DecidableEq
instance:Enc Mono where
 sz:=2
 enc x:=.agg [enc x.c,enc x.v]
 dec | .agg [a,b]=>⟨dec a,dec b⟩|_=>⟨0,[]⟩
 is | .agg [a,b]=>is Int a&&is (List Str) b|_=>false
 is_enc v:=by simp
 dec_enc v:=by simp
 sub p h:=by
  cases p with
  | agg xs=>
   match xs,h with
   | [a,b],h=>
    simp only[Bool.and_eq_true]at h
    exact .agg (.cons (Enc.sub a h.1).2 (.cons (Enc.sub b h.2).2 .nil))
  | _=>cases h
@[simp] theorem e0p (a b : PV) : is Mono (.agg [a, b]) = (is Int a && is (List Str) b) := rfl
@[simp] theorem d9s (a b : PV) : (dec (.agg [a, b]) : Mono) = ⟨dec a, dec b⟩ := rfl
structure NilS where
 deriving DecidableEq
instance:Enc NilS where
 sz:=1
 enc _:=.sl 0 true []
 dec _:=⟨⟩
 is | .sl 0 true []=>true|_=>false
 is_enc _:=rfl
 dec_enc _:=rfl
 sub p h:=by
  cases p with
  | sl s t xs=>
   cases xs with
   | nil=>cases s with
    | zero=>cases t with
     | true=>exact .refl _
     | false=>cases h
    | succ s=>cases h
   | cons x xs=>cases s <;> cases t <;> cases h
  | _=>cases h
def a8e{α:Type}(l:List α):Bool:=decide (l.length<=9223372036854775807)
end Go.Pl
namespace Go.Pl
open Go.RowKit
open Enc (enc dec is)
open EncL (encL decL isL)
set_option maxRecDepth 100000
noncomputable def Us:IC:=Xp Proofs.Tryz.f36
def Ue:List IRes:=[(.tmp 4)]
abbrev b3o:Nat:=26
def QE:ZI:=YN []
theorem b7q{G:PV->Prop}(a b:List Int)(h:if ((↑(List.length (List.map enc a)):Int) != (↑(List.length (List.map enc b)):Int))=true then G ((.bool false))else(At QE 0 (Ze Ue G) Us 0 26 [(0,(.pv (.sl 1 false (List.map enc a)))),(1,(.pv (.sl 1 false (List.map enc b)))),(5,(.pv (.int .i64 0)))] [])):Zf QE 0 (Ze Ue G) Us [] (Yp 26 [enc a,enc b]):=Zf.tp (.lit (.ask (.nil) (.nil))) h (by kernel_rfl)
theorem NI{G:PV->Prop}(a b:List Int)(i:Int)(h:if (decide (i<(↑(List.length (List.map enc a)):Int)))=true then(decide (0<=i)&&decide (Int.toNat i<List.length (List.map enc a))&&Enc.sz Int==1)=true∧(∃ y0:Int,AV.pv (PV.rptr (PV.cells (List.getD (List.map enc a) (Int.toNat i) default)))=AV.pv (PV.rptr (PV.cells ((enc) y0)))∧((decide (0<=i)&&decide (Int.toNat i<List.length (List.map enc b))&&Enc.sz Int==1)=true∧(∃ y1:Int,AV.pv (PV.rptr (PV.cells (List.getD (List.map enc b) (Int.toNat i) default)))=AV.pv (PV.rptr (PV.cells ((enc) y1)))∧(if (PV.asInt (List.getD (PV.cells (enc y0)) 0 default) != PV.asInt (List.getD (PV.cells (enc y1)) 0 default))=true then G ((.bool false))else(At QE 0 (Ze Ue G) Us 0 26 [(0,(.pv (.sl 1 false (List.map enc a)))),(1,(.pv (.sl 1 false (List.map enc b)))),(5,(.pv (.int .i64 (IntKind.wrap IntKind.i64 (i+1)))))] [])))))else(G ((.bool true)))):At QE 0 (Ze Ue G) Us 0 26 [(0,.pv (enc a)),(1,.pv (enc b)),(5,.pv (.int .i64 i))] []:=At.tp (.lit (.ask (.req (.abs (Int) (fun YY=>AV.pv (PV.rptr (PV.cells ((enc) YY)))) (.lit (.req (.abs (Int) (fun YY=>AV.pv (PV.rptr (PV.cells ((enc) YY)))) (.lit (.lit (.ask (.nil) (.lit (.nil)))))))))) (.nil))) h (by kernel_rfl)
noncomputable def Q7:IC:=Xp Proofs.Tryz.f12
def QT:List IRes:=[(.tmp 4)]
abbrev c9n:Nat:=55
def J9(N:Nat):ZI:=YN [(36,.pure (preT (fun x:List Int×List Int×Unit=>a8e x.1)) (Zk (fun x:List Int×List Int×Unit=>decide (x.1=x.2.1)))),(19,.pure (preT (fun x:Lin×Lin×Unit=>Yb x.1)) (Zk (fun x:Lin×Lin×Unit=>decide (x.1=x.2.1)))),(12,.pure (preT (fun x:Cert×Cert×Unit=>(Y8 x.1&&Y8 x.2.1)&&decide (ZL x.1<N))) (Zk (fun x:Cert×Cert×Unit=>OZ x.1 x.2.1)))]
theorem c6f{G:PV->Prop}(N:Nat)(k:Int)(m:List Int)(l:Lin)(ks:List Cert)(k2:Int)(m2:List Int)(l2:Lin)(ks2:List Cert)(h:if (k != k2)=true then G ((.bool false))else((Go.Pl.preT (fun(x:List Int×List Int×Unit)=>a8e x.1) [(.sl 1 false (List.map enc m)),(.sl 1 false (List.map enc m2))])=true∧(∃ y0:Bool,AV.pv (Zk (fun(x:List Int×List Int×Unit)=>decide (x.1=x.2.1)) [(.sl 1 false (List.map enc m)),(.sl 1 false (List.map enc m2))])=AV.pv (enc y0)∧(if (!y0)=true then G ((.bool false))else((Go.Pl.preT (fun(x:Lin×Lin×Unit)=>Yb x.1) [(.agg [(.int .i64 l.k),(.sl 2 false (List.map enc l.t))]),(.agg [(.int .i64 l2.k),(.sl 2 false (List.map enc l2.t))])])=true∧(∃ y1:Bool,AV.pv (Zk (fun(x:Lin×Lin×Unit)=>decide (x.1=x.2.1)) [(.agg [(.int .i64 l.k),(.sl 2 false (List.map enc l.t))]),(.agg [(.int .i64 l2.k),(.sl 2 false (List.map enc l2.t))])])=AV.pv (enc y1)∧(if (!y1)=true then G ((.bool false))else(if ((↑(List.length (List.map enc ks)):Int) != (↑(List.length (List.map enc ks2)):Int))=true then G ((.bool false))else(At (J9 N) 0 (Ze QT G) Q7 0 55 [(2,(.ptr 0 0)),(3,(.ptr 1 0)),(5,(.pv (.int .i64 0)))] [(.obj (.box [(.pv (.int .i64 k)),(.pv (.sl 1 false (List.map enc m))),(.pv (.int .i64 l.k)),(.pv (.sl 2 false (List.map enc l.t))),(.pv (.sl 5 false (List.map enc ks)))])),(.obj (.box [(.pv (.int .i64 k2)),(.pv (.sl 1 false (List.map enc m2))),(.pv (.int .i64 l2.k)),(.pv (.sl 2 false (List.map enc l2.t))),(.pv (.sl 5 false (List.map enc ks2)))]))]))))))))):Zf (J9 N) 0 (Ze QT G) Q7 [] (Yp 55 [.agg [enc k,enc m,enc l.k,enc l.t,enc ks],.agg [enc k2,enc m2,enc l2.k,enc l2.t,enc ks2]]):=Zf.tp (.lit (.ask (.lit (.lit (.lit (.lit (.lit (.lit (.lit (.lit (.lit (.lit (.lit (.lit (.lit (.lit (.lit (.lit (.lit (.lit (.lit (.lit (.lit (.lit (.nil))))))))))))))))))))))) (.lit (.lit (.lit (.lit (.req (.abs (Bool) (fun YY=>AV.pv (enc YY)) (.lit (.lit (.ask (.lit (.lit (.lit (.lit (.lit (.lit (.lit (.lit (.lit (.lit (.lit (.lit (.lit (.lit (.lit (.nil)))))))))))))))) (.lit (.lit (.lit (.lit (.req (.abs (Bool) (fun YY=>AV.pv (enc YY)) (.lit (.lit (.ask (.lit (.lit (.lit (.lit (.lit (.lit (.lit (.lit (.nil))))))))) (.lit (.lit (.lit (.lit (.lit (.lit (.lit (.lit (.ask (.nil) (.nil)))))))))))))))))))))))))))))) h (by kernel_rfl)
theorem b0n{G:PV->Prop}(N:Nat)(k:Int)(m:List Int)(l:Lin)(ks:List Cert)(k2:Int)(m2:List Int)(l2:Lin)(ks2:List Cert)(i:Int)(h:if (decide (i<(↑(List.length (List.map enc ks)):Int)))=true then(decide (0<=i)&&decide (Int.toNat i<List.length (List.map enc ks))&&Enc.sz Cert==5)=true∧(∃ y0:Cert,AV.pv (PV.rptr (PV.cells (List.getD (List.map enc ks) (Int.toNat i) default)))=AV.pv (PV.rptr (PV.cells ((enc) y0)))∧((decide (0+List.length [Sh.int .i64,Sh.sl 1,Sh.int .i64,Sh.sl 2,Sh.sl 5]<=List.length (PV.cells (enc y0)))&&Xu (PV.cells (enc y0)) 0 [Sh.int .i64,Sh.sl 1,Sh.int .i64,Sh.sl 2,Sh.sl 5])=true∧((decide (0<=i)&&decide (Int.toNat i<List.length (List.map enc ks2))&&Enc.sz Cert==5)=true∧(∃ y1:Cert,AV.pv (PV.rptr (PV.cells (List.getD (List.map enc ks2) (Int.toNat i) default)))=AV.pv (PV.rptr (PV.cells ((enc) y1)))∧((decide (0+List.length [Sh.int .i64,Sh.sl 1,Sh.int .i64,Sh.sl 2,Sh.sl 5]<=List.length (PV.cells (enc y1)))&&Xu (PV.cells (enc y1)) 0 [Sh.int .i64,Sh.sl 1,Sh.int .i64,Sh.sl 2,Sh.sl 5])=true∧((Go.Pl.preT (fun(x:Cert×Cert×Unit)=>Y8 x.1&&Y8 x.2.1&&decide (ZL x.1<N)) [(.agg [(.int .i64 (PV.asInt (List.getD (PV.cells (enc y0)) 0 default))),(.sl 1 (PV.asT (List.getD (PV.cells (enc y0)) (0+1) default)) (PV.asXs (List.getD (PV.cells (enc y0)) (0+1) default))),(.int .i64 (PV.asInt (List.getD (PV.cells (enc y0)) (0+1+1) default))),(.sl 2 (PV.asT (List.getD (PV.cells (enc y0)) (0+1+1+1) default)) (PV.asXs (List.getD (PV.cells (enc y0)) (0+1+1+1) default))),(.sl 5 (PV.asT (List.getD (PV.cells (enc y0)) (0+1+1+1+1) default)) (PV.asXs (List.getD (PV.cells (enc y0)) (0+1+1+1+1) default)))]),(.agg [(.int .i64 (PV.asInt (List.getD (PV.cells (enc y1)) 0 default))),(.sl 1 (PV.asT (List.getD (PV.cells (enc y1)) (0+1) default)) (PV.asXs (List.getD (PV.cells (enc y1)) (0+1) default))),(.int .i64 (PV.asInt (List.getD (PV.cells (enc y1)) (0+1+1) default))),(.sl 2 (PV.asT (List.getD (PV.cells (enc y1)) (0+1+1+1) default)) (PV.asXs (List.getD (PV.cells (enc y1)) (0+1+1+1) default))),(.sl 5 (PV.asT (List.getD (PV.cells (enc y1)) (0+1+1+1+1) default)) (PV.asXs (List.getD (PV.cells (enc y1)) (0+1+1+1+1) default)))])])=true∧(∃ y2:Bool,AV.pv (Zk (fun(x:Cert×Cert×Unit)=>OZ x.1 x.2.1) [(.agg [(.int .i64 (PV.asInt (List.getD (PV.cells (enc y0)) 0 default))),(.sl 1 (PV.asT (List.getD (PV.cells (enc y0)) (0+1) default)) (PV.asXs (List.getD (PV.cells (enc y0)) (0+1) default))),(.int .i64 (PV.asInt (List.getD (PV.cells (enc y0)) (0+1+1) default))),(.sl 2 (PV.asT (List.getD (PV.cells (enc y0)) (0+1+1+1) default)) (PV.asXs (List.getD (PV.cells (enc y0)) (0+1+1+1) default))),(.sl 5 (PV.asT (List.getD (PV.cells (enc y0)) (0+1+1+1+1) default)) (PV.asXs (List.getD (PV.cells (enc y0)) (0+1+1+1+1) default)))]),(.agg [(.int .i64 (PV.asInt (List.getD (PV.cells (enc y1)) 0 default))),(.sl 1 (PV.asT (List.getD (PV.cells (enc y1)) (0+1) default)) (PV.asXs (List.getD (PV.cells (enc y1)) (0+1) default))),(.int .i64 (PV.asInt (List.getD (PV.cells (enc y1)) (0+1+1) default))),(.sl 2 (PV.asT (List.getD (PV.cells (enc y1)) (0+1+1+1) default)) (PV.asXs (List.getD (PV.cells (enc y1)) (0+1+1+1) default))),(.sl 5 (PV.asT (List.getD (PV.cells (enc y1)) (0+1+1+1+1) default)) (PV.asXs (List.getD (PV.cells (enc y1)) (0+1+1+1+1) default)))])])=AV.pv (enc y2)∧(if (!y2)=true then G ((.bool false))else(At (J9 N) 0 (Ze QT G) Q7 0 55 [(2,(.ptr 0 0)),(3,(.ptr 1 0)),(5,(.pv (.int .i64 (IntKind.wrap IntKind.i64 (i+1)))))] [(.obj (.box [(.pv (.int .i64 k)),(.pv (.sl 1 false (List.map enc m))),(.pv (.int .i64 l.k)),(.pv (.sl 2 false (List.map enc l.t))),(.pv (.sl 5 false (List.map enc ks)))])),(.obj (.box [(.pv (.int .i64 k2)),(.pv (.sl 1 false (List.map enc m2))),(.pv (.int .i64 l2.k)),(.pv (.sl 2 false (List.map enc l2.t))),(.pv (.sl 5 false (List.map enc ks2)))]))])))))))))else(G ((.bool true)))):At (J9 N) 0 (Ze QT G) Q7 0 55 [(2,.ptr 0 0),(3,.ptr 1 0),(5,.pv (.int .i64 i))] [.obj (.box [.pv (enc k),.pv (enc m),.pv (enc l.k),.pv (enc l.t),.pv (enc ks)]),.obj (.box [.pv (enc k2),.pv (enc m2),.pv (enc l2.k),.pv (enc l2.t),.pv (enc ks2)])]:=At.tp (.lit (.ask (.req (.abs (Cert) (fun YY=>AV.pv (PV.rptr (PV.cells ((enc) YY)))) (.req (.req (.abs (Cert) (fun YY=>AV.pv (PV.rptr (PV.cells ((enc) YY)))) (.req (.req (.abs (Bool) (fun YY=>AV.pv (enc YY)) (.ask (.nil) (.lit (.nil))))))))))) (.nil))) h (by kernel_rfl)
noncomputable def YQ:IC:=Xp Proofs.Tryz.f3
def YP:List IRes:=[(.tmp 4)]
abbrev b8c:Nat:=97
def Xz:ZI:=YN [(5,.pure (preT (fun _:Unit=>true)) (Zk (fun _:Unit=>true))),(6,.pure (preT (fun x:Cert×Int×Unit=>Y8 x.1)) (Zk (fun x:Cert×Int×Unit=>Xe x.1 x.2.1))),(7,.own Vb (Dy 5)),(9,.pure (preT (fun x:List UInt8×Cert×Unit=>Y8 x.2.1&&decide ((x.1++encC x.2.1).length<=1000000))) (Zk (fun x:List UInt8×Cert×Unit=>x.1++encC x.2.1))),(8,.pure (preT (fun x:List UInt8×List UInt8×Unit=>true)) (Zk (fun x:List UInt8×List UInt8×Unit=>decide (x.1=x.2.1)))),(10,.own (GH ZZ Z0) (LY Z0)),(11,.own (GH ZZ Z0) (LY Z0)),(12,.pure (preT (fun x:Cert×Cert×Unit=>Y8 x.1&&Y8 x.2.1)) (Zk (fun x:Cert×Cert×Unit=>OZ x.1 x.2.1)))]
theorem d3x{G:PV->Prop}(k:Int)(m:List Int)(l:Lin)(ks:List Cert)(b:List UInt8)(h : ∃ y0:Bool,AV.pv (Zk (fun(x:Unit)=>true) [])=AV.pv (enc y0)∧(if (!y0)=true then G ((.bool false))else((Go.Pl.preT (fun(x:Cert×Int×Unit)=>Y8 x.1) [(.agg [(.int .i64 k),(.sl 1 false (List.map enc m)),(.int .i64 l.k),(.sl 2 false (List.map enc l.t)),(.sl 5 false (List.map enc ks))]),(.int .i64 12)])=true∧(∃ y1:Bool,AV.pv (Zk (fun(x:Cert×Int×Unit)=>Xe x.1 x.2.1) [(.agg [(.int .i64 k),(.sl 1 false (List.map enc m)),(.int .i64 l.k),(.sl 2 false (List.map enc l.t)),(.sl 5 false (List.map enc ks))]),(.int .i64 12)])=AV.pv (enc y1)∧(if (!y1)=true then G ((.bool true))else(if (decide ((↑(List.length (List.map enc b)):Int)>200))=true then G ((.bool true))else((Vb [(.pv (.sl 0 true [])),(.pv (.agg [(.int .i64 k),(.sl 1 false (List.map enc m)),(.int .i64 l.k),(.sl 2 false (List.map enc l.t)),(.sl 5 false (List.map enc ks))]))] [])=true∧((Go.Pl.preT (fun(x:List UInt8×Cert×Unit)=>Y8 x.2.1&&decide (List.length (x.1++encC x.2.1)<=1000000)) [(.sl 0 true []),(.agg [(.int .i64 k),(.sl 1 false (List.map enc m)),(.int .i64 l.k),(.sl 2 false (List.map enc l.t)),(.sl 5 false (List.map enc ks))])])=true∧(∃ y2:List UInt8,AV.pv (Zk (fun(x:List UInt8×Cert×Unit)=>x.1++encC x.2.1) [(.sl 0 true []),(.agg [(.int .i64 k),(.sl 1 false (List.map enc m)),(.int .i64 l.k),(.sl 2 false (List.map enc l.t)),(.sl 5 false (List.map enc ks))])])=AV.pv (enc y2)∧((List.length (List.map enc (encC (dec (PV.agg [enc k,enc m,enc l.k,enc l.t,enc ks]))))==List.length (encC (dec (PV.agg [enc k,enc m,enc l.k,enc l.t,enc ks]))))=true∧((Go.Pl.preT (fun(x:List UInt8×List UInt8×Unit)=>true) [(.sl 1 false (List.drop 0 (List.take (List.length (encC (dec (PV.agg [enc k,enc m,enc l.k,enc l.t,enc ks])))) (List.map enc (encC (dec (PV.agg [enc k,enc m,enc l.k,enc l.t,enc ks]))))))),(.sl 1 false (List.map enc y2))])=true∧(∃ y3:Bool,AV.pv (Zk (fun(x:List UInt8×List UInt8×Unit)=>decide (x.1=x.2.1)) [(.sl 1 false (List.drop 0 (List.take (List.length (encC (dec (PV.agg [enc k,enc m,enc l.k,enc l.t,enc ks])))) (List.map enc (encC (dec (PV.agg [enc k,enc m,enc l.k,enc l.t,enc ks]))))))),(.sl 1 false (List.map enc y2))])=AV.pv (enc y3)∧(if (!y3)=true then G ((.bool false))else((List.length (List.map enc (encC (dec (PV.agg [enc k,enc m,enc l.k,enc l.t,enc ks]))))==List.length (encC (dec (PV.agg [enc k,enc m,enc l.k,enc l.t,enc ks]))))=true∧((List.length ([]:List PV)==0&&0==0&&decide ((0+List.length (List.drop 0 (List.take (List.length (encC (dec (PV.agg [enc k,enc m,enc l.k,enc l.t,enc ks])))) (List.map enc (encC (dec (PV.agg [enc k,enc m,enc l.k,enc l.t,enc ks])))))))*1<=1099511627776)&&decide (0+List.length (List.drop 0 (List.take (List.length (encC (dec (PV.agg [enc k,enc m,enc l.k,enc l.t,enc ks])))) (List.map enc (encC (dec (PV.agg [enc k,enc m,enc l.k,enc l.t,enc ks]))))))<=1099511627776))=true∧((List.isEmpty (List.map enc b)||Enc.sz UInt8==1)=true∧((List.length (([]:List PV)++List.drop 0 (List.take (List.length (encC (dec (PV.agg [enc k,enc m,enc l.k,enc l.t,enc ks])))) (List.map enc (encC (dec (PV.agg [enc k,enc m,enc l.k,enc l.t,enc ks]))))))==0+List.length (List.drop 0 (List.take (List.length (encC (dec (PV.agg [enc k,enc m,enc l.k,enc l.t,enc ks])))) (List.map enc (encC (dec (PV.agg [enc k,enc m,enc l.k,enc l.t,enc ks]))))))&&0+List.length (List.drop 0 (List.take (List.length (encC (dec (PV.agg [enc k,enc m,enc l.k,enc l.t,enc ks])))) (List.map enc (encC (dec (PV.agg [enc k,enc m,enc l.k,enc l.t,enc ks]))))))==0+List.length (List.drop 0 (List.take (List.length (encC (dec (PV.agg [enc k,enc m,enc l.k,enc l.t,enc ks])))) (List.map enc (encC (dec (PV.agg [enc k,enc m,enc l.k,enc l.t,enc ks]))))))&&decide ((0+List.length (List.drop 0 (List.take (List.length (encC (dec (PV.agg [enc k,enc m,enc l.k,enc l.t,enc ks])))) (List.map enc (encC (dec (PV.agg [enc k,enc m,enc l.k,enc l.t,enc ks]))))))+List.length (List.map enc b))*1<=1099511627776)&&decide (0+List.length (List.drop 0 (List.take (List.length (encC (dec (PV.agg [enc k,enc m,enc l.k,enc l.t,enc ks])))) (List.map enc (encC (dec (PV.agg [enc k,enc m,enc l.k,enc l.t,enc ks]))))))+List.length (List.map enc b)<=1099511627776))=true∧((List.length (List.map enc (encC (dec (PV.agg [enc k,enc m,enc l.k,enc l.t,enc ks]))))==List.length (encC (dec (PV.agg [enc k,enc m,enc l.k,enc l.t,enc ks]))))=true∧((List.length (([]:List PV)++List.drop 0 (List.take (List.length (encC (dec (PV.agg [enc k,enc m,enc l.k,enc l.t,enc ks])))) (List.map enc (encC (dec (PV.agg [enc k,enc m,enc l.k,enc l.t,enc ks])))))++List.map enc b)==0+List.length (List.drop 0 (List.take (List.length (encC (dec (PV.agg [enc k,enc m,enc l.k,enc l.t,enc ks])))) (List.map enc (encC (dec (PV.agg [enc k,enc m,enc l.k,enc l.t,enc ks]))))))+List.length (List.map enc b))=true∧(At Xz 0 (Ze YP G) YQ 0 97 [(6,(.row 0 3 0 3)),(7,(.pv (.int .i64 0)))] [(.obj (.row false 29 1 [(.sl 1 false (List.drop 0 (List.take (List.length (encC (dec (PV.agg [enc k,enc m,enc l.k,enc l.t,enc ks])))) (List.map enc (encC (dec (PV.agg [enc k,enc m,enc l.k,enc l.t,enc ks]))))))),(.sl 1 false (List.map enc b)),(.sl 1 false (List.drop 0 (List.take (0+List.length (List.drop 0 (List.take (List.length (encC (dec (PV.agg [enc k,enc m,enc l.k,enc l.t,enc ks])))) (List.map enc (encC (dec (PV.agg [enc k,enc m,enc l.k,enc l.t,enc ks]))))))+List.length (List.map enc b)) (([]:List PV)++List.drop 0 (List.take (List.length (encC (dec (PV.agg [enc k,enc m,enc l.k,enc l.t,enc ks])))) (List.map enc (encC (dec (PV.agg [enc k,enc m,enc l.k,enc l.t,enc ks])))))++List.map enc b))))]))])))))))))))))))))))):Zf Xz 0 (Ze YP G) YQ [] (Yp 97 [.agg [enc k,enc m,enc l.k,enc l.t,enc ks],enc b]):=Zf.tp (.lit (.abs (Bool) (fun YY=>AV.pv (enc YY)) (.ask (.nil) (.req (.abs (Bool) (fun YY=>AV.pv (enc YY)) (.ask (.lit (.lit (.lit (.lit (.nil))))) (.lit (.lit (.lit (.lit (.ask (.nil) (.req (.keep (.req (.abs (List UInt8) (fun YY=>AV.pv (enc YY)) (.req (.req (.abs (Bool) (fun YY=>AV.pv (enc YY)) (.ask (.nil) (.lit (.req (.req (.req (.req (.req (.req (.lit (.nil)))))))))))))))))))))))))))) h (by kernel_rfl)
theorem b2d{G:PV->Prop}(k:Int)(m:List Int)(l:Lin)(ks:List Cert)(b:List UInt8)(x y z:List UInt8)(h:(List.isEmpty (List.map enc x)||1==1)=true∧((List.length ([]:List PV)==0&&0==0&&decide ((0+List.length (List.map enc x))*1<=1099511627776)&&decide (0+List.length (List.map enc x)<=1099511627776))=true∧((List.isEmpty (List.map enc x)||1==1)=true∧((List.length ([]:List PV)==0&&0==0&&decide ((0+List.length (List.map enc x))*1<=1099511627776)&&decide (0+List.length (List.map enc x)<=1099511627776))=true∧((GH ZZ Z0 [(.ptr 0 0)] [(.box [(.row 1 (0+List.length (List.map enc x)) 0 (0+List.length (List.map enc x))),(.pv (.int .i64 0))]),(.row false 5 1 (([]:List PV)++List.map enc x))])=true∧((GH ZZ Z0 [(.ptr 0 0)] [(.box [(.row 1 (0+List.length (List.map enc x)) 0 (0+List.length (List.map enc x))),(.pv (.int .i64 0))]),(.row false 5 1 (([]:List PV)++List.map enc x))])=true∧((Go.Pl.preT (fun(x:Cert×Cert×Unit)=>Y8 x.1&&Y8 x.2.1) [(.agg [(.int .i64 (C5.k (Prod.fst (Zb (Za (PV.sl 1 false (([]:List PV)++List.map enc x))) 0)))),(.sl 1 false (List.map enc (C5.m (Prod.fst (Zb (Za (PV.sl 1 false (([]:List PV)++List.map enc x))) 0))))),(.int .i64 (C5.lk (Prod.fst (Zb (Za (PV.sl 1 false (([]:List PV)++List.map enc x))) 0)))),(.sl 2 false (List.map enc (C5.lt (Prod.fst (Zb (Za (PV.sl 1 false (([]:List PV)++List.map enc x))) 0))))),(.sl 5 false (List.map enc (C5.ks (Prod.fst (Zb (Za (PV.sl 1 false (([]:List PV)++List.map enc x))) 0)))))]),(.agg [(.int .i64 (C5.k (Prod.fst (Zb (Za (PV.sl 1 false (([]:List PV)++List.map enc x))) 0)))),(.sl 1 false (List.map enc (C5.m (Prod.fst (Zb (Za (PV.sl 1 false (([]:List PV)++List.map enc x))) 0))))),(.int .i64 (C5.lk (Prod.fst (Zb (Za (PV.sl 1 false (([]:List PV)++List.map enc x))) 0)))),(.sl 2 false (List.map enc (C5.lt (Prod.fst (Zb (Za (PV.sl 1 false (([]:List PV)++List.map enc x))) 0))))),(.sl 5 false (List.map enc (C5.ks (Prod.fst (Zb (Za (PV.sl 1 false (([]:List PV)++List.map enc x))) 0)))))])])=true∧(∃ y0:Bool,AV.pv (Zk (fun(x:Cert×Cert×Unit)=>OZ x.1 x.2.1) [(.agg [(.int .i64 (C5.k (Prod.fst (Zb (Za (PV.sl 1 false (([]:List PV)++List.map enc x))) 0)))),(.sl 1 false (List.map enc (C5.m (Prod.fst (Zb (Za (PV.sl 1 false (([]:List PV)++List.map enc x))) 0))))),(.int .i64 (C5.lk (Prod.fst (Zb (Za (PV.sl 1 false (([]:List PV)++List.map enc x))) 0)))),(.sl 2 false (List.map enc (C5.lt (Prod.fst (Zb (Za (PV.sl 1 false (([]:List PV)++List.map enc x))) 0))))),(.sl 5 false (List.map enc (C5.ks (Prod.fst (Zb (Za (PV.sl 1 false (([]:List PV)++List.map enc x))) 0)))))]),(.agg [(.int .i64 (C5.k (Prod.fst (Zb (Za (PV.sl 1 false (([]:List PV)++List.map enc x))) 0)))),(.sl 1 false (List.map enc (C5.m (Prod.fst (Zb (Za (PV.sl 1 false (([]:List PV)++List.map enc x))) 0))))),(.int .i64 (C5.lk (Prod.fst (Zb (Za (PV.sl 1 false (([]:List PV)++List.map enc x))) 0)))),(.sl 2 false (List.map enc (C5.lt (Prod.fst (Zb (Za (PV.sl 1 false (([]:List PV)++List.map enc x))) 0))))),(.sl 5 false (List.map enc (C5.ks (Prod.fst (Zb (Za (PV.sl 1 false (([]:List PV)++List.map enc x))) 0)))))])])=AV.pv (enc y0)∧(if (!y0)=true then G ((.bool false))else(if (Prod.snd (Prod.snd (Zb (Za (PV.sl 1 false (([]:List PV)++List.map enc x))) 0)) != Prod.snd (Prod.snd (Zb (Za (PV.sl 1 false (([]:List PV)++List.map enc x))) 0)))=true then G ((.bool false))else((Go.Pl.preT (fun(x:List UInt8×List UInt8×Unit)=>true) [(.sl 1 false (List.map enc (Prod.fst (Prod.snd (Zb (Za (PV.sl 1 false (([]:List PV)++List.map enc x))) 0))))),(.sl 1 false (List.map enc (Prod.fst (Prod.snd (Zb (Za (PV.sl 1 false (([]:List PV)++List.map enc x))) 0)))))])=true∧(∃ y1:Bool,AV.pv (Zk (fun(x:List UInt8×List UInt8×Unit)=>decide (x.1=x.2.1)) [(.sl 1 false (List.map enc (Prod.fst (Prod.snd (Zb (Za (PV.sl 1 false (([]:List PV)++List.map enc x))) 0))))),(.sl 1 false (List.map enc (Prod.fst (Prod.snd (Zb (Za (PV.sl 1 false (([]:List PV)++List.map enc x))) 0)))))])=AV.pv (enc y1)∧(if (!y1)=true then G ((.bool false))else(if (Prod.snd (Prod.snd (Zb (Za (PV.sl 1 false (([]:List PV)++List.map enc x))) 0))==0)=true then(Vb [(.pv (.sl 0 true [])),(.pv (.agg [(.int .i64 (C5.k (Prod.fst (Zb (Za (PV.sl 1 false (([]:List PV)++List.map enc x))) 0)))),(.sl 1 false (List.map enc (C5.m (Prod.fst (Zb (Za (PV.sl 1 false (([]:List PV)++List.map enc x))) 0))))),(.int .i64 (C5.lk (Prod.fst (Zb (Za (PV.sl 1 false (([]:List PV)++List.map enc x))) 0)))),(.sl 2 false (List.map enc (C5.lt (Prod.fst (Zb (Za (PV.sl 1 false (([]:List PV)++List.map enc x))) 0))))),(.sl 5 false (List.map enc (C5.ks (Prod.fst (Zb (Za (PV.sl 1 false (([]:List PV)++List.map enc x))) 0)))))]))] [])=true∧((List.isEmpty (List.map enc (Prod.fst (Prod.snd (Zb (Za (PV.sl 1 false (([]:List PV)++List.map enc x))) 0))))||1==1)=true∧((List.length (List.map enc (encC (dec (PV.agg [enc (C5.k (Prod.fst (Zb (Za (PV.sl 1 false (([]:List PV)++List.map enc x))) 0))),enc (C5.m (Prod.fst (Zb (Za (PV.sl 1 false (([]:List PV)++List.map enc x))) 0))),enc (C5.lk (Prod.fst (Zb (Za (PV.sl 1 false (([]:List PV)++List.map enc x))) 0))),enc (C5.lt (Prod.fst (Zb (Za (PV.sl 1 false (([]:List PV)++List.map enc x))) 0))),enc (C5.ks (Prod.fst (Zb (Za (PV.sl 1 false (([]:List PV)++List.map enc x))) 0)))]))))==List.length (encC (dec (PV.agg [enc (C5.k (Prod.fst (Zb (Za (PV.sl 1 false (([]:List PV)++List.map enc x))) 0))),enc (C5.m (Prod.fst (Zb (Za (PV.sl 1 false (([]:List PV)++List.map enc x))) 0))),enc (C5.lk (Prod.fst (Zb (Za (PV.sl 1 false (([]:List PV)++List.map enc x))) 0))),enc (C5.lt (Prod.fst (Zb (Za (PV.sl 1 false (([]:List PV)++List.map enc x))) 0))),enc (C5.ks (Prod.fst (Zb (Za (PV.sl 1 false (([]:List PV)++List.map enc x))) 0)))])))&&List.length (encC (dec (PV.agg [enc (C5.k (Prod.fst (Zb (Za (PV.sl 1 false (([]:List PV)++List.map enc x))) 0))),enc (C5.m (Prod.fst (Zb (Za (PV.sl 1 false (([]:List PV)++List.map enc x))) 0))),enc (C5.lk (Prod.fst (Zb (Za (PV.sl 1 false (([]:List PV)++List.map enc x))) 0))),enc (C5.lt (Prod.fst (Zb (Za (PV.sl 1 false (([]:List PV)++List.map enc x))) 0))),enc (C5.ks (Prod.fst (Zb (Za (PV.sl 1 false (([]:List PV)++List.map enc x))) 0)))])))==List.length (encC (dec (PV.agg [enc (C5.k (Prod.fst (Zb (Za (PV.sl 1 false (([]:List PV)++List.map enc x))) 0))),enc (C5.m (Prod.fst (Zb (Za (PV.sl 1 false (([]:List PV)++List.map enc x))) 0))),enc (C5.lk (Prod.fst (Zb (Za (PV.sl 1 false (([]:List PV)++List.map enc x))) 0))),enc (C5.lt (Prod.fst (Zb (Za (PV.sl 1 false (([]:List PV)++List.map enc x))) 0))),enc (C5.ks (Prod.fst (Zb (Za (PV.sl 1 false (([]:List PV)++List.map enc x))) 0)))])))&&decide ((List.length (encC (dec (PV.agg [enc (C5.k (Prod.fst (Zb (Za (PV.sl 1 false (([]:List PV)++List.map enc x))) 0))),enc (C5.m (Prod.fst (Zb (Za (PV.sl 1 false (([]:List PV)++List.map enc x))) 0))),enc (C5.lk (Prod.fst (Zb (Za (PV.sl 1 false (([]:List PV)++List.map enc x))) 0))),enc (C5.lt (Prod.fst (Zb (Za (PV.sl 1 false (([]:List PV)++List.map enc x))) 0))),enc (C5.ks (Prod.fst (Zb (Za (PV.sl 1 false (([]:List PV)++List.map enc x))) 0)))])))+List.length (List.map enc (Prod.fst (Prod.snd (Zb (Za (PV.sl 1 false (([]:List PV)++List.map enc x))) 0)))))*1<=1099511627776)&&decide (List.length (encC (dec (PV.agg [enc (C5.k (Prod.fst (Zb (Za (PV.sl 1 false (([]:List PV)++List.map enc x))) 0))),enc (C5.m (Prod.fst (Zb (Za (PV.sl 1 false (([]:List PV)++List.map enc x))) 0))),enc (C5.lk (Prod.fst (Zb (Za (PV.sl 1 false (([]:List PV)++List.map enc x))) 0))),enc (C5.lt (Prod.fst (Zb (Za (PV.sl 1 false (([]:List PV)++List.map enc x))) 0))),enc (C5.ks (Prod.fst (Zb (Za (PV.sl 1 false (([]:List PV)++List.map enc x))) 0)))])))+List.length (List.map enc (Prod.fst (Prod.snd (Zb (Za (PV.sl 1 false (([]:List PV)++List.map enc x))) 0))))<=1099511627776))=true∧((List.length (List.map enc (encC (dec (PV.agg [enc (C5.k (Prod.fst (Zb (Za (PV.sl 1 false (([]:List PV)++List.map enc x))) 0))),enc (C5.m (Prod.fst (Zb (Za (PV.sl 1 false (([]:List PV)++List.map enc x))) 0))),enc (C5.lk (Prod.fst (Zb (Za (PV.sl 1 false (([]:List PV)++List.map enc x))) 0))),enc (C5.lt (Prod.fst (Zb (Za (PV.sl 1 false (([]:List PV)++List.map enc x))) 0))),enc (C5.ks (Prod.fst (Zb (Za (PV.sl 1 false (([]:List PV)++List.map enc x))) 0)))])))++List.map enc (Prod.fst (Prod.snd (Zb (Za (PV.sl 1 false (([]:List PV)++List.map enc x))) 0))))==List.length (encC (dec (PV.agg [enc (C5.k (Prod.fst (Zb (Za (PV.sl 1 false (([]:List PV)++List.map enc x))) 0))),enc (C5.m (Prod.fst (Zb (Za (PV.sl 1 false (([]:List PV)++List.map enc x))) 0))),enc (C5.lk (Prod.fst (Zb (Za (PV.sl 1 false (([]:List PV)++List.map enc x))) 0))),enc (C5.lt (Prod.fst (Zb (Za (PV.sl 1 false (([]:List PV)++List.map enc x))) 0))),enc (C5.ks (Prod.fst (Zb (Za (PV.sl 1 false (([]:List PV)++List.map enc x))) 0)))])))+List.length (List.map enc (Prod.fst (Prod.snd (Zb (Za (PV.sl 1 false (([]:List PV)++List.map enc x))) 0)))))=true∧((Go.Pl.preT (fun(x:List UInt8×List UInt8×Unit)=>true) [(.sl 1 false (List.drop 0 (List.take (List.length (encC (dec (PV.agg [enc (C5.k (Prod.fst (Zb (Za (PV.sl 1 false (([]:List PV)++List.map enc x))) 0))),enc (C5.m (Prod.fst (Zb (Za (PV.sl 1 false (([]:List PV)++List.map enc x))) 0))),enc (C5.lk (Prod.fst (Zb (Za (PV.sl 1 false (([]:List PV)++List.map enc x))) 0))),enc (C5.lt (Prod.fst (Zb (Za (PV.sl 1 false (([]:List PV)++List.map enc x))) 0))),enc (C5.ks (Prod.fst (Zb (Za (PV.sl 1 false (([]:List PV)++List.map enc x))) 0)))])))+List.length (List.map enc (Prod.fst (Prod.snd (Zb (Za (PV.sl 1 false (([]:List PV)++List.map enc x))) 0))))) (List.map enc (encC (dec (PV.agg [enc (C5.k (Prod.fst (Zb (Za (PV.sl 1 false (([]:List PV)++List.map enc x))) 0))),enc (C5.m (Prod.fst (Zb (Za (PV.sl 1 false (([]:List PV)++List.map enc x))) 0))),enc (C5.lk (Prod.fst (Zb (Za (PV.sl 1 false (([]:List PV)++List.map enc x))) 0))),enc (C5.lt (Prod.fst (Zb (Za (PV.sl 1 false (([]:List PV)++List.map enc x))) 0))),enc (C5.ks (Prod.fst (Zb (Za (PV.sl 1 false (([]:List PV)++List.map enc x))) 0)))])))++List.map enc (Prod.fst (Prod.snd (Zb (Za (PV.sl 1 false (([]:List PV)++List.map enc x))) 0))))))),(.sl 1 false (List.map enc x))])=true∧(∃ y2:Bool,AV.pv (Zk (fun(x:List UInt8×List UInt8×Unit)=>decide (x.1=x.2.1)) [(.sl 1 false (List.drop 0 (List.take (List.length (encC (dec (PV.agg [enc (C5.k (Prod.fst (Zb (Za (PV.sl 1 false (([]:List PV)++List.map enc x))) 0))),enc (C5.m (Prod.fst (Zb (Za (PV.sl 1 false (([]:List PV)++List.map enc x))) 0))),enc (C5.lk (Prod.fst (Zb (Za (PV.sl 1 false (([]:List PV)++List.map enc x))) 0))),enc (C5.lt (Prod.fst (Zb (Za (PV.sl 1 false (([]:List PV)++List.map enc x))) 0))),enc (C5.ks (Prod.fst (Zb (Za (PV.sl 1 false (([]:List PV)++List.map enc x))) 0)))])))+List.length (List.map enc (Prod.fst (Prod.snd (Zb (Za (PV.sl 1 false (([]:List PV)++List.map enc x))) 0))))) (List.map enc (encC (dec (PV.agg [enc (C5.k (Prod.fst (Zb (Za (PV.sl 1 false (([]:List PV)++List.map enc x))) 0))),enc (C5.m (Prod.fst (Zb (Za (PV.sl 1 false (([]:List PV)++List.map enc x))) 0))),enc (C5.lk (Prod.fst (Zb (Za (PV.sl 1 false (([]:List PV)++List.map enc x))) 0))),enc (C5.lt (Prod.fst (Zb (Za (PV.sl 1 false (([]:List PV)++List.map enc x))) 0))),enc (C5.ks (Prod.fst (Zb (Za (PV.sl 1 false (([]:List PV)++List.map enc x))) 0)))])))++List.map enc (Prod.fst (Prod.snd (Zb (Za (PV.sl 1 false (([]:List PV)++List.map enc x))) 0))))))),(.sl 1 false (List.map enc x))])=AV.pv (enc y2)∧(if (!y2)=true then G ((.bool false))else(At Xz 0 (Ze YP G) YQ 0 97 [(6,(.row 0 3 0 3)),(7,(.pv (.int .i64 1)))] [(.obj (.row false 29 1 [(.sl 1 false (List.map enc x)),(.sl 1 false (List.map enc y)),(.sl 1 false (List.map enc z))]))])))))))else(At Xz 0 (Ze YP G) YQ 0 97 [(6,(.row 0 3 0 3)),(7,(.pv (.int .i64 1)))] [(.obj (.row false 29 1 [(.sl 1 false (List.map enc x)),(.sl 1 false (List.map enc y)),(.sl 1 false (List.map enc z))]))]))))))))))))))):At Xz 0 (Ze YP G) YQ 0 97 [(6,.row 0 3 0 3),(7,.pv (.int .i64 0))] [.obj (.row false 29 1 [.sl 1 false (x.map enc),.sl 1 false (y.map enc),.sl 1 false (z.map enc)])]:=At.tp (.lit (.lit (.lit (.lit (.keep (.lit (.lit (.req (.req (.lit (.lit (.keep (.lit (.lit (.req (.req (.req (.keep (.req (.keep (.req (.abs (Bool) (fun YY=>AV.pv (enc YY)) (.ask (.lit (.lit (.lit (.lit (.lit (.lit (.lit (.lit (.lit (.lit (.lit (.lit (.lit (.nil)))))))))))))) (.lit (.lit (.lit (.lit (.lit (.lit (.ask (.lit (.lit (.lit (.lit (.lit (.lit (.lit (.nil)))))))) (.lit (.lit (.lit (.lit (.req (.abs (Bool) (fun YY=>AV.pv (enc YY)) (.lit (.lit (.ask (.nil) (.lit (.ask (.lit (.req (.keep (.lit (.lit (.lit (.req (.req (.lit (.lit (.lit (.lit (.keep (.lit (.lit (.lit (.lit (.req (.req (.abs (Bool) (fun YY=>AV.pv (enc YY)) (.lit (.lit (.ask (.nil) (.lit (.nil))))))))))))))))))))))))) (.lit (.lit (.lit (.lit (.lit (.lit (.lit (.lit (.lit (.lit (.lit (.lit (.lit (.nil))))))))))))))))))))))))))))))))))))))))))))))))))))))) h (by kernel_rfl)
theorem b5m{G:PV->Prop}(k:Int)(m:List Int)(l:Lin)(ks:List Cert)(b:List UInt8)(x y z:List UInt8)(h:(List.isEmpty (List.map enc y)||1==1)=true∧((List.length ([]:List PV)==0&&0==0&&decide ((0+List.length (List.map enc y))*1<=1099511627776)&&decide (0+List.length (List.map enc y)<=1099511627776))=true∧((List.isEmpty (List.map enc y)||1==1)=true∧((List.length ([]:List PV)==0&&0==0&&decide ((0+List.length (List.map enc y))*1<=1099511627776)&&decide (0+List.length (List.map enc y)<=1099511627776))=true∧((GH ZZ Z0 [(.ptr 0 0)] [(.box [(.row 1 (0+List.length (List.map enc y)) 0 (0+List.length (List.map enc y))),(.pv (.int .i64 0))]),(.row false 5 1 (([]:List PV)++List.map enc y))])=true∧((GH ZZ Z0 [(.ptr 0 0)] [(.box [(.row 1 (0+List.length (List.map enc y)) 0 (0+List.length (List.map enc y))),(.pv (.int .i64 0))]),(.row false 5 1 (([]:List PV)++List.map enc y))])=true∧((Go.Pl.preT (fun(x:Cert×Cert×Unit)=>Y8 x.1&&Y8 x.2.1) [(.agg [(.int .i64 (C5.k (Prod.fst (Zb (Za (PV.sl 1 false (([]:List PV)++List.map enc y))) 0)))),(.sl 1 false (List.map enc (C5.m (Prod.fst (Zb (Za (PV.sl 1 false (([]:List PV)++List.map enc y))) 0))))),(.int .i64 (C5.lk (Prod.fst (Zb (Za (PV.sl 1 false (([]:List PV)++List.map enc y))) 0)))),(.sl 2 false (List.map enc (C5.lt (Prod.fst (Zb (Za (PV.sl 1 false (([]:List PV)++List.map enc y))) 0))))),(.sl 5 false (List.map enc (C5.ks (Prod.fst (Zb (Za (PV.sl 1 false (([]:List PV)++List.map enc y))) 0)))))]),(.agg [(.int .i64 (C5.k (Prod.fst (Zb (Za (PV.sl 1 false (([]:List PV)++List.map enc y))) 0)))),(.sl 1 false (List.map enc (C5.m (Prod.fst (Zb (Za (PV.sl 1 false (([]:List PV)++List.map enc y))) 0))))),(.int .i64 (C5.lk (Prod.fst (Zb (Za (PV.sl 1 false (([]:List PV)++List.map enc y))) 0)))),(.sl 2 false (List.map enc (C5.lt (Prod.fst (Zb (Za (PV.sl 1 false (([]:List PV)++List.map enc y))) 0))))),(.sl 5 false (List.map enc (C5.ks (Prod.fst (Zb (Za (PV.sl 1 false (([]:List PV)++List.map enc y))) 0)))))])])=true∧(∃ y0:Bool,AV.pv (Zk (fun(x:Cert×Cert×Unit)=>OZ x.1 x.2.1) [(.agg [(.int .i64 (C5.k (Prod.fst (Zb (Za (PV.sl 1 false (([]:List PV)++List.map enc y))) 0)))),(.sl 1 false (List.map enc (C5.m (Prod.fst (Zb (Za (PV.sl 1 false (([]:List PV)++List.map enc y))) 0))))),(.int .i64 (C5.lk (Prod.fst (Zb (Za (PV.sl 1 false (([]:List PV)++List.map enc y))) 0)))),(.sl 2 false (List.map enc (C5.lt (Prod.fst (Zb (Za (PV.sl 1 false (([]:List PV)++List.map enc y))) 0))))),(.sl 5 false (List.map enc (C5.ks (Prod.fst (Zb (Za (PV.sl 1 false (([]:List PV)++List.map enc y))) 0)))))]),(.agg [(.int .i64 (C5.k (Prod.fst (Zb (Za (PV.sl 1 false (([]:List PV)++List.map enc y))) 0)))),(.sl 1 false (List.map enc (C5.m (Prod.fst (Zb (Za (PV.sl 1 false (([]:List PV)++List.map enc y))) 0))))),(.int .i64 (C5.lk (Prod.fst (Zb (Za (PV.sl 1 false (([]:List PV)++List.map enc y))) 0)))),(.sl 2 false (List.map enc (C5.lt (Prod.fst (Zb (Za (PV.sl 1 false (([]:List PV)++List.map enc y))) 0))))),(.sl 5 false (List.map enc (C5.ks (Prod.fst (Zb (Za (PV.sl 1 false (([]:List PV)++List.map enc y))) 0)))))])])=AV.pv (enc y0)∧(if (!y0)=true then G ((.bool false))else(if (Prod.snd (Prod.snd (Zb (Za (PV.sl 1 false (([]:List PV)++List.map enc y))) 0)) != Prod.snd (Prod.snd (Zb (Za (PV.sl 1 false (([]:List PV)++List.map enc y))) 0)))=true then G ((.bool false))else((Go.Pl.preT (fun(x:List UInt8×List UInt8×Unit)=>true) [(.sl 1 false (List.map enc (Prod.fst (Prod.snd (Zb (Za (PV.sl 1 false (([]:List PV)++List.map enc y))) 0))))),(.sl 1 false (List.map enc (Prod.fst (Prod.snd (Zb (Za (PV.sl 1 false (([]:List PV)++List.map enc y))) 0)))))])=true∧(∃ y1:Bool,AV.pv (Zk (fun(x:List UInt8×List UInt8×Unit)=>decide (x.1=x.2.1)) [(.sl 1 false (List.map enc (Prod.fst (Prod.snd (Zb (Za (PV.sl 1 false (([]:List PV)++List.map enc y))) 0))))),(.sl 1 false (List.map enc (Prod.fst (Prod.snd (Zb (Za (PV.sl 1 false (([]:List PV)++List.map enc y))) 0)))))])=AV.pv (enc y1)∧(if (!y1)=true then G ((.bool false))else(if (Prod.snd (Prod.snd (Zb (Za (PV.sl 1 false (([]:List PV)++List.map enc y))) 0))==0)=true then(Vb [(.pv (.sl 0 true [])),(.pv (.agg [(.int .i64 (C5.k (Prod.fst (Zb (Za (PV.sl 1 false (([]:List PV)++List.map enc y))) 0)))),(.sl 1 false (List.map enc (C5.m (Prod.fst (Zb (Za (PV.sl 1 false (([]:List PV)++List.map enc y))) 0))))),(.int .i64 (C5.lk (Prod.fst (Zb (Za (PV.sl 1 false (([]:List PV)++List.map enc y))) 0)))),(.sl 2 false (List.map enc (C5.lt (Prod.fst (Zb (Za (PV.sl 1 false (([]:List PV)++List.map enc y))) 0))))),(.sl 5 false (List.map enc (C5.ks (Prod.fst (Zb (Za (PV.sl 1 false (([]:List PV)++List.map enc y))) 0)))))]))] [])=true∧((List.isEmpty (List.map enc (Prod.fst (Prod.snd (Zb (Za (PV.sl 1 false (([]:List PV)++List.map enc y))) 0))))||1==1)=true∧((List.length (List.map enc (encC (dec (PV.agg [enc (C5.k (Prod.fst (Zb (Za (PV.sl 1 false (([]:List PV)++List.map enc y))) 0))),enc (C5.m (Prod.fst (Zb (Za (PV.sl 1 false (([]:List PV)++List.map enc y))) 0))),enc (C5.lk (Prod.fst (Zb (Za (PV.sl 1 false (([]:List PV)++List.map enc y))) 0))),enc (C5.lt (Prod.fst (Zb (Za (PV.sl 1 false (([]:List PV)++List.map enc y))) 0))),enc (C5.ks (Prod.fst (Zb (Za (PV.sl 1 false (([]:List PV)++List.map enc y))) 0)))]))))==List.length (encC (dec (PV.agg [enc (C5.k (Prod.fst (Zb (Za (PV.sl 1 false (([]:List PV)++List.map enc y))) 0))),enc (C5.m (Prod.fst (Zb (Za (PV.sl 1 false (([]:List PV)++List.map enc y))) 0))),enc (C5.lk (Prod.fst (Zb (Za (PV.sl 1 false (([]:List PV)++List.map enc y))) 0))),enc (C5.lt (Prod.fst (Zb (Za (PV.sl 1 false (([]:List PV)++List.map enc y))) 0))),enc (C5.ks (Prod.fst (Zb (Za (PV.sl 1 false (([]:List PV)++List.map enc y))) 0)))])))&&List.length (encC (dec (PV.agg [enc (C5.k (Prod.fst (Zb (Za (PV.sl 1 false (([]:List PV)++List.map enc y))) 0))),enc (C5.m (Prod.fst (Zb (Za (PV.sl 1 false (([]:List PV)++List.map enc y))) 0))),enc (C5.lk (Prod.fst (Zb (Za (PV.sl 1 false (([]:List PV)++List.map enc y))) 0))),enc (C5.lt (Prod.fst (Zb (Za (PV.sl 1 false (([]:List PV)++List.map enc y))) 0))),enc (C5.ks (Prod.fst (Zb (Za (PV.sl 1 false (([]:List PV)++List.map enc y))) 0)))])))==List.length (encC (dec (PV.agg [enc (C5.k (Prod.fst (Zb (Za (PV.sl 1 false (([]:List PV)++List.map enc y))) 0))),enc (C5.m (Prod.fst (Zb (Za (PV.sl 1 false (([]:List PV)++List.map enc y))) 0))),enc (C5.lk (Prod.fst (Zb (Za (PV.sl 1 false (([]:List PV)++List.map enc y))) 0))),enc (C5.lt (Prod.fst (Zb (Za (PV.sl 1 false (([]:List PV)++List.map enc y))) 0))),enc (C5.ks (Prod.fst (Zb (Za (PV.sl 1 false (([]:List PV)++List.map enc y))) 0)))])))&&decide ((List.length (encC (dec (PV.agg [enc (C5.k (Prod.fst (Zb (Za (PV.sl 1 false (([]:List PV)++List.map enc y))) 0))),enc (C5.m (Prod.fst (Zb (Za (PV.sl 1 false (([]:List PV)++List.map enc y))) 0))),enc (C5.lk (Prod.fst (Zb (Za (PV.sl 1 false (([]:List PV)++List.map enc y))) 0))),enc (C5.lt (Prod.fst (Zb (Za (PV.sl 1 false (([]:List PV)++List.map enc y))) 0))),enc (C5.ks (Prod.fst (Zb (Za (PV.sl 1 false (([]:List PV)++List.map enc y))) 0)))])))+List.length (List.map enc (Prod.fst (Prod.snd (Zb (Za (PV.sl 1 false (([]:List PV)++List.map enc y))) 0)))))*1<=1099511627776)&&decide (List.length (encC (dec (PV.agg [enc (C5.k (Prod.fst (Zb (Za (PV.sl 1 false (([]:List PV)++List.map enc y))) 0))),enc (C5.m (Prod.fst (Zb (Za (PV.sl 1 false (([]:List PV)++List.map enc y))) 0))),enc (C5.lk (Prod.fst (Zb (Za (PV.sl 1 false (([]:List PV)++List.map enc y))) 0))),enc (C5.lt (Prod.fst (Zb (Za (PV.sl 1 false (([]:List PV)++List.map enc y))) 0))),enc (C5.ks (Prod.fst (Zb (Za (PV.sl 1 false (([]:List PV)++List.map enc y))) 0)))])))+List.length (List.map enc (Prod.fst (Prod.snd (Zb (Za (PV.sl 1 false (([]:List PV)++List.map enc y))) 0))))<=1099511627776))=true∧((List.length (List.map enc (encC (dec (PV.agg [enc (C5.k (Prod.fst (Zb (Za (PV.sl 1 false (([]:List PV)++List.map enc y))) 0))),enc (C5.m (Prod.fst (Zb (Za (PV.sl 1 false (([]:List PV)++List.map enc y))) 0))),enc (C5.lk (Prod.fst (Zb (Za (PV.sl 1 false (([]:List PV)++List.map enc y))) 0))),enc (C5.lt (Prod.fst (Zb (Za (PV.sl 1 false (([]:List PV)++List.map enc y))) 0))),enc (C5.ks (Prod.fst (Zb (Za (PV.sl 1 false (([]:List PV)++List.map enc y))) 0)))])))++List.map enc (Prod.fst (Prod.snd (Zb (Za (PV.sl 1 false (([]:List PV)++List.map enc y))) 0))))==List.length (encC (dec (PV.agg [enc (C5.k (Prod.fst (Zb (Za (PV.sl 1 false (([]:List PV)++List.map enc y))) 0))),enc (C5.m (Prod.fst (Zb (Za (PV.sl 1 false (([]:List PV)++List.map enc y))) 0))),enc (C5.lk (Prod.fst (Zb (Za (PV.sl 1 false (([]:List PV)++List.map enc y))) 0))),enc (C5.lt (Prod.fst (Zb (Za (PV.sl 1 false (([]:List PV)++List.map enc y))) 0))),enc (C5.ks (Prod.fst (Zb (Za (PV.sl 1 false (([]:List PV)++List.map enc y))) 0)))])))+List.length (List.map enc (Prod.fst (Prod.snd (Zb (Za (PV.sl 1 false (([]:List PV)++List.map enc y))) 0)))))=true∧((Go.Pl.preT (fun(x:List UInt8×List UInt8×Unit)=>true) [(.sl 1 false (List.drop 0 (List.take (List.length (encC (dec (PV.agg [enc (C5.k (Prod.fst (Zb (Za (PV.sl 1 false (([]:List PV)++List.map enc y))) 0))),enc (C5.m (Prod.fst (Zb (Za (PV.sl 1 false (([]:List PV)++List.map enc y))) 0))),enc (C5.lk (Prod.fst (Zb (Za (PV.sl 1 false (([]:List PV)++List.map enc y))) 0))),enc (C5.lt (Prod.fst (Zb (Za (PV.sl 1 false (([]:List PV)++List.map enc y))) 0))),enc (C5.ks (Prod.fst (Zb (Za (PV.sl 1 false (([]:List PV)++List.map enc y))) 0)))])))+List.length (List.map enc (Prod.fst (Prod.snd (Zb (Za (PV.sl 1 false (([]:List PV)++List.map enc y))) 0))))) (List.map enc (encC (dec (PV.agg [enc (C5.k (Prod.fst (Zb (Za (PV.sl 1 false (([]:List PV)++List.map enc y))) 0))),enc (C5.m (Prod.fst (Zb (Za (PV.sl 1 false (([]:List PV)++List.map enc y))) 0))),enc (C5.lk (Prod.fst (Zb (Za (PV.sl 1 false (([]:List PV)++List.map enc y))) 0))),enc (C5.lt (Prod.fst (Zb (Za (PV.sl 1 false (([]:List PV)++List.map enc y))) 0))),enc (C5.ks (Prod.fst (Zb (Za (PV.sl 1 false (([]:List PV)++List.map enc y))) 0)))])))++List.map enc (Prod.fst (Prod.snd (Zb (Za (PV.sl 1 false (([]:List PV)++List.map enc y))) 0))))))),(.sl 1 false (List.map enc y))])=true∧(∃ y2:Bool,AV.pv (Zk (fun(x:List UInt8×List UInt8×Unit)=>decide (x.1=x.2.1)) [(.sl 1 false (List.drop 0 (List.take (List.length (encC (dec (PV.agg [enc (C5.k (Prod.fst (Zb (Za (PV.sl 1 false (([]:List PV)++List.map enc y))) 0))),enc (C5.m (Prod.fst (Zb (Za (PV.sl 1 false (([]:List PV)++List.map enc y))) 0))),enc (C5.lk (Prod.fst (Zb (Za (PV.sl 1 false (([]:List PV)++List.map enc y))) 0))),enc (C5.lt (Prod.fst (Zb (Za (PV.sl 1 false (([]:List PV)++List.map enc y))) 0))),enc (C5.ks (Prod.fst (Zb (Za (PV.sl 1 false (([]:List PV)++List.map enc y))) 0)))])))+List.length (List.map enc (Prod.fst (Prod.snd (Zb (Za (PV.sl 1 false (([]:List PV)++List.map enc y))) 0))))) (List.map enc (encC (dec (PV.agg [enc (C5.k (Prod.fst (Zb (Za (PV.sl 1 false (([]:List PV)++List.map enc y))) 0))),enc (C5.m (Prod.fst (Zb (Za (PV.sl 1 false (([]:List PV)++List.map enc y))) 0))),enc (C5.lk (Prod.fst (Zb (Za (PV.sl 1 false (([]:List PV)++List.map enc y))) 0))),enc (C5.lt (Prod.fst (Zb (Za (PV.sl 1 false (([]:List PV)++List.map enc y))) 0))),enc (C5.ks (Prod.fst (Zb (Za (PV.sl 1 false (([]:List PV)++List.map enc y))) 0)))])))++List.map enc (Prod.fst (Prod.snd (Zb (Za (PV.sl 1 false (([]:List PV)++List.map enc y))) 0))))))),(.sl 1 false (List.map enc y))])=AV.pv (enc y2)∧(if (!y2)=true then G ((.bool false))else(At Xz 0 (Ze YP G) YQ 0 97 [(6,(.row 0 3 0 3)),(7,(.pv (.int .i64 2)))] [(.obj (.row false 29 1 [(.sl 1 false (List.map enc x)),(.sl 1 false (List.map enc y)),(.sl 1 false (List.map enc z))]))])))))))else(At Xz 0 (Ze YP G) YQ 0 97 [(6,(.row 0 3 0 3)),(7,(.pv (.int .i64 2)))] [(.obj (.row false 29 1 [(.sl 1 false (List.map enc x)),(.sl 1 false (List.map enc y)),(.sl 1 false (List.map enc z))]))]))))))))))))))):At Xz 0 (Ze YP G) YQ 0 97 [(6,.row 0 3 0 3),(7,.pv (.int .i64 1))] [.obj (.row false 29 1 [.sl 1 false (x.map enc),.sl 1 false (y.map enc),.sl 1 false (z.map enc)])]:=At.tp (.lit (.lit (.lit (.lit (.keep (.lit (.lit (.req (.req (.lit (.lit (.keep (.lit (.lit (.req (.req (.req (.keep (.req (.keep (.req (.abs (Bool) (fun YY=>AV.pv (enc YY)) (.ask (.lit (.lit (.lit (.lit (.lit (.lit (.lit (.lit (.lit (.lit (.lit (.lit (.lit (.nil)))))))))))))) (.lit (.lit (.lit (.lit (.lit (.lit (.ask (.lit (.lit (.lit (.lit (.lit (.lit (.lit (.nil)))))))) (.lit (.lit (.lit (.lit (.req (.abs (Bool) (fun YY=>AV.pv (enc YY)) (.lit (.lit (.ask (.nil) (.lit (.ask (.lit (.req (.keep (.lit (.lit (.lit (.req (.req (.lit (.lit (.lit (.lit (.keep (.lit (.lit (.lit (.lit (.req (.req (.abs (Bool) (fun YY=>AV.pv (enc YY)) (.lit (.lit (.ask (.nil) (.lit (.nil))))))))))))))))))))))))) (.lit (.lit (.lit (.lit (.lit (.lit (.lit (.lit (.lit (.lit (.lit (.lit (.lit (.nil))))))))))))))))))))))))))))))))))))))))))))))))))))))) h (by kernel_rfl)
theorem b6k{G:PV->Prop}(k:Int)(m:List Int)(l:Lin)(ks:List Cert)(b:List UInt8)(x y z:List UInt8)(h:(List.isEmpty (List.map enc z)||1==1)=true∧((List.length ([]:List PV)==0&&0==0&&decide ((0+List.length (List.map enc z))*1<=1099511627776)&&decide (0+List.length (List.map enc z)<=1099511627776))=true∧((List.isEmpty (List.map enc z)||1==1)=true∧((List.length ([]:List PV)==0&&0==0&&decide ((0+List.length (List.map enc z))*1<=1099511627776)&&decide (0+List.length (List.map enc z)<=1099511627776))=true∧((GH ZZ Z0 [(.ptr 0 0)] [(.box [(.row 1 (0+List.length (List.map enc z)) 0 (0+List.length (List.map enc z))),(.pv (.int .i64 0))]),(.row false 5 1 (([]:List PV)++List.map enc z))])=true∧((GH ZZ Z0 [(.ptr 0 0)] [(.box [(.row 1 (0+List.length (List.map enc z)) 0 (0+List.length (List.map enc z))),(.pv (.int .i64 0))]),(.row false 5 1 (([]:List PV)++List.map enc z))])=true∧((Go.Pl.preT (fun(x:Cert×Cert×Unit)=>Y8 x.1&&Y8 x.2.1) [(.agg [(.int .i64 (C5.k (Prod.fst (Zb (Za (PV.sl 1 false (([]:List PV)++List.map enc z))) 0)))),(.sl 1 false (List.map enc (C5.m (Prod.fst (Zb (Za (PV.sl 1 false (([]:List PV)++List.map enc z))) 0))))),(.int .i64 (C5.lk (Prod.fst (Zb (Za (PV.sl 1 false (([]:List PV)++List.map enc z))) 0)))),(.sl 2 false (List.map enc (C5.lt (Prod.fst (Zb (Za (PV.sl 1 false (([]:List PV)++List.map enc z))) 0))))),(.sl 5 false (List.map enc (C5.ks (Prod.fst (Zb (Za (PV.sl 1 false (([]:List PV)++List.map enc z))) 0)))))]),(.agg [(.int .i64 (C5.k (Prod.fst (Zb (Za (PV.sl 1 false (([]:List PV)++List.map enc z))) 0)))),(.sl 1 false (List.map enc (C5.m (Prod.fst (Zb (Za (PV.sl 1 false (([]:List PV)++List.map enc z))) 0))))),(.int .i64 (C5.lk (Prod.fst (Zb (Za (PV.sl 1 false (([]:List PV)++List.map enc z))) 0)))),(.sl 2 false (List.map enc (C5.lt (Prod.fst (Zb (Za (PV.sl 1 false (([]:List PV)++List.map enc z))) 0))))),(.sl 5 false (List.map enc (C5.ks (Prod.fst (Zb (Za (PV.sl 1 false (([]:List PV)++List.map enc z))) 0)))))])])=true∧(∃ y0:Bool,AV.pv (Zk (fun(x:Cert×Cert×Unit)=>OZ x.1 x.2.1) [(.agg [(.int .i64 (C5.k (Prod.fst (Zb (Za (PV.sl 1 false (([]:List PV)++List.map enc z))) 0)))),(.sl 1 false (List.map enc (C5.m (Prod.fst (Zb (Za (PV.sl 1 false (([]:List PV)++List.map enc z))) 0))))),(.int .i64 (C5.lk (Prod.fst (Zb (Za (PV.sl 1 false (([]:List PV)++List.map enc z))) 0)))),(.sl 2 false (List.map enc (C5.lt (Prod.fst (Zb (Za (PV.sl 1 false (([]:List PV)++List.map enc z))) 0))))),(.sl 5 false (List.map enc (C5.ks (Prod.fst (Zb (Za (PV.sl 1 false (([]:List PV)++List.map enc z))) 0)))))]),(.agg [(.int .i64 (C5.k (Prod.fst (Zb (Za (PV.sl 1 false (([]:List PV)++List.map enc z))) 0)))),(.sl 1 false (List.map enc (C5.m (Prod.fst (Zb (Za (PV.sl 1 false (([]:List PV)++List.map enc z))) 0))))),(.int .i64 (C5.lk (Prod.fst (Zb (Za (PV.sl 1 false (([]:List PV)++List.map enc z))) 0)))),(.sl 2 false (List.map enc (C5.lt (Prod.fst (Zb (Za (PV.sl 1 false (([]:List PV)++List.map enc z))) 0))))),(.sl 5 false (List.map enc (C5.ks (Prod.fst (Zb (Za (PV.sl 1 false (([]:List PV)++List.map enc z))) 0)))))])])=AV.pv (enc y0)∧(if (!y0)=true then G ((.bool false))else(if (Prod.snd (Prod.snd (Zb (Za (PV.sl 1 false (([]:List PV)++List.map enc z))) 0)) != Prod.snd (Prod.snd (Zb (Za (PV.sl 1 false (([]:List PV)++List.map enc z))) 0)))=true then G ((.bool false))else((Go.Pl.preT (fun(x:List UInt8×List UInt8×Unit)=>true) [(.sl 1 false (List.map enc (Prod.fst (Prod.snd (Zb (Za (PV.sl 1 false (([]:List PV)++List.map enc z))) 0))))),(.sl 1 false (List.map enc (Prod.fst (Prod.snd (Zb (Za (PV.sl 1 false (([]:List PV)++List.map enc z))) 0)))))])=true∧(∃ y1:Bool,AV.pv (Zk (fun(x:List UInt8×List UInt8×Unit)=>decide (x.1=x.2.1)) [(.sl 1 false (List.map enc (Prod.fst (Prod.snd (Zb (Za (PV.sl 1 false (([]:List PV)++List.map enc z))) 0))))),(.sl 1 false (List.map enc (Prod.fst (Prod.snd (Zb (Za (PV.sl 1 false (([]:List PV)++List.map enc z))) 0)))))])=AV.pv (enc y1)∧(if (!y1)=true then G ((.bool false))else(if (Prod.snd (Prod.snd (Zb (Za (PV.sl 1 false (([]:List PV)++List.map enc z))) 0))==0)=true then(Vb [(.pv (.sl 0 true [])),(.pv (.agg [(.int .i64 (C5.k (Prod.fst (Zb (Za (PV.sl 1 false (([]:List PV)++List.map enc z))) 0)))),(.sl 1 false (List.map enc (C5.m (Prod.fst (Zb (Za (PV.sl 1 false (([]:List PV)++List.map enc z))) 0))))),(.int .i64 (C5.lk (Prod.fst (Zb (Za (PV.sl 1 false (([]:List PV)++List.map enc z))) 0)))),(.sl 2 false (List.map enc (C5.lt (Prod.fst (Zb (Za (PV.sl 1 false (([]:List PV)++List.map enc z))) 0))))),(.sl 5 false (List.map enc (C5.ks (Prod.fst (Zb (Za (PV.sl 1 false (([]:List PV)++List.map enc z))) 0)))))]))] [])=true∧((List.isEmpty (List.map enc (Prod.fst (Prod.snd (Zb (Za (PV.sl 1 false (([]:List PV)++List.map enc z))) 0))))||1==1)=true∧((List.length (List.map enc (encC (dec (PV.agg [enc (C5.k (Prod.fst (Zb (Za (PV.sl 1 false (([]:List PV)++List.map enc z))) 0))),enc (C5.m (Prod.fst (Zb (Za (PV.sl 1 false (([]:List PV)++List.map enc z))) 0))),enc (C5.lk (Prod.fst (Zb (Za (PV.sl 1 false (([]:List PV)++List.map enc z))) 0))),enc (C5.lt (Prod.fst (Zb (Za (PV.sl 1 false (([]:List PV)++List.map enc z))) 0))),enc (C5.ks (Prod.fst (Zb (Za (PV.sl 1 false (([]:List PV)++List.map enc z))) 0)))]))))==List.length (encC (dec (PV.agg [enc (C5.k (Prod.fst (Zb (Za (PV.sl 1 false (([]:List PV)++List.map enc z))) 0))),enc (C5.m (Prod.fst (Zb (Za (PV.sl 1 false (([]:List PV)++List.map enc z))) 0))),enc (C5.lk (Prod.fst (Zb (Za (PV.sl 1 false (([]:List PV)++List.map enc z))) 0))),enc (C5.lt (Prod.fst (Zb (Za (PV.sl 1 false (([]:List PV)++List.map enc z))) 0))),enc (C5.ks (Prod.fst (Zb (Za (PV.sl 1 false (([]:List PV)++List.map enc z))) 0)))])))&&List.length (encC (dec (PV.agg [enc (C5.k (Prod.fst (Zb (Za (PV.sl 1 false (([]:List PV)++List.map enc z))) 0))),enc (C5.m (Prod.fst (Zb (Za (PV.sl 1 false (([]:List PV)++List.map enc z))) 0))),enc (C5.lk (Prod.fst (Zb (Za (PV.sl 1 false (([]:List PV)++List.map enc z))) 0))),enc (C5.lt (Prod.fst (Zb (Za (PV.sl 1 false (([]:List PV)++List.map enc z))) 0))),enc (C5.ks (Prod.fst (Zb (Za (PV.sl 1 false (([]:List PV)++List.map enc z))) 0)))])))==List.length (encC (dec (PV.agg [enc (C5.k (Prod.fst (Zb (Za (PV.sl 1 false (([]:List PV)++List.map enc z))) 0))),enc (C5.m (Prod.fst (Zb (Za (PV.sl 1 false (([]:List PV)++List.map enc z))) 0))),enc (C5.lk (Prod.fst (Zb (Za (PV.sl 1 false (([]:List PV)++List.map enc z))) 0))),enc (C5.lt (Prod.fst (Zb (Za (PV.sl 1 false (([]:List PV)++List.map enc z))) 0))),enc (C5.ks (Prod.fst (Zb (Za (PV.sl 1 false (([]:List PV)++List.map enc z))) 0)))])))&&decide ((List.length (encC (dec (PV.agg [enc (C5.k (Prod.fst (Zb (Za (PV.sl 1 false (([]:List PV)++List.map enc z))) 0))),enc (C5.m (Prod.fst (Zb (Za (PV.sl 1 false (([]:List PV)++List.map enc z))) 0))),enc (C5.lk (Prod.fst (Zb (Za (PV.sl 1 false (([]:List PV)++List.map enc z))) 0))),enc (C5.lt (Prod.fst (Zb (Za (PV.sl 1 false (([]:List PV)++List.map enc z))) 0))),enc (C5.ks (Prod.fst (Zb (Za (PV.sl 1 false (([]:List PV)++List.map enc z))) 0)))])))+List.length (List.map enc (Prod.fst (Prod.snd (Zb (Za (PV.sl 1 false (([]:List PV)++List.map enc z))) 0)))))*1<=1099511627776)&&decide (List.length (encC (dec (PV.agg [enc (C5.k (Prod.fst (Zb (Za (PV.sl 1 false (([]:List PV)++List.map enc z))) 0))),enc (C5.m (Prod.fst (Zb (Za (PV.sl 1 false (([]:List PV)++List.map enc z))) 0))),enc (C5.lk (Prod.fst (Zb (Za (PV.sl 1 false (([]:List PV)++List.map enc z))) 0))),enc (C5.lt (Prod.fst (Zb (Za (PV.sl 1 false (([]:List PV)++List.map enc z))) 0))),enc (C5.ks (Prod.fst (Zb (Za (PV.sl 1 false (([]:List PV)++List.map enc z))) 0)))])))+List.length (List.map enc (Prod.fst (Prod.snd (Zb (Za (PV.sl 1 false (([]:List PV)++List.map enc z))) 0))))<=1099511627776))=true∧((List.length (List.map enc (encC (dec (PV.agg [enc (C5.k (Prod.fst (Zb (Za (PV.sl 1 false (([]:List PV)++List.map enc z))) 0))),enc (C5.m (Prod.fst (Zb (Za (PV.sl 1 false (([]:List PV)++List.map enc z))) 0))),enc (C5.lk (Prod.fst (Zb (Za (PV.sl 1 false (([]:List PV)++List.map enc z))) 0))),enc (C5.lt (Prod.fst (Zb (Za (PV.sl 1 false (([]:List PV)++List.map enc z))) 0))),enc (C5.ks (Prod.fst (Zb (Za (PV.sl 1 false (([]:List PV)++List.map enc z))) 0)))])))++List.map enc (Prod.fst (Prod.snd (Zb (Za (PV.sl 1 false (([]:List PV)++List.map enc z))) 0))))==List.length (encC (dec (PV.agg [enc (C5.k (Prod.fst (Zb (Za (PV.sl 1 false (([]:List PV)++List.map enc z))) 0))),enc (C5.m (Prod.fst (Zb (Za (PV.sl 1 false (([]:List PV)++List.map enc z))) 0))),enc (C5.lk (Prod.fst (Zb (Za (PV.sl 1 false (([]:List PV)++List.map enc z))) 0))),enc (C5.lt (Prod.fst (Zb (Za (PV.sl 1 false (([]:List PV)++List.map enc z))) 0))),enc (C5.ks (Prod.fst (Zb (Za (PV.sl 1 false (([]:List PV)++List.map enc z))) 0)))])))+List.length (List.map enc (Prod.fst (Prod.snd (Zb (Za (PV.sl 1 false (([]:List PV)++List.map enc z))) 0)))))=true∧((Go.Pl.preT (fun(x:List UInt8×List UInt8×Unit)=>true) [(.sl 1 false (List.drop 0 (List.take (List.length (encC (dec (PV.agg [enc (C5.k (Prod.fst (Zb (Za (PV.sl 1 false (([]:List PV)++List.map enc z))) 0))),enc (C5.m (Prod.fst (Zb (Za (PV.sl 1 false (([]:List PV)++List.map enc z))) 0))),enc (C5.lk (Prod.fst (Zb (Za (PV.sl 1 false (([]:List PV)++List.map enc z))) 0))),enc (C5.lt (Prod.fst (Zb (Za (PV.sl 1 false (([]:List PV)++List.map enc z))) 0))),enc (C5.ks (Prod.fst (Zb (Za (PV.sl 1 false (([]:List PV)++List.map enc z))) 0)))])))+List.length (List.map enc (Prod.fst (Prod.snd (Zb (Za (PV.sl 1 false (([]:List PV)++List.map enc z))) 0))))) (List.map enc (encC (dec (PV.agg [enc (C5.k (Prod.fst (Zb (Za (PV.sl 1 false (([]:List PV)++List.map enc z))) 0))),enc (C5.m (Prod.fst (Zb (Za (PV.sl 1 false (([]:List PV)++List.map enc z))) 0))),enc (C5.lk (Prod.fst (Zb (Za (PV.sl 1 false (([]:List PV)++List.map enc z))) 0))),enc (C5.lt (Prod.fst (Zb (Za (PV.sl 1 false (([]:List PV)++List.map enc z))) 0))),enc (C5.ks (Prod.fst (Zb (Za (PV.sl 1 false (([]:List PV)++List.map enc z))) 0)))])))++List.map enc (Prod.fst (Prod.snd (Zb (Za (PV.sl 1 false (([]:List PV)++List.map enc z))) 0))))))),(.sl 1 false (List.map enc z))])=true∧(∃ y2:Bool,AV.pv (Zk (fun(x:List UInt8×List UInt8×Unit)=>decide (x.1=x.2.1)) [(.sl 1 false (List.drop 0 (List.take (List.length (encC (dec (PV.agg [enc (C5.k (Prod.fst (Zb (Za (PV.sl 1 false (([]:List PV)++List.map enc z))) 0))),enc (C5.m (Prod.fst (Zb (Za (PV.sl 1 false (([]:List PV)++List.map enc z))) 0))),enc (C5.lk (Prod.fst (Zb (Za (PV.sl 1 false (([]:List PV)++List.map enc z))) 0))),enc (C5.lt (Prod.fst (Zb (Za (PV.sl 1 false (([]:List PV)++List.map enc z))) 0))),enc (C5.ks (Prod.fst (Zb (Za (PV.sl 1 false (([]:List PV)++List.map enc z))) 0)))])))+List.length (List.map enc (Prod.fst (Prod.snd (Zb (Za (PV.sl 1 false (([]:List PV)++List.map enc z))) 0))))) (List.map enc (encC (dec (PV.agg [enc (C5.k (Prod.fst (Zb (Za (PV.sl 1 false (([]:List PV)++List.map enc z))) 0))),enc (C5.m (Prod.fst (Zb (Za (PV.sl 1 false (([]:List PV)++List.map enc z))) 0))),enc (C5.lk (Prod.fst (Zb (Za (PV.sl 1 false (([]:List PV)++List.map enc z))) 0))),enc (C5.lt (Prod.fst (Zb (Za (PV.sl 1 false (([]:List PV)++List.map enc z))) 0))),enc (C5.ks (Prod.fst (Zb (Za (PV.sl 1 false (([]:List PV)++List.map enc z))) 0)))])))++List.map enc (Prod.fst (Prod.snd (Zb (Za (PV.sl 1 false (([]:List PV)++List.map enc z))) 0))))))),(.sl 1 false (List.map enc z))])=AV.pv (enc y2)∧(if (!y2)=true then G ((.bool false))else(At Xz 0 (Ze YP G) YQ 0 97 [(6,(.row 0 3 0 3)),(7,(.pv (.int .i64 3)))] [(.obj (.row false 29 1 [(.sl 1 false (List.map enc x)),(.sl 1 false (List.map enc y)),(.sl 1 false (List.map enc z))]))])))))))else(At Xz 0 (Ze YP G) YQ 0 97 [(6,(.row 0 3 0 3)),(7,(.pv (.int .i64 3)))] [(.obj (.row false 29 1 [(.sl 1 false (List.map enc x)),(.sl 1 false (List.map enc y)),(.sl 1 false (List.map enc z))]))]))))))))))))))):At Xz 0 (Ze YP G) YQ 0 97 [(6,.row 0 3 0 3),(7,.pv (.int .i64 2))] [.obj (.row false 29 1 [.sl 1 false (x.map enc),.sl 1 false (y.map enc),.sl 1 false (z.map enc)])]:=At.tp (.lit (.lit (.lit (.lit (.keep (.lit (.lit (.req (.req (.lit (.lit (.keep (.lit (.lit (.req (.req (.req (.keep (.req (.keep (.req (.abs (Bool) (fun YY=>AV.pv (enc YY)) (.ask (.lit (.lit (.lit (.lit (.lit (.lit (.lit (.lit (.lit (.lit (.lit (.lit (.lit (.nil)))))))))))))) (.lit (.lit (.lit (.lit (.lit (.lit (.ask (.lit (.lit (.lit (.lit (.lit (.lit (.lit (.nil)))))))) (.lit (.lit (.lit (.lit (.req (.abs (Bool) (fun YY=>AV.pv (enc YY)) (.lit (.lit (.ask (.nil) (.lit (.ask (.lit (.req (.keep (.lit (.lit (.lit (.req (.req (.lit (.lit (.lit (.lit (.keep (.lit (.lit (.lit (.lit (.req (.req (.abs (Bool) (fun YY=>AV.pv (enc YY)) (.lit (.lit (.ask (.nil) (.lit (.nil))))))))))))))))))))))))) (.lit (.lit (.lit (.lit (.lit (.lit (.lit (.lit (.lit (.lit (.lit (.lit (.lit (.nil))))))))))))))))))))))))))))))))))))))))))))))))))))))) h (by kernel_rfl)
theorem b1b{G:PV->Prop}(k:Int)(m:List Int)(l:Lin)(ks:List Cert)(b:List UInt8)(x y z:List UInt8)(h : ∃ y0:Bool,AV.pv (Zk (fun(x:Cert×Cert×Unit)=>OZ x.1 x.2.1) [(.agg [(.int .i64 0),(.sl 1 false (List.map enc (C5.m QC))),(.int .i64 0),(.sl 2 false (List.map enc (C5.lt QC))),(.sl 5 false (List.map enc (C5.ks QC)))]),(.agg [(.int .i64 0),(.sl 0 true []),(.int .i64 0),(.sl 0 true []),(.sl 0 true [])])])=AV.pv (enc y0)∧(G ((.bool y0)))):At Xz 0 (Ze YP G) YQ 0 97 [(6,.row 0 3 0 3),(7,.pv (.int .i64 3))] [.obj (.row false 29 1 [.sl 1 false (x.map enc),.sl 1 false (y.map enc),.sl 1 false (z.map enc)])]:=At.tp (.lit (.lit (.lit (.keep (.lit (.abs (Bool) (fun YY=>AV.pv (enc YY)) (.nil))))))) h (by kernel_rfl)
end Go.Pl
namespace Go.Pl
open Go.RowKit
theorem TK{d:Int->List UInt8->C5×List UInt8×Int×Int}(hd : ∀ v x,(d v x).2.2.2<=v): ∀ (j:Nat) (w:Int) (x:List UInt8) (e:Int),(Z8 d j w x e).2.2.2<=w
 | 0,w,x,e=>by rw[Z8];exact Int.le_refl _
 | j+1,w,x,e=>by
  rw[Z8]
  split
  ·exact Int.le_refl _
  ·exact Int.le_trans (TK hd j _ _ _) (hd w x)
theorem a3i(t:Bool){d:Int->List UInt8->C5×List UInt8×Int×Int}(hd : ∀ v x,(d v x).2.2.2<=v)(w:Int)(x:List UInt8):(VC t d w x).2.2.2<=w - 1:=by
 unfold VC
 simp only
 split
 ·exact Int.le_refl _
 ·exact TK hd _ _ _ _
theorem Gf(t:Bool): ∀ (F:Nat) (w:Int) (x:List UInt8),(Ua t F w x).2.2.2<=w
 | 0,w,x=>Int.le_refl _
 | F+1,w,x=>by
  rw[Ua]
  split
  ·cases t
   ·show w - 1<=w;omega
   ·exact Int.le_refl _
  ·have:=a3i t (Gf t F) w x;omega
theorem Sa{d d':Int->List UInt8->C5×List UInt8×Int×Int}{W:Int}(h : ∀ v x,v<=W->d v x=d' v x)(hd : ∀ v x,(d v x).2.2.2<=v): ∀ (j:Nat) (w:Int) (x:List UInt8) (e:Int),w<=W->Z8 d j w x e=Z8 d' j w x e
 | 0,w,x,e,_=>rfl
 | j+1,w,x,e,hw=>by
  rw[Z8,Z8,<- h w x hw]
  split
  ·rfl
  ·simp only
   rw[Sa h hd j _ _ _ (Int.le_trans (hd w x) hw)]
theorem AQ(t:Bool){d d':Int->List UInt8->C5×List UInt8×Int×Int}{w:Int}(h : ∀ v x,v<=w - 1->d v x=d' v x)(hd : ∀ v x,(d v x).2.2.2<=v)(x:List UInt8):VC t d w x=VC t d' w x:=by
 unfold VC
 simp only
 split
 ·rfl
 ·rw[Sa h hd _ _ _ _ (Int.le_refl _)]
theorem MN(t:Bool): ∀ (F G:Nat) (w:Int) (x:List UInt8),w.toNat<F->w.toNat<G->Ua t F w x=Ua t G w x
 | 0,_,w,x,h,_=>by omega
 | F+1,0,w,x,_,h=>by omega
 | F+1,G+1,w,x,h1,h2=>by
  rw[Ua,Ua]
  split
  ·rfl
  ·rename_i hw
   exact AQ t (fun v y hv=>MN t F G v y (by omega) (by omega)) (Gf t F) x
theorem Gc(t:Bool)(w:Int)(x:List UInt8):(Zx t w x).2.2.2<=w:=Gf t _ w x
theorem ME(t:Bool){w:Int}(h:w<=0)(x:List UInt8):Zx t w x=(QC,x,3,if t=true then w else w - 1):=by
 unfold Zx;rw[Ua,if_pos h]
theorem a0i(t:Bool){w:Int}(h:0<w)(x:List UInt8):Zx t w x=VC t (Zx t) w x:=by
 unfold Zx
 rw[Ua,if_neg (by omega)]
 exact AQ t (fun v y hv=>MN t _ _ v y (by omega) (by omega)) (Gf t _) x
theorem Rs(lo hi:Int): ∀ (j:Nat) (x:List UInt8) (e:Int),(YX lo hi j x e).2.1.length<=x.length
 | 0,x,e=>Nat.le_refl _
 | j+1,x,e=>by
  rw[YX]
  split
  ·exact Nat.le_refl _
  ·exact Nat.le_trans (Rs lo hi j _ _) (ZX lo hi 2 x 0)
theorem a3p(most lo hi:Int)(x:List UInt8)(e:Int):(UU most lo hi x e).2.1.length<=x.length:=
 Nat.le_trans (Rs lo hi _ _ _) (ZX 0 most 3 x e)
theorem Df(most lo hi:Int)(x:List UInt8)(e:Int):(Zg most lo hi x e).2.1.length<=x.length:=by
 unfold Zg
 simp only
 split
 ·exact Nat.le_refl _
 ·split
  ·exact Nat.le_refl _
  ·exact a3p most lo hi x 0
theorem AA: ∀ (j:Nat) (x:List UInt8) (e:Int),(Ym j x e).2.1.length<=x.length
 | 0,x,e=>Nat.le_refl _
 | j+1,x,e=>by
  rw[Ym]
  split
  ·exact Nat.le_refl _
  ·exact Nat.le_trans (AA j _ _) (Nat.le_trans (ZX _ _ _ _ _) (Kw _ _ _))
theorem a7m{k:Int}{x:List UInt8}{ts:List Coef}{c:List Coef×List UInt8×Int}(h:c.2.1.length<=x.length):(WZ k x ts c).2.1.length<=x.length:=by
 unfold WZ
 generalize (if c.2.2=0∧Zm ⟨k,ts++c.1⟩=false then(4:Int)else c.2.2)=e
 split
 ·exact h
 ·exact Nat.le_refl _
theorem J2(x:List UInt8)(e:Int):(Zp x e).2.1.length<=x.length:=by
 by_cases h:e=0
 ·subst h
  rw[UF]
  exact a7m (Nat.le_trans (AA _ _ _) (Nat.le_trans (ZX _ _ _ _ _) (ZX _ _ _ _ _)))
 ·rw[Um x h];exact Nat.le_refl _
theorem b2x(t:Bool)(x:List UInt8):(QN t x).2.1.length<=x.length:=by
 unfold QN
 simp only
 split
 ·exact ZX _ _ _ _ _
 ·split
  ·exact ZX _ _ _ _ _
  ·exact ZX _ _ _ _ _
theorem Pj{d:Int->List UInt8->C5×List UInt8×Int×Int}(hd : ∀ v x,(d v x).2.1.length<=x.length): ∀ (j:Nat) (w:Int) (x:List UInt8) (e:Int),(Z8 d j w x e).2.1.length<=x.length
 | 0,w,x,e=>Nat.le_refl _
 | j+1,w,x,e=>by
  rw[Z8]
  split
  ·exact Nat.le_refl _
  ·exact Nat.le_trans (Pj hd j _ _ _) (hd w x)
theorem a4m(t:Bool){d:Int->List UInt8->C5×List UInt8×Int×Int}(hd : ∀ v x,(d v x).2.1.length<=x.length)(w:Int)(x:List UInt8):(VC t d w x).2.1.length<=x.length:=by
 have h:(Zp (Zg 1100 (-1000000000) 1000000000 (Zc 1 3 2 x 0).2.1 (Zc 1 3 2 x 0).2.2).2.1 (Zg 1100 (-1000000000) 1000000000 (Zc 1 3 2 x 0).2.1 (Zc 1 3 2 x 0).2.2).2.2).2.1.length<=x.length:=
  Nat.le_trans (J2 _ _) (Nat.le_trans (Df _ _ _ _ _) (ZX _ _ _ _ _))
 unfold VC
 simp only
 split
 ·exact h
 ·exact Nat.le_trans (Pj hd _ _ _ _) (Nat.le_trans (b2x t _) h)
theorem M5(t:Bool): ∀ (F:Nat) (w:Int) (x:List UInt8),(Ua t F w x).2.1.length<=x.length
 | 0,w,x=>Nat.le_refl _
 | F+1,w,x=>by
  rw[Ua]
  split
  ·exact Nat.le_refl _
  ·exact a4m t (M5 t F) w x
theorem Gn(t:Bool)(w:Int)(x:List UInt8):(Zx t w x).2.1.length<=x.length:=M5 t _ w x
theorem Mj{d:Int->List UInt8->C5×List UInt8×Int×Int}(hd : ∀ v x,0<=v->(d v x).2.2.1=0->0<=(d v x).2.2.2): ∀ (j:Nat) (w:Int) (x:List UInt8) (e:Int),0<=w->(Z8 d j w x e).2.2.1=0->0<=(Z8 d j w x e).2.2.2
 | 0,w,x,e,hw,_=>hw
 | j+1,w,x,e,hw,h=>by
  rw[Z8]at h ⊢
  split
  ·exact hw
  ·rename_i he
   rw[if_neg he]at h
   simp only at h ⊢
   by_cases h0:(d w x).2.2.1=0
   ·exact Mj hd j _ _ _ (hd w x hw h0) h
   ·exfalso
    have : ∀ (j:Nat) (w:Int) (x:List UInt8) (e:Int),e≠0->(Z8 d j w x e).2.2.1=e:=by
     intro j
     cases j with
     | zero=>intro w x e he;rfl
     | succ j=>intro w x e he;rw[Z8,if_pos he]
    rw[this j _ _ _ h0]at h
    exact h0 h
theorem a1b(t:Bool): ∀ (F:Nat) (w:Int) (x:List UInt8),0<=w->(Ua t F w x).2.2.1=0->0<=(Ua t F w x).2.2.2
 | 0,w,x,hw,h=>hw
 | F+1,w,x,hw,h=>by
  rw[Ua]at h ⊢
  split
  ·rename_i h0
   rw[if_pos h0]at h
   exact absurd h (show(3:Int)≠0 by decide)
  ·rename_i h0
   rw[if_neg h0]at h
   unfold VC at h ⊢
   simp only at h ⊢
   split
   ·show 0<=w - 1;omega
   ·rename_i h1
    rw[if_neg h1]at h
    exact Mj (fun v y hv hy=>a1b t F v y hv hy) _ _ _ _ (by omega) h
theorem H9(t:Bool){w:Int}{x:List UInt8}(hw:0<=w)(h:(Zx t w x).2.2.1=0):0<=(Zx t w x).2.2.2:=a1b t _ w x hw h
theorem Wn{d:Int->List UInt8->C5×List UInt8×Int×Int}{e:Int}(h:e≠0)(j:Nat)(w:Int)(x:List UInt8):Z8 d j w x e=([],x,e,w):=by
 cases j with
 | zero=>rfl
 | succ j=>rw[Z8,if_pos h]
end Go.Pl
namespace Go.Pl
open Go.RowKit
open Enc (enc dec is)
open EncL (encL decL isL)
set_option maxRecDepth 100000
noncomputable def QG:IC:=Xp Proofs.Tryz.f63
def Qr:List IRes:=[(.tmp 6)]
abbrev c7g:Nat:=26
def Jj:ZI:=YN [(62,.own VQ (Bb 5)),(61,.own (Vl 5) HV)]
theorem c8r{G:AV×List AObj×List AObj->Prop}(x:List UInt8)(l:List Int)(h:(VQ [(.pv (.sl 1 false (List.map enc x)))] [])=true∧((Vl 5 [(.row 0 (List.length (Za (enc x))) 0 (List.length (Za (enc x)))),(.pv (.int .i64 (↑(List.length (List.map enc l)):Int)))] [(.row false 5 1 (List.map enc (Za (enc x))))])=true∧(At Jj 0 (Zj 0 Qr G) QG 0 26 [(0,(.row 0 (List.length (Za (enc x))+List.length (encI (↑(List.length (List.map enc l)):Int))) 0 (List.length (Za (enc x))+List.length (encI (↑(List.length (List.map enc l)):Int))))),(2,(.pv (.fn 61))),(14,(.pv (.sl 1 false (List.map enc l)))),(15,(.pv (.int .i64 (↑(List.length (List.map enc l)):Int)))),(16,(.pv (.int .i64 0)))] [(.obj (.row false 5 1 (List.map enc (Za (enc x))++List.map enc (encI (↑(List.length (List.map enc l)):Int)))))]))):Zf Jj 0 (Zj 0 Qr G) QG [] (ZN 26 [.pv (enc x),.pv (enc l),.pv (.fn 61)] []):=Zf.to (.req (.keep (.req (.keep (.nil))))) h (by kernel_rfl)
theorem a2x{G:AV×List AObj×List AObj->Prop}(x:List UInt8)(l:List Int)(y:List UInt8)(q:Nat)(i:Int)(h:if (decide (i<(↑(List.length l):Int)))=true then(decide (0<=i)&&decide (Int.toNat i<List.length (List.map enc l))&&Enc.sz Int==1)=true∧(∃ y0:Int,AV.pv (PV.rptr (PV.cells (List.getD (List.map enc l) (Int.toNat i) default)))=AV.pv (PV.rptr (PV.cells ((enc) y0)))∧((Vl 5 [(.row 0 q 0 q),(.pv (.int .i64 (PV.asInt (List.getD (PV.cells (enc y0)) 0 default))))] [(.row false 5 1 (List.map enc y))])=true∧(At Jj 0 (Zj 0 Qr G) QG 0 26 [(0,(.row 0 (q+List.length (encI (PV.asInt (List.getD (PV.cells (enc y0)) 0 default)))) 0 (q+List.length (encI (PV.asInt (List.getD (PV.cells (enc y0)) 0 default)))))),(2,(.pv (.fn 61))),(14,(.pv (.sl 1 false (List.map enc l)))),(15,(.pv (.int .i64 (↑(List.length l):Int)))),(16,(.pv (.int .i64 (IntKind.wrap IntKind.i64 (i+1)))))] [(.obj (.row false 5 1 (List.map enc y++List.map enc (encI (PV.asInt (List.getD (PV.cells (enc y0)) 0 default))))))])))else(G (((.row 0 q 0 q),([],[(.row false 5 1 (List.map enc y))]))))):At Jj 0 (Zj 0 Qr G) QG 0 26 [(0,.row 0 q 0 q),(2,.pv (.fn 61)),(14,.pv (enc l)),(15,.pv (.int .i64 l.length)),(16,.pv (.int .i64 i))] [.obj (.row false 5 1 (y.map enc))]:=At.to (.lit (.ask (.req (.abs (Int) (fun YY=>AV.pv (PV.rptr (PV.cells ((enc) YY)))) (.lit (.req (.keep (.lit (.nil))))))) (.nil))) h (by kernel_rfl)
noncomputable def PQ:IC:=Xp Proofs.Tryz.f31
def Rt:List IRes:=[(.tmp 4)]
abbrev c5f:Nat:=8
def La:ZI:=YN [(63,.own (KS 61) (Dx 5))]
theorem d1q{G:PV->Prop}(x:List UInt8)(l:List Int)(h:(KS 61 [(.pv (.sl 1 false (List.map enc x))),(.pv (.sl 1 false (List.map enc l))),(.pv (.fn 61))] [])=true∧((List.length (List.map enc (Za (enc x)++encIs (dec (enc l))))==List.length (Za (enc x)++encIs (dec (enc l))))=true∧(G ((.sl 1 false (List.drop 0 (List.take (List.length (Za (enc x)++encIs (dec (enc l)))) (List.map enc (Za (enc x)++encIs (dec (enc l))))))))))):Zf La 0 (Ze Rt G) PQ [] (Yp 8 [enc x,enc l]):=Zf.tp (.req (.keep (.req (.nil)))) h (by kernel_rfl)
noncomputable def UQ:IC:=Xp Proofs.Tryz.f32
def UT:List IRes:=[(.tmp 4)]
abbrev c0h:Nat:=24
def QS:ZI:=YN [(33,.pure (preT (fun x:List UInt8×Int×Unit=>decide (x.1.length<=1000000))) (Zk (fun x:List UInt8×Int×Unit=>x.1++encI x.2.1)))]
theorem c9k{G:PV->Prop}(x:List UInt8)(l:List Int)(h:(Go.Pl.preT (fun(x:List UInt8×Int×Unit)=>decide (List.length x.1<=1000000)) [(.sl 1 false (List.map enc x)),(.int .i64 (↑(List.length (List.map enc l)):Int))])=true∧(∃ y0:List UInt8,AV.pv (Zk (fun(x:List UInt8×Int×Unit)=>x.1++encI x.2.1) [(.sl 1 false (List.map enc x)),(.int .i64 (↑(List.length (List.map enc l)):Int))])=AV.pv (enc y0)∧(At QS 0 (Ze UT G) UQ 0 24 [(1,(.pv (.sl 1 false (List.map enc l)))),(5,(.pv (.sl 1 false (List.map enc y0)))),(6,(.pv (.int .i64 0)))] []))):Zf QS 0 (Ze UT G) UQ [] (Yp 24 [enc x,enc l]):=Zf.tp (.req (.abs (List UInt8) (fun YY=>AV.pv (enc YY)) (.nil))) h (by kernel_rfl)
theorem a0w{G:PV->Prop}(x:List UInt8)(l:List Int)(y:List UInt8)(i:Int)(h:if (decide (i<(↑(List.length (List.map enc l)):Int)))=true then(decide (0<=i)&&decide (Int.toNat i<List.length (List.map enc l))&&Enc.sz Int==1)=true∧(∃ y0:Int,AV.pv (PV.rptr (PV.cells (List.getD (List.map enc l) (Int.toNat i) default)))=AV.pv (PV.rptr (PV.cells ((enc) y0)))∧((Go.Pl.preT (fun(x:List UInt8×Int×Unit)=>decide (List.length x.1<=1000000)) [(.sl 1 false (List.map enc y)),(.int .i64 (PV.asInt (List.getD (PV.cells (enc y0)) 0 default)))])=true∧(∃ y1:List UInt8,AV.pv (Zk (fun(x:List UInt8×Int×Unit)=>x.1++encI x.2.1) [(.sl 1 false (List.map enc y)),(.int .i64 (PV.asInt (List.getD (PV.cells (enc y0)) 0 default)))])=AV.pv (enc y1)∧(At QS 0 (Ze UT G) UQ 0 24 [(1,(.pv (.sl 1 false (List.map enc l)))),(5,(.pv (.sl 1 false (List.map enc y1)))),(6,(.pv (.int .i64 (IntKind.wrap IntKind.i64 (i+1)))))] []))))else(G ((.sl 1 false (List.map enc y))))):At QS 0 (Ze UT G) UQ 0 24 [(1,.pv (enc l)),(5,.pv (enc y)),(6,.pv (.int .i64 i))] []:=At.tp (.lit (.ask (.req (.abs (Int) (fun YY=>AV.pv (PV.rptr (PV.cells ((enc) YY)))) (.lit (.req (.abs (List UInt8) (fun YY=>AV.pv (enc YY)) (.lit (.nil))))))) (.nil))) h (by kernel_rfl)
noncomputable def P9:IC:=Xp Proofs.Tryz.f109
def Pq:List IRes:=[(.tmp 3)]
abbrev c2t:Nat:=8
def Lm:ZI:=YN [(84,.own YA WN)]
theorem d2x{G:AV×List AObj×List AObj->Prop}(x:List UInt8)(err:Int)(lo hi:Int)(h:(YA [(.ptr 0 0),(.pv (.int .i64 lo)),(.pv (.int .i64 hi)),(.pv (.int .i64 2))] [(.box [(.pv (.sl 1 false (List.map enc x))),(.pv (.int .i64 err))])])=true∧(G (((.pv (.int .i64 (Prod.fst (Zc lo hi 2 (Za (PV.sl 1 false (List.map enc x))) err)))),([(.box [(.ptr 3 0)]),(.box [(.pv (.int .i64 lo))]),(.box [(.pv (.int .i64 hi))]),(.box [(.pv (.sl 1 false (List.map enc (Prod.fst (Prod.snd (Zc lo hi 2 (Za (PV.sl 1 false (List.map enc x))) err)))))),(.pv (.int .i64 (Prod.snd (Prod.snd (Zc lo hi 2 (Za (PV.sl 1 false (List.map enc x))) err)))))])],[]))))):Zf Lm 4 (Zj 4 Pq G) P9 [] (ZN 8 [.ptr 0 0,.ptr 1 0,.ptr 2 0] [.box [.ptr 3 0],.box [.pv (.int .i64 lo)],.box [.pv (.int .i64 hi)],.box [.pv (.sl 1 false (x.map enc)),.pv (.int .i64 err)]]):=Zf.to (.req (.keep (.nil))) h (by kernel_rfl)
noncomputable def Wx:IC:=Xp Proofs.Tryz.f108
def Wz:List IRes:=[(.tmp 6)]
abbrev c6x:Nat:=31
def VV:ZI:=YN [(84,.own YA WN),(109,.own Jm Ob)]
theorem d3h{G:AV×List AObj×List AObj->Prop}(x:List UInt8)(err:Int)(lo hi most:Int)(h:(YA [(.ptr 0 0),(.pv (.int .i64 0)),(.pv (.int .i64 most)),(.pv (.int .i64 3))] [(.box [(.pv (.sl 1 false (List.map enc x))),(.pv (.int .i64 err))])])=true∧(At VV 4 (ZC 4 Wz G) Wx 0 31 [(0,(.ptr 0 0)),(2,(.fn 109 [] [(.ptr 1 0),(.ptr 2 0),(.ptr 3 0)])),(7,(.pv (.int .i64 (Prod.fst (Zc 0 most 3 (Za (PV.sl 1 false (List.map enc x))) err))))),(8,(.pv (.sl 0 true []))),(9,(.pv (.int .i64 0)))] [(.obj (.box [(.pv (.sl 1 false (List.map enc (Prod.fst (Prod.snd (Zc 0 most 3 (Za (PV.sl 1 false (List.map enc x))) err)))))),(.pv (.int .i64 (Prod.snd (Prod.snd (Zc 0 most 3 (Za (PV.sl 1 false (List.map enc x))) err)))))])),(.obj (.box [(.ptr 0 0)])),(.obj (.box [(.pv (.int .i64 lo))])),(.obj (.box [(.pv (.int .i64 hi))]))])):Zf VV 4 (ZC 4 Wz G) Wx [] (ZN 31 [.ptr 0 0,.pv (.int .i64 most),.fn 109 [] [.ptr 1 0,.ptr 2 0,.ptr 3 0]] [.box [.pv (.sl 1 false (x.map enc)),.pv (.int .i64 err)],.box [.ptr 0 0],.box [.pv (.int .i64 lo)],.box [.pv (.int .i64 hi)]]):=Zf.tf (.req (.keep (.nil))) h (by kernel_rfl)
theorem MU{G:AV×List AObj×List AObj->Prop}(x:List UInt8)(err:Int)(lo hi most:Int)(z:List UInt8)(e n i:Int)(h:if (decide (i<n))=true then if (e==0)=true then(Jm [(.ptr 0 0),(.ptr 1 0),(.ptr 2 0)] [(.box [(.ptr 3 0)]),(.box [(.pv (.int .i64 lo))]),(.box [(.pv (.int .i64 hi))]),(.box [(.pv (.sl 1 false (List.map enc z))),(.pv (.int .i64 e))])])=true∧(At VV 4 (ZC 4 Wz G) Wx 0 31 [(0,(.ptr 0 0)),(2,(.fn 109 [] [(.ptr 1 0),(.ptr 2 0),(.ptr 3 0)])),(7,(.pv (.int .i64 n))),(8,(.row 4 1 0 1)),(9,(.pv (.int .i64 (IntKind.wrap IntKind.i64 (i+1)))))] [(.obj (.box [(.pv (.sl 1 false (List.map enc (Prod.fst (Prod.snd (Zc lo hi 2 (Za (PV.sl 1 false (List.map enc z))) e)))))),(.pv (.int .i64 (Prod.snd (Prod.snd (Zc lo hi 2 (Za (PV.sl 1 false (List.map enc z))) e)))))])),(.obj (.box [(.ptr 0 0)])),(.obj (.box [(.pv (.int .i64 lo))])),(.obj (.box [(.pv (.int .i64 hi))])),(.obj (.row false 3 1 [(.int .i64 (Prod.fst (Zc lo hi 2 (Za (PV.sl 1 false (List.map enc z))) e)))]))])else(G (((.pv (.sl 0 true [])),([(.box [(.pv (.sl 1 false (List.map enc z))),(.pv (.int .i64 e))]),(.box [(.ptr 0 0)]),(.box [(.pv (.int .i64 lo))]),(.box [(.pv (.int .i64 hi))])],[]))))else(G (((.pv (.sl 0 true [])),([(.box [(.pv (.sl 1 false (List.map enc z))),(.pv (.int .i64 e))]),(.box [(.ptr 0 0)]),(.box [(.pv (.int .i64 lo))]),(.box [(.pv (.int .i64 hi))])],[]))))):At VV 4 (ZC 4 Wz G) Wx 0 31 [(0,.ptr 0 0),(2,.fn 109 [] [.ptr 1 0,.ptr 2 0,.ptr 3 0]),(7,.pv (.int .i64 n)),(8,.pv (.sl 0 true [])),(9,.pv (.int .i64 i))] [.obj (.box [.pv (.sl 1 false (z.map enc)),.pv (.int .i64 e)]),.obj (.box [.ptr 0 0]),.obj (.box [.pv (.int .i64 lo)]),.obj (.box [.pv (.int .i64 hi)])]:=At.tf (.lit (.ask (.lit (.lit (.lit (.lit (.lit (.lit (.ask (.req (.keep (.lit (.lit (.lit (.lit (.lit (.lit (.nil))))))))) (.nil)))))))) (.lit (.lit (.lit (.lit (.lit (.lit (.nil))))))))) h (by kernel_rfl)
theorem M6{G:AV×List AObj×List AObj->Prop}(x:List UInt8)(err:Int)(lo hi most:Int)(z:List UInt8)(e n i:Int)(ts:List Int)(m:Nat)(h:if (decide (i<n))=true then if (e==0)=true then(Jm [(.ptr 0 0),(.ptr 1 0),(.ptr 2 0)] [(.box [(.ptr 3 0)]),(.box [(.pv (.int .i64 lo))]),(.box [(.pv (.int .i64 hi))]),(.box [(.pv (.sl 1 false (List.map enc z))),(.pv (.int .i64 e))])])=true∧((List.length (List.map enc ts)==m&&m==m&&decide ((m+List.length (List.drop 0 (List.take 1 [PV.int .i64 (Prod.fst (Zc lo hi 2 (Za (PV.sl 1 false (List.map enc z))) e))])))*8<=1099511627776)&&decide (m+List.length (List.drop 0 (List.take 1 [PV.int .i64 (Prod.fst (Zc lo hi 2 (Za (PV.sl 1 false (List.map enc z))) e))]))<=1099511627776))=true∧(At VV 4 (ZC 4 Wz G) Wx 0 31 [(0,(.ptr 0 0)),(2,(.fn 109 [] [(.ptr 1 0),(.ptr 2 0),(.ptr 3 0)])),(7,(.pv (.int .i64 n))),(8,(.row 4 (m+List.length (List.drop 0 (List.take 1 [PV.int .i64 (Prod.fst (Zc lo hi 2 (Za (PV.sl 1 false (List.map enc z))) e))]))) 0 (m+List.length (List.drop 0 (List.take 1 [PV.int .i64 (Prod.fst (Zc lo hi 2 (Za (PV.sl 1 false (List.map enc z))) e))]))))),(9,(.pv (.int .i64 (IntKind.wrap IntKind.i64 (i+1)))))] [(.obj (.box [(.pv (.sl 1 false (List.map enc (Prod.fst (Prod.snd (Zc lo hi 2 (Za (PV.sl 1 false (List.map enc z))) e)))))),(.pv (.int .i64 (Prod.snd (Prod.snd (Zc lo hi 2 (Za (PV.sl 1 false (List.map enc z))) e)))))])),(.obj (.box [(.ptr 0 0)])),(.obj (.box [(.pv (.int .i64 lo))])),(.obj (.box [(.pv (.int .i64 hi))])),(.obj (.row false 3 1 (List.map enc ts++List.drop 0 (List.take 1 [PV.int .i64 (Prod.fst (Zc lo hi 2 (Za (PV.sl 1 false (List.map enc z))) e))]))))]))else((List.length (List.map enc ts)==m)=true∧(G (((.pv (.sl 1 false (List.drop 0 (List.take m (List.map enc ts))))),([(.box [(.pv (.sl 1 false (List.map enc z))),(.pv (.int .i64 e))]),(.box [(.ptr 0 0)]),(.box [(.pv (.int .i64 lo))]),(.box [(.pv (.int .i64 hi))])],[])))))else((List.length (List.map enc ts)==m)=true∧(G (((.pv (.sl 1 false (List.drop 0 (List.take m (List.map enc ts))))),([(.box [(.pv (.sl 1 false (List.map enc z))),(.pv (.int .i64 e))]),(.box [(.ptr 0 0)]),(.box [(.pv (.int .i64 lo))]),(.box [(.pv (.int .i64 hi))])],[])))))):At VV 4 (ZC 4 Wz G) Wx 0 31 [(0,.ptr 0 0),(2,.fn 109 [] [.ptr 1 0,.ptr 2 0,.ptr 3 0]),(7,.pv (.int .i64 n)),(8,.row 4 m 0 m),(9,.pv (.int .i64 i))] [.obj (.box [.pv (.sl 1 false (z.map enc)),.pv (.int .i64 e)]),.obj (.box [.ptr 0 0]),.obj (.box [.pv (.int .i64 lo)]),.obj (.box [.pv (.int .i64 hi)]),.obj (.row false 3 1 (ts.map enc))]:=At.tf (.lit (.ask (.lit (.lit (.lit (.lit (.lit (.lit (.ask (.req (.keep (.lit (.lit (.req (.lit (.nil))))))) (.req (.nil))))))))) (.lit (.lit (.lit (.lit (.lit (.lit (.req (.nil)))))))))) h (by kernel_rfl)
noncomputable def Al:IC:=Xp Proofs.Tryz.f107
def Bp:List IRes:=[(.tmp 5)]
abbrev b7l:Nat:=10
def PN:ZI:=YN [(108,.own (J8 109) CW)]
theorem c2v{G:AV×List AObj×List AObj->Prop}(x:List UInt8)(err:Int)(lo hi most:Int)(h:(J8 109 [(.ptr 0 0),(.pv (.int .i64 most)),(.fn 109 [] [(.ptr 1 0),(.ptr 2 0),(.ptr 3 0)])] [(.box [(.pv (.sl 1 false (List.map enc x))),(.pv (.int .i64 err))]),(.box [(.ptr 0 0)]),(.box [(.pv (.int .i64 lo))]),(.box [(.pv (.int .i64 hi))])])=true∧(G (((.pv (.sl 1 false (List.map enc (Prod.fst (UU most lo hi (Za (PV.sl 1 false (List.map enc x))) err))))),([(.box [(.pv (.sl 1 false (List.map enc (Prod.fst (Prod.snd (UU most lo hi (Za (PV.sl 1 false (List.map enc x))) err)))))),(.pv (.int .i64 (Prod.snd (Prod.snd (UU most lo hi (Za (PV.sl 1 false (List.map enc x))) err)))))]),(.box [(.pv (.int .i64 most))]),(.box [(.pv (.int .i64 lo))]),(.box [(.pv (.int .i64 hi))])],[]))))):Zf PN 4 (ZC 4 Bp G) Al [] (ZN 10 [.ptr 0 0,.ptr 1 0,.ptr 2 0,.ptr 3 0] [.box [.pv (.sl 1 false (x.map enc)),.pv (.int .i64 err)],.box [.pv (.int .i64 most)],.box [.pv (.int .i64 lo)],.box [.pv (.int .i64 hi)]]):=Zf.tf (.req (.keep (.nil))) h (by kernel_rfl)
noncomputable def Bc:IC:=Xp Proofs.Tryz.f106
def D8:List IRes:=[(.tmp 4)]
abbrev b8r:Nat:=40
def Ti:ZI:=YN [(107,.own KH BL)]
theorem d0t{G:AV×List AObj×List AObj->Prop}(x:List UInt8)(err:Int)(lo hi most:Int)(h:if (err != 0)=true then G (((.pv (.sl 0 true [])),([(.box [(.pv (.sl 1 false (List.map enc x))),(.pv (.int .i64 err))]),(.box [(.pv (.int .i64 most))]),(.box [(.pv (.int .i64 lo))]),(.box [(.pv (.int .i64 hi))])],[])))else((KH [(.ptr 0 0),(.ptr 1 0),(.ptr 2 0),(.ptr 3 0)] [(.box [(.pv (.sl 1 false (List.map enc x))),(.pv (.int .i64 0))]),(.box [(.pv (.int .i64 most))]),(.box [(.pv (.int .i64 lo))]),(.box [(.pv (.int .i64 hi))])])=true∧(if (Prod.snd (Prod.snd (UU most lo hi (Za (PV.sl 1 false (List.map enc x))) 0)) != 0)=true then G (((.pv (.sl 0 true [])),([(.box [(.pv (.sl 1 false (List.map enc x))),(.pv (.int .i64 (Prod.snd (Prod.snd (UU most lo hi (Za (PV.sl 1 false (List.map enc x))) 0)))))]),(.box [(.pv (.int .i64 most))]),(.box [(.pv (.int .i64 lo))]),(.box [(.pv (.int .i64 hi))])],[])))else(G (((.pv (.sl 1 false (List.map enc (Prod.fst (UU most lo hi (Za (PV.sl 1 false (List.map enc x))) 0))))),([(.box [(.pv (.sl 1 false (List.map enc (Prod.fst (Prod.snd (UU most lo hi (Za (PV.sl 1 false (List.map enc x))) 0)))))),(.pv (.int .i64 err))]),(.box [(.pv (.int .i64 most))]),(.box [(.pv (.int .i64 lo))]),(.box [(.pv (.int .i64 hi))])],[]))))))):Zf Ti 4 (ZC 4 D8 G) Bc [] (ZN 40 [.ptr 0 0,.fn 107 [] [.ptr 1 0,.ptr 2 0,.ptr 3 0]] [.box [.pv (.sl 1 false (x.map enc)),.pv (.int .i64 err)],.box [.pv (.int .i64 most)],.box [.pv (.int .i64 lo)],.box [.pv (.int .i64 hi)]]):=Zf.tf (.lit (.lit (.lit (.lit (.lit (.lit (.lit (.lit (.ask (.nil) (.req (.keep (.lit (.ask (.nil) (.nil)))))))))))))) h (by kernel_rfl)
noncomputable def Ay:IC:=Xp Proofs.Tryz.f65
def Ab:List IRes:=[(.tmp 8)]
abbrev b2k:Nat:=12
def Po:ZI:=YN [(106,.own (JS 107) DK)]
theorem c5v{G:AV×List AObj×List AObj->Prop}(x:List UInt8)(err:Int)(lo hi most:Int)(h:(JS 107 [(.ptr 0 0),(.fn 107 [] [(.ptr 1 0),(.ptr 2 0),(.ptr 3 0)])] [(.box [(.pv (.sl 1 false (List.map enc x))),(.pv (.int .i64 err))]),(.box [(.pv (.int .i64 most))]),(.box [(.pv (.int .i64 lo))]),(.box [(.pv (.int .i64 hi))])])=true∧(G (((.pv (.sl 1 false (List.map enc (Prod.fst (Zg most lo hi (Za (PV.sl 1 false (List.map enc x))) err))))),([(.box [(.pv (.sl 1 false (List.map enc (Prod.fst (Prod.snd (Zg most lo hi (Za (PV.sl 1 false (List.map enc x))) err)))))),(.pv (.int .i64 (Prod.snd (Prod.snd (Zg most lo hi (Za (PV.sl 1 false (List.map enc x))) err)))))])],[]))))):Zf Po 1 (ZC 1 Ab G) Ay [] (ZN 12 [.ptr 0 0,.pv (.int .i64 most),.pv (.int .i64 lo),.pv (.int .i64 hi)] [.box [.pv (.sl 1 false (x.map enc)),.pv (.int .i64 err)]]):=Zf.tf (.req (.keep (.nil))) h (by kernel_rfl)
noncomputable def XD:IC:=Xp Proofs.Tryz.f66
def XB:List IRes:=[(.tmp 8)]
abbrev b2u:Nat:=58
def WE:ZI:=YN [(90,.own YA WN)]
theorem c4n{G:AV×List AObj×List AObj->Prop}(x:List UInt8)(err:Int)(lo hi most:Int)(h:if (err != 0)=true then G (((.pv (.sl 0 true [])),([(.box [(.pv (.sl 1 false (List.map enc x))),(.pv (.int .i64 err))])],[])))else((YA [(.ptr 0 0),(.pv (.int .i64 0)),(.pv (.int .i64 most)),(.pv (.int .i64 3))] [(.box [(.pv (.sl 1 false (List.map enc x))),(.pv (.int .i64 err))])])=true∧(At WE 1 (ZC 1 XB G) XD 0 58 [(0,(.ptr 0 0)),(2,(.pv (.int .i64 lo))),(3,(.pv (.int .i64 hi))),(9,(.pv (.sl 1 false (List.map enc x)))),(10,(.pv (.int .i64 (Prod.fst (Zc 0 most 3 (Za (PV.sl 1 false (List.map enc x))) err))))),(11,(.pv (.sl 0 true []))),(12,(.pv (.int .i64 0)))] [(.obj (.box [(.pv (.sl 1 false (List.map enc (Prod.fst (Prod.snd (Zc 0 most 3 (Za (PV.sl 1 false (List.map enc x))) err)))))),(.pv (.int .i64 (Prod.snd (Prod.snd (Zc 0 most 3 (Za (PV.sl 1 false (List.map enc x))) err)))))]))]))):Zf WE 1 (ZC 1 XB G) XD [] (ZN 58 [.ptr 0 0,.pv (.int .i64 most),.pv (.int .i64 lo),.pv (.int .i64 hi)] [.box [.pv (.sl 1 false (x.map enc)),.pv (.int .i64 err)]]):=Zf.tf (.lit (.lit (.lit (.lit (.lit (.lit (.lit (.lit (.ask (.nil) (.req (.keep (.nil)))))))))))) h (by kernel_rfl)
theorem Tt{G:AV×List AObj×List AObj->Prop}(x:List UInt8)(err:Int)(lo hi most:Int)(z:List UInt8)(e n i:Int)(h:if (decide (i<n))=true then if (e==0)=true then(YA [(.ptr 0 0),(.pv (.int .i64 lo)),(.pv (.int .i64 hi)),(.pv (.int .i64 2))] [(.box [(.pv (.sl 1 false (List.map enc z))),(.pv (.int .i64 e))])])=true∧(At WE 1 (ZC 1 XB G) XD 0 58 [(0,(.ptr 0 0)),(2,(.pv (.int .i64 lo))),(3,(.pv (.int .i64 hi))),(9,(.pv (.sl 1 false (List.map enc x)))),(10,(.pv (.int .i64 n))),(11,(.row 1 1 0 1)),(12,(.pv (.int .i64 (IntKind.wrap IntKind.i64 (i+1)))))] [(.obj (.box [(.pv (.sl 1 false (List.map enc (Prod.fst (Prod.snd (Zc lo hi 2 (Za (PV.sl 1 false (List.map enc z))) e)))))),(.pv (.int .i64 (Prod.snd (Prod.snd (Zc lo hi 2 (Za (PV.sl 1 false (List.map enc z))) e)))))])),(.obj (.row false 3 1 [(.int .i64 (Prod.fst (Zc lo hi 2 (Za (PV.sl 1 false (List.map enc z))) e)))]))])else(if (e != 0)=true then G (((.pv (.sl 0 true [])),([(.box [(.pv (.sl 1 false (List.map enc x))),(.pv (.int .i64 e))])],[])))else(G (((.pv (.sl 0 true [])),([(.box [(.pv (.sl 1 false (List.map enc z))),(.pv (.int .i64 e))])],[])))))else(if (e != 0)=true then G (((.pv (.sl 0 true [])),([(.box [(.pv (.sl 1 false (List.map enc x))),(.pv (.int .i64 e))])],[])))else(G (((.pv (.sl 0 true [])),([(.box [(.pv (.sl 1 false (List.map enc z))),(.pv (.int .i64 e))])],[])))))):At WE 1 (ZC 1 XB G) XD 0 58 [(0,.ptr 0 0),(2,.pv (.int .i64 lo)),(3,.pv (.int .i64 hi)),(9,.pv (.sl 1 false (x.map enc))),(10,.pv (.int .i64 n)),(11,.pv (.sl 0 true [])),(12,.pv (.int .i64 i))] [.obj (.box [.pv (.sl 1 false (z.map enc)),.pv (.int .i64 e)])]:=At.tf (.lit (.ask (.lit (.lit (.lit (.lit (.lit (.lit (.ask (.req (.keep (.lit (.lit (.lit (.lit (.lit (.lit (.nil))))))))) (.lit (.ask (.nil) (.nil)))))))))) (.lit (.lit (.lit (.lit (.lit (.lit (.lit (.ask (.nil) (.nil))))))))))) h (by kernel_rfl)
theorem Pb{G:AV×List AObj×List AObj->Prop}(x:List UInt8)(err:Int)(lo hi most:Int)(z:List UInt8)(e n i:Int)(ts:List Int)(m:Nat)(h:if (decide (i<n))=true then if (e==0)=true then(YA [(.ptr 0 0),(.pv (.int .i64 lo)),(.pv (.int .i64 hi)),(.pv (.int .i64 2))] [(.box [(.pv (.sl 1 false (List.map enc z))),(.pv (.int .i64 e))])])=true∧((List.length (List.map enc ts)==m&&m==m&&decide ((m+List.length (List.drop 0 (List.take 1 [PV.int .i64 (Prod.fst (Zc lo hi 2 (Za (PV.sl 1 false (List.map enc z))) e))])))*8<=1099511627776)&&decide (m+List.length (List.drop 0 (List.take 1 [PV.int .i64 (Prod.fst (Zc lo hi 2 (Za (PV.sl 1 false (List.map enc z))) e))]))<=1099511627776))=true∧(At WE 1 (ZC 1 XB G) XD 0 58 [(0,(.ptr 0 0)),(2,(.pv (.int .i64 lo))),(3,(.pv (.int .i64 hi))),(9,(.pv (.sl 1 false (List.map enc x)))),(10,(.pv (.int .i64 n))),(11,(.row 1 (m+List.length (List.drop 0 (List.take 1 [PV.int .i64 (Prod.fst (Zc lo hi 2 (Za (PV.sl 1 false (List.map enc z))) e))]))) 0 (m+List.length (List.drop 0 (List.take 1 [PV.int .i64 (Prod.fst (Zc lo hi 2 (Za (PV.sl 1 false (List.map enc z))) e))]))))),(12,(.pv (.int .i64 (IntKind.wrap IntKind.i64 (i+1)))))] [(.obj (.box [(.pv (.sl 1 false (List.map enc (Prod.fst (Prod.snd (Zc lo hi 2 (Za (PV.sl 1 false (List.map enc z))) e)))))),(.pv (.int .i64 (Prod.snd (Prod.snd (Zc lo hi 2 (Za (PV.sl 1 false (List.map enc z))) e)))))])),(.obj (.row false 3 1 (List.map enc ts++List.drop 0 (List.take 1 [PV.int .i64 (Prod.fst (Zc lo hi 2 (Za (PV.sl 1 false (List.map enc z))) e))]))))]))else(if (e != 0)=true then G (((.pv (.sl 0 true [])),([(.box [(.pv (.sl 1 false (List.map enc x))),(.pv (.int .i64 e))])],[])))else((List.length (List.map enc ts)==m)=true∧(G (((.pv (.sl 1 false (List.drop 0 (List.take m (List.map enc ts))))),([(.box [(.pv (.sl 1 false (List.map enc z))),(.pv (.int .i64 e))])],[]))))))else(if (e != 0)=true then G (((.pv (.sl 0 true [])),([(.box [(.pv (.sl 1 false (List.map enc x))),(.pv (.int .i64 e))])],[])))else((List.length (List.map enc ts)==m)=true∧(G (((.pv (.sl 1 false (List.drop 0 (List.take m (List.map enc ts))))),([(.box [(.pv (.sl 1 false (List.map enc z))),(.pv (.int .i64 e))])],[]))))))):At WE 1 (ZC 1 XB G) XD 0 58 [(0,.ptr 0 0),(2,.pv (.int .i64 lo)),(3,.pv (.int .i64 hi)),(9,.pv (.sl 1 false (x.map enc))),(10,.pv (.int .i64 n)),(11,.row 1 m 0 m),(12,.pv (.int .i64 i))] [.obj (.box [.pv (.sl 1 false (z.map enc)),.pv (.int .i64 e)]),.obj (.row false 3 1 (ts.map enc))]:=At.tf (.lit (.ask (.lit (.lit (.lit (.lit (.lit (.lit (.ask (.req (.keep (.lit (.lit (.req (.lit (.nil))))))) (.lit (.ask (.nil) (.req (.nil))))))))))) (.lit (.lit (.lit (.lit (.lit (.lit (.lit (.ask (.nil) (.req (.nil)))))))))))) h (by kernel_rfl)
end Go.Pl
namespace Go.Pl
open Go.RowKit
open Enc (enc dec is)
open EncL (encL decL isL)
set_option maxRecDepth 100000
noncomputable def Jb:IC:=Xp Proofs.Tryz.f7
def K9:List IRes:=[(.tmp 4)]
abbrev d3q:Nat:=33
def Dj(N:Nat):ZI:=YN [(30,.own (QF 5) (JM 5)),(31,.pure (preT (fun x:List UInt8×List Int×Unit=>decide ((x.1++encIs x.2.1).length<=1000000))) (Zk (fun x:List UInt8×List Int×Unit=>x.1++encIs x.2.1))),(15,.pure (preT (fun x:List UInt8×Lin×Unit=>decide ((x.1++ZV x.2.1).length<=1000000))) (Zk (fun x:List UInt8×Lin×Unit=>x.1++ZV x.2.1))),(7,.own (fun a o=>Qp 5 a o&&decide (Ji a o<N)) (X6 5))]
theorem d8k{G:AV×List AObj×List AObj->Prop}(N:Nat)(x:List UInt8)(k:Int)(m:List Int)(l:Lin)(ks:List Cert)(h:(QF 5 [(.pv (.sl 1 false (List.map enc x))),(.pv (.int .i64 k))] [])=true∧((List.length (List.map enc (Za (enc x)++encI k))==List.length (Za (enc x)++encI k))=true∧((Go.Pl.preT (fun(x:List UInt8×List Int×Unit)=>decide (List.length (x.1++encIs x.2.1)<=1000000)) [(.sl 1 false (List.drop 0 (List.take (List.length (Za (enc x)++encI k)) (List.map enc (Za (enc x)++encI k))))),(.sl 1 false (List.map enc m))])=true∧(∃ y0:List UInt8,AV.pv (Zk (fun(x:List UInt8×List Int×Unit)=>x.1++encIs x.2.1) [(.sl 1 false (List.drop 0 (List.take (List.length (Za (enc x)++encI k)) (List.map enc (Za (enc x)++encI k))))),(.sl 1 false (List.map enc m))])=AV.pv (enc y0)∧((Go.Pl.preT (fun(x:List UInt8×Lin×Unit)=>decide (List.length (x.1++ZV x.2.1)<=1000000)) [(.sl 1 false (List.map enc y0)),(.agg [(.int .i64 l.k),(.sl 2 false (List.map enc l.t))])])=true∧(∃ y1:List UInt8,AV.pv (Zk (fun(x:List UInt8×Lin×Unit)=>x.1++ZV x.2.1) [(.sl 1 false (List.map enc y0)),(.agg [(.int .i64 l.k),(.sl 2 false (List.map enc l.t))])])=AV.pv (enc y1)∧((QF 5 [(.pv (.sl 1 false (List.map enc y1))),(.pv (.int .i64 (↑(List.length (List.map enc ks)):Int)))] [])=true∧(At (Dj N) 0 (Zj 0 K9 G) Jb 0 33 [(0,(.row 0 (List.length (Za (enc y1)++encI (↑(List.length (List.map enc ks)):Int))) 0 (List.length (Za (enc y1)++encI (↑(List.length (List.map enc ks)):Int))))),(22,(.pv (.sl 5 false (List.map enc ks)))),(23,(.pv (.int .i64 (↑(List.length (List.map enc ks)):Int)))),(24,(.pv (.int .i64 0)))] [(.obj (.row false 5 1 (List.map enc (Za (enc y1)++encI (↑(List.length (List.map enc ks)):Int)))))])))))))):Zf (Dj N) 0 (Zj 0 K9 G) Jb [] (ZN 33 [.pv (enc x),.pv (.agg [enc k,enc m,enc l.k,enc l.t,enc ks])] []):=Zf.to (.req (.keep (.req (.req (.abs (List UInt8) (fun YY=>AV.pv (enc YY)) (.req (.abs (List UInt8) (fun YY=>AV.pv (enc YY)) (.req (.keep (.nil)))))))))) h (by kernel_rfl)
theorem b0m{G:AV×List AObj×List AObj->Prop}(N:Nat)(x:List UInt8)(k:Int)(m:List Int)(l:Lin)(ks:List Cert)(y:List UInt8)(q:Nat)(i:Int)(h:if (decide (i<(↑(List.length ks):Int)))=true then(decide (0<=i)&&decide (Int.toNat i<List.length (List.map enc ks))&&Enc.sz Cert==5)=true∧(∃ y0:Cert,AV.pv (PV.rptr (PV.cells (List.getD (List.map enc ks) (Int.toNat i) default)))=AV.pv (PV.rptr (PV.cells ((enc) y0)))∧((decide (0+List.length [Sh.int .i64,Sh.sl 1,Sh.int .i64,Sh.sl 2,Sh.sl 5]<=List.length (PV.cells (enc y0)))&&Xu (PV.cells (enc y0)) 0 [Sh.int .i64,Sh.sl 1,Sh.int .i64,Sh.sl 2,Sh.sl 5])=true∧((Qp 5 [AV.row 0 q 0 q,AV.pv (PV.agg [Sh.co (Sh.int .i64) (List.getD (PV.cells (enc y0)) 0 default),Sh.co (Sh.sl 1) (List.getD (PV.cells (enc y0)) (0+1) default),Sh.co (Sh.int .i64) (List.getD (PV.cells (enc y0)) (0+1+1) default),Sh.co (Sh.sl 2) (List.getD (PV.cells (enc y0)) (0+1+1+1) default),Sh.co (Sh.sl 5) (List.getD (PV.cells (enc y0)) (0+1+1+1+1) default)])] [Prod.snd (0,AObj.row false 5 1 (List.map enc y))]&&decide (Ji [AV.row 0 q 0 q,AV.pv (PV.agg [Sh.co (Sh.int .i64) (List.getD (PV.cells (enc y0)) 0 default),Sh.co (Sh.sl 1) (List.getD (PV.cells (enc y0)) (0+1) default),Sh.co (Sh.int .i64) (List.getD (PV.cells (enc y0)) (0+1+1) default),Sh.co (Sh.sl 2) (List.getD (PV.cells (enc y0)) (0+1+1+1) default),Sh.co (Sh.sl 5) (List.getD (PV.cells (enc y0)) (0+1+1+1+1) default)])] [Prod.snd (0,AObj.row false 5 1 (List.map enc y))]<N))=true∧(At (Dj N) 0 (Zj 0 K9 G) Jb 0 33 [(0,(.row 0 (List.length (Za (PV.sl 1 false (List.map enc y))++encC (dec (PV.agg [Sh.co (Sh.int .i64) (List.getD (PV.cells (enc y0)) 0 default),Sh.co (Sh.sl 1) (List.getD (PV.cells (enc y0)) (0+1) default),Sh.co (Sh.int .i64) (List.getD (PV.cells (enc y0)) (0+1+1) default),Sh.co (Sh.sl 2) (List.getD (PV.cells (enc y0)) (0+1+1+1) default),Sh.co (Sh.sl 5) (List.getD (PV.cells (enc y0)) (0+1+1+1+1) default)])))) 0 (List.length (Za (PV.sl 1 false (List.map enc y))++encC (dec (PV.agg [Sh.co (Sh.int .i64) (List.getD (PV.cells (enc y0)) 0 default),Sh.co (Sh.sl 1) (List.getD (PV.cells (enc y0)) (0+1) default),Sh.co (Sh.int .i64) (List.getD (PV.cells (enc y0)) (0+1+1) default),Sh.co (Sh.sl 2) (List.getD (PV.cells (enc y0)) (0+1+1+1) default),Sh.co (Sh.sl 5) (List.getD (PV.cells (enc y0)) (0+1+1+1+1) default)])))))),(22,(.pv (.sl 5 false (List.map enc ks)))),(23,(.pv (.int .i64 (↑(List.length ks):Int)))),(24,(.pv (.int .i64 (IntKind.wrap IntKind.i64 (i+1)))))] [(.obj (.row false 5 1 (List.map enc (Za (PV.sl 1 false (List.map enc y))++encC (dec (PV.agg [Sh.co (Sh.int .i64) (List.getD (PV.cells (enc y0)) 0 default),Sh.co (Sh.sl 1) (List.getD (PV.cells (enc y0)) (0+1) default),Sh.co (Sh.int .i64) (List.getD (PV.cells (enc y0)) (0+1+1) default),Sh.co (Sh.sl 2) (List.getD (PV.cells (enc y0)) (0+1+1+1) default),Sh.co (Sh.sl 5) (List.getD (PV.cells (enc y0)) (0+1+1+1+1) default)]))))))]))))else(G (((.row 0 q 0 q),([],[(.row false 5 1 (List.map enc y))]))))):At (Dj N) 0 (Zj 0 K9 G) Jb 0 33 [(0,.row 0 q 0 q),(22,.pv (enc ks)),(23,.pv (.int .i64 ks.length)),(24,.pv (.int .i64 i))] [.obj (.row false 5 1 (y.map enc))]:=At.to (.lit (.ask (.req (.abs (Cert) (fun YY=>AV.pv (PV.rptr (PV.cells ((enc) YY)))) (.req (.req (.keep (.lit (.nil))))))) (.nil))) h (by kernel_rfl)
noncomputable def UK:IC:=Xp Proofs.Tryz.f9
def UH:List IRes:=[(.tmp 4)]
abbrev c3t:Nat:=37
def QQ(N:Nat):ZI:=YN [(33,.pure (preT (fun x:List UInt8×Int×Unit=>decide (x.1.length<=1000000))) (Zk (fun x:List UInt8×Int×Unit=>x.1++encI x.2.1))),(32,.pure (preT (fun x:List UInt8×List Int×Unit=>decide ((x.1++encIs x.2.1).length<=1000000))) (Zk (fun x:List UInt8×List Int×Unit=>x.1++encIs x.2.1))),(16,.pure (preT (fun x:List UInt8×Lin×Unit=>decide ((x.1++ZV x.2.1).length<=1000000))) (Zk (fun x:List UInt8×Lin×Unit=>x.1++ZV x.2.1))),(9,.pure (preT (fun x:List UInt8×Cert×Unit=>(Y8 x.2.1&&decide ((x.1++encC x.2.1).length<=1000000))&&decide (ZL x.2.1<N))) (Zk (fun x:List UInt8×Cert×Unit=>x.1++encC x.2.1)))]
theorem d0s{G:PV->Prop}(N:Nat)(x:List UInt8)(k:Int)(m:List Int)(l:Lin)(ks:List Cert)(h:(Go.Pl.preT (fun(x:List UInt8×Int×Unit)=>decide (List.length x.1<=1000000)) [(.sl 1 false (List.map enc x)),(.int .i64 k)])=true∧(∃ y0:List UInt8,AV.pv (Zk (fun(x:List UInt8×Int×Unit)=>x.1++encI x.2.1) [(.sl 1 false (List.map enc x)),(.int .i64 k)])=AV.pv (enc y0)∧((Go.Pl.preT (fun(x:List UInt8×List Int×Unit)=>decide (List.length (x.1++encIs x.2.1)<=1000000)) [(.sl 1 false (List.map enc y0)),(.sl 1 false (List.map enc m))])=true∧(∃ y1:List UInt8,AV.pv (Zk (fun(x:List UInt8×List Int×Unit)=>x.1++encIs x.2.1) [(.sl 1 false (List.map enc y0)),(.sl 1 false (List.map enc m))])=AV.pv (enc y1)∧((Go.Pl.preT (fun(x:List UInt8×Lin×Unit)=>decide (List.length (x.1++ZV x.2.1)<=1000000)) [(.sl 1 false (List.map enc y1)),(.agg [(.int .i64 l.k),(.sl 2 false (List.map enc l.t))])])=true∧(∃ y2:List UInt8,AV.pv (Zk (fun(x:List UInt8×Lin×Unit)=>x.1++ZV x.2.1) [(.sl 1 false (List.map enc y1)),(.agg [(.int .i64 l.k),(.sl 2 false (List.map enc l.t))])])=AV.pv (enc y2)∧((Go.Pl.preT (fun(x:List UInt8×Int×Unit)=>decide (List.length x.1<=1000000)) [(.sl 1 false (List.map enc y2)),(.int .i64 (↑(List.length (List.map enc ks)):Int))])=true∧(∃ y3:List UInt8,AV.pv (Zk (fun(x:List UInt8×Int×Unit)=>x.1++encI x.2.1) [(.sl 1 false (List.map enc y2)),(.int .i64 (↑(List.length (List.map enc ks)):Int))])=AV.pv (enc y3)∧(At (QQ N) 0 (Ze UH G) UK 0 37 [(3,(.ptr 0 0)),(5,(.pv (.sl 1 false (List.map enc y3)))),(6,(.pv (.int .i64 0)))] [(.obj (.box [(.pv (.int .i64 k)),(.pv (.sl 1 false (List.map enc m))),(.pv (.int .i64 l.k)),(.pv (.sl 2 false (List.map enc l.t))),(.pv (.sl 5 false (List.map enc ks)))]))]))))))))):Zf (QQ N) 0 (Ze UH G) UK [] (Yp 37 [enc x,.agg [enc k,enc m,enc l.k,enc l.t,enc ks]]):=Zf.tp (.req (.abs (List UInt8) (fun YY=>AV.pv (enc YY)) (.req (.abs (List UInt8) (fun YY=>AV.pv (enc YY)) (.req (.abs (List UInt8) (fun YY=>AV.pv (enc YY)) (.req (.abs (List UInt8) (fun YY=>AV.pv (enc YY)) (.nil))))))))) h (by kernel_rfl)
theorem a0t{G:PV->Prop}(N:Nat)(x:List UInt8)(k:Int)(m:List Int)(l:Lin)(ks:List Cert)(y:List UInt8)(i:Int)(h:if (decide (i<(↑(List.length (List.map enc ks)):Int)))=true then(decide (0<=i)&&decide (Int.toNat i<List.length (List.map enc ks))&&Enc.sz Cert==5)=true∧(∃ y0:Cert,AV.pv (PV.rptr (PV.cells (List.getD (List.map enc ks) (Int.toNat i) default)))=AV.pv (PV.rptr (PV.cells ((enc) y0)))∧((decide (0+List.length [Sh.int .i64,Sh.sl 1,Sh.int .i64,Sh.sl 2,Sh.sl 5]<=List.length (PV.cells (enc y0)))&&Xu (PV.cells (enc y0)) 0 [Sh.int .i64,Sh.sl 1,Sh.int .i64,Sh.sl 2,Sh.sl 5])=true∧((Go.Pl.preT (fun(x:List UInt8×Cert×Unit)=>Y8 x.2.1&&decide (List.length (x.1++encC x.2.1)<=1000000)&&decide (ZL x.2.1<N)) [(.sl 1 false (List.map enc y)),(.agg [(.int .i64 (PV.asInt (List.getD (PV.cells (enc y0)) 0 default))),(.sl 1 (PV.asT (List.getD (PV.cells (enc y0)) (0+1) default)) (PV.asXs (List.getD (PV.cells (enc y0)) (0+1) default))),(.int .i64 (PV.asInt (List.getD (PV.cells (enc y0)) (0+1+1) default))),(.sl 2 (PV.asT (List.getD (PV.cells (enc y0)) (0+1+1+1) default)) (PV.asXs (List.getD (PV.cells (enc y0)) (0+1+1+1) default))),(.sl 5 (PV.asT (List.getD (PV.cells (enc y0)) (0+1+1+1+1) default)) (PV.asXs (List.getD (PV.cells (enc y0)) (0+1+1+1+1) default)))])])=true∧(∃ y1:List UInt8,AV.pv (Zk (fun(x:List UInt8×Cert×Unit)=>x.1++encC x.2.1) [(.sl 1 false (List.map enc y)),(.agg [(.int .i64 (PV.asInt (List.getD (PV.cells (enc y0)) 0 default))),(.sl 1 (PV.asT (List.getD (PV.cells (enc y0)) (0+1) default)) (PV.asXs (List.getD (PV.cells (enc y0)) (0+1) default))),(.int .i64 (PV.asInt (List.getD (PV.cells (enc y0)) (0+1+1) default))),(.sl 2 (PV.asT (List.getD (PV.cells (enc y0)) (0+1+1+1) default)) (PV.asXs (List.getD (PV.cells (enc y0)) (0+1+1+1) default))),(.sl 5 (PV.asT (List.getD (PV.cells (enc y0)) (0+1+1+1+1) default)) (PV.asXs (List.getD (PV.cells (enc y0)) (0+1+1+1+1) default)))])])=AV.pv (enc y1)∧(At (QQ N) 0 (Ze UH G) UK 0 37 [(3,(.ptr 0 0)),(5,(.pv (.sl 1 false (List.map enc y1)))),(6,(.pv (.int .i64 (IntKind.wrap IntKind.i64 (i+1)))))] [(.obj (.box [(.pv (.int .i64 k)),(.pv (.sl 1 false (List.map enc m))),(.pv (.int .i64 l.k)),(.pv (.sl 2 false (List.map enc l.t))),(.pv (.sl 5 false (List.map enc ks)))]))])))))else(G ((.sl 1 false (List.map enc y))))):At (QQ N) 0 (Ze UH G) UK 0 37 [(3,.ptr 0 0),(5,.pv (enc y)),(6,.pv (.int .i64 i))] [.obj (.box [.pv (enc k),.pv (enc m),.pv (enc l.k),.pv (enc l.t),.pv (enc ks)])]:=At.tp (.lit (.ask (.req (.abs (Cert) (fun YY=>AV.pv (PV.rptr (PV.cells ((enc) YY)))) (.req (.req (.abs (List UInt8) (fun YY=>AV.pv (enc YY)) (.lit (.nil))))))) (.nil))) h (by kernel_rfl)
noncomputable def XU:IC:=Xp Proofs.Tryz.f34
def XR:List IRes:=[(.cell true 5 4)]
abbrev d1d:Nat:=73
def Vr(N:Nat):ZI:=YN [(45,.own Z5 VL),(65,.own Xg Uh),(17,.own ZZ Js),(34,.own (fun a o=>YE a o&&decide (WQ false a o<N)) (VU false))]
theorem d5v{G:AV×List AObj×List AObj->Prop}(N:Nat)(x:List UInt8)(n:Int)(h:if (decide (IntKind.wrap IntKind.i64 (n+1)>1000))=true then(Z5 [(.ptr 0 0),(.pv (.int .i64 1)),(.pv (.int .i64 3))] [(.box [(.pv (.sl 1 false (List.map enc x))),(.pv (.int .i64 3))])])=true∧((Xg [(.ptr 0 0),(.pv (.int .i64 1100)),(.pv (.int .i64 (-1000000000))),(.pv (.int .i64 1000000000))] [(.box [(.pv (.sl 1 false (List.map enc (Prod.fst (Prod.snd (Zc 1 3 2 (Za (PV.sl 1 false (List.map enc x))) 3)))))),(.pv (.int .i64 (Prod.snd (Prod.snd (Zc 1 3 2 (Za (PV.sl 1 false (List.map enc x))) 3)))))])])=true∧((ZZ [(.ptr 0 0)] [(.box [(.pv (.sl 1 false (List.map enc (Prod.fst (Prod.snd (Zg 1100 (-1000000000:Int) 1000000000 (Za (PV.sl 1 false (List.map enc (Prod.fst (Prod.snd (Zc 1 3 2 (Za (PV.sl 1 false (List.map enc x))) 3)))))) (Prod.snd (Prod.snd (Zc 1 3 2 (Za (PV.sl 1 false (List.map enc x))) 3))))))))),(.pv (.int .i64 (Prod.snd (Prod.snd (Zg 1100 (-1000000000:Int) 1000000000 (Za (PV.sl 1 false (List.map enc (Prod.fst (Prod.snd (Zc 1 3 2 (Za (PV.sl 1 false (List.map enc x))) 3)))))) (Prod.snd (Prod.snd (Zc 1 3 2 (Za (PV.sl 1 false (List.map enc x))) 3))))))))])])=true∧((Z5 [(.ptr 0 0),(.pv (.int .i64 (-9223372036854775808))),(.pv (.int .i64 9223372036854775807))] [(.box [(.pv (.sl 1 false (List.map enc (Prod.fst (Prod.snd (Zp (Za (PV.sl 1 false (List.map enc (Prod.fst (Prod.snd (Zg 1100 (-1000000000:Int) 1000000000 (Za (PV.sl 1 false (List.map enc (Prod.fst (Prod.snd (Zc 1 3 2 (Za (PV.sl 1 false (List.map enc x))) 3)))))) (Prod.snd (Prod.snd (Zc 1 3 2 (Za (PV.sl 1 false (List.map enc x))) 3))))))))) (Prod.snd (Prod.snd (Zg 1100 (-1000000000:Int) 1000000000 (Za (PV.sl 1 false (List.map enc (Prod.fst (Prod.snd (Zc 1 3 2 (Za (PV.sl 1 false (List.map enc x))) 3)))))) (Prod.snd (Prod.snd (Zc 1 3 2 (Za (PV.sl 1 false (List.map enc x))) 3)))))))))))),(.pv (.int .i64 (Prod.snd (Prod.snd (Zp (Za (PV.sl 1 false (List.map enc (Prod.fst (Prod.snd (Zg 1100 (-1000000000:Int) 1000000000 (Za (PV.sl 1 false (List.map enc (Prod.fst (Prod.snd (Zc 1 3 2 (Za (PV.sl 1 false (List.map enc x))) 3)))))) (Prod.snd (Prod.snd (Zc 1 3 2 (Za (PV.sl 1 false (List.map enc x))) 3))))))))) (Prod.snd (Prod.snd (Zg 1100 (-1000000000:Int) 1000000000 (Za (PV.sl 1 false (List.map enc (Prod.fst (Prod.snd (Zc 1 3 2 (Za (PV.sl 1 false (List.map enc x))) 3)))))) (Prod.snd (Prod.snd (Zc 1 3 2 (Za (PV.sl 1 false (List.map enc x))) 3)))))))))))])])=true∧(At (Vr N) 2 (ZC 2 XR G) XU 0 73 [(0,(.ptr 0 0)),(1,(.ptr 1 0)),(4,(.ptr 2 0)),(5,(.ptr 3 0)),(6,(.pv (.int .i64 (Prod.fst (Zc (-9223372036854775808:Int) 9223372036854775807 2 (Za (PV.sl 1 false (List.map enc (Prod.fst (Prod.snd (Zp (Za (PV.sl 1 false (List.map enc (Prod.fst (Prod.snd (Zg 1100 (-1000000000:Int) 1000000000 (Za (PV.sl 1 false (List.map enc (Prod.fst (Prod.snd (Zc 1 3 2 (Za (PV.sl 1 false (List.map enc x))) 3)))))) (Prod.snd (Prod.snd (Zc 1 3 2 (Za (PV.sl 1 false (List.map enc x))) 3))))))))) (Prod.snd (Prod.snd (Zg 1100 (-1000000000:Int) 1000000000 (Za (PV.sl 1 false (List.map enc (Prod.fst (Prod.snd (Zc 1 3 2 (Za (PV.sl 1 false (List.map enc x))) 3)))))) (Prod.snd (Prod.snd (Zc 1 3 2 (Za (PV.sl 1 false (List.map enc x))) 3)))))))))))) (Prod.snd (Prod.snd (Zp (Za (PV.sl 1 false (List.map enc (Prod.fst (Prod.snd (Zg 1100 (-1000000000:Int) 1000000000 (Za (PV.sl 1 false (List.map enc (Prod.fst (Prod.snd (Zc 1 3 2 (Za (PV.sl 1 false (List.map enc x))) 3)))))) (Prod.snd (Prod.snd (Zc 1 3 2 (Za (PV.sl 1 false (List.map enc x))) 3))))))))) (Prod.snd (Prod.snd (Zg 1100 (-1000000000:Int) 1000000000 (Za (PV.sl 1 false (List.map enc (Prod.fst (Prod.snd (Zc 1 3 2 (Za (PV.sl 1 false (List.map enc x))) 3)))))) (Prod.snd (Prod.snd (Zc 1 3 2 (Za (PV.sl 1 false (List.map enc x))) 3)))))))))))))),(7,(.pv (.int .i64 0)))] [(.obj (.box [(.pv (.sl 1 false (List.map enc (Prod.fst (Prod.snd (Zc (-9223372036854775808:Int) 9223372036854775807 2 (Za (PV.sl 1 false (List.map enc (Prod.fst (Prod.snd (Zp (Za (PV.sl 1 false (List.map enc (Prod.fst (Prod.snd (Zg 1100 (-1000000000:Int) 1000000000 (Za (PV.sl 1 false (List.map enc (Prod.fst (Prod.snd (Zc 1 3 2 (Za (PV.sl 1 false (List.map enc x))) 3)))))) (Prod.snd (Prod.snd (Zc 1 3 2 (Za (PV.sl 1 false (List.map enc x))) 3))))))))) (Prod.snd (Prod.snd (Zg 1100 (-1000000000:Int) 1000000000 (Za (PV.sl 1 false (List.map enc (Prod.fst (Prod.snd (Zc 1 3 2 (Za (PV.sl 1 false (List.map enc x))) 3)))))) (Prod.snd (Prod.snd (Zc 1 3 2 (Za (PV.sl 1 false (List.map enc x))) 3)))))))))))) (Prod.snd (Prod.snd (Zp (Za (PV.sl 1 false (List.map enc (Prod.fst (Prod.snd (Zg 1100 (-1000000000:Int) 1000000000 (Za (PV.sl 1 false (List.map enc (Prod.fst (Prod.snd (Zc 1 3 2 (Za (PV.sl 1 false (List.map enc x))) 3)))))) (Prod.snd (Prod.snd (Zc 1 3 2 (Za (PV.sl 1 false (List.map enc x))) 3))))))))) (Prod.snd (Prod.snd (Zg 1100 (-1000000000:Int) 1000000000 (Za (PV.sl 1 false (List.map enc (Prod.fst (Prod.snd (Zc 1 3 2 (Za (PV.sl 1 false (List.map enc x))) 3)))))) (Prod.snd (Prod.snd (Zc 1 3 2 (Za (PV.sl 1 false (List.map enc x))) 3))))))))))))))),(.pv (.int .i64 (Prod.snd (Prod.snd (Zc (-9223372036854775808:Int) 9223372036854775807 2 (Za (PV.sl 1 false (List.map enc (Prod.fst (Prod.snd (Zp (Za (PV.sl 1 false (List.map enc (Prod.fst (Prod.snd (Zg 1100 (-1000000000:Int) 1000000000 (Za (PV.sl 1 false (List.map enc (Prod.fst (Prod.snd (Zc 1 3 2 (Za (PV.sl 1 false (List.map enc x))) 3)))))) (Prod.snd (Prod.snd (Zc 1 3 2 (Za (PV.sl 1 false (List.map enc x))) 3))))))))) (Prod.snd (Prod.snd (Zg 1100 (-1000000000:Int) 1000000000 (Za (PV.sl 1 false (List.map enc (Prod.fst (Prod.snd (Zc 1 3 2 (Za (PV.sl 1 false (List.map enc x))) 3)))))) (Prod.snd (Prod.snd (Zc 1 3 2 (Za (PV.sl 1 false (List.map enc x))) 3)))))))))))) (Prod.snd (Prod.snd (Zp (Za (PV.sl 1 false (List.map enc (Prod.fst (Prod.snd (Zg 1100 (-1000000000:Int) 1000000000 (Za (PV.sl 1 false (List.map enc (Prod.fst (Prod.snd (Zc 1 3 2 (Za (PV.sl 1 false (List.map enc x))) 3)))))) (Prod.snd (Prod.snd (Zc 1 3 2 (Za (PV.sl 1 false (List.map enc x))) 3))))))))) (Prod.snd (Prod.snd (Zg 1100 (-1000000000:Int) 1000000000 (Za (PV.sl 1 false (List.map enc (Prod.fst (Prod.snd (Zc 1 3 2 (Za (PV.sl 1 false (List.map enc x))) 3)))))) (Prod.snd (Prod.snd (Zc 1 3 2 (Za (PV.sl 1 false (List.map enc x))) 3))))))))))))))])),(.obj (.box [(.pv (.int .i64 (IntKind.wrap IntKind.i64 (n+1))))])),(.obj (.box [(.pv (.int .i64 0)),(.pv (.sl 0 true [])),(.pv (.int .i64 0)),(.pv (.sl 0 true [])),(.pv (.sl 0 true []))])),(.obj (.box [(.pv (.int .i64 (Prod.fst (Zc 1 3 2 (Za (PV.sl 1 false (List.map enc x))) 3)))),(.pv (.sl 1 false (List.map enc (Prod.fst (Zg 1100 (-1000000000:Int) 1000000000 (Za (PV.sl 1 false (List.map enc (Prod.fst (Prod.snd (Zc 1 3 2 (Za (PV.sl 1 false (List.map enc x))) 3)))))) (Prod.snd (Prod.snd (Zc 1 3 2 (Za (PV.sl 1 false (List.map enc x))) 3)))))))),(.pv (.int .i64 (Lin.k (Prod.fst (Zp (Za (PV.sl 1 false (List.map enc (Prod.fst (Prod.snd (Zg 1100 (-1000000000:Int) 1000000000 (Za (PV.sl 1 false (List.map enc (Prod.fst (Prod.snd (Zc 1 3 2 (Za (PV.sl 1 false (List.map enc x))) 3)))))) (Prod.snd (Prod.snd (Zc 1 3 2 (Za (PV.sl 1 false (List.map enc x))) 3))))))))) (Prod.snd (Prod.snd (Zg 1100 (-1000000000:Int) 1000000000 (Za (PV.sl 1 false (List.map enc (Prod.fst (Prod.snd (Zc 1 3 2 (Za (PV.sl 1 false (List.map enc x))) 3)))))) (Prod.snd (Prod.snd (Zc 1 3 2 (Za (PV.sl 1 false (List.map enc x))) 3))))))))))),(.pv (.sl 2 false (List.map enc (Lin.t (Prod.fst (Zp (Za (PV.sl 1 false (List.map enc (Prod.fst (Prod.snd (Zg 1100 (-1000000000:Int) 1000000000 (Za (PV.sl 1 false (List.map enc (Prod.fst (Prod.snd (Zc 1 3 2 (Za (PV.sl 1 false (List.map enc x))) 3)))))) (Prod.snd (Prod.snd (Zc 1 3 2 (Za (PV.sl 1 false (List.map enc x))) 3))))))))) (Prod.snd (Prod.snd (Zg 1100 (-1000000000:Int) 1000000000 (Za (PV.sl 1 false (List.map enc (Prod.fst (Prod.snd (Zc 1 3 2 (Za (PV.sl 1 false (List.map enc x))) 3)))))) (Prod.snd (Prod.snd (Zc 1 3 2 (Za (PV.sl 1 false (List.map enc x))) 3)))))))))))),(.pv (.sl 0 true []))]))]))))else((Z5 [(.ptr 0 0),(.pv (.int .i64 1)),(.pv (.int .i64 3))] [(.box [(.pv (.sl 1 false (List.map enc x))),(.pv (.int .i64 0))])])=true∧((Xg [(.ptr 0 0),(.pv (.int .i64 1100)),(.pv (.int .i64 (-1000000000))),(.pv (.int .i64 1000000000))] [(.box [(.pv (.sl 1 false (List.map enc (Prod.fst (Prod.snd (Zc 1 3 2 (Za (PV.sl 1 false (List.map enc x))) 0)))))),(.pv (.int .i64 (Prod.snd (Prod.snd (Zc 1 3 2 (Za (PV.sl 1 false (List.map enc x))) 0)))))])])=true∧((ZZ [(.ptr 0 0)] [(.box [(.pv (.sl 1 false (List.map enc (Prod.fst (Prod.snd (Zg 1100 (-1000000000:Int) 1000000000 (Za (PV.sl 1 false (List.map enc (Prod.fst (Prod.snd (Zc 1 3 2 (Za (PV.sl 1 false (List.map enc x))) 0)))))) (Prod.snd (Prod.snd (Zc 1 3 2 (Za (PV.sl 1 false (List.map enc x))) 0))))))))),(.pv (.int .i64 (Prod.snd (Prod.snd (Zg 1100 (-1000000000:Int) 1000000000 (Za (PV.sl 1 false (List.map enc (Prod.fst (Prod.snd (Zc 1 3 2 (Za (PV.sl 1 false (List.map enc x))) 0)))))) (Prod.snd (Prod.snd (Zc 1 3 2 (Za (PV.sl 1 false (List.map enc x))) 0))))))))])])=true∧((Z5 [(.ptr 0 0),(.pv (.int .i64 (-9223372036854775808))),(.pv (.int .i64 9223372036854775807))] [(.box [(.pv (.sl 1 false (List.map enc (Prod.fst (Prod.snd (Zp (Za (PV.sl 1 false (List.map enc (Prod.fst (Prod.snd (Zg 1100 (-1000000000:Int) 1000000000 (Za (PV.sl 1 false (List.map enc (Prod.fst (Prod.snd (Zc 1 3 2 (Za (PV.sl 1 false (List.map enc x))) 0)))))) (Prod.snd (Prod.snd (Zc 1 3 2 (Za (PV.sl 1 false (List.map enc x))) 0))))))))) (Prod.snd (Prod.snd (Zg 1100 (-1000000000:Int) 1000000000 (Za (PV.sl 1 false (List.map enc (Prod.fst (Prod.snd (Zc 1 3 2 (Za (PV.sl 1 false (List.map enc x))) 0)))))) (Prod.snd (Prod.snd (Zc 1 3 2 (Za (PV.sl 1 false (List.map enc x))) 0)))))))))))),(.pv (.int .i64 (Prod.snd (Prod.snd (Zp (Za (PV.sl 1 false (List.map enc (Prod.fst (Prod.snd (Zg 1100 (-1000000000:Int) 1000000000 (Za (PV.sl 1 false (List.map enc (Prod.fst (Prod.snd (Zc 1 3 2 (Za (PV.sl 1 false (List.map enc x))) 0)))))) (Prod.snd (Prod.snd (Zc 1 3 2 (Za (PV.sl 1 false (List.map enc x))) 0))))))))) (Prod.snd (Prod.snd (Zg 1100 (-1000000000:Int) 1000000000 (Za (PV.sl 1 false (List.map enc (Prod.fst (Prod.snd (Zc 1 3 2 (Za (PV.sl 1 false (List.map enc x))) 0)))))) (Prod.snd (Prod.snd (Zc 1 3 2 (Za (PV.sl 1 false (List.map enc x))) 0)))))))))))])])=true∧(if (Prod.snd (Prod.snd (Zc (-9223372036854775808:Int) 9223372036854775807 2 (Za (PV.sl 1 false (List.map enc (Prod.fst (Prod.snd (Zp (Za (PV.sl 1 false (List.map enc (Prod.fst (Prod.snd (Zg 1100 (-1000000000:Int) 1000000000 (Za (PV.sl 1 false (List.map enc (Prod.fst (Prod.snd (Zc 1 3 2 (Za (PV.sl 1 false (List.map enc x))) 0)))))) (Prod.snd (Prod.snd (Zc 1 3 2 (Za (PV.sl 1 false (List.map enc x))) 0))))))))) (Prod.snd (Prod.snd (Zg 1100 (-1000000000:Int) 1000000000 (Za (PV.sl 1 false (List.map enc (Prod.fst (Prod.snd (Zc 1 3 2 (Za (PV.sl 1 false (List.map enc x))) 0)))))) (Prod.snd (Prod.snd (Zc 1 3 2 (Za (PV.sl 1 false (List.map enc x))) 0)))))))))))) (Prod.snd (Prod.snd (Zp (Za (PV.sl 1 false (List.map enc (Prod.fst (Prod.snd (Zg 1100 (-1000000000:Int) 1000000000 (Za (PV.sl 1 false (List.map enc (Prod.fst (Prod.snd (Zc 1 3 2 (Za (PV.sl 1 false (List.map enc x))) 0)))))) (Prod.snd (Prod.snd (Zc 1 3 2 (Za (PV.sl 1 false (List.map enc x))) 0))))))))) (Prod.snd (Prod.snd (Zg 1100 (-1000000000:Int) 1000000000 (Za (PV.sl 1 false (List.map enc (Prod.fst (Prod.snd (Zc 1 3 2 (Za (PV.sl 1 false (List.map enc x))) 0)))))) (Prod.snd (Prod.snd (Zc 1 3 2 (Za (PV.sl 1 false (List.map enc x))) 0)))))))))))==0)=true then if (decide (Prod.fst (Zc (-9223372036854775808:Int) 9223372036854775807 2 (Za (PV.sl 1 false (List.map enc (Prod.fst (Prod.snd (Zp (Za (PV.sl 1 false (List.map enc (Prod.fst (Prod.snd (Zg 1100 (-1000000000:Int) 1000000000 (Za (PV.sl 1 false (List.map enc (Prod.fst (Prod.snd (Zc 1 3 2 (Za (PV.sl 1 false (List.map enc x))) 0)))))) (Prod.snd (Prod.snd (Zc 1 3 2 (Za (PV.sl 1 false (List.map enc x))) 0))))))))) (Prod.snd (Prod.snd (Zg 1100 (-1000000000:Int) 1000000000 (Za (PV.sl 1 false (List.map enc (Prod.fst (Prod.snd (Zc 1 3 2 (Za (PV.sl 1 false (List.map enc x))) 0)))))) (Prod.snd (Prod.snd (Zc 1 3 2 (Za (PV.sl 1 false (List.map enc x))) 0)))))))))))) (Prod.snd (Prod.snd (Zp (Za (PV.sl 1 false (List.map enc (Prod.fst (Prod.snd (Zg 1100 (-1000000000:Int) 1000000000 (Za (PV.sl 1 false (List.map enc (Prod.fst (Prod.snd (Zc 1 3 2 (Za (PV.sl 1 false (List.map enc x))) 0)))))) (Prod.snd (Prod.snd (Zc 1 3 2 (Za (PV.sl 1 false (List.map enc x))) 0))))))))) (Prod.snd (Prod.snd (Zg 1100 (-1000000000:Int) 1000000000 (Za (PV.sl 1 false (List.map enc (Prod.fst (Prod.snd (Zc 1 3 2 (Za (PV.sl 1 false (List.map enc x))) 0)))))) (Prod.snd (Prod.snd (Zc 1 3 2 (Za (PV.sl 1 false (List.map enc x))) 0))))))))))<0))=true then At (Vr N) 2 (ZC 2 XR G) XU 0 73 [(0,(.ptr 0 0)),(1,(.ptr 1 0)),(4,(.ptr 2 0)),(5,(.ptr 3 0)),(6,(.pv (.int .i64 (Prod.fst (Zc (-9223372036854775808:Int) 9223372036854775807 2 (Za (PV.sl 1 false (List.map enc (Prod.fst (Prod.snd (Zp (Za (PV.sl 1 false (List.map enc (Prod.fst (Prod.snd (Zg 1100 (-1000000000:Int) 1000000000 (Za (PV.sl 1 false (List.map enc (Prod.fst (Prod.snd (Zc 1 3 2 (Za (PV.sl 1 false (List.map enc x))) 0)))))) (Prod.snd (Prod.snd (Zc 1 3 2 (Za (PV.sl 1 false (List.map enc x))) 0))))))))) (Prod.snd (Prod.snd (Zg 1100 (-1000000000:Int) 1000000000 (Za (PV.sl 1 false (List.map enc (Prod.fst (Prod.snd (Zc 1 3 2 (Za (PV.sl 1 false (List.map enc x))) 0)))))) (Prod.snd (Prod.snd (Zc 1 3 2 (Za (PV.sl 1 false (List.map enc x))) 0)))))))))))) (Prod.snd (Prod.snd (Zp (Za (PV.sl 1 false (List.map enc (Prod.fst (Prod.snd (Zg 1100 (-1000000000:Int) 1000000000 (Za (PV.sl 1 false (List.map enc (Prod.fst (Prod.snd (Zc 1 3 2 (Za (PV.sl 1 false (List.map enc x))) 0)))))) (Prod.snd (Prod.snd (Zc 1 3 2 (Za (PV.sl 1 false (List.map enc x))) 0))))))))) (Prod.snd (Prod.snd (Zg 1100 (-1000000000:Int) 1000000000 (Za (PV.sl 1 false (List.map enc (Prod.fst (Prod.snd (Zc 1 3 2 (Za (PV.sl 1 false (List.map enc x))) 0)))))) (Prod.snd (Prod.snd (Zc 1 3 2 (Za (PV.sl 1 false (List.map enc x))) 0)))))))))))))),(7,(.pv (.int .i64 0)))] [(.obj (.box [(.pv (.sl 1 false (List.map enc (Prod.fst (Prod.snd (Zc (-9223372036854775808:Int) 9223372036854775807 2 (Za (PV.sl 1 false (List.map enc (Prod.fst (Prod.snd (Zp (Za (PV.sl 1 false (List.map enc (Prod.fst (Prod.snd (Zg 1100 (-1000000000:Int) 1000000000 (Za (PV.sl 1 false (List.map enc (Prod.fst (Prod.snd (Zc 1 3 2 (Za (PV.sl 1 false (List.map enc x))) 0)))))) (Prod.snd (Prod.snd (Zc 1 3 2 (Za (PV.sl 1 false (List.map enc x))) 0))))))))) (Prod.snd (Prod.snd (Zg 1100 (-1000000000:Int) 1000000000 (Za (PV.sl 1 false (List.map enc (Prod.fst (Prod.snd (Zc 1 3 2 (Za (PV.sl 1 false (List.map enc x))) 0)))))) (Prod.snd (Prod.snd (Zc 1 3 2 (Za (PV.sl 1 false (List.map enc x))) 0)))))))))))) (Prod.snd (Prod.snd (Zp (Za (PV.sl 1 false (List.map enc (Prod.fst (Prod.snd (Zg 1100 (-1000000000:Int) 1000000000 (Za (PV.sl 1 false (List.map enc (Prod.fst (Prod.snd (Zc 1 3 2 (Za (PV.sl 1 false (List.map enc x))) 0)))))) (Prod.snd (Prod.snd (Zc 1 3 2 (Za (PV.sl 1 false (List.map enc x))) 0))))))))) (Prod.snd (Prod.snd (Zg 1100 (-1000000000:Int) 1000000000 (Za (PV.sl 1 false (List.map enc (Prod.fst (Prod.snd (Zc 1 3 2 (Za (PV.sl 1 false (List.map enc x))) 0)))))) (Prod.snd (Prod.snd (Zc 1 3 2 (Za (PV.sl 1 false (List.map enc x))) 0))))))))))))))),(.pv (.int .i64 3))])),(.obj (.box [(.pv (.int .i64 (IntKind.wrap IntKind.i64 (n+1))))])),(.obj (.box [(.pv (.int .i64 0)),(.pv (.sl 0 true [])),(.pv (.int .i64 0)),(.pv (.sl 0 true [])),(.pv (.sl 0 true []))])),(.obj (.box [(.pv (.int .i64 (Prod.fst (Zc 1 3 2 (Za (PV.sl 1 false (List.map enc x))) 0)))),(.pv (.sl 1 false (List.map enc (Prod.fst (Zg 1100 (-1000000000:Int) 1000000000 (Za (PV.sl 1 false (List.map enc (Prod.fst (Prod.snd (Zc 1 3 2 (Za (PV.sl 1 false (List.map enc x))) 0)))))) (Prod.snd (Prod.snd (Zc 1 3 2 (Za (PV.sl 1 false (List.map enc x))) 0)))))))),(.pv (.int .i64 (Lin.k (Prod.fst (Zp (Za (PV.sl 1 false (List.map enc (Prod.fst (Prod.snd (Zg 1100 (-1000000000:Int) 1000000000 (Za (PV.sl 1 false (List.map enc (Prod.fst (Prod.snd (Zc 1 3 2 (Za (PV.sl 1 false (List.map enc x))) 0)))))) (Prod.snd (Prod.snd (Zc 1 3 2 (Za (PV.sl 1 false (List.map enc x))) 0))))))))) (Prod.snd (Prod.snd (Zg 1100 (-1000000000:Int) 1000000000 (Za (PV.sl 1 false (List.map enc (Prod.fst (Prod.snd (Zc 1 3 2 (Za (PV.sl 1 false (List.map enc x))) 0)))))) (Prod.snd (Prod.snd (Zc 1 3 2 (Za (PV.sl 1 false (List.map enc x))) 0))))))))))),(.pv (.sl 2 false (List.map enc (Lin.t (Prod.fst (Zp (Za (PV.sl 1 false (List.map enc (Prod.fst (Prod.snd (Zg 1100 (-1000000000:Int) 1000000000 (Za (PV.sl 1 false (List.map enc (Prod.fst (Prod.snd (Zc 1 3 2 (Za (PV.sl 1 false (List.map enc x))) 0)))))) (Prod.snd (Prod.snd (Zc 1 3 2 (Za (PV.sl 1 false (List.map enc x))) 0))))))))) (Prod.snd (Prod.snd (Zg 1100 (-1000000000:Int) 1000000000 (Za (PV.sl 1 false (List.map enc (Prod.fst (Prod.snd (Zc 1 3 2 (Za (PV.sl 1 false (List.map enc x))) 0)))))) (Prod.snd (Prod.snd (Zc 1 3 2 (Za (PV.sl 1 false (List.map enc x))) 0)))))))))))),(.pv (.sl 0 true []))]))]else(if (decide (Prod.fst (Zc (-9223372036854775808:Int) 9223372036854775807 2 (Za (PV.sl 1 false (List.map enc (Prod.fst (Prod.snd (Zp (Za (PV.sl 1 false (List.map enc (Prod.fst (Prod.snd (Zg 1100 (-1000000000:Int) 1000000000 (Za (PV.sl 1 false (List.map enc (Prod.fst (Prod.snd (Zc 1 3 2 (Za (PV.sl 1 false (List.map enc x))) 0)))))) (Prod.snd (Prod.snd (Zc 1 3 2 (Za (PV.sl 1 false (List.map enc x))) 0))))))))) (Prod.snd (Prod.snd (Zg 1100 (-1000000000:Int) 1000000000 (Za (PV.sl 1 false (List.map enc (Prod.fst (Prod.snd (Zc 1 3 2 (Za (PV.sl 1 false (List.map enc x))) 0)))))) (Prod.snd (Prod.snd (Zc 1 3 2 (Za (PV.sl 1 false (List.map enc x))) 0)))))))))))) (Prod.snd (Prod.snd (Zp (Za (PV.sl 1 false (List.map enc (Prod.fst (Prod.snd (Zg 1100 (-1000000000:Int) 1000000000 (Za (PV.sl 1 false (List.map enc (Prod.fst (Prod.snd (Zc 1 3 2 (Za (PV.sl 1 false (List.map enc x))) 0)))))) (Prod.snd (Prod.snd (Zc 1 3 2 (Za (PV.sl 1 false (List.map enc x))) 0))))))))) (Prod.snd (Prod.snd (Zg 1100 (-1000000000:Int) 1000000000 (Za (PV.sl 1 false (List.map enc (Prod.fst (Prod.snd (Zc 1 3 2 (Za (PV.sl 1 false (List.map enc x))) 0)))))) (Prod.snd (Prod.snd (Zc 1 3 2 (Za (PV.sl 1 false (List.map enc x))) 0))))))))))>2))=true then At (Vr N) 2 (ZC 2 XR G) XU 0 73 [(0,(.ptr 0 0)),(1,(.ptr 1 0)),(4,(.ptr 2 0)),(5,(.ptr 3 0)),(6,(.pv (.int .i64 (Prod.fst (Zc (-9223372036854775808:Int) 9223372036854775807 2 (Za (PV.sl 1 false (List.map enc (Prod.fst (Prod.snd (Zp (Za (PV.sl 1 false (List.map enc (Prod.fst (Prod.snd (Zg 1100 (-1000000000:Int) 1000000000 (Za (PV.sl 1 false (List.map enc (Prod.fst (Prod.snd (Zc 1 3 2 (Za (PV.sl 1 false (List.map enc x))) 0)))))) (Prod.snd (Prod.snd (Zc 1 3 2 (Za (PV.sl 1 false (List.map enc x))) 0))))))))) (Prod.snd (Prod.snd (Zg 1100 (-1000000000:Int) 1000000000 (Za (PV.sl 1 false (List.map enc (Prod.fst (Prod.snd (Zc 1 3 2 (Za (PV.sl 1 false (List.map enc x))) 0)))))) (Prod.snd (Prod.snd (Zc 1 3 2 (Za (PV.sl 1 false (List.map enc x))) 0)))))))))))) (Prod.snd (Prod.snd (Zp (Za (PV.sl 1 false (List.map enc (Prod.fst (Prod.snd (Zg 1100 (-1000000000:Int) 1000000000 (Za (PV.sl 1 false (List.map enc (Prod.fst (Prod.snd (Zc 1 3 2 (Za (PV.sl 1 false (List.map enc x))) 0)))))) (Prod.snd (Prod.snd (Zc 1 3 2 (Za (PV.sl 1 false (List.map enc x))) 0))))))))) (Prod.snd (Prod.snd (Zg 1100 (-1000000000:Int) 1000000000 (Za (PV.sl 1 false (List.map enc (Prod.fst (Prod.snd (Zc 1 3 2 (Za (PV.sl 1 false (List.map enc x))) 0)))))) (Prod.snd (Prod.snd (Zc 1 3 2 (Za (PV.sl 1 false (List.map enc x))) 0)))))))))))))),(7,(.pv (.int .i64 0)))] [(.obj (.box [(.pv (.sl 1 false (List.map enc (Prod.fst (Prod.snd (Zc (-9223372036854775808:Int) 9223372036854775807 2 (Za (PV.sl 1 false (List.map enc (Prod.fst (Prod.snd (Zp (Za (PV.sl 1 false (List.map enc (Prod.fst (Prod.snd (Zg 1100 (-1000000000:Int) 1000000000 (Za (PV.sl 1 false (List.map enc (Prod.fst (Prod.snd (Zc 1 3 2 (Za (PV.sl 1 false (List.map enc x))) 0)))))) (Prod.snd (Prod.snd (Zc 1 3 2 (Za (PV.sl 1 false (List.map enc x))) 0))))))))) (Prod.snd (Prod.snd (Zg 1100 (-1000000000:Int) 1000000000 (Za (PV.sl 1 false (List.map enc (Prod.fst (Prod.snd (Zc 1 3 2 (Za (PV.sl 1 false (List.map enc x))) 0)))))) (Prod.snd (Prod.snd (Zc 1 3 2 (Za (PV.sl 1 false (List.map enc x))) 0)))))))))))) (Prod.snd (Prod.snd (Zp (Za (PV.sl 1 false (List.map enc (Prod.fst (Prod.snd (Zg 1100 (-1000000000:Int) 1000000000 (Za (PV.sl 1 false (List.map enc (Prod.fst (Prod.snd (Zc 1 3 2 (Za (PV.sl 1 false (List.map enc x))) 0)))))) (Prod.snd (Prod.snd (Zc 1 3 2 (Za (PV.sl 1 false (List.map enc x))) 0))))))))) (Prod.snd (Prod.snd (Zg 1100 (-1000000000:Int) 1000000000 (Za (PV.sl 1 false (List.map enc (Prod.fst (Prod.snd (Zc 1 3 2 (Za (PV.sl 1 false (List.map enc x))) 0)))))) (Prod.snd (Prod.snd (Zc 1 3 2 (Za (PV.sl 1 false (List.map enc x))) 0))))))))))))))),(.pv (.int .i64 3))])),(.obj (.box [(.pv (.int .i64 (IntKind.wrap IntKind.i64 (n+1))))])),(.obj (.box [(.pv (.int .i64 0)),(.pv (.sl 0 true [])),(.pv (.int .i64 0)),(.pv (.sl 0 true [])),(.pv (.sl 0 true []))])),(.obj (.box [(.pv (.int .i64 (Prod.fst (Zc 1 3 2 (Za (PV.sl 1 false (List.map enc x))) 0)))),(.pv (.sl 1 false (List.map enc (Prod.fst (Zg 1100 (-1000000000:Int) 1000000000 (Za (PV.sl 1 false (List.map enc (Prod.fst (Prod.snd (Zc 1 3 2 (Za (PV.sl 1 false (List.map enc x))) 0)))))) (Prod.snd (Prod.snd (Zc 1 3 2 (Za (PV.sl 1 false (List.map enc x))) 0)))))))),(.pv (.int .i64 (Lin.k (Prod.fst (Zp (Za (PV.sl 1 false (List.map enc (Prod.fst (Prod.snd (Zg 1100 (-1000000000:Int) 1000000000 (Za (PV.sl 1 false (List.map enc (Prod.fst (Prod.snd (Zc 1 3 2 (Za (PV.sl 1 false (List.map enc x))) 0)))))) (Prod.snd (Prod.snd (Zc 1 3 2 (Za (PV.sl 1 false (List.map enc x))) 0))))))))) (Prod.snd (Prod.snd (Zg 1100 (-1000000000:Int) 1000000000 (Za (PV.sl 1 false (List.map enc (Prod.fst (Prod.snd (Zc 1 3 2 (Za (PV.sl 1 false (List.map enc x))) 0)))))) (Prod.snd (Prod.snd (Zc 1 3 2 (Za (PV.sl 1 false (List.map enc x))) 0))))))))))),(.pv (.sl 2 false (List.map enc (Lin.t (Prod.fst (Zp (Za (PV.sl 1 false (List.map enc (Prod.fst (Prod.snd (Zg 1100 (-1000000000:Int) 1000000000 (Za (PV.sl 1 false (List.map enc (Prod.fst (Prod.snd (Zc 1 3 2 (Za (PV.sl 1 false (List.map enc x))) 0)))))) (Prod.snd (Prod.snd (Zc 1 3 2 (Za (PV.sl 1 false (List.map enc x))) 0))))))))) (Prod.snd (Prod.snd (Zg 1100 (-1000000000:Int) 1000000000 (Za (PV.sl 1 false (List.map enc (Prod.fst (Prod.snd (Zc 1 3 2 (Za (PV.sl 1 false (List.map enc x))) 0)))))) (Prod.snd (Prod.snd (Zc 1 3 2 (Za (PV.sl 1 false (List.map enc x))) 0)))))))))))),(.pv (.sl 0 true []))]))]else(At (Vr N) 2 (ZC 2 XR G) XU 0 73 [(0,(.ptr 0 0)),(1,(.ptr 1 0)),(4,(.ptr 2 0)),(5,(.ptr 3 0)),(6,(.pv (.int .i64 (Prod.fst (Zc (-9223372036854775808:Int) 9223372036854775807 2 (Za (PV.sl 1 false (List.map enc (Prod.fst (Prod.snd (Zp (Za (PV.sl 1 false (List.map enc (Prod.fst (Prod.snd (Zg 1100 (-1000000000:Int) 1000000000 (Za (PV.sl 1 false (List.map enc (Prod.fst (Prod.snd (Zc 1 3 2 (Za (PV.sl 1 false (List.map enc x))) 0)))))) (Prod.snd (Prod.snd (Zc 1 3 2 (Za (PV.sl 1 false (List.map enc x))) 0))))))))) (Prod.snd (Prod.snd (Zg 1100 (-1000000000:Int) 1000000000 (Za (PV.sl 1 false (List.map enc (Prod.fst (Prod.snd (Zc 1 3 2 (Za (PV.sl 1 false (List.map enc x))) 0)))))) (Prod.snd (Prod.snd (Zc 1 3 2 (Za (PV.sl 1 false (List.map enc x))) 0)))))))))))) (Prod.snd (Prod.snd (Zp (Za (PV.sl 1 false (List.map enc (Prod.fst (Prod.snd (Zg 1100 (-1000000000:Int) 1000000000 (Za (PV.sl 1 false (List.map enc (Prod.fst (Prod.snd (Zc 1 3 2 (Za (PV.sl 1 false (List.map enc x))) 0)))))) (Prod.snd (Prod.snd (Zc 1 3 2 (Za (PV.sl 1 false (List.map enc x))) 0))))))))) (Prod.snd (Prod.snd (Zg 1100 (-1000000000:Int) 1000000000 (Za (PV.sl 1 false (List.map enc (Prod.fst (Prod.snd (Zc 1 3 2 (Za (PV.sl 1 false (List.map enc x))) 0)))))) (Prod.snd (Prod.snd (Zc 1 3 2 (Za (PV.sl 1 false (List.map enc x))) 0)))))))))))))),(7,(.pv (.int .i64 0)))] [(.obj (.box [(.pv (.sl 1 false (List.map enc (Prod.fst (Prod.snd (Zc (-9223372036854775808:Int) 9223372036854775807 2 (Za (PV.sl 1 false (List.map enc (Prod.fst (Prod.snd (Zp (Za (PV.sl 1 false (List.map enc (Prod.fst (Prod.snd (Zg 1100 (-1000000000:Int) 1000000000 (Za (PV.sl 1 false (List.map enc (Prod.fst (Prod.snd (Zc 1 3 2 (Za (PV.sl 1 false (List.map enc x))) 0)))))) (Prod.snd (Prod.snd (Zc 1 3 2 (Za (PV.sl 1 false (List.map enc x))) 0))))))))) (Prod.snd (Prod.snd (Zg 1100 (-1000000000:Int) 1000000000 (Za (PV.sl 1 false (List.map enc (Prod.fst (Prod.snd (Zc 1 3 2 (Za (PV.sl 1 false (List.map enc x))) 0)))))) (Prod.snd (Prod.snd (Zc 1 3 2 (Za (PV.sl 1 false (List.map enc x))) 0)))))))))))) (Prod.snd (Prod.snd (Zp (Za (PV.sl 1 false (List.map enc (Prod.fst (Prod.snd (Zg 1100 (-1000000000:Int) 1000000000 (Za (PV.sl 1 false (List.map enc (Prod.fst (Prod.snd (Zc 1 3 2 (Za (PV.sl 1 false (List.map enc x))) 0)))))) (Prod.snd (Prod.snd (Zc 1 3 2 (Za (PV.sl 1 false (List.map enc x))) 0))))))))) (Prod.snd (Prod.snd (Zg 1100 (-1000000000:Int) 1000000000 (Za (PV.sl 1 false (List.map enc (Prod.fst (Prod.snd (Zc 1 3 2 (Za (PV.sl 1 false (List.map enc x))) 0)))))) (Prod.snd (Prod.snd (Zc 1 3 2 (Za (PV.sl 1 false (List.map enc x))) 0))))))))))))))),(.pv (.int .i64 (Prod.snd (Prod.snd (Zc (-9223372036854775808:Int) 9223372036854775807 2 (Za (PV.sl 1 false (List.map enc (Prod.fst (Prod.snd (Zp (Za (PV.sl 1 false (List.map enc (Prod.fst (Prod.snd (Zg 1100 (-1000000000:Int) 1000000000 (Za (PV.sl 1 false (List.map enc (Prod.fst (Prod.snd (Zc 1 3 2 (Za (PV.sl 1 false (List.map enc x))) 0)))))) (Prod.snd (Prod.snd (Zc 1 3 2 (Za (PV.sl 1 false (List.map enc x))) 0))))))))) (Prod.snd (Prod.snd (Zg 1100 (-1000000000:Int) 1000000000 (Za (PV.sl 1 false (List.map enc (Prod.fst (Prod.snd (Zc 1 3 2 (Za (PV.sl 1 false (List.map enc x))) 0)))))) (Prod.snd (Prod.snd (Zc 1 3 2 (Za (PV.sl 1 false (List.map enc x))) 0)))))))))))) (Prod.snd (Prod.snd (Zp (Za (PV.sl 1 false (List.map enc (Prod.fst (Prod.snd (Zg 1100 (-1000000000:Int) 1000000000 (Za (PV.sl 1 false (List.map enc (Prod.fst (Prod.snd (Zc 1 3 2 (Za (PV.sl 1 false (List.map enc x))) 0)))))) (Prod.snd (Prod.snd (Zc 1 3 2 (Za (PV.sl 1 false (List.map enc x))) 0))))))))) (Prod.snd (Prod.snd (Zg 1100 (-1000000000:Int) 1000000000 (Za (PV.sl 1 false (List.map enc (Prod.fst (Prod.snd (Zc 1 3 2 (Za (PV.sl 1 false (List.map enc x))) 0)))))) (Prod.snd (Prod.snd (Zc 1 3 2 (Za (PV.sl 1 false (List.map enc x))) 0))))))))))))))])),(.obj (.box [(.pv (.int .i64 (IntKind.wrap IntKind.i64 (n+1))))])),(.obj (.box [(.pv (.int .i64 0)),(.pv (.sl 0 true [])),(.pv (.int .i64 0)),(.pv (.sl 0 true [])),(.pv (.sl 0 true []))])),(.obj (.box [(.pv (.int .i64 (Prod.fst (Zc 1 3 2 (Za (PV.sl 1 false (List.map enc x))) 0)))),(.pv (.sl 1 false (List.map enc (Prod.fst (Zg 1100 (-1000000000:Int) 1000000000 (Za (PV.sl 1 false (List.map enc (Prod.fst (Prod.snd (Zc 1 3 2 (Za (PV.sl 1 false (List.map enc x))) 0)))))) (Prod.snd (Prod.snd (Zc 1 3 2 (Za (PV.sl 1 false (List.map enc x))) 0)))))))),(.pv (.int .i64 (Lin.k (Prod.fst (Zp (Za (PV.sl 1 false (List.map enc (Prod.fst (Prod.snd (Zg 1100 (-1000000000:Int) 1000000000 (Za (PV.sl 1 false (List.map enc (Prod.fst (Prod.snd (Zc 1 3 2 (Za (PV.sl 1 false (List.map enc x))) 0)))))) (Prod.snd (Prod.snd (Zc 1 3 2 (Za (PV.sl 1 false (List.map enc x))) 0))))))))) (Prod.snd (Prod.snd (Zg 1100 (-1000000000:Int) 1000000000 (Za (PV.sl 1 false (List.map enc (Prod.fst (Prod.snd (Zc 1 3 2 (Za (PV.sl 1 false (List.map enc x))) 0)))))) (Prod.snd (Prod.snd (Zc 1 3 2 (Za (PV.sl 1 false (List.map enc x))) 0))))))))))),(.pv (.sl 2 false (List.map enc (Lin.t (Prod.fst (Zp (Za (PV.sl 1 false (List.map enc (Prod.fst (Prod.snd (Zg 1100 (-1000000000:Int) 1000000000 (Za (PV.sl 1 false (List.map enc (Prod.fst (Prod.snd (Zc 1 3 2 (Za (PV.sl 1 false (List.map enc x))) 0)))))) (Prod.snd (Prod.snd (Zc 1 3 2 (Za (PV.sl 1 false (List.map enc x))) 0))))))))) (Prod.snd (Prod.snd (Zg 1100 (-1000000000:Int) 1000000000 (Za (PV.sl 1 false (List.map enc (Prod.fst (Prod.snd (Zc 1 3 2 (Za (PV.sl 1 false (List.map enc x))) 0)))))) (Prod.snd (Prod.snd (Zc 1 3 2 (Za (PV.sl 1 false (List.map enc x))) 0)))))))))))),(.pv (.sl 0 true []))]))]))else(At (Vr N) 2 (ZC 2 XR G) XU 0 73 [(0,(.ptr 0 0)),(1,(.ptr 1 0)),(4,(.ptr 2 0)),(5,(.ptr 3 0)),(6,(.pv (.int .i64 (Prod.fst (Zc (-9223372036854775808:Int) 9223372036854775807 2 (Za (PV.sl 1 false (List.map enc (Prod.fst (Prod.snd (Zp (Za (PV.sl 1 false (List.map enc (Prod.fst (Prod.snd (Zg 1100 (-1000000000:Int) 1000000000 (Za (PV.sl 1 false (List.map enc (Prod.fst (Prod.snd (Zc 1 3 2 (Za (PV.sl 1 false (List.map enc x))) 0)))))) (Prod.snd (Prod.snd (Zc 1 3 2 (Za (PV.sl 1 false (List.map enc x))) 0))))))))) (Prod.snd (Prod.snd (Zg 1100 (-1000000000:Int) 1000000000 (Za (PV.sl 1 false (List.map enc (Prod.fst (Prod.snd (Zc 1 3 2 (Za (PV.sl 1 false (List.map enc x))) 0)))))) (Prod.snd (Prod.snd (Zc 1 3 2 (Za (PV.sl 1 false (List.map enc x))) 0)))))))))))) (Prod.snd (Prod.snd (Zp (Za (PV.sl 1 false (List.map enc (Prod.fst (Prod.snd (Zg 1100 (-1000000000:Int) 1000000000 (Za (PV.sl 1 false (List.map enc (Prod.fst (Prod.snd (Zc 1 3 2 (Za (PV.sl 1 false (List.map enc x))) 0)))))) (Prod.snd (Prod.snd (Zc 1 3 2 (Za (PV.sl 1 false (List.map enc x))) 0))))))))) (Prod.snd (Prod.snd (Zg 1100 (-1000000000:Int) 1000000000 (Za (PV.sl 1 false (List.map enc (Prod.fst (Prod.snd (Zc 1 3 2 (Za (PV.sl 1 false (List.map enc x))) 0)))))) (Prod.snd (Prod.snd (Zc 1 3 2 (Za (PV.sl 1 false (List.map enc x))) 0)))))))))))))),(7,(.pv (.int .i64 0)))] [(.obj (.box [(.pv (.sl 1 false (List.map enc (Prod.fst (Prod.snd (Zc (-9223372036854775808:Int) 9223372036854775807 2 (Za (PV.sl 1 false (List.map enc (Prod.fst (Prod.snd (Zp (Za (PV.sl 1 false (List.map enc (Prod.fst (Prod.snd (Zg 1100 (-1000000000:Int) 1000000000 (Za (PV.sl 1 false (List.map enc (Prod.fst (Prod.snd (Zc 1 3 2 (Za (PV.sl 1 false (List.map enc x))) 0)))))) (Prod.snd (Prod.snd (Zc 1 3 2 (Za (PV.sl 1 false (List.map enc x))) 0))))))))) (Prod.snd (Prod.snd (Zg 1100 (-1000000000:Int) 1000000000 (Za (PV.sl 1 false (List.map enc (Prod.fst (Prod.snd (Zc 1 3 2 (Za (PV.sl 1 false (List.map enc x))) 0)))))) (Prod.snd (Prod.snd (Zc 1 3 2 (Za (PV.sl 1 false (List.map enc x))) 0)))))))))))) (Prod.snd (Prod.snd (Zp (Za (PV.sl 1 false (List.map enc (Prod.fst (Prod.snd (Zg 1100 (-1000000000:Int) 1000000000 (Za (PV.sl 1 false (List.map enc (Prod.fst (Prod.snd (Zc 1 3 2 (Za (PV.sl 1 false (List.map enc x))) 0)))))) (Prod.snd (Prod.snd (Zc 1 3 2 (Za (PV.sl 1 false (List.map enc x))) 0))))))))) (Prod.snd (Prod.snd (Zg 1100 (-1000000000:Int) 1000000000 (Za (PV.sl 1 false (List.map enc (Prod.fst (Prod.snd (Zc 1 3 2 (Za (PV.sl 1 false (List.map enc x))) 0)))))) (Prod.snd (Prod.snd (Zc 1 3 2 (Za (PV.sl 1 false (List.map enc x))) 0))))))))))))))),(.pv (.int .i64 (Prod.snd (Prod.snd (Zc (-9223372036854775808:Int) 9223372036854775807 2 (Za (PV.sl 1 false (List.map enc (Prod.fst (Prod.snd (Zp (Za (PV.sl 1 false (List.map enc (Prod.fst (Prod.snd (Zg 1100 (-1000000000:Int) 1000000000 (Za (PV.sl 1 false (List.map enc (Prod.fst (Prod.snd (Zc 1 3 2 (Za (PV.sl 1 false (List.map enc x))) 0)))))) (Prod.snd (Prod.snd (Zc 1 3 2 (Za (PV.sl 1 false (List.map enc x))) 0))))))))) (Prod.snd (Prod.snd (Zg 1100 (-1000000000:Int) 1000000000 (Za (PV.sl 1 false (List.map enc (Prod.fst (Prod.snd (Zc 1 3 2 (Za (PV.sl 1 false (List.map enc x))) 0)))))) (Prod.snd (Prod.snd (Zc 1 3 2 (Za (PV.sl 1 false (List.map enc x))) 0)))))))))))) (Prod.snd (Prod.snd (Zp (Za (PV.sl 1 false (List.map enc (Prod.fst (Prod.snd (Zg 1100 (-1000000000:Int) 1000000000 (Za (PV.sl 1 false (List.map enc (Prod.fst (Prod.snd (Zc 1 3 2 (Za (PV.sl 1 false (List.map enc x))) 0)))))) (Prod.snd (Prod.snd (Zc 1 3 2 (Za (PV.sl 1 false (List.map enc x))) 0))))))))) (Prod.snd (Prod.snd (Zg 1100 (-1000000000:Int) 1000000000 (Za (PV.sl 1 false (List.map enc (Prod.fst (Prod.snd (Zc 1 3 2 (Za (PV.sl 1 false (List.map enc x))) 0)))))) (Prod.snd (Prod.snd (Zc 1 3 2 (Za (PV.sl 1 false (List.map enc x))) 0))))))))))))))])),(.obj (.box [(.pv (.int .i64 (IntKind.wrap IntKind.i64 (n+1))))])),(.obj (.box [(.pv (.int .i64 0)),(.pv (.sl 0 true [])),(.pv (.int .i64 0)),(.pv (.sl 0 true [])),(.pv (.sl 0 true []))])),(.obj (.box [(.pv (.int .i64 (Prod.fst (Zc 1 3 2 (Za (PV.sl 1 false (List.map enc x))) 0)))),(.pv (.sl 1 false (List.map enc (Prod.fst (Zg 1100 (-1000000000:Int) 1000000000 (Za (PV.sl 1 false (List.map enc (Prod.fst (Prod.snd (Zc 1 3 2 (Za (PV.sl 1 false (List.map enc x))) 0)))))) (Prod.snd (Prod.snd (Zc 1 3 2 (Za (PV.sl 1 false (List.map enc x))) 0)))))))),(.pv (.int .i64 (Lin.k (Prod.fst (Zp (Za (PV.sl 1 false (List.map enc (Prod.fst (Prod.snd (Zg 1100 (-1000000000:Int) 1000000000 (Za (PV.sl 1 false (List.map enc (Prod.fst (Prod.snd (Zc 1 3 2 (Za (PV.sl 1 false (List.map enc x))) 0)))))) (Prod.snd (Prod.snd (Zc 1 3 2 (Za (PV.sl 1 false (List.map enc x))) 0))))))))) (Prod.snd (Prod.snd (Zg 1100 (-1000000000:Int) 1000000000 (Za (PV.sl 1 false (List.map enc (Prod.fst (Prod.snd (Zc 1 3 2 (Za (PV.sl 1 false (List.map enc x))) 0)))))) (Prod.snd (Prod.snd (Zc 1 3 2 (Za (PV.sl 1 false (List.map enc x))) 0))))))))))),(.pv (.sl 2 false (List.map enc (Lin.t (Prod.fst (Zp (Za (PV.sl 1 false (List.map enc (Prod.fst (Prod.snd (Zg 1100 (-1000000000:Int) 1000000000 (Za (PV.sl 1 false (List.map enc (Prod.fst (Prod.snd (Zc 1 3 2 (Za (PV.sl 1 false (List.map enc x))) 0)))))) (Prod.snd (Prod.snd (Zc 1 3 2 (Za (PV.sl 1 false (List.map enc x))) 0))))))))) (Prod.snd (Prod.snd (Zg 1100 (-1000000000:Int) 1000000000 (Za (PV.sl 1 false (List.map enc (Prod.fst (Prod.snd (Zc 1 3 2 (Za (PV.sl 1 false (List.map enc x))) 0)))))) (Prod.snd (Prod.snd (Zc 1 3 2 (Za (PV.sl 1 false (List.map enc x))) 0)))))))))))),(.pv (.sl 0 true []))]))]))))))):Zf (Vr N) 2 (ZC 2 XR G) XU [] (ZN 73 [.ptr 0 0,.ptr 1 0] [.box [.pv (.sl 1 false (x.map enc)),.pv (.int .i64 0)],.box [.pv (.int .i64 n)]]):=Zf.tf (.lit (.lit (.ask (.lit (.lit (.lit (.lit (.lit (.lit (.lit (.req (.keep (.req (.keep (.req (.keep (.req (.keep (.lit (.lit (.lit (.lit (.lit (.lit (.lit (.nil))))))))))))))))))))))) (.lit (.lit (.lit (.lit (.lit (.lit (.req (.keep (.req (.keep (.req (.keep (.req (.keep (.lit (.ask (.lit (.lit (.lit (.ask (.lit (.lit (.lit (.lit (.lit (.nil)))))) (.lit (.lit (.lit (.lit (.lit (.ask (.nil) (.nil))))))))))) (.lit (.lit (.lit (.lit (.lit (.nil))))))))))))))))))))))))) h (by kernel_rfl)
theorem a1t{G:AV×List AObj×List AObj->Prop}(N:Nat)(x:List UInt8)(n:Int)(z:List UInt8)(e w ck:Int)(cm:List Int)(lk:Int)(lt:List Coef)(c i:Int)(h:if (decide (i<c))=true then if (e==0)=true then(YE [AV.ptr 0 0,AV.ptr (0+1) 0] [AObj.box [AV.pv (PV.sl 1 false (List.map enc z)),AV.pv (PV.int .i64 e)],AObj.box [AV.pv (PV.int .i64 w)]]&&decide (WQ false [AV.ptr 0 0,AV.ptr (0+1) 0] [AObj.box [AV.pv (PV.sl 1 false (List.map enc z)),AV.pv (PV.int .i64 e)],AObj.box [AV.pv (PV.int .i64 w)]]<N))=true∧(At (Vr N) 2 (ZC 2 XR G) XU 0 73 [(0,(.ptr 0 0)),(1,(.ptr 1 0)),(4,(.ptr 2 0)),(5,(.ptr 3 0)),(6,(.pv (.int .i64 c))),(7,(.pv (.int .i64 (IntKind.wrap IntKind.i64 (i+1)))))] [(.obj (.box [(.pv (.sl 1 false (List.map enc (Prod.fst (Prod.snd (Zx false (ZF false w) (Za (PV.sl 1 false (List.map enc z))))))))),(.pv (.int .i64 (Prod.fst (Prod.snd (Prod.snd (Zx false (ZF false w) (Za (PV.sl 1 false (List.map enc z)))))))))])),(.obj (.box [(.pv (.int .i64 (ZF false (Prod.snd (Prod.snd (Prod.snd (Zx false (ZF false w) (Za (PV.sl 1 false (List.map enc z))))))))))])),(.obj (.box [(.pv (.int .i64 0)),(.pv (.sl 0 true [])),(.pv (.int .i64 0)),(.pv (.sl 0 true [])),(.pv (.sl 0 true []))])),(.obj (.box [(.pv (.int .i64 ck)),(.pv (.sl 1 false (List.map enc cm))),(.pv (.int .i64 lk)),(.pv (.sl 2 false (List.map enc lt))),(.row 4 1 0 1)])),(.obj (.row false 28 5 [(.agg [(.int .i64 (C5.k (Prod.fst (Zx false (ZF false w) (Za (PV.sl 1 false (List.map enc z))))))),(.sl 1 false (List.map enc (C5.m (Prod.fst (Zx false (ZF false w) (Za (PV.sl 1 false (List.map enc z)))))))),(.int .i64 (C5.lk (Prod.fst (Zx false (ZF false w) (Za (PV.sl 1 false (List.map enc z))))))),(.sl 2 false (List.map enc (C5.lt (Prod.fst (Zx false (ZF false w) (Za (PV.sl 1 false (List.map enc z)))))))),(.sl 5 false (List.map enc (C5.ks (Prod.fst (Zx false (ZF false w) (Za (PV.sl 1 false (List.map enc z))))))))])]))])else(G (((.pv (.agg [(.int .i64 ck),(.sl 1 false (List.map enc cm)),(.int .i64 lk),(.sl 2 false (List.map enc lt)),(.sl 0 true [])])),([(.box [(.pv (.sl 1 false (List.map enc z))),(.pv (.int .i64 e))]),(.box [(.pv (.int .i64 w))])],[]))))else(G (((.pv (.agg [(.int .i64 ck),(.sl 1 false (List.map enc cm)),(.int .i64 lk),(.sl 2 false (List.map enc lt)),(.sl 0 true [])])),([(.box [(.pv (.sl 1 false (List.map enc z))),(.pv (.int .i64 e))]),(.box [(.pv (.int .i64 w))])],[]))))):At (Vr N) 2 (ZC 2 XR G) XU 0 73 [(0,.ptr 0 0),(1,.ptr 1 0),(4,.ptr 2 0),(5,.ptr 3 0),(6,.pv (.int .i64 c)),(7,.pv (.int .i64 i))] [.obj (.box [.pv (.sl 1 false (z.map enc)),.pv (.int .i64 e)]),.obj (.box [.pv (.int .i64 w)]),.obj (.box [.pv (.int .i64 0),.pv (.sl 0 true []),.pv (.int .i64 0),.pv (.sl 0 true []),.pv (.sl 0 true [])]),.obj (.box [.pv (.int .i64 ck),.pv (.sl 1 false (cm.map enc)),.pv (.int .i64 lk),.pv (.sl 2 false (lt.map enc)),.pv (.sl 0 true [])])]:=At.tf (.lit (.ask (.lit (.lit (.lit (.lit (.lit (.lit (.ask (.req (.keep (.lit (.lit (.lit (.lit (.lit (.lit (.nil))))))))) (.nil)))))))) (.lit (.lit (.lit (.lit (.lit (.lit (.nil))))))))) h (by kernel_rfl)
theorem a3c{G:AV×List AObj×List AObj->Prop}(N:Nat)(x:List UInt8)(n:Int)(z:List UInt8)(e w ck:Int)(cm:List Int)(lk:Int)(lt:List Coef)(c i:Int)(ts:List Cert)(q:Nat)(h:if (decide (i<c))=true then if (e==0)=true then(YE [AV.ptr 0 0,AV.ptr (0+1) 0] [AObj.box [AV.pv (PV.sl 1 false (List.map enc z)),AV.pv (PV.int .i64 e)],AObj.box [AV.pv (PV.int .i64 w)]]&&decide (WQ false [AV.ptr 0 0,AV.ptr (0+1) 0] [AObj.box [AV.pv (PV.sl 1 false (List.map enc z)),AV.pv (PV.int .i64 e)],AObj.box [AV.pv (PV.int .i64 w)]]<N))=true∧((List.length (List.map enc ts)==q&&q==q&&decide ((q+List.length (List.drop 0 (List.take 1 [enc (Prod.fst (Zx false (ZF false w) (Za (PV.sl 1 false (List.map enc z)))))])))*88<=1099511627776)&&decide (q+List.length (List.drop 0 (List.take 1 [enc (Prod.fst (Zx false (ZF false w) (Za (PV.sl 1 false (List.map enc z)))))]))<=1099511627776))=true∧(At (Vr N) 2 (ZC 2 XR G) XU 0 73 [(0,(.ptr 0 0)),(1,(.ptr 1 0)),(4,(.ptr 2 0)),(5,(.ptr 3 0)),(6,(.pv (.int .i64 c))),(7,(.pv (.int .i64 (IntKind.wrap IntKind.i64 (i+1)))))] [(.obj (.box [(.pv (.sl 1 false (List.map enc (Prod.fst (Prod.snd (Zx false (ZF false w) (Za (PV.sl 1 false (List.map enc z))))))))),(.pv (.int .i64 (Prod.fst (Prod.snd (Prod.snd (Zx false (ZF false w) (Za (PV.sl 1 false (List.map enc z)))))))))])),(.obj (.box [(.pv (.int .i64 (ZF false (Prod.snd (Prod.snd (Prod.snd (Zx false (ZF false w) (Za (PV.sl 1 false (List.map enc z))))))))))])),(.obj (.box [(.pv (.int .i64 0)),(.pv (.sl 0 true [])),(.pv (.int .i64 0)),(.pv (.sl 0 true [])),(.pv (.sl 0 true []))])),(.obj (.box [(.pv (.int .i64 ck)),(.pv (.sl 1 false (List.map enc cm))),(.pv (.int .i64 lk)),(.pv (.sl 2 false (List.map enc lt))),(.row 4 (q+List.length (List.drop 0 (List.take 1 [enc (Prod.fst (Zx false (ZF false w) (Za (PV.sl 1 false (List.map enc z)))))]))) 0 (q+List.length (List.drop 0 (List.take 1 [enc (Prod.fst (Zx false (ZF false w) (Za (PV.sl 1 false (List.map enc z)))))]))))])),(.obj (.row false 28 5 (List.map enc ts++List.drop 0 (List.take 1 [enc (Prod.fst (Zx false (ZF false w) (Za (PV.sl 1 false (List.map enc z)))))]))))]))else((List.length (List.map enc ts)==q)=true∧(G (((.pv (.agg [(.int .i64 ck),(.sl 1 false (List.map enc cm)),(.int .i64 lk),(.sl 2 false (List.map enc lt)),(.sl 5 false (List.drop 0 (List.take q (List.map enc ts))))])),([(.box [(.pv (.sl 1 false (List.map enc z))),(.pv (.int .i64 e))]),(.box [(.pv (.int .i64 w))])],[])))))else((List.length (List.map enc ts)==q)=true∧(G (((.pv (.agg [(.int .i64 ck),(.sl 1 false (List.map enc cm)),(.int .i64 lk),(.sl 2 false (List.map enc lt)),(.sl 5 false (List.drop 0 (List.take q (List.map enc ts))))])),([(.box [(.pv (.sl 1 false (List.map enc z))),(.pv (.int .i64 e))]),(.box [(.pv (.int .i64 w))])],[])))))):At (Vr N) 2 (ZC 2 XR G) XU 0 73 [(0,.ptr 0 0),(1,.ptr 1 0),(4,.ptr 2 0),(5,.ptr 3 0),(6,.pv (.int .i64 c)),(7,.pv (.int .i64 i))] [.obj (.box [.pv (.sl 1 false (z.map enc)),.pv (.int .i64 e)]),.obj (.box [.pv (.int .i64 w)]),.obj (.box [.pv (.int .i64 0),.pv (.sl 0 true []),.pv (.int .i64 0),.pv (.sl 0 true []),.pv (.sl 0 true [])]),.obj (.box [.pv (.int .i64 ck),.pv (.sl 1 false (cm.map enc)),.pv (.int .i64 lk),.pv (.sl 2 false (lt.map enc)),.row 4 q 0 q]),.obj (.row false 28 5 (ts.map enc))]:=At.tf (.lit (.ask (.lit (.lit (.lit (.lit (.lit (.lit (.ask (.req (.keep (.lit (.lit (.req (.lit (.nil))))))) (.req (.nil))))))))) (.lit (.lit (.lit (.lit (.lit (.lit (.req (.nil)))))))))) h (by kernel_rfl)
noncomputable def X8:IC:=Xp Proofs.Tryz.f35
def X5:List IRes:=[(.cell true 5 4)]
abbrev b8o:Nat:=79
def Vm(N:Nat):ZI:=YN [(50,.own Z5 VL),(66,.own Xg Uh),(20,.own ZZ Js),(35,.own (fun a o=>YE a o&&decide (WQ true a o<N)) (VU true))]
theorem d1n{G:AV×List AObj×List AObj->Prop}(N:Nat)(x:List UInt8)(n:Int)(h:if (n==0)=true then G (((.pv (.agg [(.int .i64 0),(.sl 0 true []),(.int .i64 0),(.sl 0 true []),(.sl 0 true [])])),([(.box [(.pv (.sl 1 false (List.map enc x))),(.pv (.int .i64 3))]),(.box [(.pv (.int .i64 n))])],[])))else((Z5 [(.ptr 0 0),(.pv (.int .i64 1)),(.pv (.int .i64 3))] [(.box [(.pv (.sl 1 false (List.map enc x))),(.pv (.int .i64 0))])])=true∧((Xg [(.ptr 0 0),(.pv (.int .i64 1100)),(.pv (.int .i64 (-1000000000))),(.pv (.int .i64 1000000000))] [(.box [(.pv (.sl 1 false (List.map enc (Prod.fst (Prod.snd (Zc 1 3 2 (Za (PV.sl 1 false (List.map enc x))) 0)))))),(.pv (.int .i64 (Prod.snd (Prod.snd (Zc 1 3 2 (Za (PV.sl 1 false (List.map enc x))) 0)))))])])=true∧((ZZ [(.ptr 0 0)] [(.box [(.pv (.sl 1 false (List.map enc (Prod.fst (Prod.snd (Zg 1100 (-1000000000:Int) 1000000000 (Za (PV.sl 1 false (List.map enc (Prod.fst (Prod.snd (Zc 1 3 2 (Za (PV.sl 1 false (List.map enc x))) 0)))))) (Prod.snd (Prod.snd (Zc 1 3 2 (Za (PV.sl 1 false (List.map enc x))) 0))))))))),(.pv (.int .i64 (Prod.snd (Prod.snd (Zg 1100 (-1000000000:Int) 1000000000 (Za (PV.sl 1 false (List.map enc (Prod.fst (Prod.snd (Zc 1 3 2 (Za (PV.sl 1 false (List.map enc x))) 0)))))) (Prod.snd (Prod.snd (Zc 1 3 2 (Za (PV.sl 1 false (List.map enc x))) 0))))))))])])=true∧(if (Prod.snd (Prod.snd (Zp (Za (PV.sl 1 false (List.map enc (Prod.fst (Prod.snd (Zg 1100 (-1000000000:Int) 1000000000 (Za (PV.sl 1 false (List.map enc (Prod.fst (Prod.snd (Zc 1 3 2 (Za (PV.sl 1 false (List.map enc x))) 0)))))) (Prod.snd (Prod.snd (Zc 1 3 2 (Za (PV.sl 1 false (List.map enc x))) 0))))))))) (Prod.snd (Prod.snd (Zg 1100 (-1000000000:Int) 1000000000 (Za (PV.sl 1 false (List.map enc (Prod.fst (Prod.snd (Zc 1 3 2 (Za (PV.sl 1 false (List.map enc x))) 0)))))) (Prod.snd (Prod.snd (Zc 1 3 2 (Za (PV.sl 1 false (List.map enc x))) 0)))))))) != 0)=true then G (((.pv (.agg [(.int .i64 0),(.sl 0 true []),(.int .i64 0),(.sl 0 true []),(.sl 0 true [])])),([(.box [(.pv (.sl 1 false (List.map enc (Prod.fst (Prod.snd (Zp (Za (PV.sl 1 false (List.map enc (Prod.fst (Prod.snd (Zg 1100 (-1000000000:Int) 1000000000 (Za (PV.sl 1 false (List.map enc (Prod.fst (Prod.snd (Zc 1 3 2 (Za (PV.sl 1 false (List.map enc x))) 0)))))) (Prod.snd (Prod.snd (Zc 1 3 2 (Za (PV.sl 1 false (List.map enc x))) 0))))))))) (Prod.snd (Prod.snd (Zg 1100 (-1000000000:Int) 1000000000 (Za (PV.sl 1 false (List.map enc (Prod.fst (Prod.snd (Zc 1 3 2 (Za (PV.sl 1 false (List.map enc x))) 0)))))) (Prod.snd (Prod.snd (Zc 1 3 2 (Za (PV.sl 1 false (List.map enc x))) 0)))))))))))),(.pv (.int .i64 (Prod.snd (Prod.snd (Zp (Za (PV.sl 1 false (List.map enc (Prod.fst (Prod.snd (Zg 1100 (-1000000000:Int) 1000000000 (Za (PV.sl 1 false (List.map enc (Prod.fst (Prod.snd (Zc 1 3 2 (Za (PV.sl 1 false (List.map enc x))) 0)))))) (Prod.snd (Prod.snd (Zc 1 3 2 (Za (PV.sl 1 false (List.map enc x))) 0))))))))) (Prod.snd (Prod.snd (Zg 1100 (-1000000000:Int) 1000000000 (Za (PV.sl 1 false (List.map enc (Prod.fst (Prod.snd (Zc 1 3 2 (Za (PV.sl 1 false (List.map enc x))) 0)))))) (Prod.snd (Prod.snd (Zc 1 3 2 (Za (PV.sl 1 false (List.map enc x))) 0)))))))))))]),(.box [(.pv (.int .i64 (IntKind.wrap IntKind.i64 (n - 1))))])],[])))else((Z5 [(.ptr 0 0),(.pv (.int .i64 0)),(.pv (.int .i64 2))] [(.box [(.pv (.sl 1 false (List.map enc (Prod.fst (Prod.snd (Zp (Za (PV.sl 1 false (List.map enc (Prod.fst (Prod.snd (Zg 1100 (-1000000000:Int) 1000000000 (Za (PV.sl 1 false (List.map enc (Prod.fst (Prod.snd (Zc 1 3 2 (Za (PV.sl 1 false (List.map enc x))) 0)))))) (Prod.snd (Prod.snd (Zc 1 3 2 (Za (PV.sl 1 false (List.map enc x))) 0))))))))) (Prod.snd (Prod.snd (Zg 1100 (-1000000000:Int) 1000000000 (Za (PV.sl 1 false (List.map enc (Prod.fst (Prod.snd (Zc 1 3 2 (Za (PV.sl 1 false (List.map enc x))) 0)))))) (Prod.snd (Prod.snd (Zc 1 3 2 (Za (PV.sl 1 false (List.map enc x))) 0)))))))))))),(.pv (.int .i64 (Prod.snd (Prod.snd (Zp (Za (PV.sl 1 false (List.map enc (Prod.fst (Prod.snd (Zg 1100 (-1000000000:Int) 1000000000 (Za (PV.sl 1 false (List.map enc (Prod.fst (Prod.snd (Zc 1 3 2 (Za (PV.sl 1 false (List.map enc x))) 0)))))) (Prod.snd (Prod.snd (Zc 1 3 2 (Za (PV.sl 1 false (List.map enc x))) 0))))))))) (Prod.snd (Prod.snd (Zg 1100 (-1000000000:Int) 1000000000 (Za (PV.sl 1 false (List.map enc (Prod.fst (Prod.snd (Zc 1 3 2 (Za (PV.sl 1 false (List.map enc x))) 0)))))) (Prod.snd (Prod.snd (Zc 1 3 2 (Za (PV.sl 1 false (List.map enc x))) 0)))))))))))])])=true∧(if (Prod.snd (Prod.snd (Zc 0 2 2 (Za (PV.sl 1 false (List.map enc (Prod.fst (Prod.snd (Zp (Za (PV.sl 1 false (List.map enc (Prod.fst (Prod.snd (Zg 1100 (-1000000000:Int) 1000000000 (Za (PV.sl 1 false (List.map enc (Prod.fst (Prod.snd (Zc 1 3 2 (Za (PV.sl 1 false (List.map enc x))) 0)))))) (Prod.snd (Prod.snd (Zc 1 3 2 (Za (PV.sl 1 false (List.map enc x))) 0))))))))) (Prod.snd (Prod.snd (Zg 1100 (-1000000000:Int) 1000000000 (Za (PV.sl 1 false (List.map enc (Prod.fst (Prod.snd (Zc 1 3 2 (Za (PV.sl 1 false (List.map enc x))) 0)))))) (Prod.snd (Prod.snd (Zc 1 3 2 (Za (PV.sl 1 false (List.map enc x))) 0)))))))))))) (Prod.snd (Prod.snd (Zp (Za (PV.sl 1 false (List.map enc (Prod.fst (Prod.snd (Zg 1100 (-1000000000:Int) 1000000000 (Za (PV.sl 1 false (List.map enc (Prod.fst (Prod.snd (Zc 1 3 2 (Za (PV.sl 1 false (List.map enc x))) 0)))))) (Prod.snd (Prod.snd (Zc 1 3 2 (Za (PV.sl 1 false (List.map enc x))) 0))))))))) (Prod.snd (Prod.snd (Zg 1100 (-1000000000:Int) 1000000000 (Za (PV.sl 1 false (List.map enc (Prod.fst (Prod.snd (Zc 1 3 2 (Za (PV.sl 1 false (List.map enc x))) 0)))))) (Prod.snd (Prod.snd (Zc 1 3 2 (Za (PV.sl 1 false (List.map enc x))) 0)))))))))))==2)=true then At (Vm N) 2 (ZC 2 X5 G) X8 0 79 [(0,(.ptr 0 0)),(1,(.ptr 1 0)),(4,(.ptr 2 0)),(5,(.ptr 3 0)),(6,(.pv (.int .i64 (Prod.fst (Zc 0 2 2 (Za (PV.sl 1 false (List.map enc (Prod.fst (Prod.snd (Zp (Za (PV.sl 1 false (List.map enc (Prod.fst (Prod.snd (Zg 1100 (-1000000000:Int) 1000000000 (Za (PV.sl 1 false (List.map enc (Prod.fst (Prod.snd (Zc 1 3 2 (Za (PV.sl 1 false (List.map enc x))) 0)))))) (Prod.snd (Prod.snd (Zc 1 3 2 (Za (PV.sl 1 false (List.map enc x))) 0))))))))) (Prod.snd (Prod.snd (Zg 1100 (-1000000000:Int) 1000000000 (Za (PV.sl 1 false (List.map enc (Prod.fst (Prod.snd (Zc 1 3 2 (Za (PV.sl 1 false (List.map enc x))) 0)))))) (Prod.snd (Prod.snd (Zc 1 3 2 (Za (PV.sl 1 false (List.map enc x))) 0)))))))))))) (Prod.snd (Prod.snd (Zp (Za (PV.sl 1 false (List.map enc (Prod.fst (Prod.snd (Zg 1100 (-1000000000:Int) 1000000000 (Za (PV.sl 1 false (List.map enc (Prod.fst (Prod.snd (Zc 1 3 2 (Za (PV.sl 1 false (List.map enc x))) 0)))))) (Prod.snd (Prod.snd (Zc 1 3 2 (Za (PV.sl 1 false (List.map enc x))) 0))))))))) (Prod.snd (Prod.snd (Zg 1100 (-1000000000:Int) 1000000000 (Za (PV.sl 1 false (List.map enc (Prod.fst (Prod.snd (Zc 1 3 2 (Za (PV.sl 1 false (List.map enc x))) 0)))))) (Prod.snd (Prod.snd (Zc 1 3 2 (Za (PV.sl 1 false (List.map enc x))) 0)))))))))))))),(7,(.pv (.int .i64 0)))] [(.obj (.box [(.pv (.sl 1 false (List.map enc (Prod.fst (Prod.snd (Zc 0 2 2 (Za (PV.sl 1 false (List.map enc (Prod.fst (Prod.snd (Zp (Za (PV.sl 1 false (List.map enc (Prod.fst (Prod.snd (Zg 1100 (-1000000000:Int) 1000000000 (Za (PV.sl 1 false (List.map enc (Prod.fst (Prod.snd (Zc 1 3 2 (Za (PV.sl 1 false (List.map enc x))) 0)))))) (Prod.snd (Prod.snd (Zc 1 3 2 (Za (PV.sl 1 false (List.map enc x))) 0))))))))) (Prod.snd (Prod.snd (Zg 1100 (-1000000000:Int) 1000000000 (Za (PV.sl 1 false (List.map enc (Prod.fst (Prod.snd (Zc 1 3 2 (Za (PV.sl 1 false (List.map enc x))) 0)))))) (Prod.snd (Prod.snd (Zc 1 3 2 (Za (PV.sl 1 false (List.map enc x))) 0)))))))))))) (Prod.snd (Prod.snd (Zp (Za (PV.sl 1 false (List.map enc (Prod.fst (Prod.snd (Zg 1100 (-1000000000:Int) 1000000000 (Za (PV.sl 1 false (List.map enc (Prod.fst (Prod.snd (Zc 1 3 2 (Za (PV.sl 1 false (List.map enc x))) 0)))))) (Prod.snd (Prod.snd (Zc 1 3 2 (Za (PV.sl 1 false (List.map enc x))) 0))))))))) (Prod.snd (Prod.snd (Zg 1100 (-1000000000:Int) 1000000000 (Za (PV.sl 1 false (List.map enc (Prod.fst (Prod.snd (Zc 1 3 2 (Za (PV.sl 1 false (List.map enc x))) 0)))))) (Prod.snd (Prod.snd (Zc 1 3 2 (Za (PV.sl 1 false (List.map enc x))) 0))))))))))))))),(.pv (.int .i64 3))])),(.obj (.box [(.pv (.int .i64 (IntKind.wrap IntKind.i64 (n - 1))))])),(.obj (.box [(.pv (.int .i64 0)),(.pv (.sl 0 true [])),(.pv (.int .i64 0)),(.pv (.sl 0 true [])),(.pv (.sl 0 true []))])),(.obj (.box [(.pv (.int .i64 (Prod.fst (Zc 1 3 2 (Za (PV.sl 1 false (List.map enc x))) 0)))),(.pv (.sl 1 false (List.map enc (Prod.fst (Zg 1100 (-1000000000:Int) 1000000000 (Za (PV.sl 1 false (List.map enc (Prod.fst (Prod.snd (Zc 1 3 2 (Za (PV.sl 1 false (List.map enc x))) 0)))))) (Prod.snd (Prod.snd (Zc 1 3 2 (Za (PV.sl 1 false (List.map enc x))) 0)))))))),(.pv (.int .i64 (Lin.k (Prod.fst (Zp (Za (PV.sl 1 false (List.map enc (Prod.fst (Prod.snd (Zg 1100 (-1000000000:Int) 1000000000 (Za (PV.sl 1 false (List.map enc (Prod.fst (Prod.snd (Zc 1 3 2 (Za (PV.sl 1 false (List.map enc x))) 0)))))) (Prod.snd (Prod.snd (Zc 1 3 2 (Za (PV.sl 1 false (List.map enc x))) 0))))))))) (Prod.snd (Prod.snd (Zg 1100 (-1000000000:Int) 1000000000 (Za (PV.sl 1 false (List.map enc (Prod.fst (Prod.snd (Zc 1 3 2 (Za (PV.sl 1 false (List.map enc x))) 0)))))) (Prod.snd (Prod.snd (Zc 1 3 2 (Za (PV.sl 1 false (List.map enc x))) 0))))))))))),(.pv (.sl 2 false (List.map enc (Lin.t (Prod.fst (Zp (Za (PV.sl 1 false (List.map enc (Prod.fst (Prod.snd (Zg 1100 (-1000000000:Int) 1000000000 (Za (PV.sl 1 false (List.map enc (Prod.fst (Prod.snd (Zc 1 3 2 (Za (PV.sl 1 false (List.map enc x))) 0)))))) (Prod.snd (Prod.snd (Zc 1 3 2 (Za (PV.sl 1 false (List.map enc x))) 0))))))))) (Prod.snd (Prod.snd (Zg 1100 (-1000000000:Int) 1000000000 (Za (PV.sl 1 false (List.map enc (Prod.fst (Prod.snd (Zc 1 3 2 (Za (PV.sl 1 false (List.map enc x))) 0)))))) (Prod.snd (Prod.snd (Zc 1 3 2 (Za (PV.sl 1 false (List.map enc x))) 0)))))))))))),(.pv (.sl 0 true []))]))]else(At (Vm N) 2 (ZC 2 X5 G) X8 0 79 [(0,(.ptr 0 0)),(1,(.ptr 1 0)),(4,(.ptr 2 0)),(5,(.ptr 3 0)),(6,(.pv (.int .i64 (Prod.fst (Zc 0 2 2 (Za (PV.sl 1 false (List.map enc (Prod.fst (Prod.snd (Zp (Za (PV.sl 1 false (List.map enc (Prod.fst (Prod.snd (Zg 1100 (-1000000000:Int) 1000000000 (Za (PV.sl 1 false (List.map enc (Prod.fst (Prod.snd (Zc 1 3 2 (Za (PV.sl 1 false (List.map enc x))) 0)))))) (Prod.snd (Prod.snd (Zc 1 3 2 (Za (PV.sl 1 false (List.map enc x))) 0))))))))) (Prod.snd (Prod.snd (Zg 1100 (-1000000000:Int) 1000000000 (Za (PV.sl 1 false (List.map enc (Prod.fst (Prod.snd (Zc 1 3 2 (Za (PV.sl 1 false (List.map enc x))) 0)))))) (Prod.snd (Prod.snd (Zc 1 3 2 (Za (PV.sl 1 false (List.map enc x))) 0)))))))))))) (Prod.snd (Prod.snd (Zp (Za (PV.sl 1 false (List.map enc (Prod.fst (Prod.snd (Zg 1100 (-1000000000:Int) 1000000000 (Za (PV.sl 1 false (List.map enc (Prod.fst (Prod.snd (Zc 1 3 2 (Za (PV.sl 1 false (List.map enc x))) 0)))))) (Prod.snd (Prod.snd (Zc 1 3 2 (Za (PV.sl 1 false (List.map enc x))) 0))))))))) (Prod.snd (Prod.snd (Zg 1100 (-1000000000:Int) 1000000000 (Za (PV.sl 1 false (List.map enc (Prod.fst (Prod.snd (Zc 1 3 2 (Za (PV.sl 1 false (List.map enc x))) 0)))))) (Prod.snd (Prod.snd (Zc 1 3 2 (Za (PV.sl 1 false (List.map enc x))) 0)))))))))))))),(7,(.pv (.int .i64 0)))] [(.obj (.box [(.pv (.sl 1 false (List.map enc (Prod.fst (Prod.snd (Zc 0 2 2 (Za (PV.sl 1 false (List.map enc (Prod.fst (Prod.snd (Zp (Za (PV.sl 1 false (List.map enc (Prod.fst (Prod.snd (Zg 1100 (-1000000000:Int) 1000000000 (Za (PV.sl 1 false (List.map enc (Prod.fst (Prod.snd (Zc 1 3 2 (Za (PV.sl 1 false (List.map enc x))) 0)))))) (Prod.snd (Prod.snd (Zc 1 3 2 (Za (PV.sl 1 false (List.map enc x))) 0))))))))) (Prod.snd (Prod.snd (Zg 1100 (-1000000000:Int) 1000000000 (Za (PV.sl 1 false (List.map enc (Prod.fst (Prod.snd (Zc 1 3 2 (Za (PV.sl 1 false (List.map enc x))) 0)))))) (Prod.snd (Prod.snd (Zc 1 3 2 (Za (PV.sl 1 false (List.map enc x))) 0)))))))))))) (Prod.snd (Prod.snd (Zp (Za (PV.sl 1 false (List.map enc (Prod.fst (Prod.snd (Zg 1100 (-1000000000:Int) 1000000000 (Za (PV.sl 1 false (List.map enc (Prod.fst (Prod.snd (Zc 1 3 2 (Za (PV.sl 1 false (List.map enc x))) 0)))))) (Prod.snd (Prod.snd (Zc 1 3 2 (Za (PV.sl 1 false (List.map enc x))) 0))))))))) (Prod.snd (Prod.snd (Zg 1100 (-1000000000:Int) 1000000000 (Za (PV.sl 1 false (List.map enc (Prod.fst (Prod.snd (Zc 1 3 2 (Za (PV.sl 1 false (List.map enc x))) 0)))))) (Prod.snd (Prod.snd (Zc 1 3 2 (Za (PV.sl 1 false (List.map enc x))) 0))))))))))))))),(.pv (.int .i64 (Prod.snd (Prod.snd (Zc 0 2 2 (Za (PV.sl 1 false (List.map enc (Prod.fst (Prod.snd (Zp (Za (PV.sl 1 false (List.map enc (Prod.fst (Prod.snd (Zg 1100 (-1000000000:Int) 1000000000 (Za (PV.sl 1 false (List.map enc (Prod.fst (Prod.snd (Zc 1 3 2 (Za (PV.sl 1 false (List.map enc x))) 0)))))) (Prod.snd (Prod.snd (Zc 1 3 2 (Za (PV.sl 1 false (List.map enc x))) 0))))))))) (Prod.snd (Prod.snd (Zg 1100 (-1000000000:Int) 1000000000 (Za (PV.sl 1 false (List.map enc (Prod.fst (Prod.snd (Zc 1 3 2 (Za (PV.sl 1 false (List.map enc x))) 0)))))) (Prod.snd (Prod.snd (Zc 1 3 2 (Za (PV.sl 1 false (List.map enc x))) 0)))))))))))) (Prod.snd (Prod.snd (Zp (Za (PV.sl 1 false (List.map enc (Prod.fst (Prod.snd (Zg 1100 (-1000000000:Int) 1000000000 (Za (PV.sl 1 false (List.map enc (Prod.fst (Prod.snd (Zc 1 3 2 (Za (PV.sl 1 false (List.map enc x))) 0)))))) (Prod.snd (Prod.snd (Zc 1 3 2 (Za (PV.sl 1 false (List.map enc x))) 0))))))))) (Prod.snd (Prod.snd (Zg 1100 (-1000000000:Int) 1000000000 (Za (PV.sl 1 false (List.map enc (Prod.fst (Prod.snd (Zc 1 3 2 (Za (PV.sl 1 false (List.map enc x))) 0)))))) (Prod.snd (Prod.snd (Zc 1 3 2 (Za (PV.sl 1 false (List.map enc x))) 0))))))))))))))])),(.obj (.box [(.pv (.int .i64 (IntKind.wrap IntKind.i64 (n - 1))))])),(.obj (.box [(.pv (.int .i64 0)),(.pv (.sl 0 true [])),(.pv (.int .i64 0)),(.pv (.sl 0 true [])),(.pv (.sl 0 true []))])),(.obj (.box [(.pv (.int .i64 (Prod.fst (Zc 1 3 2 (Za (PV.sl 1 false (List.map enc x))) 0)))),(.pv (.sl 1 false (List.map enc (Prod.fst (Zg 1100 (-1000000000:Int) 1000000000 (Za (PV.sl 1 false (List.map enc (Prod.fst (Prod.snd (Zc 1 3 2 (Za (PV.sl 1 false (List.map enc x))) 0)))))) (Prod.snd (Prod.snd (Zc 1 3 2 (Za (PV.sl 1 false (List.map enc x))) 0)))))))),(.pv (.int .i64 (Lin.k (Prod.fst (Zp (Za (PV.sl 1 false (List.map enc (Prod.fst (Prod.snd (Zg 1100 (-1000000000:Int) 1000000000 (Za (PV.sl 1 false (List.map enc (Prod.fst (Prod.snd (Zc 1 3 2 (Za (PV.sl 1 false (List.map enc x))) 0)))))) (Prod.snd (Prod.snd (Zc 1 3 2 (Za (PV.sl 1 false (List.map enc x))) 0))))))))) (Prod.snd (Prod.snd (Zg 1100 (-1000000000:Int) 1000000000 (Za (PV.sl 1 false (List.map enc (Prod.fst (Prod.snd (Zc 1 3 2 (Za (PV.sl 1 false (List.map enc x))) 0)))))) (Prod.snd (Prod.snd (Zc 1 3 2 (Za (PV.sl 1 false (List.map enc x))) 0))))))))))),(.pv (.sl 2 false (List.map enc (Lin.t (Prod.fst (Zp (Za (PV.sl 1 false (List.map enc (Prod.fst (Prod.snd (Zg 1100 (-1000000000:Int) 1000000000 (Za (PV.sl 1 false (List.map enc (Prod.fst (Prod.snd (Zc 1 3 2 (Za (PV.sl 1 false (List.map enc x))) 0)))))) (Prod.snd (Prod.snd (Zc 1 3 2 (Za (PV.sl 1 false (List.map enc x))) 0))))))))) (Prod.snd (Prod.snd (Zg 1100 (-1000000000:Int) 1000000000 (Za (PV.sl 1 false (List.map enc (Prod.fst (Prod.snd (Zc 1 3 2 (Za (PV.sl 1 false (List.map enc x))) 0)))))) (Prod.snd (Prod.snd (Zc 1 3 2 (Za (PV.sl 1 false (List.map enc x))) 0)))))))))))),(.pv (.sl 0 true []))]))])))))))):Zf (Vm N) 2 (ZC 2 X5 G) X8 [] (ZN 79 [.ptr 0 0,.ptr 1 0] [.box [.pv (.sl 1 false (x.map enc)),.pv (.int .i64 0)],.box [.pv (.int .i64 n)]]):=Zf.tf (.lit (.ask (.lit (.lit (.lit (.lit (.lit (.lit (.lit (.lit (.lit (.nil)))))))))) (.lit (.lit (.lit (.lit (.lit (.lit (.lit (.lit (.lit (.req (.keep (.req (.keep (.req (.keep (.lit (.ask (.nil) (.req (.keep (.lit (.ask (.nil) (.nil)))))))))))))))))))))))) h (by kernel_rfl)
theorem MR{G:AV×List AObj×List AObj->Prop}(N:Nat)(x:List UInt8)(n:Int)(z:List UInt8)(e w ck:Int)(cm:List Int)(lk:Int)(lt:List Coef)(c i:Int)(h:if (decide (i<c))=true then if (e==0)=true then(YE [AV.ptr 0 0,AV.ptr (0+1) 0] [AObj.box [AV.pv (PV.sl 1 false (List.map enc z)),AV.pv (PV.int .i64 e)],AObj.box [AV.pv (PV.int .i64 w)]]&&decide (WQ true [AV.ptr 0 0,AV.ptr (0+1) 0] [AObj.box [AV.pv (PV.sl 1 false (List.map enc z)),AV.pv (PV.int .i64 e)],AObj.box [AV.pv (PV.int .i64 w)]]<N))=true∧(At (Vm N) 2 (ZC 2 X5 G) X8 0 79 [(0,(.ptr 0 0)),(1,(.ptr 1 0)),(4,(.ptr 2 0)),(5,(.ptr 3 0)),(6,(.pv (.int .i64 c))),(7,(.pv (.int .i64 (IntKind.wrap IntKind.i64 (i+1)))))] [(.obj (.box [(.pv (.sl 1 false (List.map enc (Prod.fst (Prod.snd (Zx true (ZF true w) (Za (PV.sl 1 false (List.map enc z))))))))),(.pv (.int .i64 (Prod.fst (Prod.snd (Prod.snd (Zx true (ZF true w) (Za (PV.sl 1 false (List.map enc z)))))))))])),(.obj (.box [(.pv (.int .i64 (ZF true (Prod.snd (Prod.snd (Prod.snd (Zx true (ZF true w) (Za (PV.sl 1 false (List.map enc z))))))))))])),(.obj (.box [(.pv (.int .i64 0)),(.pv (.sl 0 true [])),(.pv (.int .i64 0)),(.pv (.sl 0 true [])),(.pv (.sl 0 true []))])),(.obj (.box [(.pv (.int .i64 ck)),(.pv (.sl 1 false (List.map enc cm))),(.pv (.int .i64 lk)),(.pv (.sl 2 false (List.map enc lt))),(.row 4 1 0 1)])),(.obj (.row false 28 5 [(.agg [(.int .i64 (C5.k (Prod.fst (Zx true (ZF true w) (Za (PV.sl 1 false (List.map enc z))))))),(.sl 1 false (List.map enc (C5.m (Prod.fst (Zx true (ZF true w) (Za (PV.sl 1 false (List.map enc z)))))))),(.int .i64 (C5.lk (Prod.fst (Zx true (ZF true w) (Za (PV.sl 1 false (List.map enc z))))))),(.sl 2 false (List.map enc (C5.lt (Prod.fst (Zx true (ZF true w) (Za (PV.sl 1 false (List.map enc z)))))))),(.sl 5 false (List.map enc (C5.ks (Prod.fst (Zx true (ZF true w) (Za (PV.sl 1 false (List.map enc z))))))))])]))])else(G (((.pv (.agg [(.int .i64 ck),(.sl 1 false (List.map enc cm)),(.int .i64 lk),(.sl 2 false (List.map enc lt)),(.sl 0 true [])])),([(.box [(.pv (.sl 1 false (List.map enc z))),(.pv (.int .i64 e))]),(.box [(.pv (.int .i64 w))])],[]))))else(G (((.pv (.agg [(.int .i64 ck),(.sl 1 false (List.map enc cm)),(.int .i64 lk),(.sl 2 false (List.map enc lt)),(.sl 0 true [])])),([(.box [(.pv (.sl 1 false (List.map enc z))),(.pv (.int .i64 e))]),(.box [(.pv (.int .i64 w))])],[]))))):At (Vm N) 2 (ZC 2 X5 G) X8 0 79 [(0,.ptr 0 0),(1,.ptr 1 0),(4,.ptr 2 0),(5,.ptr 3 0),(6,.pv (.int .i64 c)),(7,.pv (.int .i64 i))] [.obj (.box [.pv (.sl 1 false (z.map enc)),.pv (.int .i64 e)]),.obj (.box [.pv (.int .i64 w)]),.obj (.box [.pv (.int .i64 0),.pv (.sl 0 true []),.pv (.int .i64 0),.pv (.sl 0 true []),.pv (.sl 0 true [])]),.obj (.box [.pv (.int .i64 ck),.pv (.sl 1 false (cm.map enc)),.pv (.int .i64 lk),.pv (.sl 2 false (lt.map enc)),.pv (.sl 0 true [])])]:=At.tf (.lit (.ask (.lit (.lit (.lit (.lit (.lit (.lit (.ask (.req (.keep (.lit (.lit (.lit (.lit (.lit (.lit (.nil))))))))) (.nil)))))))) (.lit (.lit (.lit (.lit (.lit (.lit (.nil))))))))) h (by kernel_rfl)
theorem MS{G:AV×List AObj×List AObj->Prop}(N:Nat)(x:List UInt8)(n:Int)(z:List UInt8)(e w ck:Int)(cm:List Int)(lk:Int)(lt:List Coef)(c i:Int)(ts:List Cert)(q:Nat)(h:if (decide (i<c))=true then if (e==0)=true then(YE [AV.ptr 0 0,AV.ptr (0+1) 0] [AObj.box [AV.pv (PV.sl 1 false (List.map enc z)),AV.pv (PV.int .i64 e)],AObj.box [AV.pv (PV.int .i64 w)]]&&decide (WQ true [AV.ptr 0 0,AV.ptr (0+1) 0] [AObj.box [AV.pv (PV.sl 1 false (List.map enc z)),AV.pv (PV.int .i64 e)],AObj.box [AV.pv (PV.int .i64 w)]]<N))=true∧((List.length (List.map enc ts)==q&&q==q&&decide ((q+List.length (List.drop 0 (List.take 1 [enc (Prod.fst (Zx true (ZF true w) (Za (PV.sl 1 false (List.map enc z)))))])))*88<=1099511627776)&&decide (q+List.length (List.drop 0 (List.take 1 [enc (Prod.fst (Zx true (ZF true w) (Za (PV.sl 1 false (List.map enc z)))))]))<=1099511627776))=true∧(At (Vm N) 2 (ZC 2 X5 G) X8 0 79 [(0,(.ptr 0 0)),(1,(.ptr 1 0)),(4,(.ptr 2 0)),(5,(.ptr 3 0)),(6,(.pv (.int .i64 c))),(7,(.pv (.int .i64 (IntKind.wrap IntKind.i64 (i+1)))))] [(.obj (.box [(.pv (.sl 1 false (List.map enc (Prod.fst (Prod.snd (Zx true (ZF true w) (Za (PV.sl 1 false (List.map enc z))))))))),(.pv (.int .i64 (Prod.fst (Prod.snd (Prod.snd (Zx true (ZF true w) (Za (PV.sl 1 false (List.map enc z)))))))))])),(.obj (.box [(.pv (.int .i64 (ZF true (Prod.snd (Prod.snd (Prod.snd (Zx true (ZF true w) (Za (PV.sl 1 false (List.map enc z))))))))))])),(.obj (.box [(.pv (.int .i64 0)),(.pv (.sl 0 true [])),(.pv (.int .i64 0)),(.pv (.sl 0 true [])),(.pv (.sl 0 true []))])),(.obj (.box [(.pv (.int .i64 ck)),(.pv (.sl 1 false (List.map enc cm))),(.pv (.int .i64 lk)),(.pv (.sl 2 false (List.map enc lt))),(.row 4 (q+List.length (List.drop 0 (List.take 1 [enc (Prod.fst (Zx true (ZF true w) (Za (PV.sl 1 false (List.map enc z)))))]))) 0 (q+List.length (List.drop 0 (List.take 1 [enc (Prod.fst (Zx true (ZF true w) (Za (PV.sl 1 false (List.map enc z)))))]))))])),(.obj (.row false 28 5 (List.map enc ts++List.drop 0 (List.take 1 [enc (Prod.fst (Zx true (ZF true w) (Za (PV.sl 1 false (List.map enc z)))))]))))]))else((List.length (List.map enc ts)==q)=true∧(G (((.pv (.agg [(.int .i64 ck),(.sl 1 false (List.map enc cm)),(.int .i64 lk),(.sl 2 false (List.map enc lt)),(.sl 5 false (List.drop 0 (List.take q (List.map enc ts))))])),([(.box [(.pv (.sl 1 false (List.map enc z))),(.pv (.int .i64 e))]),(.box [(.pv (.int .i64 w))])],[])))))else((List.length (List.map enc ts)==q)=true∧(G (((.pv (.agg [(.int .i64 ck),(.sl 1 false (List.map enc cm)),(.int .i64 lk),(.sl 2 false (List.map enc lt)),(.sl 5 false (List.drop 0 (List.take q (List.map enc ts))))])),([(.box [(.pv (.sl 1 false (List.map enc z))),(.pv (.int .i64 e))]),(.box [(.pv (.int .i64 w))])],[])))))):At (Vm N) 2 (ZC 2 X5 G) X8 0 79 [(0,.ptr 0 0),(1,.ptr 1 0),(4,.ptr 2 0),(5,.ptr 3 0),(6,.pv (.int .i64 c)),(7,.pv (.int .i64 i))] [.obj (.box [.pv (.sl 1 false (z.map enc)),.pv (.int .i64 e)]),.obj (.box [.pv (.int .i64 w)]),.obj (.box [.pv (.int .i64 0),.pv (.sl 0 true []),.pv (.int .i64 0),.pv (.sl 0 true []),.pv (.sl 0 true [])]),.obj (.box [.pv (.int .i64 ck),.pv (.sl 1 false (cm.map enc)),.pv (.int .i64 lk),.pv (.sl 2 false (lt.map enc)),.row 4 q 0 q]),.obj (.row false 28 5 (ts.map enc))]:=At.tf (.lit (.ask (.lit (.lit (.lit (.lit (.lit (.lit (.ask (.req (.keep (.lit (.lit (.req (.lit (.nil))))))) (.req (.nil))))))))) (.lit (.lit (.lit (.lit (.lit (.lit (.req (.nil)))))))))) h (by kernel_rfl)
noncomputable def JD:IC:=Xp Proofs.Tryz.f10
def JV:List IRes:=[(.cell true 5 2)]
abbrev b9s:Nat:=45
def Dw:ZI:=YN [(34,.own YE (VU false))]
theorem c8o{G:AV×List AObj×List AObj->Prop}(x:List UInt8)(err:Int)(h:if (err != 0)=true then G (((.pv (.agg [(.int .i64 0),(.sl 0 true []),(.int .i64 0),(.sl 0 true []),(.sl 0 true [])])),([(.box [(.pv (.sl 1 false (List.map enc x))),(.pv (.int .i64 err))])],[])))else((YE [(.ptr 0 0),(.ptr 1 0)] [(.box [(.pv (.sl 1 false (List.map enc x))),(.pv (.int .i64 0))]),(.box [(.pv (.int .i64 0))])])=true∧(if (Prod.fst (Prod.snd (Prod.snd (Zx false (ZF false 0) (Za (PV.sl 1 false (List.map enc x)))))) != 0)=true then G (((.pv (.agg [(.int .i64 0),(.sl 0 true []),(.int .i64 0),(.sl 0 true []),(.sl 0 true [])])),([(.box [(.pv (.sl 1 false (List.map enc x))),(.pv (.int .i64 (Prod.fst (Prod.snd (Prod.snd (Zx false (ZF false 0) (Za (PV.sl 1 false (List.map enc x)))))))))])],[])))else(G (((.pv (.agg [(.int .i64 (C5.k (Prod.fst (Zx false (ZF false 0) (Za (PV.sl 1 false (List.map enc x))))))),(.sl 1 false (List.map enc (C5.m (Prod.fst (Zx false (ZF false 0) (Za (PV.sl 1 false (List.map enc x)))))))),(.int .i64 (C5.lk (Prod.fst (Zx false (ZF false 0) (Za (PV.sl 1 false (List.map enc x))))))),(.sl 2 false (List.map enc (C5.lt (Prod.fst (Zx false (ZF false 0) (Za (PV.sl 1 false (List.map enc x)))))))),(.sl 5 false (List.map enc (C5.ks (Prod.fst (Zx false (ZF false 0) (Za (PV.sl 1 false (List.map enc x))))))))])),([(.box [(.pv (.sl 1 false (List.map enc (Prod.fst (Prod.snd (Zx false (ZF false 0) (Za (PV.sl 1 false (List.map enc x))))))))),(.pv (.int .i64 (Prod.fst (Prod.snd (Prod.snd (Zx false (ZF false 0) (Za (PV.sl 1 false (List.map enc x)))))))))])],[]))))))):Zf Dw 1 (ZC 1 JV G) JD [] (ZN 45 [.ptr 0 0] [.box [.pv (.sl 1 false (x.map enc)),.pv (.int .i64 err)]]):=Zf.tf (.lit (.lit (.lit (.lit (.lit (.lit (.lit (.lit (.ask (.nil) (.req (.keep (.lit (.ask (.nil) (.nil)))))))))))))) h (by kernel_rfl)
theorem b9r{G:AV×List AObj×List AObj->Prop}(h:G (((.pv (.agg [(.int .i64 0),(.sl 0 true []),(.int .i64 0),(.sl 0 true []),(.sl 0 true [])])),([],[])))):Zf Dw 0 (ZC 0 JV G) JD [] (ZN 45 [.pv .nilp] []):=Zf.tf (.lit (.lit (.lit (.lit (.lit (.lit (.lit (.lit (.nil))))))))) h (by kernel_rfl)
noncomputable def KN:IC:=Xp Proofs.Tryz.f11
def KJ:List IRes:=[(.cell true 5 2)]
abbrev b1g:Nat:=33
def JY:ZI:=YN [(35,.own YE (VU true))]
theorem c1w{G:AV×List AObj×List AObj->Prop}(x:List UInt8)(err:Int)(h:if (err != 0)=true then G (((.pv (.agg [(.int .i64 0),(.sl 0 true []),(.int .i64 0),(.sl 0 true []),(.sl 0 true [])])),([(.box [(.pv (.sl 1 false (List.map enc x))),(.pv (.int .i64 err))])],[])))else((YE [(.ptr 0 0),(.ptr 1 0)] [(.box [(.pv (.sl 1 false (List.map enc x))),(.pv (.int .i64 err))]),(.box [(.pv (.int .i64 1000))])])=true∧(if (Prod.fst (Prod.snd (Prod.snd (Zx true (ZF true 1000) (Za (PV.sl 1 false (List.map enc x)))))) != 0)=true then G (((.pv (.agg [(.int .i64 0),(.sl 0 true []),(.int .i64 0),(.sl 0 true []),(.sl 0 true [])])),([(.box [(.pv (.sl 1 false (List.map enc x))),(.pv (.int .i64 (Prod.fst (Prod.snd (Prod.snd (Zx true (ZF true 1000) (Za (PV.sl 1 false (List.map enc x)))))))))])],[])))else(G (((.pv (.agg [(.int .i64 (C5.k (Prod.fst (Zx true (ZF true 1000) (Za (PV.sl 1 false (List.map enc x))))))),(.sl 1 false (List.map enc (C5.m (Prod.fst (Zx true (ZF true 1000) (Za (PV.sl 1 false (List.map enc x)))))))),(.int .i64 (C5.lk (Prod.fst (Zx true (ZF true 1000) (Za (PV.sl 1 false (List.map enc x))))))),(.sl 2 false (List.map enc (C5.lt (Prod.fst (Zx true (ZF true 1000) (Za (PV.sl 1 false (List.map enc x)))))))),(.sl 5 false (List.map enc (C5.ks (Prod.fst (Zx true (ZF true 1000) (Za (PV.sl 1 false (List.map enc x))))))))])),([(.box [(.pv (.sl 1 false (List.map enc (Prod.fst (Prod.snd (Zx true (ZF true 1000) (Za (PV.sl 1 false (List.map enc x))))))))),(.pv (.int .i64 (Prod.fst (Prod.snd (Prod.snd (Zx true (ZF true 1000) (Za (PV.sl 1 false (List.map enc x)))))))))])],[]))))))):Zf JY 1 (ZC 1 KJ G) KN [] (ZN 33 [.ptr 0 0] [.box [.pv (.sl 1 false (x.map enc)),.pv (.int .i64 err)]]):=Zf.tf (.lit (.lit (.lit (.lit (.lit (.lit (.lit (.lit (.ask (.nil) (.req (.keep (.lit (.ask (.nil) (.nil)))))))))))))) h (by kernel_rfl)
theorem b4i{G:AV×List AObj×List AObj->Prop}(h:G (((.pv (.agg [(.int .i64 0),(.sl 0 true []),(.int .i64 0),(.sl 0 true []),(.sl 0 true [])])),([],[])))):Zf JY 0 (ZC 0 KJ G) KN [] (ZN 33 [.pv .nilp] []):=Zf.tf (.lit (.lit (.lit (.lit (.lit (.lit (.lit (.lit (.nil))))))))) h (by kernel_rfl)
end Go.Pl
namespace Go.Pl
open Go.RowKit
open Enc (enc dec is)
open EncL (encL decL isL)
theorem a1r{l:List Int}{i:Nat}(h:i<l.length):(l.drop i).flatMap encI=encI l[i]++(l.drop (i+1)).flatMap encI:=by
 rw[List.drop_eq_getElem_cons h,List.flatMap_cons]
theorem Pf: ∀ (m:List Int),m.length<=(m.flatMap encI).length
 | []=>Nat.le_refl 0
 | n::m=>by
  have h:=Pf m
  have h2:=YM n
  rw[List.flatMap_cons,List.length_append,List.length_cons]
  omega
theorem a1k{l:List Int}{i:Nat}(h:i<l.length):AV.pv (PV.rptr (PV.cells (List.getD (List.map (enc:Int->PV) l) (Int.toNat (i:Int)) default)))=AV.pv (PV.rptr (PV.cells (enc l[i]))):=by
 rw[Int.toNat_natCast,Du h]
theorem a8i{l:List Int}{i:Nat}(h:i<l.length):(decide (0<=(i:Int))&&decide (Int.toNat (i:Int)<List.length (List.map (enc:Int->PV) l))&&Enc.sz Int==1)=true:=by
 rw[Int.toNat_natCast,List.length_map,decide_eq_true (show(0:Int)<=i by omega),decide_eq_true h];rfl
theorem c0d(n:Int):PV.asInt (List.getD (PV.cells (enc n)) 0 default)=n:=rfl
theorem a4g{G:AV×List AObj×List AObj->Prop}(x:List UInt8)(l:List Int): ∀ (n i q:Nat) (y:List UInt8),n+i=l.length->l.length<1000000->y.length=q->(y++(l.drop i).flatMap encI).length<=1000000 ->
  G (.row 0 (y++(l.drop i).flatMap encI).length 0 (y++(l.drop i).flatMap encI).length,[],[.row false 5 1 ((y++(l.drop i).flatMap encI).map enc)]) ->
  At Jj 0 (Zj 0 Qr G) QG 0 26 [(0,.row 0 q 0 q),(2,.pv (.fn 61)),(14,(.pv (.sl 1 false (List.map enc l)))),(15,(.pv (.int .i64 (l.length:Int)))),(16,(.pv (.int .i64 (i:Int))))] [.obj (.row false 5 1 (y.map enc))]:=by
 intro n
 induction n with
 | zero=>
  intro i q y hn hl hq h hG
  rw[List.drop_of_length_le (by omega),List.flatMap_nil,List.append_nil,hq]at hG
  exact a2x x l y q i (Zv (by simp;omega) hG)
 | succ n ih=>
  intro i q y hn hl hq h hG
  have hi:i<l.length:=by omega
  have e:=a1r hi
  rw[e,<- List.append_assoc]at h hG
  have h3:=ih (i+1) (q+(encI l[i]).length) (y++encI l[i]) (by omega) hl (by rw[List.length_append,hq]) h hG
  rw[List.map_append]at h3
  have hle:=h
  simp only[List.length_append]at hle
  refine a2x x l y q i (Zu (by simp;omega) ⟨a8i hi,l[i],a1k hi,?_⟩)
  rw[c0d,next (by omega)]
  exact⟨Re y _ hq (by omega),h3⟩
theorem b3l: ∀ args os,KS 61 args os=true->Zf Jj os.length (Zj os.length Qr fun r=>r=Dx 5 args os) QG [] (ZN c7g args os):=by
 intro args os h
 unfold KS at h
 split at h
 ·rename_i p pl f
  simp only[Bool.and_eq_true,decide_eq_true_eq,beq_iff_eq]at h
  obtain⟨⟨⟨rfl,hc⟩,hd⟩,hl⟩:=h
  obtain⟨x,rfl⟩:=XX hc
  obtain⟨l,rfl⟩:=XX hd
  rw[Zz,Enc.dec_enc]at hl
  have hv:Dx 5 [.pv (enc x),.pv (enc l),.pv (.fn 61)] []=(.row 0 (x++encIs l).length 0 (x++encIs l).length,[],[.row false 5 1 ((x++encIs l).map enc)]):=by
   show(AV.row 0 (Za (enc x)++encIs (dec (enc l))).length 0 _,_,_)=_
   rw[Zz,Enc.dec_enc]
  rw[hv]
  have e:x++encIs l=(x++encI l.length)++(l.drop 0).flatMap encI:=by unfold encIs;rw[List.drop_zero,List.append_assoc]
  have h2:=Pf l
  have hlen:=hl
  unfold encIs at hlen
  simp only[List.length_append]at hlen
  have hpos:=YM l.length
  rw[e]at hl ⊢
  have h3:=a4g (G:=fun r=>r=(.row 0 (x++encI l.length++(l.drop 0).flatMap encI).length 0 (x++encI l.length++(l.drop 0).flatMap encI).length,[],[.row false 5 1 ((x++encI l.length++(l.drop 0).flatMap encI).map enc)])) x l l.length 0 _ (x++encI l.length) rfl (by omega) List.length_append hl rfl
  rw[List.map_append (l₁:=x) (l₂:=encI l.length)]at h3
  refine c8r x l ⟨F5 x (by omega),?_⟩
  rw[Zz,List.length_map]
  exact⟨Re x _ rfl (by omega),h3⟩
 ·cases h
theorem b2t: ∀ x:List UInt8×List Int×Unit,decide ((x.1++encIs x.2.1).length<=1000000)=true->Zf La 0 (Ze Rt (ZB (x.1++encIs x.2.1))) PQ [] (Yp c5f (encL x)):=by
 rintro⟨x,l,⟨⟩⟩ h
 have h:(x++encIs l).length<=1000000:=of_decide_eq_true h
 have hp:KS 61 [(.pv (.sl 1 false (List.map enc x))),(.pv (.sl 1 false (List.map enc l))),(.pv (.fn 61))] []=true:=by
  show((61:Nat)==61&&QV (List UInt8) (enc x)&&QV (List Int) (enc l)&&decide ((Za (enc x)++encIs (dec (enc l))).length<=1000000))=true
  rw[YD,YD,Zz,Enc.dec_enc,decide_eq_true h];rfl
 refine d1q x l ⟨hp,?_⟩
 rw[Zz,show(dec (enc l:PV):List Int)=l from Enc.dec_enc l]
 refine⟨by rw[List.length_map];simp,?_⟩
 rw[List.take_of_length_le (by simp),List.drop_zero]
 exact YC (x:=x++encIs l) rfl
theorem a4i(x:List UInt8)(l:List Int): ∀ (n i:Nat) (y:List UInt8),n+i=l.length->l.length<1000000->(y++(l.drop i).flatMap encI).length<=1000000 ->
  At QS 0 (Ze UT (ZB (y++(l.drop i).flatMap encI))) UQ 0 24 [(1,(.pv (.sl 1 false (List.map enc l)))),(5,(.pv (.sl 1 false (List.map enc y)))),(6,(.pv (.int .i64 (i:Int))))] []:=by
 intro n
 induction n with
 | zero=>
  intro i y hn hl h
  refine a0w x l y i (Zv (by simp;omega) (YC (x:=y) ?_))
  rw[List.drop_of_length_le (by omega),List.flatMap_nil,List.append_nil]
 | succ n ih=>
  intro i y hn hl h
  have hi:i<l.length:=by omega
  have e:=a1r hi
  rw[e,<- List.append_assoc]at h ⊢
  have h3:=ih (i+1) (y++encI l[i]) (by omega) hl h
  simp only[List.length_append]at h
  refine a0w x l y i (Zu (by simp;omega) ⟨a8i hi,l[i],a1k hi,?_⟩)
  rw[c0d,next (by omega)]
  exact⟨Kb y _ (by omega),Yi (v:=y++encI l[i]) (y,l[i],()) rfl rfl h3⟩
theorem b5k: ∀ x:List UInt8×List Int×Unit,decide ((x.1++encIs x.2.1).length<=1000000)=true->Zf QS 0 (Ze UT (ZB (x.1++encIs x.2.1))) UQ [] (Yp c0h (encL x)):=by
 rintro⟨x,l,⟨⟩⟩ h
 have h:(x++encIs l).length<=1000000:=of_decide_eq_true h
 have e:x++encIs l=(x++encI l.length)++(l.drop 0).flatMap encI:=by unfold encIs;rw[List.drop_zero,List.append_assoc]
 have h2:=Pf l
 have hlen:=h
 unfold encIs at hlen
 simp only[List.length_append]at hlen
 have hpos:=YM l.length
 show Zf QS 0 (Ze UT (ZB (x++encIs l))) UQ [] _
 rw[e]at h ⊢
 have h3:=a4i x l l.length 0 _ rfl (by omega) h
 refine c9k x l ?_
 rw[List.length_map]
 exact⟨Kb x _ (by omega),Yi (v:=x++encI l.length) (x,(l.length:Int),()) rfl rfl h3⟩
theorem b4f: ∀ args os,Jm args os=true->Zf Lm os.length (Zj os.length Pq fun r=>r=Ob args os) P9 [] (ZN c2t args os):=by
 intro args os h
 unfold Jm at h
 split at h
 ·rename_i lo hi p err
  obtain⟨x,rfl,hl⟩:=Yg h
  exact d2x x err lo hi ⟨ZW hl,rfl⟩
 ·cases h
def GIs(os:List AObj)(v:List Int×List UInt8×Int)(r:AV×List AObj×List AObj):Prop:= ∃ p p',r.1 = .pv p∧Sub p p'∧JG v os=(.pv p',r.2)
theorem VN{v:List Int×List UInt8×Int}{z:List UInt8}{e:Int}{os:List AObj}(h:v=([],z,e)):GIs os v (.pv (.sl 0 true []),sB z e::os,[]):=by
 subst h
 exact⟨_,_,rfl,.nil 0 1 true false (by simp),rfl⟩
theorem CG{v:List Int×List UInt8×Int}{z:List UInt8}{e:Int}{ts:List Int}{os:List AObj}(h:v=(ts,z,e)):GIs os v (.pv (.sl 1 false (ts.map enc)),sB z e::os,[]):=by
 subst h
 exact⟨_,_,rfl,.refl _,rfl⟩
theorem L8{ts:List Int}{m:Nat}(h:ts.length=m):List.drop 0 (List.take m (List.map (enc:Int->PV) ts))=ts.map enc:=by
 rw[List.take_of_length_le (by rw[List.length_map];omega),List.drop_zero]
def DF(ts:List Int)(r:List Int×List UInt8×Int):List Int×List UInt8×Int:=(ts++r.1,r.2)
theorem H7{lo hi e:Int}(h:e≠0): ∀ (j:Nat) (z:List UInt8),YX lo hi j z e=([],z,e)
 | 0,z=>rfl
 | j+1,z=>by rw[YX,if_pos h]
theorem JB{ts:List Int}{n:Int}{r:List Int×List UInt8×Int}:DF ts (n::r.1,r.2)=DF (ts++[n]) r:=by
 unfold DF
 rw[show ts++[n]++r.1=ts++(n::r.1) by rw[List.append_assoc];rfl]
theorem b0g{z:List UInt8}(lo hi e:Int)(h:z.length<=9000000):Jm [.ptr 0 0,.ptr 1 0,.ptr 2 0] [.box [.ptr 3 0],.box [.pv (.int .i64 lo)],.box [.pv (.int .i64 hi)],.box [.pv (.sl 1 false (List.map enc z)),.pv (.int .i64 e)]]=true:=ZW h
theorem Ov{z:List UInt8}(lo hi k e:Int)(h:z.length<=9000000):YA [.ptr 0 0,.pv (.int .i64 lo),.pv (.int .i64 hi),.pv (.int .i64 k)] [.box [.pv (.sl 1 false (List.map enc z)),.pv (.int .i64 e)]]=true:=ZW h
theorem b0p{ts:List Int}{m:Nat}(hm:ts.length=m)(h:m<=2000)(b:PV):(List.length (List.map (enc:Int->PV) ts)==m&&m==m&&decide ((m+List.length (List.drop 0 (List.take 1 [b])))*8<=1099511627776)&&decide (m+List.length (List.drop 0 (List.take 1 [b]))<=1099511627776))=true:=by
 rw[List.length_map,hm]
 simp
 omega
theorem SY{ts:List Int}{m:Nat}(hm:ts.length=m):(List.length (List.map (enc:Int->PV) ts)==m)=true:=by rw[List.length_map,hm];simp
def d2z(x:List UInt8)(r:List Int×List UInt8×Int):List Int×List UInt8×Int:=if r.2.2≠0 then([],x,r.2.2)else r
theorem Ce{x:List UInt8}{r:List Int×List UInt8×Int}(h:r.2.2≠0):d2z x r=([],x,r.2.2):=if_pos h
theorem Gg{x:List UInt8}{r:List Int×List UInt8×Int}(h:r.2.2=0):d2z x r=r:=if_neg (fun e=>e h)
theorem HY{ts:List Int}{z:List UInt8}{e:Int}:DF ts ([],z,e)=(ts,z,e):=by unfold DF;rw[List.append_nil]
theorem a0a(x:List UInt8)(err lo hi most n:Int): ∀ (j i m:Nat) (z:List UInt8) (e:Int) (ts:List Int),i+j=n.toNat->(e=0->n<=2000)->ts.length=m->m<=i->z.length<=9000000 ->
  At VV 4 (ZC 4 Wz (GIs [.box [.ptr 0 0],Va lo,Va hi] (DF ts (YX lo hi j z e)))) Wx 0 31 [(0,.ptr 0 0),(2,.fn 109 [] [.ptr 1 0,.ptr 2 0,.ptr 3 0]),(7,.pv (.int .i64 n)),(8,.row 4 m 0 m),(9,.pv (.int .i64 (i:Int)))] [.obj (.box [.pv (.sl 1 false (z.map enc)),.pv (.int .i64 e)]),.obj (.box [.ptr 0 0]),.obj (.box [.pv (.int .i64 lo)]),.obj (.box [.pv (.int .i64 hi)]),.obj (.row false 3 1 (ts.map enc))]:=by
 intro j
 induction j with
 | zero=>
  intro i m z e ts hj hn hm hmi hz
  refine M6 x err lo hi most z e n i ts m (Zv (by simp;omega) ?_)
  rw[show YX lo hi 0 z e=([],z,e)from rfl]
  exact⟨SY hm,by rw[L8 hm,HY];exact CG rfl⟩
 | succ j ih=>
  intro i m z e ts hj hn hm hmi hz
  refine M6 x err lo hi most z e n i ts m (Zu (by simp;omega) ?_)
  by_cases he:e=0
  ·subst he
   have hn2:=hn rfl
   have h1:=ZX lo hi 2 z 0
   have h4:=ih (i+1) (m+1) (Zc lo hi 2 z 0).2.1 (Zc lo hi 2 z 0).2.2 (ts++[(Zc lo hi 2 z 0).1]) (by omega) (fun _=>hn2) (by simp[hm]) (by omega) (by omega)
   rw[<- JB,List.map_append (l₁:=ts) (l₂:=[(Zc lo hi 2 z 0).1])]at h4
   refine Zu rfl ⟨b0g _ _ _ hz,b0p hm (by omega) _,?_⟩
   rw[ZM,next (by omega),show YX lo hi (j+1) z 0=((Zc lo hi 2 z 0).1::(YX lo hi j (Zc lo hi 2 z 0).2.1 (Zc lo hi 2 z 0).2.2).1,(YX lo hi j (Zc lo hi 2 z 0).2.1 (Zc lo hi 2 z 0).2.2).2)from rfl]
   exact h4
  ·rw[H7 he]
   refine Zv (by simpa using he) ?_
   exact⟨SY hm,by rw[L8 hm,HY];exact CG rfl⟩
theorem E9(x:List UInt8)(err lo hi most n:Int): ∀ (j i:Nat) (z:List UInt8) (e:Int),i=0->j=n.toNat->(e=0->n<=2000)->z.length<=9000000 ->
  At VV 4 (ZC 4 Wz (GIs [.box [.ptr 0 0],Va lo,Va hi] (DF [] (YX lo hi j z e)))) Wx 0 31 [(0,.ptr 0 0),(2,.fn 109 [] [.ptr 1 0,.ptr 2 0,.ptr 3 0]),(7,.pv (.int .i64 n)),(8,.pv (.sl 0 true [])),(9,.pv (.int .i64 (i:Int)))] [.obj (.box [.pv (.sl 1 false (z.map enc)),.pv (.int .i64 e)]),.obj (.box [.ptr 0 0]),.obj (.box [.pv (.int .i64 lo)]),.obj (.box [.pv (.int .i64 hi)])]:=by
 intro j i z e hi0 hj hn hz
 subst hi0
 cases j with
 | zero=>
  refine MU x err lo hi most z e n (0:Nat) (Zv (by simp;omega) ?_)
  exact VN rfl
 | succ j=>
  refine MU x err lo hi most z e n (0:Nat) (Zu (by simp;omega) ?_)
  by_cases he:e=0
  ·subst he
   have hn2:=hn rfl
   have h1:=ZX lo hi 2 z 0
   have h4:=a0a x err lo hi most n j 1 1 (Zc lo hi 2 z 0).2.1 (Zc lo hi 2 z 0).2.2 ([]++[(Zc lo hi 2 z 0).1]) (by omega) (fun _=>hn2) rfl (by omega) (by omega)
   rw[<- JB]at h4
   refine Zu rfl ⟨b0g _ _ _ hz,?_⟩
   rw[ZM,next (by omega),show YX lo hi (j+1) z 0=((Zc lo hi 2 z 0).1::(YX lo hi j (Zc lo hi 2 z 0).2.1 (Zc lo hi 2 z 0).2.2).1,(YX lo hi j (Zc lo hi 2 z 0).2.1 (Zc lo hi 2 z 0).2.2).2)from rfl]
   exact h4
  ·rw[H7 he]
   refine Zv (by simpa using he) ?_
   exact VN rfl
theorem L9(x:List UInt8)(err lo hi most n:Int): ∀ (j i m:Nat) (z:List UInt8) (e:Int) (ts:List Int),i+j=n.toNat->(e=0->n<=2000)->ts.length=m->m<=i->z.length<=9000000 ->
  At WE 1 (ZC 1 XB (GIs [] (d2z x (DF ts (YX lo hi j z e))))) XD 0 58 [(0,.ptr 0 0),(2,.pv (.int .i64 lo)),(3,.pv (.int .i64 hi)),(9,.pv (.sl 1 false (x.map enc))),(10,.pv (.int .i64 n)),(11,.row 1 m 0 m),(12,.pv (.int .i64 (i:Int)))] [.obj (.box [.pv (.sl 1 false (z.map enc)),.pv (.int .i64 e)]),.obj (.row false 3 1 (ts.map enc))]:=by
 intro j
 induction j with
 | zero=>
  intro i m z e ts hj hn hm hmi hz
  refine Pb x err lo hi most z e n i ts m (Zv (by simp;omega) ?_)
  rw[show YX lo hi 0 z e=([],z,e)from rfl]
  exact(show if (e != 0)=true then _ else _ from by
   rw[HY]
   by_cases he:e=0
   ·exact Zv (by simpa using he) ⟨SY hm,by rw[L8 hm];exact CG (Gg he)⟩
   ·exact Zu (by simpa using he) (VN (Ce he)))
 | succ j ih=>
  intro i m z e ts hj hn hm hmi hz
  refine Pb x err lo hi most z e n i ts m (Zu (by simp;omega) ?_)
  by_cases he:e=0
  ·subst he
   have hn2:=hn rfl
   have h1:=ZX lo hi 2 z 0
   have h4:=ih (i+1) (m+1) (Zc lo hi 2 z 0).2.1 (Zc lo hi 2 z 0).2.2 (ts++[(Zc lo hi 2 z 0).1]) (by omega) (fun _=>hn2) (by simp[hm]) (by omega) (by omega)
   rw[<- JB,List.map_append (l₁:=ts) (l₂:=[(Zc lo hi 2 z 0).1])]at h4
   refine Zu rfl ⟨Ov _ _ _ _ hz,b0p hm (by omega) _,?_⟩
   rw[ZM,next (by omega),show YX lo hi (j+1) z 0=((Zc lo hi 2 z 0).1::(YX lo hi j (Zc lo hi 2 z 0).2.1 (Zc lo hi 2 z 0).2.2).1,(YX lo hi j (Zc lo hi 2 z 0).2.1 (Zc lo hi 2 z 0).2.2).2)from rfl]
   exact h4
  ·rw[H7 he]
   refine Zv (by simpa using he) ?_
   exact(show if (e != 0)=true then _ else _ from by
   rw[HY]
   by_cases he:e=0
   ·exact Zv (by simpa using he) ⟨SY hm,by rw[L8 hm];exact CG (Gg he)⟩
   ·exact Zu (by simpa using he) (VN (Ce he)))
theorem OD(x:List UInt8)(err lo hi most n:Int): ∀ (j i:Nat) (z:List UInt8) (e:Int),i=0->j=n.toNat->(e=0->n<=2000)->z.length<=9000000 ->
  At WE 1 (ZC 1 XB (GIs [] (d2z x (DF [] (YX lo hi j z e))))) XD 0 58 [(0,.ptr 0 0),(2,.pv (.int .i64 lo)),(3,.pv (.int .i64 hi)),(9,.pv (.sl 1 false (x.map enc))),(10,.pv (.int .i64 n)),(11,.pv (.sl 0 true [])),(12,.pv (.int .i64 (i:Int)))] [.obj (.box [.pv (.sl 1 false (z.map enc)),.pv (.int .i64 e)])]:=by
 intro j i z e hi0 hj hn hz
 subst hi0
 cases j with
 | zero=>
  refine Tt x err lo hi most z e n (0:Nat) (Zv (by simp;omega) ?_)
  exact(show if (e != 0)=true then _ else _ from by
   by_cases he:e=0
   ·exact Zv (by simpa using he) (VN (Gg he))
   ·exact Zu (by simpa using he) (VN (Ce he)))
 | succ j=>
  refine Tt x err lo hi most z e n (0:Nat) (Zu (by simp;omega) ?_)
  by_cases he:e=0
  ·subst he
   have hn2:=hn rfl
   have h1:=ZX lo hi 2 z 0
   have h4:=L9 x err lo hi most n j 1 1 (Zc lo hi 2 z 0).2.1 (Zc lo hi 2 z 0).2.2 ([]++[(Zc lo hi 2 z 0).1]) (by omega) (fun _=>hn2) rfl (by omega) (by omega)
   rw[<- JB]at h4
   refine Zu rfl ⟨Ov _ _ _ _ hz,?_⟩
   rw[ZM,next (by omega),show YX lo hi (j+1) z 0=((Zc lo hi 2 z 0).1::(YX lo hi j (Zc lo hi 2 z 0).2.1 (Zc lo hi 2 z 0).2.2).1,(YX lo hi j (Zc lo hi 2 z 0).2.1 (Zc lo hi 2 z 0).2.2).2)from rfl]
   exact h4
  ·rw[H7 he]
   refine Zv (by simpa using he) ?_
   exact(show if (e != 0)=true then _ else _ from by
   by_cases he:e=0
   ·exact Zv (by simpa using he) (VN (Gg he))
   ·exact Zu (by simpa using he) (VN (Ce he)))
theorem b3f: ∀ args os,J8 109 args os=true->Zf VV os.length (ZC os.length Wz fun r=> ∃ p p',r.1 = .pv p∧Sub p p'∧CW args os=(.pv p',r.2)) Wx [] (ZN c6x args os):=by
 intro args os h
 unfold J8 at h
 split at h
 ·rename_i most g p err lo hi
  simp only[Bool.and_eq_true,beq_iff_eq,decide_eq_true_eq]at h
  obtain⟨⟨⟨rfl,h⟩,h1⟩,h2⟩:=h
  obtain⟨x,rfl,hl⟩:=Yg h
  have hv:CW [.ptr 0 0,.pv (.int .i64 most),.fn 109 [] [.ptr 1 0,.ptr 2 0,.ptr 3 0]] [.box [.pv (enc x),.pv (.int .i64 err)],.box [.ptr 0 0],.box [.pv (.int .i64 lo)],.box [.pv (.int .i64 hi)]]=JG (UU most lo hi x err) [.box [.ptr 0 0],Va lo,Va hi]:=by
   show JG (UU most lo hi (Za (enc x)) err) _=_
   rw[Zz]
  rw[hv]
  show Zf VV 4 (ZC 4 Wz (GIs [.box [.ptr 0 0],Va lo,Va hi] (UU most lo hi x err))) Wx [] _
  have hn:=Q4 (lo:=0) (hi:=most) (e:=3) (x:=x) (err:=err) (by decide) h2 (by decide)
  have hle:=ZX 0 most 3 x err
  refine d3h x err lo hi most ⟨Ov _ _ _ _ hl,?_⟩
  rw[ZM]
  exact E9 x err lo hi most _ _ 0 _ _ rfl rfl (fun _=>by omega) (by omega)
 ·cases h
theorem a5g: ∀ args os,KH args os=true->Zf PN os.length (ZC os.length Bp fun r=> ∃ p p',r.1 = .pv p∧Sub p p'∧BL args os=(.pv p',r.2)) Al [] (ZN b7l args os):=by
 intro args os h
 unfold KH at h
 split at h
 ·rename_i p err most lo hi
  simp only[Bool.and_eq_true,decide_eq_true_eq]at h
  obtain⟨⟨h,h1⟩,h2⟩:=h
  obtain⟨x,rfl,hl⟩:=Yg h
  refine c2v x err lo hi most ⟨?_,_,_,rfl,.refl _,rfl⟩
  show((109:Nat)==109&&XL _&&decide (most<=2000)&&decide (0<=most))=true
  rw[ZW hl,decide_eq_true h1,decide_eq_true h2];rfl
 ·cases h
theorem b7f: ∀ args os,JS 107 args os=true->Zf Ti os.length (ZC os.length D8 fun r=> ∃ p p',r.1 = .pv p∧Sub p p'∧DK args os=(.pv p',r.2)) Bc [] (ZN b8r args os):=by
 intro args os h
 unfold JS at h
 split at h
 ·rename_i g p err most lo hi
  simp only[Bool.and_eq_true,beq_iff_eq,decide_eq_true_eq]at h
  obtain⟨⟨⟨rfl,h⟩,h1⟩,h2⟩:=h
  obtain⟨x,rfl,hl⟩:=Yg h
  have hv:DK [.ptr 0 0,.fn 107 [] [.ptr 1 0,.ptr 2 0,.ptr 3 0]] [.box [.pv (enc x),.pv (.int .i64 err)],.box [.pv (.int .i64 most)],.box [.pv (.int .i64 lo)],.box [.pv (.int .i64 hi)]]=JG (Zg most lo hi x err) [Va most,Va lo,Va hi]:=by
   show JG (Zg most lo hi (Za (enc x)) err) _=_
   rw[Zz]
  rw[hv]
  show Zf Ti 4 (ZC 4 D8 (GIs [Va most,Va lo,Va hi] (Zg most lo hi x err))) Bc [] _
  refine d0t x err lo hi most ?_
  rw[ZM]
  unfold Zg
  by_cases he:err=0
  ·subst he
   rw[if_neg (show ¬ (0:Int)≠0 by simp)]
   refine Zv (by simp) ⟨by show(XL _&&decide (most<=2000)&&decide (0<=most))=true;rw[ZW hl,decide_eq_true h1,decide_eq_true h2];rfl,?_⟩
   generalize UU most lo hi x 0=a
   by_cases h0:a.2.2=0
   ·exact Zv (by simpa using h0) (CG (by simp only[if_neg (show ¬ a.2.2≠0 by simpa using h0)];exact a8b h0))
   ·exact Zu (by simpa using h0) (VN (by simp only[if_pos h0]))
  ·rw[if_pos he]
   exact Zu (by simpa using he) (VN rfl)
 ·cases h
theorem a5u: ∀ args os,Xg args os=true->Zf Po os.length (ZC os.length Ab fun r=> ∃ p p',r.1 = .pv p∧Sub p p'∧Uh args os=(.pv p',r.2)) Ay [] (ZN b2k args os):=by
 intro args os h
 unfold Xg at h
 split at h
 ·rename_i most lo hi p err
  simp only[Bool.and_eq_true,decide_eq_true_eq]at h
  obtain⟨⟨h,h1⟩,h2⟩:=h
  obtain⟨x,rfl,hl⟩:=Yg h
  refine c5v x err lo hi most ⟨?_,_,_,rfl,.refl _,rfl⟩
  show((107:Nat)==107&&XL _&&decide (most<=2000)&&decide (0<=most))=true
  rw[ZW hl,decide_eq_true h1,decide_eq_true h2];rfl
 ·cases h
theorem a7l: ∀ args os,Xg args os=true->Zf WE os.length (ZC os.length XB fun r=> ∃ p p',r.1 = .pv p∧Sub p p'∧Uh args os=(.pv p',r.2)) XD [] (ZN b2u args os):=by
 intro args os h
 unfold Xg at h
 split at h
 ·rename_i most lo hi p err
  simp only[Bool.and_eq_true,decide_eq_true_eq]at h
  obtain⟨⟨h,h1⟩,h2⟩:=h
  obtain⟨x,rfl,hl⟩:=Yg h
  have hv:Uh [.ptr 0 0,.pv (.int .i64 most),.pv (.int .i64 lo),.pv (.int .i64 hi)] [.box [.pv (enc x),.pv (.int .i64 err)]]=JG (Zg most lo hi x err) []:=by
   show JG (Zg most lo hi (Za (enc x)) err) _=_
   rw[Zz]
  rw[hv]
  show Zf WE 1 (ZC 1 XB (GIs [] (Zg most lo hi x err))) XD [] _
  refine c4n x err lo hi most ?_
  unfold Zg
  by_cases he:err=0
  ·subst he
   rw[if_neg (show ¬ (0:Int)≠0 by simp)]
   have hn:=Q4 (lo:=0) (hi:=most) (e:=3) (x:=x) (err:=0) (by decide) h2 (by decide)
   have hle:=ZX 0 most 3 x 0
   refine Zv (by simp) ⟨Ov _ _ _ _ hl,?_⟩
   rw[ZM]
   exact OD x 0 lo hi most _ _ 0 _ _ rfl rfl (fun _=>by omega) (by omega)
  ·rw[if_pos he]
   exact Zu (by simpa using he) (VN rfl)
 ·cases h
theorem UW(t:Bool)(u:Int):ZF t (ZF t u)=u:=by unfold ZF;cases t <;> simp <;> omega
theorem GA(y:C5):(enc y.c:PV)=enc y:=by rw[<- d6d];rfl
def GC(t:Bool)(v:C5×List UInt8×Int×Int)(r:AV×List AObj×List AObj):Prop:= ∃ p p',r.1 = .pv p∧Sub p p'∧d1l t v=(.pv p',r.2)
theorem e1c(k:Int)(m:List Int)(lk:Int)(lt:List Coef):Sub (.agg [.int .i64 k,.sl 1 false (m.map enc),.int .i64 lk,.sl 2 false (lt.map enc),.sl 0 true []]) (enc (⟨k,m,lk,lt,[]⟩:C5)):=by
 refine .agg _ _ rfl ?_
 intro j a b ha hb
 match j with
 | 0=>cases ha;cases hb;exact .refl _
 | 1=>cases ha;cases hb;exact .refl _
 | 2=>cases ha;cases hb;exact .refl _
 | 3=>cases ha;cases hb;exact .refl _
 | 4=>cases ha;cases hb;exact .nil 0 5 true false (by simp)
 | j+5=>cases ha
theorem b0o:Sub (.agg [.int .i64 0,.sl 0 true [],.int .i64 0,.sl 0 true [],.sl 0 true []]) (enc QC):=by
 refine .agg _ _ rfl ?_
 intro j a b ha hb
 match j with
 | 0=>cases ha;cases hb;exact .refl _
 | 1=>cases ha;cases hb;exact .nil 0 1 true false (by simp)
 | 2=>cases ha;cases hb;exact .refl _
 | 3=>cases ha;cases hb;exact .nil 0 2 true false (by simp)
 | 4=>cases ha;cases hb;exact .nil 0 5 true false (by simp)
 | j+5=>cases ha
theorem LA{t:Bool}{v:C5×List UInt8×Int×Int}{k lk e u n:Int}{m:List Int}{lt:List Coef}{z:List UInt8}(h:v=(⟨k,m,lk,lt,[]⟩,z,e,u))(hn:n=ZF t u):GC t v (((.pv (.agg [(.int .i64 k),(.sl 1 false (List.map enc m)),(.int .i64 lk),(.sl 2 false (List.map enc lt)),(.sl 0 true [])])),([(.box [(.pv (.sl 1 false (List.map enc z))),(.pv (.int .i64 e))]),(.box [(.pv (.int .i64 n))])],[]))):=by
 subst h
 subst hn
 exact⟨_,_,rfl,e1c k m lk lt,rfl⟩
theorem Fb{t:Bool}{v:C5×List UInt8×Int×Int}{k lk e u n:Int}{m:List Int}{lt:List Coef}{z:List UInt8}{ts:List Cert}(h:v=(⟨k,m,lk,lt,ts⟩,z,e,u))(hn:n=ZF t u):GC t v (((.pv (.agg [(.int .i64 k),(.sl 1 false (List.map enc m)),(.int .i64 lk),(.sl 2 false (List.map enc lt)),(.sl 5 false (ts.map enc))])),([(.box [(.pv (.sl 1 false (List.map enc z))),(.pv (.int .i64 e))]),(.box [(.pv (.int .i64 n))])],[]))):=by
 subst h
 subst hn
 exact⟨_,_,rfl,.refl _,rfl⟩
theorem a9w{t:Bool}{v:C5×List UInt8×Int×Int}{e u n:Int}{z:List UInt8}(h:v=(QC,z,e,u))(hn:n=ZF t u):GC t v (((.pv (.agg [(.int .i64 0),(.sl 0 true []),(.int .i64 0),(.sl 0 true []),(.sl 0 true [])])),([(.box [(.pv (.sl 1 false (List.map enc z))),(.pv (.int .i64 e))]),(.box [(.pv (.int .i64 n))])],[]))):=by
 subst h
 subst hn
 exact⟨_,_,rfl,b0o,rfl⟩
def LP(k:Int)(m:List Int)(lk:Int)(lt:List Coef)(ts:List Cert)(r:List Cert×List UInt8×Int×Int):C5×List UInt8×Int×Int:=(⟨k,m,lk,lt,ts++r.1⟩,r.2)
theorem W9{k:Int}{m:List Int}{lk:Int}{lt:List Coef}{ts:List Cert}{z:List UInt8}{e u:Int}:LP k m lk lt ts ([],z,e,u)=(⟨k,m,lk,lt,ts⟩,z,e,u):=by unfold LP;rw[List.append_nil]
theorem Gt{k:Int}{m:List Int}{lk:Int}{lt:List Coef}{ts:List Cert}{c:Cert}{r:List Cert×List UInt8×Int×Int}:LP k m lk lt ts (c::r.1,r.2)=LP k m lk lt (ts++[c]) r:=by
 unfold LP
 rw[show ts++[c]++r.1=ts++(c::r.1) by rw[List.append_assoc];rfl]
theorem Fp{ts:List Cert}{m:Nat}(h:ts.length=m):List.drop 0 (List.take m (List.map (enc:Cert->PV) ts))=ts.map enc:=by
 rw[List.take_of_length_le (by rw[List.length_map];omega),List.drop_zero]
theorem Ta{ts:List Cert}{m:Nat}(hm:ts.length=m):(List.length (List.map (enc:Cert->PV) ts)==m)=true:=by rw[List.length_map,hm];simp
theorem a7p{ts:List Cert}{m:Nat}(hm:ts.length=m)(h:m<=2000)(b:PV):(List.length (List.map (enc:Cert->PV) ts)==m&&m==m&&decide ((m+List.length (List.drop 0 (List.take 1 [b])))*88<=1099511627776)&&decide (m+List.length (List.drop 0 (List.take 1 [b]))<=1099511627776))=true:=by
 rw[List.length_map,hm]
 simp
 omega
theorem Te{t:Bool}{N:Nat}{z:List UInt8}{u:Int}(hz:z.length<=9000000)(h0:0<=u)(h1:u<=1000)(hN:u.toNat<N):(YE [AV.ptr 0 0,AV.ptr (0+1) 0] [AObj.box [AV.pv (PV.sl 1 false (List.map enc z)),AV.pv (PV.int IntKind.i64 0)],AObj.box [AV.pv (PV.int IntKind.i64 (ZF t u))]]&&decide (WQ t [AV.ptr 0 0,AV.ptr (0+1) 0] [AObj.box [AV.pv (PV.sl 1 false (List.map enc z)),AV.pv (PV.int IntKind.i64 0)],AObj.box [AV.pv (PV.int IntKind.i64 (ZF t u))]]<N))=true:=by
 have hm:WQ t [AV.ptr 0 0,AV.ptr (0+1) 0] [AObj.box [AV.pv (PV.sl 1 false (List.map enc z)),AV.pv (PV.int IntKind.i64 0)],AObj.box [AV.pv (PV.int IntKind.i64 (ZF t u))]]=u.toNat:=by
  show(ZF t (ZF t u)).toNat=_
  rw[UW]
 rw[hm,decide_eq_true hN,Bool.and_true]
 show(XL _&&decide ((0:Int)=0)&&decide (0<=ZF t u)&&decide (ZF t u<=1000))=true
 have a:0<=ZF t u∧ZF t u<=1000:=by unfold ZF;cases t <;> simp <;> omega
 rw[ZW hz,decide_eq_true a.1,decide_eq_true a.2];rfl
theorem a6o(N:Nat)(x:List UInt8)(n ck:Int)(cm:List Int)(lk:Int)(lt:List Coef)(c:Int): ∀ (j i q:Nat) (z:List UInt8) (e u:Int) (ts:List Cert),i+j=c.toNat->(e=0->c<=2∧0<=u∧u<=1000∧u.toNat<N)->ts.length=q->q<=i->z.length<=9000000 ->
  At (Vr N) 2 (ZC 2 XR (GC false (LP ck cm lk lt ts (Z8 (Zx false) j u z e)))) XU 0 73 [(0,.ptr 0 0),(1,.ptr 1 0),(4,.ptr 2 0),(5,.ptr 3 0),(6,.pv (.int .i64 c)),(7,.pv (.int .i64 (i:Int)))] [.obj (.box [.pv (.sl 1 false (z.map enc)),.pv (.int .i64 e)]),.obj (.box [.pv (.int .i64 (ZF false u))]),.obj (.box [.pv (.int .i64 0),.pv (.sl 0 true []),.pv (.int .i64 0),.pv (.sl 0 true []),.pv (.sl 0 true [])]),.obj (.box [.pv (.int .i64 ck),.pv (.sl 1 false (cm.map enc)),.pv (.int .i64 lk),.pv (.sl 2 false (lt.map enc)),.row 4 q 0 q]),.obj (.row false 28 5 (ts.map enc))]:=by
 intro j
 induction j with
 | zero=>
  intro i q z e u ts hj hn hq hqi hz
  refine a3c N x n z e _ ck cm lk lt c i ts q (Zv (by simp;omega) ⟨Ta hq,?_⟩)
  rw[show Z8 (Zx false) 0 u z e=([],z,e,u)from rfl,Fp hq,W9]
  exact Fb rfl rfl
 | succ j ih=>
  intro i q z e u ts hj hn hq hqi hz
  refine a3c N x n z e _ ck cm lk lt c i ts q (Zu (by simp;omega) ?_)
  by_cases he:e=0
  ·subst he
   obtain⟨c2,u0,u1,uN⟩:=hn rfl
   have h1:=Gn false u z
   have h2:=Gc false u z
   have h3:=H9 false (x:=z) u0
   have h4:=ih (i+1) (q+1) (Zx false u z).2.1 (Zx false u z).2.2.1 (Zx false u z).2.2.2 (ts++[(Zx false u z).1.c]) (by omega) (fun e0=>⟨c2,h3 e0,by omega,by have:=h3 e0;omega⟩) (by simp[hq]) (by omega) (by omega)
   rw[<- Gt,List.map_append (l₁:=ts) (l₂:=[(Zx false u z).1.c]),show List.map (enc:Cert->PV) [(Zx false u z).1.c]=[enc (Zx false u z).1]from congrArg (· ::[]) (GA _)]at h4
   refine Zu rfl ⟨Te hz u0 u1 uN,a7p hq (by omega) _,?_⟩
   rw[ZM,UW,next (by omega),show Z8 (Zx false) (j+1) u z 0=((Zx false u z).1.c::(Z8 (Zx false) j (Zx false u z).2.2.2 (Zx false u z).2.1 (Zx false u z).2.2.1).1,(Z8 (Zx false) j (Zx false u z).2.2.2 (Zx false u z).2.1 (Zx false u z).2.2.1).2)from rfl]
   exact h4
  ·rw[Wn he,W9]
   refine Zv (by simpa using he) ⟨Ta hq,?_⟩
   rw[Fp hq]
   exact Fb rfl rfl
theorem Uv(N:Nat)(x:List UInt8)(n ck:Int)(cm:List Int)(lk:Int)(lt:List Coef)(c:Int): ∀ (j i:Nat) (z:List UInt8) (e u:Int),i=0->j=c.toNat->(e=0->c<=2∧0<=u∧u<=1000∧u.toNat<N)->z.length<=9000000 ->
  At (Vr N) 2 (ZC 2 XR (GC false (LP ck cm lk lt [] (Z8 (Zx false) j u z e)))) XU 0 73 [(0,.ptr 0 0),(1,.ptr 1 0),(4,.ptr 2 0),(5,.ptr 3 0),(6,.pv (.int .i64 c)),(7,.pv (.int .i64 (i:Int)))] [.obj (.box [.pv (.sl 1 false (z.map enc)),.pv (.int .i64 e)]),.obj (.box [.pv (.int .i64 (ZF false u))]),.obj (.box [.pv (.int .i64 0),.pv (.sl 0 true []),.pv (.int .i64 0),.pv (.sl 0 true []),.pv (.sl 0 true [])]),.obj (.box [.pv (.int .i64 ck),.pv (.sl 1 false (cm.map enc)),.pv (.int .i64 lk),.pv (.sl 2 false (lt.map enc)),.pv (.sl 0 true [])])]:=by
 intro j i z e u hi0 hj hn hz
 subst hi0
 cases j with
 | zero=>
  refine a1t N x n z e _ ck cm lk lt c (0:Nat) (Zv (by simp;omega) ?_)
  rw[show Z8 (Zx false) 0 u z e=([],z,e,u)from rfl,W9]
  exact LA rfl rfl
 | succ j=>
  refine a1t N x n z e _ ck cm lk lt c (0:Nat) (Zu (by simp;omega) ?_)
  by_cases he:e=0
  ·subst he
   obtain⟨c2,u0,u1,uN⟩:=hn rfl
   have h1:=Gn false u z
   have h2:=Gc false u z
   have h3:=H9 false (x:=z) u0
   have h4:=a6o N x n ck cm lk lt c j 1 1 (Zx false u z).2.1 (Zx false u z).2.2.1 (Zx false u z).2.2.2 ([]++[(Zx false u z).1.c]) (by omega) (fun e0=>⟨c2,h3 e0,by omega,by have:=h3 e0;omega⟩) rfl (by omega) (by omega)
   rw[<- Gt,List.nil_append,show List.map (enc:Cert->PV) [(Zx false u z).1.c]=[enc (Zx false u z).1]from congrArg (· ::[]) (GA _)]at h4
   refine Zu rfl ⟨Te hz u0 u1 uN,?_⟩
   rw[ZM,UW,next (by omega),show Z8 (Zx false) (j+1) u z 0=((Zx false u z).1.c::(Z8 (Zx false) j (Zx false u z).2.2.2 (Zx false u z).2.1 (Zx false u z).2.2.1).1,(Z8 (Zx false) j (Zx false u z).2.2.2 (Zx false u z).2.1 (Zx false u z).2.2.1).2)from rfl]
   exact h4
  ·rw[Wn he,W9]
   exact Zv (by simpa using he) (LA rfl rfl)
theorem Ej(N:Nat)(x:List UInt8)(n ck:Int)(cm:List Int)(lk:Int)(lt:List Coef)(c:Int): ∀ (j i q:Nat) (z:List UInt8) (e u:Int) (ts:List Cert),i+j=c.toNat->(e=0->c<=2∧0<=u∧u<=1000∧u.toNat<N)->ts.length=q->q<=i->z.length<=9000000 ->
  At (Vm N) 2 (ZC 2 X5 (GC true (LP ck cm lk lt ts (Z8 (Zx true) j u z e)))) X8 0 79 [(0,.ptr 0 0),(1,.ptr 1 0),(4,.ptr 2 0),(5,.ptr 3 0),(6,.pv (.int .i64 c)),(7,.pv (.int .i64 (i:Int)))] [.obj (.box [.pv (.sl 1 false (z.map enc)),.pv (.int .i64 e)]),.obj (.box [.pv (.int .i64 (ZF true u))]),.obj (.box [.pv (.int .i64 0),.pv (.sl 0 true []),.pv (.int .i64 0),.pv (.sl 0 true []),.pv (.sl 0 true [])]),.obj (.box [.pv (.int .i64 ck),.pv (.sl 1 false (cm.map enc)),.pv (.int .i64 lk),.pv (.sl 2 false (lt.map enc)),.row 4 q 0 q]),.obj (.row false 28 5 (ts.map enc))]:=by
 intro j
 induction j with
 | zero=>
  intro i q z e u ts hj hn hq hqi hz
  refine MS N x n z e _ ck cm lk lt c i ts q (Zv (by simp;omega) ⟨Ta hq,?_⟩)
  rw[show Z8 (Zx true) 0 u z e=([],z,e,u)from rfl,Fp hq,W9]
  exact Fb rfl rfl
 | succ j ih=>
  intro i q z e u ts hj hn hq hqi hz
  refine MS N x n z e _ ck cm lk lt c i ts q (Zu (by simp;omega) ?_)
  by_cases he:e=0
  ·subst he
   obtain⟨c2,u0,u1,uN⟩:=hn rfl
   have h1:=Gn true u z
   have h2:=Gc true u z
   have h3:=H9 true (x:=z) u0
   have h4:=ih (i+1) (q+1) (Zx true u z).2.1 (Zx true u z).2.2.1 (Zx true u z).2.2.2 (ts++[(Zx true u z).1.c]) (by omega) (fun e0=>⟨c2,h3 e0,by omega,by have:=h3 e0;omega⟩) (by simp[hq]) (by omega) (by omega)
   rw[<- Gt,List.map_append (l₁:=ts) (l₂:=[(Zx true u z).1.c]),show List.map (enc:Cert->PV) [(Zx true u z).1.c]=[enc (Zx true u z).1]from congrArg (· ::[]) (GA _)]at h4
   refine Zu rfl ⟨Te hz u0 u1 uN,a7p hq (by omega) _,?_⟩
   rw[ZM,UW,next (by omega),show Z8 (Zx true) (j+1) u z 0=((Zx true u z).1.c::(Z8 (Zx true) j (Zx true u z).2.2.2 (Zx true u z).2.1 (Zx true u z).2.2.1).1,(Z8 (Zx true) j (Zx true u z).2.2.2 (Zx true u z).2.1 (Zx true u z).2.2.1).2)from rfl]
   exact h4
  ·rw[Wn he,W9]
   refine Zv (by simpa using he) ⟨Ta hq,?_⟩
   rw[Fp hq]
   exact Fb rfl rfl
theorem AP(N:Nat)(x:List UInt8)(n ck:Int)(cm:List Int)(lk:Int)(lt:List Coef)(c:Int): ∀ (j i:Nat) (z:List UInt8) (e u:Int),i=0->j=c.toNat->(e=0->c<=2∧0<=u∧u<=1000∧u.toNat<N)->z.length<=9000000 ->
  At (Vm N) 2 (ZC 2 X5 (GC true (LP ck cm lk lt [] (Z8 (Zx true) j u z e)))) X8 0 79 [(0,.ptr 0 0),(1,.ptr 1 0),(4,.ptr 2 0),(5,.ptr 3 0),(6,.pv (.int .i64 c)),(7,.pv (.int .i64 (i:Int)))] [.obj (.box [.pv (.sl 1 false (z.map enc)),.pv (.int .i64 e)]),.obj (.box [.pv (.int .i64 (ZF true u))]),.obj (.box [.pv (.int .i64 0),.pv (.sl 0 true []),.pv (.int .i64 0),.pv (.sl 0 true []),.pv (.sl 0 true [])]),.obj (.box [.pv (.int .i64 ck),.pv (.sl 1 false (cm.map enc)),.pv (.int .i64 lk),.pv (.sl 2 false (lt.map enc)),.pv (.sl 0 true [])])]:=by
 intro j i z e u hi0 hj hn hz
 subst hi0
 cases j with
 | zero=>
  refine MR N x n z e _ ck cm lk lt c (0:Nat) (Zv (by simp;omega) ?_)
  rw[show Z8 (Zx true) 0 u z e=([],z,e,u)from rfl,W9]
  exact LA rfl rfl
 | succ j=>
  refine MR N x n z e _ ck cm lk lt c (0:Nat) (Zu (by simp;omega) ?_)
  by_cases he:e=0
  ·subst he
   obtain⟨c2,u0,u1,uN⟩:=hn rfl
   have h1:=Gn true u z
   have h2:=Gc true u z
   have h3:=H9 true (x:=z) u0
   have h4:=Ej N x n ck cm lk lt c j 1 1 (Zx true u z).2.1 (Zx true u z).2.2.1 (Zx true u z).2.2.2 ([]++[(Zx true u z).1.c]) (by omega) (fun e0=>⟨c2,h3 e0,by omega,by have:=h3 e0;omega⟩) rfl (by omega) (by omega)
   rw[<- Gt,List.nil_append,show List.map (enc:Cert->PV) [(Zx true u z).1.c]=[enc (Zx true u z).1]from congrArg (· ::[]) (GA _)]at h4
   refine Zu rfl ⟨Te hz u0 u1 uN,?_⟩
   rw[ZM,UW,next (by omega),show Z8 (Zx true) (j+1) u z 0=((Zx true u z).1.c::(Z8 (Zx true) j (Zx true u z).2.2.2 (Zx true u z).2.1 (Zx true u z).2.2.1).1,(Z8 (Zx true) j (Zx true u z).2.2.2 (Zx true u z).2.1 (Zx true u z).2.2.1).2)from rfl]
   exact h4
  ·rw[Wn he,W9]
   exact Zv (by simpa using he) (LA rfl rfl)
theorem b2e(most lo hi:Int)(x:List UInt8){err:Int}(h:err≠0):Zg most lo hi x err=([],x,err):=by unfold Zg;rw[if_pos h]
theorem TS{z:List UInt8}(lo hi e:Int)(h:z.length<=9000000):Xg [.ptr 0 0,.pv (.int .i64 1100),.pv (.int .i64 lo),.pv (.int .i64 hi)] [.box [.pv (.sl 1 false (List.map enc z)),.pv (.int .i64 e)]]=true:=by
 show(XL _&&decide ((1100:Int)<=2000)&&decide ((0:Int)<=1100))=true
 rw[ZW h];rfl
theorem a3q{z:List UInt8}(e:Int)(h:z.length<=9000000):ZZ [.ptr 0 0] [.box [.pv (.sl 1 false (List.map enc z)),.pv (.int .i64 e)]]=true:=ZW h
theorem RH{t:Bool}{N:Nat}{args:List AV}{os:List AObj}(h:(YE args os&&decide (WQ t args os<N+1))=true): ∃ (x:List UInt8) (n:Int),args=[.ptr 0 0,.ptr 1 0]∧os=[.box [.pv (enc x),.pv (.int .i64 0)],.box [.pv (.int .i64 n)]]∧x.length<=9000000∧0<=n∧n<=1000∧(ZF t n).toNat<N+1:=by
 rw[Bool.and_eq_true,decide_eq_true_eq]at h
 obtain⟨h,hN⟩:=h
 unfold YE at h
 split at h
 ·rename_i p err n
  simp only[Bool.and_eq_true,decide_eq_true_eq]at h
  obtain⟨⟨⟨h1,rfl⟩,h3⟩,h4⟩:=h
  obtain⟨x,rfl,hl⟩:=Yg h1
  exact⟨x,n,rfl,rfl,hl,h3,h4,hN⟩
 ·cases h
theorem Sn(t:Bool)(x:List UInt8)(n:Int):VU t [.ptr 0 0,.ptr 1 0] [.box [.pv (enc x),.pv (.int .i64 0)],.box [.pv (.int .i64 n)]]=d1l t (Zx t (ZF t n) x):=by
 show d1l t (Zx t (ZF t n) (Za (enc x)))=_
 rw[Zz]
theorem c3d(N:Nat): ∀ args os,(YE args os&&decide (WQ false args os<N+1))=true->Zf (Vr N) os.length (ZC os.length XR fun r=> ∃ p p',r.1 = .pv p∧Sub p p'∧VU false args os=(.pv p',r.2)) XU [] (ZN d1d args os):=by
 intro args os h
 obtain⟨x,n,rfl,rfl,hl,n0,n1,hN⟩:=RH h
 rw[Sn]
 show Zf (Vr N) 2 (ZC 2 XR (GC false (Zx false (ZF false n) x))) XU [] _
 have hu:ZF false n=1000 - n:=rfl
 rw[hu]at hN ⊢
 have hw:IntKind.wrap IntKind.i64 (n+1)=ZF false (1000 - n - 1):=by rw[Yn (by omega) (by omega)];show n+1=1000 - (1000 - n - 1);omega
 have hc:ZF false (1000 - n - 1)=n+1:=by show 1000 - (1000 - n - 1)=n+1;omega
 refine d5v N x n ?_
 simp only[ZM]
 rw[hw]
 by_cases hn:n+1>1000
 ·have h3:(3:Int)≠0:=by decide
  refine Zu (decide_eq_true (by omega)) ?_
  rw[ME false (by omega)]
  simp only[KL _ _ _ _ h3,b2e _ _ _ _ h3,Um _ h3]
  have:=Uv N x n 0 [] 0 [] 0 0 0 x 3 (1000 - n - 1) rfl rfl (fun e=>absurd e h3) hl
  rw[Wn h3,W9]at this
  exact⟨WJ _ _ _ hl,TS _ _ _ hl,a3q _ hl,WJ _ _ _ hl,this⟩
 ·refine Zv (by rw[hc];simpa using hn) ?_
  rw[a0i false (by omega)]
  unfold VC
  simp only
  have k1:=ZX 1 3 2 x 0
  generalize Zc 1 3 2 x 0=k at k1 ⊢
  have m1:=Df 1100 (-1000000000) 1000000000 k.2.1 k.2.2
  generalize Zg 1100 (-1000000000) 1000000000 k.2.1 k.2.2=m at m1 ⊢
  have l1:=J2 m.2.1 m.2.2
  generalize Zp m.2.1 m.2.2=l at l1 ⊢
  have b1:=ZX (-9223372036854775808) 9223372036854775807 2 l.2.1 l.2.2
  refine⟨WJ _ _ _ hl,TS _ _ _ (by omega),a3q _ (by omega),WJ _ _ _ (by omega),?_⟩
  by_cases hle:l.2.2=0
  ·rw[if_neg (show ¬ l.2.2≠0 by simpa using hle),hle]
   rw[hle]at b1
   unfold QN
   simp only[Bool.false_eq_true,if_false]
   generalize Zc (-9223372036854775808) 9223372036854775807 2 l.2.1 0=b at b1 ⊢
   by_cases hb:b.2.2=0
   ·refine Zu (by simpa using hb) ?_
    by_cases c1:b.1<0
    ·rw[if_pos (show b.2.2=0∧(b.1<0∨b.1>2)from⟨hb,.inl c1⟩)]
     exact Zu (decide_eq_true c1) (Uv N x n k.1 m.1 l.1.k l.1.t b.1 _ 0 b.2.1 3 (1000 - n - 1) rfl rfl (fun e=>by cases e) (by omega))
    ·refine Zv (fun e=>c1 (of_decide_eq_true e)) ?_
     by_cases c2:b.1>2
     ·rw[if_pos (show b.2.2=0∧(b.1<0∨b.1>2)from⟨hb,.inr c2⟩)]
      exact Zu (decide_eq_true c2) (Uv N x n k.1 m.1 l.1.k l.1.t b.1 _ 0 b.2.1 3 (1000 - n - 1) rfl rfl (fun e=>by cases e) (by omega))
     ·rw[if_neg (show ¬ (b.2.2=0∧(b.1<0∨b.1>2)) by omega)]
      exact Zv (fun e=>c2 (of_decide_eq_true e)) (Uv N x n k.1 m.1 l.1.k l.1.t b.1 _ 0 b.2.1 b.2.2 (1000 - n - 1) rfl rfl (fun e=>⟨by omega,by omega,by omega,by omega⟩) (by omega))
   ·rw[if_neg (show ¬ (b.2.2=0∧(b.1<0∨b.1>2))from fun e=>hb e.1)]
    exact Zv (by simpa using hb) (Uv N x n k.1 m.1 l.1.k l.1.t b.1 _ 0 b.2.1 b.2.2 (1000 - n - 1) rfl rfl (fun e=>absurd e hb) (by omega))
  ·rw[if_pos (show l.2.2≠0 from hle),KL _ _ _ _ hle]
   have:=Uv N x n k.1 m.1 l.1.k l.1.t 0 0 0 l.2.1 l.2.2 (1000 - n - 1) rfl rfl (fun e=>absurd e hle) (by omega)
   rw[Wn hle,W9]at this
   exact Zv (by simpa using hle) this
theorem e0f(x:List UInt8):Zc 0 2 3 x 0=if (Zc 0 2 2 x 0).2.2=2 then((Zc 0 2 2 x 0).1,(Zc 0 2 2 x 0).2.1,3)else Zc 0 2 2 x 0:=by
 have e : ∀ k,Zc 0 2 k x 0=match Yh x with|none=>(0,x,4)|some (n,r)=>if n<0∨n>2 then(0,x,k)else(n,r,0):=fun k=>by unfold Zc;rw[if_neg (by simp)];rfl
 rw[e,e]
 cases Yh x with
 | none=>rfl
 | some q=>
  obtain⟨a,r⟩:=q
  simp only
  by_cases hc:a<0∨a>2
  ·simp only[if_pos hc,if_true]
  ·simp only[if_neg hc];rfl
theorem b1l(N:Nat): ∀ args os,(YE args os&&decide (WQ true args os<N+1))=true->Zf (Vm N) os.length (ZC os.length X5 fun r=> ∃ p p',r.1 = .pv p∧Sub p p'∧VU true args os=(.pv p',r.2)) X8 [] (ZN b8o args os):=by
 intro args os h
 obtain⟨x,n,rfl,rfl,hl,n0,n1,hN⟩:=RH h
 rw[Sn]
 show Zf (Vm N) 2 (ZC 2 X5 (GC true (Zx true (ZF true n) x))) X8 [] _
 have hu:ZF true n=n:=rfl
 rw[hu]at hN ⊢
 refine d1n N x n ?_
 simp only[ZM]
 by_cases hn:n=0
 ·subst hn
  exact Zu rfl (a9w (ME true (by decide) x) rfl)
 ·refine Zv (by simpa using hn) ?_
  rw[a0i true (by omega),show IntKind.wrap IntKind.i64 (n - 1)=ZF true (n - 1)from Yn (by omega) (by omega)]
  unfold VC
  simp only
  have k1:=ZX 1 3 2 x 0
  generalize Zc 1 3 2 x 0=k at k1 ⊢
  have m1:=Df 1100 (-1000000000) 1000000000 k.2.1 k.2.2
  generalize Zg 1100 (-1000000000) 1000000000 k.2.1 k.2.2=m at m1 ⊢
  have l1:=J2 m.2.1 m.2.2
  generalize Zp m.2.1 m.2.2=l at l1 ⊢
  refine⟨WJ _ _ _ hl,TS _ _ _ (by omega),a3q _ (by omega),?_⟩
  by_cases hle:l.2.2=0
  ·rw[if_neg (show ¬ l.2.2≠0 by simpa using hle),hle]
   refine Zv (by simp) ⟨WJ _ _ _ (by omega),?_⟩
   unfold QN
   simp only[if_true]
   have b1:=ZX 0 2 3 l.2.1 0
   have b2:=Q4 (lo:=0) (hi:=2) (e:=3) (x:=l.2.1) (err:=0) (by decide) (by decide) (by decide)
   have key:=e0f l.2.1
   by_cases h2:(Zc 0 2 2 l.2.1 0).2.2=2
   ·rw[if_pos h2]at key
    rw[key]at b1 b2 ⊢
    exact Zu (by simpa using h2) (AP N x n k.1 m.1 l.1.k l.1.t _ _ 0 _ 3 (n - 1) rfl rfl (fun e=>by cases e) (by show(Zc 0 2 2 l.2.1 0).2.1.length<=9000000;simp only at b1;omega))
   ·rw[if_neg h2]at key
    rw[key]at b1 b2 ⊢
    exact Zv (by simpa using h2) (AP N x n k.1 m.1 l.1.k l.1.t _ _ 0 _ _ (n - 1) rfl rfl (fun e=>⟨b2.2,by omega,by omega,by omega⟩) (by omega))
  ·rw[if_pos (show l.2.2≠0 from hle)]
   exact Zu (by simpa using hle) (a9w rfl rfl)
theorem a9h{d d':Int->List UInt8->C5×List UInt8×Int×Int}(h : ∀ v x,(d v x).2.2.1=(d' v x).2.2.1∧((d v x).2.2.1=0->d v x=d' v x)): ∀ (j:Nat) (w:Int) (x:List UInt8) (e:Int),(Z8 d j w x e).2.2.1=(Z8 d' j w x e).2.2.1∧((Z8 d j w x e).2.2.1=0->Z8 d j w x e=Z8 d' j w x e)
 | 0,w,x,e=>⟨rfl,fun _=>rfl⟩
 | j+1,w,x,e=>by
  rw[Z8,Z8]
  by_cases he:e≠0
  ·rw[if_pos he,if_pos he];exact⟨rfl,fun _=>rfl⟩
  ·rw[if_neg he,if_neg he]
   simp only
   obtain⟨h1,h2⟩:=h w x
   by_cases h0:(d w x).2.2.1=0
   ·rw[<- h2 h0]
    obtain⟨k1,k2⟩:=a9h h j (d w x).2.2.2 (d w x).2.1 (d w x).2.2.1
    exact⟨k1,fun e=>by rw[k2 e]⟩
   ·rw[Wn h0,Wn (show(d' w x).2.2.1≠0 by rw[<- h1];exact h0)]
    exact⟨h1,fun e=>absurd e h0⟩
theorem d5n(x:List UInt8):(QN false x).2.2=(QN true x).2.2∧((QN false x).2.2=0->QN false x=QN true x):=by
 have h1:QN true x=Zc 0 2 3 x 0:=rfl
 have h2:QN false x=if (Zc (-9223372036854775808) 9223372036854775807 2 x 0).2.2=0∧((Zc (-9223372036854775808) 9223372036854775807 2 x 0).1<0∨(Zc (-9223372036854775808) 9223372036854775807 2 x 0).1>2)then((Zc (-9223372036854775808) 9223372036854775807 2 x 0).1,(Zc (-9223372036854775808) 9223372036854775807 2 x 0).2.1,3)else Zc (-9223372036854775808) 9223372036854775807 2 x 0:=rfl
 have e : ∀ lo hi k,Zc lo hi k x 0=match Yh x with|none=>(0,x,4)|some (n,r)=>if n<lo∨n>hi then(0,x,k)else(n,r,0):=fun lo hi k=>by unfold Zc;rw[if_neg (by simp)];rfl
 rw[h1,h2,e,e]
 cases hw:Yh x with
 | none=>exact⟨rfl,fun _=>rfl⟩
 | some q=>
  obtain⟨a,r⟩:=q
  have hr:=Gm hw
  simp only[if_neg (show ¬ (a < -9223372036854775808∨a>9223372036854775807) by omega)]
  by_cases hc:a<0∨a>2
  ·simp[hc]
  ·simp[hc]
theorem c9z{d d':Int->List UInt8->C5×List UInt8×Int×Int}(h : ∀ v x,(d v x).2.2.1=(d' v x).2.2.1∧((d v x).2.2.1=0->d v x=d' v x))(w:Int)(x:List UInt8):(VC false d w x).2.2.1=(VC true d' w x).2.2.1∧((VC false d w x).2.2.1=0->VC false d w x=VC true d' w x):=by
 unfold VC
 simp only
 generalize Zc 1 3 2 x 0=k
 generalize Zg 1100 (-1000000000) 1000000000 k.2.1 k.2.2=m
 generalize Zp m.2.1 m.2.2=l
 by_cases hl:l.2.2≠0
 ·rw[if_pos hl,if_pos hl];exact⟨rfl,fun e=>absurd e hl⟩
 ·rw[if_neg hl,if_neg hl]
  obtain⟨c1,c2⟩:=d5n l.2.1
  by_cases hc:(QN false l.2.1).2.2=0
  ·rw[<- c2 hc]
   obtain⟨k1,k2⟩:=a9h h (QN false l.2.1).1.toNat (w - 1) (QN false l.2.1).2.1 (QN false l.2.1).2.2
   exact⟨k1,fun e=>by rw[k2 e]⟩
  ·rw[Wn hc,Wn (show(QN true l.2.1).2.2≠0 by rw[<- c1];exact hc)]
   exact⟨c1,fun e=>absurd e hc⟩
theorem a7o: ∀ (F:Nat) (w:Int) (x:List UInt8),(Ua false F w x).2.2.1=(Ua true F w x).2.2.1∧((Ua false F w x).2.2.1=0->Ua false F w x=Ua true F w x)
 | 0,w,x=>⟨rfl,fun _=>rfl⟩
 | F+1,w,x=>by
  rw[Ua,Ua]
  by_cases hw:w<=0
  ·rw[if_pos hw,if_pos hw];exact⟨rfl,fun e=>by cases e⟩
  ·rw[if_neg hw,if_neg hw]
   exact c9z (a7o F) w x
theorem d4e(w:Int)(x:List UInt8):(Zx false w x).2.2.1=(Zx true w x).2.2.1∧((Zx false w x).2.2.1=0->Zx false w x=Zx true w x):=a7o _ w x
def d9g(v:C5×List UInt8×Int):AV×List AObj×List AObj:=(.pv (enc v.1),[sB v.2.1 v.2.2],[])
def GD(v:C5×List UInt8×Int)(r:AV×List AObj×List AObj):Prop:= ∃ p p',r.1 = .pv p∧Sub p p'∧d9g v=(.pv p',r.2)
theorem Tj{v:C5×List UInt8×Int}{e:Int}{z:List UInt8}(h:v=(QC,z,e)):GD v (((.pv (.agg [(.int .i64 0),(.sl 0 true []),(.int .i64 0),(.sl 0 true []),(.sl 0 true [])])),([(.box [(.pv (.sl 1 false (List.map enc z))),(.pv (.int .i64 e))])],[]))):=by
 subst h
 exact⟨_,_,rfl,b0o,rfl⟩
theorem b9u{v:C5×List UInt8×Int}{c:C5}{e:Int}{z:List UInt8}(h:v=(c,z,e)):GD v (((.pv (enc c)),([(.box [(.pv (.sl 1 false (List.map enc z))),(.pv (.int .i64 e))])],[]))):=by
 subst h
 exact⟨_,_,rfl,.refl _,rfl⟩
theorem AB(x:List UInt8){err:Int}(h:err≠0):Zb x err=(QC,x,err):=by unfold Zb;rw[if_pos h]
theorem JE{x:List UInt8}(h:(Zx true 1000 x).2.2.1≠0):Zb x 0=(QC,x,(Zx true 1000 x).2.2.1):=by
 unfold Zb
 rw[if_neg (by simp)]
 simp only[if_pos h]
theorem Jp{x:List UInt8}(h:(Zx true 1000 x).2.2.1=0):Zb x 0=((Zx true 1000 x).1,(Zx true 1000 x).2.1,0):=by
 unfold Zb
 rw[if_neg (by simp)]
 simp only[if_neg (show ¬ (Zx true 1000 x).2.2.1≠0 by simpa using h)]
theorem DD(x:List UInt8)(err:Int):Z0 [.ptr 0 0] [.box [.pv (enc x),.pv (.int .i64 err)]]=d9g (Zb x err):=by
 show(AV.pv (enc (Zb (Za (enc x)) err).1),[sB (Zb (Za (enc x)) err).2.1 (Zb (Za (enc x)) err).2.2],[])=_
 rw[Zz];rfl
theorem d5b{z:List UInt8}{n:Int}(hz:z.length<=9000000)(h0:0<=n)(h1:n<=1000):YE [.ptr 0 0,.ptr 1 0] [.box [.pv (.sl 1 false (List.map enc z)),.pv (.int .i64 0)],.box [.pv (.int .i64 n)]]=true:=by
 show(XL _&&decide ((0:Int)=0)&&decide (0<=n)&&decide (n<=1000))=true
 rw[ZW hz,decide_eq_true h0,decide_eq_true h1];rfl
theorem b5b: ∀ args os,ZZ args os=true->Zf Dw os.length (ZC os.length JV fun r=> ∃ p p',r.1 = .pv p∧Sub p p'∧Z0 args os=(.pv p',r.2)) JD [] (ZN b9s args os):=by
 intro args os h
 unfold ZZ at h
 split at h
 ·rename_i p err
  obtain⟨x,rfl,hl⟩:=Yg h
  rw[DD]
  show Zf Dw 1 (ZC 1 JV (GD (Zb x err))) JD [] _
  refine c8o x err ?_
  by_cases he:err=0
  ·subst he
   rw[ZM,show ZF false 0=1000 from rfl]
   obtain⟨t1,t2⟩:=d4e 1000 x
   refine Zv (by simp) ⟨d5b hl (by decide) (by decide),?_⟩
   by_cases h0:(Zx false 1000 x).2.2.1=0
   ·refine Zv (by simpa using h0) ?_
    have h2:=t2 h0
    exact b9u (c:=(Zx false 1000 x).1) (by rw[Jp (by rw[<- t1];exact h0),<- h2,h0])
   ·exact Zu (by simpa using h0) (Tj (by rw[JE (by rw[<- t1];exact h0),t1]))
  ·exact Zu (by simpa using he) (Tj (AB x he))
 ·exact b9r ⟨_,_,rfl,b0o,rfl⟩
 ·cases h
theorem a4f: ∀ args os,ZZ args os=true->Zf JY os.length (ZC os.length KJ fun r=> ∃ p p',r.1 = .pv p∧Sub p p'∧Z0 args os=(.pv p',r.2)) KN [] (ZN b1g args os):=by
 intro args os h
 unfold ZZ at h
 split at h
 ·rename_i p err
  obtain⟨x,rfl,hl⟩:=Yg h
  rw[DD]
  show Zf JY 1 (ZC 1 KJ (GD (Zb x err))) KN [] _
  refine c1w x err ?_
  by_cases he:err=0
  ·subst he
   rw[ZM,show ZF true 1000=1000 from rfl]
   refine Zv (by simp) ⟨d5b hl (by decide) (by decide),?_⟩
   by_cases h0:(Zx true 1000 x).2.2.1=0
   ·exact Zv (by simpa using h0) (b9u (c:=(Zx true 1000 x).1) (by rw[Jp h0,h0]))
   ·exact Zu (by simpa using h0) (Tj (JE h0))
  ·exact Zu (by simpa using he) (Tj (AB x he))
 ·exact b4i ⟨_,_,rfl,b0o,rfl⟩
 ·cases h
theorem CR(k:Int)(m:List Int)(l:Lin)(ks:List Cert):encC (.mk k m l ks)=encI k++(encIs m++(ZV l++(encI ks.length++XO ks))):=by rw[encC]
theorem Pv{ks:List Cert}{i:Nat}(h:i<ks.length):XO (ks.drop i)=encC ks[i]++XO (ks.drop (i+1)):=by
 rw[List.drop_eq_getElem_cons h,XO]
theorem c1i(c:Cert):1<=(encC c).length:=by
 obtain⟨k,m,l,ks⟩:=c
 have:=YM k
 rw[CR,List.length_append]
 omega
theorem Am: ∀ ks:List Cert,ks.length<=(XO ks).length
 | []=>Nat.zero_le _
 | c::cs=>by
  have h:=Am cs
  have h2:=c1i c
  rw[XO,List.length_append,List.length_cons]
  omega
theorem b9k(x:List UInt8)(l:Lin)(h:(x++ZV l).length<=1000000):preT (fun(x:List UInt8×Lin×Unit)=>decide (List.length (Prod.fst x++ZV (Prod.fst (Prod.snd x)))<=1000000)) [(.sl 1 false (List.map enc x)),(.agg [(.int .i64 l.k),(.sl 2 false (List.map enc l.t))])]=true:=
 Zo (α:=List UInt8×Lin×Unit) (x,l,()) rfl (decide_eq_true h)
theorem a8t(x:List UInt8)(m:List Int)(h:(x++encIs m).length<=1000000):preT (fun(x:List UInt8×List Int×Unit)=>decide (List.length (Prod.fst x++encIs (Prod.fst (Prod.snd x)))<=1000000)) [(.sl 1 false (List.map enc x)),(.sl 1 false (List.map enc m))]=true:=
 Zo (α:=List UInt8×List Int×Unit) (x,m,()) rfl (decide_eq_true h)
theorem c7u{N q:Nat}{y:List UInt8}{k:Int}{m:List Int}{l:Lin}{ks:List Cert}(hq:y.length=q)(ho:Y8 (.mk k m l ks)=true)(hl:q+(encC (.mk k m l ks)).length<=1000000)(hd:ZL (.mk k m l ks)<N):
  (Qp 5 [AV.row 0 q 0 q,AV.pv (PV.agg [enc k,enc m,enc l.k,enc l.t,enc ks])] [AObj.row false 5 1 (List.map enc y)]&&decide (Ji [AV.row 0 q 0 q,AV.pv (PV.agg [enc k,enc m,enc l.k,enc l.t,enc ks])] [AObj.row false 5 1 (List.map enc y)]<N))=true:=by
 rw[<- ZO]
 show((5:Nat)==5&&Aq (y.map enc)&&(y.map (enc:UInt8->PV)).length==q&&q==q&&QV Cert (enc (Cert.mk k m l ks))&&Y8 (dec (enc (Cert.mk k m l ks)))&&decide (q+(encC (dec (enc (Cert.mk k m l ks)))).length<=1000000)&&decide (ZL (dec (enc (Cert.mk k m l ks)))<N))=true
 rw[Enc.dec_enc,CL,YD,ho,decide_eq_true hl,decide_eq_true hd,List.length_map,hq]
 simp
theorem b6v{G:AV×List AObj×List AObj->Prop}(N:Nat)(x:List UInt8)(k:Int)(m:List Int)(l:Lin)(ks:List Cert)(hN:XN ks<N)(hlen:ks.length<=1000000)(hok:Ug ks=true): ∀ (j i q:Nat) (y:List UInt8),j+i=ks.length->y.length=q->(y++XO (ks.drop i)).length<=1000000 ->
  G (.row 0 (y++XO (ks.drop i)).length 0 (y++XO (ks.drop i)).length,[],[.row false 5 1 ((y++XO (ks.drop i)).map enc)]) ->
  At (Dj N) 0 (Zj 0 K9 G) Jb 0 33 [(0,.row 0 q 0 q),(22,.pv (enc ks)),(23,.pv (.int .i64 (ks.length:Int))),(24,.pv (.int .i64 (i:Int)))] [.obj (.row false 5 1 (y.map enc))]:=by
 intro j
 induction j with
 | zero=>
  intro i q y hi hq h hG
  rw[List.drop_of_length_le (by omega),XO,List.append_nil,hq]at hG
  exact b0m N x k m l ks y q i (Zv (UX (by omega)) hG)
 | succ j ih=>
  intro i q y hi hq h hG
  have hlt:i<ks.length:=by omega
  rw[Pv hlt,<- List.append_assoc]at h hG
  have h3:=ih (i+1) _ (y++encC ks[i]) (by omega) rfl h hG
  have hd:=Qo (List.getElem_mem hlt)
  have ho:=UI hok (List.getElem_mem hlt)
  simp only[List.length_append]at h
  refine b0m N x k m l ks y q i (Zu (U4 hlt) ⟨YU hlt rfl,WB hlt ?_⟩)
  rw[next (by omega)]
  generalize ks[i]=c at h h3 hd ho ⊢
  obtain⟨k',m',l',ks'⟩:=c
  have ed:(dec (PV.agg [enc k',enc m',enc l'.k,enc l'.t,enc ks']):Cert)=Cert.mk k' m' l' ks':=by rw[<- ZO];exact Enc.dec_enc _
  rw[ZO]
  refine⟨rfl,c7u (k:=k') (m:=m') (l:=l') (ks:=ks') hq ho (by omega) (by omega),?_⟩
  have e5:Za (PV.sl 1 false (List.map enc y))++encC (dec (PV.agg [enc k',enc m',enc l'.k,enc l'.t,enc ks']))=y++encC (Cert.mk k' m' l' ks'):=by rw[ed,ZM]
  rw[<- e5]at h3
  exact h3
theorem c7n(N:Nat): ∀ args os,(CS args os&&decide (Ji args os<N+1))=true->Zf (Dj N) os.length (Zj os.length K9 fun r=>r=X6 5 args os) Jb [] (ZN d3q args os):=by
 intro args os h
 rw[Bool.and_eq_true,decide_eq_true_eq]at h
 obtain⟨h,hN⟩:=h
 unfold CS at h
 split at h
 ·rename_i p c
  simp only[Bool.and_eq_true,decide_eq_true_eq]at h
  obtain⟨⟨⟨hc,hd⟩,ho⟩,hl⟩:=h
  obtain⟨x,rfl⟩:=XX hc
  obtain⟨c,rfl⟩:=XX hd
  have hN:ZL (dec (enc c:PV))<N+1:=hN
  rw[Enc.dec_enc]at ho hN
  rw[Zz,Enc.dec_enc]at hl
  have hv:X6 5 [.pv (enc x),.pv (enc c)] []=(.row 0 (x++encC c).length 0 (x++encC c).length,[],[.row false 5 1 ((x++encC c).map enc)]):=by
   show(AV.row 0 (Za (enc x)++encC (dec (enc c))).length 0 _,_,_)=_
   rw[Zz,Enc.dec_enc]
  rw[hv]
  obtain⟨k,m,l,ks⟩:=c
  obtain⟨h1,h2,h3,h4⟩:=De ho
  rw[ZL]at hN
  rw[ZO]
  have e:x++encC (Cert.mk k m l ks)=(x++encI k++encIs m++ZV l++encI ks.length)++XO (ks.drop 0):=by rw[CR,List.drop_zero];simp only[List.append_assoc]
  have hks:=Am ks
  rw[e]at hl ⊢
  have hl':=hl
  simp only[List.length_append]at hl'
  rw[List.drop_zero]at hl'
  have hp:=b6v (G:=fun r=>r=(.row 0 (x++encI k++encIs m++ZV l++encI ks.length++XO (ks.drop 0)).length 0 (x++encI k++encIs m++ZV l++encI ks.length++XO (ks.drop 0)).length,[],[.row false 5 1 ((x++encI k++encIs m++ZV l++encI ks.length++XO (ks.drop 0)).map enc)])) N x k m l ks (by omega) (by omega) h4 ks.length 0 _ (x++encI k++encIs m++ZV l++encI ks.length) rfl rfl hl rfl
  refine d8k N x k m l ks ⟨a8l _ (by omega),?_⟩
  rw[Zz]
  have et:List.drop 0 (List.take (x++encI k).length (List.map (enc:UInt8->PV) (x++encI k)))=(x++encI k).map enc:=by rw[List.take_of_length_le (by simp),List.drop_zero]
  rw[et]
  refine⟨by rw[List.length_map];simp,a8t _ _ (by simp only[List.length_append];omega),Yi (α:=List UInt8×List Int×Unit) (v:=x++encI k++encIs m) (x++encI k,m,()) rfl rfl ⟨b9k _ _ (by simp only[List.length_append];omega),Yi (α:=List UInt8×Lin×Unit) (v:=x++encI k++encIs m++ZV l) (x++encI k++encIs m,l,()) rfl rfl ⟨a8l _ (by simp only[List.length_append];omega),?_⟩⟩⟩
  rw[Zz,List.length_map]
  exact hp
 ·cases h
def Ex(tb:Nat):List AV->List AObj->Bool
 | [.row 0 q 0 q',.pv c],[.row fz ty 1 xs]=>ty==tb&&Aq xs&&xs.length==q&&q'==q&&QV Cert c&&Y8 (dec c)&&decide (q+(encC (dec c)).length<=1000000)
 | _,_=>false
theorem c5h{P:Program}{f tb N:Nat}(h:ZA P f (fun a o=>CS a o&&decide (Ji a o<N)) (X6 tb)):ZA P f (fun a o=>Ex tb a o&&decide (Ji a o<N)) (X6 tb):=by
 refine ZA.thaw h fun args os hp=> ?_
 rw[Bool.and_eq_true,decide_eq_true_eq]at hp
 obtain⟨hp,hN⟩:=hp
 unfold Ex at hp
 split at hp
 ·rename_i q q' c fz ty xs
  simp only[Bool.and_eq_true,decide_eq_true_eq,beq_iff_eq]at hp
  obtain⟨⟨⟨⟨⟨⟨rfl,hc⟩,rfl⟩,rfl⟩,hd⟩,ho⟩,hl⟩:=hp
  obtain⟨y,rfl⟩:=CO hc
  obtain⟨c,rfl⟩:=XX hd
  have hN:ZL (dec (enc c:PV))<N:=hN
  have e2:(PV.sl 1 false (List.drop 0 (List.take (List.map (enc:UInt8->PV) y).length (List.map enc y))))=enc y:=by rw[List.take_of_length_le (Nat.le_refl _),List.drop_zero];rfl
  have hv:X6 ty [.row 0 (List.map (enc:UInt8->PV) y).length 0 (List.map (enc:UInt8->PV) y).length,.pv (enc c)] [.row fz ty 1 (List.map enc y)]=(.row 1 (y++encC c).length 0 (y++encC c).length,[.row true ty 1 (y.map enc)],[.row false ty 1 ((y++encC c).map enc)]):=by
   show(AV.row 1 (Za (PV.sl 1 false (List.map enc y))++encC (dec (enc c))).length 0 _,_,_)=_
   rw[show Za (PV.sl 1 false (List.map enc y))=y from Zz y,Enc.dec_enc]
  have hv2:X6 ty [.pv (enc y),.pv (enc c)] []=(.row 0 (y++encC c).length 0 (y++encC c).length,[],[.row false ty 1 ((y++encC c).map enc)]):=by
   show(AV.row 0 (Za (enc y)++encC (dec (enc c))).length 0 _,_,_)=_
   rw[Zz,Enc.dec_enc]
  rw[hv]
  refine⟨1,[enc y,enc c],[enc y,enc c],[.obj (.row true ty 1 (y.map enc)),.fresh],.row 1 (y++encC c).length 0 (y++encC c).length,[.obj (.row true ty 1 (y.map enc)),.obj (.row false ty 1 ((y++encC c).map enc))],.row 1 (y++encC c).length 0 (y++encC c).length,[.row true ty 1 (y.map enc),.row false ty 1 ((y++encC c).map enc)],UE.rfl _,?_,?_,?_,rfl⟩
  ·rw[<- e2]
   simp[Uf,frz,HM.bind,HM.run,Yr,HM.req]
  ·refine a9x ?_ hv2 rfl
   show(QV (List UInt8) (enc y)&&QV Cert (enc c)&&Y8 (dec (enc c))&&decide ((Za (enc y)++encC (dec (enc c))).length<=1000000)&&decide (ZL (dec (enc c:PV))<N))=true
   rw[List.length_map]at hl
   rw[YD,YD,Zz,ho,List.length_append,decide_eq_true hl,decide_eq_true hN];rfl
  ·rfl
 ·cases hp
theorem c5n{P:Program}{f tb N:Nat}(h:ZA P f (fun a o=>CS a o&&decide (Ji a o<N)) (X6 tb)):ZA P f (fun a o=>Qp tb a o&&decide (Ji a o<N)) (X6 tb):=by
 have h2:=c5h h
 intro args os x os' ext hp hval
 have hp':=hp
 rw[Bool.and_eq_true]at hp'
 obtain⟨hp1,hN⟩:=hp'
 unfold Qp at hp1
 split at hp1
 ·exact h _ _ x os' ext (by rw[Bool.and_eq_true];exact⟨hp1,hN⟩) hval
 ·exact h2 _ _ x os' ext (by rw[Bool.and_eq_true];exact⟨hp1,hN⟩) hval
 ·cases hp1
theorem b7i{P:Program}{f tb:Nat}(h:ZA P f (Qp tb) (X6 tb)):ZA P f Vb (Dy tb):=by
 refine ZA.thaw h fun args os hp=> ?_
 unfold Vb at hp
 split at hp
 ·rename_i c
  simp only[Bool.and_eq_true,decide_eq_true_eq]at hp
  obtain⟨⟨hi,ho⟩,hl⟩:=hp
  have hv:Dy tb [.pv (.sl 0 true []),.pv c] []=(.row 0 (encC (dec c)).length 0 (encC (dec c)).length,[],[.row false tb 1 ((encC (dec c)).map enc)]):=rfl
  rw[hv]
  have hsub:=(Enc.sub (α:=Cert) c hi).2
  generalize (dec c:Cert)=m at hsub hl ho ⊢
  have hv2:X6 tb [.pv (enc ([]:List UInt8)),.pv (enc m)] []=(.row 0 (encC m).length 0 (encC m).length,[],[.row false tb 1 ((encC m).map enc)]):=by
   show(AV.row 0 (Za (enc ([]:List UInt8))++encC (dec (enc m))).length 0 _,_,_)=_
   rw[Zz,Enc.dec_enc];rfl
  have hs2 : ∀ Φ v,RP Φ v (.sl 0 true [])->RP Φ v (enc ([]:List UInt8)):=fun Φ v k=>RP.sub (.nil 0 1 true false (by simp)) k
  refine⟨1,[.sl 0 true [],c],[enc ([]:List UInt8),enc m],[.fresh],.row 0 (encC m).length 0 (encC m).length,[.obj (.row false tb 1 ((encC m).map enc))],.row 0 (encC m).length 0 (encC m).length,[.row false tb 1 ((encC m).map enc)],UE.cons hs2 (UE.cons hsub .nil),?_,b7z ?_ hv2 rfl,rfl,rfl⟩
  ·simp[Uf,frz,HM.bind,HM.run,Yr,HM.req]
  ·show(QV (List UInt8) (enc [])&&QV Cert (enc m)&&Y8 (dec (enc m))&&decide ((Za (enc ([]:List UInt8))++encC (dec (enc m))).length<=1000000))=true
   rw[YD,YD,Zz,Enc.dec_enc,ho]
   exact decide_eq_true hl
 ·cases hp
theorem a5s(N:Nat)(x:List UInt8)(k:Int)(m:List Int)(l:Lin)(ks:List Cert)(hN:XN ks<N)(hlen:ks.length<=1000000)(hok:Ug ks=true): ∀ (j i:Nat) (y:List UInt8),j+i=ks.length->(y++XO (ks.drop i)).length<=1000000 ->
  At (QQ N) 0 (Ze UH (ZB (y++XO (ks.drop i)))) UK 0 37 [(3,.ptr 0 0),(5,.pv (enc y)),(6,.pv (.int .i64 (i:Int)))] [.obj (.box [.pv (enc k),.pv (enc m),.pv (enc l.k),.pv (enc l.t),.pv (enc ks)])]:=by
 intro j
 induction j with
 | zero=>
  intro i y hi h
  refine a0t N x k m l ks y i (Zv (Gx (by omega)) (YC (x:=y) ?_))
  rw[List.drop_of_length_le (by omega),XO,List.append_nil]
 | succ j ih=>
  intro i y hi h
  have hlt:i<ks.length:=by omega
  rw[Pv hlt,<- List.append_assoc]at h ⊢
  have h3:=ih (i+1) (y++encC ks[i]) (by omega) h
  have hd:=Qo (List.getElem_mem hlt)
  have ho:=UI hok (List.getElem_mem hlt)
  simp only[List.length_append]at h
  refine a0t N x k m l ks y i (Zu (Gy hlt) ⟨YU hlt rfl,WB hlt ?_⟩)
  rw[next (by omega)]
  generalize ks[i]=c at h h3 hd ho ⊢
  obtain⟨k',m',l',ks'⟩:=c
  have e2:([PV.sl 1 false (List.map enc y),PV.agg [enc k',enc m',enc l'.k,enc l'.t,enc ks']]:List PV)=encL ((y,Cert.mk k' m' l' ks',()):List UInt8×Cert×Unit):=by
   show _=[enc y,enc (Cert.mk k' m' l' ks')]
   rw[ZO];rfl
  rw[ZO]
  exact⟨rfl,Zo (α:=List UInt8×Cert×Unit) (y,Cert.mk k' m' l' ks',()) e2 (by
   show(Y8 (Cert.mk k' m' l' ks')&&decide ((y++encC (Cert.mk k' m' l' ks')).length<=1000000)&&decide (ZL (Cert.mk k' m' l' ks')<N))=true
   rw[ho,decide_eq_true (show(y++encC (Cert.mk k' m' l' ks')).length<=1000000 by rw[List.length_append];omega),decide_eq_true (show ZL (Cert.mk k' m' l' ks')<N by omega)];rfl),Yi (α:=List UInt8×Cert×Unit) (v:=y++encC (Cert.mk k' m' l' ks')) (y,Cert.mk k' m' l' ks',()) e2 rfl h3⟩
theorem b1m(N:Nat): ∀ a:List UInt8×Cert×Unit,((Y8 a.2.1&&decide ((a.1++encC a.2.1).length<=1000000))&&decide (ZL a.2.1<N+1))=true->Zf (QQ N) 0 (Ze UH (ZB (a.1++encC a.2.1))) UK [] (Yp c3t (encL a)):=by
 rintro⟨x,⟨k,m,l,ks⟩,⟨⟩⟩ h
 simp only[Bool.and_eq_true,decide_eq_true_eq]at h
 obtain⟨⟨ho,hl⟩,hN⟩:=h
 obtain⟨h1,h2,h3,h4⟩:=De ho
 have hN:ZL (Cert.mk k m l ks)<N+1:=hN
 rw[ZL]at hN
 have eE:(encL ((x,Cert.mk k m l ks,()):List UInt8×Cert×Unit):List PV)=[enc x,PV.agg [enc k,enc m,enc l.k,enc l.t,enc ks]]:=by
  show [enc x,enc (Cert.mk k m l ks)]=_
  rw[ZO]
 rw[eE]
 have hl:(x++encC (Cert.mk k m l ks)).length<=1000000:=hl
 show Zf (QQ N) 0 (Ze UH (ZB (x++encC (Cert.mk k m l ks)))) UK [] _
 have e:x++encC (Cert.mk k m l ks)=(x++encI k++encIs m++ZV l++encI ks.length)++XO (ks.drop 0):=by rw[CR,List.drop_zero];simp only[List.append_assoc]
 have hks:=Am ks
 rw[e]at hl ⊢
 have hl':=hl
 simp only[List.length_append]at hl'
 rw[List.drop_zero]at hl'
 have hp:=a5s N x k m l ks (by omega) (by omega) h4 ks.length 0 _ rfl hl
 refine d0s N x k m l ks ⟨Kb x k (by omega),Yi (α:=List UInt8×Int×Unit) (v:=x++encI k) (x,k,()) rfl rfl ⟨a8t _ _ (by simp only[List.length_append];omega),Yi (α:=List UInt8×List Int×Unit) (v:=x++encI k++encIs m) (x++encI k,m,()) rfl rfl ⟨b9k _ _ (by simp only[List.length_append];omega),Yi (α:=List UInt8×Lin×Unit) (v:=x++encI k++encIs m++ZV l) (x++encI k++encIs m,l,()) rfl rfl ⟨Kb _ _ (by simp only[List.length_append];omega),?_⟩⟩⟩⟩
 rw[List.length_map]
 exact Yi (α:=List UInt8×Int×Unit) (v:=x++encI k++encIs m++ZV l++encI ks.length) (x++encI k++encIs m++ZV l,(ks.length:Int),()) rfl rfl hp
end Go.Pl
namespace Go.Pl
open Go.RowKit
end Go.Pl
namespace Go.Pl
open Go.RowKit
theorem c8b{l:Lin}{n:Int}(h:GI l n=true)(hl:Yb l=true):ZG l=true:=by
 simp only[GI,Bool.and_eq_true,List.all_eq_true,decide_eq_true_eq]at h
 simp only[ZG,hl,Bool.true_and,List.all_eq_true,decide_eq_true_eq]
 intro t ht
 have:=h.1 t ht
 omega
mutual
theorem Bd: ∀ (c:Cert) (n:Int),n<=12->Xe c n=true->Y8 c=true->1<=n∧(ZL c:Int)<=n∧1<=Yj c∧Yj c<=n∧Kh c=true
 | .mk k m l ks,n,hn,h,ho=>by
  simp only[Xe,Bool.and_eq_true,Bool.not_eq_true',decide_eq_false_iff_not]at h
  obtain⟨h1,h2,h3,h4,h5⟩:=h
  simp only[Y8,Bool.and_eq_true,decide_eq_true_eq]at ho
  obtain⟨⟨⟨o1,o2⟩,o3⟩,o4⟩:=ho
  obtain⟨a1,a2,a3,a4⟩:=Mg ks n 1 (by omega) hn (by omega) (by omega) h5 o4
  rw[ZL,Yj]
  refine⟨by omega,by omega,by omega,by omega,?_⟩
  simp only[Kh,c8b h2 o2,a4,decide_eq_true o1,decide_eq_true o3]
  rfl
theorem Mg: ∀ (cs:List Cert) (n s:Int),1<=n->n<=12->1<=s->s<=100 - n->WM cs n=true->Ug cs=true->(XN cs:Int)<=n - 1∧s<=Y4 s cs∧Y4 s cs<=s+n - 1∧Af cs=true
 | [],n,s,h1,h2,h3,h4,_,_=>by
  rw[XN,Y4]
  exact⟨by omega,by omega,by omega,rfl⟩
 | c::cs,n,s,h1,h2,h3,h4,h,ho=>by
  simp only[WM,Bool.and_eq_true]at h
  simp only[Ug,Bool.and_eq_true]at ho
  rw[Uo (by omega) (by omega)]at h
  obtain⟨b1,b2,b3,b4,b5⟩:=Bd c (n - 1) (by omega) h.1 ho.1
  have h':=h.2
  rw[Uo (by omega) (by omega)]at h'
  obtain⟨a1,a2,a3,a4⟩:=Mg cs (n - Yj c) (s+Yj c) (by omega) (by omega) (by omega) (by omega) h' ho.2
  rw[XN,Y4,Uo (by omega) (by omega)]
  refine⟨by omega,by omega,by omega,?_⟩
  simp only[Af,b5,a4]
  rfl
end
mutual
def cV:Cert->Bool
 | .mk _ m l ks=>decide (m.length<=900)&&decide (l.t.length<=1000)&&decide (ks.length<=1000)&&cVs ks
def cVs:List Cert->Bool
 | []=>true
 | c::cs=>cV c&&cVs cs
end
mutual
theorem e1p: ∀ {c:Cert},cV c=true->cW c=true
 | .mk k m l ks,h=>by
  simp only[cV,cW,Bool.and_eq_true,decide_eq_true_eq]at h ⊢
  exact⟨⟨⟨by omega,h.1.1.2⟩,h.1.2⟩,d4z h.2⟩
theorem d4z: ∀ {cs:List Cert},cVs cs=true->cWs cs=true
 | [],_=>by simp[cWs]
 | c::cs,h=>by
  simp only[cVs,cWs,Bool.and_eq_true]at h ⊢
  exact⟨e1p h.1,d4z h.2⟩
end
mutual
theorem d2r: ∀ (c:Cert) (n:Int),n<=12->Xe c n=true->Y8 c=true->cV c=true
 | .mk k m l ks,n,hn,h,ho=>by
  simp only[Xe,Bool.and_eq_true,Bool.not_eq_true',decide_eq_false_iff_not]at h
  obtain⟨h1,h2,h3,h4,h5⟩:=h
  simp only[Y8,Bool.and_eq_true,decide_eq_true_eq]at ho
  obtain⟨⟨⟨o1,o2⟩,o3⟩,o4⟩:=ho
  have:=a2d ks n (by omega) hn h5 o4
  simp only[GI,Bool.and_eq_true,decide_eq_true_eq]at h2
  simp only[cV,this,Bool.and_true,Bool.and_eq_true,decide_eq_true_eq]
  omega
theorem a2d: ∀ (cs:List Cert) (n:Int),1<=n->n<=12->WM cs n=true->Ug cs=true->cVs cs=true
 | [],n,h1,h2,_,_=>by simp[cVs]
 | c::cs,n,h1,h2,h,ho=>by
  simp only[WM,Bool.and_eq_true]at h
  simp only[Ug,Bool.and_eq_true]at ho
  rw[Uo (by omega) (by omega)]at h
  obtain⟨b1,b2,b3,b4,b5⟩:=Bd c (n - 1) (by omega) h.1 ho.1
  have h':=h.2
  rw[Uo (by omega) (by omega)]at h'
  have q1:=d2r c (n - 1) (by omega) h.1 ho.1
  have q2:=a2d cs (n - Yj c) (by omega) (by omega) h' ho.2
  simp only[cVs,q1,q2]
  rfl
end
theorem c7b(a n:Nat)(m:List Int):(c9e a n m).length=m.length+n:=by
 unfold c9e
 simp only[List.length_append,List.length_take,List.length_drop,List.length_replicate]
 omega
mutual
theorem b1k{a n:Int}: ∀ {c c':Cert},Ea a n c=some c'->ZL c'=ZL c∧Yj c'=Yj c∧(cV c=true->cW c'=true)∧(cV c=true->Kh c=true->Kh c'=true)
 | .mk k m l ks,c',h=>by
  rw[Ea]at h
  split at h
  ·cases h
  ·rename_i hb
   cases hk:Qw a n ks with
   | none=>rw[hk]at h;cases h
   | some ks'=>
    rw[hk]at h
    cases h
    obtain⟨d1,d2,d3,d4⟩:=P8 hk
    have hn:n.toNat<=100:=by simp at hb;omega
    have hl:ks'.length=ks.length:=RU hk
    have hm:(if c4u k=true then c9e a.toNat n.toNat m else m).length<=m.length+100:=by
     split
     ·rw[c7b];omega
     ·omega
    refine⟨by rw[ZL,ZL,d1],by rw[Yj,Yj,d2 1],fun hv=> ?_,fun hv hs=> ?_⟩
    ·simp only[cV,cW,Bool.and_eq_true,decide_eq_true_eq]at hv ⊢
     exact⟨⟨⟨by omega,hv.1.1.2⟩,by omega⟩,d3 hv.2⟩
    ·simp only[cV,Kh,Bool.and_eq_true,decide_eq_true_eq]at hv hs ⊢
     exact⟨⟨⟨by omega,hs.1.1.2⟩,by omega⟩,d4 hv.2 hs.2⟩
theorem P8{a n:Int}: ∀ {cs ds:List Cert},Qw a n cs=some ds->XN ds=XN cs∧(∀ s,Y4 s ds=Y4 s cs)∧(cVs cs=true->cWs ds=true)∧(cVs cs=true->Af cs=true->Af ds=true)
 | [],ds,h=>by
  rw[Qw]at h
  cases h
  exact⟨rfl,fun _=>rfl,fun _=>by simp[cWs],fun _ h=>h⟩
 | c::cs,ds,h=>by
  rw[Qw]at h
  cases hc:Ea a n c with
  | none=>rw[hc]at h;cases h
  | some c'=>
   rw[hc]at h
   cases hd:Qw a n cs with
   | none=>rw[hd]at h;cases h
   | some cs'=>
    rw[hd]at h
    cases h
    obtain⟨a1,a2,a3,a4⟩:=b1k hc
    obtain⟨b1,b2,b3,b4⟩:=P8 hd
    refine⟨by rw[XN,XN,a1,b1],fun s=>by rw[Y4,Y4,a2,b2],fun hv=> ?_,fun hv hs=> ?_⟩
    ·simp only[cVs,cWs,Bool.and_eq_true]at hv ⊢
     exact⟨a3 hv.1,b3 hv.2⟩
    ·simp only[cVs,Af,Bool.and_eq_true]at hv hs ⊢
     exact⟨a4 hv.1 hs.1,b4 hv.2 hs.2⟩
end
end Go.Pl
namespace Go.Pl
open Go.RowKit
theorem TI(lo hi:Int): ∀ (j:Nat) {x:List UInt8} {e:Int},(YX lo hi j x e).2.2=0->e=0∧x=(YX lo hi j x e).1.flatMap encI++(YX lo hi j x e).2.1∧(YX lo hi j x e).1.length=j
 | 0,x,e,h=>⟨h,rfl,rfl⟩
 | j+1,x,e,h=>by
  rw[YX]at h ⊢
  by_cases h0:e≠0
  ·rw[if_pos h0]at h;exact absurd h h0
  ·rw[if_neg h0]at h
   rw[if_neg h0]
   simp only at h ⊢
   obtain⟨c0,hx,hl⟩:=TI lo hi j h
   obtain⟨_,hc,_,_⟩:=VI (by decide) c0
   refine⟨by omega,?_,by rw[List.length_cons,hl]⟩
   rw[List.flatMap_cons,List.append_assoc,<- hx,<- hc]
theorem a7d{most lo hi:Int}{x:List UInt8}{e:Int}(h0:0<=most)(h:(Zg most lo hi x e).2.2=0):e=0∧x=encIs (Zg most lo hi x e).1++(Zg most lo hi x e).2.1:=by
 unfold Zg at h ⊢
 by_cases he:e≠0
 ·rw[if_pos he]at h;exact absurd h he
 ·rw[if_neg he]at h
  rw[if_neg he]
  simp only at h ⊢
  by_cases hm:(UU most lo hi x 0).2.2≠0
  ·rw[if_pos hm]at h;exact absurd h hm
  ·rw[if_neg hm]at h
   rw[if_neg hm]
   unfold UU at h ⊢
   simp only at h ⊢
   obtain⟨n0,hx,hl⟩:=TI lo hi _ h
   obtain⟨_,hn,l0,l1⟩:=VI (by decide) n0
   refine⟨by omega,?_⟩
   unfold encIs
   rw[hl,Int.toNat_of_nonneg l0,List.append_assoc,<- hx,<- hn]
theorem PZ{d:Int->List UInt8->C5×List UInt8×Int×Int}(hd : ∀ v x,(d v x).2.2.1=0->x=encC (d v x).1.c++(d v x).2.1): ∀ (j:Nat) {w:Int} {x:List UInt8} {e:Int},(Z8 d j w x e).2.2.1=0->e=0∧x=XO (Z8 d j w x e).1++(Z8 d j w x e).2.1∧(Z8 d j w x e).1.length=j
 | 0,w,x,e,h=>⟨h,rfl,rfl⟩
 | j+1,w,x,e,h=>by
  rw[Z8]at h ⊢
  by_cases h0:e≠0
  ·rw[if_pos h0]at h;exact absurd h h0
  ·rw[if_neg h0]at h
   rw[if_neg h0]
   simp only at h ⊢
   obtain⟨c0,hx,hl⟩:=PZ hd j h
   have hc:=hd w x c0
   refine⟨by omega,?_,by rw[List.length_cons,hl]⟩
   rw[XO,List.append_assoc,<- hx,<- hc]
theorem M3: ∀ (F:Nat) {w:Int} {x:List UInt8},(Ua true F w x).2.2.1=0->x=encC (Ua true F w x).1.c++(Ua true F w x).2.1
 | 0,w,x,h=>by cases h
 | F+1,w,x,h=>by
  rw[Ua]at h ⊢
  by_cases h0:w<=0
  ·rw[if_pos h0]at h;cases h
  ·rw[if_neg h0]at h
   rw[if_neg h0]
   unfold VC at h ⊢
   simp only at h ⊢
   generalize hk:Zc 1 3 2 x 0=k at h ⊢
   generalize hm:Zg 1100 (-1000000000) 1000000000 k.2.1 k.2.2=m at h ⊢
   generalize hl:Zp m.2.1 m.2.2=l at h ⊢
   by_cases h1:l.2.2≠0
   ·rw[if_pos h1]at h;exact absurd h h1
   ·rw[if_neg h1]at h
    rw[if_neg h1]
    have h1:l.2.2=0:=by omega
    simp only at h ⊢
    obtain⟨n0,hx,hj⟩:=PZ (fun v y hv=>M3 F hv) _ h
    have hn:QN true l.2.1=Zc 0 2 3 l.2.1 0:=rfl
    rw[hn]at n0 hx hj ⊢
    obtain⟨_,hb,b0,b1⟩:=VI (by decide) n0
    have m0:m.2.2=0:=by
     rcases Int.decEq m.2.2 0 with e|e
     ·rw[Um _ e]at hl
      rw[<- hl]at h1
      exact absurd h1 e
     ·exact e
    rw[m0]at hl
    have hl2:=ER (x:=m.2.1) (by rw[hl];exact h1)
    rw[hl]at hl2
    rw[<- hm]at m0
    obtain⟨k0,hm2⟩:=a7d (by decide) m0
    rw[hm]at hm2
    rw[<- hk]at k0
    obtain⟨_,hk2,_,_⟩:=VI (by decide) k0
    rw[hk]at hk2
    show x=encC (Cert.mk k.1 m.1 ⟨l.1.k,l.1.t⟩ _)++_
    rw[CR,hj,Int.toNat_of_nonneg b0]
    simp only[List.append_assoc]
    rw[<- hx,<- hb,hl2,<- hm2,<- hk2]
theorem Lr{x:List UInt8}(h:(Zb x 0).2.2=0):encC (Zb x 0).1.c++(Zb x 0).2.1=x:=by
 by_cases h0:(Zx true 1000 x).2.2.1=0
 ·rw[Jp h0]
  exact(M3 _ h0).symm
 ·rw[JE h0]at h
  exact absurd h h0
theorem Mt(lo hi:Int): ∀ (j:Nat) (x:List UInt8) (e:Int),(YX lo hi j x e).1.length<=j
 | 0,x,e=>Nat.le_refl _
 | j+1,x,e=>by
  rw[YX]
  split
  ·exact Nat.zero_le _
  ·have:=Mt lo hi j (Zc lo hi 2 x 0).2.1 (Zc lo hi 2 x 0).2.2
   simp only[List.length_cons];omega
theorem b6f(x:List UInt8)(e:Int):(Zg 1100 (-1000000000) 1000000000 x e).1.length<=1100:=by
 have h:=Q4 (lo:=0) (hi:=1100) (e:=3) (x:=x) (err:=0) (by decide) (by decide) (by decide)
 have h2:=Mt (-1000000000) 1000000000 (Zc 0 1100 3 x 0).1.toNat (Zc 0 1100 3 x 0).2.1 (Zc 0 1100 3 x 0).2.2
 unfold Zg
 split
 ·exact Nat.zero_le _
 ·simp only
  split
  ·exact Nat.zero_le _
  ·show(YX _ _ _ _ _).1.length<=1100
   omega
theorem EX{d:Int->List UInt8->C5×List UInt8×Int×Int}(hd : ∀ v x,Y8 (d v x).1.c=true): ∀ (j:Nat) (w:Int) (x:List UInt8) (e:Int),(Z8 d j w x e).1.length<=j∧Ug (Z8 d j w x e).1=true
 | 0,w,x,e=>⟨Nat.le_refl _,rfl⟩
 | j+1,w,x,e=>by
  rw[Z8]
  split
  ·exact⟨Nat.zero_le _,rfl⟩
  ·obtain⟨h1,h2⟩:=EX hd j (d w x).2.2.2 (d w x).2.1 (d w x).2.2.1
   refine⟨by simp only[List.length_cons];omega,?_⟩
   rw[Ug,hd,h2];rfl
theorem d6b{k:Int}{m:List Int}{lk:Int}{lt:List Coef}{ks:List Cert}(h1:m.length<=1100)(h2:lt.length<=12)(h3:ks.length<=1000000)(h4:Ug ks=true):Y8 (Cert.mk k m ⟨lk,lt⟩ ks)=true:=by
 simp only[Y8,Yb,Bool.and_eq_true,decide_eq_true_eq]
 exact⟨⟨⟨by omega,by omega⟩,by omega⟩,h4⟩
theorem a7x: ∀ (F:Nat) (w:Int) (x:List UInt8),Y8 (Ua true F w x).1.c=true
 | 0,w,x=>rfl
 | F+1,w,x=>by
  rw[Ua]
  split
  ·rfl
  ·unfold VC
   simp only
   have hm:=b6f (Zc 1 3 2 x 0).2.1 (Zc 1 3 2 x 0).2.2
   generalize Zg 1100 (-1000000000) 1000000000 (Zc 1 3 2 x 0).2.1 (Zc 1 3 2 x 0).2.2=m at hm ⊢
   have hl:=a6x m.2.1 m.2.2
   generalize Zp m.2.1 m.2.2=l at hl ⊢
   split
   ·rfl
   ·obtain⟨k1,k2⟩:=EX (a7x F) (QN true l.2.1).1.toNat (w - 1) (QN true l.2.1).2.1 (QN true l.2.1).2.2
    have hn:QN true l.2.1=Zc 0 2 3 l.2.1 0:=rfl
    have h2:=Q4 (lo:=0) (hi:=2) (e:=3) (x:=l.2.1) (err:=0) (by decide) (by decide) (by decide)
    rw[hn]at k1 k2 ⊢
    exact d6b hm hl (Nat.le_trans k1 (by omega)) k2
theorem a6e(x:List UInt8)(e:Int):Y8 (Zb x e).1.c=true:=by
 unfold Zb
 split
 ·rfl
 ·simp only
  split
  ·rfl
  ·exact a7x _ _ _
theorem d2p(m:List Int):(m.flatMap encI).length<=m.length*9:=by
 induction m with
 | nil=>exact Nat.le_refl _
 | cons n m ih=>
  have:=YM n
  rw[List.flatMap_cons,List.length_append,List.length_cons,Nat.add_mul]
  omega
theorem d5k{l:Lin}(h:GI l 8=true):(ZV l).length<=490:=by
 unfold GI at h
 simp only[Bool.and_eq_true,List.all_eq_true,decide_eq_true_eq]at h
 obtain⟨h1,h2⟩:=h
 have h3 : ∀ ts:List Coef,(∀ t∈ts,t.v.s.length<=40)->(ts.flatMap UJ).length<=ts.length*58:=by
  intro ts
  induction ts with
  | nil=>intro _;exact Nat.le_refl _
  | cons t ts ih=>
   intro h
   have ha:=ih fun t ht=>h t (by simp[ht])
   have hb:=h t (by simp)
   have hc:=YM t.c
   have hd:=YM t.v.s.length
   have he:(UJ t).length=(encI t.v.s.length).length+t.v.s.length+(encI t.c).length:=by unfold UJ encS;simp only[List.length_append]
   rw[List.flatMap_cons,List.length_append,List.length_cons,Nat.add_mul]
   omega
 have h4:=h3 l.t h1
 have h5:=YM l.k
 have h6:=YM l.t.length
 unfold ZV
 simp only[List.length_append]
 omega
mutual
theorem a8z: ∀ (c:Cert) (n:Int),n<=12->Xe c n=true->Y8 c=true->((encC c).length:Int)<=1100*Yj c
 | .mk k m l ks,n,hn,h,ho=>by
  simp only[Xe,Bool.and_eq_true,Bool.not_eq_true',decide_eq_false_iff_not]at h
  obtain⟨h1,h2,h3,h4,h5⟩:=h
  simp only[Y8,Bool.and_eq_true,decide_eq_true_eq]at ho
  have a:=El ks n 1 (by omega) hn (by omega) (by omega) h5 ho.2
  have b1:=YM k
  have b2:=d2p m
  have b3:=YM m.length
  have b4:=d5k h2
  have b5:=YM ks.length
  rw[Yj,CR]
  unfold encIs
  simp only[List.length_append]
  omega
theorem El: ∀ (cs:List Cert) (n s:Int),1<=n->n<=12->1<=s->s<=100 - n->WM cs n=true->Ug cs=true->((XO cs).length:Int)+1100*s<=1100*Y4 s cs
 | [],n,s,h1,h2,h3,h4,_,_=>by
  rw[XO,Y4]
  simp
 | c::cs,n,s,h1,h2,h3,h4,h,ho=>by
  simp only[WM,Bool.and_eq_true]at h
  simp only[Ug,Bool.and_eq_true]at ho
  rw[Uo (by omega) (by omega)]at h
  obtain⟨b1,b2,b3,b4,b5⟩:=Bd c (n - 1) (by omega) h.1 ho.1
  have e1:=a8z c (n - 1) (by omega) h.1 ho.1
  have h':=h.2
  rw[Uo (by omega) (by omega)]at h'
  have e2:=El cs (n - Yj c) (s+Yj c) (by omega) (by omega) (by omega) (by omega) h' ho.2
  rw[XO,Y4,Uo (by omega) (by omega),List.length_append]
  omega
end
theorem b4j{c:Cert}(h:Xe c 12=true)(ho:Y8 c=true):(encC c).length<=13200:=by
 have a:=a8z c 12 (by decide) h ho
 obtain⟨_,_,_,b,_⟩:=Bd c 12 (by decide) h ho
 omega
end Go.Pl
namespace Go.Pl
open Go.RowKit
open Enc (enc dec is)
open EncL (encL decL isL)
theorem Dl(k:Int)(m:List Int)(l:Lin)(ks:List Cert)(k2:Int)(m2:List Int)(l2:Lin)(ks2:List Cert):([PV.agg [enc k,enc m,enc l.k,enc l.t,enc ks],PV.agg [enc k2,enc m2,enc l2.k,enc l2.t,enc ks2]]:List PV)=[enc (Cert.mk k m l ks),enc (Cert.mk k2 m2 l2 ks2)]:=by rw[ZO,ZO]
theorem b1a(N:Nat)(k:Int)(m:List Int)(l:Lin)(a:List Cert)(k2:Int)(m2:List Int)(l2:Lin)(b:List Cert)(hN:XN a<N)(ha:Ug a=true)(hb:Ug b=true)(hl:a.length<=9223372036854775807)(hab:a.length=b.length): ∀ (j i:Nat),j+i=a.length ->
  At (J9 N) 0 (Ze QT (ZB (Sr (a.drop i) (b.drop i)))) Q7 0 55 [(2,.ptr 0 0),(3,.ptr 1 0),(5,.pv (.int .i64 i))] [.obj (.box [.pv (enc k),.pv (enc m),.pv (enc l.k),.pv (enc l.t),.pv (enc a)]),.obj (.box [.pv (enc k2),.pv (enc m2),.pv (enc l2.k),.pv (enc l2.t),.pv (enc b)])]:=by
 intro j
 induction j with
 | zero=>
  intro i hi
  rw[List.drop_of_length_le (by omega),List.drop_of_length_le (by omega)]
  exact b0n N k m l a k2 m2 l2 b i (Zv (Gx (by omega)) (ZY (by rw[Sr])))
 | succ j ih=>
  intro i hi
  have hlt:i<a.length:=by omega
  have hlt2:i<b.length:=by omega
  have h:=ih (i+1) (by omega)
  have hd:=Qo (List.getElem_mem hlt)
  have ho:=UI ha (List.getElem_mem hlt)
  have ho2:=UI hb (List.getElem_mem hlt2)
  refine b0n N k m l a k2 m2 l2 b i (Zu (Gy hlt) ⟨YU hlt rfl,WB hlt ?_⟩)
  rw[List.drop_eq_getElem_cons hlt,List.drop_eq_getElem_cons hlt2,Sr,next (by omega)]
  generalize a[i]=c at hd ho ⊢
  obtain⟨k1,m1,l1,ks1⟩:=c
  rw[ZO]
  refine⟨rfl,YU hlt2 rfl,WB hlt2 ?_⟩
  generalize b[i]=d at ho2 ⊢
  obtain⟨k3,m3,l3,ks3⟩:=d
  rw[ZO]
  refine⟨rfl,Zo (Cert.mk k1 m1 l1 ks1,Cert.mk k3 m3 l3 ks3,()) (Dl k1 m1 l1 ks1 k3 m3 l3 ks3) (by
    show(Y8 _&&Y8 _&&decide _)=true
    rw[ho,ho2,decide_eq_true (show ZL (Cert.mk k1 m1 l1 ks1)<N by omega)];rfl),Zq (Cert.mk k1 m1 l1 ks1,Cert.mk k3 m3 l3 ks3,()) (Dl k1 m1 l1 ks1 k3 m3 l3 ks3) ?_⟩
  refine WV (fun hf=> ?_) fun hf=> ?_
  ·have hf:OZ (.mk k1 m1 l1 ks1) (.mk k3 m3 l3 ks3)=false:=hf
   rw[hf]
   exact ZY rfl
  ·have hf:OZ (.mk k1 m1 l1 ks1) (.mk k3 m3 l3 ks3)=true:=hf
   rw[hf,Bool.true_and]
   exact h
theorem c3l(N:Nat): ∀ x:Cert×Cert×Unit,((Y8 x.1&&Y8 x.2.1)&&decide (ZL x.1<N+1))=true->Zf (J9 N) 0 (Ze QT (ZB (OZ x.1 x.2.1))) Q7 [] (Yp c9n (encL x)):=by
 rintro⟨⟨k,m,l,ks⟩,⟨k2,m2,l2,ks2⟩,⟨⟩⟩ h
 simp only[Bool.and_eq_true,decide_eq_true_eq]at h
 obtain⟨⟨hw,hw2⟩,hd⟩:=h
 obtain⟨h1,h2,h3,h4⟩:=De hw
 obtain⟨g1,g2,g3,g4⟩:=De hw2
 rw[ZL]at hd
 have e:(encL ((Cert.mk k m l ks,Cert.mk k2 m2 l2 ks2,()):Cert×Cert×Unit):List PV)=[PV.agg [enc k,enc m,enc l.k,enc l.t,enc ks],PV.agg [enc k2,enc m2,enc l2.k,enc l2.t,enc ks2]]:=(Dl k m l ks k2 m2 l2 ks2).symm
 rw[e]
 show Zf (J9 N) 0 (Ze QT (ZB (OZ (.mk k m l ks) (.mk k2 m2 l2 ks2)))) Q7 [] _
 rw[OZ]
 by_cases a1:k=k2
 ·refine c6f N k m l ks k2 m2 l2 ks2 (Zv (by simp[a1]) ?_)
  rw[show(k==k2)=true by simp[a1],Bool.true_and]
  refine⟨Zo (m,m2,()) rfl (decide_eq_true h1),Zq (m,m2,()) rfl (WV (fun a2=> ?_) fun a2=> ?_)⟩
  ·have a2:decide (m=m2)=false:=a2
   rw[a2];exact ZY rfl
  ·have a2:decide (m=m2)=true:=a2
   rw[a2,Bool.true_and]
   refine⟨Zo (l,l2,()) rfl (decide_eq_true (show l.t.length<=9223372036854775807 by omega)),Zq (l,l2,()) rfl (WV (fun a3=> ?_) fun a3=> ?_)⟩
   ·have a3:decide (l=l2)=false:=a3
    rw[a3];exact ZY rfl
   ·have a3:decide (l=l2)=true:=a3
    rw[a3,Bool.true_and,List.length_map,List.length_map]
    by_cases e:ks.length=ks2.length
    ·exact Zv (by simp[e]) (b1a N k m l ks k2 m2 l2 ks2 (by omega) h4 g4 h3 e ks.length 0 (by omega))
    ·exact Zu (by simp;omega) (ZY (En e).symm)
 ·refine c6f N k m l ks k2 m2 l2 ks2 (Zu (by simp[a1]) ?_)
  rw[show(k==k2)=false by simp[a1]]
  exact ZY rfl
theorem b5l{α:Type}[DecidableEq α](x y:α)(a b:List α):decide (x::a=y::b)=(decide (x=y)&&decide (a=b)):=by
 rw[Bool.eq_iff_iff];simp
theorem Eb(a b:List Int)(ha:a.length<=9223372036854775807)(hab:a.length=b.length): ∀ (k i:Nat),k+i=a.length ->
  At QE 0 (Ze Ue (ZB (decide (a.drop i=b.drop i)))) Us 0 26 [(0,.pv (enc a)),(1,.pv (enc b)),(5,.pv (.int .i64 i))] []:=by
 intro k
 induction k with
 | zero=>
  intro i hi
  rw[List.drop_of_length_le (by omega),List.drop_of_length_le (by omega)]
  exact NI a b i (Zv (Gx (by omega)) (ZY rfl))
 | succ k ih=>
  intro i hi
  have hlt:i<a.length:=by omega
  have hlt2:i<b.length:=by omega
  have h:=ih (i+1) (by omega)
  rw[List.drop_eq_getElem_cons hlt,List.drop_eq_getElem_cons hlt2,b5l]
  refine NI a b i (Zu (Gy hlt) ⟨YU hlt rfl,WB hlt ⟨YU hlt2 rfl,WB hlt2 ?_⟩⟩)
  show if (a[i] != b[i])=true then _ else _
  by_cases e:a[i]=b[i]
  ·rw[if_neg (by simp[e]),next (by omega),decide_eq_true e,Bool.true_and]
   exact h
  ·rw[if_pos (by simp[e]),decide_eq_false e,Bool.false_and]
   exact ZY rfl
theorem a3t: ∀ x:List Int×List Int×Unit,a8e x.1=true->Zf QE 0 (Ze Ue (ZB (decide (x.1=x.2.1)))) Us [] (Yp b3o (encL x)):=by
 rintro⟨a,b,⟨⟩⟩ h
 refine b7q a b ?_
 simp only[List.length_map]
 by_cases e:a.length=b.length
 ·rw[if_neg (by simp[e])]
  exact Eb a b (of_decide_eq_true h) e a.length 0 (by omega)
 ·rw[if_pos (by simp;omega)]
  exact ZY (by simp;rintro rfl;exact e rfl)
def c6c(W:List UInt8)(G:PV->Prop)(NX:Prop):Prop:=(List.isEmpty (List.map enc W)||1==1)=true∧((List.length ([]:List PV)==0&&0==0&&decide ((0+List.length (List.map enc W))*1<=1099511627776)&&decide (0+List.length (List.map enc W)<=1099511627776))=true∧((List.isEmpty (List.map enc W)||1==1)=true∧((List.length ([]:List PV)==0&&0==0&&decide ((0+List.length (List.map enc W))*1<=1099511627776)&&decide (0+List.length (List.map enc W)<=1099511627776))=true∧((GH ZZ Z0 [(.ptr 0 0)] [(.box [(.row 1 (0+List.length (List.map enc W)) 0 (0+List.length (List.map enc W))),(.pv (.int .i64 0))]),(.row false 5 1 (([]:List PV)++List.map enc W))])=true∧((GH ZZ Z0 [(.ptr 0 0)] [(.box [(.row 1 (0+List.length (List.map enc W)) 0 (0+List.length (List.map enc W))),(.pv (.int .i64 0))]),(.row false 5 1 (([]:List PV)++List.map enc W))])=true∧((Go.Pl.preT (fun(x:Cert×Cert×Unit)=>Y8 (Prod.fst x)&&Y8 (Prod.fst (Prod.snd x))) [(.agg [(.int .i64 (C5.k (Prod.fst (Zb (Za (PV.sl 1 false (([]:List PV)++List.map enc W))) 0)))),(.sl 1 false (List.map enc (C5.m (Prod.fst (Zb (Za (PV.sl 1 false (([]:List PV)++List.map enc W))) 0))))),(.int .i64 (C5.lk (Prod.fst (Zb (Za (PV.sl 1 false (([]:List PV)++List.map enc W))) 0)))),(.sl 2 false (List.map enc (C5.lt (Prod.fst (Zb (Za (PV.sl 1 false (([]:List PV)++List.map enc W))) 0))))),(.sl 5 false (List.map enc (C5.ks (Prod.fst (Zb (Za (PV.sl 1 false (([]:List PV)++List.map enc W))) 0)))))]),(.agg [(.int .i64 (C5.k (Prod.fst (Zb (Za (PV.sl 1 false (([]:List PV)++List.map enc W))) 0)))),(.sl 1 false (List.map enc (C5.m (Prod.fst (Zb (Za (PV.sl 1 false (([]:List PV)++List.map enc W))) 0))))),(.int .i64 (C5.lk (Prod.fst (Zb (Za (PV.sl 1 false (([]:List PV)++List.map enc W))) 0)))),(.sl 2 false (List.map enc (C5.lt (Prod.fst (Zb (Za (PV.sl 1 false (([]:List PV)++List.map enc W))) 0))))),(.sl 5 false (List.map enc (C5.ks (Prod.fst (Zb (Za (PV.sl 1 false (([]:List PV)++List.map enc W))) 0)))))])])=true∧(∃ y0:Bool,AV.pv (Zk (fun(x:Cert×Cert×Unit)=>OZ (Prod.fst x) (Prod.fst (Prod.snd x))) [(.agg [(.int .i64 (C5.k (Prod.fst (Zb (Za (PV.sl 1 false (([]:List PV)++List.map enc W))) 0)))),(.sl 1 false (List.map enc (C5.m (Prod.fst (Zb (Za (PV.sl 1 false (([]:List PV)++List.map enc W))) 0))))),(.int .i64 (C5.lk (Prod.fst (Zb (Za (PV.sl 1 false (([]:List PV)++List.map enc W))) 0)))),(.sl 2 false (List.map enc (C5.lt (Prod.fst (Zb (Za (PV.sl 1 false (([]:List PV)++List.map enc W))) 0))))),(.sl 5 false (List.map enc (C5.ks (Prod.fst (Zb (Za (PV.sl 1 false (([]:List PV)++List.map enc W))) 0)))))]),(.agg [(.int .i64 (C5.k (Prod.fst (Zb (Za (PV.sl 1 false (([]:List PV)++List.map enc W))) 0)))),(.sl 1 false (List.map enc (C5.m (Prod.fst (Zb (Za (PV.sl 1 false (([]:List PV)++List.map enc W))) 0))))),(.int .i64 (C5.lk (Prod.fst (Zb (Za (PV.sl 1 false (([]:List PV)++List.map enc W))) 0)))),(.sl 2 false (List.map enc (C5.lt (Prod.fst (Zb (Za (PV.sl 1 false (([]:List PV)++List.map enc W))) 0))))),(.sl 5 false (List.map enc (C5.ks (Prod.fst (Zb (Za (PV.sl 1 false (([]:List PV)++List.map enc W))) 0)))))])])=AV.pv (enc y0)∧(if (!y0)=true then G ((.bool false))else(if (Prod.snd (Prod.snd (Zb (Za (PV.sl 1 false (([]:List PV)++List.map enc W))) 0)) != Prod.snd (Prod.snd (Zb (Za (PV.sl 1 false (([]:List PV)++List.map enc W))) 0)))=true then G ((.bool false))else((Go.Pl.preT (fun(x:List UInt8×List UInt8×Unit)=>true) [(.sl 1 false (List.map enc (Prod.fst (Prod.snd (Zb (Za (PV.sl 1 false (([]:List PV)++List.map enc W))) 0))))),(.sl 1 false (List.map enc (Prod.fst (Prod.snd (Zb (Za (PV.sl 1 false (([]:List PV)++List.map enc W))) 0)))))])=true∧(∃ y1:Bool,AV.pv (Zk (fun(x:List UInt8×List UInt8×Unit)=>decide (Prod.fst x=Prod.fst (Prod.snd x))) [(.sl 1 false (List.map enc (Prod.fst (Prod.snd (Zb (Za (PV.sl 1 false (([]:List PV)++List.map enc W))) 0))))),(.sl 1 false (List.map enc (Prod.fst (Prod.snd (Zb (Za (PV.sl 1 false (([]:List PV)++List.map enc W))) 0)))))])=AV.pv (enc y1)∧(if (!y1)=true then G ((.bool false))else(if (Prod.snd (Prod.snd (Zb (Za (PV.sl 1 false (([]:List PV)++List.map enc W))) 0))==0)=true then(Vb [(.pv (.sl 0 true [])),(.pv (.agg [(.int .i64 (C5.k (Prod.fst (Zb (Za (PV.sl 1 false (([]:List PV)++List.map enc W))) 0)))),(.sl 1 false (List.map enc (C5.m (Prod.fst (Zb (Za (PV.sl 1 false (([]:List PV)++List.map enc W))) 0))))),(.int .i64 (C5.lk (Prod.fst (Zb (Za (PV.sl 1 false (([]:List PV)++List.map enc W))) 0)))),(.sl 2 false (List.map enc (C5.lt (Prod.fst (Zb (Za (PV.sl 1 false (([]:List PV)++List.map enc W))) 0))))),(.sl 5 false (List.map enc (C5.ks (Prod.fst (Zb (Za (PV.sl 1 false (([]:List PV)++List.map enc W))) 0)))))]))] [])=true∧((List.isEmpty (List.map enc (Prod.fst (Prod.snd (Zb (Za (PV.sl 1 false (([]:List PV)++List.map enc W))) 0))))||1==1)=true∧((List.length (List.map enc (encC (dec (PV.agg [enc (C5.k (Prod.fst (Zb (Za (PV.sl 1 false (([]:List PV)++List.map enc W))) 0))),enc (C5.m (Prod.fst (Zb (Za (PV.sl 1 false (([]:List PV)++List.map enc W))) 0))),enc (C5.lk (Prod.fst (Zb (Za (PV.sl 1 false (([]:List PV)++List.map enc W))) 0))),enc (C5.lt (Prod.fst (Zb (Za (PV.sl 1 false (([]:List PV)++List.map enc W))) 0))),enc (C5.ks (Prod.fst (Zb (Za (PV.sl 1 false (([]:List PV)++List.map enc W))) 0)))]))))==List.length (encC (dec (PV.agg [enc (C5.k (Prod.fst (Zb (Za (PV.sl 1 false (([]:List PV)++List.map enc W))) 0))),enc (C5.m (Prod.fst (Zb (Za (PV.sl 1 false (([]:List PV)++List.map enc W))) 0))),enc (C5.lk (Prod.fst (Zb (Za (PV.sl 1 false (([]:List PV)++List.map enc W))) 0))),enc (C5.lt (Prod.fst (Zb (Za (PV.sl 1 false (([]:List PV)++List.map enc W))) 0))),enc (C5.ks (Prod.fst (Zb (Za (PV.sl 1 false (([]:List PV)++List.map enc W))) 0)))])))&&List.length (encC (dec (PV.agg [enc (C5.k (Prod.fst (Zb (Za (PV.sl 1 false (([]:List PV)++List.map enc W))) 0))),enc (C5.m (Prod.fst (Zb (Za (PV.sl 1 false (([]:List PV)++List.map enc W))) 0))),enc (C5.lk (Prod.fst (Zb (Za (PV.sl 1 false (([]:List PV)++List.map enc W))) 0))),enc (C5.lt (Prod.fst (Zb (Za (PV.sl 1 false (([]:List PV)++List.map enc W))) 0))),enc (C5.ks (Prod.fst (Zb (Za (PV.sl 1 false (([]:List PV)++List.map enc W))) 0)))])))==List.length (encC (dec (PV.agg [enc (C5.k (Prod.fst (Zb (Za (PV.sl 1 false (([]:List PV)++List.map enc W))) 0))),enc (C5.m (Prod.fst (Zb (Za (PV.sl 1 false (([]:List PV)++List.map enc W))) 0))),enc (C5.lk (Prod.fst (Zb (Za (PV.sl 1 false (([]:List PV)++List.map enc W))) 0))),enc (C5.lt (Prod.fst (Zb (Za (PV.sl 1 false (([]:List PV)++List.map enc W))) 0))),enc (C5.ks (Prod.fst (Zb (Za (PV.sl 1 false (([]:List PV)++List.map enc W))) 0)))])))&&decide ((List.length (encC (dec (PV.agg [enc (C5.k (Prod.fst (Zb (Za (PV.sl 1 false (([]:List PV)++List.map enc W))) 0))),enc (C5.m (Prod.fst (Zb (Za (PV.sl 1 false (([]:List PV)++List.map enc W))) 0))),enc (C5.lk (Prod.fst (Zb (Za (PV.sl 1 false (([]:List PV)++List.map enc W))) 0))),enc (C5.lt (Prod.fst (Zb (Za (PV.sl 1 false (([]:List PV)++List.map enc W))) 0))),enc (C5.ks (Prod.fst (Zb (Za (PV.sl 1 false (([]:List PV)++List.map enc W))) 0)))])))+List.length (List.map enc (Prod.fst (Prod.snd (Zb (Za (PV.sl 1 false (([]:List PV)++List.map enc W))) 0)))))*1<=1099511627776)&&decide (List.length (encC (dec (PV.agg [enc (C5.k (Prod.fst (Zb (Za (PV.sl 1 false (([]:List PV)++List.map enc W))) 0))),enc (C5.m (Prod.fst (Zb (Za (PV.sl 1 false (([]:List PV)++List.map enc W))) 0))),enc (C5.lk (Prod.fst (Zb (Za (PV.sl 1 false (([]:List PV)++List.map enc W))) 0))),enc (C5.lt (Prod.fst (Zb (Za (PV.sl 1 false (([]:List PV)++List.map enc W))) 0))),enc (C5.ks (Prod.fst (Zb (Za (PV.sl 1 false (([]:List PV)++List.map enc W))) 0)))])))+List.length (List.map enc (Prod.fst (Prod.snd (Zb (Za (PV.sl 1 false (([]:List PV)++List.map enc W))) 0))))<=1099511627776))=true∧((List.length (List.map enc (encC (dec (PV.agg [enc (C5.k (Prod.fst (Zb (Za (PV.sl 1 false (([]:List PV)++List.map enc W))) 0))),enc (C5.m (Prod.fst (Zb (Za (PV.sl 1 false (([]:List PV)++List.map enc W))) 0))),enc (C5.lk (Prod.fst (Zb (Za (PV.sl 1 false (([]:List PV)++List.map enc W))) 0))),enc (C5.lt (Prod.fst (Zb (Za (PV.sl 1 false (([]:List PV)++List.map enc W))) 0))),enc (C5.ks (Prod.fst (Zb (Za (PV.sl 1 false (([]:List PV)++List.map enc W))) 0)))])))++List.map enc (Prod.fst (Prod.snd (Zb (Za (PV.sl 1 false (([]:List PV)++List.map enc W))) 0))))==List.length (encC (dec (PV.agg [enc (C5.k (Prod.fst (Zb (Za (PV.sl 1 false (([]:List PV)++List.map enc W))) 0))),enc (C5.m (Prod.fst (Zb (Za (PV.sl 1 false (([]:List PV)++List.map enc W))) 0))),enc (C5.lk (Prod.fst (Zb (Za (PV.sl 1 false (([]:List PV)++List.map enc W))) 0))),enc (C5.lt (Prod.fst (Zb (Za (PV.sl 1 false (([]:List PV)++List.map enc W))) 0))),enc (C5.ks (Prod.fst (Zb (Za (PV.sl 1 false (([]:List PV)++List.map enc W))) 0)))])))+List.length (List.map enc (Prod.fst (Prod.snd (Zb (Za (PV.sl 1 false (([]:List PV)++List.map enc W))) 0)))))=true∧((Go.Pl.preT (fun(x:List UInt8×List UInt8×Unit)=>true) [(.sl 1 false (List.drop 0 (List.take (List.length (encC (dec (PV.agg [enc (C5.k (Prod.fst (Zb (Za (PV.sl 1 false (([]:List PV)++List.map enc W))) 0))),enc (C5.m (Prod.fst (Zb (Za (PV.sl 1 false (([]:List PV)++List.map enc W))) 0))),enc (C5.lk (Prod.fst (Zb (Za (PV.sl 1 false (([]:List PV)++List.map enc W))) 0))),enc (C5.lt (Prod.fst (Zb (Za (PV.sl 1 false (([]:List PV)++List.map enc W))) 0))),enc (C5.ks (Prod.fst (Zb (Za (PV.sl 1 false (([]:List PV)++List.map enc W))) 0)))])))+List.length (List.map enc (Prod.fst (Prod.snd (Zb (Za (PV.sl 1 false (([]:List PV)++List.map enc W))) 0))))) (List.map enc (encC (dec (PV.agg [enc (C5.k (Prod.fst (Zb (Za (PV.sl 1 false (([]:List PV)++List.map enc W))) 0))),enc (C5.m (Prod.fst (Zb (Za (PV.sl 1 false (([]:List PV)++List.map enc W))) 0))),enc (C5.lk (Prod.fst (Zb (Za (PV.sl 1 false (([]:List PV)++List.map enc W))) 0))),enc (C5.lt (Prod.fst (Zb (Za (PV.sl 1 false (([]:List PV)++List.map enc W))) 0))),enc (C5.ks (Prod.fst (Zb (Za (PV.sl 1 false (([]:List PV)++List.map enc W))) 0)))])))++List.map enc (Prod.fst (Prod.snd (Zb (Za (PV.sl 1 false (([]:List PV)++List.map enc W))) 0))))))),(.sl 1 false (List.map enc W))])=true∧(∃ y2:Bool,AV.pv (Zk (fun(x:List UInt8×List UInt8×Unit)=>decide (Prod.fst x=Prod.fst (Prod.snd x))) [(.sl 1 false (List.drop 0 (List.take (List.length (encC (dec (PV.agg [enc (C5.k (Prod.fst (Zb (Za (PV.sl 1 false (([]:List PV)++List.map enc W))) 0))),enc (C5.m (Prod.fst (Zb (Za (PV.sl 1 false (([]:List PV)++List.map enc W))) 0))),enc (C5.lk (Prod.fst (Zb (Za (PV.sl 1 false (([]:List PV)++List.map enc W))) 0))),enc (C5.lt (Prod.fst (Zb (Za (PV.sl 1 false (([]:List PV)++List.map enc W))) 0))),enc (C5.ks (Prod.fst (Zb (Za (PV.sl 1 false (([]:List PV)++List.map enc W))) 0)))])))+List.length (List.map enc (Prod.fst (Prod.snd (Zb (Za (PV.sl 1 false (([]:List PV)++List.map enc W))) 0))))) (List.map enc (encC (dec (PV.agg [enc (C5.k (Prod.fst (Zb (Za (PV.sl 1 false (([]:List PV)++List.map enc W))) 0))),enc (C5.m (Prod.fst (Zb (Za (PV.sl 1 false (([]:List PV)++List.map enc W))) 0))),enc (C5.lk (Prod.fst (Zb (Za (PV.sl 1 false (([]:List PV)++List.map enc W))) 0))),enc (C5.lt (Prod.fst (Zb (Za (PV.sl 1 false (([]:List PV)++List.map enc W))) 0))),enc (C5.ks (Prod.fst (Zb (Za (PV.sl 1 false (([]:List PV)++List.map enc W))) 0)))])))++List.map enc (Prod.fst (Prod.snd (Zb (Za (PV.sl 1 false (([]:List PV)++List.map enc W))) 0))))))),(.sl 1 false (List.map enc W))])=AV.pv (enc y2)∧(if (!y2)=true then G ((.bool false))else NX))))))else NX)))))))))))))
theorem MP{xs:List UInt8}{n:Nat}{ty:Nat}{e:Int}(hn:xs.length=n)(h:n<=9000000):GH ZZ Z0 [.ptr 0 0] [.box [.row 1 n 0 n,.pv (.int .i64 e)],.row false ty 1 (xs.map enc)]=true:=by
 show((xs.map (enc:UInt8->PV)).length==n&&n==n&&XL (PV.sl 1 false (xs.map enc)))=true
 rw[ZW (by omega),List.length_map,hn]
 simp
theorem a7t{c:C5}(ho:Y8 c.c=true)(h:(encC c.c).length<=1000000):Vb [.pv (.sl 0 true []),.pv (.agg [.int .i64 c.k,.sl 1 false (List.map enc c.m),.int .i64 c.lk,.sl 2 false (List.map enc c.lt),.sl 5 false (List.map enc c.ks)])] []=true:=by
 have e:(PV.agg [.int .i64 c.k,.sl 1 false (List.map enc c.m),.int .i64 c.lk,.sl 2 false (List.map enc c.lt),.sl 5 false (List.map enc c.ks)])=enc c.c:=by rw[GA];rfl
 rw[e]
 show(is Cert (enc c.c)&&Y8 (dec (enc c.c))&&decide ((encC (dec (enc c.c))).length<=1000000))=true
 rw[Enc.dec_enc,Enc.is_enc,ho,decide_eq_true h];rfl
theorem a5q(c:C5):(dec (PV.agg [enc c.k,enc c.m,enc c.lk,enc c.lt,enc c.ks]):Cert)=c.c:=by
 have e:(PV.agg [enc c.k,enc c.m,enc c.lk,enc c.lt,enc c.ks])=enc c.c:=by rw[GA];rfl
 rw[e];exact Enc.dec_enc _
theorem a9u(c d:C5):([.agg [.int .i64 c.k,.sl 1 false (List.map enc c.m),.int .i64 c.lk,.sl 2 false (List.map enc c.lt),.sl 5 false (List.map enc c.ks)],.agg [.int .i64 d.k,.sl 1 false (List.map enc d.m),.int .i64 d.lk,.sl 2 false (List.map enc d.lt),.sl 5 false (List.map enc d.ks)]]:List PV)=encL ((c.c,d.c,()):Cert×Cert×Unit):=by
 show _=[enc c.c,enc d.c]
 rw[GA,GA];rfl
theorem Bt(W:List UInt8)(hW:W.length<=900000){NX:Prop}(hn:NX):c6c W (ZB true) NX:=by
 unfold c6c
 rw[List.nil_append,Nat.zero_add,List.length_map,ZM]
 have hok:=a6e W 0
 have hback:=Lr (x:=W)
 generalize Zb W 0=d at hok hback ⊢
 obtain⟨c,r,e⟩:=d
 simp only at hok hback ⊢
 have c0:(List.length ([]:List PV)==0&&0==0&&decide (W.length*1<=1099511627776)&&decide (W.length<=1099511627776))=true:=by simp;omega
 refine⟨K5,c0,K5,c0,MP rfl (by omega),MP rfl (by omega),Zo (α:=Cert×Cert×Unit) (c.c,c.c,()) (a9u c c) (by show(Y8 c.c&&Y8 c.c)=true;rw[hok];rfl),Yi (α:=Cert×Cert×Unit) (v:=true) (c.c,c.c,()) (a9u c c) (Ru _) (Zv (by simp) (Zv (by simp) ⟨FY _ _,Yi (α:=List UInt8×List UInt8×Unit) (v:=true) (r,r,()) rfl (decide_eq_true rfl) (Zv (by simp) ?_)⟩))⟩
 by_cases he:e=0
 ·subst he
  have hx:=hback rfl
  have hl:(encC c.c).length+r.length=W.length:=by rw[<- hx,List.length_append]
  refine Zu rfl ⟨a7t hok (by omega),K5,?_⟩
  rw[a5q,List.length_map,List.length_map,JW,hx]
  exact⟨by simp;omega,by simp,FY W W,Yi (α:=List UInt8×List UInt8×Unit) (v:=true) (W,W,()) rfl (decide_eq_true rfl) (Zv (by simp) hn)⟩
 ·exact Zv (by simpa using he) hn
theorem d2k(k:Int)(m:List Int)(l:Lin)(ks:List Cert)(b x y z:List UInt8):At Xz 0 (Ze YP (ZB true)) YQ 0 97 [(6,(.row 0 3 0 3)),(7,(.pv (.int .i64 3)))] [(.obj (.row false 29 1 [(.sl 1 false (List.map enc x)),(.sl 1 false (List.map enc y)),(.sl 1 false (List.map enc z))]))]:=by
 refine b1b k m l ks b x y z (Kr (F:=fun x:Cert×Cert×Unit=>OZ x.1 x.2.1) ((Cert.mk 0 [] ⟨0,[]⟩ []),(Cert.mk 0 [] ⟨0,[]⟩ []),()) ?_ ?_)
 ·rfl
 ·show ZB true (.bool (OZ (Cert.mk 0 [] ⟨0,[]⟩ []) (Cert.mk 0 [] ⟨0,[]⟩ [])))
  rw[Ru]
  exact YC (x:=true) rfl
theorem d2f(k:Int)(m:List Int)(l:Lin)(ks:List Cert)(b x y z:List UInt8)(hx:x.length<=900000)(hy:y.length<=900000)(hz:z.length<=900000):At Xz 0 (Ze YP (ZB true)) YQ 0 97 [(6,(.row 0 3 0 3)),(7,(.pv (.int .i64 0)))] [(.obj (.row false 29 1 [(.sl 1 false (List.map enc x)),(.sl 1 false (List.map enc y)),(.sl 1 false (List.map enc z))]))]:=
 b2d k m l ks b x y z (Bt x hx (b5m k m l ks b x y z (Bt y hy (b6k k m l ks b x y z (Bt z hz (d2k k m l ks b x y z))))))
theorem c9l{c:C5}(ho:Y8 c.c=true)(h:(encC c.c).length<=1000000):preT (fun(x:List UInt8×Cert×Unit)=>Y8 (Prod.fst (Prod.snd x))&&decide (List.length (Prod.fst x++encC (Prod.fst (Prod.snd x)))<=1000000)) [(.sl 0 true []),(.agg [.int .i64 c.k,.sl 1 false (List.map enc c.m),.int .i64 c.lk,.sl 2 false (List.map enc c.lt),.sl 5 false (List.map enc c.ks)])]=true:=by
 have e:(PV.agg [.int .i64 c.k,.sl 1 false (List.map enc c.m),.int .i64 c.lk,.sl 2 false (List.map enc c.lt),.sl 5 false (List.map enc c.ks)])=enc c.c:=by rw[GA];rfl
 rw[e]
 show(isL (List UInt8×Cert×Unit) [(.sl 0 true []),enc c.c]&&(Y8 (dec (enc c.c))&&decide (([]++encC (dec (enc c.c))).length<=1000000)))=true
 rw[Enc.dec_enc,List.nil_append,decide_eq_true h,ho]
 show(is (List UInt8) (.sl 0 true [])&&(is Cert (enc c.c)&&true)&&_)=true
 rw[Enc.is_enc];rfl
theorem a7s(c:C5)(n:Int):([.agg [.int .i64 c.k,.sl 1 false (List.map enc c.m),.int .i64 c.lk,.sl 2 false (List.map enc c.lt),.sl 5 false (List.map enc c.ks)],.int .i64 n]:List PV)=encL ((c.c,n,()):Cert×Int×Unit):=by
 show _=[enc c.c,enc n]
 rw[GA];rfl
theorem c8q(c:C5):(dec (PV.agg [.int .i64 c.k,.sl 1 false (List.map enc c.m),.int .i64 c.lk,.sl 2 false (List.map enc c.lt),.sl 5 false (List.map enc c.ks)]):Cert)=c.c:=a5q c
theorem b7a: ∀ x:Cert×List UInt8×Unit,Y8 x.1=true->Zf Xz 0 (Ze YP (ZB true)) YQ [] (Yp b8c (encL x)):=by
 rintro⟨⟨k,m,l,ks⟩,b,⟨⟩⟩ h
 have ho:Y8 (⟨k,m,l.k,l.t,ks⟩:C5).c=true:=h
 have fT:ZB true (.bool true):=YC (x:=true) rfl
 have eE:(encL ((Cert.mk k m l ks,b,()):Cert×List UInt8×Unit):List PV)=[.agg [enc k,enc m,enc l.k,enc l.t,enc ks],enc b]:=by
  show [enc (Cert.mk k m l ks),enc b]=_
  rw[ZO]
 rw[eE]
 refine d3x k m l ks b (Zq () rfl (Zv (by simp) ⟨Zo (α:=Cert×Int×Unit) (_,12,()) (a7s ⟨k,m,l.k,l.t,ks⟩ 12) ho,Yi (α:=Cert×Int×Unit) (v:=Xe (⟨k,m,l.k,l.t,ks⟩:C5).c 12) (_,12,()) (a7s ⟨k,m,l.k,l.t,ks⟩ 12) rfl ?_⟩))
 cases hs:Xe (⟨k,m,l.k,l.t,ks⟩:C5).c 12 with
 | false=>exact Zu rfl fT
 | true=>
  refine Zv (by simp) ?_
  have e2:List.length (List.map (enc:UInt8->PV) b)=b.length:=List.length_map ..
  by_cases hb:((List.map (enc:UInt8->PV) b).length:Int)>200
  ·exact Zu (decide_eq_true hb) fT
  ·have hx:=b4j hs ho
   have hb:b.length<=200:=by omega
   refine Zv (by rw[e2];simp;omega) ⟨a7t ho (by omega),c9l ho (by omega),Kr (F:=fun x:List UInt8×Cert×Unit=>x.1++encC x.2.1) (([]:List UInt8),(⟨k,m,l.k,l.t,ks⟩:C5).c,()) (congrArg (fun z:Cert=>(([]:List UInt8),z,())) (c8q ⟨k,m,l.k,l.t,ks⟩)) ?_⟩
   have e1:List.length (List.map (enc:UInt8->PV) (encC (⟨k,m,l.k,l.t,ks⟩:C5).c))=(encC (⟨k,m,l.k,l.t,ks⟩:C5).c).length:=List.length_map ..
   rw[a5q ⟨k,m,l.k,l.t,ks⟩]
   show _∧_
   generalize encC (⟨k,m,l.k,l.t,ks⟩:C5).c=x at hx e1 ⊢
   rw[c2r,List.nil_append,List.nil_append,e1,Nat.zero_add,e2,JW]
   exact⟨by simp,FY _ _,Yi (α:=List UInt8×List UInt8×Unit) (v:=true) (x,x,()) rfl (decide_eq_true rfl) (Zv (by simp) ⟨by simp,by simp;omega,G5,by simp;omega,by simp,by simp,d2f k m l ks b x b (x++b) (by omega) (by omega) (by rw[List.length_append];omega)⟩)⟩
end Go.Pl
