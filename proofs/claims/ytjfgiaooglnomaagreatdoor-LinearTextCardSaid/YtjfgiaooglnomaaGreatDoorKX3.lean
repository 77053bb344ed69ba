/-
  Texts of mine that belong together (packed by pack.py), for every input: TyL, TyM, TyN, TyT, TyO, TyS, GLb, GLa, QLa, QLb, GLc, QLc, GLd, QLd, TyU, QLh, QLm, GLe, QLe, GLg, QLg, QLf, GLi, GL1, QL1, QL2, QLi, QLj, QL3, QL4, GL5, QL5, GL7, QL7, TyR, GLr, QRp, QRq, TyP, GLo, QLq, QLr, GLm, GLk, QLk, GLn, QLn, QLo, QLp, QRa, QRb, QRc, TyQ, GLu, GLt, QRs, QRt, QRu, QRv, GLv, QRw, QRx, TyG, TyH, TyK, TyI, TyE, GLh, GLx, QLx, GL4.
-/
import Derived.Test.YtjfgiaooglnomaaGreatDoorKX2
import Derived.KernelRfl
import Derived.Lib.AtoiAllMem
import Derived.Lib.AtoiAllCases
import Derived.Lib.ItoaNum
import Derived.Lib.Bytealg
import Derived.Lib.Strings
set_option linter.unusedVariables false
set_option linter.unusedSimpArgs false
namespace Go.Pl
open Go.RowKit
open Enc (enc dec is)
open EncL (encL decL isL)
structure Coef where
 v:Str
 c:Int
 deriving DecidableEq
instance:Enc Coef where
 sz:=2
 enc x:=.agg [enc x.v,enc x.c]
 dec | .agg [a,b]=>⟨dec a,dec b⟩|_=>⟨⟨[]⟩,0⟩
 is | .agg [a,b]=>is Str a&&is Int b|_=>false
 is_enc v:=by simp
 dec_enc v:=by simp
 sub p h:=by
  cases p with
  | agg xs=>
   match xs,h with
   | [a,b],h=>
    simp only[Bool.and_eq_true]at h
    exact .agg (.cons (Enc.sub a h.1).2 (.cons (Enc.sub b h.2).2 .nil))
  | _=>cases h
structure Lin where
 k:Int
 t:List Coef
 deriving DecidableEq
instance:Enc Lin where
 sz:=2
 enc x:=.agg [enc x.k,enc x.t]
 dec | .agg [a,b]=>⟨dec a,dec b⟩|_=>⟨0,[]⟩
 is | .agg [a,b]=>is Int a&&is (List Coef) b|_=>false
 is_enc v:=by simp
 dec_enc v:=by simp
 sub p h:=by
  cases p with
  | agg xs=>
   match xs,h with
   | [a,b],h=>
    simp only[Bool.and_eq_true]at h
    exact .agg (.cons (Enc.sub a h.1).2 (.cons (Enc.sub b h.2).2 .nil))
  | _=>cases h
@[simp] theorem b0r (a b : PV) : is Coef (.agg [a, b]) = (is Str a && is Int b) := rfl
@[simp] theorem a9n (a b : PV) : (dec (.agg [a, b]) : Coef) = ⟨dec a, dec b⟩ := rfl
@[simp] theorem b1f (a b : PV) : is Lin (.agg [a, b]) = (is Int a && is (List Coef) b) := rfl
@[simp] theorem b0t (a b : PV) : (dec (.agg [a, b]) : Lin) = ⟨dec a, dec b⟩ := rfl
def Zj(c:UInt8):Bool:=decide (48<=c)&&decide (c<=57)
def ZT(c:UInt8):Bool:=decide (97<=c)&&decide (c<=122)
def Zr(s:Str):Bool:=match s.s with
 | []=>false
 | c::r=>if c=95 then r.all Zj&& !r.isEmpty&&decide (r.head? ≠ some 48)&&decide (r.length<=9)else ZT c&&r.all (fun c=>ZT c||Zj c)&&decide (r.length<=29)
def Z7(n:Int):Bool:=decide (-1000000<=n)&&decide (n<=1000000)
def J3:List Coef->Bool
 | a::b::l=>decide (a.v.s<b.v.s)&&J3 (b::l)
 | _=>true
def Zh(l:Lin):Bool:=l.t.all (fun t=>Zr t.v&&decide (t.c≠0)&&Z7 t.c)&&J3 l.t&&Z7 l.k&&decide (l.t.length<=12)
def Zc(m:List (Str×Int)):List (PV×PV):=m.map fun p=>(.str p.1.s,.int .i64 p.2)
def Vj(m:List (Str×Int))(s:List UInt8):Int:=((m.find? fun p=>p.1.s==s).map (·.2)).getD 0
def YE(m:List (Str×Int)):List Coef:=(Yw ((m.filter fun p=>decide (p.2≠0)).map (·.1.s))).map fun s=>⟨⟨s⟩,Vj m s⟩
def Xr(n:Int)(m:List (Str×Int)):Lin×Int:=if Zh ⟨n,YE m⟩then(⟨n,YE m⟩,0)else(⟨0,[]⟩,3)
end Go.Pl

namespace Go.Pl
open Go.RowKit
open Enc (enc dec is)
open EncL (encL decL isL)
structure Fact where
 eq:Bool
 l:Lin
 deriving DecidableEq
instance:Enc Fact where
 sz:=3
 enc x:=.agg [enc x.eq,enc x.l.k,enc x.l.t]
 dec | .agg [a,b,c]=>⟨dec a,⟨dec b,dec c⟩⟩|_=>⟨false,⟨0,[]⟩⟩
 is | .agg [a,b,c]=>is Bool a&&is Int b&&is (List Coef) c|_=>false
 is_enc v:=by simp
 dec_enc v:=by simp
 sub p h:=by
  cases p with
  | agg xs=>
   match xs,h with
   | [a,b,c],h=>
    simp only[Bool.and_eq_true]at h
    exact .agg (.cons (Enc.sub a h.1.1).2 (.cons (Enc.sub b h.1.2).2 (.cons (Enc.sub c h.2).2 .nil)))
  | _=>cases h
@[simp] theorem b0s (a b c : PV) : is Fact (.agg [a, b, c]) = (is Bool a && is Int b && is (List Coef) c) := rfl
@[simp] theorem b0f (a b c : PV) : (dec (.agg [a, b, c]) : Fact) = ⟨dec a, ⟨dec b, dec c⟩⟩ := rfl
structure Bnd where
 kind:Int
 v:Str
 dim:Lin
 row:Str
 dims:List Lin
 elem:Str
 deriving DecidableEq
instance:Enc Bnd where
 sz:=7
 enc x:=.agg [enc x.kind,enc x.v,enc x.dim.k,enc x.dim.t,enc x.row,enc x.dims,enc x.elem]
 dec | .agg [a,b,c,d,e,f,g]=>⟨dec a,dec b,⟨dec c,dec d⟩,dec e,dec f,dec g⟩|_=>⟨0,⟨[]⟩,⟨0,[]⟩,⟨[]⟩,[],⟨[]⟩⟩
 is | .agg [a,b,c,d,e,f,g]=>is Int a&&is Str b&&is Int c&&is (List Coef) d&&is Str e&&is (List Lin) f&&is Str g|_=>false
 is_enc v:=by simp
 dec_enc v:=by simp
 sub p h:=by
  cases p with
  | agg xs=>
   match xs,h with
   | [a,b,c,d,e,f,g],h=>
    simp only[Bool.and_eq_true]at h
    exact .agg (.cons (Enc.sub a h.1.1.1.1.1.1).2 (.cons (Enc.sub b h.1.1.1.1.1.2).2 (.cons (Enc.sub c h.1.1.1.1.2).2 (.cons (Enc.sub d h.1.1.1.2).2 (.cons (Enc.sub e h.1.1.2).2 (.cons (Enc.sub f h.1.2).2 (.cons (Enc.sub g h.2).2 .nil)))))))
  | _=>cases h
@[simp] theorem b1m (a b c d e f g : PV) : is Bnd (.agg [a, b, c, d, e, f, g]) = (is Int a && is Str b && is Int c && is (List Coef) d && is Str e && is (List Lin) f && is Str g) := rfl
@[simp] theorem b0v (a b c d e f g : PV) : (dec (.agg [a, b, c, d, e, f, g]) : Bnd) = ⟨dec a, dec b, ⟨dec c, dec d⟩, dec e, dec f, dec g⟩ := rfl
inductive Cert where
 | mk (kind:Int) (mults:List Int) (lin:Lin) (kids:List Cert)
mutual
def Qh:Cert->PV
 | .mk k m l ks=>.agg [enc k,enc m,enc l.k,enc l.t,.sl 5 false (Xn ks)]
def Xn:List Cert->List PV
 | []=>[]
 | c::cs=>Qh c::Xn cs
end
mutual
def KE:PV->Cert
 | .agg [a,b,c,d,.sl _ _ ks]=>.mk (dec a) (dec b) ⟨dec c,dec d⟩ (X8 ks)
 | _=>.mk 0 [] ⟨0,[]⟩ []
def X8:List PV->List Cert
 | []=>[]
 | p::ps=>KE p::X8 ps
end
mutual
def VO:PV->Bool
 | .agg [a,b,c,d,.sl s _ ks]=>is Int a&&is (List Int) b&&is Int c&&is (List Coef) d&&(ks.isEmpty||s==5)&&V3 ks
 | _=>false
def V3:List PV->Bool
 | []=>true
 | p::ps=>VO p&&V3 ps
end
theorem RS(cs:List Cert):Xn cs=cs.map Qh:=by
 induction cs with
 | nil=>simp[Xn]
 | cons c cs ih=>simp[Xn,ih]
theorem Po(cs:List PV):X8 cs=cs.map KE:=by
 induction cs with
 | nil=>simp[X8]
 | cons c cs ih=>simp[X8,ih]
theorem PS(cs:List PV):V3 cs=cs.all VO:=by
 induction cs with
 | nil=>simp[V3]
 | cons c cs ih=>simp[V3,ih]
mutual
theorem Ng: ∀ c:Cert,VO (Qh c)=true
 | .mk k m l ks=>by
  have h:=TA ks
  simp only[Qh,VO,Enc.is_enc,Bool.true_and,Bool.and_eq_true,h,and_true]
  simp
theorem TA: ∀ cs:List Cert,V3 (Xn cs)=true
 | []=>by simp[Xn,V3]
 | c::cs=>by simp[Xn,V3,Ng c,TA cs]
end
mutual
theorem Nt: ∀ c:Cert,KE (Qh c)=c
 | .mk k m l ks=>by
  have h:=Rb ks
  simp only[Qh,KE,Enc.dec_enc,h]
theorem Rb: ∀ cs:List Cert,X8 (Xn cs)=cs
 | []=>by simp[Xn,X8]
 | c::cs=>by simp[Xn,X8,Nt c,Rb cs]
end
mutual
theorem AO: ∀ p:PV,VO p=true->V8 p (Qh (KE p))
 | .agg [a,b,c,d,.sl s t ks],h=>by
  simp only[VO,Bool.and_eq_true]at h
  obtain⟨⟨⟨⟨⟨h1,h2⟩,h3⟩,h4⟩,h5⟩,h6⟩:=h
  have hk:=Cf ks h6
  simp only[KE,Qh]
  refine .agg (.cons (Enc.sub a h1).2 (.cons (Enc.sub b h2).2 (.cons (Enc.sub c h3).2 (.cons (Enc.sub d h4).2 (.cons ?_ .nil)))))
  simp only[Bool.or_eq_true,List.isEmpty_iff,beq_iff_eq]at h5
  rcases h5 with rfl|rfl
  ·simp only[X8,Xn]
   exact(V8.sl0 _ _ _).2
  ·exact(V8.sl hk.1 hk.2).2
 | .bool _,h | .int _ _,h | .str _,h | .sl _ _ _,h | .tup _,h | .nilp,h | .nilmap,h | .nilfn,h | .nili,h | .ifc,h | .fn _,h | .rptr _,h=>by simp[VO]at h
 | .agg [],h | .agg [_],h | .agg [_,_],h | .agg [_,_,_],h | .agg [_,_,_,_],h=>by simp[VO]at h
 | .agg (a::b::c::d::e::f::g),h=>by
  have h':VO (.agg (a::b::c::d::e::f::g))=false:=by cases e <;> kernel_rfl
  rw[h']at h;cases h
 | .agg [_,_,_,_,.bool _],h | .agg [_,_,_,_,.int _ _],h | .agg [_,_,_,_,.str _],h | .agg [_,_,_,_,.agg _],h | .agg [_,_,_,_,.tup _],h | .agg [_,_,_,_,.nilp],h | .agg [_,_,_,_,.nilmap],h | .agg [_,_,_,_,.nilfn],h | .agg [_,_,_,_,.nili],h | .agg [_,_,_,_,.ifc],h | .agg [_,_,_,_,.fn _],h | .agg [_,_,_,_,.rptr _],h=>by simp[VO]at h
theorem Cf: ∀ ps:List PV,V3 ps=true->ps.length=(Xn (X8 ps)).length∧ ∀ (j:Nat) x y,ps[j]? = some x->(Xn (X8 ps))[j]? = some y->V8 x y
 | [],_=>⟨by simp[X8,Xn],fun j x y h=>by simp at h⟩
 | p::ps,h=>by
  simp only[V3,Bool.and_eq_true]at h
  have h1:=AO p h.1
  have h2:=Cf ps h.2
  refine⟨by simp[X8,Xn,<- h2.1],fun j x y hx hy=> ?_⟩
  simp only[X8,Xn]at hy
  cases j with
  | zero=>simp at hx hy;subst hx hy;exact h1
  | succ j=>exact h2.2 j x y (by simpa using hx) (by simpa using hy)
end
instance:Enc Cert where
 sz:=5
 enc:=Qh
 dec:=KE
 is:=VO
 is_enc:=Ng
 dec_enc:=Nt
 sub:=AO
abbrev Cert.kind:Cert->Int | .mk k _ _ _=>k
abbrev Cert.mults:Cert->List Int | .mk _ m _ _=>m
abbrev Cert.lin:Cert->Lin | .mk _ _ l _=>l
abbrev Cert.kids:Cert->List Cert | .mk _ _ _ k=>k
theorem WV(k:Int)(m:List Int)(l:Lin)(ks:List Cert):(enc (Cert.mk k m l ks):PV) = .agg [enc k,enc m,enc l.k,enc l.t,enc ks]:=by
 show Qh _=_
 rw[Qh,RS]
 rfl
@[simp] theorem b0z (a b c d e : PV) : is Cert (.agg [a, b, c, d, e]) = (is Int a && is (List Int) b && is Int c && is (List Coef) d && is (List Cert) e) := by
 show VO _=_
 cases e <;> simp only[VO] <;> try (simp[is];done)
 rename_i s t ks
 rw[PS]
 show _=(_&&((ks.isEmpty||s==5)&&ks.all VO))
 rw[Bool.and_assoc]
@[simp] theorem b0j (a b c d e : PV) (h : is (List Cert) e = true) : (dec (.agg [a, b, c, d, e]) : Cert) = .mk (dec a) (dec b) ⟨dec c, dec d⟩ (dec e) := by
 show KE _=_
 cases e <;> try (cases h;done)
 rw[KE,Po]
 rfl
end Go.Pl

namespace Go.Pl
open Enc (enc dec is)
structure Er where
 b:Bool
 deriving DecidableEq
instance:Enc Er where
 sz:=1
 enc x:=if x.b then .ifc else .nili
 dec | .ifc=>⟨true⟩|_=>⟨false⟩
 is | .ifc=>true | .nili=>true|_=>false
 is_enc v:=by obtain⟨b⟩:=v;cases b <;> rfl
 dec_enc v:=by obtain⟨b⟩:=v;cases b <;> rfl
 sub p h:=by cases p <;> first|exact .refl _|cases h
def ZU(s:Str):Int×Er:=match Lib.atoiAll s.s with
 | .ok v=>(v,⟨false⟩)
 | .range=>(Lib.atoiSat s.s,⟨true⟩)
 | _=>(0,⟨true⟩)
def ZC(n:Int):Str:=⟨Lib.itoa n⟩
def BV(l:Lin)(n:Int):Bool:=l.t.all (fun t=>decide (t.v.s.length<=40))&&decide ((l.t.length:Int)<=n)
abbrev Yd(n:Int):Int:=IntKind.i64.wrap n
def YX(s:Str)(c:Int):Bool->List Coef->List Coef
 | put,[]=>if put then []else [⟨s,c⟩]
 | put,t::r=>(if !put&&decide (s.s<t.v.s)then [⟨s,c⟩]else [])++(if t.v=s then⟨t.v,Yd (t.c+c)⟩::YX s c true r else t::YX s c (put||decide (s.s<t.v.s)) r)
def Wn(l:Lin)(s:Str)(c:Int):Lin:=⟨l.k,(YX s c false l.t).filter fun t=>decide (t.c≠0)⟩
def Qf(l x:Lin)(k:Int):Lin:=x.t.foldl (fun o t=>Wn o t.v (Yd (k*t.c))) ⟨Yd (l.k+Yd (k*x.k)),l.t⟩
def Qm(a b:Int):Int:=if a<b then -1 else if a>b then 1 else 0
def Kz:List Coef->List Coef->Int
 | [],[]=>0
 | [],_::_=> -1
 | _::_,[]=>1
 | x::l,y::m=>if x.v.s<y.v.s∨x.v.s=y.v.s∧x.c<y.c then -1 else if x=y then Kz l m else 1
def UC(a b:Lin):Int:=if Kz a.t b.t≠0 then Kz a.t b.t else Qm a.k b.k
mutual
def Dj:Cert->Int
 | .mk _ _ _ ks=>JB 1 ks
def JB(n:Int):List Cert->Int
 | []=>n
 | c::cs=>JB (Yd (n+Dj c)) cs
end
def Zz(l:Lin):Bool:=decide (l.t.length<=9223372036854775807)
def Zu(l:Lin):Bool:=Zz l&&l.t.all fun t=>decide (t.v.s.length<=1000000)
mutual
def cOk:Cert->Bool
 | .mk _ m l ks=>decide (m.length<=9223372036854775807)&&Zz l&&decide (ks.length<=9223372036854775807)&&LM ks
def LM:List Cert->Bool
 | []=>true
 | c::cs=>cOk c&&LM cs
end
mutual
def a6s:Cert->Nat
 | .mk _ _ _ ks=>Rk ks+1
def Rk:List Cert->Nat
 | []=>0
 | c::cs=>max (a6s c) (Rk cs)
end
end Go.Pl

namespace Go.Pl
open Go.RowKit
open Enc (enc dec is)
open EncL (encL decL isL)
theorem WT{α:Type}[Enc α]{l:List α}{i:Nat}(h:i<l.length){P:α->Prop}(k:P l[i]):
  ∃ y:α,AV.pv (PV.rptr (PV.cells (List.getD (List.map enc l) (Int.toNat (i:Int)) default)))=AV.pv (PV.rptr (PV.cells (enc y)))∧P y:=⟨l[i],by rw[AY enc h],k⟩
theorem XD{α:Type}[Enc α]{l:List α}{i n:Nat}(h:i<l.length)(hn:Enc.sz α=n):(decide (0<=(i:Int))&&decide (Int.toNat (i:Int)<List.length (List.map (enc:α->PV) l))&&Enc.sz α==n)=true:=by simp[hn,h]
theorem Cn{α:Type}[Enc α]{l:List α}{i:Nat}(h:i<l.length):decide ((i:Int)<(List.length (List.map (enc:α->PV) l):Int))=true:=by simp;omega
theorem Cz{α:Type}[Enc α]{l:List α}{i:Nat}(h : ¬ i<l.length): ¬ decide ((i:Int)<(List.length (List.map (enc:α->PV) l):Int))=true:=by simp;omega
theorem Wv{n i:Nat}(h:i<n):decide ((i:Int)<(n:Int))=true:=by simp;omega
theorem Wj{n i:Nat}(h : ¬ i<n): ¬ decide ((i:Int)<(n:Int))=true:=by simp;omega
theorem a6h{P Q:Prop}:(if (!false)=true then P else Q)=P:=rfl
theorem a9u{P Q:Prop}:(if (!true)=true then P else Q)=Q:=rfl
theorem YF{c:Prop}[Decidable c]{P Q:Prop}(h:c)(k:P):if c then P else Q:=by rw[if_pos h];exact k
theorem XI{c:Prop}[Decidable c]{P Q:Prop}(h : ¬ c)(k:Q):if c then P else Q:=by rw[if_neg h];exact k
theorem D9{c:Prop}[Decidable c]{P Q:Prop}(h1:c->P)(h2 : ¬ c->Q):if c then P else Q:=by split;exact h1 ‹_›;exact h2 ‹_›
theorem Ww{b:Bool}{P Q:Prop}(h1:b=false->P)(h2:b=true->Q):if (!b)=true then P else Q:=by cases b;exact h1 rfl;exact h2 rfl
theorem Vf{b:Bool}{P Q:Prop}(h1:b=true->P)(h2:b=false->Q):if b=true then P else Q:=by cases b;exact h2 rfl;exact h1 rfl
theorem XR{c:Prop}[Decidable c]{P Q:Prop}(h1:c->P)(h2 : ¬ c->Q):if decide c=true then P else Q:=by by_cases h:c;rw[if_pos (by simpa using h)];exact h1 h;rw[if_neg (by simpa using h)];exact h2 h
theorem Wx{α:Type}[BEq α][LawfulBEq α]{x y:α}{P Q:Prop}(h1:x=y->P)(h2:x≠y->Q):if (x==y)=true then P else Q:=by by_cases h:x=y;rw[if_pos (by simpa using h)];exact h1 h;rw[if_neg (by simpa using h)];exact h2 h
theorem Yx{β:Type}[Enc β]{x y:β}(h:x=y):ZI y (enc x):=⟨Enc.is_enc x,by rw[Enc.dec_enc,h]⟩
theorem Yl{x y:Bool}(h:x=y):ZI y (.bool x):=⟨rfl,h⟩
theorem Ue{x y:Int}(h:x=y):ZI y (.int .i64 x):=⟨rfl,h⟩
section
variable (x:Coef) (f:Fact)
theorem co1:PV.asStr (List.getD (PV.cells (enc x)) 0 default)=x.v.s:=rfl
theorem co2:PV.asInt (List.getD (PV.cells (enc x)) (0+1) default)=x.c:=rfl
theorem co3:PV.asStr (List.getD (List.drop 0 (PV.cells (enc x))) 0 default)=x.v.s:=rfl
theorem co4:PV.asInt (List.getD (List.drop 1 (PV.cells (enc x))) 0 default)=x.c:=rfl
end
theorem a6i{c:UInt8}(n:Nat)(h:c≠UInt8.ofNat n)(hn:n<256): ¬ ((c.toNat:Int)==(n:Int))=true:=by
 intro e
 have e:(c.toNat:Int)=n:=by simpa using e
 have e:c.toNat=n:=by omega
 exact h (UInt8.toNat_inj.1 (by rw[e,UInt8.toNat_ofNat'];omega))
theorem Yk: ∀ a b:List UInt8,Op.bytesLess a b=decide (a<b)
 | [],[]=>by simp[Op.bytesLess]
 | _::_,[]=>by simp[Op.bytesLess]
 | [],_::_=>by simp[Op.bytesLess]
 | x::a,y::b=>by
  rw[Op.bytesLess,Yk a b]
  simp only[List.cons_lt_cons_iff]
  by_cases h1:x<y
  ·simp[h1]
  ·by_cases h2:x=y
   ·subst h2;simp
   ·simp[h1,h2]
theorem ZE.fuel{P:Program}{f:Nat}{α β:Type}[EncL α][Enc β]{pre:α->Bool}{F:α->β}(μ:α->Nat)(h : ∀ N,ZE P f (fun a=>pre a&&decide (μ a<N)) F):ZE P f pre F:=fun ps hps=>by
 refine h (μ (decL ps)+1) ps ?_
 simp only[preT,Bool.and_eq_true,decide_eq_true_eq]at hps ⊢
 exact⟨hps.1,hps.2,by omega⟩
theorem ZE.void{P:Program}{f:Nat}{α β:Type}[EncL α][Enc β]{pre:α->Bool}{F:α->β}(h : ∀ a,pre a=false):ZE P f pre F:=fun ps hps=>by simp[preT,h]at hps
theorem ZE.rec{P:Program}{f:Nat}{α β:Type}[EncL α][Enc β]{pre:α->Bool}{F:α->β}(μ:α->Nat)(h : ∀ N,ZE P f (fun a=>pre a&&decide (μ a<N)) F->ZE P f (fun a=>pre a&&decide (μ a<N+1)) F):ZE P f pre F:=by
 refine ZE.fuel μ fun N=> ?_
 induction N with
 | zero=>exact ZE.void fun a=>by simp
 | succ N ih=>exact h N ih
theorem ZE.or{P:Program}{f:Nat}{α β:Type}[EncL α][Enc β]{pre:α->Bool}{F:α->β}(c:α->Bool)(h1:ZE P f (fun a=>pre a&&c a) F)(h2:ZE P f (fun a=>pre a&& !c a) F):ZE P f pre F:=fun ps hps=>by
 have hps':=hps
 simp only[preT,Bool.and_eq_true]at hps'
 cases hc:c (decL ps)
 ·exact h2 ps (by simp only[preT,hps'.1,hps'.2,hc];rfl)
 ·exact h1 ps (by simp only[preT,hps'.1,hps'.2,hc];rfl)
mutual
def DN:PV->PV->Bool
 | .bool a,.bool b=>a==b
 | .int k a,.int l b=>Ke k l&&a==b
 | .str a,.str b=>a==b
 | .sl s t xs,.sl s' t' ys=>s==s'&&t==t'&&JZ xs ys
 | .agg xs,.agg ys=>JZ xs ys
 | .tup xs,.tup ys=>JZ xs ys
 | .nilp,.nilp=>true
 | .nilmap,.nilmap=>true
 | .nilfn,.nilfn=>true
 | .nili,.nili=>true
 | .ifc,.ifc=>true
 | .fn a,.fn b=>a==b
 | .rptr xs,.rptr ys=>JZ xs ys
 | _,_=>false
def JZ:List PV->List PV->Bool
 | [],[]=>true
 | x::xs,y::ys=>DN x y&&JZ xs ys
 | _,_=>false
end
theorem SF(k:IntKind):Ke k k=true:=by cases k <;> rfl
mutual
theorem O4: ∀ (p q:PV),DN p q=true->p=q
 | .bool a,q,h=>by cases q <;> simp[DN]at h;rw[h]
 | .int k a,q,h=>by cases q <;> simp[DN]at h;rw[QN h.1,h.2]
 | .str a,q,h=>by cases q <;> simp[DN]at h;rw[h]
 | .sl s t xs,q,h=>by cases q <;> simp[DN]at h;rw[h.1.1,h.1.2,K5 xs _ h.2]
 | .agg xs,q,h=>by cases q <;> simp[DN]at h;rw[K5 xs _ h]
 | .tup xs,q,h=>by cases q <;> simp[DN]at h;rw[K5 xs _ h]
 | .nilp,q,h=>by cases q <;> simp[DN]at h;rfl
 | .nilmap,q,h=>by cases q <;> simp[DN]at h;rfl
 | .nilfn,q,h=>by cases q <;> simp[DN]at h;rfl
 | .nili,q,h=>by cases q <;> simp[DN]at h;rfl
 | .ifc,q,h=>by cases q <;> simp[DN]at h;rfl
 | .fn a,q,h=>by cases q <;> simp[DN]at h;rw[h]
 | .rptr xs,q,h=>by cases q <;> simp[DN]at h;rw[K5 xs _ h]
theorem K5: ∀ (xs ys:List PV),JZ xs ys=true->xs=ys
 | [],ys,h=>by cases ys <;> simp[JZ]at h;rfl
 | x::xs,ys,h=>by
  cases ys with
  | nil=>simp[JZ]at h
  | cons y ys=>simp[JZ]at h;rw[O4 x y h.1,K5 xs ys h.2]
end
mutual
theorem Ty: ∀ (p:PV),DN p p=true
 | .bool a | .str a | .fn a=>by simp[DN]
 | .int k a=>by simp[DN,SF]
 | .sl s t xs=>by simp[DN,Jh xs]
 | .agg xs | .tup xs | .rptr xs=>by simp[DN,Jh xs]
 | .nilp | .nilmap | .nilfn | .nili | .ifc=>by simp[DN]
theorem Jh: ∀ (xs:List PV),JZ xs xs=true
 | []=>by simp[JZ]
 | x::xs=>by simp[JZ,Ty x,Jh xs]
end
def FI(α:Type)[Enc α](p:PV):Bool:=DN p (enc (dec p:α))
@[simp] theorem QG {α : Type} [Enc α] (a : α) : FI α (enc a) = true := by unfold FI; rw [Enc.dec_enc]; exact Ty _
theorem Bo{α:Type}[Enc α]{p:PV}(h:FI α p=true): ∃ a:α,p=enc a:=⟨_,O4 _ _ h⟩
end Go.Pl

namespace Go.Pl
open Enc (enc dec is)
@[irreducible] def Ua (a : Nat) (r : List UInt8) : Nat := r.foldl (fun a c => a * 10 + (c.toNat - 48)) a
theorem Qc(a:Nat):Ua a []=a:=by unfold Ua;rfl
theorem Un(a:Nat)(c:UInt8)(r:List UInt8):Ua a (c::r)=Ua (a*10+(c.toNat - 48)) r:=by unfold Ua;rfl
theorem YQ{c:UInt8}:Zj c=true ↔ 48<=c.toNat∧c.toNat<=57:=by
 simp only[Zj,Bool.and_eq_true,decide_eq_true_eq,UInt8.le_iff_toNat_le]
 have e1:(48:UInt8).toNat=48:=rfl
 have e2:(57:UInt8).toNat=57:=rfl
 rw[e1,e2]
theorem BJ: ∀ (r:List UInt8) (a:Nat),r.all Zj=true->Ua a r<(a+1)*10 ^ r.length
 | [],a,_=>by simp[Qc]
 | c::r,a,h=>by
  simp only[List.all_cons,Bool.and_eq_true,YQ]at h
  have:=BJ r (a*10+(c.toNat - 48)) h.2
  rw[Un,List.length_cons,Nat.pow_succ]
  refine Nat.lt_of_lt_of_le this ?_
  rw[Nat.mul_comm (10 ^ r.length) 10,<- Nat.mul_assoc]
  exact Nat.mul_le_mul_right _ (by omega)
theorem Ad: ∀ (r:List UInt8) (a:Nat),a<=Ua a r
 | [],a=>by rw[Qc];exact Nat.le_refl _
 | c::r,a=>by
  have:=Ad r (a*10+(c.toNat - 48))
  rw[Un]
  omega
theorem Jb: ∀ (r:List UInt8) (a:Nat),r.all Zj=true->Ua a r<1000000000000000000->Lib.parseUint10 a r = .ok (Ua a r)
 | [],a,_,_=>by rw[Qc,Lib.parseUint10]
 | c::r,a,h,hv=>by
  simp only[List.all_cons,Bool.and_eq_true,YQ]at h
  rw[Un]at hv ⊢
  have hge:=Ad r (a*10+(c.toNat - 48))
  rw[Lib.parseUint10,if_pos h.1,if_neg (by omega),if_neg (by omega)]
  exact Jb r _ h.2 hv
theorem E9{a d:Nat}(ha:1<=a)(hd:d<=9):Lib.decDigits (a*10+d)=Lib.decDigits a++[UInt8.ofNat (48+d)]:=by
 rw[Lib.decDigits,dif_neg (by omega),show(a*10+d) / 10=a by omega,show(a*10+d) % 10=d by omega]
theorem NL: ∀ (r:List UInt8) (a:Nat),1<=a->r.all Zj=true->Lib.decDigits (Ua a r)=Lib.decDigits a++r
 | [],a,_,_=>by simp[Qc]
 | c::r,a,ha,h=>by
  simp only[List.all_cons,Bool.and_eq_true,YQ]at h
  rw[Un,NL r _ (by omega) h.2,E9 ha (by omega)]
  have:UInt8.ofNat (48+(c.toNat - 48))=c:=by
   rw[show 48+(c.toNat - 48)=c.toNat by omega]
   exact UInt8.ofNat_toNat
  rw[this]
  simp
theorem Rn{n:Nat}(h:n<256):(UInt8.ofNat n).toNat=n:=by rw[UInt8.toNat_ofNat'];omega
theorem DD: ∀ (u:Nat),1<=u->(Lib.decDigits u).all Zj=true∧(Lib.decDigits u).head? ≠ some 48∧Lib.decDigits u≠[]:=by
 intro u
 induction u using Nat.strongRecOn with
 | _ u ih=>
  intro h1
  rw[Lib.decDigits]
  by_cases h:u<10
  ·rw[dif_pos h]
   refine⟨?_,?_,by simp⟩
   ·simp only[List.all_cons,List.all_nil,Bool.and_true]
    rw[YQ,Rn (by omega)]
    omega
   ·simp only[List.head?_cons,ne_eq,Option.some.injEq]
    intro e
    have:=congrArg UInt8.toNat e
    rw[Rn (by omega)]at this
    have e48:(48:UInt8).toNat=48:=rfl
    rw[e48]at this
    omega
  ·rw[dif_neg h]
   obtain⟨i1,i2,i3⟩:=ih (u / 10) (by omega) (by omega)
   refine⟨?_,?_,by simp⟩
   ·rw[List.all_append,i1]
    simp only[List.all_cons,List.all_nil,Bool.and_true,Bool.true_and]
    rw[YQ,Rn (by omega)]
    omega
   ·cases hd:Lib.decDigits (u / 10)with
    | nil=>exact absurd hd i3
    | cons c r=>rw[hd]at i2;simpa using i2
def SB(r:List UInt8):Bool:=r.all Zj&& !r.isEmpty&&decide (r.head? ≠ some 48)
theorem a7b(b:Bool):Vb (enc (⟨b⟩:Er)) = !b:=by cases b <;> rfl
theorem a9t(e:Er):JN (enc e)=true:=by obtain⟨b⟩:=e;cases b <;> rfl
theorem a3j(r:List UInt8)(hr:r.length<=9):(Vb (enc (ZU ⟨r⟩).2)&&decide ((ZU ⟨r⟩).1>0)&&(Lib.itoa (ZU ⟨r⟩).1==r))=SB r:=by
 by_cases hn:SB r=true
 ·rw[hn]
  simp only[SB,Bool.and_eq_true,Bool.not_eq_true',decide_eq_true_eq]at hn
  obtain⟨⟨h1,h2⟩,h3⟩:=hn
  cases r with
  | nil=>simp at h2
  | cons c r=>
   have h1':=h1
   simp only[List.all_cons,Bool.and_eq_true,YQ]at h1
   have hc:c≠48:=by simpa using h3
   have hc':c.toNat≠48:=fun e=>hc (UInt8.toNat_inj.1 (by rw[e];rfl))
   have hv:=BJ (c::r) 0 h1'
   have hp:10 ^ (c::r).length<=10 ^ 9:=Nat.pow_le_pow_right (by omega) hr
   have hpm:=Jb (c::r) 0 h1' (by omega)
   have hat:Lib.atoiAll (c::r) = .ok (Ua 0 (c::r):Int):=by
    have e1 : ¬ (c.toNat=43∨c.toNat=45):=by omega
    have e2 : ¬ c.toNat=45:=by omega
    simp only[Lib.atoiAll,if_neg e1,Lib.parseMag,if_neg (show ¬ (c::r=[]) by simp),hpm]
    rw[if_neg (by omega),if_neg (fun e=>e2 e.1),if_neg e2]
   have ha:ZU ⟨c::r⟩=((Ua 0 (c::r):Int),⟨false⟩):=by simp only[ZU,hat]
   have hvd:Ua 0 (c::r)=Ua (c.toNat - 48) r:=by rw[Un];congr 1;omega
   have hpos:=Ad r (c.toNat - 48)
   rw[ha]
   have h4:Lib.itoa (Ua 0 (c::r):Int)=c::r:=by
    rw[Lib.itoa,if_neg (by omega),Int.toNat_natCast,hvd,NL r _ (by omega) h1.2,Lib.decDigits,dif_pos (by omega)]
    have:UInt8.ofNat (48+(c.toNat - 48))=c:=by
     rw[show 48+(c.toNat - 48)=c.toNat by omega]
     exact UInt8.ofNat_toNat
    rw[this];rfl
   simp only[a7b,h4,beq_self_eq_true,Bool.and_true,Bool.not_false,Bool.true_and]
   exact decide_eq_true (by omega)
 ·have hn:SB r=false:=by simpa using hn
  rw[hn]
  by_cases h1:decide ((ZU ⟨r⟩).1>0)=true
  ·by_cases h2:(Lib.itoa (ZU ⟨r⟩).1==r)=true
   ·exfalso
    have h1:(ZU ⟨r⟩).1>0:=by simpa using h1
    have h2:Lib.itoa (ZU ⟨r⟩).1=r:=by simpa using h2
    rw[Lib.itoa,if_neg (by omega)]at h2
    obtain⟨d1,d2,d3⟩:=DD (ZU ⟨r⟩).1.toNat (by omega)
    rw[h2]at d1 d2 d3
    have:SB r=true:=by simp only[SB,d1,decide_eq_true d2,Bool.true_and,Bool.and_true];cases r <;> simp at d3 ⊢
    rw[this]at hn;cases hn
   ·simp[h2]
  ·simp[h1]
theorem F5(r:List UInt8):Zr ⟨95::r⟩=(SB r&&decide (r.length<=9)):=by simp[Zr,SB]
end Go.Pl

namespace Go.Pl
open Go.RowKit
open Enc (enc dec is)
open EncL (encL decL isL)
theorem Gs(s:List UInt8): ∀ m:List (Str×Int),D7 (.str s) (Zc m)=some ((m.find? fun p=>p.1.s==s).map fun p=>.int .i64 p.2)
 | []=>rfl
 | p::m=>by
  simp only[Zc,List.map_cons,D7,Sk,List.find?_cons]
  by_cases h:s=p.1.s
  ·subst h
   simp
  ·have h1:(s==p.1.s)=false:=by simpa using h
   have h2:(p.1.s==s)=false:=by simpa using fun e:p.1.s=s=>h e.symm
   simp only[h1,h2]
   exact Gs s m
theorem WC(s:List UInt8)(m:List (Str×Int)):Wu (.str s) (Zc m)=true:=by simp[Wu,Gs]
theorem WF(s:List UInt8)(m:List (Str×Int)):ZL (.str s) (.int .i64 0) (Zc m) = .int .i64 (Vj m s):=by
 simp only[ZL,Gs,Vj]
 cases m.find? fun p=>p.1.s==s <;> rfl
def Va(s:Str)(c:Int):List (Str×Int)->List (Str×Int)
 | []=>[(s,c)]
 | p::m=>if s.s=p.1.s then(s,c)::m else p::Va s c m
theorem Hg(s:Str)(c:Int): ∀ m:List (Str×Int),upd (.str s.s) (.int .i64 c) (Zc m)=some (Zc (Va s c m))
 | []=>rfl
 | p::m=>by
  have ih:=Hg s c m
  simp only[Zc]at ih
  simp only[Zc,List.map_cons,upd,Sk,Va]
  by_cases h:s.s=p.1.s
  ·simp[h]
  ·have h1:(s.s==p.1.s)=false:=by simpa using h
   simp[h1,h,ih]
def Y4(k:Int):List Coef->List (Str×Int)->List (Str×Int)
 | [],m=>m
 | t::l,m=>Y4 k l (Va t.v (IntKind.i64.wrap (Vj m t.v.s+IntKind.i64.wrap (k*t.c))) m)
def ZR(m:List (Str×Int)):List (List UInt8):=m.map (·.1.s)
theorem Us(s:Str)(c:Int): ∀ m:List (Str×Int),(ZR (Va s c m)=ZR m)∨(s.s ∉ ZR m∧ZR (Va s c m)=ZR m++[s.s])
 | []=>.inr ⟨by simp[ZR],rfl⟩
 | p::m=>by
  rw[Va]
  split
  ·rename_i h
   exact .inl (by simp[ZR,h])
  ·rename_i h
   rcases Us s c m with e|⟨e1,e2⟩
   ·exact .inl (by simp only[ZR,List.map_cons]at e ⊢;rw[e])
   ·refine .inr ⟨?_,?_⟩
    ·simp only[ZR,List.map_cons,List.mem_cons,not_or]at e1 ⊢
     exact⟨h,e1⟩
    ·simp only[ZR,List.map_cons]at e2 ⊢
     rw[e2];rfl
theorem CY{s:Str}{c:Int}{m:List (Str×Int)}(h:(ZR m).Nodup):(ZR (Va s c m)).Nodup:=by
 rcases Us s c m with e|⟨e1,e2⟩
 ·rw[e];exact h
 ·rw[e2,List.nodup_append]
  exact⟨h,by simp,fun a ha b hb e=>by simp at hb;subst hb;subst e;exact e1 ha⟩
theorem QV(k:Int): ∀ (l:List Coef) (m:List (Str×Int)),(ZR m).Nodup->(ZR (Y4 k l m)).Nodup
 | [],m,h=>h
 | t::l,m,h=>QV k l _ (CY h)
theorem Bd(s:Str)(c:Int)(m:List (Str×Int)):(Va s c m).length<=m.length+1:=by
 have h:(Va s c m).length=(ZR (Va s c m)).length:=by simp[ZR]
 have h2:m.length=(ZR m).length:=by simp[ZR]
 rcases Us s c m with e|⟨_,e⟩
 ·rw[h,e,<- h2];omega
 ·rw[h,e];simp;omega
theorem KY(k:Int): ∀ (l:List Coef) (m:List (Str×Int)),(Y4 k l m).length<=m.length+l.length
 | [],m=>Nat.le_refl _
 | t::l,m=>by
  have h1:=KY k l (Va t.v (IntKind.i64.wrap (Vj m t.v.s+IntKind.i64.wrap (k*t.c))) m)
  have h2:=Bd t.v (IntKind.i64.wrap (Vj m t.v.s+IntKind.i64.wrap (k*t.c))) m
  rw[Y4,List.length_cons];omega
def nzM(m:List (Str×Int)):List (Str×Int):=m.filter fun p=>decide (p.2≠0)
def Wp:AV×List AObj×List AObj:=(.tup [.pv (.int .i64 0),.pv .nilmap,.pv (.bool false)],[],[])
theorem TK{a b:List (List UInt8)}(h:a.Perm b):Yw a=Yw b:=by
 have tr : ∀ x y z:List UInt8,decide (x<=y)=true->decide (y<=z)=true->decide (x<=z)=true:=fun x y z h k=>by simp only[decide_eq_true_eq]at *;exact List.le_trans h k
 have to : ∀ x y:List UInt8,(decide (x<=y)||decide (y<=x))=true:=fun x y=>by simp only[Bool.or_eq_true,decide_eq_true_eq];exact List.le_total x y
 refine List.Perm.eq_of_pairwise (le:=fun x y=>decide (x<=y)=true) (fun x y _ _ h1 h2=> ?_) (List.pairwise_mergeSort tr to a) (List.pairwise_mergeSort tr to b) (((List.mergeSort_perm a _).trans h).trans (List.mergeSort_perm b _).symm)
 simp only[decide_eq_true_eq]at h1 h2
 exact List.le_antisymm h1 h2
structure FnV (n:Nat) where
 u:Unit:=()
instance (n:Nat):Enc (FnV n) where
  sz:=1
  enc _:=.fn n
  dec _:={}
  is | .fn m=>m==n|_=>false
  is_enc _:=by simp
  dec_enc _:=rfl
  sub p h:=by
    cases p with
    | fn m => have : m = n := by simpa using h
              subst this;exact .refl _
    | _=>cases h
def XA{α:Type}(p:α->Bool)(l:List α):Int:=match l.findIdx? p with|some i=>i|none=> -1
theorem a4c{α:Type}(p:α->Bool)(l:List α)(i:Nat)(hlt:i<l.length)(hno : ∀ j (h:j<l.length),j<i->p l[j]=false)(hp:p l[i]=true):XA p l=i:=by
 unfold XA
 have:l.findIdx? p=some i:=by
  rw[List.findIdx?_eq_some_iff_getElem]
  exact⟨hlt,hp,fun j hj=>by simp[hno j (by omega) hj]⟩
 rw[this]
theorem a4b{α:Type}(p:α->Bool)(l:List α)(hno : ∀ j (h:j<l.length),p l[j]=false):XA p l = -1:=by
 unfold XA
 have:l.findIdx? p=none:=by
  rw[List.findIdx?_eq_none_iff]
  intro x hx
  obtain⟨j,hj,rfl⟩:=List.getElem_of_mem hx
  exact hno j hj
 rw[this]
end Go.Pl

namespace Go.Pl
open Go.RowKit
open Enc (enc dec is)
open EncL (encL decL isL)
set_option maxRecDepth 100000
def VP:IC:=(.seq (.reg [⟨(some 4),(.box 2 (.t 1)),0,none⟩] none) (.seq (.reg [⟨(some 8),(.mv (.t 0)),0,none⟩,⟨(some 9),(.nilchk (.t 8)),0,none⟩,⟨(some 10),(.faddr 0 (.t 9)),0,none⟩,⟨(some 11),(.load false [(.int .i64)] (.t 10)),0,none⟩,⟨(some 12),(.mv (.t 2)),0,none⟩,⟨(some 13),(.faddr 0 (.t 4)),0,none⟩,⟨(some 14),(.load false [(.int .i64)] (.t 13)),0,none⟩,⟨(some 15),(.bin .num .mul (.t 12) (.t 14)),0,none⟩,⟨(some 16),(.bin .num .add (.t 11) (.t 15)),0,none⟩,⟨(some 17),(.nilchk (.t 8)),0,none⟩,⟨(some 18),(.faddr 0 (.t 17)),0,none⟩,⟨none,(.store 1 (.t 18) (.t 16)),0,none⟩] (some [[],[0],[1,0],[2,1,0],[],[],[5],[4,6,5],[3,7,2,1,0,4,6,5],[0,1,2,3,4,5,6,7,8],[9,0,1,2,3,4,5,6,7,8],[10,8,0,1,2,3,4,5,6,7,9]])) (.seq (.reg [⟨(some 19),(.faddr 1 (.t 4)),0,none⟩,⟨(some 20),(.load false [(.sl 2)] (.t 19)),0,none⟩,⟨(some 21),(.len 1 (.t 20)),0,none⟩,⟨(some 22),(.mv (.c (.int .i64 0))),0,none⟩] none) (.block 0 (.loop [22,21,20,0,2] (.seq (.reg [⟨(some 23),(.bin .num .lss (.t 22) (.t 21)),0,none⟩] none) (.seq (.cond (.t 23) .skip (.exit 0)) (.seq (.block 1 (.seq (.reg [⟨(some 24),(.iaddr 2 (.t 20) (.t 22)),0,none⟩,⟨(some 25),(.load true [.str,(.int .i64)] (.t 24)),0,none⟩,⟨(some 7),(.alloc (.agg [(.str []),(.int .i64 0)])),0,none⟩,⟨none,(.store 2 (.t 7) (.t 25)),1,none⟩] none) (.reg [⟨(some 26),(.mv (.t 0)),0,none⟩,⟨(some 27),(.nilchk (.t 26)),0,none⟩,⟨(some 28),(.faddr 1 (.t 27)),0,none⟩,⟨(some 29),(.load false [.any] (.t 28)),0,none⟩,⟨(some 30),(.faddr 0 (.t 7)),0,none⟩,⟨(some 31),(.load false [.str] (.t 30)),0,none⟩,⟨(some 32),(.lookup true (.int .i64) (.int .i64 0) false (.t 29) (.t 31)),0,none⟩,⟨(some 33),(.mv (.t 2)),0,none⟩,⟨(some 34),(.faddr 1 (.t 7)),0,none⟩,⟨(some 35),(.load false [(.int .i64)] (.t 34)),0,none⟩,⟨(some 36),(.bin .num .mul (.t 33) (.t 35)),0,none⟩,⟨(some 37),(.bin .num .add (.t 32) (.t 36)),0,none⟩,⟨none,(.mapupd true (.t 29) (.t 31) (.t 37)),0,none⟩] (some [[],[0],[1,0],[2,1,0],[],[4],[3,5,2,1,0,4],[],[],[8],[7,9,8],[6,10,3,5,2,1,0,4,7,9,8],[3,5,11,0,1,2,4,6,7,8,9,10]])))) (.reg [⟨(some 38),(.bin .num .add (.t 22) (.c (.int .i64 1))),0,none⟩,⟨(some 22),(.mv (.t 38)),0,none⟩] none)))))))))
def VQ:List IRes:=[]
abbrev a4a:Nat:=39
def Qg:ZJ:=WI []
theorem a7q{G:AV×List AObj×List AObj->Prop}(n:Int)(m:List (Str×Int))(l:Lin)(k:Int)(h:At Qg 2 (Zd 2 VQ G) VP 0 39 [(0,(.ptr 0 0)),(2,(.pv (.int .i64 k))),(20,(.pv (.sl 2 false (List.map enc l.t)))),(21,(.pv (.int .i64 (↑(List.length (List.map enc l.t)):Int)))),(22,(.pv (.int .i64 0)))] [(.obj (.box [(.pv (.int .i64 (IntKind.wrap IntKind.i64 (n+IntKind.wrap IntKind.i64 (k*l.k))))),(.map 1)])),(.obj (.map (Zc m)))]):Zi Qg 2 (Zd 2 VQ G) VP [] (Ym 39 [.ptr 0 0,.pv (enc l),.pv (.int .i64 k)] [.box [.pv (.int .i64 n),.map 1],.map (Zc m)]):=Zi.to (.lit (.lit (.nil))) h (by kernel_rfl)
theorem Me{G:AV×List AObj×List AObj->Prop}(n:Int)(m:List (Str×Int))(l:Lin)(k:Int)(i:Int)(h:if (decide (i<(↑(List.length l.t):Int)))=true then(decide (0<=i)&&decide (Int.toNat i<List.length (List.map enc l.t))&&Enc.sz Coef==2)=true∧(∃ y0:Coef,AV.pv (PV.rptr (PV.cells (List.getD (List.map enc l.t) (Int.toNat i) default)))=AV.pv (PV.rptr (PV.cells ((enc) y0)))∧((Wu (Sh.co Sh.str (List.getD (PV.cells (enc y0)) 0 default)) (Zc m)&&Sh.fit (Sh.int .i64) (ZL (Sh.co Sh.str (List.getD (PV.cells (enc y0)) 0 default)) (PV.int .i64 0) (Zc m)))=true∧((JW (Sh.co Sh.str (List.getD (PV.cells (enc y0)) 0 default)) (PV.int .i64 (IntKind.wrap IntKind.i64 (PV.asInt (ZL (Sh.co Sh.str (List.getD (PV.cells (enc y0)) 0 default)) (PV.int .i64 0) (Zc m))+IntKind.wrap IntKind.i64 (k*PV.asInt (List.getD (PV.cells (enc y0)) (0+1) default))))) (Zc m))=true∧(At Qg 2 (Zd 2 VQ G) VP 0 39 [(0,(.ptr 0 0)),(2,(.pv (.int .i64 k))),(20,(.pv (.sl 2 false (List.map enc l.t)))),(21,(.pv (.int .i64 (↑(List.length l.t):Int)))),(22,(.pv (.int .i64 (IntKind.wrap IntKind.i64 (i+1)))))] [(.obj (.box [(.pv (.int .i64 n)),(.map 1)])),(.obj (.map (JY (Sh.co Sh.str (List.getD (PV.cells (enc y0)) 0 default)) (PV.int .i64 (IntKind.wrap IntKind.i64 (PV.asInt (ZL (Sh.co Sh.str (List.getD (PV.cells (enc y0)) 0 default)) (PV.int .i64 0) (Zc m))+IntKind.wrap IntKind.i64 (k*PV.asInt (List.getD (PV.cells (enc y0)) (0+1) default))))) (Zc m))))]))))else(G (((.tup []),([(.box [(.pv (.int .i64 n)),(.map 1)]),(.map (Zc m))],[]))))):At Qg 2 (Zd 2 VQ G) VP 0 39 [(0,.ptr 0 0),(2,.pv (.int .i64 k)),(20,.pv (enc l.t)),(21,.pv (.int .i64 l.t.length)),(22,.pv (.int .i64 i))] [.obj (.box [.pv (.int .i64 n),.map 1]),.obj (.map (Zc m))]:=At.to (.lit (.ask (.req (.abs (Coef) (fun YY=>AV.pv (PV.rptr (PV.cells ((enc) YY)))) (.lit (.req (.keep (.lit (.lit (.req (.lit (.nil)))))))))) (.nil))) h (by kernel_rfl)
end Go.Pl

namespace Go.Pl
open Go.RowKit
open Enc (enc dec is)
open EncL (encL decL isL)
set_option maxRecDepth 100000
def X6:IC:=(.seq (.reg [⟨(some 25),(.mv (.t 7)),0,none⟩,⟨(some 26),(.bin .num .neq (.t 25) (.c (.int .i64 0))),0,none⟩] none) (.cond (.t 26) (.reg [⟨(some 27),(.mv (.t 5)),0,none⟩,⟨(some 28),(.mv (.t 6)),0,none⟩,⟨(some 29),(.bslice 9 1 1 (.str []) [(0,(.t 28))]),0,none⟩,⟨(some 30),(.append 9 1 16 (.t 27) (.t 29)),1,none⟩,⟨(some 5),(.mv (.t 30)),2,none⟩] none) .skip))
def Vy:List IRes:=[]
def Qv:ZJ:=WI [(154,.own YU XY),(73,.pure (preT (fun x:Lin×Unit=>Zu x.1)) (Zk (fun x:Lin×Unit=>Zh x.1)))]
theorem a1k{G:AV×List AObj×List AObj->Prop}(E:Xd)(n:Int)(s:List UInt8)(c:Int)(h:if (c != 0)=true then E 99 ⟨X4 58 0 [(0,(.ptr 0 0)),(2,(.ptr 2 0)),(4,(.ptr 3 0)),(5,(.row 5 1 0 1)),(18,(.map 1)),(19,(.ptr 4 0))],[(.obj (.box [(.pv (.int .i64 n)),(.map 1)])),.dead,(.obj (.box [(.pv (.int .i64 0)),(.pv (.sl 0 true []))])),(.obj (.box [(.pv (.int .i64 n)),(.pv (.sl 0 true []))])),.dead,(.obj (.row false 9 1 [(.str s)]))]⟩ (fun x S'=>Nu Qv E 5 (Zd 5 Vy G) X6 99 x S')else(E 99 ⟨X4 58 0 [(0,(.ptr 0 0)),(2,(.ptr 2 0)),(4,(.ptr 3 0)),(5,(.pv (.sl 0 true []))),(18,(.map 1)),(19,(.ptr 4 0))],[(.obj (.box [(.pv (.int .i64 n)),(.map 1)])),.dead,(.obj (.box [(.pv (.int .i64 0)),(.pv (.sl 0 true []))])),(.obj (.box [(.pv (.int .i64 n)),(.pv (.sl 0 true []))])),.dead]⟩ (fun x S'=>Nu Qv E 5 (Zd 5 Vy G) X6 99 x S'))):Z9 Qv E 5 (Zd 5 Vy G) (.inl X6) [.blk 1,.seq (.ext 99 [0,2,4,5,18,19])] ⟨X4 58 0 [(0,.ptr 0 0),(2,.ptr 2 0),(4,.ptr 3 0),(5,.pv (.sl 0 true [])),(6,.pv (.str s)),(7,.pv (.int .i64 c)),(18,.map 1),(19,.ptr 4 0),(22,.pv (.tup [.str s,.int .i64 c])),(23,.pv (.str s)),(24,.pv (.int .i64 c))],[.obj (.box [.pv (.int .i64 n),.map 1]),.dead,.obj (.box [.pv (.int .i64 0),.pv (.sl 0 true [])]),.obj (.box [.pv (.int .i64 n),.pv (.sl 0 true [])]),.dead]⟩:=Z9.mo (.lit (.ask (.lit (.lit (.lit (.lit (.lit (.nil)))))) (.nil))) h (by kernel_rfl)
theorem a1e{G:AV×List AObj×List AObj->Prop}(E:Xd)(n:Int)(s:List UInt8)(c:Int)(l:Nat)(xs:List (List UInt8))(h:if (c != 0)=true then(List.length (List.map PV.str xs)==l&&l==l&&decide ((l+List.length (List.drop 0 (List.take 1 [PV.str s])))*16<=1099511627776)&&decide (l+List.length (List.drop 0 (List.take 1 [PV.str s]))<=1099511627776))=true∧(E 99 ⟨X4 58 0 [(0,(.ptr 0 0)),(2,(.ptr 2 0)),(4,(.ptr 3 0)),(5,(.row 5 (l+List.length (List.drop 0 (List.take 1 [PV.str s]))) 0 (l+List.length (List.drop 0 (List.take 1 [PV.str s]))))),(18,(.map 1)),(19,(.ptr 4 0))],[(.obj (.box [(.pv (.int .i64 n)),(.map 1)])),.dead,(.obj (.box [(.pv (.int .i64 0)),(.pv (.sl 0 true []))])),(.obj (.box [(.pv (.int .i64 n)),(.pv (.sl 0 true []))])),.dead,(.obj (.row false 9 1 (List.map PV.str xs++List.drop 0 (List.take 1 [PV.str s]))))]⟩ (fun x S'=>Nu Qv E 6 (Zd 6 Vy G) X6 99 x S'))else(E 99 ⟨X4 58 0 [(0,(.ptr 0 0)),(2,(.ptr 2 0)),(4,(.ptr 3 0)),(5,(.row 5 l 0 l)),(18,(.map 1)),(19,(.ptr 4 0))],[(.obj (.box [(.pv (.int .i64 n)),(.map 1)])),.dead,(.obj (.box [(.pv (.int .i64 0)),(.pv (.sl 0 true []))])),(.obj (.box [(.pv (.int .i64 n)),(.pv (.sl 0 true []))])),.dead,(.obj (.row false 9 1 (List.map PV.str xs)))]⟩ (fun x S'=>Nu Qv E 6 (Zd 6 Vy G) X6 99 x S'))):Z9 Qv E 6 (Zd 6 Vy G) (.inl X6) [.blk 1,.seq (.ext 99 [0,2,4,5,18,19])] ⟨X4 58 0 [(0,.ptr 0 0),(2,.ptr 2 0),(4,.ptr 3 0),(5,.row 5 l 0 l),(6,.pv (.str s)),(7,.pv (.int .i64 c)),(18,.map 1),(19,.ptr 4 0),(22,.pv (.tup [.str s,.int .i64 c])),(23,.pv (.str s)),(24,.pv (.int .i64 c))],[.obj (.box [.pv (.int .i64 n),.map 1]),.dead,.obj (.box [.pv (.int .i64 0),.pv (.sl 0 true [])]),.obj (.box [.pv (.int .i64 n),.pv (.sl 0 true [])]),.dead,.obj (.row false 9 1 (xs.map .str))]⟩:=Z9.mo (.lit (.ask (.lit (.lit (.req (.nil)))) (.nil))) h (by kernel_rfl)
def Yy:IC:=(.seq (.reg [⟨(some 2),(.alloc (.agg [(.int .i64 0),(.sl 0 true [])])),0,none⟩,⟨(some 3),(.mv (.c (.int .i64 0))),1,none⟩] none) (.seq (.reg [⟨(some 10),(.mv (.t 0)),0,none⟩,⟨(some 11),(.nilchk (.t 10)),0,none⟩,⟨(some 12),(.faddr 0 (.t 11)),0,none⟩,⟨(some 13),(.load false [(.int .i64)] (.t 12)),0,none⟩,⟨(some 14),(.build [(.int .i64 0),(.sl 0 true [])] [(0,(1,(.t 13)))]),0,none⟩,⟨(some 4),(.alloc (.agg [(.int .i64 0),(.sl 0 true [])])),0,none⟩,⟨none,(.store 2 (.t 4) (.t 14)),1,none⟩] none) (.seq (.reg [⟨(some 5),(.mv (.c (.sl 0 true []))),0,none⟩] none) (.seq (.ext 0 [0,15,16,17,18,19,20,21,22,23,24,7,25,26,5,6,28,27,29,30,4,2]) (.seq (.reg [⟨(some 31),(.mv (.t 5)),0,none⟩,⟨(some 32),(.call (.c (.fn 154)) [(.t 31)]),0,none⟩] none) (.seq (.seq (.reg [⟨(some 33),(.mv (.t 5)),0,none⟩,⟨(some 34),(.len 1 (.t 33)),0,none⟩,⟨(some 35),(.mv (.c (.int .i64 0))),0,none⟩] none) (.block 2 (.loop [35,34,33,4,0,2] (.seq (.reg [⟨(some 36),(.bin .num .lss (.t 35) (.t 34)),0,none⟩] none) (.seq (.cond (.t 36) .skip (.exit 2)) (.seq (.block 3 (.seq (.reg [⟨(some 37),(.iaddr 1 (.t 33) (.t 35)),0,none⟩,⟨(some 38),(.load false [.str] (.t 37)),0,none⟩,⟨(some 9),(.mv (.t 38)),0,none⟩] none) (.reg [⟨(some 39),(.faddr 1 (.t 4)),0,none⟩,⟨(some 40),(.load false [(.sl 2)] (.t 39)),0,none⟩,⟨(some 41),(.mv (.t 9)),0,none⟩,⟨(some 42),(.mv (.t 0)),0,none⟩,⟨(some 43),(.nilchk (.t 42)),0,none⟩,⟨(some 44),(.faddr 1 (.t 43)),0,none⟩,⟨(some 45),(.load false [.any] (.t 44)),0,none⟩,⟨(some 46),(.mv (.t 9)),0,none⟩,⟨(some 47),(.lookup true (.int .i64) (.int .i64 0) false (.t 45) (.t 46)),0,none⟩,⟨(some 48),(.build [(.str []),(.int .i64 0)] [(0,(1,(.t 41))),(1,(1,(.t 47)))]),0,none⟩,⟨(some 49),(.bslice 61 2 1 (.agg [(.str []),(.int .i64 0)]) [(0,(.t 48))]),0,none⟩,⟨(some 50),(.append 61 2 24 (.t 40) (.t 49)),1,none⟩,⟨(some 51),(.faddr 1 (.t 4)),2,none⟩,⟨none,(.store 1 (.t 51) (.t 50)),2,none⟩] (some [[],[0],[],[],[3],[4,3],[5,4,3],[],[6,7,5,4,3],[2,8,6,7,5,4,3],[9,2,8,6,7,5,4,3],[1,10,0,9,2,8,6,7,5,4,3],[0,1,2,3,4,5,6,7,8,9,10,11],[12,11,0,1,2,3,4,5,6,7,8,9,10]])))) (.reg [⟨(some 52),(.bin .num .add (.t 35) (.c (.int .i64 1))),0,none⟩,⟨(some 35),(.mv (.t 52)),0,none⟩] none))))))) (.seq (.seq (.reg [⟨(some 53),(.load true [(.int .i64),(.sl 2)] (.t 4)),0,none⟩,⟨(some 54),(.call (.c (.fn 73)) [(.t 53)]),0,none⟩,⟨(some 55),(.un .not (.t 54)),2,none⟩] none) (.cond (.t 55) (.seq (.reg [⟨(some 56),(.build [(.int .i64 0),(.sl 0 true [])] []),0,none⟩,⟨none,(.store 2 (.t 2) (.t 56)),0,none⟩,⟨(some 3),(.mv (.c (.int .i64 3))),0,none⟩] none) .ret) .skip)) (.seq (.reg [⟨(some 57),(.load true [(.int .i64),(.sl 2)] (.t 4)),0,none⟩,⟨none,(.store 2 (.t 2) (.t 57)),0,none⟩,⟨(some 3),(.mv (.c (.int .i64 0))),0,none⟩] none) .ret))))))))
def YG:List IRes:=[(.cell true 2 2),(.tmp 3)]
abbrev a4z:Nat:=58
def YT:ZJ:=WI [(154,.own YU XY),(73,.pure (preT (fun x:Lin×Unit=>Zu x.1)) (Zk (fun x:Lin×Unit=>Zh x.1)))]
theorem a9a{G:AV×List AObj×List AObj->Prop}(E:Xd)(n:Int)(m:List (Str×Int))(h:E 0 ⟨X4 58 0 [(0,(.ptr 0 0)),(2,(.ptr 2 0)),(4,(.ptr 3 0)),(5,(.pv (.sl 0 true []))),(6,.undef),(7,.undef),(15,.undef),(16,.undef),(17,.undef),(18,.undef),(19,.undef),(20,.undef),(21,.undef),(22,.undef),(23,.undef),(24,.undef),(25,.undef),(26,.undef),(27,.undef),(28,.undef),(29,.undef),(30,.undef)],[(.obj (.box [(.pv (.int .i64 n)),(.map 1)])),(.obj (.map (Zc m))),(.obj (.box [(.pv (.int .i64 0)),(.pv (.sl 0 true []))])),(.obj (.box [(.pv (.int .i64 n)),(.pv (.sl 0 true []))]))]⟩ (fun x S'=>Nu YT E 2 (Zd 2 YG G) Yy 0 x S')):Z9 YT E 2 (Zd 2 YG G) (.inl Yy) [] (Ym 58 [.ptr 0 0] [.box [.pv (.int .i64 n),.map 1],.map (Zc m)]):=Z9.mo (.nil) h (by kernel_rfl)
-- IMPOSSIBLE
theorem FO{G:AV×List AObj×List AObj->Prop}(E:Xd)(n:Int)(m:List (Str×Int))(i:Int)(h:if (decide (i<0))=true then(decide (0<=i)&&decide (Int.toNat i<List.length ([]:List PV))&&0==1)=true∧(False)else(∃ y0:Bool,AV.pv (Zk (fun(x:Lin×Unit)=>Zh x.1) [(.agg [(.int .i64 n),(.sl 0 true [])])])=AV.pv (enc y0)∧(if (!y0)=true then G (((.tup [(.pv (.agg [(.int .i64 0),(.sl 0 true [])])),(.pv (.int .i64 3))]),([(.box [(.pv (.int .i64 n)),(.map 1)]),(.map (Zc m))],[])))else(G (((.tup [(.pv (.agg [(.int .i64 n),(.sl 0 true [])])),(.pv (.int .i64 0))]),([(.box [(.pv (.int .i64 n)),(.map 1)]),(.map (Zc m))],[]))))))):AJ YT E 2 (Zd 2 YG G) Yy 0 58 [(0,.ptr 0 0),(2,.ptr 2 0),(4,.ptr 3 0),(33,.pv (.sl 0 true [])),(34,.pv (.int .i64 0)),(35,.pv (.int .i64 i))] [.obj (.box [.pv (.int .i64 n),.map 1]),.obj (.map (Zc m)),.obj (.box [.pv (.int .i64 0),.pv (.sl 0 true [])]),.obj (.box [.pv (.int .i64 n),.pv (.sl 0 true [])])]:=Z9.mo (.lit (.ask (.req (.keep (.lit (.nil)))) (.lit (.abs (Bool) (fun YY=>AV.pv (enc YY)) (.ask (.nil) (.nil)))))) h (by kernel_rfl)
theorem a1y{G:AV×List AObj×List AObj->Prop}(E:Xd)(n:Int)(m:List (Str×Int))(l:Nat)(xs:List (List UInt8))(i:Int)(h:if (decide (i<(↑l:Int)))=true then(decide (0<=i)&&decide (0+Int.toNat i<l)&&List.length (List.map PV.str xs)==l)=true∧((List.length (List.map PV.str xs)==l&&decide (0+Int.toNat i<List.length (List.map PV.str xs)))=true∧((decide (0+List.length [Sh.str]<=List.length (PV.cells (List.getD (List.map PV.str xs) (0+Int.toNat i) default)))&&U2 (PV.cells (List.getD (List.map PV.str xs) (0+Int.toNat i) default)) 0 [Sh.str])=true∧((Wu (Sh.co Sh.str (List.getD (PV.cells (List.getD (List.map PV.str xs) (0+Int.toNat i) default)) 0 default)) (Zc m)&&Sh.fit (Sh.int .i64) (ZL (Sh.co Sh.str (List.getD (PV.cells (List.getD (List.map PV.str xs) (0+Int.toNat i) default)) 0 default)) (PV.int .i64 0) (Zc m)))=true∧(AJ YT E 2 (Zd 2 YG G) Yy 0 58 [(0,(.ptr 0 0)),(2,(.ptr 2 0)),(4,(.ptr 3 0)),(33,(.row 4 l 0 l)),(34,(.pv (.int .i64 (↑l:Int)))),(35,(.pv (.int .i64 (IntKind.wrap IntKind.i64 (i+1)))))] [(.obj (.box [(.pv (.int .i64 n)),(.map 1)])),(.obj (.map (Zc m))),(.obj (.box [(.pv (.int .i64 0)),(.pv (.sl 0 true []))])),(.obj (.box [(.pv (.int .i64 n)),(.row 5 1 0 1)])),(.obj (.row false 9 1 (List.map PV.str xs))),(.obj (.row false 61 2 [(.agg [(.str (PV.asStr (List.getD (PV.cells (List.getD (List.map PV.str xs) (0+Int.toNat i) default)) 0 default))),(.int .i64 (PV.asInt (ZL (Sh.co Sh.str (List.getD (PV.cells (List.getD (List.map PV.str xs) (0+Int.toNat i) default)) 0 default)) (PV.int .i64 0) (Zc m))))])]))]))))else(∃ y0:Bool,AV.pv (Zk (fun(x:Lin×Unit)=>Zh x.1) [(.agg [(.int .i64 n),(.sl 0 true [])])])=AV.pv (enc y0)∧(if (!y0)=true then G (((.tup [(.pv (.agg [(.int .i64 0),(.sl 0 true [])])),(.pv (.int .i64 3))]),([(.box [(.pv (.int .i64 n)),(.map 1)]),(.map (Zc m))],[])))else(G (((.tup [(.pv (.agg [(.int .i64 n),(.sl 0 true [])])),(.pv (.int .i64 0))]),([(.box [(.pv (.int .i64 n)),(.map 1)]),(.map (Zc m))],[]))))))):AJ YT E 2 (Zd 2 YG G) Yy 0 58 [(0,.ptr 0 0),(2,.ptr 2 0),(4,.ptr 3 0),(33,.row 4 l 0 l),(34,.pv (.int .i64 l)),(35,.pv (.int .i64 i))] [.obj (.box [.pv (.int .i64 n),.map 1]),.obj (.map (Zc m)),.obj (.box [.pv (.int .i64 0),.pv (.sl 0 true [])]),.obj (.box [.pv (.int .i64 n),.pv (.sl 0 true [])]),.obj (.row false 9 1 (xs.map .str))]:=Z9.mo (.lit (.ask (.req (.keep (.req (.req (.req (.keep (.lit (.lit (.lit (.lit (.lit (.lit (.nil))))))))))))) (.lit (.abs (Bool) (fun YY=>AV.pv (enc YY)) (.ask (.nil) (.nil)))))) h (by kernel_rfl)
theorem TQ{G:AV×List AObj×List AObj->Prop}(E:Xd)(n:Int)(m:List (Str×Int))(l:Nat)(xs:List (List UInt8))(i:Int)(q:Nat)(ts:List Coef)(h:if (decide (i<(↑l:Int)))=true then(decide (0<=i)&&decide (0+Int.toNat i<l)&&List.length (List.map PV.str xs)==l)=true∧((List.length (List.map PV.str xs)==l&&decide (0+Int.toNat i<List.length (List.map PV.str xs)))=true∧((decide (0+List.length [Sh.str]<=List.length (PV.cells (List.getD (List.map PV.str xs) (0+Int.toNat i) default)))&&U2 (PV.cells (List.getD (List.map PV.str xs) (0+Int.toNat i) default)) 0 [Sh.str])=true∧((Wu (Sh.co Sh.str (List.getD (PV.cells (List.getD (List.map PV.str xs) (0+Int.toNat i) default)) 0 default)) (Zc m)&&Sh.fit (Sh.int .i64) (ZL (Sh.co Sh.str (List.getD (PV.cells (List.getD (List.map PV.str xs) (0+Int.toNat i) default)) 0 default)) (PV.int .i64 0) (Zc m)))=true∧((List.length (List.map enc ts)==q&&q==q&&decide ((q+List.length (List.drop 0 (List.take 1 [PV.agg [Sh.co Sh.str (List.getD (PV.cells (List.getD (List.map PV.str xs) (0+Int.toNat i) default)) 0 default),if false=true then PV.tup [Sh.co (Sh.int .i64) (ZL (Sh.co Sh.str (List.getD (PV.cells (List.getD (List.map PV.str xs) (0+Int.toNat i) default)) 0 default)) (PV.int .i64 0) (Zc m)),PV.bool (Y3 (Sh.co Sh.str (List.getD (PV.cells (List.getD (List.map PV.str xs) (0+Int.toNat i) default)) 0 default)) (Zc m))]else Sh.co (Sh.int .i64) (ZL (Sh.co Sh.str (List.getD (PV.cells (List.getD (List.map PV.str xs) (0+Int.toNat i) default)) 0 default)) (PV.int .i64 0) (Zc m))]])))*24<=1099511627776)&&decide (q+List.length (List.drop 0 (List.take 1 [PV.agg [Sh.co Sh.str (List.getD (PV.cells (List.getD (List.map PV.str xs) (0+Int.toNat i) default)) 0 default),if false=true then PV.tup [Sh.co (Sh.int .i64) (ZL (Sh.co Sh.str (List.getD (PV.cells (List.getD (List.map PV.str xs) (0+Int.toNat i) default)) 0 default)) (PV.int .i64 0) (Zc m)),PV.bool (Y3 (Sh.co Sh.str (List.getD (PV.cells (List.getD (List.map PV.str xs) (0+Int.toNat i) default)) 0 default)) (Zc m))]else Sh.co (Sh.int .i64) (ZL (Sh.co Sh.str (List.getD (PV.cells (List.getD (List.map PV.str xs) (0+Int.toNat i) default)) 0 default)) (PV.int .i64 0) (Zc m))]]))<=1099511627776))=true∧(AJ YT E 2 (Zd 2 YG G) Yy 0 58 [(0,(.ptr 0 0)),(2,(.ptr 2 0)),(4,(.ptr 3 0)),(33,(.row 4 l 0 l)),(34,(.pv (.int .i64 (↑l:Int)))),(35,(.pv (.int .i64 (IntKind.wrap IntKind.i64 (i+1)))))] [(.obj (.box [(.pv (.int .i64 n)),(.map 1)])),(.obj (.map (Zc m))),(.obj (.box [(.pv (.int .i64 0)),(.pv (.sl 0 true []))])),(.obj (.box [(.pv (.int .i64 n)),(.row 5 (q+List.length (List.drop 0 (List.take 1 [PV.agg [Sh.co Sh.str (List.getD (PV.cells (List.getD (List.map PV.str xs) (0+Int.toNat i) default)) 0 default),if false=true then PV.tup [Sh.co (Sh.int .i64) (ZL (Sh.co Sh.str (List.getD (PV.cells (List.getD (List.map PV.str xs) (0+Int.toNat i) default)) 0 default)) (PV.int .i64 0) (Zc m)),PV.bool (Y3 (Sh.co Sh.str (List.getD (PV.cells (List.getD (List.map PV.str xs) (0+Int.toNat i) default)) 0 default)) (Zc m))]else Sh.co (Sh.int .i64) (ZL (Sh.co Sh.str (List.getD (PV.cells (List.getD (List.map PV.str xs) (0+Int.toNat i) default)) 0 default)) (PV.int .i64 0) (Zc m))]]))) 0 (q+List.length (List.drop 0 (List.take 1 [PV.agg [Sh.co Sh.str (List.getD (PV.cells (List.getD (List.map PV.str xs) (0+Int.toNat i) default)) 0 default),if false=true then PV.tup [Sh.co (Sh.int .i64) (ZL (Sh.co Sh.str (List.getD (PV.cells (List.getD (List.map PV.str xs) (0+Int.toNat i) default)) 0 default)) (PV.int .i64 0) (Zc m)),PV.bool (Y3 (Sh.co Sh.str (List.getD (PV.cells (List.getD (List.map PV.str xs) (0+Int.toNat i) default)) 0 default)) (Zc m))]else Sh.co (Sh.int .i64) (ZL (Sh.co Sh.str (List.getD (PV.cells (List.getD (List.map PV.str xs) (0+Int.toNat i) default)) 0 default)) (PV.int .i64 0) (Zc m))]]))))])),(.obj (.row false 9 1 (List.map PV.str xs))),(.obj (.row false 61 2 (List.map enc ts++List.drop 0 (List.take 1 [PV.agg [Sh.co Sh.str (List.getD (PV.cells (List.getD (List.map PV.str xs) (0+Int.toNat i) default)) 0 default),if false=true then PV.tup [Sh.co (Sh.int .i64) (ZL (Sh.co Sh.str (List.getD (PV.cells (List.getD (List.map PV.str xs) (0+Int.toNat i) default)) 0 default)) (PV.int .i64 0) (Zc m)),PV.bool (Y3 (Sh.co Sh.str (List.getD (PV.cells (List.getD (List.map PV.str xs) (0+Int.toNat i) default)) 0 default)) (Zc m))]else Sh.co (Sh.int .i64) (ZL (Sh.co Sh.str (List.getD (PV.cells (List.getD (List.map PV.str xs) (0+Int.toNat i) default)) 0 default)) (PV.int .i64 0) (Zc m))]]))))])))))else((List.length (List.map enc ts)==q)=true∧((Go.Pl.preT (fun(x:Lin×Unit)=>Zu x.1) [(.agg [(.int .i64 n),(.sl 2 false (List.drop 0 (List.take q (List.map enc ts))))])])=true∧(∃ y0:Bool,AV.pv (Zk (fun(x:Lin×Unit)=>Zh x.1) [(.agg [(.int .i64 n),(.sl 2 false (List.drop 0 (List.take q (List.map enc ts))))])])=AV.pv (enc y0)∧(if (!y0)=true then G (((.tup [(.pv (.agg [(.int .i64 0),(.sl 0 true [])])),(.pv (.int .i64 3))]),([(.box [(.pv (.int .i64 n)),(.map 1)]),(.map (Zc m))],[])))else(G (((.tup [(.agg [(.pv (.int .i64 n)),(.row 2 q 0 q)]),(.pv (.int .i64 0))]),([(.box [(.pv (.int .i64 n)),(.map 1)]),(.map (Zc m))],[(.row true 61 2 (List.map enc ts))]))))))))):AJ YT E 2 (Zd 2 YG G) Yy 0 58 [(0,.ptr 0 0),(2,.ptr 2 0),(4,.ptr 3 0),(33,.row 4 l 0 l),(34,.pv (.int .i64 l)),(35,.pv (.int .i64 i))] [.obj (.box [.pv (.int .i64 n),.map 1]),.obj (.map (Zc m)),.obj (.box [.pv (.int .i64 0),.pv (.sl 0 true [])]),.obj (.box [.pv (.int .i64 n),.row 5 q 0 q]),.obj (.row false 9 1 (xs.map .str)),.obj (.row false 61 2 (ts.map enc))]:=Z9.mo (.lit (.ask (.req (.keep (.req (.req (.req (.keep (.lit (.lit (.req (.lit (.nil))))))))))) (.req (.req (.abs (Bool) (fun YY=>AV.pv (enc YY)) (.ask (.nil) (.nil))))))) h (by kernel_rfl)
theorem OL{G:AV×List AObj×List AObj->Prop}(E:Xd)(n:Int)(m:List (Str×Int))(h:AJ YT E 2 (Zd 2 YG G) Yy 0 58 [(0,(.ptr 0 0)),(2,(.ptr 2 0)),(4,(.ptr 3 0)),(33,(.pv (.sl 0 true []))),(34,(.pv (.int .i64 0))),(35,(.pv (.int .i64 0)))] [(.obj (.box [(.pv (.int .i64 n)),(.map 1)])),(.obj (.map (Zc m))),(.obj (.box [(.pv (.int .i64 0)),(.pv (.sl 0 true []))])),(.obj (.box [(.pv (.int .i64 n)),(.pv (.sl 0 true []))]))]):Nu YT E 2 (Zd 2 YG G) Yy 0 .normal ⟨X4 58 0 [(0,.ptr 0 0),(2,.ptr 2 0),(4,.ptr 3 0),(5,.pv (.sl 0 true [])),(18,.map 1),(19,.ptr 4 0)],[.obj (.box [.pv (.int .i64 n),.map 1]),.obj (.map (Zc m)),.obj (.box [.pv (.int .i64 0),.pv (.sl 0 true [])]),.obj (.box [.pv (.int .i64 n),.pv (.sl 0 true [])]),.dead]⟩:=Z9.mo (.lit (.keep (.nil))) h (by kernel_rfl)
theorem OQ{G:AV×List AObj×List AObj->Prop}(E:Xd)(n:Int)(m:List (Str×Int))(l:Nat)(xs:List (List UInt8))(h:(YU [(.row 0 l 0 l)] [(.row false 9 1 (List.map PV.str xs))])=true∧(AJ YT E 2 (Zd 2 YG G) Yy 0 58 [(0,(.ptr 0 0)),(2,(.ptr 2 0)),(4,(.ptr 3 0)),(33,(.row 4 l 0 l)),(34,(.pv (.int .i64 (↑(l - 0):Int)))),(35,(.pv (.int .i64 0)))] [(.obj (.box [(.pv (.int .i64 n)),(.map 1)])),(.obj (.map (Zc m))),(.obj (.box [(.pv (.int .i64 0)),(.pv (.sl 0 true []))])),(.obj (.box [(.pv (.int .i64 n)),(.pv (.sl 0 true []))])),(.obj (.row false 9 1 (List.map PV.str (Yw (List.map JF (List.map PV.str xs))))))])):Nu YT E 2 (Zd 2 YG G) Yy 0 .normal ⟨X4 58 0 [(0,.ptr 0 0),(2,.ptr 2 0),(4,.ptr 3 0),(5,.row 5 l 0 l),(18,.map 1),(19,.ptr 4 0)],[.obj (.box [.pv (.int .i64 n),.map 1]),.obj (.map (Zc m)),.obj (.box [.pv (.int .i64 0),.pv (.sl 0 true [])]),.obj (.box [.pv (.int .i64 n),.pv (.sl 0 true [])]),.dead,.obj (.row false 9 1 (xs.map .str))]⟩:=Z9.mo (.req (.keep (.nil))) h (by kernel_rfl)
end Go.Pl

namespace Go.Pl
open Go.RowKit
open Enc (enc dec is)
open EncL (encL decL isL)
def Zw(m:List (Str×Int))(xs:List (List UInt8)):List Coef:=xs.map fun s=>⟨⟨s⟩,Vj m s⟩
def KT(n:Int)(m:List (Str×Int))(l:List Coef):AV×List AObj×List AObj:=
 if Zh ⟨n,l⟩then
  if l.isEmpty then(.tup [.pv (.agg [.int .i64 n,.sl 0 true []]),.pv (.int .i64 0)],[.box [.pv (.int .i64 n),.map 1],.map (Zc m)],[])
  else(.tup [.agg [.pv (.int .i64 n),.row 2 l.length 0 l.length],.pv (.int .i64 0)],[.box [.pv (.int .i64 n),.map 1],.map (Zc m)],[.row true 61 2 (l.map enc)])
 else(.tup [.pv (.agg [.int .i64 0,.sl 0 true []]),.pv (.int .i64 3)],[.box [.pv (.int .i64 n),.map 1],.map (Zc m)],[])
theorem TV(n:Int)(m:List (Str×Int)){xs:List (List UInt8)}(hx:xs.length<=1000000)(hsx : ∀ x∈xs,x.length<=1000000):Zu ⟨n,Zw m xs⟩=true:=by
 simp only[Zu,Zz,Zw,List.length_map,Bool.and_eq_true,decide_eq_true_eq,List.all_eq_true,List.mem_map]
 refine⟨by omega,?_⟩
 rintro t ⟨x,hxm,rfl⟩
 exact hsx x hxm
theorem FQ{E:Xd}(n:Int)(m:List (Str×Int))(xs:List (List UInt8))(hx:xs.length<=1000000)(hsx : ∀ x∈xs,x.length<=1000000): ∀ (j k:Nat),j+k=xs.length->0<k ->
  AJ YT E 2 (Zd 2 YG fun r=>r=KT n m (Zw m xs)) Yy 0 58 [(0,.ptr 0 0),(2,.ptr 2 0),(4,.ptr 3 0),(33,.row 4 xs.length 0 xs.length),(34,.pv (.int .i64 xs.length)),(35,.pv (.int .i64 k))]
   [.obj (.box [.pv (.int .i64 n),.map 1]),.obj (.map (Zc m)),.obj (.box [.pv (.int .i64 0),.pv (.sl 0 true [])]),.obj (.box [.pv (.int .i64 n),.row 5 k 0 k]),.obj (.row false 9 1 (xs.map .str)),.obj (.row false 61 2 ((Zw m (xs.take k)).map enc))]:=by
 intro j
 induction j with
 | zero=>
  intro k hk h0
  obtain rfl:k=xs.length:=by omega
  refine TQ E n m xs.length xs xs.length xs.length (Zw m (xs.take xs.length)) ?_
  rw[if_neg (by simp)]
  have e1:Zw m (xs.take xs.length)=Zw m xs:=by rw[List.take_length]
  rw[e1]
  have e2:List.drop 0 (List.take xs.length (List.map (enc:Coef->PV) (Zw m xs)))=(Zw m xs).map enc:=by rw[List.drop_zero,List.take_of_length_le (by simp[Zw])]
  rw[e2]
  refine⟨by simp[Zw],Zo (⟨n,Zw m xs⟩,()) rfl (TV n m hx hsx),Zl (⟨n,Zw m xs⟩,()) rfl ?_⟩
  have hne:(Zw m xs).isEmpty=false:=by cases xs <;> simp[Zw]at h0 ⊢
  by_cases hv:Zh ⟨n,Zw m xs⟩=true
  ·rw[if_neg (by simp[hv])]
   unfold KT
   rw[if_pos hv,hne]
   simp[Zw]
  ·rw[if_pos (by simpa using hv)]
   simp[KT,hv]
 | succ j ih=>
  intro k hk h0
  have hlt:k<xs.length:=by omega
  refine TQ E n m xs.length xs k k (Zw m (xs.take k)) ?_
  rw[if_pos (by simp;omega)]
  have eg:List.getD (List.map PV.str xs) (0+Int.toNat (k:Int)) default = .str xs[k]:=by simp[List.getD,hlt]
  rw[eg]
  have ec:Sh.co Sh.str (List.getD (PV.cells (.str xs[k])) 0 default) = .str xs[k]:=rfl
  rw[ec,WF]
  refine⟨by simp;omega,by simp;omega,rfl,by rw[WC];rfl,?_,?_⟩
  ·simp[Zw];omega
  ·have h:=ih (k+1) (by omega) (by omega)
   have et:xs.take (k+1)=xs.take k++[xs[k]]:=by rw[List.take_add_one,List.getElem?_eq_getElem hlt];rfl
   rw[et]at h
   rw[next (by omega)]
   simp only[Zw,List.map_append,List.map_cons,List.map_nil]at h ⊢
   exact h
def Tp:MapParts:=⟨[⟨(some 15),(.mv (.t 0)),0,none⟩,⟨(some 16),(.nilchk (.t 15)),0,none⟩,⟨(some 17),(.faddr 1 (.t 16)),0,none⟩,⟨(some 18),(.load false [.any] (.t 17)),0,none⟩],.t 18,19,20,21,22,1,[⟨(some 23),(.extract (.t 22) 0),0,none⟩,⟨(some 24),(.extract (.t 22) 1),0,none⟩,⟨(some 6),(.mv (.t 23)),0,none⟩,⟨(some 7),(.mv (.t 24)),0,none⟩],X6⟩
def Bj:Xd:=fun nn st q=>nn=0∧a8d YT 2 Tp st q
def kz(vis:List (PV×PV)):List (List UInt8):=vis.filterMap fun p=>match p with|(.str s,.int _ c)=>if c=0 then none else some s|_=>none
def XB(m:List (Str×Int)):List (List UInt8):=Yw (kz (Zc m))
def a6v(n:Int):ZB:=[.obj (.box [.pv (.int .i64 n),.map 1]),.dead,.obj (.box [.pv (.int .i64 0),.pv (.sl 0 true [])]),.obj (.box [.pv (.int .i64 n),.pv (.sl 0 true [])]),.dead]
def BH(x:AV):List AV:=X4 58 0 [(0,.ptr 0 0),(2,.ptr 2 0),(4,.ptr 3 0),(5,x),(18,.map 1),(19,.ptr 4 0)]
def a8y(n:Int)(vis:List (PV×PV))(s:St):Prop:=
 (kz vis=[]∧s=⟨BH (.pv (.sl 0 true [])),a6v n⟩)∨(kz vis≠[]∧s=⟨BH (.row 5 (kz vis).length 0 (kz vis).length),a6v n++[.obj (.row false 9 1 ((kz vis).map .str))]⟩)
theorem Gx{a b:List (List UInt8)}(h:a.Perm b):Yw a=Yw b:=by
 have tr : ∀ x y z:List UInt8,decide (x<=y)=true->decide (y<=z)=true->decide (x<=z)=true:=fun x y z h k=>by simp only[decide_eq_true_eq]at *;exact List.le_trans h k
 have to : ∀ x y:List UInt8,(decide (x<=y)||decide (y<=x))=true:=fun x y=>by simp only[Bool.or_eq_true,decide_eq_true_eq];exact List.le_total x y
 refine List.Perm.eq_of_pairwise (le:=fun x y=>decide (x<=y)=true) (fun x y _ _ h1 h2=> ?_) (List.pairwise_mergeSort tr to a) (List.pairwise_mergeSort tr to b) (((List.mergeSort_perm a _).trans h).trans (List.mergeSort_perm b _).symm)
 simp only[decide_eq_true_eq]at h1 h2
 exact List.le_antisymm h1 h2
theorem MJ(n:Int)(vis:List (PV×PV))(s:List UInt8)(c:Int)(st:St)(hl:(kz vis).length<1000000)(h:a8y n vis st):
  ∃ s2,Uq YT st.heap.length Tp.psE (grow ⟨((st.env.set 20 .junk).set 21 .junk).set 22 (.pv (.tup [.str s,.int .i64 c])),st.heap⟩ (news Tp.psE))=some s2∧ ∃ F',(∀ x,¬ F' x) ∧
   Z9 YT (fun n' S' _=>n'=99∧a8y n (vis++[(.str s,.int .i64 c)]) S') st.heap.length F' (.inl X6) [.blk 1,.seq (.ext 99 [0,2,4,5,18,19])] s2:=by
 have hno : ∀ k,∀ x,¬ Zd k Vy (fun _=>False) x:=by rintro k x ⟨r,_,h⟩;exact h
 have ek:kz (vis++[(.str s,.int .i64 c)])=kz vis++(if c=0 then []else [s]):=by
  unfold kz
  rw[List.filterMap_append]
  by_cases hc:c=0 <;> simp[hc]
 rcases h with ⟨h1,rfl⟩|⟨h1,rfl⟩
 ·refine⟨_,by kernel_rfl,_,hno 5,a1k (G:=fun _=>False) _ n s c ?_⟩
  by_cases hc:c=0
  ·rw[if_neg (by simp[hc])]
   refine⟨rfl,.inl ⟨by rw[ek,h1];simp[hc],rfl⟩⟩
  ·rw[if_pos (by simpa using hc)]
   refine⟨rfl,.inr ⟨by rw[ek,h1];simp[hc],?_⟩⟩
   rw[ek,h1]
   simp[hc]
   exact⟨rfl,rfl⟩
 ·refine⟨_,by kernel_rfl,_,hno 6,a1e (G:=fun _=>False) _ n s c (kz vis).length (kz vis) ?_⟩
  by_cases hc:c=0
  ·rw[if_neg (by simp[hc])]
   refine⟨rfl,.inr ⟨by rw[ek];simp[hc,h1],?_⟩⟩
   rw[ek]
   simp[hc]
   exact⟨rfl,rfl⟩
  ·rw[if_pos (by simpa using hc)]
   refine⟨by simp;omega,rfl,.inr ⟨by rw[ek];simp[hc],?_⟩⟩
   rw[ek]
   simp[hc]
   exact⟨rfl,rfl⟩
theorem FC{E:Xd}(n:Int)(m:List (Str×Int))(xs:List (List UInt8))(hx:xs.length<=1000000)(hsx : ∀ x∈xs,x.length<=1000000)(h0:0<xs.length):
  AJ YT E 2 (Zd 2 YG fun r=>r=KT n m (Zw m xs)) Yy 0 58 [(0,.ptr 0 0),(2,.ptr 2 0),(4,.ptr 3 0),(33,.row 4 xs.length 0 xs.length),(34,.pv (.int .i64 xs.length)),(35,.pv (.int .i64 0))]
   [.obj (.box [.pv (.int .i64 n),.map 1]),.obj (.map (Zc m)),.obj (.box [.pv (.int .i64 0),.pv (.sl 0 true [])]),.obj (.box [.pv (.int .i64 n),.pv (.sl 0 true [])]),.obj (.row false 9 1 (xs.map .str))]:=by
 refine a1y E n m xs.length xs 0 ?_
 rw[if_pos (by simp;omega)]
 have eg:List.getD (List.map PV.str xs) (0+Int.toNat (0:Int)) default = .str xs[0]:=by simp[List.getD,h0]
 rw[eg]
 have ec:Sh.co Sh.str (List.getD (PV.cells (.str xs[0])) 0 default) = .str xs[0]:=rfl
 rw[ec,WF]
 refine⟨by simp;omega,by simp;omega,rfl,by rw[WC];rfl,?_⟩
 have h:=FQ (E:=E) n m xs hx hsx (xs.length - 1) 1 (by omega) (by omega)
 have et:xs.take 1=[xs[0]]:=by cases xs <;> simp at h0 ⊢
 rw[et]at h
 exact h
theorem Em(n:Int)(m:List (Str×Int))(hm:m.length<1000000)(hkm : ∀ x∈XB m,x.length<=1000000):
  QS YT Bj 2 (Zd 2 YG fun r=>r=KT n m (Zw m (XB m))) Yy [] (Ym 58 [.ptr 0 0] [.box [.pv (.int .i64 n),.map 1],.map (Zc m)]):=by
 refine a9a Bj n m ?_
 have elen : ∀ x,(BH x).length=58:=fun x=>rfl
 refine⟨rfl,⟨((((X4 58 0 [(0,.ptr 0 0),(2,.ptr 2 0),(4,.ptr 3 0),(5,.pv (.sl 0 true [])),(6,.undef),(7,.undef),(15,.undef),(16,.undef),(17,.undef),(18,.undef),(19,.undef),(20,.undef),(21,.undef),(22,.undef),(23,.undef),(24,.undef),(25,.undef),(26,.undef),(27,.undef),(28,.undef),(29,.undef),(30,.undef)]).set 15 (.ptr 0 0)).set 16 (.ptr 0 0)).set 17 (.ptr 0 1)).set 18 (.map 1),
   [.obj (.box [.pv (.int .i64 n),.map 1]),.obj (.map (Zc m)),.obj (.box [.pv (.int .i64 0),.pv (.sl 0 true [])]),.obj (.box [.pv (.int .i64 n),.pv (.sl 0 true [])])]⟩,⟨BH (.pv (.sl 0 true [])),a6v n⟩,1,4,18,1,Zc m,[0,2,4,5,18,19],[0,2,4,5,18,19],a8y n,by kernel_rfl,rfl,rfl,by kernel_rfl,rfl,by decide,rfl,.inl ⟨rfl,rfl⟩,?_,?_,?_⟩
 ·intro vis s h
  rcases h with ⟨_,rfl⟩|⟨_,rfl⟩
  ·exact⟨⟨rfl,by show 20<_;rw[elen];omega,by show 21<_;rw[elen];omega,by show 22<_;rw[elen];omega⟩,rfl⟩
  ·exact⟨⟨rfl,by show 20<_;rw[elen];omega,by show 21<_;rw[elen];omega,by show 22<_;rw[elen];omega⟩,rfl⟩
 ·intro vis kv s rest hp hI
  have hin:kv∈Zc m:=hp.mem_iff.2 (by simp)
  obtain⟨p,_,rfl⟩:=List.mem_map.1 hin
  have hl:=hp.length_eq
  simp[Zc]at hl
  have hk:(kz vis).length<=vis.length:=List.length_filterMap_le _ _
  exact MJ n vis p.1.s p.2 s (by omega) hI
 ·intro vis s hp hI
  have hpk:(kz vis).Perm (kz (Zc m)):=hp.filterMap _
  have hs:Yw (kz vis)=XB m:=Gx hpk
  have hkl:(kz vis).length<=1000000:=by
   have h1:(kz vis).length<=vis.length:=List.length_filterMap_le _ _
   have h2:=hp.length_eq
   simp[Zc]at h2
   omega
  rcases hI with ⟨h1,rfl⟩|⟨h1,rfl⟩
  ·refine OL Bj n m ?_
   have hn:XB m=[]:=by rw[<- hs,h1];simp[Yw]
   rw[hn]
   refine FO Bj n m 0 ?_
   rw[if_neg (by simp)]
   refine Jg (⟨n,[]⟩,()) (by simp) ?_
   by_cases hv:Zh ⟨n,[]⟩=true
   ·rw[if_neg (by simp[hv])]
    simp[KT,Zw,hv]
   ·rw[if_pos (by simpa using hv)]
    simp[KT,Zw,hv]
  ·refine OQ Bj n m (kz vis).length (kz vis) ?_
   have e1:List.map JF (List.map PV.str (kz vis))=kz vis:=by rw[List.map_map];exact List.map_id _
   rw[e1,hs]
   have e2:(XB m).length=(kz vis).length:=by rw[<- hs];exact(List.mergeSort_perm _ _).length_eq
   refine⟨?_,?_⟩
   ·simp[YU,GH]
    omega
   ·have:=FC (E:=Bj) n m (XB m) (by omega) hkm (by rw[e2];exact List.length_pos_iff.2 h1)
    rw[e2]at this
    simpa using this
end Go.Pl

namespace Go.Pl
open Go.RowKit
open Enc (enc dec is)
open EncL (encL decL isL)
def a7x(n:Int)(m:List (Str×Int)):AV×List AObj×List AObj:=(.tup [],[.box [.pv (.int .i64 n),.map 1],.map (Zc m)],[])
theorem ML(n:Int)(l:Lin)(k:Int)(hl:l.t.length<=1000000): ∀ (j i:Nat) (m:List (Str×Int)),j+i=l.t.length ->
  At Qg 2 (Zd 2 VQ fun r=>r=a7x n (Y4 k (l.t.drop i) m)) VP 0 39 [(0,.ptr 0 0),(2,.pv (.int .i64 k)),(20,.pv (enc l.t)),(21,.pv (.int .i64 l.t.length)),(22,.pv (.int .i64 i))] [.obj (.box [.pv (.int .i64 n),.map 1]),.obj (.map (Zc m))]:=by
 intro j
 induction j with
 | zero=>
  intro i m hi
  refine Me n m l k i ?_
  rw[if_neg (by simp;omega),List.drop_of_length_le (by omega)]
  rfl
 | succ j ih=>
  intro i m hi
  have hlt:i<l.t.length:=by omega
  refine Me n m l k i ?_
  rw[if_pos (by simp;omega)]
  refine⟨by simp[Enc.sz];omega,l.t[i],by simp[List.getD,hlt],?_⟩
  have ec:Sh.co Sh.str (List.getD (PV.cells (enc l.t[i])) 0 default) = .str l.t[i].v.s:=rfl
  rw[ec,WF]
  have ev:PV.asInt (List.getD (PV.cells (enc l.t[i])) (0+1) default)=l.t[i].c:=rfl
  have ea:PV.asInt (.int .i64 (Vj m l.t[i].v.s))=Vj m l.t[i].v.s:=rfl
  rw[ev,ea]
  have eu:=Hg l.t[i].v (IntKind.i64.wrap (Vj m l.t[i].v.s+IntKind.i64.wrap (k*l.t[i].c))) m
  refine⟨by rw[WC];rfl,?_,?_⟩
  ·show(upd _ _ _).isSome=true
   exact(congrArg Option.isSome eu).trans rfl
  ·have h:=ih (i+1) (Va l.t[i].v (IntKind.i64.wrap (Vj m l.t[i].v.s+IntKind.i64.wrap (k*l.t[i].c))) m) (by omega)
   rw[next (by omega)]
   have ed:l.t.drop i=l.t[i]::l.t.drop (i+1):=List.drop_eq_getElem_cons hlt
   rw[ed]
   have e2:JY (.str l.t[i].v.s) (.int .i64 (IntKind.i64.wrap (Vj m l.t[i].v.s+IntKind.i64.wrap (k*l.t[i].c)))) (Zc m)=Zc (Va l.t[i].v (IntKind.i64.wrap (Vj m l.t[i].v.s+IntKind.i64.wrap (k*l.t[i].c))) m):=by
    unfold JY
    rw[eu]
    rfl
   rw[<- e2]at h
   exact h
theorem Oe(n:Int)(m:List (Str×Int))(l:Lin)(k:Int)(hl:l.t.length<=1000000):
  Zi Qg 2 (Zd 2 VQ fun r=>r=a7x (IntKind.i64.wrap (n+IntKind.i64.wrap (k*l.k))) (Y4 k l.t m)) VP [] (Ym 39 [.ptr 0 0,.pv (enc l),.pv (.int .i64 k)] [.box [.pv (.int .i64 n),.map 1],.map (Zc m)]):=by
 refine a7q n m l k ?_
 have h:=ML (IntKind.i64.wrap (n+IntKind.i64.wrap (k*l.k))) l k hl l.t.length 0 m rfl
 rw[List.drop_zero]at h
 have e:List.length (List.map (enc:Coef->PV) l.t)=l.t.length:=by simp
 rw[e]
 exact h
end Go.Pl

namespace Go.Pl
open Go.RowKit
open Enc (enc dec is)
open EncL (encL decL isL)
set_option maxRecDepth 100000
end Go.Pl

namespace Go.Pl
open Go.RowKit
open Enc (enc dec is)
open EncL (encL decL isL)
end Go.Pl

namespace Go.Pl
open Go.RowKit
open Enc (enc dec is)
open EncL (encL decL isL)
set_option maxRecDepth 100000
end Go.Pl

namespace Go.Pl
open Go.RowKit
open Enc (enc dec is)
open EncL (encL decL isL)
end Go.Pl

namespace Go.Pl
open Go.RowKit
open Enc (enc dec is)
open EncL (encL decL isL)
def ZZ(es:List (PV×PV)):List (Str×Int):=es.map fun p=>(⟨JF p.1⟩,p.2.asInt)
def b1u:PV×PV->Bool
 | (.str _,.int .i64 _)=>true
 | _=>false
def K8(es:List (PV×PV)):Bool:=es.all b1u
theorem Yj(m:List (Str×Int)):ZZ (Zc m)=m:=by
 simp only[ZZ,Zc,List.map_map]
 exact List.map_id _
theorem Ui(m:List (Str×Int)):K8 (Zc m)=true:=by
 simp only[K8,Zc,List.all_map,List.all_eq_true]
 intro p _
 rfl
theorem UR: ∀ {es:List (PV×PV)},K8 es=true-> ∃ m,es=Zc m
 | [],_=>⟨[],rfl⟩
 | (a,b)::es,h=>by
  simp only[K8,List.all_cons,Bool.and_eq_true]at h
  obtain⟨m,rfl⟩:=UR (es:=es) h.2
  match a,b,h.1 with
  | .str s,.int .i64 n,_=>exact⟨(⟨s⟩,n)::m,rfl⟩
def QR(m:List (Str×Int)):Bool:=decide (m.length<1000000)&&(ZR m).all fun x=>decide (x.length<=1000000)
def YH:List AV->List AObj->Bool
 | [.ptr 0 0],[.box [.pv (.int .i64 n),.map 1],.map es]=>K8 es&&QR (ZZ es)
 | _,_=>false
def KC:List AV->List AObj->AV×List AObj×List AObj
 | _,[.box [.pv (.int .i64 n),.map 1],.map es]=>(.pv (enc (Xr n (ZZ es))),[.box [.pv (.int .i64 n),.map 1],.map es],[])
 | _,_=>Wp
def WQ:List AV->List AObj->Bool
 | [.ptr 0 0,.pv l,.pv (.int .i64 k)],[.box [.pv (.int .i64 n),.map 1],.map es]=>K8 es&&FI Lin l&&decide ((dec l:Lin).t.length<=1000000)
 | _,_=>false
def a8a(n:Int)(es:List (PV×PV))(l:Lin)(k:Int):AV×List AObj×List AObj:=(.tup [],[.box [.pv (.int .i64 (Yd (n+Yd (k*l.k)))),.map 1],.map (Zc (Y4 k l.t (ZZ es)))],[])
def KX:List AV->List AObj->AV×List AObj×List AObj
 | [_,.pv l,.pv (.int .i64 k)],[.box [.pv (.int .i64 n),.map 1],.map es]=>a8a n es (dec l) k
 | _,_=>Wp
def YB(a b:Lin)(k:Int):Lin×Int:=if Zh a then(if Zh b then Xr (Yd (Yd (0+Yd (1*a.k))+Yd (k*b.k))) (Y4 k b.t (Y4 1 a.t []))else(⟨0,[]⟩,1))else(⟨0,[]⟩,1)
mutual
def cSm:Cert->Bool
 | .mk _ m l ks=>decide (m.length<=9223372036854775807)&&Zu l&&decide (ks.length<=9223372036854775807)&&MM ks
def MM:List Cert->Bool
 | []=>true
 | c::cs=>cSm c&&MM cs
end
mutual
theorem a8n: ∀ {c:Cert},cSm c=true->cOk c=true
 | .mk k m l ks,h=>by
  simp only[cSm,cOk,Zu,Bool.and_eq_true]at h ⊢
  exact⟨⟨⟨h.1.1.1,h.1.1.2.1⟩,h.1.2⟩,NT h.2⟩
theorem NT: ∀ {cs:List Cert},MM cs=true->LM cs=true
 | [],_=>rfl
 | c::cs,h=>by
  simp only[MM,LM,Bool.and_eq_true]at h ⊢
  exact⟨a8n h.1,NT h.2⟩
end
theorem Ws{s:Str}(h:Zr s=true):s.s.length<=30:=by
 unfold Zr at h
 split at h
 ·cases h
 ·rename_i c r hs
  rw[hs]
  split at h
  ·simp only[Bool.and_eq_true,decide_eq_true_eq]at h
   have:=h.2
   simp only[List.length_cons]
   omega
  ·simp only[Bool.and_eq_true,decide_eq_true_eq]at h
   have:=h.2
   simp only[List.length_cons]
   omega
theorem YR{l:Lin}(h:Zh l=true):l.t.length<=12:=by
 simp only[Zh,Bool.and_eq_true,decide_eq_true_eq]at h
 exact h.2
theorem Yh{l:Lin}(h:Zh l=true){t:Coef}(ht:t∈l.t):Zr t.v=true∧t.c≠0∧ -1000000<=t.c∧t.c<=1000000:=by
 simp only[Zh,Bool.and_eq_true,decide_eq_true_eq,List.all_eq_true]at h
 have:=h.1.1.1 t ht
 simp only[Z7,Bool.and_eq_true,decide_eq_true_eq]at this
 exact⟨this.1.1,this.1.2,this.2⟩
theorem Kr{l:Lin}(h:Zh l=true): -1000000<=l.k∧l.k<=1000000:=by
 simp only[Zh,Z7,Bool.and_eq_true,decide_eq_true_eq]at h
 exact h.1.2
theorem F7{l:Lin}(h:Zh l=true):Zu l=true:=by
 have h1:=YR h
 simp only[Zu,Zz,Bool.and_eq_true,decide_eq_true_eq,List.all_eq_true]
 refine⟨by omega,fun t ht=> ?_⟩
 have:=Ws (Yh h ht).1
 omega
theorem QE(k:Int): ∀ (l:List Coef) (m:List (Str×Int)) (x:List UInt8),x∈ZR (Y4 k l m)->x∈ZR m ∨ ∃ t∈l,t.v.s=x
 | [],m,x,h=>.inl h
 | t::l,m,x,h=>by
  rw[Y4]at h
  rcases QE k l _ x h with h|⟨u,hu,rfl⟩
  ·rcases Us t.v (IntKind.i64.wrap (Vj m t.v.s+IntKind.i64.wrap (k*t.c))) m with e|⟨_,e⟩
   ·rw[e]at h;exact .inl h
   ·rw[e,List.mem_append]at h
    rcases h with h|h
    ·exact .inl h
    ·exact .inr ⟨t,by simp,(List.mem_singleton.1 h).symm⟩
  ·exact .inr ⟨u,by simp[hu],rfl⟩
end Go.Pl

namespace Go.Pl
open Go.RowKit
open Enc (enc dec is)
open EncL (encL decL isL)
theorem VD{n:Int}(h1 : -9223372036854775808<=n)(h2:n<=9223372036854775807):Yd n=n:=Q6 h1 h2
end Go.Pl

namespace Go.Pl
open Go.RowKit
open Enc (enc dec is)
open EncL (encL decL isL)
theorem a4j: ∀ args os,WQ args os=true->Zi Qg os.length (Zd os.length VQ fun r=>r=KX args os) VP [] (Ym a4a args os):=by
 intro args os h
 unfold WQ at h
 split at h
 ·rename_i l k n es
  simp only[Bool.and_eq_true,decide_eq_true_eq]at h
  obtain⟨⟨h1,h2⟩,h3⟩:=h
  obtain⟨m,rfl⟩:=UR h1
  obtain⟨l,rfl⟩:=Bo h2
  rw[Enc.dec_enc]at h3
  have hv:KX [.ptr 0 0,.pv (enc l),.pv (.int .i64 k)] [.box [.pv (.int .i64 n),.map 1],.map (Zc m)]=a7x (IntKind.i64.wrap (n+IntKind.i64.wrap (k*l.k))) (Y4 k l.t m):=by
   show a8a n (Zc m) (dec (enc l)) k=_
   rw[Enc.dec_enc,a8a,Yj]
   rfl
  rw[hv]
  exact Oe n m l k h3
 ·cases h
theorem Ac: ∀ m:List (Str×Int),kz (Zc m)=ZR (nzM m)
 | []=>rfl
 | (s,c)::m=>by
  have ih:=Ac m
  simp only[kz,Zc,ZR,nzM]at ih ⊢
  by_cases h:c=0
  ·subst h
   simp[ih]
  ·simp[h,ih]
theorem JP(m:List (Str×Int)):Zw m (XB m)=YE m:=by
 unfold Zw XB YE
 rw[Ac]
 rfl
def V9:List AV->List AObj->AV×List AObj×List AObj
 | _,[.box [.pv (.int .i64 n),.map 1],.map es]=>KT n (ZZ es) (YE (ZZ es))
 | _,_=>Wp
theorem a2c: ∀ args os,YH args os=true->QS YT Bj os.length (Zd os.length YG fun r=>r=V9 args os) Yy [] (Ym a4z args os):=by
 intro args os h
 unfold YH at h
 split at h
 ·rename_i n es
  simp only[Bool.and_eq_true,QR,decide_eq_true_eq,List.all_eq_true]at h
  obtain⟨h1,h2,h3⟩:=h
  obtain⟨m,rfl⟩:=UR h1
  rw[Yj]at h2 h3
  have hv:V9 [.ptr 0 0] [.box [.pv (.int .i64 n),.map 1],.map (Zc m)]=KT n m (Zw m (XB m)):=by
   show KT n (ZZ (Zc m)) (YE (ZZ (Zc m)))=_
   rw[Yj,JP]
  rw[hv]
  refine Em n m h2 fun x hx=>h3 x ?_
  have hx:x∈kz (Zc m):=(List.mergeSort_perm _ _).mem_iff.1 hx
  rw[Ac]at hx
  obtain⟨p,hp,rfl⟩:=List.mem_map.1 hx
  exact List.mem_map.2 ⟨p,(List.mem_filter.1 hp).1,rfl⟩
 ·cases h
theorem a1m: ∀ args os,YH args os=true->(V9 args os).2.1.length=os.length:=by
 intro args os h
 unfold YH at h
 split at h
 ·show(KT _ _ _).2.1.length=_
  unfold KT
  split
  ·split <;> rfl
  ·rfl
 ·cases h
theorem QJ(n c:Int):Sub (.tup [.agg [.int .i64 n,.sl 0 true []],.int .i64 c]) (enc (((⟨n,[]⟩:Lin),c):Lin×Int)):=.pair (.agg_cons (.refl _) (.agg_cons (Sub.sl0 _ _ _) .agg_nil)) (.refl _)
theorem a5p{P:Program}{f:Nat}(h:ZY P f YH V9):ZY P f YH KC:=by
 refine h.frz fun args os hp=> ?_
 unfold YH at hp
 split at hp
 ·rename_i n es
  have hv:V9 [.ptr 0 0] [.box [.pv (.int .i64 n),.map 1],.map es]=KT n (ZZ es) (YE (ZZ es)):=rfl
  have hv':KC [.ptr 0 0] [.box [.pv (.int .i64 n),.map 1],.map es]=(.pv (enc (Xr n (ZZ es))),[.box [.pv (.int .i64 n),.map 1],.map es],[]):=rfl
  simp only[Bool.and_eq_true]at hp
  obtain⟨m,rfl⟩:=UR hp.1
  rw[hv,hv',Yj]
  unfold KT Xr
  generalize YE m=l
  by_cases hl:Zh ⟨n,l⟩=true
  ·rw[if_pos hl,if_pos hl]
   by_cases hz:l.isEmpty=true
   ·rw[if_pos hz]
    obtain rfl:l=[]:=by simpa using hz
    exact⟨_,_,_,_,_,_,_,_,rfl,rfl,rfl,QJ n 0,rfl⟩
   ·rw[if_neg hz]
    refine⟨_,_,_,.tup [.agg [.int .i64 n,.sl 2 false (l.map enc)],.int .i64 0],[.obj (.box [.pv (.int .i64 n),.map 1]),.obj (.map (Zc m)),.obj (.row true 61 2 (l.map enc))],_,_,_,rfl,?_,rfl,.refl _,rfl⟩
    have e:List.drop 0 (List.take l.length (List.map (enc:Coef->PV) l))=l.map enc:=by rw[List.drop_zero,List.take_of_length_le (by simp)]
    simp only[frz,Ug,HM.run_bind,Yi,List.map_cons,List.map_nil,List.cons_append,List.nil_append]
    simp[HM.run,HM.req]
    exact List.take_of_length_le (by simp)
  ·rw[if_neg hl,if_neg hl]
   exact⟨_,_,_,_,_,_,_,_,rfl,rfl,rfl,QJ 0 3,rfl⟩
 ·cases hp
end Go.Pl

namespace Go.Pl
open Go.RowKit
open Enc (enc dec is)
open EncL (encL decL isL)
set_option maxRecDepth 100000
end Go.Pl

namespace Go.Pl
open Go.RowKit
open Enc (enc dec is)
open EncL (encL decL isL)
end Go.Pl

namespace Go.Pl
open Go.RowKit
open Enc (enc dec is)
open EncL (encL decL isL)
set_option maxRecDepth 100000
def QZ:IC:=(.seq (.reg [⟨(some 3),(.box 2 (.t 0)),0,none⟩,⟨(some 4),(.box 2 (.t 1)),1,none⟩,⟨(some 6),(.alloc (.agg [(.int .i64 0),(.sl 0 true [])])),2,none⟩,⟨(some 7),(.mv (.c (.int .i64 0))),3,none⟩] none) (.seq (.seq (.reg [⟨(some 9),(.load true [(.int .i64),(.sl 2)] (.t 3)),0,none⟩,⟨(some 10),(.call (.c (.fn 73)) [(.t 9)]),0,none⟩,⟨(some 11),(.un .not (.t 10)),2,none⟩,⟨(some 12),(.mv (.t 11)),2,none⟩,⟨(some 13),(.load true [(.int .i64),(.sl 2)] (.t 4)),2,(some (12,false))⟩,⟨(some 14),(.call (.c (.fn 73)) [(.t 13)]),2,(some (12,false))⟩,⟨(some 15),(.un .not (.t 14)),4,(some (12,false))⟩,⟨(some 16),(.pick (.t 12) (.c (.bool true)) (.t 15)),4,none⟩] none) (.cond (.t 16) (.seq (.reg [⟨(some 17),(.build [(.int .i64 0),(.sl 0 true [])] []),0,none⟩,⟨none,(.store 2 (.t 6) (.t 17)),0,none⟩,⟨(some 7),(.mv (.c (.int .i64 1))),0,none⟩] none) .ret) .skip)) (.seq (.reg [⟨(some 18),.mkmap,0,none⟩,⟨(some 19),(.build [(.int .i64 0),.nilmap] [(1,(1,(.t 18)))]),1,none⟩,⟨(some 8),(.alloc (.agg [(.int .i64 0),.nilmap])),1,none⟩,⟨none,(.store 2 (.t 8) (.t 19)),2,none⟩] none) (.seq (.reg [⟨(some 20),(.load true [(.int .i64),(.sl 2)] (.t 3)),0,none⟩,⟨(some 21),(.call (.c (.fn 114)) [(.t 8),(.t 20),(.c (.int .i64 1))]),0,none⟩] none) (.seq (.reg [⟨(some 22),(.load true [(.int .i64),(.sl 2)] (.t 4)),0,none⟩,⟨(some 23),(.mv (.t 2)),0,none⟩,⟨(some 24),(.call (.c (.fn 114)) [(.t 8),(.t 22),(.t 23)]),0,none⟩] none) (.seq (.reg [⟨(some 25),(.call (.c (.fn 82)) [(.t 8)]),0,none⟩,⟨(some 26),(.extract (.t 25) 0),2,none⟩,⟨(some 27),(.extract (.t 25) 1),2,none⟩,⟨none,(.store 2 (.t 6) (.t 26)),2,none⟩,⟨(some 7),(.mv (.t 27)),2,none⟩] none) .ret))))))
def Ka:List IRes:=[(.cell true 2 6),(.tmp 7)]
abbrev Pn:Nat:=28
def Jv:ZJ:=WI [(73,.pure (preT (fun x:Lin×Unit=>Zu x.1)) (Zk (fun x:Lin×Unit=>Zh x.1))),(114,.own WQ KX),(82,.own YH KC)]
theorem MI{G:PV->Prop}(a b:Lin)(k:Int)(h:(Go.Pl.preT (fun(x:Lin×Unit)=>Zu x.1) [(.agg [(.int .i64 a.k),(.sl 2 false (List.map enc a.t))])])=true∧(∃ y0:Bool,AV.pv (Zk (fun(x:Lin×Unit)=>Zh x.1) [(.agg [(.int .i64 a.k),(.sl 2 false (List.map enc a.t))])])=AV.pv (enc y0)∧(if (!y0)=true then G ((.tup [(.agg [(.int .i64 0),(.sl 0 true [])]),(.int .i64 1)]))else((Go.Pl.preT (fun(x:Lin×Unit)=>Zu x.1) [(.agg [(.int .i64 b.k),(.sl 2 false (List.map enc b.t))])])=true∧(∃ y1:Bool,AV.pv (Zk (fun(x:Lin×Unit)=>Zh x.1) [(.agg [(.int .i64 b.k),(.sl 2 false (List.map enc b.t))])])=AV.pv (enc y1)∧(if (!y1)=true then G ((.tup [(.agg [(.int .i64 0),(.sl 0 true [])]),(.int .i64 1)]))else((WQ [(.ptr 0 0),(.pv (.agg [(.int .i64 a.k),(.sl 2 false (List.map enc a.t))])),(.pv (.int .i64 1))] [(.box [(.pv (.int .i64 0)),(.map 1)]),(.map [])])=true∧((WQ [(.ptr 0 0),(.pv (.agg [(.int .i64 b.k),(.sl 2 false (List.map enc b.t))])),(.pv (.int .i64 k))] [(.box [(.pv (.int .i64 (Yd (0+Yd (1*Lin.k (dec (PV.agg [enc a.k,enc a.t]))))))),(.map 1)]),(.map (Zc (Y4 1 (Lin.t (dec (PV.agg [enc a.k,enc a.t]))) (ZZ []))))])=true∧((YH [(.ptr 0 0)] [(.box [(.pv (.int .i64 (Yd (Yd (0+Yd (1*Lin.k (dec (PV.agg [enc a.k,enc a.t]))))+Yd (k*Lin.k (dec (PV.agg [enc b.k,enc b.t]))))))),(.map 1)]),(.map (Zc (Y4 k (Lin.t (dec (PV.agg [enc b.k,enc b.t]))) (ZZ (Zc (Y4 1 (Lin.t (dec (PV.agg [enc a.k,enc a.t]))) (ZZ [])))))))])=true∧(G ((.tup [(.agg [(.int .i64 (Lin.k (Prod.fst (Xr (Yd (Yd (0+Yd (1*Lin.k (dec (PV.agg [enc a.k,enc a.t]))))+Yd (k*Lin.k (dec (PV.agg [enc b.k,enc b.t]))))) (ZZ (Zc (Y4 k (Lin.t (dec (PV.agg [enc b.k,enc b.t]))) (ZZ (Zc (Y4 1 (Lin.t (dec (PV.agg [enc a.k,enc a.t]))) (ZZ []))))))))))),(.sl 2 false (List.map enc (Lin.t (Prod.fst (Xr (Yd (Yd (0+Yd (1*Lin.k (dec (PV.agg [enc a.k,enc a.t]))))+Yd (k*Lin.k (dec (PV.agg [enc b.k,enc b.t]))))) (ZZ (Zc (Y4 k (Lin.t (dec (PV.agg [enc b.k,enc b.t]))) (ZZ (Zc (Y4 1 (Lin.t (dec (PV.agg [enc a.k,enc a.t]))) (ZZ []))))))))))))]),(.int .i64 (Prod.snd (Xr (Yd (Yd (0+Yd (1*Lin.k (dec (PV.agg [enc a.k,enc a.t]))))+Yd (k*Lin.k (dec (PV.agg [enc b.k,enc b.t]))))) (ZZ (Zc (Y4 k (Lin.t (dec (PV.agg [enc b.k,enc b.t]))) (ZZ (Zc (Y4 1 (Lin.t (dec (PV.agg [enc a.k,enc a.t]))) (ZZ []))))))))))])))))))))))):Zi Jv 0 (Ze Ka G) QZ [] (Xz 28 [enc a,enc b,enc k]):=Zi.tp (.req (.abs (Bool) (fun YY=>AV.pv (enc YY)) (.ask (.lit (.lit (.lit (.lit (.nil))))) (.lit (.req (.abs (Bool) (fun YY=>AV.pv (enc YY)) (.lit (.lit (.ask (.nil) (.req (.keep (.req (.keep (.req (.keep (.nil)))))))))))))))) h (by kernel_rfl)
def Da:IC:=(.seq (.reg [⟨(some 2),(.box 2 (.t 0)),0,none⟩,⟨(some 3),(.box 2 (.t 1)),1,none⟩,⟨(some 4),(.alloc (.agg [(.int .i64 0),(.sl 0 true [])])),2,none⟩,⟨(some 5),(.mv (.c (.int .i64 0))),3,none⟩] none) (.seq (.reg [⟨(some 6),(.load true [(.int .i64),(.sl 2)] (.t 2)),0,none⟩,⟨(some 7),(.load true [(.int .i64),(.sl 2)] (.t 3)),0,none⟩,⟨(some 8),(.call (.c (.fn 111)) [(.t 6),(.t 7),(.c (.int .i64 1))]),0,none⟩,⟨(some 9),(.extract (.t 8) 0),2,none⟩,⟨(some 10),(.extract (.t 8) 1),2,none⟩,⟨none,(.store 2 (.t 4) (.t 9)),2,none⟩,⟨(some 5),(.mv (.t 10)),2,none⟩] none) .ret))
def Dh:List IRes:=[(.cell true 2 4),(.tmp 5)]
abbrev a1i:Nat:=11
def Bn:ZJ:=WI [(111,.pure (preT (fun x:Lin×Lin×Int×Unit=>Zu x.1&&Zu x.2.1)) (Zk (fun x:Lin×Lin×Int×Unit=>YB x.1 x.2.1 x.2.2.1)))]
theorem a2z{G:PV->Prop}(a b:Lin)(h:(Go.Pl.preT (fun(x:Lin×Lin×Int×Unit)=>Zu x.1&&Zu x.2.1) [(.agg [(.int .i64 a.k),(.sl 2 false (List.map enc a.t))]),(.agg [(.int .i64 b.k),(.sl 2 false (List.map enc b.t))]),(.int .i64 1)])=true∧(∃ y0:Lin×Int,AV.pv (Zk (fun(x:Lin×Lin×Int×Unit)=>YB x.1 x.2.1 x.2.2.1) [(.agg [(.int .i64 a.k),(.sl 2 false (List.map enc a.t))]),(.agg [(.int .i64 b.k),(.sl 2 false (List.map enc b.t))]),(.int .i64 1)])=AV.pv (enc y0)∧(G ((.tup [(.agg [(.int .i64 y0.1.k),(.sl 2 false (List.map enc y0.1.t))]),(.int .i64 y0.2)]))))):Zi Bn 0 (Ze Dh G) Da [] (Xz 11 [enc a,enc b]):=Zi.tp (.req (.abs (Lin×Int) (fun YY=>AV.pv (enc YY)) (.nil))) h (by kernel_rfl)
end Go.Pl

namespace Go.Pl
open Go.RowKit
open Enc (enc dec is)
open EncL (encL decL isL)
theorem a5s(k:Int){a b:Lin}(ha:Zh a=true)(hb:Zh b=true):QR (Y4 k b.t (Y4 1 a.t []))=true:=by
 have h1:=YR ha
 have h2:=YR hb
 have h3:=KY k b.t (Y4 1 a.t [])
 have h4:=KY 1 a.t []
 simp only[QR,Bool.and_eq_true,decide_eq_true_eq,List.all_eq_true]
 have hz:([]:List (Str×Int)).length=0:=rfl
 refine⟨by omega,fun x hx=> ?_⟩
 rcases QE _ _ _ _ hx with hx|⟨t,ht,rfl⟩
 ·rcases QE _ _ _ _ hx with hx|⟨t,ht,rfl⟩
  ·cases hx
  ·have:=Ws (Yh ha ht).1;omega
 ·have:=Ws (Yh hb ht).1;omega
theorem PX(a:Lin):(dec (PV.agg [enc a.k,enc a.t]):Lin)=a:=Enc.dec_enc a
theorem Ri: ∀ a:Lin×Lin×Int×Unit,(Zu a.1&&Zu a.2.1)=true->Zi Jv 0 (Ze Ka (ZI (YB a.1 a.2.1 a.2.2.1))) QZ [] (Xz Pn (encL a)):=by
 rintro⟨a,b,k,⟨⟩⟩ h
 simp only[Bool.and_eq_true]at h
 refine MI a b k ⟨Zo (a,()) rfl h.1,Zl (a,()) rfl (Ww (fun ha=> ?_) fun ha=>⟨Zo (b,()) rfl h.2,Zl (b,()) rfl (Ww (fun hb=> ?_) fun hb=> ?_)⟩)⟩
 ·have ha:Zh a=false:=ha
  simp only[YB,ha]
  exact⟨rfl,rfl⟩
 ·have ha:Zh a=true:=ha
  have hb:Zh b=false:=hb
  simp only[YB,ha,hb]
  exact⟨rfl,rfl⟩
 have ha:Zh a=true:=ha
 have hb:Zh b=true:=hb
 have h1:=YR ha
 have h2:=YR hb
 have e0:ZZ []=[]:=rfl
 simp only[PX,Yj,e0]
 have c1:FI Lin (PV.agg [PV.int .i64 a.k,PV.sl 2 false (List.map enc a.t)])=true:=QG a
 have c2:FI Lin (PV.agg [PV.int .i64 b.k,PV.sl 2 false (List.map enc b.t)])=true:=QG b
 have d1:(dec (PV.agg [PV.int .i64 a.k,PV.sl 2 false (List.map enc a.t)]):Lin)=a:=Enc.dec_enc a
 have d2:(dec (PV.agg [PV.int .i64 b.k,PV.sl 2 false (List.map enc b.t)]):Lin)=b:=Enc.dec_enc b
 refine⟨?_,?_,?_,?_⟩
 ·simp only[WQ,c1,d1]
  simp[K8];omega
 ·simp only[WQ,c2,d2,Ui]
  simp;omega
 ·simp only[YH,Ui,Yj,a5s k ha hb]
  rfl
 ·simp only[YB,ha,hb,if_true]
  exact Yx rfl
theorem Fu: ∀ a:Lin×Lin×Unit,(Zu a.1&&Zu a.2.1)=true->Zi Bn 0 (Ze Dh (ZI (YB a.1 a.2.1 1))) Da [] (Xz a1i (encL a)):=by
 rintro⟨a,b,⟨⟩⟩ h
 exact a2z a b ⟨Zo (a,b,1,()) rfl h,Zl (a,b,1,()) rfl (Yx rfl)⟩
end Go.Pl

namespace Go.Pl
open Go.RowKit
open Enc (enc dec is)
open EncL (encL decL isL)
mutual
def PK:Cert->Int->Bool
 | .mk _ m l ks,n=> !decide ((m.length:Int)>60)&&(BV l 8&&(!decide (n<1)&&(!decide ((ks.length:Int)>n)&&Hr ks n)))
def Hr:List Cert->Int->Bool
 | [],_=>true
 | c::cs,n=>PK c (Yd (n - 1))&&Hr cs (Yd (n - Dj c))
end
end Go.Pl

namespace Go.Pl
open Go.RowKit
open Enc (enc dec is)
open EncL (encL decL isL)
set_option maxRecDepth 100000
end Go.Pl

namespace Go.Pl
open Go.RowKit
open Enc (enc dec is)
open EncL (encL decL isL)
set_option maxRecDepth 100000
def HV:IC:=(.seq (.reg [⟨(some 2),(.mv (.c (.bool false))),0,none⟩] none) (.seq (.reg [⟨(some 3),(.mv (.t 0)),0,none⟩,⟨(some 4),(.bin .num .geq (.t 3) (.c (.int .u8 48))),0,none⟩,⟨(some 5),(.mv (.t 4)),0,none⟩,⟨(some 6),(.mv (.t 0)),0,(some (5,true))⟩,⟨(some 7),(.bin .num .leq (.t 6) (.c (.int .u8 57))),0,(some (5,true))⟩,⟨(some 8),(.pick (.t 5) (.t 7) (.c (.bool false))),0,none⟩,⟨(some 2),(.mv (.t 8)),0,none⟩] none) .ret))
def BG:List IRes:=[(.tmp 2)]
abbrev a5k:Nat:=9
def P5:ZJ:=WI []
theorem a9e{G:PV->Prop}(c:UInt8)(h:if (decide ((↑(UInt8.toNat c):Int) ≥ 48))=true then G ((.bool (decide ((↑(UInt8.toNat c):Int)<=57))))else(G ((.bool false)))):Zi P5 0 (Ze BG G) HV [] (Xz 9 [enc c]):=Zi.tp (.lit (.ask (.lit (.lit (.lit (.nil)))) (.lit (.lit (.nil))))) h (by kernel_rfl)
def BX:IC:=(.seq (.reg [⟨(some 2),(.mv (.c (.bool false))),0,none⟩] none) (.seq (.reg [⟨(some 3),(.mv (.t 0)),0,none⟩,⟨(some 4),(.bin .num .geq (.t 3) (.c (.int .u8 97))),0,none⟩,⟨(some 5),(.mv (.t 4)),0,none⟩,⟨(some 6),(.mv (.t 0)),0,(some (5,true))⟩,⟨(some 7),(.bin .num .leq (.t 6) (.c (.int .u8 122))),0,(some (5,true))⟩,⟨(some 8),(.pick (.t 5) (.t 7) (.c (.bool false))),0,none⟩,⟨(some 2),(.mv (.t 8)),0,none⟩] none) .ret))
def Bp:List IRes:=[(.tmp 2)]
abbrev a5i:Nat:=9
def PM:ZJ:=WI []
theorem a8p{G:PV->Prop}(c:UInt8)(h:if (decide ((↑(UInt8.toNat c):Int) ≥ 97))=true then G ((.bool (decide ((↑(UInt8.toNat c):Int)<=122))))else(G ((.bool false)))):Zi PM 0 (Ze Bp G) BX [] (Xz 9 [enc c]):=Zi.tp (.lit (.ask (.lit (.lit (.lit (.nil)))) (.lit (.lit (.nil))))) h (by kernel_rfl)
def Qr:IC:=(.seq (.reg [⟨(some 2),(.mv (.c (.bool false))),0,none⟩] none) (.seq (.reg [⟨(some 3),(.mv (.t 0)),0,none⟩,⟨(some 4),(.bin .num .geq (.t 3) (.c (.int .i64 (-1000000)))),0,none⟩,⟨(some 5),(.mv (.t 4)),0,none⟩,⟨(some 6),(.mv (.t 0)),0,(some (5,true))⟩,⟨(some 7),(.bin .num .leq (.t 6) (.c (.int .i64 1000000))),0,(some (5,true))⟩,⟨(some 8),(.pick (.t 5) (.t 7) (.c (.bool false))),0,none⟩,⟨(some 2),(.mv (.t 8)),0,none⟩] none) .ret))
def K9:List IRes:=[(.tmp 2)]
abbrev Li:Nat:=9
def Gz:ZJ:=WI []
theorem Og{G:PV->Prop}(n:Int)(h:if (decide (n ≥ (-1000000:Int)))=true then G ((.bool (decide (n<=1000000))))else(G ((.bool false)))):Zi Gz 0 (Ze K9 G) Qr [] (Xz 9 [enc n]):=Zi.tp (.lit (.ask (.lit (.lit (.lit (.nil)))) (.lit (.lit (.nil))))) h (by kernel_rfl)
def Pq:IC:=Qr
def RX:List IRes:=[(.tmp 2)]
abbrev a7a:Nat:=9
def F6:ZJ:=WI []
theorem a9r{G:PV->Prop}(n:Int)(h:if (decide (n ≥ (-1000000:Int)))=true then G ((.bool (decide (n<=1000000))))else(G ((.bool false)))):Zi F6 0 (Ze RX G) Pq [] (Xz 9 [enc n]):=Zi.tp (.lit (.ask (.lit (.lit (.lit (.nil)))) (.lit (.lit (.nil))))) h (by kernel_rfl)
def Bt:IC:=HV
def Ae:List IRes:=[(.tmp 2)]
abbrev a5v:Nat:=9
def Pb:ZJ:=WI []
theorem a7n{G:PV->Prop}(c:UInt8)(h:if (decide ((↑(UInt8.toNat c):Int) ≥ 48))=true then G ((.bool (decide ((↑(UInt8.toNat c):Int)<=57))))else(G ((.bool false)))):Zi Pb 0 (Ze Ae G) Bt [] (Xz 9 [enc c]):=Zi.tp (.lit (.ask (.lit (.lit (.lit (.nil)))) (.lit (.lit (.nil))))) h (by kernel_rfl)
def Xa:IC:=(.seq (.reg [⟨(some 2),(.mv (.c (.bool false))),0,none⟩] none) (.seq (.seq (.reg [⟨(some 5),(.mv (.t 0)),0,none⟩,⟨(some 6),(.len 0 (.t 5)),0,none⟩,⟨(some 7),(.bin .num .eql (.t 6) (.c (.int .i64 0))),0,none⟩,⟨(some 8),(.mv (.t 7)),0,none⟩,⟨(some 9),(.mv (.t 0)),0,(some (8,false))⟩,⟨(some 10),(.len 0 (.t 9)),0,(some (8,false))⟩,⟨(some 11),(.bin .num .gtr (.t 10) (.c (.int .i64 30))),0,(some (8,false))⟩,⟨(some 12),(.pick (.t 8) (.c (.bool true)) (.t 11)),0,none⟩] none) (.cond (.t 12) (.seq (.reg [⟨(some 2),(.mv (.c (.bool false))),0,none⟩] none) .ret) .skip)) (.seq (.seq (.reg [⟨(some 13),(.mv (.t 0)),0,none⟩,⟨(some 14),(.index (.t 13) (.c (.int .i64 0))),0,none⟩,⟨(some 15),(.bin .num .eql (.t 14) (.c (.int .u8 95))),0,none⟩] none) (.cond (.t 15) (.seq (.seq (.reg [⟨(some 16),(.mv (.t 0)),0,none⟩,⟨(some 17),(.len 0 (.t 16)),0,none⟩,⟨(some 18),(.bin .num .lss (.t 17) (.c (.int .i64 2))),0,none⟩,⟨(some 19),(.mv (.t 18)),0,none⟩,⟨(some 20),(.mv (.t 0)),0,(some (19,false))⟩,⟨(some 21),(.len 0 (.t 20)),0,(some (19,false))⟩,⟨(some 22),(.bin .num .gtr (.t 21) (.c (.int .i64 10))),0,(some (19,false))⟩,⟨(some 23),(.pick (.t 19) (.c (.bool true)) (.t 22)),0,none⟩,⟨(some 24),(.mv (.t 23)),0,none⟩,⟨(some 25),(.mv (.t 0)),0,(some (24,false))⟩,⟨(some 26),(.index (.t 25) (.c (.int .i64 1))),0,(some (24,false))⟩,⟨(some 27),(.bin .num .eql (.t 26) (.c (.int .u8 48))),0,(some (24,false))⟩,⟨(some 28),(.pick (.t 24) (.c (.bool true)) (.t 27)),0,none⟩] none) (.cond (.t 28) (.seq (.reg [⟨(some 2),(.mv (.c (.bool false))),0,none⟩] none) .ret) .skip)) (.seq (.seq (.reg [⟨(some 3),(.mv (.c (.int .i64 1))),0,none⟩] none) (.block 0 (.loop [3,0] (.seq (.seq (.reg [⟨(some 29),(.mv (.t 3)),0,none⟩,⟨(some 30),(.mv (.t 0)),0,none⟩,⟨(some 31),(.len 0 (.t 30)),0,none⟩,⟨(some 32),(.bin .num .lss (.t 29) (.t 31)),0,none⟩] none) (.cond (.t 32) .skip (.exit 0))) (.seq (.block 1 (.seq (.reg [⟨(some 35),(.mv (.t 0)),0,none⟩,⟨(some 36),(.mv (.t 3)),0,none⟩,⟨(some 37),(.index (.t 35) (.t 36)),0,none⟩,⟨(some 38),(.call (.c (.fn 155)) [(.t 37)]),0,none⟩,⟨(some 39),(.un .not (.t 38)),2,none⟩] none) (.cond (.t 39) (.seq (.reg [⟨(some 2),(.mv (.c (.bool false))),0,none⟩] none) .ret) .skip))) (.reg [⟨(some 33),(.mv (.t 3)),0,none⟩,⟨(some 34),(.bin .num .add (.t 33) (.c (.int .i64 1))),0,none⟩,⟨(some 3),(.mv (.t 34)),0,none⟩] none)))))) (.seq (.reg [⟨(some 2),(.mv (.c (.bool true))),0,none⟩] none) .ret))) .skip)) (.seq (.seq (.reg [⟨(some 4),(.mv (.c (.int .i64 0))),0,none⟩] none) (.block 2 (.loop [4,0] (.seq (.seq (.reg [⟨(some 40),(.mv (.t 4)),0,none⟩,⟨(some 41),(.mv (.t 0)),0,none⟩,⟨(some 42),(.len 0 (.t 41)),0,none⟩,⟨(some 43),(.bin .num .lss (.t 40) (.t 42)),0,none⟩] none) (.cond (.t 43) .skip (.exit 2))) (.seq (.block 3 (.seq (.reg [⟨(some 46),(.mv (.t 0)),0,none⟩,⟨(some 47),(.mv (.t 4)),0,none⟩,⟨(some 48),(.index (.t 46) (.t 47)),0,none⟩,⟨(some 49),(.call (.c (.fn 156)) [(.t 48)]),0,none⟩,⟨(some 50),(.un .not (.t 49)),2,none⟩,⟨(some 51),(.mv (.t 50)),2,none⟩,⟨(some 52),(.mv (.t 4)),2,(some (51,true))⟩,⟨(some 53),(.bin .num .eql (.t 52) (.c (.int .i64 0))),2,(some (51,true))⟩,⟨(some 54),(.mv (.t 53)),2,(some (51,true))⟩,⟨(some 55),(.mv (.t 0)),2,(some (54,false))⟩,⟨(some 56),(.mv (.t 4)),2,(some (54,false))⟩,⟨(some 57),(.index (.t 55) (.t 56)),2,(some (54,false))⟩,⟨(some 58),(.call (.c (.fn 155)) [(.t 57)]),2,(some (54,false))⟩,⟨(some 59),(.un .not (.t 58)),4,(some (54,false))⟩,⟨(some 60),(.pick (.t 54) (.c (.bool true)) (.t 59)),4,(some (51,true))⟩,⟨(some 61),(.pick (.t 51) (.t 60) (.c (.bool false))),4,none⟩] none) (.cond (.t 61) (.seq (.reg [⟨(some 2),(.mv (.c (.bool false))),0,none⟩] none) .ret) .skip))) (.reg [⟨(some 44),(.mv (.t 4)),0,none⟩,⟨(some 45),(.bin .num .add (.t 44) (.c (.int .i64 1))),0,none⟩,⟨(some 4),(.mv (.t 45)),0,none⟩] none)))))) (.seq (.reg [⟨(some 2),(.mv (.c (.bool true))),0,none⟩] none) .ret)))))
def Y6:List IRes:=[(.tmp 2)]
abbrev a1r:Nat:=62
def XN:ZJ:=WI [(155,.pure (preT (fun _:UInt8×Unit=>true)) (Zk (fun x:UInt8×Unit=>Zj x.1))),(156,.pure (preT (fun _:UInt8×Unit=>true)) (Zk (fun x:UInt8×Unit=>ZT x.1)))]
theorem a3s{G:PV->Prop}(s:List UInt8)(h:if ((↑(List.length s):Int)==0)=true then G ((.bool false))else(if (decide ((↑(List.length s):Int)>30))=true then G ((.bool false))else((decide (0<=0)&&decide (Int.toNat 0<List.length s))=true∧(if ((↑(UInt8.toNat (List.getD s (Int.toNat 0) (0:UInt8))):Int)==95)=true then if (decide ((↑(List.length s):Int)<2))=true then G ((.bool false))else(if (decide ((↑(List.length s):Int)>10))=true then G ((.bool false))else((decide (0<=1)&&decide (Int.toNat 1<List.length s))=true∧(if ((↑(UInt8.toNat (List.getD s (Int.toNat 1) (0:UInt8))):Int)==48)=true then G ((.bool false))else(At XN 0 (Ze Y6 G) Xa 0 62 [(0,(.pv (.str s))),(3,(.pv (.int .i64 1)))] []))))else(At XN 0 (Ze Y6 G) Xa 1 62 [(0,(.pv (.str s))),(4,(.pv (.int .i64 0)))] []))))):Zi XN 0 (Ze Y6 G) Xa [] (Xz 62 [.str s]):=Zi.tp (.lit (.ask (.lit (.lit (.lit (.lit (.nil))))) (.lit (.lit (.lit (.lit (.ask (.nil) (.req (.lit (.ask (.lit (.ask (.lit (.lit (.lit (.lit (.lit (.lit (.lit (.lit (.nil))))))))) (.lit (.lit (.lit (.lit (.ask (.lit (.lit (.lit (.lit (.nil))))) (.lit (.req (.lit (.lit (.lit (.ask (.nil) (.nil)))))))))))))) (.nil))))))))))) h (by kernel_rfl)
theorem Sr{G:PV->Prop}(s:List UInt8)(i:Int)(h:if (decide (i<(↑(List.length s):Int)))=true then(decide (0<=i)&&decide (Int.toNat i<List.length s))=true∧((Go.Pl.preT (fun(x:UInt8×Unit)=>true) [(.int IntKind.u8 (↑(UInt8.toNat (List.getD s (Int.toNat i) (0:UInt8))):Int))])=true∧(∃ y0:Bool,AV.pv (Zk (fun(x:UInt8×Unit)=>Zj x.1) [(.int IntKind.u8 (↑(UInt8.toNat (List.getD s (Int.toNat i) (0:UInt8))):Int))])=AV.pv (enc y0)∧(if (!y0)=true then G ((.bool false))else(At XN 0 (Ze Y6 G) Xa 0 62 [(0,(.pv (.str s))),(3,(.pv (.int .i64 (IntKind.wrap IntKind.i64 (i+1)))))] []))))else(G ((.bool true)))):At XN 0 (Ze Y6 G) Xa 0 62 [(0,.pv (.str s)),(3,.pv (.int .i64 i))] []:=At.tp (.lit (.ask (.req (.req (.abs (Bool) (fun YY=>AV.pv (enc YY)) (.ask (.nil) (.lit (.nil)))))) (.nil))) h (by kernel_rfl)
theorem Db{G:PV->Prop}(s:List UInt8)(i:Int)(h:if (decide (i<(↑(List.length s):Int)))=true then(decide (0<=i)&&decide (Int.toNat i<List.length s))=true∧((Go.Pl.preT (fun(x:UInt8×Unit)=>true) [(.int IntKind.u8 (↑(UInt8.toNat (List.getD s (Int.toNat i) (0:UInt8))):Int))])=true∧(∃ y0:Bool,AV.pv (Zk (fun(x:UInt8×Unit)=>ZT x.1) [(.int IntKind.u8 (↑(UInt8.toNat (List.getD s (Int.toNat i) (0:UInt8))):Int))])=AV.pv (enc y0)∧(if (!y0)=true then if (i==0)=true then G ((.bool false))else((decide (0<=i)&&decide (Int.toNat i<List.length s))=true∧((Go.Pl.preT (fun(x:UInt8×Unit)=>true) [(.int IntKind.u8 (↑(UInt8.toNat (List.getD s (Int.toNat i) (0:UInt8))):Int))])=true∧(∃ y1:Bool,AV.pv (Zk (fun(x:UInt8×Unit)=>Zj x.1) [(.int IntKind.u8 (↑(UInt8.toNat (List.getD s (Int.toNat i) (0:UInt8))):Int))])=AV.pv (enc y1)∧(if (!y1)=true then G ((.bool false))else(At XN 0 (Ze Y6 G) Xa 1 62 [(0,(.pv (.str s))),(4,(.pv (.int .i64 (IntKind.wrap IntKind.i64 (i+1)))))] [])))))else(At XN 0 (Ze Y6 G) Xa 1 62 [(0,(.pv (.str s))),(4,(.pv (.int .i64 (IntKind.wrap IntKind.i64 (i+1)))))] []))))else(G ((.bool true)))):At XN 0 (Ze Y6 G) Xa 1 62 [(0,.pv (.str s)),(4,.pv (.int .i64 i))] []:=At.tp (.lit (.ask (.req (.req (.abs (Bool) (fun YY=>AV.pv (enc YY)) (.ask (.lit (.lit (.lit (.ask (.lit (.lit (.lit (.lit (.lit (.lit (.lit (.lit (.nil))))))))) (.lit (.lit (.req (.lit (.req (.abs (Bool) (fun YY=>AV.pv (enc YY)) (.lit (.lit (.lit (.lit (.ask (.nil) (.lit (.nil))))))))))))))))) (.lit (.lit (.lit (.lit (.lit (.lit (.nil))))))))))) (.nil))) h (by kernel_rfl)
def Xq:IC:=(.seq (.reg [⟨(some 1),(.box 2 (.t 0)),0,none⟩,⟨(some 2),(.mv (.c (.bool false))),1,none⟩] none) (.seq (.seq (.reg [⟨(some 5),(.faddr 0 (.t 1)),0,none⟩,⟨(some 6),(.load false [(.int .i64)] (.t 5)),0,none⟩,⟨(some 7),(.call (.c (.fn 83)) [(.t 6)]),0,none⟩,⟨(some 8),(.un .not (.t 7)),2,none⟩,⟨(some 9),(.mv (.t 8)),2,none⟩,⟨(some 10),(.faddr 1 (.t 1)),2,(some (9,false))⟩,⟨(some 11),(.load false [(.sl 2)] (.t 10)),2,(some (9,false))⟩,⟨(some 12),(.len 1 (.t 11)),2,(some (9,false))⟩,⟨(some 13),(.bin .num .gtr (.t 12) (.c (.int .i64 12))),2,(some (9,false))⟩,⟨(some 14),(.pick (.t 9) (.c (.bool true)) (.t 13)),2,none⟩] none) (.cond (.t 14) (.seq (.reg [⟨(some 2),(.mv (.c (.bool false))),0,none⟩] none) .ret) .skip)) (.seq (.seq (.reg [⟨(some 3),(.mv (.c (.int .i64 0))),0,none⟩] none) (.block 0 (.loop [3,1] (.seq (.seq (.reg [⟨(some 15),(.mv (.t 3)),0,none⟩,⟨(some 16),(.faddr 1 (.t 1)),0,none⟩,⟨(some 17),(.load false [(.sl 2)] (.t 16)),0,none⟩,⟨(some 18),(.len 1 (.t 17)),0,none⟩,⟨(some 19),(.bin .num .lss (.t 15) (.t 18)),0,none⟩] none) (.cond (.t 19) .skip (.exit 0))) (.seq (.block 1 (.seq (.reg [⟨(some 22),(.faddr 1 (.t 1)),0,none⟩,⟨(some 23),(.load false [(.sl 2)] (.t 22)),0,none⟩,⟨(some 24),(.mv (.t 3)),0,none⟩,⟨(some 25),(.iaddr 2 (.t 23) (.t 24)),0,none⟩,⟨(some 26),(.load true [.str,(.int .i64)] (.t 25)),0,none⟩,⟨(some 4),(.alloc (.agg [(.str []),(.int .i64 0)])),0,none⟩,⟨none,(.store 2 (.t 4) (.t 26)),1,none⟩] none) (.seq (.reg [⟨(some 27),(.faddr 0 (.t 4)),0,none⟩,⟨(some 28),(.load false [.str] (.t 27)),0,none⟩,⟨(some 29),(.call (.c (.fn 84)) [(.t 28)]),0,none⟩,⟨(some 30),(.un .not (.t 29)),2,none⟩,⟨(some 31),(.mv (.t 30)),2,none⟩,⟨(some 32),(.faddr 1 (.t 4)),2,(some (31,false))⟩,⟨(some 33),(.load false [(.int .i64)] (.t 32)),2,(some (31,false))⟩,⟨(some 34),(.bin .num .eql (.t 33) (.c (.int .i64 0))),2,(some (31,false))⟩,⟨(some 35),(.pick (.t 31) (.c (.bool true)) (.t 34)),2,none⟩,⟨(some 36),(.mv (.t 35)),2,none⟩,⟨(some 37),(.faddr 1 (.t 4)),2,(some (36,false))⟩,⟨(some 38),(.load false [(.int .i64)] (.t 37)),2,(some (36,false))⟩,⟨(some 39),(.call (.c (.fn 83)) [(.t 38)]),2,(some (36,false))⟩,⟨(some 40),(.un .not (.t 39)),4,(some (36,false))⟩,⟨(some 41),(.pick (.t 36) (.c (.bool true)) (.t 40)),4,none⟩,⟨(some 42),(.mv (.t 41)),4,none⟩,⟨(some 43),(.mv (.t 3)),4,(some (42,false))⟩,⟨(some 44),(.bin .num .gtr (.t 43) (.c (.int .i64 0))),4,(some (42,false))⟩,⟨(some 45),(.mv (.t 44)),4,(some (42,false))⟩,⟨(some 46),(.faddr 1 (.t 1)),4,(some (45,true))⟩,⟨(some 47),(.load false [(.sl 2)] (.t 46)),4,(some (45,true))⟩,⟨(some 48),(.mv (.t 3)),4,(some (45,true))⟩,⟨(some 49),(.bin .num .sub (.t 48) (.c (.int .i64 1))),4,(some (45,true))⟩,⟨(some 50),(.iaddr 2 (.t 47) (.t 49)),4,(some (45,true))⟩,⟨(some 51),(.faddr 0 (.t 50)),4,(some (45,true))⟩,⟨(some 52),(.load false [.str] (.t 51)),4,(some (45,true))⟩,⟨(some 53),(.faddr 0 (.t 4)),4,(some (45,true))⟩,⟨(some 54),(.load false [.str] (.t 53)),4,(some (45,true))⟩,⟨(some 55),(.bin .num .geq (.t 52) (.t 54)),4,(some (45,true))⟩,⟨(some 56),(.pick (.t 45) (.t 55) (.c (.bool false))),4,(some (42,false))⟩,⟨(some 57),(.pick (.t 42) (.c (.bool true)) (.t 56)),4,none⟩] (some [[],[0],[1,0],[2,1,0],[3,2,1,0],[4,3,2,1,0],[5,4,3,2,1,0],[6,4,5,3,2,1,0],[4,7,3,2,1,0,6,5],[8,4,7,3,2,1,0,6,5],[9,8,4,7,3,2,1,0,6,5],[10,9,8,4,7,3,2,1,0,6,5],[11,9,10,8,4,7,3,2,1,0,6,5],[12,9,11,10,8,4,7,3,2,1,0,6,5],[9,13,8,4,7,3,2,1,0,6,5,12,11,10],[14,12,9,13,8,4,7,3,2,1,0,6,5,11,10],[15,14,12,9,13,8,4,7,3,2,1,0,6,5,11,10],[16,15,14,12,9,13,8,4,7,3,2,1,0,6,5,11,10],[17,15,16,14,12,9,13,8,4,7,3,2,1,0,6,5,11,10],[18,17,15,16,14,12,9,13,8,4,7,3,2,1,0,6,5,11,10],[19,18,17,15,16,14,12,9,13,8,4,7,3,2,1,0,6,5,11,10],[18,17,15,16,14,12,9,13,8,4,7,3,2,1,0,6,5,11,10],[21,18,17,15,16,14,12,9,13,8,4,7,3,2,1,0,6,5,11,10],[20,22,18,19,17,15,16,14,12,9,13,8,4,7,3,2,1,0,6,5,11,10,21],[23,18,20,22,19,17,15,16,14,12,9,13,8,4,7,3,2,1,0,6,5,11,10,21],[24,18,23,20,22,19,17,15,16,14,12,9,13,8,4,7,3,2,1,0,6,5,11,10,21],[18,17,15,16,14,12,9,13,8,4,7,3,2,1,0,6,5,11,10],[26,18,17,15,16,14,12,9,13,8,4,7,3,2,1,0,6,5,11,10],[25,27,18,24,23,20,22,19,17,15,16,14,12,9,13,8,4,7,3,2,1,0,6,5,11,10,21,26],[18,28,15,17,16,14,12,9,13,8,4,7,3,2,1,0,6,5,11,10,25,27,24,23,20,22,19,21,26],[15,29,14,12,9,13,8,4,7,3,2,1,0,6,5,11,10,18,28,17,16,25,27,24,23,20,22,19,21,26]])) (.cond (.t 57) (.seq (.reg [⟨(some 2),(.mv (.c (.bool false))),0,none⟩] none) .ret) .skip)))) (.reg [⟨(some 20),(.mv (.t 3)),0,none⟩,⟨(some 21),(.bin .num .add (.t 20) (.c (.int .i64 1))),0,none⟩,⟨(some 3),(.mv (.t 21)),0,none⟩] none)))))) (.seq (.reg [⟨(some 2),(.mv (.c (.bool true))),0,none⟩] none) .ret))))
def Xu:List IRes:=[(.tmp 2)]
abbrev MC:Nat:=58
def X9:ZJ:=WI [(83,.pure (preT (fun _:Int×Unit=>true)) (Zk (fun x:Int×Unit=>Z7 x.1))),(84,.pure (preT (fun _:Str×Unit=>true)) (Zk (fun x:Str×Unit=>Zr x.1)))]
theorem OZ{G:PV->Prop}(l:Lin)(h : ∃ y0:Bool,AV.pv (Zk (fun(x:Int×Unit)=>Z7 x.1) [(.int .i64 l.k)])=AV.pv (enc y0)∧(if (!y0)=true then G ((.bool false))else(if (decide ((↑(List.length (List.map enc l.t)):Int)>12))=true then G ((.bool false))else(At X9 0 (Ze Xu G) Xq 0 58 [(1,(.ptr 0 0)),(3,(.pv (.int .i64 0)))] [(.obj (.box [(.pv (.int .i64 l.k)),(.pv (.sl 2 false (List.map enc l.t)))]))])))):Zi X9 0 (Ze Xu G) Xq [] (Xz 58 [enc l]):=Zi.tp (.lit (.abs (Bool) (fun YY=>AV.pv (enc YY)) (.ask (.lit (.lit (.lit (.lit (.lit (.nil)))))) (.lit (.lit (.lit (.lit (.lit (.ask (.nil) (.nil)))))))))) h (by kernel_rfl)
theorem CR{G:PV->Prop}(l:Lin)(i:Int)(h:if (decide (i<(↑(List.length (List.map enc l.t)):Int)))=true then(decide (0<=i)&&decide (Int.toNat i<List.length (List.map enc l.t))&&Enc.sz Coef==2)=true∧(∃ y0:Coef,AV.pv (PV.rptr (PV.cells (List.getD (List.map enc l.t) (Int.toNat i) default)))=AV.pv (PV.rptr (PV.cells ((enc) y0)))∧(∃ y1:Bool,AV.pv (Zk (fun(x:Str×Unit)=>Zr x.1) [(.str (PV.asStr (List.getD (PV.cells (enc y0)) 0 default)))])=AV.pv (enc y1)∧(if (!y1)=true then G ((.bool false))else(if (PV.asInt (List.getD (PV.cells (enc y0)) (0+1) default)==0)=true then G ((.bool false))else(∃ y2:Bool,AV.pv (Zk (fun(x:Int×Unit)=>Z7 x.1) [(.int .i64 (PV.asInt (List.getD (PV.cells (enc y0)) (0+1) default)))])=AV.pv (enc y2)∧(if (!y2)=true then G ((.bool false))else(if (decide (i>0))=true then(decide (0<=IntKind.wrap IntKind.i64 (i - 1))&&decide (Int.toNat (IntKind.wrap IntKind.i64 (i - 1))<List.length (List.map enc l.t))&&Enc.sz Coef==2)=true∧(∃ y3:Coef,AV.pv (PV.rptr (PV.cells (List.getD (List.map enc l.t) (Int.toNat (IntKind.wrap IntKind.i64 (i - 1))) default)))=AV.pv (PV.rptr (PV.cells ((enc) y3)))∧(if (!Op.bytesLess (PV.asStr (List.getD (List.drop 0 (PV.cells (enc y3))) 0 default)) (PV.asStr (List.getD (PV.cells (enc y0)) 0 default)))=true then G ((.bool false))else(At X9 0 (Ze Xu G) Xq 0 58 [(1,(.ptr 0 0)),(3,(.pv (.int .i64 (IntKind.wrap IntKind.i64 (i+1)))))] [(.obj (.box [(.pv (.int .i64 l.k)),(.pv (.sl 2 false (List.map enc l.t)))]))])))else(At X9 0 (Ze Xu G) Xq 0 58 [(1,(.ptr 0 0)),(3,(.pv (.int .i64 (IntKind.wrap IntKind.i64 (i+1)))))] [(.obj (.box [(.pv (.int .i64 l.k)),(.pv (.sl 2 false (List.map enc l.t)))]))]))))))))else(G ((.bool true)))):At X9 0 (Ze Xu G) Xq 0 58 [(1,.ptr 0 0),(3,.pv (.int .i64 i))] [.obj (.box [.pv (.int .i64 l.k),.pv (enc l.t)])]:=At.tp (.lit (.ask (.req (.abs (Coef) (fun YY=>AV.pv (PV.rptr (PV.cells ((enc) YY)))) (.lit (.lit (.abs (Bool) (fun YY=>AV.pv (enc YY)) (.ask (.lit (.lit (.lit (.lit (.lit (.lit (.lit (.lit (.lit (.lit (.lit (.lit (.lit (.lit (.nil))))))))))))))) (.lit (.lit (.lit (.lit (.ask (.lit (.lit (.lit (.lit (.lit (.lit (.lit (.lit (.lit (.lit (.nil))))))))))) (.lit (.lit (.lit (.abs (Bool) (fun YY=>AV.pv (enc YY)) (.lit (.lit (.ask (.lit (.lit (.lit (.lit (.lit (.nil)))))) (.lit (.lit (.lit (.ask (.lit (.lit (.lit (.lit (.lit (.req (.abs (Coef) (fun YY=>AV.pv (PV.rptr (PV.cells ((enc) YY)))) (.lit (.lit (.lit (.lit (.lit (.lit (.lit (.lit (.lit (.lit (.ask (.nil) (.lit (.nil)))))))))))))))))))) (.lit (.lit (.lit (.lit (.lit (.lit (.lit (.lit (.lit (.lit (.lit (.lit (.lit (.lit (.nil))))))))))))))))))))))))))))))))))))) (.nil))) h (by kernel_rfl)
def UH:IC:=(.seq (.reg [⟨(some 2),(.box 2 (.t 0)),0,none⟩,⟨(some 4),(.mv (.c (.bool false))),1,none⟩] none) (.seq (.seq (.reg [⟨(some 5),(.mv (.c (.int .i64 0))),0,none⟩] none) (.block 0 (.loop [5,2,1] (.seq (.seq (.reg [⟨(some 6),(.mv (.t 5)),0,none⟩,⟨(some 7),(.faddr 1 (.t 2)),0,none⟩,⟨(some 8),(.load false [(.sl 2)] (.t 7)),0,none⟩,⟨(some 9),(.len 1 (.t 8)),0,none⟩,⟨(some 10),(.bin .num .lss (.t 6) (.t 9)),0,none⟩] none) (.cond (.t 10) .skip (.exit 0))) (.seq (.block 1 (.seq (.reg [⟨(some 13),(.faddr 1 (.t 2)),0,none⟩,⟨(some 14),(.load false [(.sl 2)] (.t 13)),0,none⟩,⟨(some 15),(.mv (.t 5)),0,none⟩,⟨(some 16),(.iaddr 2 (.t 14) (.t 15)),0,none⟩,⟨(some 17),(.faddr 0 (.t 16)),0,none⟩,⟨(some 18),(.load false [.str] (.t 17)),0,none⟩,⟨(some 19),(.len 0 (.t 18)),0,none⟩,⟨(some 20),(.bin .num .gtr (.t 19) (.c (.int .i64 40))),0,none⟩] none) (.cond (.t 20) (.seq (.reg [⟨(some 4),(.mv (.c (.bool false))),0,none⟩] none) .ret) .skip))) (.reg [⟨(some 11),(.mv (.t 5)),0,none⟩,⟨(some 12),(.bin .num .add (.t 11) (.c (.int .i64 1))),0,none⟩,⟨(some 5),(.mv (.t 12)),0,none⟩] none)))))) (.seq (.reg [⟨(some 21),(.faddr 1 (.t 2)),0,none⟩,⟨(some 22),(.load false [(.sl 2)] (.t 21)),0,none⟩,⟨(some 23),(.len 1 (.t 22)),0,none⟩,⟨(some 24),(.mv (.t 1)),0,none⟩,⟨(some 25),(.bin .num .leq (.t 23) (.t 24)),0,none⟩,⟨(some 4),(.mv (.t 25)),0,none⟩] none) .ret)))
def UI:List IRes:=[(.tmp 4)]
abbrev a3r:Nat:=26
def Q9:ZJ:=WI []
theorem a9c{G:PV->Prop}(l:Lin)(n:Int)(h:At Q9 0 (Ze UI G) UH 0 26 [(1,(.pv (.int .i64 n))),(2,(.ptr 0 0)),(5,(.pv (.int .i64 0)))] [(.obj (.box [(.pv (.int .i64 l.k)),(.pv (.sl 2 false (List.map enc l.t)))]))]):Zi Q9 0 (Ze UI G) UH [] (Xz 26 [enc l,enc n]):=Zi.tp (.nil) h (by kernel_rfl)
theorem NS{G:PV->Prop}(l:Lin)(n:Int)(i:Int)(h:if (decide (i<(↑(List.length (List.map enc l.t)):Int)))=true then(decide (0<=i)&&decide (Int.toNat i<List.length (List.map enc l.t))&&Enc.sz Coef==2)=true∧(∃ y0:Coef,AV.pv (PV.rptr (PV.cells (List.getD (List.map enc l.t) (Int.toNat i) default)))=AV.pv (PV.rptr (PV.cells ((enc) y0)))∧(if (decide ((↑(List.length (PV.asStr (List.getD (List.drop 0 (PV.cells (enc y0))) 0 default))):Int)>40))=true then G ((.bool false))else(At Q9 0 (Ze UI G) UH 0 26 [(1,(.pv (.int .i64 n))),(2,(.ptr 0 0)),(5,(.pv (.int .i64 (IntKind.wrap IntKind.i64 (i+1)))))] [(.obj (.box [(.pv (.int .i64 l.k)),(.pv (.sl 2 false (List.map enc l.t)))]))])))else(G ((.bool (decide ((↑(List.length (List.map enc l.t)):Int)<=n)))))):At Q9 0 (Ze UI G) UH 0 26 [(1,.pv (.int .i64 n)),(2,.ptr 0 0),(5,.pv (.int .i64 i))] [.obj (.box [.pv (.int .i64 l.k),.pv (enc l.t)])]:=At.tp (.lit (.ask (.req (.abs (Coef) (fun YY=>AV.pv (PV.rptr (PV.cells ((enc) YY)))) (.lit (.lit (.ask (.nil) (.lit (.nil))))))) (.lit (.nil)))) h (by kernel_rfl)
-- IMPOSSIBLE
def VM:IC:=(.seq (.reg [⟨(some 2),(.box 2 (.t 0)),0,none⟩,⟨(some 3),(.box 2 (.t 1)),1,none⟩,⟨(some 4),(.mv (.c (.int .i64 0))),2,none⟩] none) (.seq (.seq (.reg [⟨(some 5),(.mv (.c (.int .i64 0))),0,none⟩] none) (.block 0 (.loop [5,2,3] (.seq (.seq (.reg [⟨(some 8),(.mv (.t 5)),0,none⟩,⟨(some 9),(.faddr 1 (.t 2)),0,none⟩,⟨(some 10),(.load false [(.sl 2)] (.t 9)),0,none⟩,⟨(some 11),(.len 1 (.t 10)),0,none⟩,⟨(some 12),(.bin .num .lss (.t 8) (.t 11)),0,none⟩,⟨(some 13),(.mv (.t 12)),0,none⟩,⟨(some 14),(.mv (.t 5)),0,(some (13,true))⟩,⟨(some 15),(.faddr 1 (.t 3)),0,(some (13,true))⟩,⟨(some 16),(.load false [(.sl 2)] (.t 15)),0,(some (13,true))⟩,⟨(some 17),(.len 1 (.t 16)),0,(some (13,true))⟩,⟨(some 18),(.bin .num .lss (.t 14) (.t 17)),0,(some (13,true))⟩,⟨(some 19),(.pick (.t 13) (.t 18) (.c (.bool false))),0,none⟩] none) (.cond (.t 19) .skip (.exit 0))) (.seq (.block 1 (.seq (.reg [⟨(some 22),(.faddr 1 (.t 2)),0,none⟩,⟨(some 23),(.load false [(.sl 2)] (.t 22)),0,none⟩,⟨(some 24),(.mv (.t 5)),0,none⟩,⟨(some 25),(.iaddr 2 (.t 23) (.t 24)),0,none⟩,⟨(some 26),(.load true [.str,(.int .i64)] (.t 25)),0,none⟩,⟨(some 27),(.faddr 1 (.t 3)),0,none⟩,⟨(some 28),(.load false [(.sl 2)] (.t 27)),0,none⟩,⟨(some 29),(.mv (.t 5)),0,none⟩,⟨(some 30),(.iaddr 2 (.t 28) (.t 29)),0,none⟩,⟨(some 31),(.load true [.str,(.int .i64)] (.t 30)),0,none⟩,⟨(some 6),(.alloc (.agg [(.str []),(.int .i64 0)])),0,none⟩,⟨(some 7),(.alloc (.agg [(.str []),(.int .i64 0)])),1,none⟩,⟨none,(.store 2 (.t 6) (.t 26)),2,none⟩,⟨none,(.store 2 (.t 7) (.t 31)),2,none⟩] (some [[],[0],[],[1,2,0],[3,1,2,0],[],[5],[],[6,7,5],[8,6,7,5],[],[],[10,4,0,1,2,3,11],[11,9,12,0,1,2,3,4,5,6,7,8,10]])) (.block 2 (.seq (.reg [⟨(some 33),(.faddr 0 (.t 6)),0,none⟩,⟨(some 34),(.load false [.str] (.t 33)),0,none⟩,⟨(some 35),(.faddr 0 (.t 7)),0,none⟩,⟨(some 36),(.load false [.str] (.t 35)),0,none⟩,⟨(some 37),(.bin .num .lss (.t 34) (.t 36)),0,none⟩,⟨(some 38),(.mv (.t 37)),0,none⟩,⟨(some 39),(.faddr 0 (.t 6)),0,(some (38,false))⟩,⟨(some 40),(.load false [.str] (.t 39)),0,(some (38,false))⟩,⟨(some 41),(.faddr 0 (.t 7)),0,(some (38,false))⟩,⟨(some 42),(.load false [.str] (.t 41)),0,(some (38,false))⟩,⟨(some 43),(.bin .num .eql (.t 40) (.t 42)),0,(some (38,false))⟩,⟨(some 44),(.mv (.t 43)),0,(some (38,false))⟩,⟨(some 45),(.faddr 1 (.t 6)),0,(some (44,true))⟩,⟨(some 46),(.load false [(.int .i64)] (.t 45)),0,(some (44,true))⟩,⟨(some 47),(.faddr 1 (.t 7)),0,(some (44,true))⟩,⟨(some 48),(.load false [(.int .i64)] (.t 47)),0,(some (44,true))⟩,⟨(some 49),(.bin .num .lss (.t 46) (.t 48)),0,(some (44,true))⟩,⟨(some 50),(.pick (.t 44) (.t 49) (.c (.bool false))),0,(some (38,false))⟩,⟨(some 51),(.pick (.t 38) (.c (.bool true)) (.t 50)),0,none⟩,⟨(some 32),(.mv (.t 51)),0,none⟩] none) (.cond (.t 32) (.seq (.reg [⟨(some 4),(.mv (.c (.int .i64 (-1)))),0,none⟩] none) .ret) (.seq (.reg [⟨(some 53),(.load true [.str,(.int .i64)] (.t 6)),0,none⟩,⟨(some 54),(.load true [.str,(.int .i64)] (.t 7)),0,none⟩,⟨(some 55),(.bin (.agg [1,0]) .neq (.t 53) (.t 54)),0,none⟩,⟨(some 52),(.mv (.t 55)),0,none⟩] none) (.cond (.t 52) (.seq (.reg [⟨(some 4),(.mv (.c (.int .i64 1))),0,none⟩] none) .ret) .skip))))))) (.reg [⟨(some 20),(.mv (.t 5)),0,none⟩,⟨(some 21),(.bin .num .add (.t 20) (.c (.int .i64 1))),0,none⟩,⟨(some 5),(.mv (.t 21)),0,none⟩] none)))))) (.seq (.block 3 (.seq (.reg [⟨(some 57),(.faddr 1 (.t 2)),0,none⟩,⟨(some 58),(.load false [(.sl 2)] (.t 57)),0,none⟩,⟨(some 59),(.len 1 (.t 58)),0,none⟩,⟨(some 60),(.faddr 1 (.t 3)),0,none⟩,⟨(some 61),(.load false [(.sl 2)] (.t 60)),0,none⟩,⟨(some 62),(.len 1 (.t 61)),0,none⟩,⟨(some 63),(.bin .num .lss (.t 59) (.t 62)),0,none⟩,⟨(some 64),(.mv (.t 63)),0,none⟩,⟨(some 65),(.faddr 1 (.t 2)),0,(some (64,false))⟩,⟨(some 66),(.load false [(.sl 2)] (.t 65)),0,(some (64,false))⟩,⟨(some 67),(.len 1 (.t 66)),0,(some (64,false))⟩,⟨(some 68),(.faddr 1 (.t 3)),0,(some (64,false))⟩,⟨(some 69),(.load false [(.sl 2)] (.t 68)),0,(some (64,false))⟩,⟨(some 70),(.len 1 (.t 69)),0,(some (64,false))⟩,⟨(some 71),(.bin .num .eql (.t 67) (.t 70)),0,(some (64,false))⟩,⟨(some 72),(.mv (.t 71)),0,(some (64,false))⟩,⟨(some 73),(.faddr 0 (.t 2)),0,(some (72,true))⟩,⟨(some 74),(.load false [(.int .i64)] (.t 73)),0,(some (72,true))⟩,⟨(some 75),(.faddr 0 (.t 3)),0,(some (72,true))⟩,⟨(some 76),(.load false [(.int .i64)] (.t 75)),0,(some (72,true))⟩,⟨(some 77),(.bin .num .lss (.t 74) (.t 76)),0,(some (72,true))⟩,⟨(some 78),(.pick (.t 72) (.t 77) (.c (.bool false))),0,(some (64,false))⟩,⟨(some 79),(.pick (.t 64) (.c (.bool true)) (.t 78)),0,none⟩,⟨(some 56),(.mv (.t 79)),0,none⟩] none) (.cond (.t 56) (.seq (.reg [⟨(some 4),(.mv (.c (.int .i64 (-1)))),0,none⟩] none) .ret) (.seq (.reg [⟨(some 81),(.faddr 1 (.t 2)),0,none⟩,⟨(some 82),(.load false [(.sl 2)] (.t 81)),0,none⟩,⟨(some 83),(.len 1 (.t 82)),0,none⟩,⟨(some 84),(.faddr 1 (.t 3)),0,none⟩,⟨(some 85),(.load false [(.sl 2)] (.t 84)),0,none⟩,⟨(some 86),(.len 1 (.t 85)),0,none⟩,⟨(some 87),(.bin .num .gtr (.t 83) (.t 86)),0,none⟩,⟨(some 88),(.mv (.t 87)),0,none⟩,⟨(some 89),(.faddr 0 (.t 2)),0,(some (88,false))⟩,⟨(some 90),(.load false [(.int .i64)] (.t 89)),0,(some (88,false))⟩,⟨(some 91),(.faddr 0 (.t 3)),0,(some (88,false))⟩,⟨(some 92),(.load false [(.int .i64)] (.t 91)),0,(some (88,false))⟩,⟨(some 93),(.bin .num .gtr (.t 90) (.t 92)),0,(some (88,false))⟩,⟨(some 94),(.pick (.t 88) (.c (.bool true)) (.t 93)),0,none⟩,⟨(some 80),(.mv (.t 94)),0,none⟩] none) (.cond (.t 80) (.seq (.reg [⟨(some 4),(.mv (.c (.int .i64 1))),0,none⟩] none) .ret) .skip))))) (.seq (.reg [⟨(some 4),(.mv (.c (.int .i64 0))),0,none⟩] none) .ret))))
def VU:List IRes:=[(.tmp 4)]
abbrev a5a:Nat:=95
def Qe:ZJ:=WI []
theorem a8u{G:PV->Prop}(a b:Lin)(h:At Qe 0 (Ze VU G) VM 0 95 [(2,(.ptr 0 0)),(3,(.ptr 1 0)),(5,(.pv (.int .i64 0)))] [(.obj (.box [(.pv (.int .i64 a.k)),(.pv (.sl 2 false (List.map enc a.t)))])),(.obj (.box [(.pv (.int .i64 b.k)),(.pv (.sl 2 false (List.map enc b.t)))]))]):Zi Qe 0 (Ze VU G) VM [] (Xz 95 [enc a,enc b]):=Zi.tp (.nil) h (by kernel_rfl)
theorem NJ{G:PV->Prop}(a b:Lin)(i:Int)(h:if (decide (i<(↑(List.length (List.map enc a.t)):Int)))=true then if (decide (i<(↑(List.length (List.map enc b.t)):Int)))=true then(decide (0<=i)&&decide (Int.toNat i<List.length (List.map enc a.t))&&Enc.sz Coef==2)=true∧(∃ y0:Coef,AV.pv (PV.rptr (PV.cells (List.getD (List.map enc a.t) (Int.toNat i) default)))=AV.pv (PV.rptr (PV.cells ((enc) y0)))∧((decide (0<=i)&&decide (Int.toNat i<List.length (List.map enc b.t))&&Enc.sz Coef==2)=true∧(∃ y1:Coef,AV.pv (PV.rptr (PV.cells (List.getD (List.map enc b.t) (Int.toNat i) default)))=AV.pv (PV.rptr (PV.cells ((enc) y1)))∧(if (Op.bytesLess (PV.asStr (List.getD (PV.cells (enc y0)) 0 default)) (PV.asStr (List.getD (PV.cells (enc y1)) 0 default)))=true then G ((.int .i64 (-1)))else(if (PV.asStr (List.getD (PV.cells (enc y0)) 0 default)==PV.asStr (List.getD (PV.cells (enc y1)) 0 default))=true then if (decide (PV.asInt (List.getD (PV.cells (enc y0)) (0+1) default)<PV.asInt (List.getD (PV.cells (enc y1)) (0+1) default)))=true then G ((.int .i64 (-1)))else(if (!(PV.asStr (List.getD (PV.cells (enc y0)) 0 default)==PV.asStr (List.getD (PV.cells (enc y1)) 0 default)&&(PV.asInt (List.getD (PV.cells (enc y0)) (0+1) default)==PV.asInt (List.getD (PV.cells (enc y1)) (0+1) default)&&true)))=true then G ((.int .i64 1))else(At Qe 0 (Ze VU G) VM 0 95 [(2,(.ptr 0 0)),(3,(.ptr 1 0)),(5,(.pv (.int .i64 (IntKind.wrap IntKind.i64 (i+1)))))] [(.obj (.box [(.pv (.int .i64 a.k)),(.pv (.sl 2 false (List.map enc a.t)))])),(.obj (.box [(.pv (.int .i64 b.k)),(.pv (.sl 2 false (List.map enc b.t)))]))]))else(if (!(PV.asStr (List.getD (PV.cells (enc y0)) 0 default)==PV.asStr (List.getD (PV.cells (enc y1)) 0 default)&&(PV.asInt (List.getD (PV.cells (enc y0)) (0+1) default)==PV.asInt (List.getD (PV.cells (enc y1)) (0+1) default)&&true)))=true then G ((.int .i64 1))else(At Qe 0 (Ze VU G) VM 0 95 [(2,(.ptr 0 0)),(3,(.ptr 1 0)),(5,(.pv (.int .i64 (IntKind.wrap IntKind.i64 (i+1)))))] [(.obj (.box [(.pv (.int .i64 a.k)),(.pv (.sl 2 false (List.map enc a.t)))])),(.obj (.box [(.pv (.int .i64 b.k)),(.pv (.sl 2 false (List.map enc b.t)))]))])))))))else(if (decide ((↑(List.length (List.map enc a.t)):Int)<(↑(List.length (List.map enc b.t)):Int)))=true then G ((.int .i64 (-1)))else(if ((↑(List.length (List.map enc a.t)):Int)==(↑(List.length (List.map enc b.t)):Int))=true then if (decide (a.k<b.k))=true then G ((.int .i64 (-1)))else(if (decide ((↑(List.length (List.map enc a.t)):Int)>(↑(List.length (List.map enc b.t)):Int)))=true then G ((.int .i64 1))else(if (decide (a.k>b.k))=true then G ((.int .i64 1))else(G ((.int .i64 0)))))else(if (decide ((↑(List.length (List.map enc a.t)):Int)>(↑(List.length (List.map enc b.t)):Int)))=true then G ((.int .i64 1))else(if (decide (a.k>b.k))=true then G ((.int .i64 1))else(G ((.int .i64 0)))))))else(if (decide ((↑(List.length (List.map enc a.t)):Int)<(↑(List.length (List.map enc b.t)):Int)))=true then G ((.int .i64 (-1)))else(if ((↑(List.length (List.map enc a.t)):Int)==(↑(List.length (List.map enc b.t)):Int))=true then if (decide (a.k<b.k))=true then G ((.int .i64 (-1)))else(if (decide ((↑(List.length (List.map enc a.t)):Int)>(↑(List.length (List.map enc b.t)):Int)))=true then G ((.int .i64 1))else(if (decide (a.k>b.k))=true then G ((.int .i64 1))else(G ((.int .i64 0)))))else(if (decide ((↑(List.length (List.map enc a.t)):Int)>(↑(List.length (List.map enc b.t)):Int)))=true then G ((.int .i64 1))else(if (decide (a.k>b.k))=true then G ((.int .i64 1))else(G ((.int .i64 0)))))))):At Qe 0 (Ze VU G) VM 0 95 [(2,.ptr 0 0),(3,.ptr 1 0),(5,.pv (.int .i64 i))] [.obj (.box [.pv (.int .i64 a.k),.pv (enc a.t)]),.obj (.box [.pv (.int .i64 b.k),.pv (enc b.t)])]:=At.tp (.lit (.ask (.lit (.lit (.lit (.lit (.lit (.lit (.ask (.req (.abs (Coef) (fun YY=>AV.pv (PV.rptr (PV.cells ((enc) YY)))) (.lit (.req (.abs (Coef) (fun YY=>AV.pv (PV.rptr (PV.cells ((enc) YY)))) (.lit (.lit (.ask (.lit (.lit (.lit (.lit (.lit (.lit (.lit (.lit (.nil))))))))) (.lit (.lit (.lit (.lit (.lit (.lit (.ask (.lit (.lit (.lit (.lit (.lit (.lit (.lit (.lit (.ask (.nil) (.lit (.ask (.nil) (.lit (.nil))))))))))))) (.lit (.lit (.lit (.lit (.lit (.lit (.lit (.lit (.lit (.ask (.nil) (.lit (.nil))))))))))))))))))))))))))) (.lit (.ask (.lit (.lit (.lit (.lit (.lit (.lit (.lit (.lit (.lit (.lit (.nil))))))))))) (.lit (.lit (.lit (.lit (.lit (.lit (.lit (.lit (.ask (.lit (.lit (.lit (.lit (.lit (.lit (.lit (.lit (.ask (.nil) (.lit (.ask (.lit (.lit (.lit (.lit (.lit (.lit (.nil))))))) (.lit (.lit (.lit (.lit (.lit (.lit (.ask (.nil) (.nil))))))))))))))))))) (.lit (.lit (.lit (.lit (.lit (.lit (.lit (.lit (.lit (.ask (.lit (.lit (.lit (.lit (.lit (.lit (.nil))))))) (.lit (.lit (.lit (.lit (.lit (.lit (.ask (.nil) (.nil)))))))))))))))))))))))))))))))))))) (.lit (.lit (.lit (.lit (.lit (.lit (.lit (.ask (.lit (.lit (.lit (.lit (.lit (.lit (.lit (.lit (.lit (.lit (.nil))))))))))) (.lit (.lit (.lit (.lit (.lit (.lit (.lit (.lit (.ask (.lit (.lit (.lit (.lit (.lit (.lit (.lit (.lit (.ask (.nil) (.lit (.ask (.lit (.lit (.lit (.lit (.lit (.lit (.nil))))))) (.lit (.lit (.lit (.lit (.lit (.lit (.ask (.nil) (.nil))))))))))))))))))) (.lit (.lit (.lit (.lit (.lit (.lit (.lit (.lit (.lit (.ask (.lit (.lit (.lit (.lit (.lit (.lit (.nil))))))) (.lit (.lit (.lit (.lit (.lit (.lit (.ask (.nil) (.nil))))))))))))))))))))))))))))))))))))) h (by kernel_rfl)
def Px:IC:=(.seq (.reg [⟨(some 2),(.box 2 (.t 0)),0,none⟩,⟨(some 3),(.box 2 (.t 1)),1,none⟩,⟨(some 4),(.mv (.c (.bool false))),2,none⟩] none) (.seq (.reg [⟨(some 5),(.load true [(.int .i64),(.sl 2)] (.t 2)),0,none⟩,⟨(some 6),(.load true [(.int .i64),(.sl 2)] (.t 3)),0,none⟩,⟨(some 7),(.call (.c (.fn 85)) [(.t 5),(.t 6)]),0,none⟩,⟨(some 8),(.bin .num .eql (.t 7) (.c (.int .i64 0))),2,none⟩,⟨(some 4),(.mv (.t 8)),2,none⟩] none) .ret))
def Pw:List IRes:=[(.tmp 4)]
abbrev a7j:Nat:=9
def FM:ZJ:=WI [(85,.pure (preT (fun x:Lin×Lin×Unit=>Zz x.1)) (Zk (fun x:Lin×Lin×Unit=>UC x.1 x.2.1)))]
theorem a9o{G:PV->Prop}(a b:Lin)(h:(Go.Pl.preT (fun(x:Lin×Lin×Unit)=>Zz x.1) [(.agg [(.int .i64 a.k),(.sl 2 false (List.map enc a.t))]),(.agg [(.int .i64 b.k),(.sl 2 false (List.map enc b.t))])])=true∧(∃ y0:Int,AV.pv (Zk (fun(x:Lin×Lin×Unit)=>UC x.1 x.2.1) [(.agg [(.int .i64 a.k),(.sl 2 false (List.map enc a.t))]),(.agg [(.int .i64 b.k),(.sl 2 false (List.map enc b.t))])])=AV.pv (enc y0)∧(G ((.bool (y0==0)))))):Zi FM 0 (Ze Pw G) Px [] (Xz 9 [enc a,enc b]):=Zi.tp (.req (.abs (Int) (fun YY=>AV.pv (enc YY)) (.lit (.nil)))) h (by kernel_rfl)
end Go.Pl

namespace Go.Pl
open Go.RowKit
open Enc (enc dec is)
open EncL (encL decL isL)
theorem O8(c:UInt8):Zj c=(decide ((c.toNat:Int) ≥ 48)&&decide ((c.toNat:Int)<=57)):=by
 simp only[Zj,UInt8.le_iff_toNat_le,ge_iff_le]
 have e1:(48:UInt8).toNat=48:=rfl
 have e2:(57:UInt8).toNat=57:=rfl
 rw[e1,e2]
 congr 1 <;> exact decide_eq_decide.2 (by omega)
theorem a1z(c:UInt8):ZT c=(decide ((c.toNat:Int) ≥ 97)&&decide ((c.toNat:Int)<=122)):=by
 simp only[ZT,UInt8.le_iff_toNat_le,ge_iff_le]
 have e1:(97:UInt8).toNat=97:=rfl
 have e2:(122:UInt8).toNat=122:=rfl
 rw[e1,e2]
 congr 1 <;> exact decide_eq_decide.2 (by omega)
theorem Dk{a b:Bool}{G:PV->Prop}(h:G (.bool (a&&b))):if a=true then G (.bool b)else G (.bool false):=by cases a <;> simpa using h
theorem Ee: ∀ a:UInt8×Unit,true=true->Zi P5 0 (Ze BG (ZI (Zj a.1))) HV [] (Xz a5k (encL a)):=by
 rintro⟨c,⟨⟩⟩ -
 exact a9e c (Dk (Yl (O8 c).symm))
theorem a0l: ∀ a:UInt8×Unit,true=true->Zi Pb 0 (Ze Ae (ZI (Zj a.1))) Bt [] (Xz a5v (encL a)):=by
 rintro⟨c,⟨⟩⟩ -
 exact a7n c (Dk (Yl (O8 c).symm))
theorem a0a: ∀ a:UInt8×Unit,true=true->Zi PM 0 (Ze Bp (ZI (ZT a.1))) BX [] (Xz a5i (encL a)):=by
 rintro⟨c,⟨⟩⟩ -
 exact a8p c (Dk (Yl (a1z c).symm))
theorem Pf: ∀ a:Int×Unit,true=true->Zi Gz 0 (Ze K9 (ZI (Z7 a.1))) Qr [] (Xz Li (encL a)):=by
 rintro⟨n,⟨⟩⟩ -
 exact Og n (Dk (Yl rfl))
theorem a3p: ∀ a:Int×Unit,true=true->Zi F6 0 (Ze RX (ZI (Z7 a.1))) Pq [] (Xz a7a (encL a)):=by
 rintro⟨n,⟨⟩⟩ -
 exact a9r n (Dk (Yl rfl))
theorem OY(s:List UInt8)(hs:s.length<=30): ∀ (j i:Nat),j+i=s.length->At XN 0 (Ze Y6 (ZI ((s.drop i).all Zj))) Xa 0 62 [(0,.pv (.str s)),(3,.pv (.int .i64 i))] []:=by
 intro j
 induction j with
 | zero=>
  intro i hi
  refine Sr s i ?_
  rw[if_neg (Wj (by omega))]
  exact Yl (by rw[List.drop_of_length_le (by omega)];rfl)
 | succ j ih=>
  intro i hi
  have hlt:i<s.length:=by omega
  refine Sr s i ?_
  rw[if_pos (Wv hlt)]
  have eg:List.getD s (Int.toNat (i:Int)) 0=s[i]:=by simp[List.getD,hlt]
  rw[eg,next (by omega)]
  refine⟨by simp[hlt],Zo (s[i],()) rfl rfl,Zl (s[i],()) rfl ?_⟩
  rw[List.drop_eq_getElem_cons hlt,List.all_cons]
  show if (!Zj s[i])=true then _ else _
  cases hd:Zj s[i]
  ·exact Yl rfl
  ·rw[if_neg (by simp)]
   simpa using ih (i+1) (by omega)
theorem a1n(s:List UInt8)(hs:s.length<=30): ∀ (j i:Nat),j+i=s.length->0<i->At XN 0 (Ze Y6 (ZI ((s.drop i).all fun c=>ZT c||Zj c))) Xa 1 62 [(0,.pv (.str s)),(4,.pv (.int .i64 i))] []:=by
 intro j
 induction j with
 | zero=>
  intro i hi _
  refine Db s i ?_
  rw[if_neg (Wj (by omega))]
  exact Yl (by rw[List.drop_of_length_le (by omega)];rfl)
 | succ j ih=>
  intro i hi h0
  have hlt:i<s.length:=by omega
  refine Db s i ?_
  rw[if_pos (Wv hlt)]
  have eg:List.getD s (Int.toNat (i:Int)) 0=s[i]:=by simp[List.getD,hlt]
  rw[eg,next (by omega)]
  refine⟨by simp[hlt],Zo (s[i],()) rfl rfl,Zl (s[i],()) rfl ?_⟩
  rw[List.drop_eq_getElem_cons hlt,List.all_cons]
  show if (!ZT s[i])=true then _ else _
  cases hd:ZT s[i]
  ·rw[a6h,if_neg (by simp;omega)]
   refine⟨by simp[hlt],Zo (s[i],()) rfl rfl,Zl (s[i],()) rfl ?_⟩
   show if (!Zj s[i])=true then _ else _
   cases hd:Zj s[i]
   ·exact Yl rfl
   ·rw[if_neg (by simp)]
    simpa using ih (i+1) (by omega) (by omega)
  ·rw[if_neg (by simp)]
   simpa using ih (i+1) (by omega) (by omega)
theorem MB: ∀ a:Str×Unit,true=true->Zi XN 0 (Ze Y6 (ZI (Zr a.1))) Xa [] (Xz a1r (encL a)):=by
 rintro⟨⟨s⟩,⟨⟩⟩ -
 refine a3s s ?_
 cases s with
 | nil=>exact Yl rfl
 | cons c r=>
  rw[if_neg (by simp;omega)]
  by_cases h30:((c::r).length:Int)>30
  ·rw[if_pos (by simpa using h30)]
   refine Yl ?_
   have : ¬ r.length<=29:=by simp at h30;omega
   have h9 : ¬ r.length<=9:=by omega
   simp[Zr,this,h9]
  ·rw[if_neg (by simpa using h30)]
   have hl:(c::r).length<=30:=by omega
   refine⟨by simp,?_⟩
   show if ((c.toNat:Int)==95)=true then _ else _
   by_cases hc:c=95
   ·subst hc
    rw[if_pos (by rfl)]
    simp only[Zr,if_true]
    cases r with
    | nil=>exact Yl rfl
    | cons d r=>
     rw[if_neg (by simp;omega)]
     by_cases h10:((95::d::r:List UInt8).length:Int)>10
     ·rw[if_pos (by simpa using h10)]
      refine Yl ?_
      have:decide ((d::r).length<=9)=false:=decide_eq_false (by simp at h10 ⊢;omega)
      rw[this,Bool.and_false]
     ·rw[if_neg (by simpa using h10)]
      refine⟨by simp,?_⟩
      show if ((d.toNat:Int)==48)=true then _ else _
      by_cases hd:d=48
      ·subst hd
       rw[if_pos (by rfl)]
       exact Yl (by simp)
      ·rw[if_neg (by exact a6i 48 hd (by omega))]
       have h:=OY (95::d::r) hl (d::r).length 1 (by simp)
       have e:(d::r).length<=9:=by simp at h10 ⊢;omega
       have e2:((d::r).all Zj&& !(d::r).isEmpty&&decide ((d::r).head? ≠ some 48)&&decide ((d::r).length<=9))=(d::r).all Zj:=by rw[decide_eq_true e,show decide ((d::r).head? ≠ some (48:UInt8))=true by simpa using hd];simp
       rw[e2]
       exact h
   ·rw[if_neg (by exact a6i 95 hc (by omega))]
    refine Db (c::r) 0 ?_
    rw[if_pos (by simp)]
    refine⟨by simp,Zo (c,()) rfl rfl,Zl (c,()) rfl ?_⟩
    show if (!ZT c)=true then _ else _
    have en:Zr ⟨c::r⟩=(ZT c&&r.all (fun c=>ZT c||Zj c)):=by
     have:r.length<=29:=by simp at hl;omega
     simp[Zr,hc,this]
    rw[en]
    cases hlow:ZT c
    ·rw[a6h,if_pos (by rfl)]
     exact Yl rfl
    ·rw[if_neg (by simp)]
     exact a1n (c::r) hl r.length 1 (by simp) (by omega)
end Go.Pl

namespace Go.Pl
open Go.RowKit
open Enc (enc dec is)
open EncL (encL decL isL)
def Gv(prev:Option (List UInt8)):List Coef->Bool
 | []=>true
 | t::r=>Zr t.v&&decide (t.c≠0)&&Z7 t.c&&(match prev with|none=>true|some p=>decide (p<t.v.s))&&Gv (some t.v.s) r
theorem Ko(p:Option (List UInt8))(t:Coef)(r:List Coef):Gv p (t::r)=(Zr t.v&&decide (t.c≠0)&&Z7 t.c&&(match p with|none=>true|some p=>decide (p<t.v.s))&&Gv (some t.v.s) r):=by cases p <;> rfl
theorem TN: ∀ (l:List Coef) (p:List UInt8),Gv (some p) l=(l.all (fun t=>Zr t.v&&decide (t.c≠0)&&Z7 t.c)&&(match l with|[]=>true|t::_=>decide (p<t.v.s))&&J3 l)
 | [],p=>by simp[Gv,J3]
 | t::r,p=>by
  rw[Ko,TN r]
  cases r with
  | nil=>simp[J3]
  | cons u r=>
   simp only[List.all_cons,J3]
   ac_rfl
theorem Eu(l:List Coef):Gv none l=(l.all (fun t=>Zr t.v&&decide (t.c≠0)&&Z7 t.c)&&J3 l):=by
 cases l with
 | nil=>simp[Gv,J3]
 | cons t r=>
  rw[Ko,TN r]
  cases r with
  | nil=>simp[J3]
  | cons u r=>
   simp only[List.all_cons,J3,Bool.and_true]
   ac_rfl
theorem Tm(l:Lin):Zh l=(Z7 l.k&&decide (l.t.length<=12)&&Gv none l.t):=by
 rw[Eu,Zh]
 ac_rfl
def EN(ts:List Coef):Nat->Option (List UInt8)
 | 0=>none
 | i+1=>(ts[i]?).map (·.v.s)
theorem Nc{k:Nat}(h:k<9223372036854775807):IntKind.i64.wrap (((k+1:Nat):Int) - 1)=(k:Int):=by rw[Q6 (by omega) (by omega)];omega
theorem Sm(l:Lin)(hl:l.t.length<=9223372036854775807): ∀ (j i:Nat),j+i=l.t.length->At X9 0 (Ze Xu (ZI (Gv (EN l.t i) (l.t.drop i)))) Xq 0 58 [(1,.ptr 0 0),(3,.pv (.int .i64 i))] [.obj (.box [.pv (.int .i64 l.k),.pv (enc l.t)])]:=by
 intro j
 induction j with
 | zero=>
  intro i hi
  refine CR l i ?_
  rw[if_neg (Cz (by omega))]
  exact Yl (by rw[List.drop_of_length_le (by omega)];rfl)
 | succ j ih=>
  intro i hi
  have hlt:i<l.t.length:=by omega
  have h:=ih (i+1) (by omega)
  refine CR l i ?_
  simp only[co1,co2,co3,co4]
  refine YF (Cn hlt) ⟨XD hlt rfl,WT hlt (Zl (l.t[i].v,()) rfl (Ww (fun hn=> ?_) fun hn=>Wx (fun hc=> ?_) fun hc=>Zl (l.t[i].c,()) rfl (Ww (fun hk=> ?_) fun hk=> ?_)))⟩
  all_goals rw[List.drop_eq_getElem_cons hlt,Ko]
  ·have hn:Zr l.t[i].v=false:=hn
   exact Yl (by simp[hn])
  ·exact Yl (by simp[hc])
  ·have hk:Z7 l.t[i].c=false:=hk
   exact Yl (by simp[hk])
  have hn:Zr l.t[i].v=true:=hn
  have hk:Z7 l.t[i].c=true:=hk
  rw[next (by omega),hn,hk,decide_eq_true hc]
  have ep:EN l.t (i+1)=some l.t[i].v.s:=by simp[EN,hlt]
  rw[ep]at h
  cases i with
  | zero=>exact XI (by simp) h
  | succ i=>
   refine YF (by simp) ?_
   rw[Nc (by omega)]
   refine⟨XD (by omega) rfl,WT (by omega) ?_⟩
   have e2:EN l.t (i+1)=some l.t[i].v.s:=by simp[EN,show i<l.t.length by omega]
   rw[e2]
   refine Ww (fun hb=> ?_) fun hb=> ?_
   all_goals
    have hb':=(Yk l.t[i].v.s l.t[i+1].v.s).symm.trans hb
    simp only[hb',Bool.and_true,Bool.true_and,Bool.and_false,Bool.false_and]
   ·exact Yl rfl
   ·exact h
theorem Rt: ∀ a:Lin×Unit,Zz a.1=true->Zi X9 0 (Ze Xu (ZI (Zh a.1))) Xq [] (Xz MC (encL a)):=by
 rintro⟨l,⟨⟩⟩ hl
 have hl:l.t.length<=9223372036854775807:=by simpa [Zz]using hl
 refine OZ l (Zl (l.k,()) rfl ?_)
 show if (!Z7 l.k)=true then _ else _
 show if (!Z7 l.k)=true then ZI (Zh l) _ else if _ then ZI (Zh l) _ else At X9 0 (Ze Xu (ZI (Zh l))) Xq 0 58 _ _
 rw[Tm]
 cases hk:Z7 l.k
 ·exact Yl rfl
 rw[a9u]
 by_cases h12:l.t.length<=12
 ·rw[if_neg (by simp;omega)]
  have h:=Sm l hl l.t.length 0 (by omega)
  simp only[h12,decide_true,Bool.true_and]
  exact h
 ·rw[if_pos (by simp;omega)]
  exact Yl (by simp[h12])
theorem MS(l:Lin)(n:Int)(hl:l.t.length<=9223372036854775807): ∀ (j i:Nat),j+i=l.t.length->At Q9 0 (Ze UI (ZI ((l.t.drop i).all (fun t=>decide (t.v.s.length<=40))&&decide ((l.t.length:Int)<=n)))) UH 0 26 [(1,.pv (.int .i64 n)),(2,.ptr 0 0),(5,.pv (.int .i64 i))] [.obj (.box [.pv (.int .i64 l.k),.pv (enc l.t)])]:=by
 intro j
 induction j with
 | zero=>
  intro i hi
  exact NS l n i (XI (Cz (by omega)) (Yl (by rw[List.drop_of_length_le (by omega),List.length_map];rfl)))
 | succ j ih=>
  intro i hi
  have hlt:i<l.t.length:=by omega
  have h:=ih (i+1) (by omega)
  refine NS l n i (YF (Cn hlt) ⟨XD hlt rfl,WT hlt ?_⟩)
  rw[List.drop_eq_getElem_cons hlt,List.all_cons,next (by omega)]
  refine XR (fun h40=> ?_) fun h40=> ?_
  ·have h40:(l.t[i].v.s.length:Int)>40:=h40
   exact Yl (by rw[decide_eq_false (show ¬ l.t[i].v.s.length<=40 by omega)];rfl)
  ·have h40 : ¬ (l.t[i].v.s.length:Int)>40:=h40
   rw[decide_eq_true (show l.t[i].v.s.length<=40 by omega),Bool.true_and]
   exact h
theorem a2d: ∀ a:Lin×Int×Unit,Zz a.1=true->Zi Q9 0 (Ze UI (ZI (BV a.1 a.2.1))) UH [] (Xz a3r (encL a)):=by
 rintro⟨l,n,⟨⟩⟩ hl
 exact a9c l n (MS l n (by simpa [Zz]using hl) l.t.length 0 (by omega))
end Go.Pl

namespace Go.Pl
open Go.RowKit
open Enc (enc dec is)
open EncL (encL decL isL)
end Go.Pl

namespace Go.Pl
open Go.RowKit
open Enc (enc dec is)
open EncL (encL decL isL)
def nS:Str:=⟨[110]⟩
theorem MV(x:List UInt8):Yw [x]=[x]:=by simp[Yw]
end Go.Pl

namespace Go.Pl
open Go.RowKit
open Enc (enc dec is)
open EncL (encL decL isL)
def Dv(x y:List Coef)(a b:Int):Int:=if Kz x y≠0 then Kz x y else Qm a b
theorem Fq(a b:Lin)(hl:a.t.length<=9223372036854775807): ∀ (m i:Nat),m+i=a.t.length->i<=b.t.length->At Qe 0 (Ze VU (ZI (Dv (a.t.drop i) (b.t.drop i) a.k b.k))) VM 0 95 [(2,.ptr 0 0),(3,.ptr 1 0),(5,.pv (.int .i64 i))] [.obj (.box [.pv (.int .i64 a.k),.pv (enc a.t)]),.obj (.box [.pv (.int .i64 b.k),.pv (enc b.t)])]:=by
 intro m
 induction m with
 | zero=>
  intro i hi hb
  refine NJ a b i (XI (Cz (by omega)) ?_)
  rw[List.drop_of_length_le (show a.t.length<=i by omega)]
  refine XR (fun h1=> ?_) fun h1=> ?_
  ·simp only[List.length_map]at h1
   refine Ue ?_
   obtain⟨t,r,e⟩ : ∃ t r,b.t.drop i=t::r:=by
    cases e:b.t.drop i with
    | nil=>have:=List.length_drop (l:=b.t) (i:=i);rw[e]at this;simp at this;omega
    | cons t r=>exact⟨t,r,rfl⟩
   rw[e];rfl
  ·simp only[List.length_map]at h1
   have e:b.t.drop i=[]:=List.drop_of_length_le (by omega)
   rw[e]
   have hlen:(List.length (List.map (enc:Coef->PV) a.t):Int)=(List.length (List.map (enc:Coef->PV) b.t):Int):=by simp;omega
   refine Wx (fun _=> ?_) fun h=>absurd hlen h
   have ec:Dv [] [] a.k b.k=Qm a.k b.k:=by simp[Dv,Kz]
   rw[ec]
   unfold Qm
   refine XR (fun h2=>Ue (by rw[if_pos h2])) fun h2=>XR (fun h3=>by simp only[List.length_map]at h3;omega) fun h3=>XR (fun h4=>Ue (by rw[if_neg h2,if_pos h4])) fun h4=>Ue (by rw[if_neg h2,if_neg h4])
 | succ m ih=>
  intro i hi hb
  have hlt:i<a.t.length:=by omega
  refine NJ a b i (YF (Cn hlt) ?_)
  by_cases hlb:i<b.t.length
  ·have h:=ih (i+1) (by omega) (by omega)
   refine YF (Cn hlb) ⟨XD hlt rfl,WT hlt ⟨XD hlb rfl,WT hlb ?_⟩⟩
   rw[List.drop_eq_getElem_cons hlt,List.drop_eq_getElem_cons hlb,next (by omega)]
   generalize a.t[i]=x at h ⊢
   generalize b.t[i]=y at h ⊢
   obtain⟨⟨xv⟩,xc⟩:=x
   obtain⟨⟨yv⟩,yc⟩:=y
   refine Vf (fun h1=> ?_) fun h1=> ?_
   ·have h1:xv<yv:=by have:=(Yk xv yv).symm.trans h1;simpa using this
    exact Ue (by simp[Dv,Kz,h1])
   have h1 : ¬ xv<yv:=by have:=(Yk xv yv).symm.trans h1;simpa using this
   refine Wx (fun h2=> ?_) fun h2=> ?_
   ·have h2:xv=yv:=h2
    subst h2
    refine XR (fun h3=> ?_) fun h3=> ?_
    ·have h3:xc<yc:=h3
     exact Ue (by simp[Dv,Kz,h1,h3])
    have h3 : ¬ xc<yc:=h3
    refine Ww (fun h4=> ?_) fun h4=> ?_
    ·have h4:(xv==xv&&(xc==yc&&true))=false:=h4
     have h4:xc≠yc:=by simpa using h4
     exact Ue (by simp[Dv,Kz,h1,h3,h4])
    ·have h4:(xv==xv&&(xc==yc&&true))=true:=h4
     have h4:xc=yc:=by simpa using h4
     subst h4
     have e:Dv (⟨⟨xv⟩,xc⟩::a.t.drop (i+1)) (⟨⟨xv⟩,xc⟩::b.t.drop (i+1)) a.k b.k=Dv (a.t.drop (i+1)) (b.t.drop (i+1)) a.k b.k:=by simp[Dv,Kz,List.lt_irrefl xv]
     rw[e]
     exact h
   ·have h2 : ¬ xv=yv:=h2
    refine Ww (fun h4=>Ue (by simp[Dv,Kz,h1,h2])) fun h4=> ?_
    have h4:(xv==yv&&(xc==yc&&true))=true:=h4
    simp[h2]at h4
  ·refine XI (Cz hlb) ?_
   obtain⟨t,r,e⟩ : ∃ t r,a.t.drop i=t::r:=⟨_,_,List.drop_eq_getElem_cons hlt⟩
   rw[e,List.drop_of_length_le (show b.t.length<=i by omega)]
   refine XR (fun h1=>by simp only[List.length_map]at h1;omega) fun h1=>Wx (fun h2=>by simp only[List.length_map]at h2;omega) fun h2=>XR (fun h3=>Ue (by simp[Dv,Kz])) fun h3=>by simp only[List.length_map]at h3;omega
theorem a0t: ∀ a:Lin×Lin×Unit,Zz a.1=true->Zi Qe 0 (Ze VU (ZI (UC a.1 a.2.1))) VM [] (Xz a5a (encL a)):=by
 rintro⟨a,b,⟨⟩⟩ hl
 exact a8u a b (Fq a b (by simpa [Zz]using hl) a.t.length 0 (by omega) (by omega))
def b1y(a b:Lin):Bool:=UC a b==0
theorem a2w: ∀ a:Lin×Lin×Unit,Zz a.1=true->Zi FM 0 (Ze Pw (ZI (b1y a.1 a.2.1))) Px [] (Xz a7j (encL a)):=by
 rintro⟨a,b,⟨⟩⟩ hl
 exact a9o a b ⟨Zo (a,b,()) rfl hl,Zl (a,b,()) rfl (Yl rfl)⟩
end Go.Pl

namespace Go.Pl
open Go.RowKit
open Enc (enc dec is)
open EncL (encL decL isL)
theorem Ov(ts:List Coef)(j:Nat)(x y:Coef):List.set (List.map enc ts) j (PV.withCells (enc y) (splice (PV.cells (enc y)) 0 (PV.cells (PV.agg (VT (PV.cells (enc x)) 0 [Sh.str,Sh.int .i64])))))=List.map enc (ts.set j x):=by
 rw[List.map_set]
 rfl
theorem E8{α:Type}(f:α->PV){l:List α}{k:Nat}(h:k<l.length):(l.map f).getD (0+(k:Int).toNat) default=f l[k]:=by rw[Nat.zero_add];exact AY f h
theorem tri{x y:List UInt8}(h1 : ¬ x<y)(h2:x≠y):y<x:=Decidable.byContradiction fun h=>h2 (List.le_antisymm (List.not_lt.1 h) (List.not_lt.1 h1))
theorem NZ(s:Str)(c:Int)(t:Coef)(r:List Coef):YX s c true (t::r)=(if t.v=s then⟨t.v,Yd (t.c+c)⟩else t)::YX s c true r:=by
 rw[YX];simp only[Bool.not_true,Bool.false_and,Bool.false_eq_true,if_false,Bool.true_or,List.nil_append];split <;> rfl
theorem QP(s:Str)(c:Int)(t:Coef)(r:List Coef):YX s c false (t::r)=if s.s<t.v.s then⟨s,c⟩::t::YX s c true r else if t.v=s then⟨t.v,Yd (t.c+c)⟩::YX s c true r else t::YX s c false r:=by
 rw[YX]
 by_cases h:s.s<t.v.s
 ·have : ¬ t.v=s:=fun e=>by rw[e]at h;exact List.lt_irrefl _ h
  simp[h,this]
 ·simp[h]
theorem CK(s:Str)(c:Int): ∀ (l:List Coef),(YX s c true l).length=l.length
 | []=>by simp[YX]
 | t::l=>by rw[NZ];simp[CK s c l]
theorem Cr(s:Str)(c:Int): ∀ (l:List Coef),(YX s c false l).length<=l.length+1
 | []=>by simp[YX]
 | t::l=>by
  have h1:=CK s c l
  have h2:=Cr s c l
  rw[QP]
  split
  ·simp[h1]
  ·split <;> simp[h1] <;> omega
theorem Ev(l:Lin)(s:Str)(c:Int):(Wn l s c).t.length<=l.t.length+1:=Nat.le_trans (List.length_filter_le _ _) (Cr s c l.t)
theorem Qw{a b:Str}:a=b ↔ a.s=b.s:=⟨fun h=>by rw[h],fun h=>by cases a;cases b;cases h;rfl⟩
end Go.Pl

namespace Go.Pl
open Go.RowKit
open Enc (enc dec is)
open EncL (encL decL isL)
set_option maxRecDepth 100000
end Go.Pl

namespace Go.Pl
open Go.RowKit
open Enc (enc dec is)
open EncL (encL decL isL)
end Go.Pl

namespace Go.Pl
open Go.RowKit
open Enc (enc dec is)
open EncL (encL decL isL)
set_option maxRecDepth 100000
def Y9:IC:=(.seq (.reg [⟨(some 2),(.mv (.c (.bool false))),0,none⟩] none) (.seq (.seq (.reg [⟨(some 7),(.mv (.t 0)),0,none⟩,⟨(some 8),(.call (.c (.fn 152)) [(.t 7),(.c (.str [95]))]),0,none⟩] none) (.cond (.t 8) (.seq (.reg [⟨(some 10),(.mv (.t 0)),0,none⟩,⟨(some 11),(.strslc (.t 10) (some (.c (.int .i64 1))) none),0,none⟩,⟨(some 12),(.call (.c (.fn 182)) [(.t 11)]),0,none⟩,⟨(some 9),(.mv (.t 12)),2,none⟩,⟨(some 13),(.extract (.t 9) 0),2,none⟩,⟨(some 14),(.extract (.t 9) 1),2,none⟩,⟨(some 3),(.mv (.t 13)),2,none⟩,⟨(some 4),(.mv (.t 14)),2,none⟩] none) (.seq (.reg [⟨(some 15),(.mv (.t 4)),0,none⟩,⟨(some 16),(.bin .ifc .eql (.t 15) (.c .nili)),0,none⟩,⟨(some 17),(.mv (.t 16)),0,none⟩,⟨(some 18),(.mv (.t 3)),0,(some (17,true))⟩,⟨(some 19),(.bin .num .gtr (.t 18) (.c (.int .i64 0))),0,(some (17,true))⟩,⟨(some 20),(.pick (.t 17) (.t 19) (.c (.bool false))),0,none⟩,⟨(some 21),(.mv (.t 20)),0,none⟩,⟨(some 22),(.mv (.t 0)),0,(some (21,true))⟩,⟨(some 23),(.len 0 (.t 22)),0,(some (21,true))⟩,⟨(some 24),(.bin .num .leq (.t 23) (.c (.int .i64 10))),0,(some (21,true))⟩,⟨(some 25),(.pick (.t 21) (.t 24) (.c (.bool false))),0,none⟩,⟨(some 26),(.mv (.t 25)),0,none⟩,⟨(some 27),(.mv (.t 3)),0,(some (26,true))⟩,⟨(some 28),(.call (.c (.fn 76)) [(.t 27)]),0,(some (26,true))⟩,⟨(some 29),(.mv (.t 0)),2,(some (26,true))⟩,⟨(some 30),(.strslc (.t 29) (some (.c (.int .i64 1))) none),2,(some (26,true))⟩,⟨(some 31),(.bin .num .eql (.t 28) (.t 30)),2,(some (26,true))⟩,⟨(some 32),(.pick (.t 26) (.t 31) (.c (.bool false))),2,none⟩,⟨(some 2),(.mv (.t 32)),2,none⟩] (some [[],[0],[1,0],[2,1,0],[3,2,1,0],[2,4,1,0,3],[5,2,4,1,0,3],[6,5,2,4,1,0,3],[7,6,5,2,4,1,0,3],[8,6,7,5,2,4,1,0,3],[6,9,5,2,4,1,0,3,8,7],[10,6,9,5,2,4,1,0,3,8,7],[11,10,6,9,5,2,4,1,0,3,8,7],[12,11,10,6,9,5,2,4,1,0,3,8,7],[11,10,6,9,5,2,4,1,0,3,8,7],[14,11,10,6,9,5,2,4,1,0,3,8,7],[13,15,11,12,10,6,9,5,2,4,1,0,3,8,7,14],[11,16,10,6,9,5,2,4,1,0,3,8,7,13,15,12,14],[17,13,0,1,2,3,4,5,6,7,8,9,10,11,12,14,15,16]])) .ret)) .skip)) (.seq (.seq (.reg [⟨(some 33),(.mv (.t 0)),0,none⟩,⟨(some 34),(.sbytes (.t 33)),0,none⟩,⟨(some 35),(.len 1 (.t 34)),0,none⟩,⟨(some 36),(.mv (.c (.int .i64 0))),0,none⟩] none) (.block 0 (.loop [36,35,34,0] (.seq (.reg [⟨(some 37),(.bin .num .lss (.t 36) (.t 35)),0,none⟩] none) (.seq (.cond (.t 37) .skip (.exit 0)) (.seq (.block 1 (.seq (.reg [⟨(some 38),(.mv (.t 36)),0,none⟩,⟨(some 39),(.iaddr 1 (.t 34) (.t 36)),0,none⟩,⟨(some 40),(.load false [(.int .u8)] (.t 39)),0,none⟩,⟨(some 5),(.mv (.t 38)),0,none⟩,⟨(some 6),(.mv (.t 40)),0,none⟩] none) (.seq (.reg [⟨(some 41),(.mv (.t 6)),0,none⟩,⟨(some 42),(.bin .num .lss (.t 41) (.c (.int .u8 97))),0,none⟩,⟨(some 43),(.mv (.t 42)),0,none⟩,⟨(some 44),(.mv (.t 6)),0,(some (43,false))⟩,⟨(some 45),(.bin .num .gtr (.t 44) (.c (.int .u8 122))),0,(some (43,false))⟩,⟨(some 46),(.pick (.t 43) (.c (.bool true)) (.t 45)),0,none⟩,⟨(some 47),(.mv (.t 46)),0,none⟩,⟨(some 48),(.mv (.t 5)),0,(some (47,true))⟩,⟨(some 49),(.bin .num .eql (.t 48) (.c (.int .i64 0))),0,(some (47,true))⟩,⟨(some 50),(.mv (.t 49)),0,(some (47,true))⟩,⟨(some 51),(.mv (.t 6)),0,(some (50,false))⟩,⟨(some 52),(.bin .num .lss (.t 51) (.c (.int .u8 48))),0,(some (50,false))⟩,⟨(some 53),(.pick (.t 50) (.c (.bool true)) (.t 52)),0,(some (47,true))⟩,⟨(some 54),(.mv (.t 53)),0,(some (47,true))⟩,⟨(some 55),(.mv (.t 6)),0,(some (54,false))⟩,⟨(some 56),(.bin .num .gtr (.t 55) (.c (.int .u8 57))),0,(some (54,false))⟩,⟨(some 57),(.pick (.t 54) (.c (.bool true)) (.t 56)),0,(some (47,true))⟩,⟨(some 58),(.pick (.t 47) (.t 57) (.c (.bool false))),0,none⟩] none) (.cond (.t 58) (.seq (.reg [⟨(some 2),(.mv (.c (.bool false))),0,none⟩] none) .ret) .skip)))) (.reg [⟨(some 59),(.bin .num .add (.t 36) (.c (.int .i64 1))),0,none⟩,⟨(some 36),(.mv (.t 59)),0,none⟩] none))))))) (.seq (.reg [⟨(some 60),(.mv (.t 0)),0,none⟩,⟨(some 61),(.bin .num .neq (.t 60) (.c (.str []))),0,none⟩,⟨(some 62),(.mv (.t 61)),0,none⟩,⟨(some 63),(.mv (.t 0)),0,(some (62,true))⟩,⟨(some 64),(.len 0 (.t 63)),0,(some (62,true))⟩,⟨(some 65),(.bin .num .leq (.t 64) (.c (.int .i64 30))),0,(some (62,true))⟩,⟨(some 66),(.pick (.t 62) (.t 65) (.c (.bool false))),0,none⟩,⟨(some 2),(.mv (.t 66)),0,none⟩] none) .ret))))
def Y8:List IRes:=[(.tmp 2)]
abbrev a0x:Nat:=67
def XL:ZJ:=WI [(152,.pure (preT (fun _:Str×Str×Unit=>true)) (Zk (fun x:Str×Str×Unit=>x.2.1.s.isPrefixOf x.1.s))),(182,.pure (preT (fun x:Str×Unit=>decide (x.1.s.length<=1000000))) (Zk (fun x:Str×Unit=>ZU x.1))),(76,.pure (preT (fun x:Int×Unit=>decide (-9223372036854775808<=x.1)&&decide (x.1<=9223372036854775807))) (Zk (fun x:Int×Unit=>ZC x.1)))]
theorem a3z{G:PV->Prop}(s:List UInt8)(h : ∃ y0:Bool,AV.pv (Zk (fun(x:Str×Str×Unit)=>List.isPrefixOf (Str.s x.2.1) (Str.s x.1)) [(.str s),(.str [(95:UInt8)])])=AV.pv (enc y0)∧(if (y0)=true then(decide (0<=1)&&true&&decide (Int.toNat 1<=List.length s)&&decide (List.length s<=List.length s))=true∧((Go.Pl.preT (fun(x:Str×Unit)=>decide (List.length (Str.s x.1)<=1000000)) [(.str (List.drop (Int.toNat 1) (List.take (List.length s) s)))])=true∧(∃ y1:Int×Er,AV.pv (Zk (fun(x:Str×Unit)=>ZU x.1) [(.str (List.drop (Int.toNat 1) (List.take (List.length s) s)))])=AV.pv (enc y1)∧((JN (enc y1.2)&&Prod.fst (true,PV.bool (Vb (enc y1.2))))=true∧(if (Vb (enc y1.2))=true then if (decide (y1.1>0))=true then if (decide ((↑(List.length s):Int)<=10))=true then(Go.Pl.preT (fun(x:Int×Unit)=>decide ((-9223372036854775808:Int)<=x.1)&&decide (x.1<=9223372036854775807)) [(.int .i64 y1.1)])=true∧(∃ y2:Str,AV.pv (Zk (fun(x:Int×Unit)=>ZC x.1) [(.int .i64 y1.1)])=AV.pv (enc y2)∧((decide (0<=1)&&true&&decide (Int.toNat 1<=List.length s)&&decide (List.length s<=List.length s))=true∧(G ((.bool (Str.s y2==List.drop (Int.toNat 1) (List.take (List.length s) s)))))))else(G ((.bool false)))else(G ((.bool false)))else(G ((.bool false)))))))else(At XL 0 (Ze Y8 G) Y9 0 67 [(0,(.pv (.str s))),(34,(.pv (.sl 1 false (ZM s)))),(35,(.pv (.int .i64 (↑(List.length (ZM s)):Int)))),(36,(.pv (.int .i64 0)))] []))):Zi XL 0 (Ze Y8 G) Y9 [] (Xz 67 [.str s]):=Zi.tp (.lit (.abs (Bool) (fun YY=>AV.pv (enc YY)) (.ask (.req (.req (.abs (Int×Er) (fun YY=>AV.pv (enc YY)) (.req (.ask (.lit (.lit (.lit (.ask (.lit (.lit (.lit (.lit (.ask (.lit (.req (.abs (Str) (fun YY=>AV.pv (enc YY)) (.lit (.lit (.req (.lit (.lit (.lit (.nil)))))))))) (.lit (.lit (.lit (.lit (.lit (.nil))))))))))) (.lit (.lit (.lit (.lit (.lit (.lit (.lit (.lit (.lit (.nil)))))))))))))) (.lit (.lit (.lit (.lit (.lit (.lit (.lit (.lit (.lit (.lit (.lit (.lit (.nil)))))))))))))))))) (.nil)))) h (by kernel_rfl)
theorem Ta{G:PV->Prop}(s:List UInt8)(i:Int)(h:if (decide (i<(↑(List.length (ZM s)):Int)))=true then(decide (0<=i)&&decide (Int.toNat i<List.length (ZM s))&&1==1)=true∧((decide (0+List.length [Sh.int IntKind.u8]<=List.length (PV.cells (List.getD (ZM s) (Int.toNat i) default)))&&U2 (PV.cells (List.getD (ZM s) (Int.toNat i) default)) 0 [Sh.int IntKind.u8])=true∧(if (decide (PV.asInt (List.getD (PV.cells (List.getD (ZM s) (Int.toNat i) default)) 0 default)<97))=true then if (i==0)=true then G ((.bool false))else(if (decide (PV.asInt (List.getD (PV.cells (List.getD (ZM s) (Int.toNat i) default)) 0 default)<48))=true then G ((.bool false))else(if (decide (PV.asInt (List.getD (PV.cells (List.getD (ZM s) (Int.toNat i) default)) 0 default)>57))=true then G ((.bool false))else(At XL 0 (Ze Y8 G) Y9 0 67 [(0,(.pv (.str s))),(34,(.pv (.sl 1 false (ZM s)))),(35,(.pv (.int .i64 (↑(List.length (ZM s)):Int)))),(36,(.pv (.int .i64 (IntKind.wrap IntKind.i64 (i+1)))))] [])))else(if (decide (PV.asInt (List.getD (PV.cells (List.getD (ZM s) (Int.toNat i) default)) 0 default)>122))=true then if (i==0)=true then G ((.bool false))else(if (decide (PV.asInt (List.getD (PV.cells (List.getD (ZM s) (Int.toNat i) default)) 0 default)<48))=true then G ((.bool false))else(if (decide (PV.asInt (List.getD (PV.cells (List.getD (ZM s) (Int.toNat i) default)) 0 default)>57))=true then G ((.bool false))else(At XL 0 (Ze Y8 G) Y9 0 67 [(0,(.pv (.str s))),(34,(.pv (.sl 1 false (ZM s)))),(35,(.pv (.int .i64 (↑(List.length (ZM s)):Int)))),(36,(.pv (.int .i64 (IntKind.wrap IntKind.i64 (i+1)))))] [])))else(At XL 0 (Ze Y8 G) Y9 0 67 [(0,(.pv (.str s))),(34,(.pv (.sl 1 false (ZM s)))),(35,(.pv (.int .i64 (↑(List.length (ZM s)):Int)))),(36,(.pv (.int .i64 (IntKind.wrap IntKind.i64 (i+1)))))] []))))else(if (!s==[])=true then G ((.bool (decide ((↑(List.length s):Int)<=30))))else(G ((.bool false))))):At XL 0 (Ze Y8 G) Y9 0 67 [(0,.pv (.str s)),(34,.pv (.sl 1 false (ZM s))),(35,.pv (.int .i64 (ZM s).length)),(36,.pv (.int .i64 i))] []:=At.tp (.lit (.ask (.req (.keep (.req (.lit (.ask (.lit (.lit (.lit (.lit (.lit (.lit (.ask (.lit (.lit (.lit (.lit (.lit (.lit (.lit (.lit (.lit (.lit (.nil))))))))))) (.lit (.lit (.lit (.lit (.lit (.ask (.lit (.lit (.lit (.lit (.lit (.nil)))))) (.lit (.lit (.lit (.lit (.lit (.ask (.nil) (.lit (.nil))))))))))))))))))))) (.lit (.lit (.lit (.ask (.lit (.lit (.lit (.ask (.lit (.lit (.lit (.lit (.lit (.lit (.lit (.lit (.lit (.lit (.nil))))))))))) (.lit (.lit (.lit (.lit (.lit (.ask (.lit (.lit (.lit (.lit (.lit (.nil)))))) (.lit (.lit (.lit (.lit (.lit (.ask (.nil) (.lit (.nil)))))))))))))))))) (.lit (.lit (.lit (.lit (.lit (.lit (.lit (.lit (.nil)))))))))))))))))) (.lit (.ask (.lit (.lit (.lit (.lit (.nil))))) (.lit (.lit (.lit (.nil)))))))) h (by kernel_rfl)
def Xx:IC:=(.seq (.reg [⟨(some 1),(.box 2 (.t 0)),0,none⟩,⟨(some 2),(.mv (.c (.bool false))),1,none⟩] none) (.seq (.seq (.reg [⟨(some 5),(.faddr 1 (.t 1)),0,none⟩,⟨(some 6),(.load false [(.sl 2)] (.t 5)),0,none⟩,⟨(some 7),(.len 1 (.t 6)),0,none⟩,⟨(some 8),(.mv (.c (.int .i64 0))),0,none⟩] none) (.block 0 (.loop [8,7,6,1] (.seq (.reg [⟨(some 9),(.bin .num .lss (.t 8) (.t 7)),0,none⟩] none) (.seq (.cond (.t 9) .skip (.exit 0)) (.seq (.block 1 (.seq (.reg [⟨(some 10),(.mv (.t 8)),0,none⟩,⟨(some 11),(.iaddr 2 (.t 6) (.t 8)),0,none⟩,⟨(some 12),(.load true [.str,(.int .i64)] (.t 11)),0,none⟩,⟨(some 4),(.alloc (.agg [(.str []),(.int .i64 0)])),0,none⟩,⟨(some 3),(.mv (.t 10)),1,none⟩,⟨none,(.store 2 (.t 4) (.t 12)),1,none⟩] none) (.seq (.reg [⟨(some 13),(.faddr 0 (.t 4)),0,none⟩,⟨(some 14),(.load false [.str] (.t 13)),0,none⟩,⟨(some 15),(.call (.c (.fn 119)) [(.t 14)]),0,none⟩,⟨(some 16),(.un .not (.t 15)),2,none⟩,⟨(some 17),(.mv (.t 16)),2,none⟩,⟨(some 18),(.faddr 1 (.t 4)),2,(some (17,false))⟩,⟨(some 19),(.load false [(.int .i64)] (.t 18)),2,(some (17,false))⟩,⟨(some 20),(.bin .num .eql (.t 19) (.c (.int .i64 0))),2,(some (17,false))⟩,⟨(some 21),(.pick (.t 17) (.c (.bool true)) (.t 20)),2,none⟩,⟨(some 22),(.mv (.t 21)),2,none⟩,⟨(some 23),(.faddr 1 (.t 4)),2,(some (22,false))⟩,⟨(some 24),(.load false [(.int .i64)] (.t 23)),2,(some (22,false))⟩,⟨(some 25),(.call (.c (.fn 144)) [(.t 24)]),2,(some (22,false))⟩,⟨(some 26),(.un .not (.t 25)),4,(some (22,false))⟩,⟨(some 27),(.pick (.t 22) (.c (.bool true)) (.t 26)),4,none⟩,⟨(some 28),(.mv (.t 27)),4,none⟩,⟨(some 29),(.mv (.t 3)),4,(some (28,false))⟩,⟨(some 30),(.bin .num .gtr (.t 29) (.c (.int .i64 0))),4,(some (28,false))⟩,⟨(some 31),(.mv (.t 30)),4,(some (28,false))⟩,⟨(some 32),(.faddr 1 (.t 1)),4,(some (31,true))⟩,⟨(some 33),(.load false [(.sl 2)] (.t 32)),4,(some (31,true))⟩,⟨(some 34),(.mv (.t 3)),4,(some (31,true))⟩,⟨(some 35),(.bin .num .sub (.t 34) (.c (.int .i64 1))),4,(some (31,true))⟩,⟨(some 36),(.iaddr 2 (.t 33) (.t 35)),4,(some (31,true))⟩,⟨(some 37),(.faddr 0 (.t 36)),4,(some (31,true))⟩,⟨(some 38),(.load false [.str] (.t 37)),4,(some (31,true))⟩,⟨(some 39),(.faddr 0 (.t 4)),4,(some (31,true))⟩,⟨(some 40),(.load false [.str] (.t 39)),4,(some (31,true))⟩,⟨(some 41),(.bin .num .geq (.t 38) (.t 40)),4,(some (31,true))⟩,⟨(some 42),(.pick (.t 31) (.t 41) (.c (.bool false))),4,(some (28,false))⟩,⟨(some 43),(.pick (.t 28) (.c (.bool true)) (.t 42)),4,none⟩] (some [[],[0],[1,0],[2,1,0],[3,2,1,0],[4,3,2,1,0],[5,4,3,2,1,0],[6,4,5,3,2,1,0],[4,7,3,2,1,0,6,5],[8,4,7,3,2,1,0,6,5],[9,8,4,7,3,2,1,0,6,5],[10,9,8,4,7,3,2,1,0,6,5],[11,9,10,8,4,7,3,2,1,0,6,5],[12,9,11,10,8,4,7,3,2,1,0,6,5],[9,13,8,4,7,3,2,1,0,6,5,12,11,10],[14,12,9,13,8,4,7,3,2,1,0,6,5,11,10],[15,14,12,9,13,8,4,7,3,2,1,0,6,5,11,10],[16,15,14,12,9,13,8,4,7,3,2,1,0,6,5,11,10],[17,15,16,14,12,9,13,8,4,7,3,2,1,0,6,5,11,10],[18,17,15,16,14,12,9,13,8,4,7,3,2,1,0,6,5,11,10],[19,18,17,15,16,14,12,9,13,8,4,7,3,2,1,0,6,5,11,10],[18,17,15,16,14,12,9,13,8,4,7,3,2,1,0,6,5,11,10],[21,18,17,15,16,14,12,9,13,8,4,7,3,2,1,0,6,5,11,10],[20,22,18,19,17,15,16,14,12,9,13,8,4,7,3,2,1,0,6,5,11,10,21],[23,18,20,22,19,17,15,16,14,12,9,13,8,4,7,3,2,1,0,6,5,11,10,21],[24,18,23,20,22,19,17,15,16,14,12,9,13,8,4,7,3,2,1,0,6,5,11,10,21],[18,17,15,16,14,12,9,13,8,4,7,3,2,1,0,6,5,11,10],[26,18,17,15,16,14,12,9,13,8,4,7,3,2,1,0,6,5,11,10],[25,27,18,24,23,20,22,19,17,15,16,14,12,9,13,8,4,7,3,2,1,0,6,5,11,10,21,26],[18,28,15,17,16,14,12,9,13,8,4,7,3,2,1,0,6,5,11,10,25,27,24,23,20,22,19,21,26],[15,29,14,12,9,13,8,4,7,3,2,1,0,6,5,11,10,18,28,17,16,25,27,24,23,20,22,19,21,26]])) (.cond (.t 43) (.seq (.reg [⟨(some 2),(.mv (.c (.bool false))),0,none⟩] none) .ret) .skip)))) (.reg [⟨(some 44),(.bin .num .add (.t 8) (.c (.int .i64 1))),0,none⟩,⟨(some 8),(.mv (.t 44)),0,none⟩] none))))))) (.seq (.reg [⟨(some 45),(.faddr 0 (.t 1)),0,none⟩,⟨(some 46),(.load false [(.int .i64)] (.t 45)),0,none⟩,⟨(some 47),(.call (.c (.fn 144)) [(.t 46)]),0,none⟩,⟨(some 48),(.mv (.t 47)),2,none⟩,⟨(some 49),(.faddr 1 (.t 1)),2,(some (48,true))⟩,⟨(some 50),(.load false [(.sl 2)] (.t 49)),2,(some (48,true))⟩,⟨(some 51),(.len 1 (.t 50)),2,(some (48,true))⟩,⟨(some 52),(.bin .num .leq (.t 51) (.c (.int .i64 12))),2,(some (48,true))⟩,⟨(some 53),(.pick (.t 48) (.t 52) (.c (.bool false))),2,none⟩,⟨(some 2),(.mv (.t 53)),2,none⟩] none) .ret)))
def Xv:List IRes:=[(.tmp 2)]
abbrev LG:Nat:=54
def We:ZJ:=WI [(144,.pure (preT (fun _:Int×Unit=>true)) (Zk (fun x:Int×Unit=>Z7 x.1))),(119,.pure (preT (fun x:Str×Unit=>decide (x.1.s.length<=1000000))) (Zk (fun x:Str×Unit=>Zr x.1)))]
theorem a0m{G:PV->Prop}(l:Lin)(h:At We 0 (Ze Xv G) Xx 0 54 [(1,(.ptr 0 0)),(6,(.pv (.sl 2 false (List.map enc l.t)))),(7,(.pv (.int .i64 (↑(List.length (List.map enc l.t)):Int)))),(8,(.pv (.int .i64 0)))] [(.obj (.box [(.pv (.int .i64 l.k)),(.pv (.sl 2 false (List.map enc l.t)))]))]):Zi We 0 (Ze Xv G) Xx [] (Xz 54 [enc l]):=Zi.tp (.nil) h (by kernel_rfl)
theorem Bb{G:PV->Prop}(l:Lin)(i:Int)(h:if (decide (i<(↑(List.length l.t):Int)))=true then(decide (0<=i)&&decide (Int.toNat i<List.length (List.map enc l.t))&&Enc.sz Coef==2)=true∧(∃ y0:Coef,AV.pv (PV.rptr (PV.cells (List.getD (List.map enc l.t) (Int.toNat i) default)))=AV.pv (PV.rptr (PV.cells ((enc) y0)))∧((Go.Pl.preT (fun(x:Str×Unit)=>decide (List.length (Str.s x.1)<=1000000)) [(.str (PV.asStr (List.getD (PV.cells (enc y0)) 0 default)))])=true∧(∃ y1:Bool,AV.pv (Zk (fun(x:Str×Unit)=>Zr x.1) [(.str (PV.asStr (List.getD (PV.cells (enc y0)) 0 default)))])=AV.pv (enc y1)∧(if (!y1)=true then G ((.bool false))else(if (PV.asInt (List.getD (PV.cells (enc y0)) (0+1) default)==0)=true then G ((.bool false))else(∃ y2:Bool,AV.pv (Zk (fun(x:Int×Unit)=>Z7 x.1) [(.int .i64 (PV.asInt (List.getD (PV.cells (enc y0)) (0+1) default)))])=AV.pv (enc y2)∧(if (!y2)=true then G ((.bool false))else(if (decide (i>0))=true then(decide (0<=IntKind.wrap IntKind.i64 (i - 1))&&decide (Int.toNat (IntKind.wrap IntKind.i64 (i - 1))<List.length (List.map enc l.t))&&Enc.sz Coef==2)=true∧(∃ y3:Coef,AV.pv (PV.rptr (PV.cells (List.getD (List.map enc l.t) (Int.toNat (IntKind.wrap IntKind.i64 (i - 1))) default)))=AV.pv (PV.rptr (PV.cells ((enc) y3)))∧(if (!Op.bytesLess (PV.asStr (List.getD (List.drop 0 (PV.cells (enc y3))) 0 default)) (PV.asStr (List.getD (PV.cells (enc y0)) 0 default)))=true then G ((.bool false))else(At We 0 (Ze Xv G) Xx 0 54 [(1,(.ptr 0 0)),(6,(.pv (.sl 2 false (List.map enc l.t)))),(7,(.pv (.int .i64 (↑(List.length l.t):Int)))),(8,(.pv (.int .i64 (IntKind.wrap IntKind.i64 (i+1)))))] [(.obj (.box [(.pv (.int .i64 l.k)),(.pv (.sl 2 false (List.map enc l.t)))]))])))else(At We 0 (Ze Xv G) Xx 0 54 [(1,(.ptr 0 0)),(6,(.pv (.sl 2 false (List.map enc l.t)))),(7,(.pv (.int .i64 (↑(List.length l.t):Int)))),(8,(.pv (.int .i64 (IntKind.wrap IntKind.i64 (i+1)))))] [(.obj (.box [(.pv (.int .i64 l.k)),(.pv (.sl 2 false (List.map enc l.t)))]))])))))))))else(∃ y4:Bool,AV.pv (Zk (fun(x:Int×Unit)=>Z7 x.1) [(.int .i64 l.k)])=AV.pv (enc y4)∧(if (y4)=true then G ((.bool (decide ((↑(List.length (List.map enc l.t)):Int)<=12))))else(G ((.bool false)))))):At We 0 (Ze Xv G) Xx 0 54 [(1,.ptr 0 0),(6,.pv (enc l.t)),(7,.pv (.int .i64 l.t.length)),(8,.pv (.int .i64 i))] [.obj (.box [.pv (.int .i64 l.k),.pv (enc l.t)])]:=At.tp (.lit (.ask (.req (.abs (Coef) (fun YY=>AV.pv (PV.rptr (PV.cells ((enc) YY)))) (.lit (.req (.abs (Bool) (fun YY=>AV.pv (enc YY)) (.ask (.lit (.lit (.lit (.lit (.lit (.lit (.lit (.lit (.lit (.lit (.lit (.lit (.lit (.lit (.nil))))))))))))))) (.lit (.lit (.lit (.lit (.ask (.lit (.lit (.lit (.lit (.lit (.lit (.lit (.lit (.lit (.lit (.nil))))))))))) (.lit (.lit (.lit (.abs (Bool) (fun YY=>AV.pv (enc YY)) (.lit (.lit (.ask (.lit (.lit (.lit (.lit (.lit (.nil)))))) (.lit (.lit (.lit (.ask (.lit (.lit (.lit (.lit (.lit (.req (.abs (Coef) (fun YY=>AV.pv (PV.rptr (PV.cells ((enc) YY)))) (.lit (.lit (.lit (.lit (.lit (.lit (.lit (.lit (.lit (.lit (.ask (.nil) (.lit (.nil)))))))))))))))))))) (.lit (.lit (.lit (.lit (.lit (.lit (.lit (.lit (.lit (.lit (.lit (.lit (.lit (.lit (.nil))))))))))))))))))))))))))))))))))))) (.lit (.abs (Bool) (fun YY=>AV.pv (enc YY)) (.ask (.lit (.lit (.lit (.lit (.lit (.nil)))))) (.lit (.lit (.lit (.lit (.nil)))))))))) h (by kernel_rfl)
end Go.Pl

namespace Go.Pl
open Go.RowKit
open Enc (enc dec is)
open EncL (encL decL isL)
theorem a0u{s:List UInt8}{i:Nat}(h:i<s.length):List.getD (ZM s) (Int.toNat (i:Int)) default = .int .u8 (s[i].toNat:Int):=by
 simp[ZM,List.getD,h]
theorem Jt(s:List UInt8):(ZM s).length=s.length:=by simp[ZM]
def Tv(c:UInt8):Bool:=ZT c||Zj c
theorem Mj{c:UInt8}:ZT c=true ↔ 97<=c.toNat∧c.toNat<=122:=by
 simp only[ZT,Bool.and_eq_true,decide_eq_true_eq,UInt8.le_iff_toNat_le]
 have e1:(97:UInt8).toNat=97:=rfl
 have e2:(122:UInt8).toNat=122:=rfl
 rw[e1,e2]
theorem CL{c:UInt8}(h : ¬ (97<=c.toNat∧c.toNat<=122)):ZT c=false:=by
 cases e:ZT c
 ·rfl
 ·exact absurd (Mj.1 e) h
theorem C9{c:UInt8}(h : ¬ (48<=c.toNat∧c.toNat<=57)):Zj c=false:=by
 cases e:Zj c
 ·rfl
 ·exact absurd (YQ.1 e) h
def Wz(s:List UInt8)(i:Nat):Bool:=(match i with|0=>(match s with|[]=>true|c::r=>ZT c&&r.all Tv)|i+1=>(s.drop (i+1)).all Tv)&&(!(s==[]))&&decide (s.length<=30)
theorem Ld{s:List UInt8}{i:Nat}(h:i<s.length)(hb:ZT s[i]=true∨(i≠0∧Zj s[i]=true)):Wz s i=Wz s (i+1):=by
 cases i with
 | zero=>
  cases s with
  | nil=>simp at h
  | cons c r=>
   rcases hb with hb|hb
   ·have hb:ZT c=true:=hb
    simp[Wz,hb]
   ·exact absurd rfl hb.1
 | succ i=>
  unfold Wz
  simp only
  rw[List.drop_eq_getElem_cons h,List.all_cons]
  have:Tv s[i+1]=true:=by
   rcases hb with hb|hb
   ·simp[Tv,hb]
   ·simp[Tv,hb.2]
  rw[this,Bool.true_and]
theorem LZ{s:List UInt8}{i:Nat}(h:i<s.length)(hb:ZT s[i]=false∧(i=0∨Zj s[i]=false)):Wz s i=false:=by
 cases i with
 | zero=>
  cases s with
  | nil=>simp at h
  | cons c r=>
   have hb:ZT c=false:=hb.1
   simp[Wz,hb]
 | succ i=>
  unfold Wz
  simp only
  rw[List.drop_eq_getElem_cons h,List.all_cons]
  have:Tv s[i+1]=false:=by
   rcases hb.2 with h0|h0
   ·cases h0
   ·simp[Tv,hb.1,h0]
  rw[this];simp
theorem RQ(s:List UInt8)(hs:s.length<=1000000): ∀ (m i:Nat),m+i=s.length->At XL 0 (Ze Y8 (ZI (Wz s i))) Y9 0 67 [(0,.pv (.str s)),(34,.pv (.sl 1 false (ZM s))),(35,.pv (.int .i64 (ZM s).length)),(36,.pv (.int .i64 i))] []:=by
 intro m
 induction m with
 | zero=>
  intro i hi
  have e:Wz s i=(!(s==[])&&decide (s.length<=30)):=by
   unfold Wz
   cases i with
   | zero=>cases s with
    | nil=>rfl
    | cons c r=>simp at hi
   | succ i=>simp only;rw[List.drop_of_length_le (show s.length<=i+1 by omega)];simp
  rw[e]
  refine Ta s i (XI (Wj (by rw[Jt];omega)) (Vf (fun h=>Yl ?_) fun h=>Yl ?_))
  ·rw[h,Bool.true_and];exact decide_eq_decide.2 (by omega)
  ·rw[h,Bool.false_and]
 | succ m ih=>
  intro i hi
  have hlt:i<s.length:=by omega
  have h:=ih (i+1) (by omega)
  refine Ta s i ?_
  rw[a0u hlt,next (by omega)]
  have stop:(ZT s[i]=false∧(i=0∨Zj s[i]=false))->ZI (Wz s i) (.bool false):=fun hb=>Yl (LZ hlt hb).symm
  have go:(ZT s[i]=true∨(i≠0∧Zj s[i]=true))->At XL 0 (Ze Y8 (ZI (Wz s i))) Y9 0 67 [(0,.pv (.str s)),(34,.pv (.sl 1 false (ZM s))),(35,.pv (.int .i64 (ZM s).length)),(36,.pv (.int .i64 ((i+1:Nat):Int)))] []:=fun hb=>by rw[Ld hlt hb];exact h
  have rest:ZT s[i]=false->(if ((i:Int)==0)=true then ZI (Wz s i) (.bool false)else if decide ((s[i].toNat:Int)<48)=true then ZI (Wz s i) (.bool false)else if decide ((s[i].toNat:Int)>57)=true then ZI (Wz s i) (.bool false)else At XL 0 (Ze Y8 (ZI (Wz s i))) Y9 0 67 [(0,.pv (.str s)),(34,.pv (.sl 1 false (ZM s))),(35,.pv (.int .i64 (ZM s).length)),(36,.pv (.int .i64 ((i+1:Nat):Int)))] []):=by
   intro hl
   refine Wx (fun h0=>stop ⟨hl,.inl (by omega)⟩) fun h0=>XR (fun h1=>stop ⟨hl,.inr (C9 (by omega))⟩) fun h1=>XR (fun h2=>stop ⟨hl,.inr (C9 (by omega))⟩) fun h2=>go (.inr ⟨by omega,YQ.2 (by omega)⟩)
  refine YF (Wv (by rw[Jt];exact hlt)) ⟨by rw[Jt];simp[hlt],by rfl,?_⟩
  refine XR (fun h1=>rest (CL ?_)) fun h1=>XR (fun h2=>rest (CL ?_)) fun h2=>go (.inl (Mj.2 ?_))
  ·have h1:(s[i].toNat:Int)<97:=h1
   omega
  ·have h2:(s[i].toNat:Int)>122:=h2
   omega
  ·have h1 : ¬ (s[i].toNat:Int)<97:=h1
   have h2 : ¬ (s[i].toNat:Int)>122:=h2
   omega
theorem MX{s:List UInt8}(h:[95].isPrefixOf s=false):Zr ⟨s⟩=Wz s 0:=by
 cases s with
 | nil=>rfl
 | cons c r=>
  have hc : ¬ c=95:=by intro e;subst e;simp at h
  have e:decide ((c::r).length<=30)=decide (r.length<=29):=decide_eq_decide.2 (by simp)
  unfold Wz
  rw[e]
  simp only[Zr,if_neg hc]
  show _=(ZT c&&r.all Tv&& !((c::r)==[])&&_)
  have e2:((c::r)==[])=false:=rfl
  rw[e2]
  simp only[Bool.not_false,Bool.and_true]
  rfl
theorem R7(s:Str): -9223372036854775808<=(ZU s).1∧((ZU s).1<=9223372036854775807):=by
 unfold ZU
 split
 ·rename_i v hv;exact Lib.atoiAll_bounds hv
 ·have:=Lib.atoiSat_bounds s.s
  exact⟨by show _<=Lib.atoiSat s.s;omega,by show Lib.atoiSat s.s<=_;omega⟩
 ·exact⟨by show(-9223372036854775808:Int)<=0;omega,by show(0:Int)<=_;omega⟩
theorem Fz: ∀ a:Str×Unit,decide (a.1.s.length<=1000000)=true->Zi XL 0 (Ze Y8 (ZI (Zr a.1))) Y9 [] (Xz a0x (encL a)):=by
 rintro⟨⟨s⟩,⟨⟩⟩ hl
 have hl:s.length<=1000000:=by simpa using hl
 refine a3z s (Zl (⟨s⟩,⟨[95]⟩,()) rfl (Vf (fun h=> ?_) fun h=> ?_))
 ·have h:[95].isPrefixOf s=true:=h
  obtain⟨r,rfl⟩ : ∃ r,s=95::r:=by
   cases s with
   | nil=>simp at h
   | cons c r=>
    have:95=c:=by simpa using h
    exact⟨r,by rw[this]⟩
  have e1:List.drop (Int.toNat 1) (List.take (List.length (95::r)) (95::r))=r:=by rw[List.take_of_length_le (Nat.le_refl _)];rfl
  simp only[e1]
  refine⟨by simp,Zo (⟨r⟩,()) rfl (by simp at hl ⊢;omega),Zl (⟨r⟩,()) rfl ⟨by show(JN (enc (ZU ⟨r⟩).2)&&true)=true;rw[a9t];rfl,?_⟩⟩
  show if Vb (enc (ZU ⟨r⟩).2)=true then(if decide ((ZU ⟨r⟩).1>0)=true then(if _ then _ else ZI (Zr ⟨95::r⟩) _)else ZI (Zr ⟨95::r⟩) _)else ZI (Zr ⟨95::r⟩) _
  rw[F5]
  by_cases h9:r.length<=9
  ·rw[<- a3j r h9,decide_eq_true h9,Bool.and_true]
   refine Vf (fun h1=>Vf (fun h2=>YF (by simp;omega) ⟨Zo ((ZU ⟨r⟩).1,()) rfl (by have:=R7 ⟨r⟩;simp;omega),Zl ((ZU ⟨r⟩).1,()) rfl ⟨by simp,Yl ?_⟩⟩) fun h2=>Yl ?_) fun h1=>Yl ?_
   ·rw[h1,h2];simp only[Bool.true_and,Bool.and_true];rfl
   ·rw[h2];simp
   ·rw[h1];simp
  ·rw[decide_eq_false h9,Bool.and_false]
   refine Vf (fun h1=>Vf (fun h2=>XI (by simp;omega) (Yl rfl)) fun h2=>Yl rfl) fun h1=>Yl rfl
 ·have h:[95].isPrefixOf s=false:=h
  show At XL 0 (Ze Y8 (ZI (Zr ⟨s⟩))) Y9 0 67 _ _
  rw[MX h]
  exact RQ s hl s.length 0 (by omega)
theorem A9(l:Lin)(hl:l.t.length<=9223372036854775807)(hs:l.t.all (fun t=>decide (t.v.s.length<=1000000))=true): ∀ (j i:Nat),j+i=l.t.length->At We 0 (Ze Xv (ZI (Gv (EN l.t i) (l.t.drop i)&&(Z7 l.k&&decide (l.t.length<=12))))) Xx 0 54 [(1,.ptr 0 0),(6,.pv (enc l.t)),(7,.pv (.int .i64 l.t.length)),(8,.pv (.int .i64 i))] [.obj (.box [.pv (.int .i64 l.k),.pv (enc l.t)])]:=by
 intro j
 induction j with
 | zero=>
  intro i hi
  refine Bb l i (XI (Wj (by omega)) (Zl (l.k,()) rfl ?_))
  rw[List.drop_of_length_le (show l.t.length<=i by omega)]
  refine Vf (fun h=>Yl ?_) fun h=>Yl ?_
  ·have h:Z7 l.k=true:=h
   rw[h]
   show _=(true&&(true&&_))
   rw[Bool.true_and,Bool.true_and]
   exact decide_eq_decide.2 (by simp;omega)
  ·have h:Z7 l.k=false:=h
   rw[h];simp
 | succ j ih=>
  intro i hi
  have hlt:i<l.t.length:=by omega
  have h:=ih (i+1) (by omega)
  have hsi:l.t[i].v.s.length<=1000000:=by rw[List.all_eq_true]at hs;simpa using hs _ (List.getElem_mem hlt)
  refine Bb l i ?_
  refine YF (Wv hlt) ⟨XD hlt rfl,WT hlt ⟨Zo (l.t[i].v,()) rfl (by simpa using hsi),Zl (l.t[i].v,()) rfl (Ww (fun hn=> ?_) fun hn=>Wx (fun hc=> ?_) fun hc=>Zl (l.t[i].c,()) rfl (Ww (fun hk=> ?_) fun hk=> ?_))⟩⟩
  all_goals rw[List.drop_eq_getElem_cons hlt,Ko]
  ·have hn:Zr l.t[i].v=false:=hn
   exact Yl (by simp[hn])
  ·have hc:l.t[i].c=0:=hc
   exact Yl (by simp[hc])
  ·have hk:Z7 l.t[i].c=false:=hk
   exact Yl (by simp[hk])
  have hn:Zr l.t[i].v=true:=hn
  have hk:Z7 l.t[i].c=true:=hk
  have hc:l.t[i].c≠0:=hc
  rw[next (by omega),hn,hk,decide_eq_true hc]
  have ep:EN l.t (i+1)=some l.t[i].v.s:=by simp[EN,hlt]
  rw[ep]at h
  cases i with
  | zero=>exact XI (by simp) h
  | succ i=>
   refine YF (by simp) ?_
   rw[Nc (by omega)]
   refine⟨XD (by omega) rfl,WT (by omega) ?_⟩
   have e2:EN l.t (i+1)=some l.t[i].v.s:=by simp[EN,show i<l.t.length by omega]
   rw[e2]
   refine Ww (fun hb=> ?_) fun hb=> ?_
   all_goals
    have hb':=(Yk l.t[i].v.s l.t[i+1].v.s).symm.trans hb
    simp only[hb',Bool.and_true,Bool.true_and,Bool.and_false,Bool.false_and]
   ·exact Yl rfl
   ·exact h
theorem PY: ∀ a:Lin×Unit,Zu a.1=true->Zi We 0 (Ze Xv (ZI (Zh a.1))) Xx [] (Xz LG (encL a)):=by
 rintro⟨l,⟨⟩⟩ hl
 simp only[Zu,Zz,Bool.and_eq_true,decide_eq_true_eq]at hl
 refine a0m l ?_
 show At We 0 (Ze Xv (ZI (Zh l))) Xx 0 54 _ _
 have e:Zh l=(Gv (EN l.t 0) (l.t.drop 0)&&(Z7 l.k&&decide (l.t.length<=12))):=by rw[Tm,Bool.and_comm];rfl
 rw[e,List.length_map]
 exact A9 l hl.1 hl.2 l.t.length 0 (by omega)
end Go.Pl

namespace Go.Pl
open Go.RowKit
open Enc (enc dec is)
open EncL (encL decL isL)
structure LR where
 k:Int
 w:Nat
 ts:List Coef
def LR.view(r:LR):Lin:=⟨r.k,r.ts.take r.w⟩
def LR.av(r:LR)(l:Nat):AV:=.agg [.pv (.int .i64 r.k),.row l r.ts.length 0 r.w]
def LR.ob(r:LR):AObj:=.row false 61 2 (r.ts.map enc)
def U7:Nat->Nat->Nat->List Coef->List Coef×Nat
 | 0,_,j,ts=>(ts,j)
 | m+1,i,j,ts=>if (ts.getD i ⟨⟨[]⟩,0⟩).c=0 then U7 m (i+1) j ts else U7 m (i+1) (j+1) (ts.set j (ts.getD i ⟨⟨[]⟩,0⟩))
def CP(k:Int)(o:List Coef):LR:=⟨k,(U7 o.length 0 0 o).2,(U7 o.length 0 0 o).1⟩
def JL(l:Lin)(s:Str)(c:Int):LR:=CP l.k (YX s c false l.t)
theorem Ja(o:List Coef): ∀ (m i j:Nat) (ts:List Coef),m+i=o.length->ts.length=o.length->j<=i->ts.take j=(o.take i).filter (fun t=>decide (t.c≠0))->ts.drop i=o.drop i->(U7 m i j ts).1.take (U7 m i j ts).2=o.filter fun t=>decide (t.c≠0)
 | 0,i,j,ts,hm,hts,hji,h1,h2=>by
  rw[U7]
  show ts.take j=_
  rw[h1,List.take_of_length_le (by omega)]
 | m+1,i,j,ts,hm,hts,hji,h1,h2=>by
  have hlt:i<o.length:=by omega
  have hi':i<ts.length:=by omega
  have hj':j<ts.length:=by omega
  have ei:ts[i]=o[i]:=by
   have:(ts.drop i)[0]? = (o.drop i)[0]? :=by rw[h2]
   simpa [hi',hlt]using this
  have htk:(o.take (i+1))=o.take i++[o[i]]:=by rw[List.take_add_one,List.getElem?_eq_getElem hlt];rfl
  have eg:ts.getD i ⟨⟨[]⟩,0⟩=ts[i]:=by simp[List.getD,hi']
  rw[U7,eg]
  split
  ·rename_i hz
   refine Ja o m (i+1) j ts (by omega) hts (by omega) ?_ ?_
   ·rw[h1,htk,List.filter_append]
    have:o[i].c=0:=by rw[<- ei];exact hz
    simp[this]
   ·have:=congrArg (List.drop 1) h2
    simpa [List.drop_drop,Nat.add_comm]using this
  ·rename_i hz
   refine Ja o m (i+1) (j+1) (ts.set j ts[i]) (by omega) (by simp[hts]) (by omega) ?_ ?_
   ·rw[htk,List.filter_append,<- h1]
    have:decide (o[i].c≠0)=true:=by rw[<- ei];exact decide_eq_true hz
    simp only[List.filter_cons,this,if_true,List.filter_nil]
    rw[List.take_add_one,List.getElem?_set_self hj',List.take_set_of_le (Nat.le_refl j),ei]
    rfl
   ·rw[List.drop_set_of_lt (by omega)]
    have:=congrArg (List.drop 1) h2
    simpa [List.drop_drop,Nat.add_comm]using this
theorem PO(l:Lin)(s:Str)(c:Int):(JL l s c).view=Wn l s c:=by
 show(⟨_,_⟩:Lin)=⟨_,_⟩
 congr 1
 exact Ja _ _ 0 0 _ (by omega) rfl (by omega) (by simp) rfl
def Qt:List AV->List AObj->Bool
 | [.pv l,.pv (.str s),.pv (.int .i64 c)],[]=>FI Lin l&&decide ((dec l:Lin).t.length<=1000000)
 | _,_=>false
def GN(r:LR)(l:Nat)(os:List AObj):AV×List AObj×List AObj:=(r.av l,os,[r.ob])
def QI:List AV->List AObj->AV×List AObj×List AObj
 | [.pv l,.pv (.str s),.pv (.int .i64 c)],_=>GN (JL (dec l) ⟨s⟩ c) 0 []
 | _,_=>Wp
def b0i:PV:=.agg [.int .i64 0,.sl 0 true []]
end Go.Pl

namespace Go.Pl
open Go.RowKit
open Enc (enc dec is)
open EncL (encL decL isL)
set_option maxRecDepth 100000
def ZA:IC:=(.seq (.reg [⟨(some 3),(.box 2 (.t 0)),0,none⟩,⟨(some 6),(.alloc (.agg [(.int .i64 0),(.sl 0 true [])])),1,none⟩] none) (.seq (.reg [⟨(some 13),(.faddr 0 (.t 3)),0,none⟩,⟨(some 14),(.load false [(.int .i64)] (.t 13)),0,none⟩,⟨(some 15),(.build [(.int .i64 0),(.sl 0 true [])] [(0,(1,(.t 14)))]),0,none⟩,⟨(some 7),(.alloc (.agg [(.int .i64 0),(.sl 0 true [])])),0,none⟩,⟨none,(.store 2 (.t 7) (.t 15)),1,none⟩] none) (.seq (.reg [⟨(some 8),(.mv (.c (.bool false))),0,none⟩] none) (.seq (.seq (.reg [⟨(some 9),(.mv (.c (.int .i64 0))),0,none⟩] none) (.block 0 (.loop [9,3,8,1,7,2,6] (.seq (.seq (.reg [⟨(some 16),(.mv (.t 9)),0,none⟩,⟨(some 17),(.faddr 1 (.t 3)),0,none⟩,⟨(some 18),(.load false [(.sl 2)] (.t 17)),0,none⟩,⟨(some 19),(.len 1 (.t 18)),0,none⟩,⟨(some 20),(.bin .num .lss (.t 16) (.t 19)),0,none⟩] none) (.cond (.t 20) .skip (.exit 0))) (.seq (.block 1 (.seq (.reg [⟨(some 23),(.faddr 1 (.t 3)),0,none⟩,⟨(some 24),(.load false [(.sl 2)] (.t 23)),0,none⟩,⟨(some 25),(.mv (.t 9)),0,none⟩,⟨(some 26),(.iaddr 2 (.t 24) (.t 25)),0,none⟩,⟨(some 27),(.load true [.str,(.int .i64)] (.t 26)),0,none⟩,⟨(some 10),(.alloc (.agg [(.str []),(.int .i64 0)])),0,none⟩,⟨none,(.store 2 (.t 10) (.t 27)),1,none⟩] none) (.seq (.seq (.reg [⟨(some 28),(.mv (.t 8)),0,none⟩,⟨(some 29),(.un .not (.t 28)),0,none⟩,⟨(some 30),(.mv (.t 29)),0,none⟩,⟨(some 31),(.faddr 0 (.t 10)),0,(some (30,true))⟩,⟨(some 32),(.load false [.str] (.t 31)),0,(some (30,true))⟩,⟨(some 33),(.mv (.t 1)),0,(some (30,true))⟩,⟨(some 34),(.bin .num .gtr (.t 32) (.t 33)),0,(some (30,true))⟩,⟨(some 35),(.pick (.t 30) (.t 34) (.c (.bool false))),0,none⟩] none) (.cond (.t 35) (.seq (.reg [⟨(some 36),(.faddr 1 (.t 7)),0,none⟩,⟨(some 37),(.load false [(.sl 2)] (.t 36)),0,none⟩,⟨(some 38),(.mv (.t 1)),0,none⟩,⟨(some 39),(.mv (.t 2)),0,none⟩,⟨(some 40),(.build [(.str []),(.int .i64 0)] [(0,(1,(.t 38))),(1,(1,(.t 39)))]),0,none⟩,⟨(some 41),(.bslice 61 2 1 (.agg [(.str []),(.int .i64 0)]) [(0,(.t 40))]),0,none⟩,⟨(some 42),(.append 61 2 24 (.t 37) (.t 41)),1,none⟩,⟨(some 43),(.faddr 1 (.t 7)),2,none⟩,⟨none,(.store 1 (.t 43) (.t 42)),2,none⟩] none) (.reg [⟨(some 8),(.mv (.c (.bool true))),0,none⟩] none)) .skip)) (.seq (.seq (.reg [⟨(some 44),(.faddr 0 (.t 10)),0,none⟩,⟨(some 45),(.load false [.str] (.t 44)),0,none⟩,⟨(some 46),(.mv (.t 1)),0,none⟩,⟨(some 47),(.bin .num .eql (.t 45) (.t 46)),0,none⟩] none) (.cond (.t 47) (.seq (.reg [⟨(some 48),(.faddr 1 (.t 10)),0,none⟩,⟨(some 49),(.load false [(.int .i64)] (.t 48)),0,none⟩,⟨(some 50),(.mv (.t 2)),0,none⟩,⟨(some 51),(.bin .num .add (.t 49) (.t 50)),0,none⟩,⟨(some 52),(.faddr 1 (.t 10)),0,none⟩,⟨none,(.store 1 (.t 52) (.t 51)),0,none⟩] none) (.reg [⟨(some 8),(.mv (.c (.bool true))),0,none⟩] none)) .skip)) (.reg [⟨(some 53),(.faddr 1 (.t 7)),0,none⟩,⟨(some 54),(.load false [(.sl 2)] (.t 53)),0,none⟩,⟨(some 55),(.load true [.str,(.int .i64)] (.t 10)),0,none⟩,⟨(some 56),(.bslice 61 2 1 (.agg [(.str []),(.int .i64 0)]) [(0,(.t 55))]),0,none⟩,⟨(some 57),(.append 61 2 24 (.t 54) (.t 56)),1,none⟩,⟨(some 58),(.faddr 1 (.t 7)),2,none⟩,⟨none,(.store 1 (.t 58) (.t 57)),2,none⟩] none))))) (.reg [⟨(some 21),(.mv (.t 9)),0,none⟩,⟨(some 22),(.bin .num .add (.t 21) (.c (.int .i64 1))),0,none⟩,⟨(some 9),(.mv (.t 22)),0,none⟩] none)))))) (.seq (.seq (.reg [⟨(some 59),(.mv (.t 8)),0,none⟩,⟨(some 60),(.un .not (.t 59)),0,none⟩] none) (.cond (.t 60) (.reg [⟨(some 61),(.faddr 1 (.t 7)),0,none⟩,⟨(some 62),(.load false [(.sl 2)] (.t 61)),0,none⟩,⟨(some 63),(.mv (.t 1)),0,none⟩,⟨(some 64),(.mv (.t 2)),0,none⟩,⟨(some 65),(.build [(.str []),(.int .i64 0)] [(0,(1,(.t 63))),(1,(1,(.t 64)))]),0,none⟩,⟨(some 66),(.bslice 61 2 1 (.agg [(.str []),(.int .i64 0)]) [(0,(.t 65))]),0,none⟩,⟨(some 67),(.append 61 2 24 (.t 62) (.t 66)),1,none⟩,⟨(some 68),(.faddr 1 (.t 7)),2,none⟩,⟨none,(.store 1 (.t 68) (.t 67)),2,none⟩] none) .skip)) (.seq (.reg [⟨(some 11),(.mv (.c (.int .i64 0))),0,none⟩] none) (.seq (.seq (.reg [⟨(some 12),(.mv (.c (.int .i64 0))),0,none⟩] none) (.block 2 (.loop [12,7,11,6] (.seq (.seq (.reg [⟨(some 69),(.mv (.t 12)),0,none⟩,⟨(some 70),(.faddr 1 (.t 7)),0,none⟩,⟨(some 71),(.load false [(.sl 2)] (.t 70)),0,none⟩,⟨(some 72),(.len 1 (.t 71)),0,none⟩,⟨(some 73),(.bin .num .lss (.t 69) (.t 72)),0,none⟩] none) (.cond (.t 73) .skip (.exit 2))) (.seq (.block 3 (.seq (.reg [⟨(some 76),(.faddr 1 (.t 7)),0,none⟩,⟨(some 77),(.load false [(.sl 2)] (.t 76)),0,none⟩,⟨(some 78),(.mv (.t 12)),0,none⟩,⟨(some 79),(.iaddr 2 (.t 77) (.t 78)),0,none⟩,⟨(some 80),(.faddr 1 (.t 79)),0,none⟩,⟨(some 81),(.load false [(.int .i64)] (.t 80)),0,none⟩,⟨(some 82),(.bin .num .neq (.t 81) (.c (.int .i64 0))),0,none⟩] none) (.cond (.t 82) (.seq (.reg [⟨(some 83),(.faddr 1 (.t 7)),0,none⟩,⟨(some 84),(.load false [(.sl 2)] (.t 83)),0,none⟩,⟨(some 85),(.mv (.t 11)),0,none⟩,⟨(some 86),(.faddr 1 (.t 7)),0,none⟩,⟨(some 87),(.load false [(.sl 2)] (.t 86)),0,none⟩,⟨(some 88),(.mv (.t 12)),0,none⟩,⟨(some 89),(.iaddr 2 (.t 87) (.t 88)),0,none⟩,⟨(some 90),(.load true [.str,(.int .i64)] (.t 89)),0,none⟩,⟨(some 91),(.iaddr 2 (.t 84) (.t 85)),0,none⟩,⟨none,(.store 2 (.t 91) (.t 90)),0,none⟩] (some [[],[0],[],[],[3],[],[4,5,3],[6,4,5,3],[1,2,0,3,4,5,6,7],[8,7,0,1,2,3,4,5,6]])) (.reg [⟨(some 92),(.mv (.t 11)),0,none⟩,⟨(some 93),(.bin .num .add (.t 92) (.c (.int .i64 1))),0,none⟩,⟨(some 11),(.mv (.t 93)),0,none⟩] none)) .skip))) (.reg [⟨(some 74),(.mv (.t 12)),0,none⟩,⟨(some 75),(.bin .num .add (.t 74) (.c (.int .i64 1))),0,none⟩,⟨(some 12),(.mv (.t 75)),0,none⟩] none)))))) (.seq (.reg [⟨(some 94),(.faddr 1 (.t 7)),0,none⟩,⟨(some 95),(.load false [(.sl 2)] (.t 94)),0,none⟩,⟨(some 96),(.mv (.t 11)),0,none⟩,⟨(some 97),(.slc 2 (.t 95) none (some (.t 96)) none),0,none⟩,⟨(some 98),(.faddr 1 (.t 7)),0,none⟩,⟨none,(.store 1 (.t 98) (.t 97)),0,none⟩] none) (.seq (.reg [⟨(some 99),(.load true [(.int .i64),(.sl 2)] (.t 7)),0,none⟩,⟨none,(.store 2 (.t 6) (.t 99)),0,none⟩] none) .ret)))))))))
def Zy:List IRes:=[(.cell true 2 6)]
abbrev Tt:Nat:=100
def ZH:ZJ:=WI []
theorem a3x{G:AV×List AObj×List AObj->Prop}(l:Lin)(s:List UInt8)(c:Int)(h:At ZH 0 (Zd 0 Zy G) ZA 0 100 [(1,(.pv (.str s))),(2,(.pv (.int .i64 c))),(3,(.ptr 0 0)),(6,(.ptr 1 0)),(7,(.ptr 2 0)),(8,(.pv (.bool false))),(9,(.pv (.int .i64 0)))] [(.obj (.box [(.pv (.int .i64 l.k)),(.pv (.sl 2 false (List.map enc l.t)))])),(.obj (.box [(.pv (.int .i64 0)),(.pv (.sl 0 true []))])),(.obj (.box [(.pv (.int .i64 l.k)),(.pv (.sl 0 true []))]))]):Zi ZH 0 (Zd 0 Zy G) ZA [] (Ym 100 [.pv (enc l),.pv (.str s),.pv (enc c)] []):=Zi.to (.nil) h (by kernel_rfl)
theorem M7{G:AV×List AObj×List AObj->Prop}(l:Lin)(s:List UInt8)(c:Int)(p:Bool)(i:Int)(h:if (decide (i<(↑(List.length (List.map enc l.t)):Int)))=true then(decide (0<=i)&&decide (Int.toNat i<List.length (List.map enc l.t))&&Enc.sz Coef==2)=true∧(∃ y0:Coef,AV.pv (PV.rptr (PV.cells (List.getD (List.map enc l.t) (Int.toNat i) default)))=AV.pv (PV.rptr (PV.cells ((enc) y0)))∧(if (!p)=true then if (!(Op.bytesLess (PV.asStr (List.getD (PV.cells (enc y0)) 0 default)) s||PV.asStr (List.getD (PV.cells (enc y0)) 0 default)==s))=true then if (PV.asStr (List.getD (PV.cells (enc y0)) 0 default)==s)=true then At ZH 0 (Zd 0 Zy G) ZA 0 100 [(1,(.pv (.str s))),(2,(.pv (.int .i64 c))),(3,(.ptr 0 0)),(6,(.ptr 1 0)),(7,(.ptr 2 0)),(8,(.pv (.bool true))),(9,(.pv (.int .i64 (IntKind.wrap IntKind.i64 (i+1)))))] [(.obj (.box [(.pv (.int .i64 l.k)),(.pv (.sl 2 false (List.map enc l.t)))])),(.obj (.box [(.pv (.int .i64 0)),(.pv (.sl 0 true []))])),(.obj (.box [(.pv (.int .i64 l.k)),(.row 3 2 0 2)])),(.obj (.row false 61 2 [(.agg [(.str s),(.int .i64 c)]),(.agg [(.str (PV.asStr (List.getD (PV.cells (enc y0)) 0 default))),(.int .i64 (IntKind.wrap IntKind.i64 (PV.asInt (List.getD (PV.cells (enc y0)) (0+1) default)+c)))])]))]else(At ZH 0 (Zd 0 Zy G) ZA 0 100 [(1,(.pv (.str s))),(2,(.pv (.int .i64 c))),(3,(.ptr 0 0)),(6,(.ptr 1 0)),(7,(.ptr 2 0)),(8,(.pv (.bool true))),(9,(.pv (.int .i64 (IntKind.wrap IntKind.i64 (i+1)))))] [(.obj (.box [(.pv (.int .i64 l.k)),(.pv (.sl 2 false (List.map enc l.t)))])),(.obj (.box [(.pv (.int .i64 0)),(.pv (.sl 0 true []))])),(.obj (.box [(.pv (.int .i64 l.k)),(.row 3 2 0 2)])),(.obj (.row false 61 2 [(.agg [(.str s),(.int .i64 c)]),(.agg [(.str (PV.asStr (List.getD (PV.cells (enc y0)) 0 default))),(.int .i64 (PV.asInt (List.getD (PV.cells (enc y0)) (0+1) default)))])]))])else(if (PV.asStr (List.getD (PV.cells (enc y0)) 0 default)==s)=true then At ZH 0 (Zd 0 Zy G) ZA 0 100 [(1,(.pv (.str s))),(2,(.pv (.int .i64 c))),(3,(.ptr 0 0)),(6,(.ptr 1 0)),(7,(.ptr 2 0)),(8,(.pv (.bool true))),(9,(.pv (.int .i64 (IntKind.wrap IntKind.i64 (i+1)))))] [(.obj (.box [(.pv (.int .i64 l.k)),(.pv (.sl 2 false (List.map enc l.t)))])),(.obj (.box [(.pv (.int .i64 0)),(.pv (.sl 0 true []))])),(.obj (.box [(.pv (.int .i64 l.k)),(.row 3 1 0 1)])),(.obj (.row false 61 2 [(.agg [(.str (PV.asStr (List.getD (PV.cells (enc y0)) 0 default))),(.int .i64 (IntKind.wrap IntKind.i64 (PV.asInt (List.getD (PV.cells (enc y0)) (0+1) default)+c)))])]))]else(At ZH 0 (Zd 0 Zy G) ZA 0 100 [(1,(.pv (.str s))),(2,(.pv (.int .i64 c))),(3,(.ptr 0 0)),(6,(.ptr 1 0)),(7,(.ptr 2 0)),(8,(.pv (.bool p))),(9,(.pv (.int .i64 (IntKind.wrap IntKind.i64 (i+1)))))] [(.obj (.box [(.pv (.int .i64 l.k)),(.pv (.sl 2 false (List.map enc l.t)))])),(.obj (.box [(.pv (.int .i64 0)),(.pv (.sl 0 true []))])),(.obj (.box [(.pv (.int .i64 l.k)),(.row 3 1 0 1)])),(.obj (.row false 61 2 [(.agg [(.str (PV.asStr (List.getD (PV.cells (enc y0)) 0 default))),(.int .i64 (PV.asInt (List.getD (PV.cells (enc y0)) (0+1) default)))])]))]))else(if (PV.asStr (List.getD (PV.cells (enc y0)) 0 default)==s)=true then At ZH 0 (Zd 0 Zy G) ZA 0 100 [(1,(.pv (.str s))),(2,(.pv (.int .i64 c))),(3,(.ptr 0 0)),(6,(.ptr 1 0)),(7,(.ptr 2 0)),(8,(.pv (.bool true))),(9,(.pv (.int .i64 (IntKind.wrap IntKind.i64 (i+1)))))] [(.obj (.box [(.pv (.int .i64 l.k)),(.pv (.sl 2 false (List.map enc l.t)))])),(.obj (.box [(.pv (.int .i64 0)),(.pv (.sl 0 true []))])),(.obj (.box [(.pv (.int .i64 l.k)),(.row 3 1 0 1)])),(.obj (.row false 61 2 [(.agg [(.str (PV.asStr (List.getD (PV.cells (enc y0)) 0 default))),(.int .i64 (IntKind.wrap IntKind.i64 (PV.asInt (List.getD (PV.cells (enc y0)) (0+1) default)+c)))])]))]else(At ZH 0 (Zd 0 Zy G) ZA 0 100 [(1,(.pv (.str s))),(2,(.pv (.int .i64 c))),(3,(.ptr 0 0)),(6,(.ptr 1 0)),(7,(.ptr 2 0)),(8,(.pv (.bool p))),(9,(.pv (.int .i64 (IntKind.wrap IntKind.i64 (i+1)))))] [(.obj (.box [(.pv (.int .i64 l.k)),(.pv (.sl 2 false (List.map enc l.t)))])),(.obj (.box [(.pv (.int .i64 0)),(.pv (.sl 0 true []))])),(.obj (.box [(.pv (.int .i64 l.k)),(.row 3 1 0 1)])),(.obj (.row false 61 2 [(.agg [(.str (PV.asStr (List.getD (PV.cells (enc y0)) 0 default))),(.int .i64 (PV.asInt (List.getD (PV.cells (enc y0)) (0+1) default)))])]))]))))else(if (!p)=true then At ZH 0 (Zd 0 Zy G) ZA 1 100 [(6,(.ptr 0 0)),(7,(.ptr 1 0)),(11,(.pv (.int .i64 0))),(12,(.pv (.int .i64 0)))] [(.obj (.box [(.pv (.int .i64 0)),(.pv (.sl 0 true []))])),(.obj (.box [(.pv (.int .i64 l.k)),(.row 2 1 0 1)])),(.obj (.row false 61 2 [(.agg [(.str s),(.int .i64 c)])]))]else(At ZH 0 (Zd 0 Zy G) ZA 1 100 [(6,(.ptr 0 0)),(7,(.ptr 1 0)),(11,(.pv (.int .i64 0))),(12,(.pv (.int .i64 0)))] [(.obj (.box [(.pv (.int .i64 0)),(.pv (.sl 0 true []))])),(.obj (.box [(.pv (.int .i64 l.k)),(.pv (.sl 0 true []))]))]))):At ZH 0 (Zd 0 Zy G) ZA 0 100 [(1,.pv (.str s)),(2,.pv (.int .i64 c)),(3,.ptr 0 0),(6,.ptr 1 0),(7,.ptr 2 0),(8,.pv (.bool p)),(9,.pv (.int .i64 i))] [.obj (.box [.pv (.int .i64 l.k),.pv (enc l.t)]),.obj (.box [.pv (.int .i64 0),.pv (.sl 0 true [])]),.obj (.box [.pv (.int .i64 l.k),.pv (.sl 0 true [])])]:=At.to (.lit (.ask (.req (.abs (Coef) (fun YY=>AV.pv (PV.rptr (PV.cells ((enc) YY)))) (.lit (.ask (.lit (.lit (.lit (.lit (.lit (.ask (.lit (.lit (.lit (.lit (.lit (.lit (.ask (.lit (.lit (.lit (.lit (.lit (.nil)))))) (.lit (.lit (.lit (.lit (.nil)))))))))))) (.lit (.ask (.lit (.lit (.lit (.lit (.lit (.lit (.lit (.nil)))))))) (.lit (.lit (.lit (.lit (.lit (.lit (.nil))))))))))))))) (.lit (.lit (.lit (.lit (.lit (.lit (.ask (.lit (.lit (.lit (.lit (.lit (.lit (.lit (.nil)))))))) (.lit (.lit (.lit (.lit (.lit (.lit (.nil)))))))))))))))))) (.ask (.lit (.lit (.lit (.lit (.lit (.nil)))))) (.nil)))) h (by kernel_rfl)
theorem Ca{G:AV×List AObj×List AObj->Prop}(l:Lin)(s:List UInt8)(c:Int)(j i:Int)(q:Nat)(ts:List Coef)(h:if (decide (i<(↑(q - 0):Int)))=true then(decide (0<=i)&&decide (0+Int.toNat i<q)&&List.length (List.map enc ts)==q)=true∧((List.length (List.map enc ts)==q&&decide (0+Int.toNat i<List.length (List.map enc ts)))=true∧((decide (0+1+List.length [Sh.int .i64]<=List.length (PV.cells (List.getD (List.map enc ts) (0+Int.toNat i) default)))&&U2 (PV.cells (List.getD (List.map enc ts) (0+Int.toNat i) default)) (0+1) [Sh.int .i64])=true∧(if (PV.asInt (List.getD (PV.cells (List.getD (List.map enc ts) (0+Int.toNat i) default)) (0+1) default) != 0)=true then(decide (0<=i)&&decide (0+Int.toNat i<q)&&List.length (List.map enc ts)==q)=true∧((List.length (List.map enc ts)==q&&decide (0+Int.toNat i<List.length (List.map enc ts)))=true∧((decide (0+List.length [Sh.str,Sh.int .i64]<=List.length (PV.cells (List.getD (List.map enc ts) (0+Int.toNat i) default)))&&U2 (PV.cells (List.getD (List.map enc ts) (0+Int.toNat i) default)) 0 [Sh.str,Sh.int .i64])=true∧((decide (0<=j)&&decide (0+Int.toNat j<q)&&List.length (List.map enc ts)==q)=true∧((List.length (List.map enc ts)==q&&decide (0+Int.toNat j<List.length (List.map enc ts))&&List.length (PV.cells (PV.agg (VT (PV.cells (List.getD (List.map enc ts) (0+Int.toNat i) default)) 0 [Sh.str,Sh.int .i64])))==2&&decide (0+2<=List.length (PV.cells (List.getD (List.map enc ts) (0+Int.toNat j) default)))&&PV.cellsOk (PV.agg (VT (PV.cells (List.getD (List.map enc ts) (0+Int.toNat i) default)) 0 [Sh.str,Sh.int .i64])))=true∧(At ZH 0 (Zd 0 Zy G) ZA 1 100 [(6,(.ptr 0 0)),(7,(.ptr 1 0)),(11,(.pv (.int .i64 (IntKind.wrap IntKind.i64 (j+1))))),(12,(.pv (.int .i64 (IntKind.wrap IntKind.i64 (i+1)))))] [(.obj (.box [(.pv (.int .i64 0)),(.pv (.sl 0 true []))])),(.obj (.box [(.pv (.int .i64 l.k)),(.row 2 q 0 q)])),(.obj (.row false 61 2 (List.set (List.map enc ts) (0+Int.toNat j) (PV.withCells (List.getD (List.map enc ts) (0+Int.toNat j) default) (splice (PV.cells (List.getD (List.map enc ts) (0+Int.toNat j) default)) 0 (PV.cells (PV.agg (VT (PV.cells (List.getD (List.map enc ts) (0+Int.toNat i) default)) 0 [Sh.str,Sh.int .i64]))))))))])))))else(At ZH 0 (Zd 0 Zy G) ZA 1 100 [(6,(.ptr 0 0)),(7,(.ptr 1 0)),(11,(.pv (.int .i64 j))),(12,(.pv (.int .i64 (IntKind.wrap IntKind.i64 (i+1)))))] [(.obj (.box [(.pv (.int .i64 0)),(.pv (.sl 0 true []))])),(.obj (.box [(.pv (.int .i64 l.k)),(.row 2 q 0 q)])),(.obj (.row false 61 2 (List.map enc ts)))]))))else((true&&decide (0<=j)&&decide (0<=Int.toNat j)&&decide (0+Int.toNat j<=q)&&List.length (List.map enc ts)==q)=true∧(G (((.agg [(.pv (.int .i64 l.k)),(.row 0 q 0 (0+Int.toNat j))]),([],[(.row false 61 2 (List.map enc ts))])))))):At ZH 0 (Zd 0 Zy G) ZA 1 100 [(6,.ptr 0 0),(7,.ptr 1 0),(11,.pv (.int .i64 j)),(12,.pv (.int .i64 i))] [.obj (.box [.pv (.int .i64 0),.pv (.sl 0 true [])]),.obj (.box [.pv (.int .i64 l.k),.row 2 q 0 q]),.obj (.row false 61 2 (ts.map enc))]:=At.to (.lit (.ask (.req (.keep (.req (.req (.lit (.ask (.req (.keep (.req (.req (.req (.keep (.req (.lit (.lit (.nil)))))))))) (.lit (.nil)))))))) (.req (.nil)))) h (by kernel_rfl)
theorem Cb{G:AV×List AObj×List AObj->Prop}(l:Lin)(s:List UInt8)(c:Int)(p:Bool)(i:Int)(q:Nat)(ts:List Coef)(h:if (decide (i<(↑(List.length (List.map enc l.t)):Int)))=true then(decide (0<=i)&&decide (Int.toNat i<List.length (List.map enc l.t))&&Enc.sz Coef==2)=true∧(∃ y0:Coef,AV.pv (PV.rptr (PV.cells (List.getD (List.map enc l.t) (Int.toNat i) default)))=AV.pv (PV.rptr (PV.cells ((enc) y0)))∧(if (!p)=true then if (!(Op.bytesLess (PV.asStr (List.getD (PV.cells (enc y0)) 0 default)) s||PV.asStr (List.getD (PV.cells (enc y0)) 0 default)==s))=true then(List.length (List.map enc ts)==q&&q==q&&decide ((q+List.length (List.drop 0 (List.take 1 [PV.agg [PV.str s,PV.int .i64 c]])))*24<=1099511627776)&&decide (q+List.length (List.drop 0 (List.take 1 [PV.agg [PV.str s,PV.int .i64 c]]))<=1099511627776))=true∧(if (PV.asStr (List.getD (PV.cells (enc y0)) 0 default)==s)=true then(List.length (List.map enc ts++List.drop 0 (List.take 1 [PV.agg [PV.str s,PV.int .i64 c]]))==q+List.length (List.drop 0 (List.take 1 [PV.agg [PV.str s,PV.int .i64 c]]))&&q+List.length (List.drop 0 (List.take 1 [PV.agg [PV.str s,PV.int .i64 c]]))==q+List.length (List.drop 0 (List.take 1 [PV.agg [PV.str s,PV.int .i64 c]]))&&decide ((q+List.length (List.drop 0 (List.take 1 [PV.agg [PV.str s,PV.int .i64 c]]))+List.length (List.drop 0 (List.take 1 [PV.agg [Sh.co Sh.str (List.getD (PV.cells (enc y0)) 0 default),PV.int .i64 (IntKind.wrap IntKind.i64 (PV.asInt (List.getD (PV.cells (enc y0)) (0+1) default)+c))]])))*24<=1099511627776)&&decide (q+List.length (List.drop 0 (List.take 1 [PV.agg [PV.str s,PV.int .i64 c]]))+List.length (List.drop 0 (List.take 1 [PV.agg [Sh.co Sh.str (List.getD (PV.cells (enc y0)) 0 default),PV.int .i64 (IntKind.wrap IntKind.i64 (PV.asInt (List.getD (PV.cells (enc y0)) (0+1) default)+c))]]))<=1099511627776))=true∧(At ZH 0 (Zd 0 Zy G) ZA 0 100 [(1,(.pv (.str s))),(2,(.pv (.int .i64 c))),(3,(.ptr 0 0)),(6,(.ptr 1 0)),(7,(.ptr 2 0)),(8,(.pv (.bool true))),(9,(.pv (.int .i64 (IntKind.wrap IntKind.i64 (i+1)))))] [(.obj (.box [(.pv (.int .i64 l.k)),(.pv (.sl 2 false (List.map enc l.t)))])),(.obj (.box [(.pv (.int .i64 0)),(.pv (.sl 0 true []))])),(.obj (.box [(.pv (.int .i64 l.k)),(.row 3 (q+List.length (List.drop 0 (List.take 1 [PV.agg [PV.str s,PV.int .i64 c]]))+List.length (List.drop 0 (List.take 1 [PV.agg [Sh.co Sh.str (List.getD (PV.cells (enc y0)) 0 default),PV.int .i64 (IntKind.wrap IntKind.i64 (PV.asInt (List.getD (PV.cells (enc y0)) (0+1) default)+c))]]))) 0 (q+List.length (List.drop 0 (List.take 1 [PV.agg [PV.str s,PV.int .i64 c]]))+List.length (List.drop 0 (List.take 1 [PV.agg [Sh.co Sh.str (List.getD (PV.cells (enc y0)) 0 default),PV.int .i64 (IntKind.wrap IntKind.i64 (PV.asInt (List.getD (PV.cells (enc y0)) (0+1) default)+c))]]))))])),(.obj (.row false 61 2 (List.map enc ts++List.drop 0 (List.take 1 [PV.agg [PV.str s,PV.int .i64 c]])++List.drop 0 (List.take 1 [PV.agg [Sh.co Sh.str (List.getD (PV.cells (enc y0)) 0 default),PV.int .i64 (IntKind.wrap IntKind.i64 (PV.asInt (List.getD (PV.cells (enc y0)) (0+1) default)+c))]]))))])else((List.length (List.map enc ts++List.drop 0 (List.take 1 [PV.agg [PV.str s,PV.int .i64 c]]))==q+List.length (List.drop 0 (List.take 1 [PV.agg [PV.str s,PV.int .i64 c]]))&&q+List.length (List.drop 0 (List.take 1 [PV.agg [PV.str s,PV.int .i64 c]]))==q+List.length (List.drop 0 (List.take 1 [PV.agg [PV.str s,PV.int .i64 c]]))&&decide ((q+List.length (List.drop 0 (List.take 1 [PV.agg [PV.str s,PV.int .i64 c]]))+List.length (List.drop 0 (List.take 1 [PV.agg [Sh.co Sh.str (List.getD (PV.cells (enc y0)) 0 default),Sh.co (Sh.int .i64) (List.getD (PV.cells (enc y0)) (0+1) default)]])))*24<=1099511627776)&&decide (q+List.length (List.drop 0 (List.take 1 [PV.agg [PV.str s,PV.int .i64 c]]))+List.length (List.drop 0 (List.take 1 [PV.agg [Sh.co Sh.str (List.getD (PV.cells (enc y0)) 0 default),Sh.co (Sh.int .i64) (List.getD (PV.cells (enc y0)) (0+1) default)]]))<=1099511627776))=true∧(At ZH 0 (Zd 0 Zy G) ZA 0 100 [(1,(.pv (.str s))),(2,(.pv (.int .i64 c))),(3,(.ptr 0 0)),(6,(.ptr 1 0)),(7,(.ptr 2 0)),(8,(.pv (.bool true))),(9,(.pv (.int .i64 (IntKind.wrap IntKind.i64 (i+1)))))] [(.obj (.box [(.pv (.int .i64 l.k)),(.pv (.sl 2 false (List.map enc l.t)))])),(.obj (.box [(.pv (.int .i64 0)),(.pv (.sl 0 true []))])),(.obj (.box [(.pv (.int .i64 l.k)),(.row 3 (q+List.length (List.drop 0 (List.take 1 [PV.agg [PV.str s,PV.int .i64 c]]))+List.length (List.drop 0 (List.take 1 [PV.agg [Sh.co Sh.str (List.getD (PV.cells (enc y0)) 0 default),Sh.co (Sh.int .i64) (List.getD (PV.cells (enc y0)) (0+1) default)]]))) 0 (q+List.length (List.drop 0 (List.take 1 [PV.agg [PV.str s,PV.int .i64 c]]))+List.length (List.drop 0 (List.take 1 [PV.agg [Sh.co Sh.str (List.getD (PV.cells (enc y0)) 0 default),Sh.co (Sh.int .i64) (List.getD (PV.cells (enc y0)) (0+1) default)]]))))])),(.obj (.row false 61 2 (List.map enc ts++List.drop 0 (List.take 1 [PV.agg [PV.str s,PV.int .i64 c]])++List.drop 0 (List.take 1 [PV.agg [Sh.co Sh.str (List.getD (PV.cells (enc y0)) 0 default),Sh.co (Sh.int .i64) (List.getD (PV.cells (enc y0)) (0+1) default)]]))))])))else(if (PV.asStr (List.getD (PV.cells (enc y0)) 0 default)==s)=true then(List.length (List.map enc ts)==q&&q==q&&decide ((q+List.length (List.drop 0 (List.take 1 [PV.agg [Sh.co Sh.str (List.getD (PV.cells (enc y0)) 0 default),PV.int .i64 (IntKind.wrap IntKind.i64 (PV.asInt (List.getD (PV.cells (enc y0)) (0+1) default)+c))]])))*24<=1099511627776)&&decide (q+List.length (List.drop 0 (List.take 1 [PV.agg [Sh.co Sh.str (List.getD (PV.cells (enc y0)) 0 default),PV.int .i64 (IntKind.wrap IntKind.i64 (PV.asInt (List.getD (PV.cells (enc y0)) (0+1) default)+c))]]))<=1099511627776))=true∧(At ZH 0 (Zd 0 Zy G) ZA 0 100 [(1,(.pv (.str s))),(2,(.pv (.int .i64 c))),(3,(.ptr 0 0)),(6,(.ptr 1 0)),(7,(.ptr 2 0)),(8,(.pv (.bool true))),(9,(.pv (.int .i64 (IntKind.wrap IntKind.i64 (i+1)))))] [(.obj (.box [(.pv (.int .i64 l.k)),(.pv (.sl 2 false (List.map enc l.t)))])),(.obj (.box [(.pv (.int .i64 0)),(.pv (.sl 0 true []))])),(.obj (.box [(.pv (.int .i64 l.k)),(.row 3 (q+List.length (List.drop 0 (List.take 1 [PV.agg [Sh.co Sh.str (List.getD (PV.cells (enc y0)) 0 default),PV.int .i64 (IntKind.wrap IntKind.i64 (PV.asInt (List.getD (PV.cells (enc y0)) (0+1) default)+c))]]))) 0 (q+List.length (List.drop 0 (List.take 1 [PV.agg [Sh.co Sh.str (List.getD (PV.cells (enc y0)) 0 default),PV.int .i64 (IntKind.wrap IntKind.i64 (PV.asInt (List.getD (PV.cells (enc y0)) (0+1) default)+c))]]))))])),(.obj (.row false 61 2 (List.map enc ts++List.drop 0 (List.take 1 [PV.agg [Sh.co Sh.str (List.getD (PV.cells (enc y0)) 0 default),PV.int .i64 (IntKind.wrap IntKind.i64 (PV.asInt (List.getD (PV.cells (enc y0)) (0+1) default)+c))]]))))])else((List.length (List.map enc ts)==q&&q==q&&decide ((q+List.length (List.drop 0 (List.take 1 [PV.agg [Sh.co Sh.str (List.getD (PV.cells (enc y0)) 0 default),Sh.co (Sh.int .i64) (List.getD (PV.cells (enc y0)) (0+1) default)]])))*24<=1099511627776)&&decide (q+List.length (List.drop 0 (List.take 1 [PV.agg [Sh.co Sh.str (List.getD (PV.cells (enc y0)) 0 default),Sh.co (Sh.int .i64) (List.getD (PV.cells (enc y0)) (0+1) default)]]))<=1099511627776))=true∧(At ZH 0 (Zd 0 Zy G) ZA 0 100 [(1,(.pv (.str s))),(2,(.pv (.int .i64 c))),(3,(.ptr 0 0)),(6,(.ptr 1 0)),(7,(.ptr 2 0)),(8,(.pv (.bool p))),(9,(.pv (.int .i64 (IntKind.wrap IntKind.i64 (i+1)))))] [(.obj (.box [(.pv (.int .i64 l.k)),(.pv (.sl 2 false (List.map enc l.t)))])),(.obj (.box [(.pv (.int .i64 0)),(.pv (.sl 0 true []))])),(.obj (.box [(.pv (.int .i64 l.k)),(.row 3 (q+List.length (List.drop 0 (List.take 1 [PV.agg [Sh.co Sh.str (List.getD (PV.cells (enc y0)) 0 default),Sh.co (Sh.int .i64) (List.getD (PV.cells (enc y0)) (0+1) default)]]))) 0 (q+List.length (List.drop 0 (List.take 1 [PV.agg [Sh.co Sh.str (List.getD (PV.cells (enc y0)) 0 default),Sh.co (Sh.int .i64) (List.getD (PV.cells (enc y0)) (0+1) default)]]))))])),(.obj (.row false 61 2 (List.map enc ts++List.drop 0 (List.take 1 [PV.agg [Sh.co Sh.str (List.getD (PV.cells (enc y0)) 0 default),Sh.co (Sh.int .i64) (List.getD (PV.cells (enc y0)) (0+1) default)]]))))])))else(if (PV.asStr (List.getD (PV.cells (enc y0)) 0 default)==s)=true then(List.length (List.map enc ts)==q&&q==q&&decide ((q+List.length (List.drop 0 (List.take 1 [PV.agg [Sh.co Sh.str (List.getD (PV.cells (enc y0)) 0 default),PV.int .i64 (IntKind.wrap IntKind.i64 (PV.asInt (List.getD (PV.cells (enc y0)) (0+1) default)+c))]])))*24<=1099511627776)&&decide (q+List.length (List.drop 0 (List.take 1 [PV.agg [Sh.co Sh.str (List.getD (PV.cells (enc y0)) 0 default),PV.int .i64 (IntKind.wrap IntKind.i64 (PV.asInt (List.getD (PV.cells (enc y0)) (0+1) default)+c))]]))<=1099511627776))=true∧(At ZH 0 (Zd 0 Zy G) ZA 0 100 [(1,(.pv (.str s))),(2,(.pv (.int .i64 c))),(3,(.ptr 0 0)),(6,(.ptr 1 0)),(7,(.ptr 2 0)),(8,(.pv (.bool true))),(9,(.pv (.int .i64 (IntKind.wrap IntKind.i64 (i+1)))))] [(.obj (.box [(.pv (.int .i64 l.k)),(.pv (.sl 2 false (List.map enc l.t)))])),(.obj (.box [(.pv (.int .i64 0)),(.pv (.sl 0 true []))])),(.obj (.box [(.pv (.int .i64 l.k)),(.row 3 (q+List.length (List.drop 0 (List.take 1 [PV.agg [Sh.co Sh.str (List.getD (PV.cells (enc y0)) 0 default),PV.int .i64 (IntKind.wrap IntKind.i64 (PV.asInt (List.getD (PV.cells (enc y0)) (0+1) default)+c))]]))) 0 (q+List.length (List.drop 0 (List.take 1 [PV.agg [Sh.co Sh.str (List.getD (PV.cells (enc y0)) 0 default),PV.int .i64 (IntKind.wrap IntKind.i64 (PV.asInt (List.getD (PV.cells (enc y0)) (0+1) default)+c))]]))))])),(.obj (.row false 61 2 (List.map enc ts++List.drop 0 (List.take 1 [PV.agg [Sh.co Sh.str (List.getD (PV.cells (enc y0)) 0 default),PV.int .i64 (IntKind.wrap IntKind.i64 (PV.asInt (List.getD (PV.cells (enc y0)) (0+1) default)+c))]]))))])else((List.length (List.map enc ts)==q&&q==q&&decide ((q+List.length (List.drop 0 (List.take 1 [PV.agg [Sh.co Sh.str (List.getD (PV.cells (enc y0)) 0 default),Sh.co (Sh.int .i64) (List.getD (PV.cells (enc y0)) (0+1) default)]])))*24<=1099511627776)&&decide (q+List.length (List.drop 0 (List.take 1 [PV.agg [Sh.co Sh.str (List.getD (PV.cells (enc y0)) 0 default),Sh.co (Sh.int .i64) (List.getD (PV.cells (enc y0)) (0+1) default)]]))<=1099511627776))=true∧(At ZH 0 (Zd 0 Zy G) ZA 0 100 [(1,(.pv (.str s))),(2,(.pv (.int .i64 c))),(3,(.ptr 0 0)),(6,(.ptr 1 0)),(7,(.ptr 2 0)),(8,(.pv (.bool p))),(9,(.pv (.int .i64 (IntKind.wrap IntKind.i64 (i+1)))))] [(.obj (.box [(.pv (.int .i64 l.k)),(.pv (.sl 2 false (List.map enc l.t)))])),(.obj (.box [(.pv (.int .i64 0)),(.pv (.sl 0 true []))])),(.obj (.box [(.pv (.int .i64 l.k)),(.row 3 (q+List.length (List.drop 0 (List.take 1 [PV.agg [Sh.co Sh.str (List.getD (PV.cells (enc y0)) 0 default),Sh.co (Sh.int .i64) (List.getD (PV.cells (enc y0)) (0+1) default)]]))) 0 (q+List.length (List.drop 0 (List.take 1 [PV.agg [Sh.co Sh.str (List.getD (PV.cells (enc y0)) 0 default),Sh.co (Sh.int .i64) (List.getD (PV.cells (enc y0)) (0+1) default)]]))))])),(.obj (.row false 61 2 (List.map enc ts++List.drop 0 (List.take 1 [PV.agg [Sh.co Sh.str (List.getD (PV.cells (enc y0)) 0 default),Sh.co (Sh.int .i64) (List.getD (PV.cells (enc y0)) (0+1) default)]]))))])))))else(if (!p)=true then(List.length (List.map enc ts)==q&&q==q&&decide ((q+List.length (List.drop 0 (List.take 1 [PV.agg [PV.str s,PV.int .i64 c]])))*24<=1099511627776)&&decide (q+List.length (List.drop 0 (List.take 1 [PV.agg [PV.str s,PV.int .i64 c]]))<=1099511627776))=true∧(At ZH 0 (Zd 0 Zy G) ZA 1 100 [(6,(.ptr 0 0)),(7,(.ptr 1 0)),(11,(.pv (.int .i64 0))),(12,(.pv (.int .i64 0)))] [(.obj (.box [(.pv (.int .i64 0)),(.pv (.sl 0 true []))])),(.obj (.box [(.pv (.int .i64 l.k)),(.row 2 (q+List.length (List.drop 0 (List.take 1 [PV.agg [PV.str s,PV.int .i64 c]]))) 0 (q+List.length (List.drop 0 (List.take 1 [PV.agg [PV.str s,PV.int .i64 c]]))))])),(.obj (.row false 61 2 (List.map enc ts++List.drop 0 (List.take 1 [PV.agg [PV.str s,PV.int .i64 c]]))))])else(At ZH 0 (Zd 0 Zy G) ZA 1 100 [(6,(.ptr 0 0)),(7,(.ptr 1 0)),(11,(.pv (.int .i64 0))),(12,(.pv (.int .i64 0)))] [(.obj (.box [(.pv (.int .i64 0)),(.pv (.sl 0 true []))])),(.obj (.box [(.pv (.int .i64 l.k)),(.row 2 q 0 q)])),(.obj (.row false 61 2 (List.map enc ts)))]))):At ZH 0 (Zd 0 Zy G) ZA 0 100 [(1,.pv (.str s)),(2,.pv (.int .i64 c)),(3,.ptr 0 0),(6,.ptr 1 0),(7,.ptr 2 0),(8,.pv (.bool p)),(9,.pv (.int .i64 i))] [.obj (.box [.pv (.int .i64 l.k),.pv (enc l.t)]),.obj (.box [.pv (.int .i64 0),.pv (.sl 0 true [])]),.obj (.box [.pv (.int .i64 l.k),.row 3 q 0 q]),.obj (.row false 61 2 (ts.map enc))]:=At.to (.lit (.ask (.req (.abs (Coef) (fun YY=>AV.pv (PV.rptr (PV.cells ((enc) YY)))) (.lit (.ask (.lit (.lit (.lit (.lit (.lit (.ask (.lit (.lit (.req (.lit (.ask (.lit (.lit (.lit (.req (.lit (.nil)))))) (.lit (.lit (.req (.lit (.nil)))))))))) (.lit (.ask (.lit (.lit (.lit (.req (.lit (.nil)))))) (.lit (.lit (.req (.lit (.nil))))))))))))) (.lit (.lit (.lit (.lit (.lit (.lit (.ask (.lit (.lit (.lit (.req (.lit (.nil)))))) (.lit (.lit (.req (.lit (.nil)))))))))))))))) (.ask (.lit (.lit (.req (.nil)))) (.nil)))) h (by kernel_rfl)
end Go.Pl

namespace Go.Pl
open Go.RowKit
open Enc (enc dec is)
open EncL (encL decL isL)
theorem a4v{ts:List Coef}{i:Nat}(h:i<ts.length):ts.getD i ⟨⟨[]⟩,0⟩=ts[i]:=by simp[List.getD,h]
theorem FT(l:Lin)(s:List UInt8)(c:Int)(q:Nat)(ho:q<=2000000): ∀ (m i j:Nat) (ts:List Coef),m+i=q->ts.length=q->j<=i ->
  At ZH 0 (Zd 0 Zy (fun r=>r=GN ⟨l.k,(U7 m i j ts).2,(U7 m i j ts).1⟩ 0 [])) ZA 1 100 [(6,.ptr 0 0),(7,.ptr 1 0),(11,.pv (.int .i64 j)),(12,.pv (.int .i64 i))] [.obj (.box [.pv (.int .i64 0),.pv (.sl 0 true [])]),.obj (.box [.pv (.int .i64 l.k),.row 2 q 0 q]),.obj (.row false 61 2 (ts.map enc))]:=by
 intro m
 induction m with
 | zero=>
  intro i j ts hm hts hji
  refine Ca l s c j i q ts (XI (by simp;omega) ?_)
  refine⟨by simp[hts];omega,?_⟩
  subst hts
  simp only[Int.toNat_natCast,Nat.zero_add]
  rfl
 | succ m ih=>
  intro i j ts hm hts hji
  have hi':i<ts.length:=by omega
  have hj':j<ts.length:=by omega
  refine Ca l s c j i q ts ?_
  simp only[E8 enc hi',E8 enc hj']
  refine YF (by simp;omega) ⟨by simp;omega,by simp;omega,rfl,?_⟩
  rw[U7,a4v hi']
  by_cases hz:ts[i].c=0
  ·refine XI (by show ¬ (ts[i].c != 0)=true;simp[hz]) ?_
   rw[next (by omega),if_pos hz]
   exact ih (i+1) j ts (by omega) hts (by omega)
  ·refine YF (by show(ts[i].c != 0)=true;simp[hz]) ⟨by simp;omega,by simp;omega,rfl,by simp;omega,?_,?_⟩
   ·simp only[List.length_map,hts,beq_self_eq_true,Bool.true_and,Nat.zero_add,Int.toNat_natCast,decide_eq_true (show j<q by omega)]
    rfl
   ·rw[Nat.zero_add,Int.toNat_natCast,Ov,next (by omega),next (by omega),if_neg hz]
    exact ih (i+1) (j+1) (ts.set j ts[i]) (by omega) (by simp[hts]) (by omega)
theorem K7(l:Lin)(s:List UInt8)(c:Int)(o:List Coef)(ho:o.length<=2000000):
  At ZH 0 (Zd 0 Zy (fun r=>r=GN (CP l.k o) 0 [])) ZA 1 100 [(6,.ptr 0 0),(7,.ptr 1 0),(11,.pv (.int .i64 0)),(12,.pv (.int .i64 0))] [.obj (.box [.pv (.int .i64 0),.pv (.sl 0 true [])]),.obj (.box [.pv (.int .i64 l.k),.row 2 o.length 0 o.length]),.obj (.row false 61 2 (o.map enc))]:=
 FT l s c o.length ho o.length 0 0 o (by omega) rfl (by omega)
theorem OG(l:Lin)(s:List UInt8)(c:Int)(hl:l.t.length<=1000000): ∀ (m i:Nat) (p:Bool) (q:Nat) (ts:List Coef),m+i=l.t.length->q=ts.length->(p=false->ts.length<=i)->ts.length<=i+1 ->
  At ZH 0 (Zd 0 Zy (fun r=>r=GN (CP l.k (ts++YX ⟨s⟩ c p (l.t.drop i))) 0 [])) ZA 0 100 [(1,.pv (.str s)),(2,.pv (.int .i64 c)),(3,.ptr 0 0),(6,.ptr 1 0),(7,.ptr 2 0),(8,.pv (.bool p)),(9,.pv (.int .i64 i))]
   [.obj (.box [.pv (.int .i64 l.k),.pv (enc l.t)]),.obj (.box [.pv (.int .i64 0),.pv (.sl 0 true [])]),.obj (.box [.pv (.int .i64 l.k),.row 3 q 0 q]),.obj (.row false 61 2 (ts.map enc))]:=by
 intro m
 induction m with
 | zero=>
  intro i p q ts hm hq h1 h2
  refine Cb l s c p i q ts (XI (Cz (by omega)) ?_)
  rw[List.drop_of_length_le (show l.t.length<=i by omega)]
  refine Ww (fun hp=> ?_) fun hp=> ?_
  ·subst hp
   refine⟨by simp[hq];omega,?_⟩
   have h:=K7 l s c (ts++[⟨⟨s⟩,c⟩]) (by simp;omega)
   rw[List.map_append,List.length_append,<- hq]at h
   rw[YX]
   exact h
  ·subst hp
   have h:=K7 l s c ts (by omega)
   rw[<- hq]at h
   rw[YX,if_pos rfl,List.append_nil]
   exact h
 | succ m ih=>
  intro i p q ts hm hq h1 h2
  have hlt:i<l.t.length:=by omega
  refine Cb l s c p i q ts (YF (Cn hlt) ⟨XD hlt rfl,WT hlt ?_⟩)
  rw[List.drop_eq_getElem_cons hlt,next (by omega)]
  have key : ∀ (p':Bool) (add:List Coef),add.length<=2->(p'=false->(ts++add).length<=i+1)->(ts++add).length<=i+2->ts++YX ⟨s⟩ c p (l.t[i]::l.t.drop (i+1))=(ts++add)++YX ⟨s⟩ c p' (l.t.drop (i+1)) ->
    At ZH 0 (Zd 0 Zy (fun r=>r=GN (CP l.k (ts++YX ⟨s⟩ c p (l.t[i]::l.t.drop (i+1)))) 0 [])) ZA 0 100 [(1,.pv (.str s)),(2,.pv (.int .i64 c)),(3,.ptr 0 0),(6,.ptr 1 0),(7,.ptr 2 0),(8,.pv (.bool p')),(9,.pv (.int .i64 ((i+1:Nat):Int)))]
     [.obj (.box [.pv (.int .i64 l.k),.pv (enc l.t)]),.obj (.box [.pv (.int .i64 0),.pv (.sl 0 true [])]),.obj (.box [.pv (.int .i64 l.k),.row 3 (q+add.length) 0 (q+add.length)]),.obj (.row false 61 2 (ts.map enc++add.map enc))]:=by
   intro p' add h3 h4 h5 h6
   rw[h6,<- List.map_append]
   exact ih (i+1) p' (q+add.length) (ts++add) (by omega) (by simp[hq]) h4 h5
  generalize l.t[i]=y at key ⊢
  obtain⟨⟨yv⟩,yc⟩:=y
  subst hq
  refine Ww (fun hp=> ?_) fun hp=> ?_
  ·subst hp
   have hle:=h1 rfl
   refine Ww (fun hb=> ?_) fun hb=> ?_
   ·have hb:(Op.bytesLess yv s||yv==s)=false:=hb
    have hlt2:s<yv:=by
     simp only[Yk,Bool.or_eq_false_iff,decide_eq_false_iff_not,beq_eq_false_iff_ne]at hb
     exact tri hb.1 hb.2
    have hne : ¬ yv=s:=fun e=>by rw[e]at hlt2;exact List.lt_irrefl _ hlt2
    refine⟨by simp;omega,Wx (fun h=>absurd h hne) fun _=>⟨by simp;omega,?_⟩⟩
    have:=key true [⟨⟨s⟩,c⟩,⟨⟨yv⟩,yc⟩] (by simp) (fun h=>by cases h) (by simp;omega) (by rw[QP,if_pos hlt2];simp)
    rw[List.append_assoc]
    exact this
   ·have hb:(Op.bytesLess yv s||yv==s)=true:=hb
    have hnl : ¬ s<yv:=by
     simp only[Yk,Bool.or_eq_true,decide_eq_true_eq,beq_iff_eq]at hb
     rcases hb with h|h
     ·exact List.lt_asymm h
     ·rw[h];exact List.lt_irrefl _
    refine Wx (fun h=> ?_) fun h=> ?_
    ·have h:yv=s:=h
     subst h
     refine⟨by simp;omega,?_⟩
     exact key true [⟨⟨yv⟩,Yd (yc+c)⟩] (by simp) (fun h=>by cases h) (by simp;omega) (by rw[QP,if_neg hnl,if_pos rfl];simp)
    ·have h:yv≠s:=h
     refine⟨by simp;omega,?_⟩
     exact key false [⟨⟨yv⟩,yc⟩] (by simp) (fun _=>by simp;omega) (by simp;omega) (by rw[QP,if_neg hnl,if_neg (by rw[Qw];exact h)];simp)
  ·subst hp
   refine Wx (fun h=> ?_) fun h=> ?_
   ·have h:yv=s:=h
    subst h
    refine⟨by simp;omega,?_⟩
    exact key true [⟨⟨yv⟩,Yd (yc+c)⟩] (by simp) (fun h=>by cases h) (by simp;omega) (by rw[NZ,if_pos rfl];simp)
   ·have h:yv≠s:=h
    refine⟨by simp;omega,?_⟩
    exact key true [⟨⟨yv⟩,yc⟩] (by simp) (fun h=>by cases h) (by simp;omega) (by rw[NZ,if_neg (by rw[Qw];exact h)];simp)
theorem M9(l:Lin)(s:List UInt8)(c:Int)(hl:l.t.length<=1000000):Zi ZH 0 (Zd 0 Zy (fun r=>r=GN (JL l ⟨s⟩ c) 0 [])) ZA [] (Ym Tt [.pv (enc l),.pv (.str s),.pv (enc c)] []):=by
 refine a3x l s c (M7 l s c false 0 ?_)
 show if _ then _ else(if _ then At ZH 0 (Zd 0 Zy (fun r=>r=GN (CP l.k (YX ⟨s⟩ c false l.t)) 0 [])) _ _ _ _ _ else _)
 by_cases h0:l.t=[]
 ·refine XI (by simp[h0]) (YF rfl ?_)
  have h:=K7 l s c [⟨⟨s⟩,c⟩] (by simp)
  rw[h0,YX]
  exact h
 ·have hlt:0<l.t.length:=List.length_pos_iff.2 h0
  refine YF (by simp;omega) ⟨by simp[Enc.sz];omega,WT hlt ?_⟩
  have ed:l.t=l.t[0]::l.t.drop 1:=by
   have:=List.drop_eq_getElem_cons hlt
   rwa [List.drop_zero]at this
  have key : ∀ (p':Bool) (add:List Coef),add.length<=2->(p'=false->add.length<=1)->YX ⟨s⟩ c false (l.t[0]::l.t.drop 1)=add++YX ⟨s⟩ c p' (l.t.drop 1) ->
    At ZH 0 (Zd 0 Zy (fun r=>r=GN (CP l.k (YX ⟨s⟩ c false l.t)) 0 [])) ZA 0 100 [(1,.pv (.str s)),(2,.pv (.int .i64 c)),(3,.ptr 0 0),(6,.ptr 1 0),(7,.ptr 2 0),(8,.pv (.bool p')),(9,.pv (.int .i64 ((0+1:Nat):Int)))]
     [.obj (.box [.pv (.int .i64 l.k),.pv (enc l.t)]),.obj (.box [.pv (.int .i64 0),.pv (.sl 0 true [])]),.obj (.box [.pv (.int .i64 l.k),.row 3 add.length 0 add.length]),.obj (.row false 61 2 (add.map enc))]:=by
   intro p' add h3 h4 h6
   have h7:YX ⟨s⟩ c false l.t=add++YX ⟨s⟩ c p' (l.t.drop 1):=by rw[<- h6,<- ed]
   rw[h7]
   exact OG l s c hl (l.t.length - 1) (0+1) p' add.length add (by omega) rfl (fun h=>h4 h) (by omega)
  rw[show IntKind.wrap IntKind.i64 (0+1)=((0+1:Nat):Int)from rfl]
  generalize l.t[0]=y at key ⊢
  obtain⟨⟨yv⟩,yc⟩:=y
  refine YF rfl ?_
  refine Ww (fun hb=> ?_) fun hb=> ?_
  ·have hb:(Op.bytesLess yv s||yv==s)=false:=hb
   have hlt2:s<yv:=by
    simp only[Yk,Bool.or_eq_false_iff,decide_eq_false_iff_not,beq_eq_false_iff_ne]at hb
    exact tri hb.1 hb.2
   have hne : ¬ yv=s:=fun e=>by rw[e]at hlt2;exact List.lt_irrefl _ hlt2
   refine Wx (fun h=>absurd h hne) fun _=> ?_
   exact key true [⟨⟨s⟩,c⟩,⟨⟨yv⟩,yc⟩] (by simp) (fun h=>by cases h) (by rw[QP,if_pos hlt2];simp)
  ·have hb:(Op.bytesLess yv s||yv==s)=true:=hb
   have hnl : ¬ s<yv:=by
    simp only[Yk,Bool.or_eq_true,decide_eq_true_eq,beq_iff_eq]at hb
    rcases hb with h|h
    ·exact List.lt_asymm h
    ·rw[h];exact List.lt_irrefl _
   refine Wx (fun h=> ?_) fun h=> ?_
   ·have h:yv=s:=h
    subst h
    exact key true [⟨⟨yv⟩,Yd (yc+c)⟩] (by simp) (fun h=>by cases h) (by rw[QP,if_neg hnl,if_pos rfl];simp)
   ·have h:yv≠s:=h
    exact key false [⟨⟨yv⟩,yc⟩] (by simp) (fun _=>by simp) (by rw[QP,if_neg hnl,if_neg (by rw[Qw];exact h)];simp)
theorem Fy: ∀ args os,Qt args os=true->Zi ZH os.length (Zd os.length Zy fun r=>r=QI args os) ZA [] (Ym Tt args os):=by
 intro args os h
 unfold Qt at h
 split at h
 ·rename_i l s c
  simp only[Bool.and_eq_true,decide_eq_true_eq]at h
  obtain⟨hl,h1⟩:=h
  obtain⟨l,rfl⟩:=Bo hl
  rw[Enc.dec_enc]at h1
  have ev:QI [.pv (enc l),.pv (.str s),.pv (.int .i64 c)] []=GN (JL l ⟨s⟩ c) 0 []:=by
   show GN (JL (dec (enc l:PV)) ⟨s⟩ c) 0 []=_
   rw[Enc.dec_enc]
  rw[ev]
  exact M9 l s c h1
 ·cases h
end Go.Pl

namespace Go.Pl
open Go.RowKit
open Enc (enc dec is)
open EncL (encL decL isL)
theorem VX.rfl(ps:List PV):VX ps ps:=⟨Eq.refl _,fun j x y hx hy Φ v h=>by rw[hx]at hy;cases hy;exact h⟩
theorem LR.frz_av(r:LR):(frz (r.av 0)).run (Yi [r.ob])=some (enc r.view,[.obj (.row true 61 2 (r.ts.map enc))]):=by
 have:(PV.agg [.int .i64 r.k,.sl 2 false (List.drop 0 (List.take r.w (r.ts.map enc)))])=enc r.view:=by
  rw[List.drop_zero,<- List.map_take];rfl
 rw[<- this]
 simp[frz,Ug,HM.bind,HM.run,Yi,LR.av,LR.ob]
theorem LP{P:Program}{f:Nat}(h:ZY P f Qt QI):ZE P f (fun x:Lin×Str×Int×Unit=>decide (x.1.t.length<=1000000)) (fun x:Lin×Str×Int×Unit=>Wn x.1 x.2.1 x.2.2.1):=ZE.of_own h fun a ha=>by
 obtain⟨l,⟨s⟩,c,⟨⟩⟩:=a
 have ha:l.t.length<=1000000:=by simpa using ha
 refine⟨(JL l ⟨s⟩ c).av 0,[(JL l ⟨s⟩ c).ob],_,_,?_,?_,LR.frz_av _,?_⟩
 ·show(FI Lin (enc l)&&decide ((dec (enc l:PV):Lin).t.length<=1000000))=true
  rw[QG,Enc.dec_enc,decide_eq_true ha];rfl
 ·show GN (JL (dec (enc l:PV)) ⟨s⟩ c) 0 []=_
  rw[Enc.dec_enc];rfl
 ·rw[PO];exact .refl _
end Go.Pl

namespace Go.Pl
open Go.RowKit
open Enc (enc dec is)
open EncL (encL decL isL)
end Go.Pl

namespace Go.Pl
open Go.RowKit
open Enc (enc dec is)
open EncL (encL decL isL)
set_option maxRecDepth 100000
-- IMPOSSIBLE
end Go.Pl

namespace Go.Pl
open Go.RowKit
open Enc (enc dec is)
open EncL (encL decL isL)
end Go.Pl

namespace Go.Pl
open Go.RowKit
open Enc (enc dec is)
open EncL (encL decL isL)
end Go.Pl

namespace Go.Pl
open Go.RowKit
open Enc (enc dec is)
open EncL (encL decL isL)
set_option maxRecDepth 100000
end Go.Pl

namespace Go.Pl
open Go.RowKit
open Enc (enc dec is)
open EncL (encL decL isL)
set_option maxRecDepth 100000
end Go.Pl

namespace Go.Pl
open Go.RowKit
open Enc (enc dec is)
open EncL (encL decL isL)
structure Cert2 where
 a:Cert
 b:Cert
instance:Enc Cert2 where
 sz:=10
 enc x:=.agg (PV.cells (enc x.a)++PV.cells (enc x.b))
 dec | .agg [a,b,c,d,e,f,g,h,i,j]=>⟨dec (.agg [a,b,c,d,e]),dec (.agg [f,g,h,i,j])⟩|_=>⟨.mk 0 [] ⟨0,[]⟩ [],.mk 0 [] ⟨0,[]⟩ []⟩
 is | .agg [a,b,c,d,e,f,g,h,i,j]=>is Cert (.agg [a,b,c,d,e])&&is Cert (.agg [f,g,h,i,j])|_=>false
 is_enc v:=by
  obtain⟨⟨k,m,l,ks⟩,⟨k',m',l',ks'⟩⟩:=v
  rw[WV,WV]
  show(is Cert (.agg [enc k,enc m,enc l.k,enc l.t,enc ks])&&is Cert (.agg [enc k',enc m',enc l'.k,enc l'.t,enc ks']))=true
  rw[<- WV,<- WV,Enc.is_enc,Enc.is_enc];rfl
 dec_enc v:=by
  obtain⟨⟨k,m,l,ks⟩,⟨k',m',l',ks'⟩⟩:=v
  rw[WV,WV]
  show(⟨dec (.agg [enc k,enc m,enc l.k,enc l.t,enc ks]),dec (.agg [enc k',enc m',enc l'.k,enc l'.t,enc ks'])⟩:Cert2)=_
  rw[<- WV,<- WV,Enc.dec_enc,Enc.dec_enc]
 sub p h:=by
  cases p with
  | agg xs=>
   match xs,h with
   | [a,b,c,d,e,f,g,h',i,j],h=>
    simp only[Bool.and_eq_true]at h
    have h1:=Enc.sub (α:=Cert) _ h.1
    have h2:=Enc.sub (α:=Cert) _ h.2
    exact V8.agg (h1.1.append h2.1)
  | _=>cases h
theorem a8g{l:Lin}{n:Int}(h:BV l n=true)(hl:Zz l=true):Zu l=true:=by
 simp only[BV,Bool.and_eq_true,List.all_eq_true,decide_eq_true_eq]at h
 simp only[Zu,hl,Bool.true_and,List.all_eq_true,decide_eq_true_eq]
 intro t ht
 have:=h.1 t ht
 omega
mutual
theorem a5e: ∀ (c:Cert) (n:Int),n<=12->PK c n=true->cOk c=true->1<=n∧(a6s c:Int)<=n∧1<=Dj c∧Dj c<=n∧cSm c=true
 | .mk k m l ks,n,hn,h,ho=>by
  simp only[PK,Bool.and_eq_true,Bool.not_eq_true',decide_eq_false_iff_not]at h
  obtain⟨h1,h2,h3,h4,h5⟩:=h
  simp only[cOk,Bool.and_eq_true,decide_eq_true_eq]at ho
  obtain⟨⟨⟨o1,o2⟩,o3⟩,o4⟩:=ho
  obtain⟨a1,a2,a3,a4⟩:=SG ks n 1 (by omega) hn (by omega) (by omega) h5 o4
  rw[a6s,Dj]
  refine⟨by omega,by omega,by omega,by omega,?_⟩
  simp only[cSm,a8g h2 o2,a4,decide_eq_true o1,decide_eq_true o3]
  rfl
theorem SG: ∀ (cs:List Cert) (n s:Int),1<=n->n<=12->1<=s->s<=100 - n->Hr cs n=true->LM cs=true->(Rk cs:Int)<=n - 1∧s<=JB s cs∧JB s cs<=s+n - 1∧MM cs=true
 | [],n,s,h1,h2,h3,h4,_,_=>by
  rw[Rk,JB]
  exact⟨by omega,by omega,by omega,rfl⟩
 | c::cs,n,s,h1,h2,h3,h4,h,ho=>by
  simp only[Hr,Bool.and_eq_true]at h
  simp only[LM,Bool.and_eq_true]at ho
  rw[VD (by omega) (by omega)]at h
  obtain⟨b1,b2,b3,b4,b5⟩:=a5e c (n - 1) (by omega) h.1 ho.1
  have h':=h.2
  rw[VD (by omega) (by omega)]at h'
  obtain⟨a1,a2,a3,a4⟩:=SG cs (n - Dj c) (s+Dj c) (by omega) (by omega) (by omega) (by omega) h' ho.2
  rw[Rk,JB,VD (by omega) (by omega)]
  refine⟨by omega,by omega,by omega,?_⟩
  simp only[MM,b5,a4]
  rfl
end
end Go.Pl

namespace Go.Pl
open Go.RowKit
open Enc (enc dec is)
open EncL (encL decL isL)
set_option maxRecDepth 100000
end Go.Pl

namespace Go.Pl
open Go.RowKit
open Enc (enc dec is)
open EncL (encL decL isL)
theorem BF: ∀ {m:List (Str×Int)},(ZR m).Nodup-> ∀ p∈m,Vj m p.1.s=p.2
 | q::m,h,p,hp=>by
  simp only[ZR,List.map_cons,List.nodup_cons]at h
  rcases List.mem_cons.1 hp with rfl|hp
  ·simp[Vj]
  ·have:(q.1.s==p.1.s)=false:=by
    simp only[beq_eq_false_iff_ne,ne_eq]
    intro e
    exact h.1 (e▸List.mem_map.2 ⟨p,hp,rfl⟩)
   have ih:=BF (m:=m) h.2 p hp
   simp only[Vj,List.find?_cons,this]at ih ⊢
   exact ih
end Go.Pl

namespace Go.Pl
open Go.RowKit
open Enc (enc dec is)
open EncL (encL decL isL)
end Go.Pl

namespace Go.Pl
open Go.RowKit
open Enc (enc dec is)
open EncL (encL decL isL)
end Go.Pl

namespace Go.Pl
open Go.RowKit
def YC(ts:List Coef)(s:List UInt8):Int:=((ts.find? fun t=>t.v.s==s).map (·.c)).getD 0
def Uu(ts:List Coef):Prop:=ts.Pairwise fun a b=>a.v.s<b.v.s
def SC(ts:List Coef):Prop:= ∀ t∈ts,t.c≠0
theorem Qx(s:List UInt8):YC [] s=0:=rfl
theorem ZF(t:Coef)(ts:List Coef)(s:List UInt8):YC (t::ts) s=if t.v.s=s then t.c else YC ts s:=by
 simp only[YC,List.find?_cons]
 by_cases h:t.v.s=s
 ·simp[h]
 ·have:(t.v.s==s)=false:=by simpa using h
  simp[this,h]
theorem Vu{s:List UInt8}: ∀ {ts:List Coef},(∀ t∈ts,s<t.v.s)->YC ts s=0
 | [],_=>rfl
 | t::ts,h=>by
  have h1:=h t (by simp)
  rw[ZF,if_neg (fun e=>by rw[e]at h1;exact List.lt_irrefl _ h1)]
  exact Vu fun u hu=>h u (by simp[hu])
theorem Xo{t:Coef}{ts:List Coef}:Uu (t::ts) ↔ (∀ u∈ts,t.v.s<u.v.s)∧Uu ts:=List.pairwise_cons
theorem Cg: ∀ {a b:List Coef},Uu a->SC a->Uu b->SC b->(∀ s,YC a s=YC b s)->a=b
 | [],[],_,_,_,_,_=>rfl
 | [],y::ys,_,_,_,hn,h=>by
  have:=h y.v.s
  rw[Qx,ZF,if_pos rfl]at this
  exact absurd this.symm (hn y (by simp))
 | x::xs,[],_,hn,_,_,h=>by
  have:=h x.v.s
  rw[Qx,ZF,if_pos rfl]at this
  exact absurd this (hn x (by simp))
 | x::xs,y::ys,ha,hna,hb,hnb,h=>by
  obtain⟨ha1,ha2⟩:=Xo.1 ha
  obtain⟨hb1,hb2⟩:=Xo.1 hb
  have hxy:x.v.s=y.v.s:=by
   by_cases h1:x.v.s<y.v.s
   ·have e:=h x.v.s
    rw[ZF,if_pos rfl,Vu (ts:=y::ys) (fun t ht=>by
     rcases List.mem_cons.1 ht with rfl|ht
     ·exact h1
     ·exact List.lt_trans h1 (hb1 t ht))]at e
    exact absurd e (hna x (by simp))
   ·by_cases h2:x.v.s=y.v.s
    ·exact h2
    ·have h3:=tri h1 h2
     have e:=h y.v.s
     rw[ZF (t:=y),if_pos rfl,Vu (ts:=x::xs) (fun t ht=>by
      rcases List.mem_cons.1 ht with rfl|ht
      ·exact h3
      ·exact List.lt_trans h3 (ha1 t ht))]at e
     exact absurd e.symm (hnb y (by simp))
  have hc:x.c=y.c:=by
   have e:=h x.v.s
   rwa [ZF,if_pos rfl,ZF,if_pos hxy.symm]at e
  have hxe:x=y:=by
   have hv:x.v=y.v:=Qw.2 hxy
   cases x;cases y;simp only at hv hc;rw[hv,hc]
  have ht:xs=ys:=Cg ha2 (fun t ht=>hna t (by simp[ht])) hb2 (fun t ht=>hnb t (by simp[ht])) fun s=>by
   by_cases hs:x.v.s=s
   ·rw[Vu (ts:=xs) (fun t ht=>hs▸ha1 t ht),Vu (ts:=ys) (fun t ht=>hs▸hxy▸hb1 t ht)]
   ·have e:=h s
    rwa [ZF,if_neg hs,ZF,if_neg (fun e=>hs (hxy.trans e))]at e
  rw[hxe,ht]
theorem Vz(s:Str)(c:Int): ∀ {ts:List Coef},(∀ t∈ts,s.s<t.v.s)->YX s c true ts=ts
 | [],_=>by simp[YX]
 | t::ts,h=>by
  have h1:=h t (by simp)
  rw[NZ,if_neg (fun e=>by rw[e]at h1;exact List.lt_irrefl _ h1),Vz s c fun u hu=>h u (by simp[hu])]
theorem Nf(s:Str)(c:Int): ∀ {ts:List Coef},Uu ts-> ∀ u∈YX s c false ts,u.v.s=s.s ∨ ∃ t∈ts,t.v.s=u.v.s
 | [],_,u,hu=>by
  simp only[YX,Bool.false_eq_true,if_false,List.mem_singleton]at hu
  exact .inl (by rw[hu])
 | t::ts,h,u,hu=>by
  obtain⟨h1,h2⟩:=Xo.1 h
  rw[QP]at hu
  split at hu
  ·rename_i hlt
   rw[Vz s c (fun u hu=>List.lt_trans hlt (h1 u hu))]at hu
   rcases List.mem_cons.1 hu with rfl|hu
   ·exact .inl rfl
   ·exact .inr ⟨u,hu,rfl⟩
  ·split at hu
   ·rename_i he
    rw[Vz s c (fun u hu=>he▸h1 u hu)]at hu
    rcases List.mem_cons.1 hu with rfl|hu
    ·exact .inr ⟨t,by simp,rfl⟩
    ·exact .inr ⟨u,by simp[hu],rfl⟩
   ·rcases List.mem_cons.1 hu with rfl|hu
    ·exact .inr ⟨u,by simp,rfl⟩
    ·rcases Nf s c h2 u hu with h|⟨w,hw,e⟩
     ·exact .inl h
     ·exact .inr ⟨w,by simp[hw],e⟩
theorem Ab(s:Str)(c:Int): ∀ {ts:List Coef},Uu ts->Uu (YX s c false ts)
 | [],_=>by simp[YX,Uu]
 | t::ts,h=>by
  obtain⟨h1,h2⟩:=Xo.1 h
  rw[QP]
  split
  ·rename_i hlt
   rw[Vz s c (fun u hu=>List.lt_trans hlt (h1 u hu))]
   exact Xo.2 ⟨fun u hu=>by
    rcases List.mem_cons.1 hu with rfl|hu
    ·exact hlt
    ·exact List.lt_trans hlt (h1 u hu),h⟩
  ·rename_i hlt
   split
   ·rename_i he
    rw[Vz s c (fun u hu=>he▸h1 u hu)]
    exact Xo.2 ⟨h1,h2⟩
   ·rename_i he
    have hts:t.v.s<s.s:=tri hlt (fun e=>he (Qw.2 e.symm))
    refine Xo.2 ⟨fun u hu=> ?_,Ab s c h2⟩
    rcases Nf s c h2 u hu with e|⟨w,hw,e⟩
    ·rw[e];exact hts
    ·rw[<- e];exact h1 w hw
theorem Tk(s:Str)(c:Int)(hc:Yd c=c): ∀ {ts:List Coef},Uu ts-> ∀ x,YC (YX s c false ts) x=if s.s=x then Yd (YC ts s.s+c)else YC ts x
 | [],_,x=>by
  have e:YX s c false []=[⟨s,c⟩]:=by simp[YX]
  rw[e,ZF,Qx,Qx,Int.zero_add,hc]
 | t::ts,h,x=>by
  obtain⟨h1,h2⟩:=Xo.1 h
  rw[QP]
  split
  ·rename_i hlt
   rw[Vz s c (fun u hu=>List.lt_trans hlt (h1 u hu)),ZF,Vu (ts:=t::ts) (s:=s.s) (fun u hu=>by
    rcases List.mem_cons.1 hu with rfl|hu
    ·exact hlt
    ·exact List.lt_trans hlt (h1 u hu)),Int.zero_add,hc]
  ·rename_i hlt
   split
   ·rename_i he
    have he':t.v.s=s.s:=by rw[he]
    have e1:YC (t::ts) s.s=t.c:=by rw[ZF,if_pos he']
    have e2:YC (t::ts) x=if s.s=x then t.c else YC ts x:=by rw[ZF,he']
    rw[Vz s c (fun u hu=>he▸h1 u hu),ZF,e1,e2]
    show(if t.v.s=x then Yd (t.c+c)else YC ts x)=_
    rw[he']
    by_cases hx:s.s=x
    ·rw[if_pos hx,if_pos hx]
    ·rw[if_neg hx,if_neg hx,if_neg hx]
   ·rename_i he
    have he' : ¬ t.v.s=s.s:=fun e=>he (Qw.2 e)
    rw[ZF,Tk s c hc h2 x,ZF (s:=s.s),if_neg he',ZF (s:=x)]
    by_cases hx:s.s=x
    ·rw[if_pos hx,if_pos hx,if_neg (fun e=>he' (e.trans hx.symm))]
    ·rw[if_neg hx,if_neg hx]
theorem Jf: ∀ {ts:List Coef},Uu ts-> ∀ x,YC (ts.filter fun t=>decide (t.c≠0)) x=YC ts x
 | [],_,x=>rfl
 | t::ts,h,x=>by
  obtain⟨h1,h2⟩:=Xo.1 h
  rw[List.filter_cons]
  split
  ·rw[ZF,ZF,Jf h2 x]
  ·rename_i hz
   have hz0:t.c=0:=by simpa using hz
   rw[ZF,Jf h2 x]
   by_cases hx:t.v.s=x
   ·rw[if_pos hx,hz0,Vu fun u hu=>hx▸h1 u hu]
   ·rw[if_neg hx]
theorem AZ{l:Lin}(s:Str)(c:Int)(h:Uu l.t):Uu (Wn l s c).t:=(Ab s c h).sublist List.filter_sublist
theorem Mg(l:Lin)(s:Str)(c:Int):SC (Wn l s c).t:=fun t ht=>by simpa using (List.mem_filter.1 ht).2
theorem CQ{l:Lin}(s:Str){c:Int}(hc:Yd c=c)(h:Uu l.t)(x:List UInt8):YC (Wn l s c).t x=if s.s=x then Yd (YC l.t s.s+c)else YC l.t x:=by
 show YC (List.filter _ _) x=_
 rw[Jf (Ab s c h),Tk s c hc h]
theorem NC(n:Int): -9223372036854775808<=Yd n∧Yd n<=9223372036854775807:=by
 unfold Yd IntKind.wrap
 simp only[IntKind.bits,IntKind.signed]
 simp
 split <;> omega
theorem Js(n:Int):Yd (Yd n)=Yd n:=VD (by have:=NC n;omega) (by have:=NC n;omega)
theorem H9(s:Str)(c:Int)(x:List UInt8): ∀ m:List (Str×Int),Vj (Va s c m) x=if s.s=x then c else Vj m x
 | []=>by
  rw[Va]
  simp only[Vj,List.find?_cons]
  by_cases h:s.s=x
  ·simp[h]
  ·have:(s.s==x)=false:=by simpa using h
   simp[this,h]
 | p::m=>by
  have ih:=H9 s c x m
  rw[Va]
  split
  ·rename_i he
   simp only[Vj,List.find?_cons]
   by_cases h:s.s=x
   ·simp[h]
   ·have h1:(s.s==x)=false:=by simpa using h
    have h2:(p.1.s==x)=false:=by rw[<- he];exact h1
    simp[h1,h2,h]
  ·rename_i he
   simp only[Vj,List.find?_cons]at ih ⊢
   by_cases h:p.1.s=x
   ·have h2 : ¬ s.s=x:=fun e=>he (e.trans h.symm)
    simp[h,h2]
   ·have h2:(p.1.s==x)=false:=by simpa using h
    rw[h2]
    exact ih
def G8(ts:List Coef)(m:List (Str×Int)):Prop:=Uu ts∧ ∀ s,YC ts s=Vj m s
theorem Cu(k:Int): ∀ (x:List Coef) (l:Lin) (m:List (Str×Int)),G8 l.t m->G8 (x.foldl (fun o t=>Wn o t.v (Yd (k*t.c))) l).t (Y4 k x m)
 | [],l,m,h=>h
 | t::x,l,m,h=>by
  rw[List.foldl_cons,Y4]
  refine Cu k x _ _ ⟨AZ _ _ h.1,fun s=> ?_⟩
  rw[CQ _ (Js _) h.1,H9,h.2,h.2]
theorem Mi(k:Int): ∀ (x:List Coef) (l:Lin),SC l.t->SC (x.foldl (fun o t=>Wn o t.v (Yd (k*t.c))) l).t
 | [],l,h=>h
 | t::x,l,h=>Mi k x _ (Mg _ _ _)
theorem a0s(k:Int): ∀ (x:List Coef) (l:Lin),(x.foldl (fun o t=>Wn o t.v (Yd (k*t.c))) l).k=l.k
 | [],l=>rfl
 | t::x,l=>a0s k x _
theorem EY{l x:Lin}{k:Int}(h:SC l.t):SC (Qf l x k).t:=Mi k x.t _ h
theorem a5y(l x:Lin)(k:Int):(Qf l x k).k=Yd (l.k+Yd (k*x.k)):=a0s k x.t _
theorem EQ{m:List (Str×Int)}{s:List UInt8}(h:s ∉ ZR m):Vj m s=0:=by
 have:(m.find? fun p=>p.1.s==s)=none:=by
  rw[List.find?_eq_none]
  intro p hp e
  exact h (List.mem_map.2 ⟨p,hp,by simpa using e⟩)
 simp[Vj,this]
theorem Qj(m:List (Str×Int))(x:List UInt8): ∀ l:List (List UInt8),YC (l.map fun s=>(⟨⟨s⟩,Vj m s⟩:Coef)) x=if x∈l then Vj m x else 0
 | []=>by simp[YC]
 | s::l=>by
  rw[List.map_cons,ZF,Qj m x l]
  by_cases h:s=x
  ·subst h;simp
  ·have : ¬ x=s:=fun e=>h e.symm
   simp[h,this]
theorem Eg{l:List (List UInt8)}(h:l.Nodup):(Yw l).Pairwise (· < ·):=by
 have tr : ∀ x y z:List UInt8,decide (x<=y)=true->decide (y<=z)=true->decide (x<=z)=true:=fun x y z h k=>by simp only[decide_eq_true_eq]at *;exact List.le_trans h k
 have to : ∀ x y:List UInt8,(decide (x<=y)||decide (y<=x))=true:=fun x y=>by simp only[Bool.or_eq_true,decide_eq_true_eq];exact List.le_total x y
 have h1:=List.pairwise_mergeSort tr to l
 have h2:(Yw l).Nodup:=(List.mergeSort_perm l _).nodup_iff.2 h
 refine(h1.and h2).imp fun {a b} hab=> ?_
 have h3:a<=b:=by simpa using hab.1
 exact Decidable.byContradiction fun hn=>hab.2 (List.le_antisymm h3 (List.not_lt.1 hn))
theorem LY(m:List (Str×Int)){l:List (List UInt8)}(h:l.Nodup):Uu ((Yw l).map fun s=>(⟨⟨s⟩,Vj m s⟩:Coef)):=List.Pairwise.map _ (fun a b hab=>hab) (Eg h)
theorem Je{m:List (Str×Int)}(hd:(ZR m).Nodup):G8 (YE m) m∧SC (YE m):=by
 have hd2:((m.filter fun p=>decide (p.2≠0)).map (·.1.s)).Nodup:=hd.sublist (List.filter_sublist.map _)
 refine⟨⟨LY m hd2,fun s=> ?_⟩,fun t ht=> ?_⟩
 ·rw[YE,Qj]
  split
  ·rfl
  ·rename_i hn
   refine(Decidable.byContradiction fun h0=>hn ?_)
   have hk:s∈ZR m:=Decidable.byContradiction fun hk=>h0 (EQ hk).symm
   obtain⟨p,hp,rfl⟩:=List.mem_map.1 hk
   have e:=BF hd p hp
   refine((List.mergeSort_perm _ _).mem_iff).2 (List.mem_map.2 ⟨p,List.mem_filter.2 ⟨hp,?_⟩,rfl⟩)
   rw[<- e]
   simpa using fun e=>h0 e.symm
 ·obtain⟨s,hs,rfl⟩:=List.mem_map.1 ht
  have hs:=((List.mergeSort_perm _ _).mem_iff).1 hs
  obtain⟨p,hp,rfl⟩:=List.mem_map.1 hs
  obtain⟨hp1,hp2⟩:=List.mem_filter.1 hp
  show Vj m p.1.s≠0
  rw[BF hd p hp1]
  simpa using hp2
theorem Bc{ts:List Coef}{m:List (Str×Int)}(h:G8 ts m)(hn:SC ts)(hd:(ZR m).Nodup):ts=YE m:=
 Cg h.1 hn (Je hd).1.1 (Je hd).2 fun s=>(h.2 s).trans ((Je hd).1.2 s).symm
theorem Te: ∀ {l:List Coef},J3 l=true->Uu l
 | [],_=>List.Pairwise.nil
 | [a],_=>by simp[Uu]
 | a::b::l,h=>by
  simp only[J3,Bool.and_eq_true,decide_eq_true_eq]at h
  have ih:=Te (l:=b::l) h.2
  refine Xo.2 ⟨fun u hu=> ?_,ih⟩
  rcases List.mem_cons.1 hu with rfl|hu
  ·exact h.1
  ·exact List.lt_trans h.1 ((Xo.1 ih).1 u hu)
theorem Jn{l:Lin}(h:Zh l=true):Uu l.t:=by
 simp only[Zh,Bool.and_eq_true]at h
 exact Te h.1.1.2
theorem TG{l:Lin}(h:Zh l=true):SC l.t:=fun t ht=>(Yh h ht).2.1
theorem ND: ∀ (x pre:List Coef) (m:List (Str×Int)),Uu (pre++x)->(∀ t∈x,Yd t.c=t.c)->(∀ s,YC pre s=Vj m s)-> ∀ s,YC (pre++x) s=Vj (Y4 1 x m) s
 | [],pre,m,_,_,h,s=>by rw[List.append_nil];exact h s
 | t::x,pre,m,ha,hw,h,s=>by
  have e:pre++t::x=(pre++[t])++x:=by simp
  rw[Y4,e]
  refine ND x (pre++[t]) _ (e▸ha) (fun u hu=>hw u (by simp[hu])) (fun y=> ?_) s
  have hp : ∀ u∈pre,u.v.s<t.v.s:=fun u hu=>(List.pairwise_append.1 ha).2.2 u hu t (by simp)
  have hnone:YC pre t.v.s=0:=by
   have:(pre.find? fun u=>u.v.s==t.v.s)=none:=by
    rw[List.find?_eq_none]
    intro u hu e
    have e:u.v.s=t.v.s:=by simpa using e
    have:=hp u hu
    rw[e]at this
    exact List.lt_irrefl _ this
   simp[YC,this]
  have hw1:IntKind.i64.wrap t.c=t.c:=hw t (by simp)
  rw[H9,<- h,<- h,hnone,Int.one_mul,hw1,Int.zero_add,hw1]
  by_cases hy:t.v.s=y
  ·have hn:(pre.find? fun u=>u.v.s==y)=none:=by
    rw[List.find?_eq_none]
    intro u hu e
    have e:u.v.s=y:=by simpa using e
    have:=hp u hu
    rw[e,hy]at this
    exact List.lt_irrefl _ this
   rw[if_pos hy]
   simp[YC,List.find?_append,hn,hy]
  ·have hn:([t].find? fun u=>u.v.s==y)=none:=by simp[hy]
   rw[if_neg hy]
   simp only[YC,List.find?_append,hn,Option.or_none]
theorem OH{l:Lin}(h:Zh l=true): ∀ t∈l.t,Yd t.c=t.c:=fun t ht=>by
 have:=(Yh h ht).2.2
 exact VD (by omega) (by omega)
theorem a0c{l:Lin}(h:Zh l=true):G8 l.t (Y4 1 l.t []):=⟨Jn h,fun s=>by
 have:=ND l.t [] [] (by simpa using Jn h) (OH h) (fun s=>rfl) s
 simpa using this⟩
def VK(l:Lin):Lin×Int:=if Zh l then(l,0)else(⟨0,[]⟩,3)
theorem D6{a b:Lin}(k:Int)(ha:Zh a=true)(hb:Zh b=true):YB a b k=VK (Qf a b k):=by
 have hk:=Kr ha
 have hr:=Cu k b.t ⟨Yd (a.k+Yd (k*b.k)),a.t⟩ _ (a0c (l:=a) ha)
 have hd:(ZR (Y4 k b.t (Y4 1 a.t []))).Nodup:=QV _ _ _ (QV _ _ _ (by simp[ZR]))
 have e1:(Qf a b k).t=YE (Y4 k b.t (Y4 1 a.t [])):=Bc hr (EY (TG ha)) hd
 have e2:Yd (Yd (0+Yd (1*a.k))+Yd (k*b.k))=(Qf a b k).k:=by
  rw[a5y,Int.one_mul,VD (n:=a.k) (by omega) (by omega),Int.zero_add,VD (n:=a.k) (by omega) (by omega)]
 have e3:(⟨(Qf a b k).k,(Qf a b k).t⟩:Lin)=Qf a b k:=rfl
 unfold YB
 rw[ha,hb,if_pos rfl,if_pos rfl,e2,Xr,<- e1,e3,VK]
end Go.Pl

namespace Go.Pl
open Go.RowKit
def wM(m:List (Str×Int)):Prop:= ∀ s,Yd (Vj m s)=Vj m s
theorem add_zero: ∀ (x:List Coef) (m:List (Str×Int)),wM m-> ∀ s,Vj (Y4 0 x m) s=Vj m s
 | [],m,h,s=>rfl
 | t::x,m,h,s=>by
  have e : ∀ y,Vj (Va t.v (IntKind.i64.wrap (Vj m t.v.s+IntKind.i64.wrap (0*t.c))) m) y=Vj m y:=fun y=>by
   rw[H9]
   split
   ·rename_i hy
    have:IntKind.i64.wrap (0*t.c)=0:=by rw[Int.zero_mul];rfl
    rw[this,Int.add_zero,<- hy]
    exact h t.v.s
   ·rfl
  rw[Y4,add_zero x _ (fun y=>by rw[e];exact h y),e]
end Go.Pl

namespace Go.Pl
open Go.RowKit
end Go.Pl

namespace Go.Pl
open Go.RowKit
open Enc (enc dec is)
open EncL (encL decL isL)
end Go.Pl

namespace Go.Pl
open Go.RowKit
open Enc (enc dec is)
open EncL (encL decL isL)
set_option maxRecDepth 100000
end Go.Pl

namespace Go.Pl
open Go.RowKit
open Enc (enc dec is)
open EncL (encL decL isL)
set_option maxRecDepth 100000
end Go.Pl

namespace Go.Pl
open Go.RowKit
open Enc (enc dec is)
open EncL (encL decL isL)
end Go.Pl

namespace Go.Pl
open Go.RowKit
open Enc (enc dec is)
open EncL (encL decL isL)
end Go.Pl

namespace Go.Pl
open Go.RowKit
open Enc (enc dec is)
open EncL (encL decL isL)
end Go.Pl

namespace Go.Pl
open Go.RowKit
open Enc (enc dec is)
open EncL (encL decL isL)
theorem one_of{α:Type}: ∀ {ks:List α},ks.length=1-> ∃ a,ks=[a]
 | [a],_=>⟨a,rfl⟩
end Go.Pl

namespace Go.Pl
open Go.RowKit
open Enc (enc dec is)
open EncL (encL decL isL)
set_option maxRecDepth 100000
end Go.Pl

namespace Go.Pl
open Go.RowKit
open Enc (enc dec is)
open EncL (encL decL isL)
end Go.Pl

namespace Go.Pl
open Go.RowKit
open Enc (enc dec is)
open EncL (encL decL isL)
theorem sub_zero(b:Bool):Sub (.tup [b0i,.bool b]) (enc (((⟨0,[]⟩:Lin),b):Lin×Bool)):=Sub.pair (Sub.agg_cons (.refl _) (Sub.agg_cons (.sl0 _ _ _) Sub.agg_nil)) (.refl _)
end Go.Pl

namespace Go.Pl
open Go.RowKit
open Enc (enc dec is)
open EncL (encL decL isL)
def Zv(c:UInt8):Bool:=ZT c||c==95||Zj c
def Za(s:List UInt8):List UInt8:=s.dropWhile fun c=>c==32
def ME(s:List UInt8)(n:Int)(es:List (PV×PV)):List AObj:=[.box [.pv (.str s),.pv (.int .i64 n),.map 1],.map es]
def ZO:List AV->List AObj->Bool
 | [.ptr 0 0],[.box [.pv (.str s),.pv (.int .i64 n),.map 1],.map es]=>decide (s.length<=1000000)
 | _,_=>false
def Xb(g:Nat):List AV->List AObj->Bool
 | [.ptr 0 0,.pv (.fn g')],[.box [.pv (.str s),.pv (.int .i64 n),.map 1],.map es]=>g'==g&&decide (s.length<=1000000)
 | _,_=>false
def UT:List AV->List AObj->AV×List AObj×List AObj
 | _,[.box [.pv (.str s),.pv (.int .i64 n),.map 1],.map es]=>(.tup [],ME (Za s) n es,[])
 | _,_=>Wp
def C8(p:UInt8->Bool):List AV->List AObj->AV×List AObj×List AObj
 | _,[.box [.pv (.str s),.pv (.int .i64 n),.map 1],.map es]=>(.pv (.str (s.takeWhile p)),ME (s.dropWhile p) n es,[])
 | _,_=>Wp
def KL(d:List UInt8):Bool:= !(ZU ⟨d⟩).2.b&&decide (d.length<=7)&&(decide (d.head? ≠ some 48)||decide (d=[48]))
def Uy:List AV->List AObj->AV×List AObj×List AObj
 | _,[.box [.pv (.str s),.pv (.int .i64 n),.map 1],.map es]=>(.tup [.pv (.int .i64 (ZU ⟨s.takeWhile Zj⟩).1),.pv (.bool (KL (s.takeWhile Zj)))],ME (s.dropWhile Zj) n es,[])
 | _,_=>Wp
def UU:List AV->List AObj->AV×List AObj×List AObj
 | _,[.box [.pv (.str s),.pv (.int .i64 n),.map 1],.map es]=>(.tup [.pv (.str (s.takeWhile Zv)),.pv (.bool (Zr ⟨s.takeWhile Zv⟩))],ME (s.dropWhile Zv) n es,[])
 | _,_=>Wp
def ZN:List UInt8->(Int×Bool)×List UInt8
 | []=>((1,false),[])
 | c::r=>if c=43 then((1,true),r)else if c=45 then((-1,true),r)else((1,false),c::r)
def KD:List AV->List AObj->AV×List AObj×List AObj
 | _,[.box [.pv (.str s),.pv (.int .i64 n),.map 1],.map es]=>(.tup [.pv (.int .i64 (ZN s).1.1),.pv (.bool (ZN s).1.2)],ME (ZN s).2 n es,[])
 | _,_=>Wp
end Go.Pl

namespace Go.Pl
open Go.RowKit
open Enc (enc dec is)
open EncL (encL decL isL)
structure RdS where
 s:List UInt8
 n:Int
 m:List (Str×Int)
def RdS.os(r:RdS):List AObj:=ME r.s r.n (Zc r.m)
def DJ(s:List UInt8)(n:Int)(m:List (Str×Int))(k:Int):Bool×RdS:=
 (Zr ⟨s.takeWhile Zv⟩,⟨s.dropWhile Zv,n,Va ⟨s.takeWhile Zv⟩ (Yd (Vj m (s.takeWhile Zv)+k)) m⟩)
def Vw(s:List UInt8)(n:Int)(m:List (Str×Int))(k:Int):Bool×RdS:=
 if ([42]:List UInt8).isPrefixOf (Za s)then DJ (Za ((Za s).drop 1)) n m k
 else if s=[]∨Zv (s.headD 0)=false then(true,⟨s,Yd (n+k),m⟩)
 else DJ s n m k
def ZQ(r:RdS)(g:Int):Bool×RdS:=
 if r.s=[]then(false,r)
 else if Zj (r.s.headD 0)=false then DJ r.s r.n r.m g
 else if KL (r.s.takeWhile Zj)=false then(false,⟨r.s.dropWhile Zj,r.n,r.m⟩)
 else Vw (r.s.dropWhile Zj) r.n r.m (Yd (g*(ZU ⟨r.s.takeWhile Zj⟩).1))
def QD:List AV->List AObj->Bool
 | [.ptr 0 0,.pv (.int .i64 g)],[.box [.pv (.str s),.pv (.int .i64 n),.map 1],.map es]=>K8 es&&decide (s.length<=1000000)
 | _,_=>false
def TR(z:Bool×RdS):AV×List AObj×List AObj:=(.pv (.bool z.1),z.2.os,[])
def KQ:List AV->List AObj->AV×List AObj×List AObj
 | [_,.pv (.int .i64 g)],[.box [.pv (.str s),.pv (.int .i64 n),.map 1],.map es]=>TR (ZQ ⟨s,n,ZZ es⟩ g)
 | _,_=>Wp
end Go.Pl

namespace Go.Pl
open Go.RowKit
def Q8:Nat->List UInt8->Int->List (Str×Int)->Int->Lin×Int
 | 0,_,_,_,_=>(⟨0,[]⟩,6)
 | f+1,t,n,m,g=>
  if (ZQ ⟨Za t,n,m⟩ g).1=false then(⟨0,[]⟩,6)
  else if Za (ZQ ⟨Za t,n,m⟩ g).2.s=[]then Xr (ZQ ⟨Za t,n,m⟩ g).2.n (ZQ ⟨Za t,n,m⟩ g).2.m
  else if (ZN (Za (ZQ ⟨Za t,n,m⟩ g).2.s)).1.2=false then(⟨0,[]⟩,6)
  else Q8 f (ZN (Za (ZQ ⟨Za t,n,m⟩ g).2.s)).2 (ZQ ⟨Za t,n,m⟩ g).2.n (ZQ ⟨Za t,n,m⟩ g).2.m (ZN (Za (ZQ ⟨Za t,n,m⟩ g).2.s)).1.1
def Zn(s:List UInt8):Lin×Int:=Q8 (s.length+1) (ZN (Za s)).2 0 [] (ZN (Za s)).1.1
end Go.Pl

namespace Go.Pl
open Go.RowKit
open Enc (enc dec is)
open EncL (encL decL isL)
def DZ(x y:Coef):Int:=if Lib.compareBytes x.v.s y.v.s≠0 then Lib.compareBytes x.v.s y.v.s else Qm x.c y.c
def WS:List Coef->List Coef->Int
 | [],[]=>0
 | [],_::_=> -1
 | _::_,[]=>1
 | x::l,y::m=>if DZ x y≠0 then DZ x y else WS l m
def VA(a b:Lin):Int:=if WS a.t b.t≠0 then WS a.t b.t else Qm a.k b.k
def Z4(o:List UInt8)(n:Int)(s:List UInt8):List UInt8:=
 (if decide (n ≥ 0)&&decide (o≠[])then o++[43]else o)++((if decide (s≠[])&&(decide (n=1)||decide (n = -1))then Lib.trimSuffix (ZC n).s [49]else(ZC n).s)++s)
def UD(ts:List Coef):List UInt8:=ts.foldl (fun o t=>Z4 o t.c t.v.s) []
def Zx(l:Lin):List UInt8:=if Zh l then(if decide (l.k≠0)||decide (UD l.t=[])then Z4 (UD l.t) l.k []else UD l.t)else []
def Xm:List AV->List AObj->Bool
 | [.pv (.int .i64 n),.pv (.str s),.ptr 0 0],[.box [.pv (.str o)]]=>decide (-9223372036854775808<=n)&&decide (n<=9223372036854775807)&&decide (s.length<=1000000)&&decide (o.length<=1000000)
 | _,_=>false
def KH:List AV->List AObj->AV×List AObj×List AObj
 | [.pv (.int .i64 n),.pv (.str s),.ptr 0 0],[.box [.pv (.str o)]]=>(.tup [],[.box [.pv (.str (Z4 o n s))]],[])
 | _,_=>Wp
end Go.Pl

namespace Go.Pl
open Go.RowKit
open Enc (enc dec is)
open EncL (encL decL isL)
def QO(v:List UInt8)(b:Bnd):Bool:=decide (b.kind=1)&&b.v.s==v
def Gg:List AV->List AObj->Bool
 | [.pv x,.ptr 0 0],[.box [.pv (.str v),.pv (.int .i64 c)]]=>FI Bnd x
 | _,_=>false
def Aq:List AV->List AObj->AV×List AObj×List AObj
 | [.pv x,_],[.box [.pv (.str v),.pv (.int .i64 c)]]=>(.pv (.bool (QO v (dec x))),[.box [.pv (.str v),.pv (.int .i64 c)]],[])
 | _,_=>Wp
def QH(g:Nat):List AV->List AObj->Bool
 | [.pv l,.fn g' [] [.ptr 0 0]],[.box [.pv (.str v),.pv (.int .i64 c)]]=>g'==g&&FI (List Bnd) l&&decide ((dec l:List Bnd).length<=9223372036854775807)
 | _,_=>false
def Hz:List AV->List AObj->AV×List AObj×List AObj
 | [.pv l,_],[.box [.pv (.str v),.pv (.int .i64 c)]]=>(.pv (.int .i64 (XA (QO v) (dec l))),[.box [.pv (.str v),.pv (.int .i64 c)]],[])
 | _,_=>Wp
def RO(bs:List Bnd)(s:Int×List (Str×Int))(t:Coef):Option (Int×List (Str×Int)):=match bs.find? (QO t.v.s)with
 | none=>some (s.1,Va t.v (Yd (Vj s.2 t.v.s+t.c)) s.2)
 | some b=>if Zh b.dim then some (Yd (s.1+Yd (t.c*b.dim.k)),Y4 t.c b.dim.t s.2)else none
def U1(bs:List Bnd):List Coef->Int×List (Str×Int)->Option (Int×List (Str×Int))
 | [],s=>some s
 | t::ts,s=>match RO bs s t with|none=>none|some s'=>U1 bs ts s'
def UY(l:Lin)(bs:List Bnd):Lin×Int:=if Zh l then(match U1 bs l.t (l.k,[])with|none=>(⟨0,[]⟩,1)|some s=>Xr s.1 s.2)else(⟨0,[]⟩,1)
def Jm(bs:List Bnd):Bool:=decide (bs.length<=9223372036854775807)&&bs.all fun b=>Zu b.dim
end Go.Pl

namespace Go.Pl
open Go.RowKit
open Enc (enc dec is)
open EncL (encL decL isL)
set_option maxRecDepth 100000
def Jc:IC:=(.seq (.reg [⟨(some 0),(.mv (.c (.bool false))),0,none⟩] none) (.seq (.reg [⟨(some 16),(.call (.c (.fn 19)) [(.c (.str [50,110]))]),0,none⟩,⟨(some 15),(.mv (.t 16)),2,none⟩,⟨(some 17),(.extract (.t 15) 0),2,none⟩,⟨(some 18),(.extract (.t 15) 1),2,none⟩,⟨(some 1),(.alloc (.agg [(.int .i64 0),(.sl 0 true [])])),2,none⟩,⟨none,(.store 2 (.t 1) (.t 17)),3,none⟩,⟨(some 2),(.mv (.t 18)),3,none⟩] none) (.seq (.reg [⟨(some 20),(.call (.c (.fn 19)) [(.c (.str [109,32,45,32,49]))]),0,none⟩,⟨(some 19),(.mv (.t 20)),2,none⟩,⟨(some 21),(.extract (.t 19) 0),2,none⟩,⟨(some 22),(.extract (.t 19) 1),2,none⟩,⟨(some 3),(.alloc (.agg [(.int .i64 0),(.sl 0 true [])])),2,none⟩,⟨none,(.store 2 (.t 3) (.t 21)),3,none⟩,⟨(some 4),(.mv (.t 22)),3,none⟩] none) (.seq (.reg [⟨(some 24),(.load true [(.int .i64),(.sl 2)] (.t 1)),0,none⟩,⟨(some 25),(.load true [(.int .i64),(.sl 2)] (.t 3)),0,none⟩,⟨(some 26),(.call (.c (.fn 39)) [(.t 24),(.t 25)]),0,none⟩,⟨(some 23),(.mv (.t 26)),2,none⟩,⟨(some 27),(.extract (.t 23) 0),2,none⟩,⟨(some 28),(.extract (.t 23) 1),2,none⟩,⟨(some 5),(.alloc (.agg [(.int .i64 0),(.sl 0 true [])])),2,none⟩,⟨none,(.store 2 (.t 5) (.t 27)),3,none⟩,⟨(some 6),(.mv (.t 28)),3,none⟩] none) (.seq (.reg [⟨(some 30),(.call (.c (.fn 19)) [(.c (.str [51,32,42,32,110,32,45,32,110,43,32,50]))]),0,none⟩,⟨(some 29),(.mv (.t 30)),2,none⟩,⟨(some 31),(.extract (.t 29) 0),2,none⟩,⟨(some 32),(.extract (.t 29) 1),2,none⟩,⟨(some 7),(.alloc (.agg [(.int .i64 0),(.sl 0 true [])])),2,none⟩,⟨none,(.store 2 (.t 7) (.t 31)),3,none⟩,⟨(some 8),(.mv (.t 32)),3,none⟩] none) (.seq (.reg [⟨(some 34),(.call (.c (.fn 19)) [(.c (.str [110,43,109]))]),0,none⟩,⟨(some 33),(.mv (.t 34)),2,none⟩,⟨(some 35),(.extract (.t 33) 0),2,none⟩,⟨(some 36),(.extract (.t 33) 1),2,none⟩,⟨(some 9),(.alloc (.agg [(.int .i64 0),(.sl 0 true [])])),2,none⟩,⟨none,(.store 2 (.t 9) (.t 35)),3,none⟩,⟨(some 10),(.mv (.t 36)),3,none⟩] none) (.seq (.reg [⟨(some 38),(.call (.c (.fn 19)) [(.c (.str [109,43,49]))]),0,none⟩,⟨(some 37),(.mv (.t 38)),2,none⟩,⟨(some 39),(.extract (.t 37) 0),2,none⟩,⟨(some 40),(.extract (.t 37) 1),2,none⟩,⟨(some 11),(.alloc (.agg [(.int .i64 0),(.sl 0 true [])])),2,none⟩,⟨none,(.store 2 (.t 11) (.t 39)),3,none⟩,⟨(some 12),(.mv (.t 40)),3,none⟩] none) (.seq (.reg [⟨(some 42),(.load true [(.int .i64),(.sl 2)] (.t 9)),0,none⟩,⟨(some 43),(.load true [(.int .i64),(.sl 2)] (.t 11)),0,none⟩,⟨(some 44),(.build [(.int .i64 0),(.str []),(.int .i64 0),(.sl 0 true []),(.str []),(.sl 0 true []),(.str [])] [(0,(1,(.c (.int .i64 1)))),(1,(1,(.c (.str [110])))),(2,(2,(.t 43)))]),0,none⟩,⟨(some 45),(.bslice 73 7 1 (.agg [(.int .i64 0),(.str []),(.int .i64 0),(.sl 0 true []),(.str []),(.sl 0 true []),(.str [])]) [(0,(.t 44))]),0,none⟩,⟨(some 46),(.call (.c (.fn 42)) [(.t 42),(.t 45)]),1,none⟩,⟨(some 41),(.mv (.t 46)),3,none⟩,⟨(some 47),(.extract (.t 41) 0),3,none⟩,⟨(some 48),(.extract (.t 41) 1),3,none⟩,⟨(some 13),(.alloc (.agg [(.int .i64 0),(.sl 0 true [])])),3,none⟩,⟨none,(.store 2 (.t 13) (.t 47)),4,none⟩,⟨(some 14),(.mv (.t 48)),4,none⟩] none) (.seq (.reg [⟨(some 49),(.mv (.t 2)),0,none⟩,⟨(some 50),(.bin .num .eql (.t 49) (.c (.int .i64 0))),0,none⟩,⟨(some 51),(.mv (.t 50)),0,none⟩,⟨(some 52),(.mv (.t 4)),0,(some (51,true))⟩,⟨(some 53),(.bin .num .eql (.t 52) (.c (.int .i64 0))),0,(some (51,true))⟩,⟨(some 54),(.pick (.t 51) (.t 53) (.c (.bool false))),0,none⟩,⟨(some 55),(.mv (.t 54)),0,none⟩,⟨(some 56),(.mv (.t 6)),0,(some (55,true))⟩,⟨(some 57),(.bin .num .eql (.t 56) (.c (.int .i64 0))),0,(some (55,true))⟩,⟨(some 58),(.pick (.t 55) (.t 57) (.c (.bool false))),0,none⟩,⟨(some 59),(.mv (.t 58)),0,none⟩,⟨(some 60),(.mv (.t 8)),0,(some (59,true))⟩,⟨(some 61),(.bin .num .eql (.t 60) (.c (.int .i64 0))),0,(some (59,true))⟩,⟨(some 62),(.pick (.t 59) (.t 61) (.c (.bool false))),0,none⟩,⟨(some 63),(.mv (.t 62)),0,none⟩,⟨(some 64),(.mv (.t 10)),0,(some (63,true))⟩,⟨(some 65),(.bin .num .eql (.t 64) (.c (.int .i64 0))),0,(some (63,true))⟩,⟨(some 66),(.pick (.t 63) (.t 65) (.c (.bool false))),0,none⟩,⟨(some 67),(.mv (.t 66)),0,none⟩,⟨(some 68),(.mv (.t 12)),0,(some (67,true))⟩,⟨(some 69),(.bin .num .eql (.t 68) (.c (.int .i64 0))),0,(some (67,true))⟩,⟨(some 70),(.pick (.t 67) (.t 69) (.c (.bool false))),0,none⟩,⟨(some 71),(.mv (.t 70)),0,none⟩,⟨(some 72),(.mv (.t 14)),0,(some (71,true))⟩,⟨(some 73),(.bin .num .eql (.t 72) (.c (.int .i64 0))),0,(some (71,true))⟩,⟨(some 74),(.pick (.t 71) (.t 73) (.c (.bool false))),0,none⟩,⟨(some 75),(.mv (.t 74)),0,none⟩,⟨(some 76),(.load true [(.int .i64),(.sl 2)] (.t 5)),0,(some (75,true))⟩,⟨(some 77),(.call (.c (.fn 17)) [(.t 76)]),0,(some (75,true))⟩,⟨(some 78),(.bin .num .eql (.t 77) (.c (.str [109,43,50,110,45,49]))),2,(some (75,true))⟩,⟨(some 79),(.pick (.t 75) (.t 78) (.c (.bool false))),2,none⟩,⟨(some 80),(.mv (.t 79)),2,none⟩,⟨(some 81),(.load true [(.int .i64),(.sl 2)] (.t 7)),2,(some (80,true))⟩,⟨(some 82),(.call (.c (.fn 17)) [(.t 81)]),2,(some (80,true))⟩,⟨(some 83),(.bin .num .eql (.t 82) (.c (.str [50,110,43,50]))),4,(some (80,true))⟩,⟨(some 84),(.pick (.t 80) (.t 83) (.c (.bool false))),4,none⟩,⟨(some 85),(.mv (.t 84)),4,none⟩,⟨(some 86),(.load true [(.int .i64),(.sl 2)] (.t 13)),4,(some (85,true))⟩,⟨(some 87),(.call (.c (.fn 17)) [(.t 86)]),4,(some (85,true))⟩,⟨(some 88),(.bin .num .eql (.t 87) (.c (.str [50,109,43,49]))),6,(some (85,true))⟩,⟨(some 89),(.pick (.t 85) (.t 88) (.c (.bool false))),6,none⟩,⟨(some 90),(.mv (.t 89)),6,none⟩,⟨(some 91),(.load true [(.int .i64),(.sl 2)] (.t 5)),6,(some (90,true))⟩,⟨(some 92),(.call (.c (.fn 73)) [(.t 91)]),6,(some (90,true))⟩,⟨(some 93),(.pick (.t 90) (.t 92) (.c (.bool false))),8,none⟩,⟨(some 94),(.mv (.t 93)),8,none⟩,⟨(some 95),(.load true [(.int .i64),(.sl 2)] (.t 5)),8,(some (94,true))⟩,⟨(some 96),(.load true [(.int .i64),(.sl 2)] (.t 5)),8,(some (94,true))⟩,⟨(some 97),(.call (.c (.fn 74)) [(.t 95),(.t 96)]),8,(some (94,true))⟩,⟨(some 98),(.pick (.t 94) (.t 97) (.c (.bool false))),10,none⟩,⟨(some 0),(.mv (.t 98)),10,none⟩] none) .ret)))))))))
def JC:List IRes:=[(.tmp 0)]
abbrev Fh:Nat:=99
def GD:ZJ:=WI [(19,.pure (preT (fun x:Str×Unit=>decide (x.1.s.length<=400000))) (Zk (fun x:Str×Unit=>Zn x.1.s))),(39,.pure (preT (fun x:Lin×Lin×Unit=>Zu x.1&&Zu x.2.1)) (Zk (fun x:Lin×Lin×Unit=>YB x.1 x.2.1 1))),(42,.pure (preT (fun x:Lin×List Bnd×Unit=>Zu x.1&&Jm x.2.1)) (Zk (fun x:Lin×List Bnd×Unit=>UY x.1 x.2.1))),(17,.pure (preT (fun x:Lin×Unit=>Zu x.1)) (Zk (fun x:Lin×Unit=>(⟨Zx x.1⟩:Str)))),(73,.pure (preT (fun x:Lin×Unit=>Zu x.1)) (Zk (fun x:Lin×Unit=>Zh x.1))),(74,.pure (preT (fun x:Lin×Lin×Unit=>Zz x.1&&Zz x.2.1)) (Zk (fun x:Lin×Lin×Unit=>VA x.1 x.2.1==0)))]
theorem Ob{G:PV->Prop}(h : ∃ y0:Lin×Int,AV.pv (Zk (fun(x:Str×Unit)=>Zn (Str.s x.1)) [(.str [(50:UInt8),(110:UInt8)])])=AV.pv (enc y0)∧(∃ y1:Lin×Int,AV.pv (Zk (fun(x:Str×Unit)=>Zn (Str.s x.1)) [(.str [(109:UInt8),(32:UInt8),(45:UInt8),(32:UInt8),(49:UInt8)])])=AV.pv (enc y1)∧((Go.Pl.preT (fun(x:Lin×Lin×Unit)=>Zu x.1&&Zu x.2.1) [(.agg [(.int .i64 y0.1.k),(.sl 2 false (List.map enc y0.1.t))]),(.agg [(.int .i64 y1.1.k),(.sl 2 false (List.map enc y1.1.t))])])=true∧(∃ y2:Lin×Int,AV.pv (Zk (fun(x:Lin×Lin×Unit)=>YB x.1 x.2.1 1) [(.agg [(.int .i64 y0.1.k),(.sl 2 false (List.map enc y0.1.t))]),(.agg [(.int .i64 y1.1.k),(.sl 2 false (List.map enc y1.1.t))])])=AV.pv (enc y2)∧(∃ y3:Lin×Int,AV.pv (Zk (fun(x:Str×Unit)=>Zn (Str.s x.1)) [(.str [(51:UInt8),(32:UInt8),(42:UInt8),(32:UInt8),(110:UInt8),(32:UInt8),(45:UInt8),(32:UInt8),(110:UInt8),(43:UInt8),(32:UInt8),(50:UInt8)])])=AV.pv (enc y3)∧(∃ y4:Lin×Int,AV.pv (Zk (fun(x:Str×Unit)=>Zn (Str.s x.1)) [(.str [(110:UInt8),(43:UInt8),(109:UInt8)])])=AV.pv (enc y4)∧(∃ y5:Lin×Int,AV.pv (Zk (fun(x:Str×Unit)=>Zn (Str.s x.1)) [(.str [(109:UInt8),(43:UInt8),(49:UInt8)])])=AV.pv (enc y5)∧((Go.Pl.preT (fun(x:Lin×List Bnd×Unit)=>Zu x.1&&Jm x.2.1) [(.agg [(.int .i64 y4.1.k),(.sl 2 false (List.map enc y4.1.t))]),(.sl 7 false [(.agg [(.int .i64 1),(.str [(110:UInt8)]),(.int .i64 y5.1.k),(.sl 2 false (List.map enc y5.1.t)),(.str []),(.sl 0 true []),(.str [])])])])=true∧(∃ y6:Lin×Int,AV.pv (Zk (fun(x:Lin×List Bnd×Unit)=>UY x.1 x.2.1) [(.agg [(.int .i64 y4.1.k),(.sl 2 false (List.map enc y4.1.t))]),(.sl 7 false [(.agg [(.int .i64 1),(.str [(110:UInt8)]),(.int .i64 y5.1.k),(.sl 2 false (List.map enc y5.1.t)),(.str []),(.sl 0 true []),(.str [])])])])=AV.pv (enc y6)∧(if (y0.2==0)=true then if (y1.2==0)=true then if (y2.2==0)=true then if (y3.2==0)=true then if (y4.2==0)=true then if (y5.2==0)=true then if (y6.2==0)=true then(Go.Pl.preT (fun(x:Lin×Unit)=>Zu x.1) [(.agg [(.int .i64 y2.1.k),(.sl 2 false (List.map enc y2.1.t))])])=true∧(∃ y7:Str,AV.pv (Zk (fun(x:Lin×Unit)=>Str.mk (Zx x.1)) [(.agg [(.int .i64 y2.1.k),(.sl 2 false (List.map enc y2.1.t))])])=AV.pv (enc y7)∧(if (Str.s y7==[(109:UInt8),(43:UInt8),(50:UInt8),(110:UInt8),(45:UInt8),(49:UInt8)])=true then(Go.Pl.preT (fun(x:Lin×Unit)=>Zu x.1) [(.agg [(.int .i64 y3.1.k),(.sl 2 false (List.map enc y3.1.t))])])=true∧(∃ y8:Str,AV.pv (Zk (fun(x:Lin×Unit)=>Str.mk (Zx x.1)) [(.agg [(.int .i64 y3.1.k),(.sl 2 false (List.map enc y3.1.t))])])=AV.pv (enc y8)∧(if (Str.s y8==[(50:UInt8),(110:UInt8),(43:UInt8),(50:UInt8)])=true then(Go.Pl.preT (fun(x:Lin×Unit)=>Zu x.1) [(.agg [(.int .i64 y6.1.k),(.sl 2 false (List.map enc y6.1.t))])])=true∧(∃ y9:Str,AV.pv (Zk (fun(x:Lin×Unit)=>Str.mk (Zx x.1)) [(.agg [(.int .i64 y6.1.k),(.sl 2 false (List.map enc y6.1.t))])])=AV.pv (enc y9)∧(if (Str.s y9==[(50:UInt8),(109:UInt8),(43:UInt8),(49:UInt8)])=true then(Go.Pl.preT (fun(x:Lin×Unit)=>Zu x.1) [(.agg [(.int .i64 y2.1.k),(.sl 2 false (List.map enc y2.1.t))])])=true∧(∃ y10:Bool,AV.pv (Zk (fun(x:Lin×Unit)=>Zh x.1) [(.agg [(.int .i64 y2.1.k),(.sl 2 false (List.map enc y2.1.t))])])=AV.pv (enc y10)∧(if (y10)=true then(Go.Pl.preT (fun(x:Lin×Lin×Unit)=>Zz x.1&&Zz x.2.1) [(.agg [(.int .i64 y2.1.k),(.sl 2 false (List.map enc y2.1.t))]),(.agg [(.int .i64 y2.1.k),(.sl 2 false (List.map enc y2.1.t))])])=true∧(∃ y11:Bool,AV.pv (Zk (fun(x:Lin×Lin×Unit)=>VA x.1 x.2.1==0) [(.agg [(.int .i64 y2.1.k),(.sl 2 false (List.map enc y2.1.t))]),(.agg [(.int .i64 y2.1.k),(.sl 2 false (List.map enc y2.1.t))])])=AV.pv (enc y11)∧(G ((.bool y11))))else(G ((.bool false)))))else(G ((.bool false)))))else(G ((.bool false)))))else(G ((.bool false)))))else(G ((.bool false)))else(G ((.bool false)))else(G ((.bool false)))else(G ((.bool false)))else(G ((.bool false)))else(G ((.bool false)))else(G ((.bool false))))))))))))):Zi GD 0 (Ze JC G) Jc [] (Xz 99 []):=Zi.tp (.lit (.abs (Lin×Int) (fun YY=>AV.pv (enc YY)) (.lit (.abs (Lin×Int) (fun YY=>AV.pv (enc YY)) (.req (.abs (Lin×Int) (fun YY=>AV.pv (enc YY)) (.lit (.abs (Lin×Int) (fun YY=>AV.pv (enc YY)) (.lit (.abs (Lin×Int) (fun YY=>AV.pv (enc YY)) (.lit (.abs (Lin×Int) (fun YY=>AV.pv (enc YY)) (.lit (.lit (.req (.abs (Lin×Int) (fun YY=>AV.pv (enc YY)) (.lit (.ask (.lit (.lit (.lit (.ask (.lit (.lit (.lit (.ask (.lit (.lit (.lit (.ask (.lit (.lit (.lit (.ask (.lit (.lit (.lit (.ask (.lit (.lit (.lit (.ask (.lit (.req (.abs (Str) (fun YY=>AV.pv (enc YY)) (.lit (.lit (.lit (.ask (.lit (.req (.abs (Str) (fun YY=>AV.pv (enc YY)) (.lit (.lit (.lit (.ask (.lit (.req (.abs (Str) (fun YY=>AV.pv (enc YY)) (.lit (.lit (.lit (.ask (.lit (.req (.abs (Bool) (fun YY=>AV.pv (enc YY)) (.lit (.ask (.lit (.lit (.req (.abs (Bool) (fun YY=>AV.pv (enc YY)) (.lit (.nil)))))) (.lit (.lit (.lit (.nil))))))))) (.lit (.lit (.lit (.lit (.lit (.lit (.nil)))))))))))))) (.lit (.lit (.lit (.lit (.lit (.lit (.lit (.lit (.lit (.lit (.nil)))))))))))))))))) (.lit (.lit (.lit (.lit (.lit (.lit (.lit (.lit (.lit (.lit (.lit (.lit (.lit (.lit (.nil)))))))))))))))))))))) (.lit (.lit (.lit (.lit (.lit (.lit (.lit (.lit (.lit (.lit (.lit (.lit (.lit (.lit (.lit (.lit (.lit (.lit (.nil))))))))))))))))))))))) (.lit (.lit (.lit (.lit (.lit (.lit (.lit (.lit (.lit (.lit (.lit (.lit (.lit (.lit (.lit (.lit (.lit (.lit (.lit (.lit (.lit (.nil)))))))))))))))))))))))))) (.lit (.lit (.lit (.lit (.lit (.lit (.lit (.lit (.lit (.lit (.lit (.lit (.lit (.lit (.lit (.lit (.lit (.lit (.lit (.lit (.lit (.lit (.lit (.lit (.nil))))))))))))))))))))))))))))) (.lit (.lit (.lit (.lit (.lit (.lit (.lit (.lit (.lit (.lit (.lit (.lit (.lit (.lit (.lit (.lit (.lit (.lit (.lit (.lit (.lit (.lit (.lit (.lit (.lit (.lit (.lit (.nil)))))))))))))))))))))))))))))))) (.lit (.lit (.lit (.lit (.lit (.lit (.lit (.lit (.lit (.lit (.lit (.lit (.lit (.lit (.lit (.lit (.lit (.lit (.lit (.lit (.lit (.lit (.lit (.lit (.lit (.lit (.lit (.lit (.lit (.lit (.nil))))))))))))))))))))))))))))))))))) (.lit (.lit (.lit (.lit (.lit (.lit (.lit (.lit (.lit (.lit (.lit (.lit (.lit (.lit (.lit (.lit (.lit (.lit (.lit (.lit (.lit (.lit (.lit (.lit (.lit (.lit (.lit (.lit (.lit (.lit (.lit (.lit (.lit (.nil)))))))))))))))))))))))))))))))))))))) (.lit (.lit (.lit (.lit (.lit (.lit (.lit (.lit (.lit (.lit (.lit (.lit (.lit (.lit (.lit (.lit (.lit (.lit (.lit (.lit (.lit (.lit (.lit (.lit (.lit (.lit (.lit (.lit (.lit (.lit (.lit (.lit (.lit (.lit (.lit (.lit (.nil))))))))))))))))))))))))))))))))))))))))))))))))))))))) h (by kernel_rfl)
def U6:IC:=(.seq (.reg [⟨(some 1),(.box 2 (.t 0)),0,none⟩,⟨(some 2),(.alloc (.agg [(.int .i64 0),(.sl 0 true [])])),1,none⟩,⟨(some 3),(.mv (.c (.int .i64 0))),2,none⟩] none) (.seq (.seq (.reg [⟨(some 4),(.load true [(.int .i64),(.sl 2)] (.t 1)),0,none⟩,⟨(some 5),(.call (.c (.fn 20)) [(.t 4)]),0,none⟩,⟨(some 6),(.un .not (.t 5)),2,none⟩] none) (.cond (.t 6) (.seq (.reg [⟨(some 7),(.build [(.int .i64 0),(.sl 0 true [])] []),0,none⟩,⟨none,(.store 2 (.t 2) (.t 7)),0,none⟩,⟨(some 3),(.mv (.c (.int .i64 3))),0,none⟩] none) .ret) .skip)) (.seq (.reg [⟨(some 8),(.load true [(.int .i64),(.sl 2)] (.t 1)),0,none⟩,⟨none,(.store 2 (.t 2) (.t 8)),0,none⟩,⟨(some 3),(.mv (.c (.int .i64 0))),0,none⟩] none) .ret)))
def VL:List IRes:=[(.cell true 2 2),(.tmp 3)]
abbrev Ti:Nat:=9
def UJ:ZJ:=WI [(20,.pure (preT (fun x:Lin×Unit=>Zz x.1)) (Zk (fun x:Lin×Unit=>Zh x.1)))]
theorem RV{G:PV->Prop}(l:Lin)(h:(Go.Pl.preT (fun(x:Lin×Unit)=>Zz x.1) [(.agg [(.int .i64 l.k),(.sl 2 false (List.map enc l.t))])])=true∧(∃ y0:Bool,AV.pv (Zk (fun(x:Lin×Unit)=>Zh x.1) [(.agg [(.int .i64 l.k),(.sl 2 false (List.map enc l.t))])])=AV.pv (enc y0)∧(if (!y0)=true then G ((.tup [(.agg [(.int .i64 0),(.sl 0 true [])]),(.int .i64 3)]))else(G ((.tup [(.agg [(.int .i64 l.k),(.sl 2 false (List.map enc l.t))]),(.int .i64 0)])))))):Zi UJ 0 (Ze VL G) U6 [] (Xz 9 [enc l]):=Zi.tp (.req (.abs (Bool) (fun YY=>AV.pv (enc YY)) (.ask (.nil) (.nil)))) h (by kernel_rfl)
end Go.Pl

namespace Go.Pl
open Go.RowKit
open Enc (enc dec is)
open EncL (encL decL isL)
set_option maxRecDepth 100000
def VF:IC:=X6
def VH:List IRes:=[]
def Qu:ZJ:=WI [(154,.own YU XY),(73,.pure (preT (fun x:Lin×Unit=>Zu x.1)) (Zk (fun x:Lin×Unit=>Zh x.1)))]
theorem FZ{G:AV×List AObj×List AObj->Prop}(E:Xd)(r:List UInt8)(n:Int)(s:List UInt8)(c:Int)(h:if (c != 0)=true then E 99 ⟨X4 58 0 [(0,(.ptr 0 1)),(2,(.ptr 2 0)),(4,(.ptr 3 0)),(5,(.row 5 1 0 1)),(18,(.map 1)),(19,(.ptr 4 0))],[(.obj (.box [(.pv (.str r)),(.pv (.int .i64 n)),(.map 1)])),.dead,(.obj (.box [(.pv (.int .i64 0)),(.pv (.sl 0 true []))])),(.obj (.box [(.pv (.int .i64 n)),(.pv (.sl 0 true []))])),.dead,(.obj (.row false 9 1 [(.str s)]))]⟩ (fun x S'=>Nu Qu E 5 (Zd 5 VH G) VF 99 x S')else(E 99 ⟨X4 58 0 [(0,(.ptr 0 1)),(2,(.ptr 2 0)),(4,(.ptr 3 0)),(5,(.pv (.sl 0 true []))),(18,(.map 1)),(19,(.ptr 4 0))],[(.obj (.box [(.pv (.str r)),(.pv (.int .i64 n)),(.map 1)])),.dead,(.obj (.box [(.pv (.int .i64 0)),(.pv (.sl 0 true []))])),(.obj (.box [(.pv (.int .i64 n)),(.pv (.sl 0 true []))])),.dead]⟩ (fun x S'=>Nu Qu E 5 (Zd 5 VH G) VF 99 x S'))):Z9 Qu E 5 (Zd 5 VH G) (.inl VF) [.blk 1,.seq (.ext 99 [0,2,4,5,18,19])] ⟨X4 58 0 [(0,.ptr 0 1),(2,.ptr 2 0),(4,.ptr 3 0),(5,.pv (.sl 0 true [])),(6,.pv (.str s)),(7,.pv (.int .i64 c)),(18,.map 1),(19,.ptr 4 0),(22,.pv (.tup [.str s,.int .i64 c])),(23,.pv (.str s)),(24,.pv (.int .i64 c))],[.obj (.box [.pv (.str r),.pv (.int .i64 n),.map 1]),.dead,.obj (.box [.pv (.int .i64 0),.pv (.sl 0 true [])]),.obj (.box [.pv (.int .i64 n),.pv (.sl 0 true [])]),.dead]⟩:=Z9.mo (.lit (.ask (.lit (.lit (.lit (.lit (.lit (.nil)))))) (.nil))) h (by kernel_rfl)
theorem Oo{G:AV×List AObj×List AObj->Prop}(E:Xd)(r:List UInt8)(n:Int)(s:List UInt8)(c:Int)(l:Nat)(xs:List (List UInt8))(h:if (c != 0)=true then(List.length (List.map PV.str xs)==l&&l==l&&decide ((l+List.length (List.drop 0 (List.take 1 [PV.str s])))*16<=1099511627776)&&decide (l+List.length (List.drop 0 (List.take 1 [PV.str s]))<=1099511627776))=true∧(E 99 ⟨X4 58 0 [(0,(.ptr 0 1)),(2,(.ptr 2 0)),(4,(.ptr 3 0)),(5,(.row 5 (l+List.length (List.drop 0 (List.take 1 [PV.str s]))) 0 (l+List.length (List.drop 0 (List.take 1 [PV.str s]))))),(18,(.map 1)),(19,(.ptr 4 0))],[(.obj (.box [(.pv (.str r)),(.pv (.int .i64 n)),(.map 1)])),.dead,(.obj (.box [(.pv (.int .i64 0)),(.pv (.sl 0 true []))])),(.obj (.box [(.pv (.int .i64 n)),(.pv (.sl 0 true []))])),.dead,(.obj (.row false 9 1 (List.map PV.str xs++List.drop 0 (List.take 1 [PV.str s]))))]⟩ (fun x S'=>Nu Qu E 6 (Zd 6 VH G) VF 99 x S'))else(E 99 ⟨X4 58 0 [(0,(.ptr 0 1)),(2,(.ptr 2 0)),(4,(.ptr 3 0)),(5,(.row 5 l 0 l)),(18,(.map 1)),(19,(.ptr 4 0))],[(.obj (.box [(.pv (.str r)),(.pv (.int .i64 n)),(.map 1)])),.dead,(.obj (.box [(.pv (.int .i64 0)),(.pv (.sl 0 true []))])),(.obj (.box [(.pv (.int .i64 n)),(.pv (.sl 0 true []))])),.dead,(.obj (.row false 9 1 (List.map PV.str xs)))]⟩ (fun x S'=>Nu Qu E 6 (Zd 6 VH G) VF 99 x S'))):Z9 Qu E 6 (Zd 6 VH G) (.inl VF) [.blk 1,.seq (.ext 99 [0,2,4,5,18,19])] ⟨X4 58 0 [(0,.ptr 0 1),(2,.ptr 2 0),(4,.ptr 3 0),(5,.row 5 l 0 l),(6,.pv (.str s)),(7,.pv (.int .i64 c)),(18,.map 1),(19,.ptr 4 0),(22,.pv (.tup [.str s,.int .i64 c])),(23,.pv (.str s)),(24,.pv (.int .i64 c))],[.obj (.box [.pv (.str r),.pv (.int .i64 n),.map 1]),.dead,.obj (.box [.pv (.int .i64 0),.pv (.sl 0 true [])]),.obj (.box [.pv (.int .i64 n),.pv (.sl 0 true [])]),.dead,.obj (.row false 9 1 (xs.map .str))]⟩:=Z9.mo (.lit (.ask (.lit (.lit (.req (.nil)))) (.nil))) h (by kernel_rfl)
def YJ:IC:=Yy
def YL:List IRes:=[(.cell true 2 2),(.tmp 3)]
abbrev a3b:Nat:=58
def YM:ZJ:=WI [(154,.own YU XY),(73,.pure (preT (fun x:Lin×Unit=>Zu x.1)) (Zk (fun x:Lin×Unit=>Zh x.1)))]
theorem a7f{G:AV×List AObj×List AObj->Prop}(E:Xd)(r:List UInt8)(n:Int)(m:List (Str×Int))(h:E 0 ⟨X4 58 0 [(0,(.ptr 0 1)),(2,(.ptr 2 0)),(4,(.ptr 3 0)),(5,(.pv (.sl 0 true []))),(6,.undef),(7,.undef),(15,.undef),(16,.undef),(17,.undef),(18,.undef),(19,.undef),(20,.undef),(21,.undef),(22,.undef),(23,.undef),(24,.undef),(25,.undef),(26,.undef),(27,.undef),(28,.undef),(29,.undef),(30,.undef)],[(.obj (.box [(.pv (.str r)),(.pv (.int .i64 n)),(.map 1)])),(.obj (.map (Zc m))),(.obj (.box [(.pv (.int .i64 0)),(.pv (.sl 0 true []))])),(.obj (.box [(.pv (.int .i64 n)),(.pv (.sl 0 true []))]))]⟩ (fun x S'=>Nu YM E 2 (Zd 2 YL G) YJ 0 x S')):Z9 YM E 2 (Zd 2 YL G) (.inl YJ) [] (Ym 58 [.ptr 0 1] [.box [.pv (.str r),.pv (.int .i64 n),.map 1],.map (Zc m)]):=Z9.mo (.nil) h (by kernel_rfl)
-- IMPOSSIBLE
theorem OU{G:AV×List AObj×List AObj->Prop}(E:Xd)(r:List UInt8)(n:Int)(m:List (Str×Int))(i:Int)(h:if (decide (i<0))=true then(decide (0<=i)&&decide (Int.toNat i<List.length ([]:List PV))&&0==1)=true∧(False)else(∃ y0:Bool,AV.pv (Zk (fun(x:Lin×Unit)=>Zh x.1) [(.agg [(.int .i64 n),(.sl 0 true [])])])=AV.pv (enc y0)∧(if (!y0)=true then G (((.tup [(.pv (.agg [(.int .i64 0),(.sl 0 true [])])),(.pv (.int .i64 3))]),([(.box [(.pv (.str r)),(.pv (.int .i64 n)),(.map 1)]),(.map (Zc m))],[])))else(G (((.tup [(.pv (.agg [(.int .i64 n),(.sl 0 true [])])),(.pv (.int .i64 0))]),([(.box [(.pv (.str r)),(.pv (.int .i64 n)),(.map 1)]),(.map (Zc m))],[]))))))):AJ YM E 2 (Zd 2 YL G) YJ 0 58 [(0,.ptr 0 1),(2,.ptr 2 0),(4,.ptr 3 0),(33,.pv (.sl 0 true [])),(34,.pv (.int .i64 0)),(35,.pv (.int .i64 i))] [.obj (.box [.pv (.str r),.pv (.int .i64 n),.map 1]),.obj (.map (Zc m)),.obj (.box [.pv (.int .i64 0),.pv (.sl 0 true [])]),.obj (.box [.pv (.int .i64 n),.pv (.sl 0 true [])])]:=Z9.mo (.lit (.ask (.req (.keep (.lit (.nil)))) (.lit (.abs (Bool) (fun YY=>AV.pv (enc YY)) (.ask (.nil) (.nil)))))) h (by kernel_rfl)
theorem a0w{G:AV×List AObj×List AObj->Prop}(E:Xd)(r:List UInt8)(n:Int)(m:List (Str×Int))(l:Nat)(xs:List (List UInt8))(i:Int)(h:if (decide (i<(↑l:Int)))=true then(decide (0<=i)&&decide (0+Int.toNat i<l)&&List.length (List.map PV.str xs)==l)=true∧((List.length (List.map PV.str xs)==l&&decide (0+Int.toNat i<List.length (List.map PV.str xs)))=true∧((decide (0+List.length [Sh.str]<=List.length (PV.cells (List.getD (List.map PV.str xs) (0+Int.toNat i) default)))&&U2 (PV.cells (List.getD (List.map PV.str xs) (0+Int.toNat i) default)) 0 [Sh.str])=true∧((Wu (Sh.co Sh.str (List.getD (PV.cells (List.getD (List.map PV.str xs) (0+Int.toNat i) default)) 0 default)) (Zc m)&&Sh.fit (Sh.int .i64) (ZL (Sh.co Sh.str (List.getD (PV.cells (List.getD (List.map PV.str xs) (0+Int.toNat i) default)) 0 default)) (PV.int .i64 0) (Zc m)))=true∧(AJ YM E 2 (Zd 2 YL G) YJ 0 58 [(0,(.ptr 0 1)),(2,(.ptr 2 0)),(4,(.ptr 3 0)),(33,(.row 4 l 0 l)),(34,(.pv (.int .i64 (↑l:Int)))),(35,(.pv (.int .i64 (IntKind.wrap IntKind.i64 (i+1)))))] [(.obj (.box [(.pv (.str r)),(.pv (.int .i64 n)),(.map 1)])),(.obj (.map (Zc m))),(.obj (.box [(.pv (.int .i64 0)),(.pv (.sl 0 true []))])),(.obj (.box [(.pv (.int .i64 n)),(.row 5 1 0 1)])),(.obj (.row false 9 1 (List.map PV.str xs))),(.obj (.row false 61 2 [(.agg [(.str (PV.asStr (List.getD (PV.cells (List.getD (List.map PV.str xs) (0+Int.toNat i) default)) 0 default))),(.int .i64 (PV.asInt (ZL (Sh.co Sh.str (List.getD (PV.cells (List.getD (List.map PV.str xs) (0+Int.toNat i) default)) 0 default)) (PV.int .i64 0) (Zc m))))])]))]))))else(∃ y0:Bool,AV.pv (Zk (fun(x:Lin×Unit)=>Zh x.1) [(.agg [(.int .i64 n),(.sl 0 true [])])])=AV.pv (enc y0)∧(if (!y0)=true then G (((.tup [(.pv (.agg [(.int .i64 0),(.sl 0 true [])])),(.pv (.int .i64 3))]),([(.box [(.pv (.str r)),(.pv (.int .i64 n)),(.map 1)]),(.map (Zc m))],[])))else(G (((.tup [(.pv (.agg [(.int .i64 n),(.sl 0 true [])])),(.pv (.int .i64 0))]),([(.box [(.pv (.str r)),(.pv (.int .i64 n)),(.map 1)]),(.map (Zc m))],[]))))))):AJ YM E 2 (Zd 2 YL G) YJ 0 58 [(0,.ptr 0 1),(2,.ptr 2 0),(4,.ptr 3 0),(33,.row 4 l 0 l),(34,.pv (.int .i64 l)),(35,.pv (.int .i64 i))] [.obj (.box [.pv (.str r),.pv (.int .i64 n),.map 1]),.obj (.map (Zc m)),.obj (.box [.pv (.int .i64 0),.pv (.sl 0 true [])]),.obj (.box [.pv (.int .i64 n),.pv (.sl 0 true [])]),.obj (.row false 9 1 (xs.map .str))]:=Z9.mo (.lit (.ask (.req (.keep (.req (.req (.req (.keep (.lit (.lit (.lit (.lit (.lit (.lit (.nil))))))))))))) (.lit (.abs (Bool) (fun YY=>AV.pv (enc YY)) (.ask (.nil) (.nil)))))) h (by kernel_rfl)
theorem Tq{G:AV×List AObj×List AObj->Prop}(E:Xd)(r:List UInt8)(n:Int)(m:List (Str×Int))(l:Nat)(xs:List (List UInt8))(i:Int)(q:Nat)(ts:List Coef)(h:if (decide (i<(↑l:Int)))=true then(decide (0<=i)&&decide (0+Int.toNat i<l)&&List.length (List.map PV.str xs)==l)=true∧((List.length (List.map PV.str xs)==l&&decide (0+Int.toNat i<List.length (List.map PV.str xs)))=true∧((decide (0+List.length [Sh.str]<=List.length (PV.cells (List.getD (List.map PV.str xs) (0+Int.toNat i) default)))&&U2 (PV.cells (List.getD (List.map PV.str xs) (0+Int.toNat i) default)) 0 [Sh.str])=true∧((Wu (Sh.co Sh.str (List.getD (PV.cells (List.getD (List.map PV.str xs) (0+Int.toNat i) default)) 0 default)) (Zc m)&&Sh.fit (Sh.int .i64) (ZL (Sh.co Sh.str (List.getD (PV.cells (List.getD (List.map PV.str xs) (0+Int.toNat i) default)) 0 default)) (PV.int .i64 0) (Zc m)))=true∧((List.length (List.map enc ts)==q&&q==q&&decide ((q+List.length (List.drop 0 (List.take 1 [PV.agg [Sh.co Sh.str (List.getD (PV.cells (List.getD (List.map PV.str xs) (0+Int.toNat i) default)) 0 default),if false=true then PV.tup [Sh.co (Sh.int .i64) (ZL (Sh.co Sh.str (List.getD (PV.cells (List.getD (List.map PV.str xs) (0+Int.toNat i) default)) 0 default)) (PV.int .i64 0) (Zc m)),PV.bool (Y3 (Sh.co Sh.str (List.getD (PV.cells (List.getD (List.map PV.str xs) (0+Int.toNat i) default)) 0 default)) (Zc m))]else Sh.co (Sh.int .i64) (ZL (Sh.co Sh.str (List.getD (PV.cells (List.getD (List.map PV.str xs) (0+Int.toNat i) default)) 0 default)) (PV.int .i64 0) (Zc m))]])))*24<=1099511627776)&&decide (q+List.length (List.drop 0 (List.take 1 [PV.agg [Sh.co Sh.str (List.getD (PV.cells (List.getD (List.map PV.str xs) (0+Int.toNat i) default)) 0 default),if false=true then PV.tup [Sh.co (Sh.int .i64) (ZL (Sh.co Sh.str (List.getD (PV.cells (List.getD (List.map PV.str xs) (0+Int.toNat i) default)) 0 default)) (PV.int .i64 0) (Zc m)),PV.bool (Y3 (Sh.co Sh.str (List.getD (PV.cells (List.getD (List.map PV.str xs) (0+Int.toNat i) default)) 0 default)) (Zc m))]else Sh.co (Sh.int .i64) (ZL (Sh.co Sh.str (List.getD (PV.cells (List.getD (List.map PV.str xs) (0+Int.toNat i) default)) 0 default)) (PV.int .i64 0) (Zc m))]]))<=1099511627776))=true∧(AJ YM E 2 (Zd 2 YL G) YJ 0 58 [(0,(.ptr 0 1)),(2,(.ptr 2 0)),(4,(.ptr 3 0)),(33,(.row 4 l 0 l)),(34,(.pv (.int .i64 (↑l:Int)))),(35,(.pv (.int .i64 (IntKind.wrap IntKind.i64 (i+1)))))] [(.obj (.box [(.pv (.str r)),(.pv (.int .i64 n)),(.map 1)])),(.obj (.map (Zc m))),(.obj (.box [(.pv (.int .i64 0)),(.pv (.sl 0 true []))])),(.obj (.box [(.pv (.int .i64 n)),(.row 5 (q+List.length (List.drop 0 (List.take 1 [PV.agg [Sh.co Sh.str (List.getD (PV.cells (List.getD (List.map PV.str xs) (0+Int.toNat i) default)) 0 default),if false=true then PV.tup [Sh.co (Sh.int .i64) (ZL (Sh.co Sh.str (List.getD (PV.cells (List.getD (List.map PV.str xs) (0+Int.toNat i) default)) 0 default)) (PV.int .i64 0) (Zc m)),PV.bool (Y3 (Sh.co Sh.str (List.getD (PV.cells (List.getD (List.map PV.str xs) (0+Int.toNat i) default)) 0 default)) (Zc m))]else Sh.co (Sh.int .i64) (ZL (Sh.co Sh.str (List.getD (PV.cells (List.getD (List.map PV.str xs) (0+Int.toNat i) default)) 0 default)) (PV.int .i64 0) (Zc m))]]))) 0 (q+List.length (List.drop 0 (List.take 1 [PV.agg [Sh.co Sh.str (List.getD (PV.cells (List.getD (List.map PV.str xs) (0+Int.toNat i) default)) 0 default),if false=true then PV.tup [Sh.co (Sh.int .i64) (ZL (Sh.co Sh.str (List.getD (PV.cells (List.getD (List.map PV.str xs) (0+Int.toNat i) default)) 0 default)) (PV.int .i64 0) (Zc m)),PV.bool (Y3 (Sh.co Sh.str (List.getD (PV.cells (List.getD (List.map PV.str xs) (0+Int.toNat i) default)) 0 default)) (Zc m))]else Sh.co (Sh.int .i64) (ZL (Sh.co Sh.str (List.getD (PV.cells (List.getD (List.map PV.str xs) (0+Int.toNat i) default)) 0 default)) (PV.int .i64 0) (Zc m))]]))))])),(.obj (.row false 9 1 (List.map PV.str xs))),(.obj (.row false 61 2 (List.map enc ts++List.drop 0 (List.take 1 [PV.agg [Sh.co Sh.str (List.getD (PV.cells (List.getD (List.map PV.str xs) (0+Int.toNat i) default)) 0 default),if false=true then PV.tup [Sh.co (Sh.int .i64) (ZL (Sh.co Sh.str (List.getD (PV.cells (List.getD (List.map PV.str xs) (0+Int.toNat i) default)) 0 default)) (PV.int .i64 0) (Zc m)),PV.bool (Y3 (Sh.co Sh.str (List.getD (PV.cells (List.getD (List.map PV.str xs) (0+Int.toNat i) default)) 0 default)) (Zc m))]else Sh.co (Sh.int .i64) (ZL (Sh.co Sh.str (List.getD (PV.cells (List.getD (List.map PV.str xs) (0+Int.toNat i) default)) 0 default)) (PV.int .i64 0) (Zc m))]]))))])))))else((List.length (List.map enc ts)==q)=true∧((Go.Pl.preT (fun(x:Lin×Unit)=>Zu x.1) [(.agg [(.int .i64 n),(.sl 2 false (List.drop 0 (List.take q (List.map enc ts))))])])=true∧(∃ y0:Bool,AV.pv (Zk (fun(x:Lin×Unit)=>Zh x.1) [(.agg [(.int .i64 n),(.sl 2 false (List.drop 0 (List.take q (List.map enc ts))))])])=AV.pv (enc y0)∧(if (!y0)=true then G (((.tup [(.pv (.agg [(.int .i64 0),(.sl 0 true [])])),(.pv (.int .i64 3))]),([(.box [(.pv (.str r)),(.pv (.int .i64 n)),(.map 1)]),(.map (Zc m))],[])))else(G (((.tup [(.agg [(.pv (.int .i64 n)),(.row 2 q 0 q)]),(.pv (.int .i64 0))]),([(.box [(.pv (.str r)),(.pv (.int .i64 n)),(.map 1)]),(.map (Zc m))],[(.row true 61 2 (List.map enc ts))]))))))))):AJ YM E 2 (Zd 2 YL G) YJ 0 58 [(0,.ptr 0 1),(2,.ptr 2 0),(4,.ptr 3 0),(33,.row 4 l 0 l),(34,.pv (.int .i64 l)),(35,.pv (.int .i64 i))] [.obj (.box [.pv (.str r),.pv (.int .i64 n),.map 1]),.obj (.map (Zc m)),.obj (.box [.pv (.int .i64 0),.pv (.sl 0 true [])]),.obj (.box [.pv (.int .i64 n),.row 5 q 0 q]),.obj (.row false 9 1 (xs.map .str)),.obj (.row false 61 2 (ts.map enc))]:=Z9.mo (.lit (.ask (.req (.keep (.req (.req (.req (.keep (.lit (.lit (.req (.lit (.nil))))))))))) (.req (.req (.abs (Bool) (fun YY=>AV.pv (enc YY)) (.ask (.nil) (.nil))))))) h (by kernel_rfl)
theorem EC{G:AV×List AObj×List AObj->Prop}(E:Xd)(r:List UInt8)(n:Int)(m:List (Str×Int))(h:AJ YM E 2 (Zd 2 YL G) YJ 0 58 [(0,(.ptr 0 1)),(2,(.ptr 2 0)),(4,(.ptr 3 0)),(33,(.pv (.sl 0 true []))),(34,(.pv (.int .i64 0))),(35,(.pv (.int .i64 0)))] [(.obj (.box [(.pv (.str r)),(.pv (.int .i64 n)),(.map 1)])),(.obj (.map (Zc m))),(.obj (.box [(.pv (.int .i64 0)),(.pv (.sl 0 true []))])),(.obj (.box [(.pv (.int .i64 n)),(.pv (.sl 0 true []))]))]):Nu YM E 2 (Zd 2 YL G) YJ 0 .normal ⟨X4 58 0 [(0,.ptr 0 1),(2,.ptr 2 0),(4,.ptr 3 0),(5,.pv (.sl 0 true [])),(18,.map 1),(19,.ptr 4 0)],[.obj (.box [.pv (.str r),.pv (.int .i64 n),.map 1]),.obj (.map (Zc m)),.obj (.box [.pv (.int .i64 0),.pv (.sl 0 true [])]),.obj (.box [.pv (.int .i64 n),.pv (.sl 0 true [])]),.dead]⟩:=Z9.mo (.lit (.keep (.nil))) h (by kernel_rfl)
theorem E5{G:AV×List AObj×List AObj->Prop}(E:Xd)(r:List UInt8)(n:Int)(m:List (Str×Int))(l:Nat)(xs:List (List UInt8))(h:(YU [(.row 0 l 0 l)] [(.row false 9 1 (List.map PV.str xs))])=true∧(AJ YM E 2 (Zd 2 YL G) YJ 0 58 [(0,(.ptr 0 1)),(2,(.ptr 2 0)),(4,(.ptr 3 0)),(33,(.row 4 l 0 l)),(34,(.pv (.int .i64 (↑(l - 0):Int)))),(35,(.pv (.int .i64 0)))] [(.obj (.box [(.pv (.str r)),(.pv (.int .i64 n)),(.map 1)])),(.obj (.map (Zc m))),(.obj (.box [(.pv (.int .i64 0)),(.pv (.sl 0 true []))])),(.obj (.box [(.pv (.int .i64 n)),(.pv (.sl 0 true []))])),(.obj (.row false 9 1 (List.map PV.str (Yw (List.map JF (List.map PV.str xs))))))])):Nu YM E 2 (Zd 2 YL G) YJ 0 .normal ⟨X4 58 0 [(0,.ptr 0 1),(2,.ptr 2 0),(4,.ptr 3 0),(5,.row 5 l 0 l),(18,.map 1),(19,.ptr 4 0)],[.obj (.box [.pv (.str r),.pv (.int .i64 n),.map 1]),.obj (.map (Zc m)),.obj (.box [.pv (.int .i64 0),.pv (.sl 0 true [])]),.obj (.box [.pv (.int .i64 n),.pv (.sl 0 true [])]),.dead,.obj (.row false 9 1 (xs.map .str))]⟩:=Z9.mo (.req (.keep (.nil))) h (by kernel_rfl)
end Go.Pl

namespace Go.Pl
open Go.RowKit
open Enc (enc dec is)
open EncL (encL decL isL)
def Kt(r:List UInt8)(n:Int)(m:List (Str×Int))(l:List Coef):AV×List AObj×List AObj:=
 if Zh ⟨n,l⟩then
  if l.isEmpty then(.tup [.pv (.agg [.int .i64 n,.sl 0 true []]),.pv (.int .i64 0)],[.box [.pv (.str r),.pv (.int .i64 n),.map 1],.map (Zc m)],[])
  else(.tup [.agg [.pv (.int .i64 n),.row 2 l.length 0 l.length],.pv (.int .i64 0)],[.box [.pv (.str r),.pv (.int .i64 n),.map 1],.map (Zc m)],[.row true 61 2 (l.map enc)])
 else(.tup [.pv (.agg [.int .i64 0,.sl 0 true []]),.pv (.int .i64 3)],[.box [.pv (.str r),.pv (.int .i64 n),.map 1],.map (Zc m)],[])
theorem MH{E:Xd}(r:List UInt8)(n:Int)(m:List (Str×Int))(xs:List (List UInt8))(hx:xs.length<=1000000)(hsx : ∀ x∈xs,x.length<=1000000): ∀ (j k:Nat),j+k=xs.length->0<k ->
  AJ YM E 2 (Zd 2 YL fun z=>z=Kt r n m (Zw m xs)) YJ 0 58 [(0,.ptr 0 1),(2,.ptr 2 0),(4,.ptr 3 0),(33,.row 4 xs.length 0 xs.length),(34,.pv (.int .i64 xs.length)),(35,.pv (.int .i64 k))]
   [.obj (.box [.pv (.str r),.pv (.int .i64 n),.map 1]),.obj (.map (Zc m)),.obj (.box [.pv (.int .i64 0),.pv (.sl 0 true [])]),.obj (.box [.pv (.int .i64 n),.row 5 k 0 k]),.obj (.row false 9 1 (xs.map .str)),.obj (.row false 61 2 ((Zw m (xs.take k)).map enc))]:=by
 intro j
 induction j with
 | zero=>
  intro k hk h0
  obtain rfl:k=xs.length:=by omega
  refine Tq E r n m xs.length xs xs.length xs.length (Zw m (xs.take xs.length)) ?_
  rw[if_neg (by simp)]
  have e1:Zw m (xs.take xs.length)=Zw m xs:=by rw[List.take_length]
  rw[e1]
  have e2:List.drop 0 (List.take xs.length (List.map (enc:Coef->PV) (Zw m xs)))=(Zw m xs).map enc:=by rw[List.drop_zero,List.take_of_length_le (by simp[Zw])]
  rw[e2]
  refine⟨by simp[Zw],Zo (⟨n,Zw m xs⟩,()) rfl (TV n m hx hsx),Zl (⟨n,Zw m xs⟩,()) rfl ?_⟩
  have hne:(Zw m xs).isEmpty=false:=by cases xs <;> simp[Zw]at h0 ⊢
  by_cases hv:Zh ⟨n,Zw m xs⟩=true
  ·rw[if_neg (by simp[hv])]
   unfold Kt
   rw[if_pos hv,hne]
   simp[Zw]
  ·rw[if_pos (by simpa using hv)]
   simp[Kt,hv]
 | succ j ih=>
  intro k hk h0
  have hlt:k<xs.length:=by omega
  refine Tq E r n m xs.length xs k k (Zw m (xs.take k)) ?_
  rw[if_pos (by simp;omega)]
  have eg:List.getD (List.map PV.str xs) (0+Int.toNat (k:Int)) default = .str xs[k]:=by simp[List.getD,hlt]
  rw[eg]
  have ec:Sh.co Sh.str (List.getD (PV.cells (.str xs[k])) 0 default) = .str xs[k]:=rfl
  rw[ec,WF]
  refine⟨by simp;omega,by simp;omega,rfl,by rw[WC];rfl,?_,?_⟩
  ·simp[Zw];omega
  ·have h:=ih (k+1) (by omega) (by omega)
   have et:xs.take (k+1)=xs.take k++[xs[k]]:=by rw[List.take_add_one,List.getElem?_eq_getElem hlt];rfl
   rw[et]at h
   rw[next (by omega)]
   simp only[Zw,List.map_append,List.map_cons,List.map_nil]at h ⊢
   exact h
def K4:Xd:=fun nn st q=>nn=0∧a8d YM 2 Tp st q
def Ed(r:List UInt8)(n:Int):ZB:=[.obj (.box [.pv (.str r),.pv (.int .i64 n),.map 1]),.dead,.obj (.box [.pv (.int .i64 0),.pv (.sl 0 true [])]),.obj (.box [.pv (.int .i64 n),.pv (.sl 0 true [])]),.dead]
def Hm(x:AV):List AV:=X4 58 0 [(0,.ptr 0 1),(2,.ptr 2 0),(4,.ptr 3 0),(5,x),(18,.map 1),(19,.ptr 4 0)]
def a1l(r:List UInt8)(n:Int)(vis:List (PV×PV))(s:St):Prop:=
 (kz vis=[]∧s=⟨Hm (.pv (.sl 0 true [])),Ed r n⟩)∨(kz vis≠[]∧s=⟨Hm (.row 5 (kz vis).length 0 (kz vis).length),Ed r n++[.obj (.row false 9 1 ((kz vis).map .str))]⟩)
theorem RF(r:List UInt8)(n:Int)(vis:List (PV×PV))(s:List UInt8)(c:Int)(st:St)(hl:(kz vis).length<1000000)(h:a1l r n vis st):
  ∃ s2,Uq YM st.heap.length Tp.psE (grow ⟨((st.env.set 20 .junk).set 21 .junk).set 22 (.pv (.tup [.str s,.int .i64 c])),st.heap⟩ (news Tp.psE))=some s2∧ ∃ F',(∀ x,¬ F' x) ∧
   Z9 YM (fun n' S' _=>n'=99∧a1l r n (vis++[(.str s,.int .i64 c)]) S') st.heap.length F' (.inl VF) [.blk 1,.seq (.ext 99 [0,2,4,5,18,19])] s2:=by
 have hno : ∀ k,∀ x,¬ Zd k VH (fun _=>False) x:=by rintro k x ⟨r,_,h⟩;exact h
 have ek:kz (vis++[(.str s,.int .i64 c)])=kz vis++(if c=0 then []else [s]):=by
  unfold kz
  rw[List.filterMap_append]
  by_cases hc:c=0 <;> simp[hc]
 rcases h with ⟨h1,rfl⟩|⟨h1,rfl⟩
 ·refine⟨_,by kernel_rfl,_,hno 5,FZ (G:=fun _=>False) _ r n s c ?_⟩
  by_cases hc:c=0
  ·rw[if_neg (by simp[hc])]
   refine⟨rfl,.inl ⟨by rw[ek,h1];simp[hc],rfl⟩⟩
  ·rw[if_pos (by simpa using hc)]
   refine⟨rfl,.inr ⟨by rw[ek,h1];simp[hc],?_⟩⟩
   rw[ek,h1]
   simp[hc]
   exact⟨rfl,rfl⟩
 ·refine⟨_,by kernel_rfl,_,hno 6,Oo (G:=fun _=>False) _ r n s c (kz vis).length (kz vis) ?_⟩
  by_cases hc:c=0
  ·rw[if_neg (by simp[hc])]
   refine⟨rfl,.inr ⟨by rw[ek];simp[hc,h1],?_⟩⟩
   rw[ek]
   simp[hc]
   exact⟨rfl,rfl⟩
  ·rw[if_pos (by simpa using hc)]
   refine⟨by simp;omega,rfl,.inr ⟨by rw[ek];simp[hc],?_⟩⟩
   rw[ek]
   simp[hc]
   exact⟨rfl,rfl⟩
theorem R4{E:Xd}(r:List UInt8)(n:Int)(m:List (Str×Int))(xs:List (List UInt8))(hx:xs.length<=1000000)(hsx : ∀ x∈xs,x.length<=1000000)(h0:0<xs.length):
  AJ YM E 2 (Zd 2 YL fun z=>z=Kt r n m (Zw m xs)) YJ 0 58 [(0,.ptr 0 1),(2,.ptr 2 0),(4,.ptr 3 0),(33,.row 4 xs.length 0 xs.length),(34,.pv (.int .i64 xs.length)),(35,.pv (.int .i64 0))]
   [.obj (.box [.pv (.str r),.pv (.int .i64 n),.map 1]),.obj (.map (Zc m)),.obj (.box [.pv (.int .i64 0),.pv (.sl 0 true [])]),.obj (.box [.pv (.int .i64 n),.pv (.sl 0 true [])]),.obj (.row false 9 1 (xs.map .str))]:=by
 refine a0w E r n m xs.length xs 0 ?_
 rw[if_pos (by simp;omega)]
 have eg:List.getD (List.map PV.str xs) (0+Int.toNat (0:Int)) default = .str xs[0]:=by simp[List.getD,h0]
 rw[eg]
 have ec:Sh.co Sh.str (List.getD (PV.cells (.str xs[0])) 0 default) = .str xs[0]:=rfl
 rw[ec,WF]
 refine⟨by simp;omega,by simp;omega,rfl,by rw[WC];rfl,?_⟩
 have h:=MH (E:=E) r n m xs hx hsx (xs.length - 1) 1 (by omega) (by omega)
 have et:xs.take 1=[xs[0]]:=by cases xs <;> simp at h0 ⊢
 rw[et]at h
 exact h
theorem a1c(r:List UInt8)(n:Int)(m:List (Str×Int))(hm:m.length<1000000)(hkm : ∀ x∈XB m,x.length<=1000000):
  QS YM K4 2 (Zd 2 YL fun z=>z=Kt r n m (Zw m (XB m))) YJ [] (Ym 58 [.ptr 0 1] [.box [.pv (.str r),.pv (.int .i64 n),.map 1],.map (Zc m)]):=by
 refine a7f K4 r n m ?_
 have elen : ∀ x,(Hm x).length=58:=fun x=>rfl
 refine⟨rfl,⟨((((X4 58 0 [(0,.ptr 0 1),(2,.ptr 2 0),(4,.ptr 3 0),(5,.pv (.sl 0 true [])),(6,.undef),(7,.undef),(15,.undef),(16,.undef),(17,.undef),(18,.undef),(19,.undef),(20,.undef),(21,.undef),(22,.undef),(23,.undef),(24,.undef),(25,.undef),(26,.undef),(27,.undef),(28,.undef),(29,.undef),(30,.undef)]).set 15 (.ptr 0 1)).set 16 (.ptr 0 1)).set 17 (.ptr 0 2)).set 18 (.map 1),
   [.obj (.box [.pv (.str r),.pv (.int .i64 n),.map 1]),.obj (.map (Zc m)),.obj (.box [.pv (.int .i64 0),.pv (.sl 0 true [])]),.obj (.box [.pv (.int .i64 n),.pv (.sl 0 true [])])]⟩,⟨Hm (.pv (.sl 0 true [])),Ed r n⟩,1,4,18,1,Zc m,[0,2,4,5,18,19],[0,2,4,5,18,19],a1l r n,by kernel_rfl,rfl,rfl,by kernel_rfl,rfl,by decide,rfl,.inl ⟨rfl,rfl⟩,?_,?_,?_⟩
 ·intro vis s h
  rcases h with ⟨_,rfl⟩|⟨_,rfl⟩
  ·exact⟨⟨rfl,by show 20<_;rw[elen];omega,by show 21<_;rw[elen];omega,by show 22<_;rw[elen];omega⟩,rfl⟩
  ·exact⟨⟨rfl,by show 20<_;rw[elen];omega,by show 21<_;rw[elen];omega,by show 22<_;rw[elen];omega⟩,rfl⟩
 ·intro vis kv s rest hp hI
  have hin:kv∈Zc m:=hp.mem_iff.2 (by simp)
  obtain⟨p,_,rfl⟩:=List.mem_map.1 hin
  have hl:=hp.length_eq
  simp[Zc]at hl
  have hk:(kz vis).length<=vis.length:=List.length_filterMap_le _ _
  exact RF r n vis p.1.s p.2 s (by omega) hI
 ·intro vis s hp hI
  have hpk:(kz vis).Perm (kz (Zc m)):=hp.filterMap _
  have hs:Yw (kz vis)=XB m:=Gx hpk
  have hkl:(kz vis).length<=1000000:=by
   have h1:(kz vis).length<=vis.length:=List.length_filterMap_le _ _
   have h2:=hp.length_eq
   simp[Zc]at h2
   omega
  rcases hI with ⟨h1,rfl⟩|⟨h1,rfl⟩
  ·refine EC K4 r n m ?_
   have hn:XB m=[]:=by rw[<- hs,h1];simp[Yw]
   rw[hn]
   refine OU K4 r n m 0 ?_
   rw[if_neg (by simp)]
   refine Jg (⟨n,[]⟩,()) (by simp) ?_
   by_cases hv:Zh ⟨n,[]⟩=true
   ·rw[if_neg (by simp[hv])]
    simp[Kt,Zw,hv]
   ·rw[if_pos (by simpa using hv)]
    simp[Kt,Zw,hv]
  ·refine E5 K4 r n m (kz vis).length (kz vis) ?_
   have e1:List.map JF (List.map PV.str (kz vis))=kz vis:=by rw[List.map_map];exact List.map_id _
   rw[e1,hs]
   have e2:(XB m).length=(kz vis).length:=by rw[<- hs];exact(List.mergeSort_perm _ _).length_eq
   refine⟨?_,?_⟩
   ·simp[YU,GH]
    omega
   ·have:=R4 (E:=K4) r n m (XB m) (by omega) hkm (by rw[e2];exact List.length_pos_iff.2 h1)
    rw[e2]at this
    simpa using this
def YN:List AV->List AObj->Bool
 | [.ptr 0 1],[.box [.pv (.str r),.pv (.int .i64 n),.map 1],.map es]=>K8 es&&QR (ZZ es)
 | _,_=>false
def Kw:List AV->List AObj->AV×List AObj×List AObj
 | _,[.box [.pv (.str r),.pv (.int .i64 n),.map 1],.map es]=>(.pv (enc (Xr n (ZZ es))),[.box [.pv (.str r),.pv (.int .i64 n),.map 1],.map es],[])
 | _,_=>Wp
def Ub:List AV->List AObj->AV×List AObj×List AObj
 | _,[.box [.pv (.str r),.pv (.int .i64 n),.map 1],.map es]=>Kt r n (ZZ es) (YE (ZZ es))
 | _,_=>Wp
theorem a0j: ∀ args os,YN args os=true->QS YM K4 os.length (Zd os.length YL fun z=>z=Ub args os) YJ [] (Ym a3b args os):=by
 intro args os h
 unfold YN at h
 split at h
 ·rename_i r n es
  simp only[Bool.and_eq_true,QR,decide_eq_true_eq,List.all_eq_true]at h
  obtain⟨h1,h2,h3⟩:=h
  obtain⟨m,rfl⟩:=UR h1
  rw[Yj]at h2 h3
  have hv:Ub [.ptr 0 1] [.box [.pv (.str r),.pv (.int .i64 n),.map 1],.map (Zc m)]=Kt r n m (Zw m (XB m)):=by
   show Kt r n (ZZ (Zc m)) (YE (ZZ (Zc m)))=_
   rw[Yj,JP]
  rw[hv]
  refine a1c r n m h2 fun x hx=>h3 x ?_
  have hx:x∈kz (Zc m):=(List.mergeSort_perm _ _).mem_iff.1 hx
  rw[Ac]at hx
  obtain⟨p,hp,rfl⟩:=List.mem_map.1 hx
  exact List.mem_map.2 ⟨p,(List.mem_filter.1 hp).1,rfl⟩
 ·cases h
theorem a0n: ∀ args os,YN args os=true->(Ub args os).2.1.length=os.length:=by
 intro args os h
 unfold YN at h
 split at h
 ·show(Kt _ _ _ _).2.1.length=_
  unfold Kt
  split
  ·split <;> rfl
  ·rfl
 ·cases h
theorem OJ{P:Program}{f:Nat}(h:ZY P f YN Ub):ZY P f YN Kw:=by
 refine h.frz fun args os hp=> ?_
 unfold YN at hp
 split at hp
 ·rename_i r n es
  have hv:Ub [.ptr 0 1] [.box [.pv (.str r),.pv (.int .i64 n),.map 1],.map es]=Kt r n (ZZ es) (YE (ZZ es)):=rfl
  have hv':Kw [.ptr 0 1] [.box [.pv (.str r),.pv (.int .i64 n),.map 1],.map es]=(.pv (enc (Xr n (ZZ es))),[.box [.pv (.str r),.pv (.int .i64 n),.map 1],.map es],[]):=rfl
  simp only[Bool.and_eq_true]at hp
  obtain⟨m,rfl⟩:=UR hp.1
  rw[hv,hv',Yj]
  unfold Kt Xr
  generalize YE m=l
  by_cases hl:Zh ⟨n,l⟩=true
  ·rw[if_pos hl,if_pos hl]
   by_cases hz:l.isEmpty=true
   ·rw[if_pos hz]
    obtain rfl:l=[]:=by simpa using hz
    exact⟨_,_,_,_,_,_,_,_,rfl,rfl,rfl,QJ n 0,rfl⟩
   ·rw[if_neg hz]
    refine⟨_,_,_,.tup [.agg [.int .i64 n,.sl 2 false (l.map enc)],.int .i64 0],[.obj (.box [.pv (.str r),.pv (.int .i64 n),.map 1]),.obj (.map (Zc m)),.obj (.row true 61 2 (l.map enc))],_,_,_,rfl,?_,rfl,.refl _,rfl⟩
    have e:List.drop 0 (List.take l.length (List.map (enc:Coef->PV) l))=l.map enc:=by rw[List.drop_zero,List.take_of_length_le (by simp)]
    simp only[frz,Ug,HM.run_bind,Yi,List.map_cons,List.map_nil,List.cons_append,List.nil_append]
    simp[HM.run,HM.req]
    exact List.take_of_length_le (by simp)
  ·rw[if_neg hl,if_neg hl]
   exact⟨_,_,_,_,_,_,_,_,rfl,rfl,rfl,QJ 0 3,rfl⟩
 ·cases hp
end Go.Pl

namespace Go.Pl
open Go.RowKit
open Enc (enc dec is)
open EncL (encL decL isL)
set_option maxRecDepth 100000
def VC:IC:=(.seq (.reg [⟨(some 2),(.alloc (.agg [(.int .i64 0),(.sl 0 true [])])),0,none⟩,⟨(some 3),(.mv (.c (.int .i64 0))),1,none⟩] none) (.seq (.reg [⟨(some 9),(.mv (.t 0)),0,none⟩,⟨(some 10),.mkmap,0,none⟩,⟨(some 11),(.build [(.int .i64 0),.nilmap] [(1,(1,(.t 10)))]),1,none⟩,⟨(some 12),(.build [(.str []),(.int .i64 0),.nilmap] [(0,(1,(.t 9))),(1,(2,(.t 11)))]),1,none⟩,⟨(some 13),(.box 3 (.t 12)),1,none⟩,⟨(some 4),(.mv (.t 13)),2,none⟩] none) (.seq (.reg [⟨(some 14),(.mv (.t 4)),0,none⟩,⟨(some 15),(.mkfn 79 [(.t 14)] []),0,none⟩,⟨(some 5),(.mv (.t 15)),0,none⟩] none) (.seq (.reg [⟨(some 16),(.mv (.t 4)),0,none⟩,⟨(some 17),(.call (.c (.fn 80)) [(.t 16)]),0,none⟩] none) (.seq (.reg [⟨(some 19),(.mv (.t 4)),0,none⟩,⟨(some 20),(.call (.c (.fn 81)) [(.t 19)]),0,none⟩,⟨(some 18),(.mv (.t 20)),2,none⟩,⟨(some 21),(.extract (.t 18) 0),2,none⟩,⟨(some 22),(.extract (.t 18) 1),2,none⟩,⟨(some 6),(.mv (.t 21)),2,none⟩,⟨(some 7),(.mv (.t 22)),2,none⟩] none) (.block 0 (.loop [4,5,6,2] (.block 1 (.seq (.reg [⟨(some 23),(.mv (.t 4)),0,none⟩,⟨(some 24),(.call (.c (.fn 80)) [(.t 23)]),0,none⟩] none) (.seq (.seq (.reg [⟨(some 25),(.mv (.t 5)),0,none⟩,⟨(some 26),(.mv (.t 6)),0,none⟩,⟨(some 27),(.call (.t 25) [(.t 26)]),0,none⟩,⟨(some 28),(.un .not (.t 27)),2,none⟩] none) (.cond (.t 28) (.seq (.reg [⟨(some 29),(.build [(.int .i64 0),(.sl 0 true [])] []),0,none⟩,⟨none,(.store 2 (.t 2) (.t 29)),0,none⟩,⟨(some 3),(.mv (.c (.int .i64 6))),0,none⟩] none) .ret) .skip)) (.seq (.reg [⟨(some 30),(.mv (.t 4)),0,none⟩,⟨(some 31),(.call (.c (.fn 80)) [(.t 30)]),0,none⟩] none) (.seq (.seq (.reg [⟨(some 32),(.mv (.t 4)),0,none⟩,⟨(some 33),(.nilchk (.t 32)),0,none⟩,⟨(some 34),(.faddr 0 (.t 33)),0,none⟩,⟨(some 35),(.load false [.str] (.t 34)),0,none⟩,⟨(some 36),(.bin .num .eql (.t 35) (.c (.str []))),0,none⟩] none) (.cond (.t 36) (.seq (.reg [⟨(some 37),(.mv (.t 4)),0,none⟩,⟨(some 38),(.nilchk (.t 37)),0,none⟩,⟨(some 39),(.faddr 1 (.t 38)),0,none⟩,⟨(some 40),(.call (.c (.fn 82)) [(.t 39)]),0,none⟩,⟨(some 41),(.extract (.t 40) 0),2,none⟩,⟨(some 42),(.extract (.t 40) 1),2,none⟩,⟨none,(.store 2 (.t 2) (.t 41)),2,none⟩,⟨(some 3),(.mv (.t 42)),2,none⟩] none) .ret) .skip)) (.seq (.reg [⟨(some 8),(.mv (.c (.bool false))),0,none⟩] none) (.seq (.reg [⟨(some 44),(.mv (.t 4)),0,none⟩,⟨(some 45),(.call (.c (.fn 81)) [(.t 44)]),0,none⟩,⟨(some 43),(.mv (.t 45)),2,none⟩,⟨(some 46),(.extract (.t 43) 0),2,none⟩,⟨(some 47),(.extract (.t 43) 1),2,none⟩,⟨(some 6),(.mv (.t 46)),2,none⟩,⟨(some 8),(.mv (.t 47)),2,none⟩] none) (.seq (.reg [⟨(some 48),(.mv (.t 8)),0,none⟩,⟨(some 49),(.un .not (.t 48)),0,none⟩] none) (.cond (.t 49) (.seq (.reg [⟨(some 50),(.build [(.int .i64 0),(.sl 0 true [])] []),0,none⟩,⟨none,(.store 2 (.t 2) (.t 50)),0,none⟩,⟨(some 3),(.mv (.c (.int .i64 6))),0,none⟩] none) .ret) .skip))))))))))))))))
def VE:List IRes:=[(.cell true 2 2),(.tmp 3)]
abbrev a2g:Nat:=51
def UZ:ZJ:=WI [(80,.own ZO UT),(81,.own ZO KD),(79,.own QD KQ),(82,.own YN Kw)]
theorem a2h{G:PV->Prop}(s:List UInt8)(h:(ZO [(.ptr 0 0)] [(.box [(.pv (.str s)),(.pv (.int .i64 0)),(.map 1)]),(.map [])])=true∧((ZO [(.ptr 0 0)] [(.box [(.pv (.str (Za s))),(.pv (.int .i64 0)),(.map 1)]),(.map [])])=true∧(At UZ 0 (Ze VE G) VC 0 51 [(2,(.ptr 0 0)),(4,(.ptr 1 0)),(5,(.fn 79 [(.ptr 1 0)] [])),(6,(.pv (.int .i64 (Prod.fst (Prod.fst (ZN (Za s)))))))] [(.obj (.box [(.pv (.int .i64 0)),(.pv (.sl 0 true []))])),(.obj (.box [(.pv (.str (Prod.snd (ZN (Za s))))),(.pv (.int .i64 0)),(.map 2)])),(.obj (.map []))]))):Zi UZ 0 (Ze VE G) VC [] (Xz 51 [.str s]):=Zi.tp (.req (.keep (.req (.keep (.nil))))) h (by kernel_rfl)
theorem OC{G:PV->Prop}(s:List UInt8)(t:List UInt8)(n:Int)(m:List (Str×Int))(g:Int)(h:(ZO [(.ptr 0 0)] [(.box [(.pv (.str t)),(.pv (.int .i64 n)),(.map 1)]),(.map (Zc m))])=true∧((QD [(.ptr 0 0),(.pv (.int .i64 g))] [(.box [(.pv (.str (Za t))),(.pv (.int .i64 n)),(.map 1)]),(.map (Zc m))])=true∧(if (!Prod.fst (ZQ (RdS.mk (Za t) n (ZZ (Zc m))) g))=true then G ((.tup [(.agg [(.int .i64 0),(.sl 0 true [])]),(.int .i64 6)]))else((ZO [(.ptr 0 0)] [(.box [(.pv (.str (RdS.s (Prod.snd (ZQ (RdS.mk (Za t) n (ZZ (Zc m))) g))))),(.pv (.int .i64 (RdS.n (Prod.snd (ZQ (RdS.mk (Za t) n (ZZ (Zc m))) g))))),(.map 1)]),(.map (Zc (RdS.m (Prod.snd (ZQ (RdS.mk (Za t) n (ZZ (Zc m))) g)))))])=true∧(if (Za (RdS.s (Prod.snd (ZQ (RdS.mk (Za t) n (ZZ (Zc m))) g)))==[])=true then(YN [(.ptr 0 1)] [(.box [(.pv (.str (Za (RdS.s (Prod.snd (ZQ (RdS.mk (Za t) n (ZZ (Zc m))) g)))))),(.pv (.int .i64 (RdS.n (Prod.snd (ZQ (RdS.mk (Za t) n (ZZ (Zc m))) g))))),(.map 1)]),(.map (Zc (RdS.m (Prod.snd (ZQ (RdS.mk (Za t) n (ZZ (Zc m))) g)))))])=true∧(G ((.tup [(.agg [(.int .i64 (Lin.k (Prod.fst (Xr (RdS.n (Prod.snd (ZQ (RdS.mk (Za t) n (ZZ (Zc m))) g))) (ZZ (Zc (RdS.m (Prod.snd (ZQ (RdS.mk (Za t) n (ZZ (Zc m))) g))))))))),(.sl 2 false (List.map enc (Lin.t (Prod.fst (Xr (RdS.n (Prod.snd (ZQ (RdS.mk (Za t) n (ZZ (Zc m))) g))) (ZZ (Zc (RdS.m (Prod.snd (ZQ (RdS.mk (Za t) n (ZZ (Zc m))) g))))))))))]),(.int .i64 (Prod.snd (Xr (RdS.n (Prod.snd (ZQ (RdS.mk (Za t) n (ZZ (Zc m))) g))) (ZZ (Zc (RdS.m (Prod.snd (ZQ (RdS.mk (Za t) n (ZZ (Zc m))) g))))))))])))else((ZO [(.ptr 0 0)] [(.box [(.pv (.str (Za (RdS.s (Prod.snd (ZQ (RdS.mk (Za t) n (ZZ (Zc m))) g)))))),(.pv (.int .i64 (RdS.n (Prod.snd (ZQ (RdS.mk (Za t) n (ZZ (Zc m))) g))))),(.map 1)]),(.map (Zc (RdS.m (Prod.snd (ZQ (RdS.mk (Za t) n (ZZ (Zc m))) g)))))])=true∧(if (!Prod.snd (Prod.fst (ZN (Za (RdS.s (Prod.snd (ZQ (RdS.mk (Za t) n (ZZ (Zc m))) g)))))))=true then G ((.tup [(.agg [(.int .i64 0),(.sl 0 true [])]),(.int .i64 6)]))else(At UZ 0 (Ze VE G) VC 0 51 [(2,(.ptr 0 0)),(4,(.ptr 1 0)),(5,(.fn 79 [(.ptr 1 0)] [])),(6,(.pv (.int .i64 (Prod.fst (Prod.fst (ZN (Za (RdS.s (Prod.snd (ZQ (RdS.mk (Za t) n (ZZ (Zc m))) g))))))))))] [(.obj (.box [(.pv (.int .i64 0)),(.pv (.sl 0 true []))])),(.obj (.box [(.pv (.str (Prod.snd (ZN (Za (RdS.s (Prod.snd (ZQ (RdS.mk (Za t) n (ZZ (Zc m))) g)))))))),(.pv (.int .i64 (RdS.n (Prod.snd (ZQ (RdS.mk (Za t) n (ZZ (Zc m))) g))))),(.map 2)])),(.obj (.map (Zc (RdS.m (Prod.snd (ZQ (RdS.mk (Za t) n (ZZ (Zc m))) g))))))])))))))):At UZ 0 (Ze VE G) VC 0 51 [(2,.ptr 0 0),(4,.ptr 1 0),(5,.fn 79 [.ptr 1 0] []),(6,.pv (.int .i64 g))] [.obj (.box [.pv (.int .i64 0),.pv (.sl 0 true [])]),.obj (.box [.pv (.str t),.pv (.int .i64 n),.map 2]),.obj (.map (Zc m))]:=At.tp (.req (.keep (.req (.keep (.ask (.nil) (.req (.keep (.lit (.ask (.req (.keep (.nil))) (.req (.keep (.ask (.nil) (.nil))))))))))))) h (by kernel_rfl)
end Go.Pl

