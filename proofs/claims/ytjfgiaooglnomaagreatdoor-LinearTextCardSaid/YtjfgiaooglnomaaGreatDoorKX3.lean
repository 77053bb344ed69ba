/-
  Texts of mine that belong together (packed by pack.py), for every input: TyL, TyM, TyN, TyT, TyO, TyS, GLb, GLa, QLa, QLb, GLc, QLc, GLd, QLd, TyU, QLh, QLm, GLe, QLe, GLg, QLg, QLf, GLi, GL1, QL1, QL2, QLi, QLj, QL3, QL4, GL5, QL5, GL7, QL7, TyR, GLr, QRp, QRq, TyP, GLo, QLq, QLr, GLm, GLk, QLk, GLn, QLn, QLo, QLp, QRa, QRb, QRc, TyQ, GLu, GLt, QRs, QRt, QRu, QRv, GLv, QRw, QRx, TyG, TyH, TyK, TyI, TyE, GLh, GLx, QLx, GL4.
-/
import Derived.Test.YtjfgiaooglnomaaGreatDoorKX2
import Derived.KernelRfl
import Derived.Lib.AtoiAllMem
import Derived.Lib.AtoiAllCases
import Derived.Lib.ItoaNum
import Derived.Lib.Bytealg
import Derived.Lib.Strings
set_option linter.unusedVariables false
set_option linter.unusedSimpArgs false
namespace Go.Pl
open Go.RowKit
open Enc (enc dec is)
open EncL (encL decL isL)
structure Coef where
 v:Str
 c:Int
 deriving DecidableEq
instance:Enc Coef where
 sz:=2
 enc x:=.agg [enc x.v,enc x.c]
 dec | .agg [a,b]=>⟨dec a,dec b⟩|_=>⟨⟨[]⟩,0⟩
 is | .agg [a,b]=>is Str a&&is Int b|_=>false
 is_enc v:=by simp
 dec_enc v:=by simp
 sub p h:=by
  cases p with
  | agg xs=>
   match xs,h with
   | [a,b],h=>
    simp only[Bool.and_eq_true]at h
    exact .agg (.cons (Enc.sub a h.1).2 (.cons (Enc.sub b h.2).2 .nil))
  | _=>cases h
structure Lin where
 k:Int
 t:List Coef
 deriving DecidableEq
instance:Enc Lin where
 sz:=2
 enc x:=.agg [enc x.k,enc x.t]
 dec | .agg [a,b]=>⟨dec a,dec b⟩|_=>⟨0,[]⟩
 is | .agg [a,b]=>is Int a&&is (List Coef) b|_=>false
 is_enc v:=by simp
 dec_enc v:=by simp
 sub p h:=by
  cases p with
  | agg xs=>
   match xs,h with
   | [a,b],h=>
    simp only[Bool.and_eq_true]at h
    exact .agg (.cons (Enc.sub a h.1).2 (.cons (Enc.sub b h.2).2 .nil))
  | _=>cases h
@[simp] theorem b0l (a b : PV) : is Coef (.agg [a, b]) = (is Str a && is Int b) := rfl
@[simp] theorem a9o (a b : PV) : (dec (.agg [a, b]) : Coef) = ⟨dec a, dec b⟩ := rfl
@[simp] theorem b0w (a b : PV) : is Lin (.agg [a, b]) = (is Int a && is (List Coef) b) := rfl
@[simp] theorem b0r (a b : PV) : (dec (.agg [a, b]) : Lin) = ⟨dec a, dec b⟩ := rfl
def digB(c:UInt8):Bool:=decide (48<=c)&&decide (c<=57)
def lowB(c:UInt8):Bool:=decide (97<=c)&&decide (c<=122)
def Zq(s:Str):Bool:=match s.s with
 | []=>false
 | c::r=>if c=95 then r.all digB&& !r.isEmpty&&decide (r.head? ≠ some 48)&&decide (r.length<=9)else lowB c&&r.all (fun c=>lowB c||digB c)&&decide (r.length<=29)
def Z5(n:Int):Bool:=decide (-1000000<=n)&&decide (n<=1000000)
def JZ:List Coef->Bool
 | a::b::l=>decide (a.v.s<b.v.s)&&JZ (b::l)
 | _=>true
def Zh(l:Lin):Bool:=l.t.all (fun t=>Zq t.v&&decide (t.c≠0)&&Z5 t.c)&&JZ l.t&&Z5 l.k&&decide (l.t.length<=12)
def Zc(m:List (Str×Int)):List (PV×PV):=m.map fun p=>(.str p.1.s,.int .i64 p.2)
def Vh(m:List (Str×Int))(s:List UInt8):Int:=((m.find? fun p=>p.1.s==s).map (·.2)).getD 0
def YC(m:List (Str×Int)):List Coef:=(Yu ((m.filter fun p=>decide (p.2≠0)).map (·.1.s))).map fun s=>⟨⟨s⟩,Vh m s⟩
def Xo(n:Int)(m:List (Str×Int)):Lin×Int:=if Zh ⟨n,YC m⟩then(⟨n,YC m⟩,0)else(⟨0,[]⟩,3)
end Go.Pl

namespace Go.Pl
open Go.RowKit
open Enc (enc dec is)
open EncL (encL decL isL)
structure Fact where
 eq:Bool
 l:Lin
 deriving DecidableEq
instance:Enc Fact where
 sz:=3
 enc x:=.agg [enc x.eq,enc x.l.k,enc x.l.t]
 dec | .agg [a,b,c]=>⟨dec a,⟨dec b,dec c⟩⟩|_=>⟨false,⟨0,[]⟩⟩
 is | .agg [a,b,c]=>is Bool a&&is Int b&&is (List Coef) c|_=>false
 is_enc v:=by simp
 dec_enc v:=by simp
 sub p h:=by
  cases p with
  | agg xs=>
   match xs,h with
   | [a,b,c],h=>
    simp only[Bool.and_eq_true]at h
    exact .agg (.cons (Enc.sub a h.1.1).2 (.cons (Enc.sub b h.1.2).2 (.cons (Enc.sub c h.2).2 .nil)))
  | _=>cases h
@[simp] theorem b0p (a b c : PV) : is Fact (.agg [a, b, c]) = (is Bool a && is Int b && is (List Coef) c) := rfl
@[simp] theorem a9l (a b c : PV) : (dec (.agg [a, b, c]) : Fact) = ⟨dec a, ⟨dec b, dec c⟩⟩ := rfl
structure Bnd where
 kind:Int
 v:Str
 dim:Lin
 row:Str
 dims:List Lin
 elem:Str
 deriving DecidableEq
instance:Enc Bnd where
 sz:=7
 enc x:=.agg [enc x.kind,enc x.v,enc x.dim.k,enc x.dim.t,enc x.row,enc x.dims,enc x.elem]
 dec | .agg [a,b,c,d,e,f,g]=>⟨dec a,dec b,⟨dec c,dec d⟩,dec e,dec f,dec g⟩|_=>⟨0,⟨[]⟩,⟨0,[]⟩,⟨[]⟩,[],⟨[]⟩⟩
 is | .agg [a,b,c,d,e,f,g]=>is Int a&&is Str b&&is Int c&&is (List Coef) d&&is Str e&&is (List Lin) f&&is Str g|_=>false
 is_enc v:=by simp
 dec_enc v:=by simp
 sub p h:=by
  cases p with
  | agg xs=>
   match xs,h with
   | [a,b,c,d,e,f,g],h=>
    simp only[Bool.and_eq_true]at h
    exact .agg (.cons (Enc.sub a h.1.1.1.1.1.1).2 (.cons (Enc.sub b h.1.1.1.1.1.2).2 (.cons (Enc.sub c h.1.1.1.1.2).2 (.cons (Enc.sub d h.1.1.1.2).2 (.cons (Enc.sub e h.1.1.2).2 (.cons (Enc.sub f h.1.2).2 (.cons (Enc.sub g h.2).2 .nil)))))))
  | _=>cases h
@[simp] theorem b0y (a b c d e f g : PV) : is Bnd (.agg [a, b, c, d, e, f, g]) = (is Int a && is Str b && is Int c && is (List Coef) d && is Str e && is (List Lin) f && is Str g) := rfl
@[simp] theorem b0s (a b c d e f g : PV) : (dec (.agg [a, b, c, d, e, f, g]) : Bnd) = ⟨dec a, dec b, ⟨dec c, dec d⟩, dec e, dec f, dec g⟩ := rfl
inductive Cert where
 | mk (kind:Int) (mults:List Int) (lin:Lin) (kids:List Cert)
mutual
def U2:Cert->PV
 | .mk k m l ks=>.agg [enc k,enc m,enc l.k,enc l.t,.sl 5 false (Xm ks)]
def Xm:List Cert->List PV
 | []=>[]
 | c::cs=>U2 c::Xm cs
end
mutual
def Kz:PV->Cert
 | .agg [a,b,c,d,.sl _ _ ks]=>.mk (dec a) (dec b) ⟨dec c,dec d⟩ (Wo ks)
 | _=>.mk 0 [] ⟨0,[]⟩ []
def Wo:List PV->List Cert
 | []=>[]
 | p::ps=>Kz p::Wo ps
end
mutual
def VT:PV->Bool
 | .agg [a,b,c,d,.sl s _ ks]=>is Int a&&is (List Int) b&&is Int c&&is (List Coef) d&&(ks.isEmpty||s==5)&&VW ks
 | _=>false
def VW:List PV->Bool
 | []=>true
 | p::ps=>VT p&&VW ps
end
theorem PM(cs:List Cert):Xm cs=cs.map U2:=by
 induction cs with
 | nil=>simp[Xm]
 | cons c cs ih=>simp[Xm,ih]
theorem Rq(cs:List PV):Wo cs=cs.map Kz:=by
 induction cs with
 | nil=>simp[Wo]
 | cons c cs ih=>simp[Wo,ih]
theorem Ph(cs:List PV):VW cs=cs.all VT:=by
 induction cs with
 | nil=>simp[VW]
 | cons c cs ih=>simp[VW,ih]
mutual
theorem ND: ∀ c:Cert,VT (U2 c)=true
 | .mk k m l ks=>by
  have h:=SK ks
  simp only[U2,VT,Enc.is_enc,Bool.true_and,Bool.and_eq_true,h,and_true]
  simp
theorem SK: ∀ cs:List Cert,VW (Xm cs)=true
 | []=>by simp[Xm,VW]
 | c::cs=>by simp[Xm,VW,ND c,SK cs]
end
mutual
theorem NS: ∀ c:Cert,Kz (U2 c)=c
 | .mk k m l ks=>by
  have h:=Te ks
  simp only[U2,Kz,Enc.dec_enc,h]
theorem Te: ∀ cs:List Cert,Wo (Xm cs)=cs
 | []=>by simp[Xm,Wo]
 | c::cs=>by simp[Xm,Wo,NS c,Te cs]
end
mutual
theorem Tu: ∀ p:PV,VT p=true->V4 p (U2 (Kz p))
 | .agg [a,b,c,d,.sl s t ks],h=>by
  simp only[VT,Bool.and_eq_true]at h
  obtain⟨⟨⟨⟨⟨h1,h2⟩,h3⟩,h4⟩,h5⟩,h6⟩:=h
  have hk:=CG ks h6
  simp only[Kz,U2]
  refine .agg (.cons (Enc.sub a h1).2 (.cons (Enc.sub b h2).2 (.cons (Enc.sub c h3).2 (.cons (Enc.sub d h4).2 (.cons ?_ .nil)))))
  simp only[Bool.or_eq_true,List.isEmpty_iff,beq_iff_eq]at h5
  rcases h5 with rfl|rfl
  ·simp only[Wo,Xm]
   exact(V4.sl0 _ _ _).2
  ·exact(V4.sl hk.1 hk.2).2
 | .bool _,h | .int _ _,h | .str _,h | .sl _ _ _,h | .tup _,h | .nilp,h | .nilmap,h | .nilfn,h | .nili,h | .ifc,h | .fn _,h | .rptr _,h=>by simp[VT]at h
 | .agg [],h | .agg [_],h | .agg [_,_],h | .agg [_,_,_],h | .agg [_,_,_,_],h=>by simp[VT]at h
 | .agg (a::b::c::d::e::f::g),h=>by
  have h':VT (.agg (a::b::c::d::e::f::g))=false:=by cases e <;> kernel_rfl
  rw[h']at h;cases h
 | .agg [_,_,_,_,.bool _],h | .agg [_,_,_,_,.int _ _],h | .agg [_,_,_,_,.str _],h | .agg [_,_,_,_,.agg _],h | .agg [_,_,_,_,.tup _],h | .agg [_,_,_,_,.nilp],h | .agg [_,_,_,_,.nilmap],h | .agg [_,_,_,_,.nilfn],h | .agg [_,_,_,_,.nili],h | .agg [_,_,_,_,.ifc],h | .agg [_,_,_,_,.fn _],h | .agg [_,_,_,_,.rptr _],h=>by simp[VT]at h
theorem CG: ∀ ps:List PV,VW ps=true->ps.length=(Xm (Wo ps)).length∧ ∀ (j:Nat) x y,ps[j]? = some x->(Xm (Wo ps))[j]? = some y->V4 x y
 | [],_=>⟨by simp[Wo,Xm],fun j x y h=>by simp at h⟩
 | p::ps,h=>by
  simp only[VW,Bool.and_eq_true]at h
  have h1:=Tu p h.1
  have h2:=CG ps h.2
  refine⟨by simp[Wo,Xm,<- h2.1],fun j x y hx hy=> ?_⟩
  simp only[Wo,Xm]at hy
  cases j with
  | zero=>simp at hx hy;subst hx hy;exact h1
  | succ j=>exact h2.2 j x y (by simpa using hx) (by simpa using hy)
end
instance:Enc Cert where
 sz:=5
 enc:=U2
 dec:=Kz
 is:=VT
 is_enc:=ND
 dec_enc:=NS
 sub:=Tu
abbrev Cert.kind:Cert->Int | .mk k _ _ _=>k
abbrev Cert.mults:Cert->List Int | .mk _ m _ _=>m
abbrev Cert.lin:Cert->Lin | .mk _ _ l _=>l
abbrev Cert.kids:Cert->List Cert | .mk _ _ _ k=>k
theorem WR(k:Int)(m:List Int)(l:Lin)(ks:List Cert):(enc (Cert.mk k m l ks):PV) = .agg [enc k,enc m,enc l.k,enc l.t,enc ks]:=by
 show U2 _=_
 rw[U2,PM]
 rfl
@[simp] theorem b0o (a b c d e : PV) : is Cert (.agg [a, b, c, d, e]) = (is Int a && is (List Int) b && is Int c && is (List Coef) d && is (List Cert) e) := by
 show VT _=_
 cases e <;> simp only[VT] <;> try (simp[is];done)
 rename_i s t ks
 rw[Ph]
 show _=(_&&((ks.isEmpty||s==5)&&ks.all VT))
 rw[Bool.and_assoc]
@[simp] theorem a9m (a b c d e : PV) (h : is (List Cert) e = true) : (dec (.agg [a, b, c, d, e]) : Cert) = .mk (dec a) (dec b) ⟨dec c, dec d⟩ (dec e) := by
 show Kz _=_
 cases e <;> try (cases h;done)
 rw[Kz,Rq]
 rfl
end Go.Pl

namespace Go.Pl
open Enc (enc dec is)
structure Er where
 b:Bool
 deriving DecidableEq
instance:Enc Er where
 sz:=1
 enc x:=if x.b then .ifc else .nili
 dec | .ifc=>⟨true⟩|_=>⟨false⟩
 is | .ifc=>true | .nili=>true|_=>false
 is_enc v:=by obtain⟨b⟩:=v;cases b <;> rfl
 dec_enc v:=by obtain⟨b⟩:=v;cases b <;> rfl
 sub p h:=by cases p <;> first|exact .refl _|cases h
def ZR(s:Str):Int×Er:=match Lib.atoiAll s.s with
 | .ok v=>(v,⟨false⟩)
 | .range=>(Lib.atoiSat s.s,⟨true⟩)
 | _=>(0,⟨true⟩)
def ZB(n:Int):Str:=⟨Lib.itoa n⟩
def Al(l:Lin)(n:Int):Bool:=l.t.all (fun t=>decide (t.v.s.length<=40))&&decide ((l.t.length:Int)<=n)
abbrev Yb(n:Int):Int:=IntKind.i64.wrap n
def YL(s:Str)(c:Int):Bool->List Coef->List Coef
 | put,[]=>if put then []else [⟨s,c⟩]
 | put,t::r=>(if !put&&decide (s.s<t.v.s)then [⟨s,c⟩]else [])++(if t.v=s then⟨t.v,Yb (t.c+c)⟩::YL s c true r else t::YL s c (put||decide (s.s<t.v.s)) r)
def Wh(l:Lin)(s:Str)(c:Int):Lin:=⟨l.k,(YL s c false l.t).filter fun t=>decide (t.c≠0)⟩
def Qh(l x:Lin)(k:Int):Lin:=x.t.foldl (fun o t=>Wh o t.v (Yb (k*t.c))) ⟨Yb (l.k+Yb (k*x.k)),l.t⟩
def U3(a b:Int):Int:=if a<b then -1 else if a>b then 1 else 0
def Ky:List Coef->List Coef->Int
 | [],[]=>0
 | [],_::_=> -1
 | _::_,[]=>1
 | x::l,y::m=>if x.v.s<y.v.s∨x.v.s=y.v.s∧x.c<y.c then -1 else if x=y then Ky l m else 1
def UQ(a b:Lin):Int:=if Ky a.t b.t≠0 then Ky a.t b.t else U3 a.k b.k
mutual
def GM:Cert->Int
 | .mk _ _ _ ks=>K6 1 ks
def K6(n:Int):List Cert->Int
 | []=>n
 | c::cs=>K6 (Yb (n+GM c)) cs
end
def Zy(l:Lin):Bool:=decide (l.t.length<=9223372036854775807)
def Zt(l:Lin):Bool:=Zy l&&l.t.all fun t=>decide (t.v.s.length<=1000000)
mutual
def cOk:Cert->Bool
 | .mk _ m l ks=>decide (m.length<=9223372036854775807)&&Zy l&&decide (ks.length<=9223372036854775807)&&Mo ks
def Mo:List Cert->Bool
 | []=>true
 | c::cs=>cOk c&&Mo cs
end
mutual
def a9c:Cert->Nat
 | .mk _ _ _ ks=>Sq ks+1
def Sq:List Cert->Nat
 | []=>0
 | c::cs=>max (a9c c) (Sq cs)
end
end Go.Pl

namespace Go.Pl
open Go.RowKit
open Enc (enc dec is)
open EncL (encL decL isL)
theorem WP{α:Type}[Enc α]{l:List α}{i:Nat}(h:i<l.length){P:α->Prop}(k:P l[i]):
  ∃ y:α,AV.pv (PV.rptr (PV.cells (List.getD (List.map enc l) (Int.toNat (i:Int)) default)))=AV.pv (PV.rptr (PV.cells (enc y)))∧P y:=⟨l[i],by rw[Sj enc h],k⟩
theorem Xy{α:Type}[Enc α]{l:List α}{i n:Nat}(h:i<l.length)(hn:Enc.sz α=n):(decide (0<=(i:Int))&&decide (Int.toNat (i:Int)<List.length (List.map (enc:α->PV) l))&&Enc.sz α==n)=true:=by simp[hn,h]
theorem Ct{α:Type}[Enc α]{l:List α}{i:Nat}(h:i<l.length):decide ((i:Int)<(List.length (List.map (enc:α->PV) l):Int))=true:=by simp;omega
theorem Co{α:Type}[Enc α]{l:List α}{i:Nat}(h : ¬ i<l.length): ¬ decide ((i:Int)<(List.length (List.map (enc:α->PV) l):Int))=true:=by simp;omega
theorem Wq{n i:Nat}(h:i<n):decide ((i:Int)<(n:Int))=true:=by simp;omega
theorem X9{n i:Nat}(h : ¬ i<n): ¬ decide ((i:Int)<(n:Int))=true:=by simp;omega
theorem a6h{P Q:Prop}:(if (!false)=true then P else Q)=P:=rfl
theorem a9h{P Q:Prop}:(if (!true)=true then P else Q)=Q:=rfl
theorem YD{c:Prop}[Decidable c]{P Q:Prop}(h:c)(k:P):if c then P else Q:=by rw[if_pos h];exact k
theorem XG{c:Prop}[Decidable c]{P Q:Prop}(h : ¬ c)(k:Q):if c then P else Q:=by rw[if_neg h];exact k
theorem DN{c:Prop}[Decidable c]{P Q:Prop}(h1:c->P)(h2 : ¬ c->Q):if c then P else Q:=by split;exact h1 ‹_›;exact h2 ‹_›
theorem Wv{b:Bool}{P Q:Prop}(h1:b=false->P)(h2:b=true->Q):if (!b)=true then P else Q:=by cases b;exact h1 rfl;exact h2 rfl
theorem Vi{b:Bool}{P Q:Prop}(h1:b=true->P)(h2:b=false->Q):if b=true then P else Q:=by cases b;exact h2 rfl;exact h1 rfl
theorem XP{c:Prop}[Decidable c]{P Q:Prop}(h1:c->P)(h2 : ¬ c->Q):if decide c=true then P else Q:=by by_cases h:c;rw[if_pos (by simpa using h)];exact h1 h;rw[if_neg (by simpa using h)];exact h2 h
theorem Wu{α:Type}[BEq α][LawfulBEq α]{x y:α}{P Q:Prop}(h1:x=y->P)(h2:x≠y->Q):if (x==y)=true then P else Q:=by by_cases h:x=y;rw[if_pos (by simpa using h)];exact h1 h;rw[if_neg (by simpa using h)];exact h2 h
theorem Yv{β:Type}[Enc β]{x y:β}(h:x=y):ZH y (enc x):=⟨Enc.is_enc x,by rw[Enc.dec_enc,h]⟩
theorem Yi{x y:Bool}(h:x=y):ZH y (.bool x):=⟨rfl,h⟩
theorem Ur{x y:Int}(h:x=y):ZH y (.int .i64 x):=⟨rfl,h⟩
section
variable (x:Coef) (f:Fact)
theorem co1:PV.asStr (List.getD (PV.cells (enc x)) 0 default)=x.v.s:=rfl
theorem co2:PV.asInt (List.getD (PV.cells (enc x)) (0+1) default)=x.c:=rfl
theorem co3:PV.asStr (List.getD (List.drop 0 (PV.cells (enc x))) 0 default)=x.v.s:=rfl
theorem co4:PV.asInt (List.getD (List.drop 1 (PV.cells (enc x))) 0 default)=x.c:=rfl
end
theorem a5w{c:UInt8}(n:Nat)(h:c≠UInt8.ofNat n)(hn:n<256): ¬ ((c.toNat:Int)==(n:Int))=true:=by
 intro e
 have e:(c.toNat:Int)=n:=by simpa using e
 have e:c.toNat=n:=by omega
 exact h (UInt8.toNat_inj.1 (by rw[e,UInt8.toNat_ofNat'];omega))
theorem Yj: ∀ a b:List UInt8,Op.bytesLess a b=decide (a<b)
 | [],[]=>by simp[Op.bytesLess]
 | _::_,[]=>by simp[Op.bytesLess]
 | [],_::_=>by simp[Op.bytesLess]
 | x::a,y::b=>by
  rw[Op.bytesLess,Yj a b]
  simp only[List.cons_lt_cons_iff]
  by_cases h1:x<y
  ·simp[h1]
  ·by_cases h2:x=y
   ·subst h2;simp
   ·simp[h1,h2]
theorem ZC.fuel{P:Program}{f:Nat}{α β:Type}[EncL α][Enc β]{pre:α->Bool}{F:α->β}(μ:α->Nat)(h : ∀ N,ZC P f (fun a=>pre a&&decide (μ a<N)) F):ZC P f pre F:=fun ps hps=>by
 refine h (μ (decL ps)+1) ps ?_
 simp only[preT,Bool.and_eq_true,decide_eq_true_eq]at hps ⊢
 exact⟨hps.1,hps.2,by omega⟩
theorem ZC.void{P:Program}{f:Nat}{α β:Type}[EncL α][Enc β]{pre:α->Bool}{F:α->β}(h : ∀ a,pre a=false):ZC P f pre F:=fun ps hps=>by simp[preT,h]at hps
theorem ZC.rec{P:Program}{f:Nat}{α β:Type}[EncL α][Enc β]{pre:α->Bool}{F:α->β}(μ:α->Nat)(h : ∀ N,ZC P f (fun a=>pre a&&decide (μ a<N)) F->ZC P f (fun a=>pre a&&decide (μ a<N+1)) F):ZC P f pre F:=by
 refine ZC.fuel μ fun N=> ?_
 induction N with
 | zero=>exact ZC.void fun a=>by simp
 | succ N ih=>exact h N ih
theorem ZC.or{P:Program}{f:Nat}{α β:Type}[EncL α][Enc β]{pre:α->Bool}{F:α->β}(c:α->Bool)(h1:ZC P f (fun a=>pre a&&c a) F)(h2:ZC P f (fun a=>pre a&& !c a) F):ZC P f pre F:=fun ps hps=>by
 have hps':=hps
 simp only[preT,Bool.and_eq_true]at hps'
 cases hc:c (decL ps)
 ·exact h2 ps (by simp only[preT,hps'.1,hps'.2,hc];rfl)
 ·exact h1 ps (by simp only[preT,hps'.1,hps'.2,hc];rfl)
mutual
def DK:PV->PV->Bool
 | .bool a,.bool b=>a==b
 | .int k a,.int l b=>QW k l&&a==b
 | .str a,.str b=>a==b
 | .sl s t xs,.sl s' t' ys=>s==s'&&t==t'&&J2 xs ys
 | .agg xs,.agg ys=>J2 xs ys
 | .tup xs,.tup ys=>J2 xs ys
 | .nilp,.nilp=>true
 | .nilmap,.nilmap=>true
 | .nilfn,.nilfn=>true
 | .nili,.nili=>true
 | .ifc,.ifc=>true
 | .fn a,.fn b=>a==b
 | .rptr xs,.rptr ys=>J2 xs ys
 | _,_=>false
def J2:List PV->List PV->Bool
 | [],[]=>true
 | x::xs,y::ys=>DK x y&&J2 xs ys
 | _,_=>false
end
theorem Rh(k:IntKind):QW k k=true:=by cases k <;> rfl
mutual
theorem OB: ∀ (p q:PV),DK p q=true->p=q
 | .bool a,q,h=>by cases q <;> simp[DK]at h;rw[h]
 | .int k a,q,h=>by cases q <;> simp[DK]at h;rw[QJ h.1,h.2]
 | .str a,q,h=>by cases q <;> simp[DK]at h;rw[h]
 | .sl s t xs,q,h=>by cases q <;> simp[DK]at h;rw[h.1.1,h.1.2,Kw xs _ h.2]
 | .agg xs,q,h=>by cases q <;> simp[DK]at h;rw[Kw xs _ h]
 | .tup xs,q,h=>by cases q <;> simp[DK]at h;rw[Kw xs _ h]
 | .nilp,q,h=>by cases q <;> simp[DK]at h;rfl
 | .nilmap,q,h=>by cases q <;> simp[DK]at h;rfl
 | .nilfn,q,h=>by cases q <;> simp[DK]at h;rfl
 | .nili,q,h=>by cases q <;> simp[DK]at h;rfl
 | .ifc,q,h=>by cases q <;> simp[DK]at h;rfl
 | .fn a,q,h=>by cases q <;> simp[DK]at h;rw[h]
 | .rptr xs,q,h=>by cases q <;> simp[DK]at h;rw[Kw xs _ h]
theorem Kw: ∀ (xs ys:List PV),J2 xs ys=true->xs=ys
 | [],ys,h=>by cases ys <;> simp[J2]at h;rfl
 | x::xs,ys,h=>by
  cases ys with
  | nil=>simp[J2]at h
  | cons y ys=>simp[J2]at h;rw[OB x y h.1,Kw xs ys h.2]
end
mutual
theorem Si: ∀ (p:PV),DK p p=true
 | .bool a | .str a | .fn a=>by simp[DK]
 | .int k a=>by simp[DK,Rh]
 | .sl s t xs=>by simp[DK,Jk xs]
 | .agg xs | .tup xs | .rptr xs=>by simp[DK,Jk xs]
 | .nilp | .nilmap | .nilfn | .nili | .ifc=>by simp[DK]
theorem Jk: ∀ (xs:List PV),J2 xs xs=true
 | []=>by simp[J2]
 | x::xs=>by simp[J2,Si x,Jk xs]
end
def FE(α:Type)[Enc α](p:PV):Bool:=DK p (enc (dec p:α))
@[simp] theorem Qq {α : Type} [Enc α] (a : α) : FE α (enc a) = true := by unfold FE; rw [Enc.dec_enc]; exact Si _
theorem Af{α:Type}[Enc α]{p:PV}(h:FE α p=true): ∃ a:α,p=enc a:=⟨_,OB _ _ h⟩
end Go.Pl

namespace Go.Pl
open Enc (enc dec is)
@[irreducible] def Uf (a : Nat) (r : List UInt8) : Nat := r.foldl (fun a c => a * 10 + (c.toNat - 48)) a
theorem U6(a:Nat):Uf a []=a:=by unfold Uf;rfl
theorem Uo(a:Nat)(c:UInt8)(r:List UInt8):Uf a (c::r)=Uf (a*10+(c.toNat - 48)) r:=by unfold Uf;rfl
theorem YO{c:UInt8}:digB c=true ↔ 48<=c.toNat∧c.toNat<=57:=by
 simp only[digB,Bool.and_eq_true,decide_eq_true_eq,UInt8.le_iff_toNat_le]
 have e1:(48:UInt8).toNat=48:=rfl
 have e2:(57:UInt8).toNat=57:=rfl
 rw[e1,e2]
theorem Bh: ∀ (r:List UInt8) (a:Nat),r.all digB=true->Uf a r<(a+1)*10 ^ r.length
 | [],a,_=>by simp[U6]
 | c::r,a,h=>by
  simp only[List.all_cons,Bool.and_eq_true,YO]at h
  have:=Bh r (a*10+(c.toNat - 48)) h.2
  rw[Uo,List.length_cons,Nat.pow_succ]
  refine Nat.lt_of_lt_of_le this ?_
  rw[Nat.mul_comm (10 ^ r.length) 10,<- Nat.mul_assoc]
  exact Nat.mul_le_mul_right _ (by omega)
theorem Bi: ∀ (r:List UInt8) (a:Nat),a<=Uf a r
 | [],a=>by rw[U6];exact Nat.le_refl _
 | c::r,a=>by
  have:=Bi r (a*10+(c.toNat - 48))
  rw[Uo]
  omega
theorem Jh: ∀ (r:List UInt8) (a:Nat),r.all digB=true->Uf a r<1000000000000000000->Lib.parseUint10 a r = .ok (Uf a r)
 | [],a,_,_=>by rw[U6,Lib.parseUint10]
 | c::r,a,h,hv=>by
  simp only[List.all_cons,Bool.and_eq_true,YO]at h
  rw[Uo]at hv ⊢
  have hge:=Bi r (a*10+(c.toNat - 48))
  rw[Lib.parseUint10,if_pos h.1,if_neg (by omega),if_neg (by omega)]
  exact Jh r _ h.2 hv
theorem a1n{a d:Nat}(ha:1<=a)(hd:d<=9):Lib.decDigits (a*10+d)=Lib.decDigits a++[UInt8.ofNat (48+d)]:=by
 rw[Lib.decDigits,dif_neg (by omega),show(a*10+d) / 10=a by omega,show(a*10+d) % 10=d by omega]
theorem Nq: ∀ (r:List UInt8) (a:Nat),1<=a->r.all digB=true->Lib.decDigits (Uf a r)=Lib.decDigits a++r
 | [],a,_,_=>by simp[U6]
 | c::r,a,ha,h=>by
  simp only[List.all_cons,Bool.and_eq_true,YO]at h
  rw[Uo,Nq r _ (by omega) h.2,a1n ha (by omega)]
  have:UInt8.ofNat (48+(c.toNat - 48))=c:=by
   rw[show 48+(c.toNat - 48)=c.toNat by omega]
   exact UInt8.ofNat_toNat
  rw[this]
  simp
theorem Tm{n:Nat}(h:n<256):(UInt8.ofNat n).toNat=n:=by rw[UInt8.toNat_ofNat'];omega
theorem Dt: ∀ (u:Nat),1<=u->(Lib.decDigits u).all digB=true∧(Lib.decDigits u).head? ≠ some 48∧Lib.decDigits u≠[]:=by
 intro u
 induction u using Nat.strongRecOn with
 | _ u ih=>
  intro h1
  rw[Lib.decDigits]
  by_cases h:u<10
  ·rw[dif_pos h]
   refine⟨?_,?_,by simp⟩
   ·simp only[List.all_cons,List.all_nil,Bool.and_true]
    rw[YO,Tm (by omega)]
    omega
   ·simp only[List.head?_cons,ne_eq,Option.some.injEq]
    intro e
    have:=congrArg UInt8.toNat e
    rw[Tm (by omega)]at this
    have e48:(48:UInt8).toNat=48:=rfl
    rw[e48]at this
    omega
  ·rw[dif_neg h]
   obtain⟨i1,i2,i3⟩:=ih (u / 10) (by omega) (by omega)
   refine⟨?_,?_,by simp⟩
   ·rw[List.all_append,i1]
    simp only[List.all_cons,List.all_nil,Bool.and_true,Bool.true_and]
    rw[YO,Tm (by omega)]
    omega
   ·cases hd:Lib.decDigits (u / 10)with
    | nil=>exact absurd hd i3
    | cons c r=>rw[hd]at i2;simpa using i2
def Tv(r:List UInt8):Bool:=r.all digB&& !r.isEmpty&&decide (r.head? ≠ some 48)
theorem a6r(b:Bool):WW (enc (⟨b⟩:Er)) = !b:=by cases b <;> rfl
theorem b0g(e:Er):JF (enc e)=true:=by obtain⟨b⟩:=e;cases b <;> rfl
theorem a4f(r:List UInt8)(hr:r.length<=9):(WW (enc (ZR ⟨r⟩).2)&&decide ((ZR ⟨r⟩).1>0)&&(Lib.itoa (ZR ⟨r⟩).1==r))=Tv r:=by
 by_cases hn:Tv r=true
 ·rw[hn]
  simp only[Tv,Bool.and_eq_true,Bool.not_eq_true',decide_eq_true_eq]at hn
  obtain⟨⟨h1,h2⟩,h3⟩:=hn
  cases r with
  | nil=>simp at h2
  | cons c r=>
   have h1':=h1
   simp only[List.all_cons,Bool.and_eq_true,YO]at h1
   have hc:c≠48:=by simpa using h3
   have hc':c.toNat≠48:=fun e=>hc (UInt8.toNat_inj.1 (by rw[e];rfl))
   have hv:=Bh (c::r) 0 h1'
   have hp:10 ^ (c::r).length<=10 ^ 9:=Nat.pow_le_pow_right (by omega) hr
   have hpm:=Jh (c::r) 0 h1' (by omega)
   have hat:Lib.atoiAll (c::r) = .ok (Uf 0 (c::r):Int):=by
    have e1 : ¬ (c.toNat=43∨c.toNat=45):=by omega
    have e2 : ¬ c.toNat=45:=by omega
    simp only[Lib.atoiAll,if_neg e1,Lib.parseMag,if_neg (show ¬ (c::r=[]) by simp),hpm]
    rw[if_neg (by omega),if_neg (fun e=>e2 e.1),if_neg e2]
   have ha:ZR ⟨c::r⟩=((Uf 0 (c::r):Int),⟨false⟩):=by simp only[ZR,hat]
   have hvd:Uf 0 (c::r)=Uf (c.toNat - 48) r:=by rw[Uo];congr 1;omega
   have hpos:=Bi r (c.toNat - 48)
   rw[ha]
   have h4:Lib.itoa (Uf 0 (c::r):Int)=c::r:=by
    rw[Lib.itoa,if_neg (by omega),Int.toNat_natCast,hvd,Nq r _ (by omega) h1.2,Lib.decDigits,dif_pos (by omega)]
    have:UInt8.ofNat (48+(c.toNat - 48))=c:=by
     rw[show 48+(c.toNat - 48)=c.toNat by omega]
     exact UInt8.ofNat_toNat
    rw[this];rfl
   simp only[a6r,h4,beq_self_eq_true,Bool.and_true,Bool.not_false,Bool.true_and]
   exact decide_eq_true (by omega)
 ·have hn:Tv r=false:=by simpa using hn
  rw[hn]
  by_cases h1:decide ((ZR ⟨r⟩).1>0)=true
  ·by_cases h2:(Lib.itoa (ZR ⟨r⟩).1==r)=true
   ·exfalso
    have h1:(ZR ⟨r⟩).1>0:=by simpa using h1
    have h2:Lib.itoa (ZR ⟨r⟩).1=r:=by simpa using h2
    rw[Lib.itoa,if_neg (by omega)]at h2
    obtain⟨d1,d2,d3⟩:=Dt (ZR ⟨r⟩).1.toNat (by omega)
    rw[h2]at d1 d2 d3
    have:Tv r=true:=by simp only[Tv,d1,decide_eq_true d2,Bool.true_and,Bool.and_true];cases r <;> simp at d3 ⊢
    rw[this]at hn;cases hn
   ·simp[h2]
  ·simp[h1]
theorem a0q(r:List UInt8):Zq ⟨95::r⟩=(Tv r&&decide (r.length<=9)):=by simp[Zq,Tv]
end Go.Pl

namespace Go.Pl
open Go.RowKit
open Enc (enc dec is)
open EncL (encL decL isL)
theorem Dy(s:List UInt8): ∀ m:List (Str×Int),DV (.str s) (Zc m)=some ((m.find? fun p=>p.1.s==s).map fun p=>.int .i64 p.2)
 | []=>rfl
 | p::m=>by
  simp only[Zc,List.map_cons,DV,SQ,List.find?_cons]
  by_cases h:s=p.1.s
  ·subst h
   simp
  ·have h1:(s==p.1.s)=false:=by simpa using h
   have h2:(p.1.s==s)=false:=by simpa using fun e:p.1.s=s=>h e.symm
   simp only[h1,h2]
   exact Dy s m
theorem WB(s:List UInt8)(m:List (Str×Int)):Wn (.str s) (Zc m)=true:=by simp[Wn,Dy]
theorem Wz(s:List UInt8)(m:List (Str×Int)):ZK (.str s) (.int .i64 0) (Zc m) = .int .i64 (Vh m s):=by
 simp only[ZK,Dy,Vh]
 cases m.find? fun p=>p.1.s==s <;> rfl
def WY(s:Str)(c:Int):List (Str×Int)->List (Str×Int)
 | []=>[(s,c)]
 | p::m=>if s.s=p.1.s then(s,c)::m else p::WY s c m
theorem Hw(s:Str)(c:Int): ∀ m:List (Str×Int),upd (.str s.s) (.int .i64 c) (Zc m)=some (Zc (WY s c m))
 | []=>rfl
 | p::m=>by
  have ih:=Hw s c m
  simp only[Zc]at ih
  simp only[Zc,List.map_cons,upd,SQ,WY]
  by_cases h:s.s=p.1.s
  ·simp[h]
  ·have h1:(s.s==p.1.s)=false:=by simpa using h
   simp[h1,h,ih]
def Y0(k:Int):List Coef->List (Str×Int)->List (Str×Int)
 | [],m=>m
 | t::l,m=>Y0 k l (WY t.v (IntKind.i64.wrap (Vh m t.v.s+IntKind.i64.wrap (k*t.c))) m)
def ZQ(m:List (Str×Int)):List (List UInt8):=m.map (·.1.s)
theorem Ui(s:Str)(c:Int): ∀ m:List (Str×Int),(ZQ (WY s c m)=ZQ m)∨(s.s ∉ ZQ m∧ZQ (WY s c m)=ZQ m++[s.s])
 | []=>.inr ⟨by simp[ZQ],rfl⟩
 | p::m=>by
  rw[WY]
  split
  ·rename_i h
   exact .inl (by simp[ZQ,h])
  ·rename_i h
   rcases Ui s c m with e|⟨e1,e2⟩
   ·exact .inl (by simp only[ZQ,List.map_cons]at e ⊢;rw[e])
   ·refine .inr ⟨?_,?_⟩
    ·simp only[ZQ,List.map_cons,List.mem_cons,not_or]at e1 ⊢
     exact⟨h,e1⟩
    ·simp only[ZQ,List.map_cons]at e2 ⊢
     rw[e2];rfl
theorem CL{s:Str}{c:Int}{m:List (Str×Int)}(h:(ZQ m).Nodup):(ZQ (WY s c m)).Nodup:=by
 rcases Ui s c m with e|⟨e1,e2⟩
 ·rw[e];exact h
 ·rw[e2,List.nodup_append]
  exact⟨h,by simp,fun a ha b hb e=>by simp at hb;subst hb;subst e;exact e1 ha⟩
theorem Q5(k:Int): ∀ (l:List Coef) (m:List (Str×Int)),(ZQ m).Nodup->(ZQ (Y0 k l m)).Nodup
 | [],m,h=>h
 | t::l,m,h=>Q5 k l _ (CL h)
theorem Ae(s:Str)(c:Int)(m:List (Str×Int)):(WY s c m).length<=m.length+1:=by
 have h:(WY s c m).length=(ZQ (WY s c m)).length:=by simp[ZQ]
 have h2:m.length=(ZQ m).length:=by simp[ZQ]
 rcases Ui s c m with e|⟨_,e⟩
 ·rw[h,e,<- h2];omega
 ·rw[h,e];simp;omega
theorem KF(k:Int): ∀ (l:List Coef) (m:List (Str×Int)),(Y0 k l m).length<=m.length+l.length
 | [],m=>Nat.le_refl _
 | t::l,m=>by
  have h1:=KF k l (WY t.v (IntKind.i64.wrap (Vh m t.v.s+IntKind.i64.wrap (k*t.c))) m)
  have h2:=Ae t.v (IntKind.i64.wrap (Vh m t.v.s+IntKind.i64.wrap (k*t.c))) m
  rw[Y0,List.length_cons];omega
def nzM(m:List (Str×Int)):List (Str×Int):=m.filter fun p=>decide (p.2≠0)
def Wm:AV×List AObj×List AObj:=(.tup [.pv (.int .i64 0),.pv .nilmap,.pv (.bool false)],[],[])
theorem T9{a b:List (List UInt8)}(h:a.Perm b):Yu a=Yu b:=by
 have tr : ∀ x y z:List UInt8,decide (x<=y)=true->decide (y<=z)=true->decide (x<=z)=true:=fun x y z h k=>by simp only[decide_eq_true_eq]at *;exact List.le_trans h k
 have to : ∀ x y:List UInt8,(decide (x<=y)||decide (y<=x))=true:=fun x y=>by simp only[Bool.or_eq_true,decide_eq_true_eq];exact List.le_total x y
 refine List.Perm.eq_of_pairwise (le:=fun x y=>decide (x<=y)=true) (fun x y _ _ h1 h2=> ?_) (List.pairwise_mergeSort tr to a) (List.pairwise_mergeSort tr to b) (((List.mergeSort_perm a _).trans h).trans (List.mergeSort_perm b _).symm)
 simp only[decide_eq_true_eq]at h1 h2
 exact List.le_antisymm h1 h2
structure FnV (n:Nat) where
 u:Unit:=()
instance (n:Nat):Enc (FnV n) where
  sz:=1
  enc _:=.fn n
  dec _:={}
  is | .fn m=>m==n|_=>false
  is_enc _:=by simp
  dec_enc _:=rfl
  sub p h:=by
    cases p with
    | fn m => have : m = n := by simpa using h
              subst this;exact .refl _
    | _=>cases h
def Xz{α:Type}(p:α->Bool)(l:List α):Int:=match l.findIdx? p with|some i=>i|none=> -1
theorem a3x{α:Type}(p:α->Bool)(l:List α)(i:Nat)(hlt:i<l.length)(hno : ∀ j (h:j<l.length),j<i->p l[j]=false)(hp:p l[i]=true):Xz p l=i:=by
 unfold Xz
 have:l.findIdx? p=some i:=by
  rw[List.findIdx?_eq_some_iff_getElem]
  exact⟨hlt,hp,fun j hj=>by simp[hno j (by omega) hj]⟩
 rw[this]
theorem a4g{α:Type}(p:α->Bool)(l:List α)(hno : ∀ j (h:j<l.length),p l[j]=false):Xz p l = -1:=by
 unfold Xz
 have:l.findIdx? p=none:=by
  rw[List.findIdx?_eq_none_iff]
  intro x hx
  obtain⟨j,hj,rfl⟩:=List.getElem_of_mem hx
  exact hno j hj
 rw[this]
end Go.Pl

namespace Go.Pl
open Go.RowKit
open Enc (enc dec is)
open EncL (encL decL isL)
set_option maxRecDepth 100000
def VL:IC:=(.seq (.reg [⟨(some 4),(.box 2 (.t 1)),0,none⟩] none) (.seq (.reg [⟨(some 8),(.mv (.t 0)),0,none⟩,⟨(some 9),(.nilchk (.t 8)),0,none⟩,⟨(some 10),(.faddr 0 (.t 9)),0,none⟩,⟨(some 11),(.load false [(.int .i64)] (.t 10)),0,none⟩,⟨(some 12),(.mv (.t 2)),0,none⟩,⟨(some 13),(.faddr 0 (.t 4)),0,none⟩,⟨(some 14),(.load false [(.int .i64)] (.t 13)),0,none⟩,⟨(some 15),(.bin .num .mul (.t 12) (.t 14)),0,none⟩,⟨(some 16),(.bin .num .add (.t 11) (.t 15)),0,none⟩,⟨(some 17),(.nilchk (.t 8)),0,none⟩,⟨(some 18),(.faddr 0 (.t 17)),0,none⟩,⟨none,(.store 1 (.t 18) (.t 16)),0,none⟩] (some [[],[0],[1,0],[2,1,0],[],[],[5],[4,6,5],[3,7,2,1,0,4,6,5],[0,1,2,3,4,5,6,7,8],[9,0,1,2,3,4,5,6,7,8],[10,8,0,1,2,3,4,5,6,7,9]])) (.seq (.reg [⟨(some 19),(.faddr 1 (.t 4)),0,none⟩,⟨(some 20),(.load false [(.sl 2)] (.t 19)),0,none⟩,⟨(some 21),(.len 1 (.t 20)),0,none⟩,⟨(some 22),(.mv (.c (.int .i64 0))),0,none⟩] none) (.block 0 (.loop [22,21,20,0,2] (.seq (.reg [⟨(some 23),(.bin .num .lss (.t 22) (.t 21)),0,none⟩] none) (.seq (.cond (.t 23) .skip (.exit 0)) (.seq (.block 1 (.seq (.reg [⟨(some 24),(.iaddr 2 (.t 20) (.t 22)),0,none⟩,⟨(some 25),(.load true [.str,(.int .i64)] (.t 24)),0,none⟩,⟨(some 7),(.alloc (.agg [(.str []),(.int .i64 0)])),0,none⟩,⟨none,(.store 2 (.t 7) (.t 25)),1,none⟩] none) (.reg [⟨(some 26),(.mv (.t 0)),0,none⟩,⟨(some 27),(.nilchk (.t 26)),0,none⟩,⟨(some 28),(.faddr 1 (.t 27)),0,none⟩,⟨(some 29),(.load false [.any] (.t 28)),0,none⟩,⟨(some 30),(.faddr 0 (.t 7)),0,none⟩,⟨(some 31),(.load false [.str] (.t 30)),0,none⟩,⟨(some 32),(.lookup true (.int .i64) (.int .i64 0) false (.t 29) (.t 31)),0,none⟩,⟨(some 33),(.mv (.t 2)),0,none⟩,⟨(some 34),(.faddr 1 (.t 7)),0,none⟩,⟨(some 35),(.load false [(.int .i64)] (.t 34)),0,none⟩,⟨(some 36),(.bin .num .mul (.t 33) (.t 35)),0,none⟩,⟨(some 37),(.bin .num .add (.t 32) (.t 36)),0,none⟩,⟨none,(.mapupd true (.t 29) (.t 31) (.t 37)),0,none⟩] (some [[],[0],[1,0],[2,1,0],[],[4],[3,5,2,1,0,4],[],[],[8],[7,9,8],[6,10,3,5,2,1,0,4,7,9,8],[3,5,11,0,1,2,4,6,7,8,9,10]])))) (.reg [⟨(some 38),(.bin .num .add (.t 22) (.c (.int .i64 1))),0,none⟩,⟨(some 22),(.mv (.t 38)),0,none⟩] none)))))))))
def VM:List IRes:=[]
abbrev a5m:Nat:=39
def U7:ZI:=WL []
theorem a7f{G:AV×List AObj×List AObj->Prop}(n:Int)(m:List (Str×Int))(l:Lin)(k:Int)(h:At U7 2 (Zd 2 VM G) VL 0 39 [(0,(.ptr 0 0)),(2,(.pv (.int .i64 k))),(20,(.pv (.sl 2 false (List.map enc l.t)))),(21,(.pv (.int .i64 (↑(List.length (List.map enc l.t)):Int)))),(22,(.pv (.int .i64 0)))] [(.obj (.box [(.pv (.int .i64 (IntKind.wrap IntKind.i64 (n+IntKind.wrap IntKind.i64 (k*l.k))))),(.map 1)])),(.obj (.map (Zc m)))]):Zi U7 2 (Zd 2 VM G) VL [] (Yk 39 [.ptr 0 0,.pv (enc l),.pv (.int .i64 k)] [.box [.pv (.int .i64 n),.map 1],.map (Zc m)]):=Zi.to (.lit (.lit (.nil))) h (by kernel_rfl)
theorem NC{G:AV×List AObj×List AObj->Prop}(n:Int)(m:List (Str×Int))(l:Lin)(k:Int)(i:Int)(h:if (decide (i<(↑(List.length l.t):Int)))=true then(decide (0<=i)&&decide (Int.toNat i<List.length (List.map enc l.t))&&Enc.sz Coef==2)=true∧(∃ y0:Coef,AV.pv (PV.rptr (PV.cells (List.getD (List.map enc l.t) (Int.toNat i) default)))=AV.pv (PV.rptr (PV.cells ((enc) y0)))∧((Wn (Sh.co Sh.str (List.getD (PV.cells (enc y0)) 0 default)) (Zc m)&&Sh.fit (Sh.int .i64) (ZK (Sh.co Sh.str (List.getD (PV.cells (enc y0)) 0 default)) (PV.int .i64 0) (Zc m)))=true∧((JP (Sh.co Sh.str (List.getD (PV.cells (enc y0)) 0 default)) (PV.int .i64 (IntKind.wrap IntKind.i64 (PV.asInt (ZK (Sh.co Sh.str (List.getD (PV.cells (enc y0)) 0 default)) (PV.int .i64 0) (Zc m))+IntKind.wrap IntKind.i64 (k*PV.asInt (List.getD (PV.cells (enc y0)) (0+1) default))))) (Zc m))=true∧(At U7 2 (Zd 2 VM G) VL 0 39 [(0,(.ptr 0 0)),(2,(.pv (.int .i64 k))),(20,(.pv (.sl 2 false (List.map enc l.t)))),(21,(.pv (.int .i64 (↑(List.length l.t):Int)))),(22,(.pv (.int .i64 (IntKind.wrap IntKind.i64 (i+1)))))] [(.obj (.box [(.pv (.int .i64 n)),(.map 1)])),(.obj (.map (J3 (Sh.co Sh.str (List.getD (PV.cells (enc y0)) 0 default)) (PV.int .i64 (IntKind.wrap IntKind.i64 (PV.asInt (ZK (Sh.co Sh.str (List.getD (PV.cells (enc y0)) 0 default)) (PV.int .i64 0) (Zc m))+IntKind.wrap IntKind.i64 (k*PV.asInt (List.getD (PV.cells (enc y0)) (0+1) default))))) (Zc m))))]))))else(G (((.tup []),([(.box [(.pv (.int .i64 n)),(.map 1)]),(.map (Zc m))],[]))))):At U7 2 (Zd 2 VM G) VL 0 39 [(0,.ptr 0 0),(2,.pv (.int .i64 k)),(20,.pv (enc l.t)),(21,.pv (.int .i64 l.t.length)),(22,.pv (.int .i64 i))] [.obj (.box [.pv (.int .i64 n),.map 1]),.obj (.map (Zc m))]:=At.to (.lit (.ask (.req (.abs (Coef) (fun YY=>AV.pv (PV.rptr (PV.cells ((enc) YY)))) (.lit (.req (.keep (.lit (.lit (.req (.lit (.nil)))))))))) (.nil))) h (by kernel_rfl)
end Go.Pl

namespace Go.Pl
open Go.RowKit
open Enc (enc dec is)
open EncL (encL decL isL)
set_option maxRecDepth 100000
def We:IC:=(.seq (.reg [⟨(some 25),(.mv (.t 7)),0,none⟩,⟨(some 26),(.bin .num .neq (.t 25) (.c (.int .i64 0))),0,none⟩] none) (.cond (.t 26) (.reg [⟨(some 27),(.mv (.t 5)),0,none⟩,⟨(some 28),(.mv (.t 6)),0,none⟩,⟨(some 29),(.bslice 9 1 1 (.str []) [(0,(.t 28))]),0,none⟩,⟨(some 30),(.append 9 1 16 (.t 27) (.t 29)),1,none⟩,⟨(some 5),(.mv (.t 30)),2,none⟩] none) .skip))
def VF:List IRes:=[]
def QB:ZI:=WL [(154,.own YP XX),(73,.pure (preT (fun x:Lin×Unit=>Zt x.1)) (Zj (fun x:Lin×Unit=>Zh x.1)))]
theorem EN{G:AV×List AObj×List AObj->Prop}(E:Y9)(n:Int)(s:List UInt8)(c:Int)(h:if (c != 0)=true then E 99 ⟨X0 58 0 [(0,(.ptr 0 0)),(2,(.ptr 2 0)),(4,(.ptr 3 0)),(5,(.row 5 1 0 1)),(18,(.map 1)),(19,(.ptr 4 0))],[(.obj (.box [(.pv (.int .i64 n)),(.map 1)])),.dead,(.obj (.box [(.pv (.int .i64 0)),(.pv (.sl 0 true []))])),(.obj (.box [(.pv (.int .i64 n)),(.pv (.sl 0 true []))])),.dead,(.obj (.row false 9 1 [(.str s)]))]⟩ (fun x S'=>NH QB E 5 (Zd 5 VF G) We 99 x S')else(E 99 ⟨X0 58 0 [(0,(.ptr 0 0)),(2,(.ptr 2 0)),(4,(.ptr 3 0)),(5,(.pv (.sl 0 true []))),(18,(.map 1)),(19,(.ptr 4 0))],[(.obj (.box [(.pv (.int .i64 n)),(.map 1)])),.dead,(.obj (.box [(.pv (.int .i64 0)),(.pv (.sl 0 true []))])),(.obj (.box [(.pv (.int .i64 n)),(.pv (.sl 0 true []))])),.dead]⟩ (fun x S'=>NH QB E 5 (Zd 5 VF G) We 99 x S'))):Z7 QB E 5 (Zd 5 VF G) (.inl We) [.blk 1,.seq (.ext 99 [0,2,4,5,18,19])] ⟨X0 58 0 [(0,.ptr 0 0),(2,.ptr 2 0),(4,.ptr 3 0),(5,.pv (.sl 0 true [])),(6,.pv (.str s)),(7,.pv (.int .i64 c)),(18,.map 1),(19,.ptr 4 0),(22,.pv (.tup [.str s,.int .i64 c])),(23,.pv (.str s)),(24,.pv (.int .i64 c))],[.obj (.box [.pv (.int .i64 n),.map 1]),.dead,.obj (.box [.pv (.int .i64 0),.pv (.sl 0 true [])]),.obj (.box [.pv (.int .i64 n),.pv (.sl 0 true [])]),.dead]⟩:=Z7.mo (.lit (.ask (.lit (.lit (.lit (.lit (.lit (.nil)))))) (.nil))) h (by kernel_rfl)
theorem F5{G:AV×List AObj×List AObj->Prop}(E:Y9)(n:Int)(s:List UInt8)(c:Int)(l:Nat)(xs:List (List UInt8))(h:if (c != 0)=true then(List.length (List.map PV.str xs)==l&&l==l&&decide ((l+List.length (List.drop 0 (List.take 1 [PV.str s])))*16<=1099511627776)&&decide (l+List.length (List.drop 0 (List.take 1 [PV.str s]))<=1099511627776))=true∧(E 99 ⟨X0 58 0 [(0,(.ptr 0 0)),(2,(.ptr 2 0)),(4,(.ptr 3 0)),(5,(.row 5 (l+List.length (List.drop 0 (List.take 1 [PV.str s]))) 0 (l+List.length (List.drop 0 (List.take 1 [PV.str s]))))),(18,(.map 1)),(19,(.ptr 4 0))],[(.obj (.box [(.pv (.int .i64 n)),(.map 1)])),.dead,(.obj (.box [(.pv (.int .i64 0)),(.pv (.sl 0 true []))])),(.obj (.box [(.pv (.int .i64 n)),(.pv (.sl 0 true []))])),.dead,(.obj (.row false 9 1 (List.map PV.str xs++List.drop 0 (List.take 1 [PV.str s]))))]⟩ (fun x S'=>NH QB E 6 (Zd 6 VF G) We 99 x S'))else(E 99 ⟨X0 58 0 [(0,(.ptr 0 0)),(2,(.ptr 2 0)),(4,(.ptr 3 0)),(5,(.row 5 l 0 l)),(18,(.map 1)),(19,(.ptr 4 0))],[(.obj (.box [(.pv (.int .i64 n)),(.map 1)])),.dead,(.obj (.box [(.pv (.int .i64 0)),(.pv (.sl 0 true []))])),(.obj (.box [(.pv (.int .i64 n)),(.pv (.sl 0 true []))])),.dead,(.obj (.row false 9 1 (List.map PV.str xs)))]⟩ (fun x S'=>NH QB E 6 (Zd 6 VF G) We 99 x S'))):Z7 QB E 6 (Zd 6 VF G) (.inl We) [.blk 1,.seq (.ext 99 [0,2,4,5,18,19])] ⟨X0 58 0 [(0,.ptr 0 0),(2,.ptr 2 0),(4,.ptr 3 0),(5,.row 5 l 0 l),(6,.pv (.str s)),(7,.pv (.int .i64 c)),(18,.map 1),(19,.ptr 4 0),(22,.pv (.tup [.str s,.int .i64 c])),(23,.pv (.str s)),(24,.pv (.int .i64 c))],[.obj (.box [.pv (.int .i64 n),.map 1]),.dead,.obj (.box [.pv (.int .i64 0),.pv (.sl 0 true [])]),.obj (.box [.pv (.int .i64 n),.pv (.sl 0 true [])]),.dead,.obj (.row false 9 1 (xs.map .str))]⟩:=Z7.mo (.lit (.ask (.lit (.lit (.req (.nil)))) (.nil))) h (by kernel_rfl)
def YA:IC:=(.seq (.reg [⟨(some 2),(.alloc (.agg [(.int .i64 0),(.sl 0 true [])])),0,none⟩,⟨(some 3),(.mv (.c (.int .i64 0))),1,none⟩] none) (.seq (.reg [⟨(some 10),(.mv (.t 0)),0,none⟩,⟨(some 11),(.nilchk (.t 10)),0,none⟩,⟨(some 12),(.faddr 0 (.t 11)),0,none⟩,⟨(some 13),(.load false [(.int .i64)] (.t 12)),0,none⟩,⟨(some 14),(.build [(.int .i64 0),(.sl 0 true [])] [(0,(1,(.t 13)))]),0,none⟩,⟨(some 4),(.alloc (.agg [(.int .i64 0),(.sl 0 true [])])),0,none⟩,⟨none,(.store 2 (.t 4) (.t 14)),1,none⟩] none) (.seq (.reg [⟨(some 5),(.mv (.c (.sl 0 true []))),0,none⟩] none) (.seq (.ext 0 [0,15,16,17,18,19,20,21,22,23,24,7,25,26,5,6,28,27,29,30,4,2]) (.seq (.reg [⟨(some 31),(.mv (.t 5)),0,none⟩,⟨(some 32),(.call (.c (.fn 154)) [(.t 31)]),0,none⟩] none) (.seq (.seq (.reg [⟨(some 33),(.mv (.t 5)),0,none⟩,⟨(some 34),(.len 1 (.t 33)),0,none⟩,⟨(some 35),(.mv (.c (.int .i64 0))),0,none⟩] none) (.block 2 (.loop [35,34,33,4,0,2] (.seq (.reg [⟨(some 36),(.bin .num .lss (.t 35) (.t 34)),0,none⟩] none) (.seq (.cond (.t 36) .skip (.exit 2)) (.seq (.block 3 (.seq (.reg [⟨(some 37),(.iaddr 1 (.t 33) (.t 35)),0,none⟩,⟨(some 38),(.load false [.str] (.t 37)),0,none⟩,⟨(some 9),(.mv (.t 38)),0,none⟩] none) (.reg [⟨(some 39),(.faddr 1 (.t 4)),0,none⟩,⟨(some 40),(.load false [(.sl 2)] (.t 39)),0,none⟩,⟨(some 41),(.mv (.t 9)),0,none⟩,⟨(some 42),(.mv (.t 0)),0,none⟩,⟨(some 43),(.nilchk (.t 42)),0,none⟩,⟨(some 44),(.faddr 1 (.t 43)),0,none⟩,⟨(some 45),(.load false [.any] (.t 44)),0,none⟩,⟨(some 46),(.mv (.t 9)),0,none⟩,⟨(some 47),(.lookup true (.int .i64) (.int .i64 0) false (.t 45) (.t 46)),0,none⟩,⟨(some 48),(.build [(.str []),(.int .i64 0)] [(0,(1,(.t 41))),(1,(1,(.t 47)))]),0,none⟩,⟨(some 49),(.bslice 61 2 1 (.agg [(.str []),(.int .i64 0)]) [(0,(.t 48))]),0,none⟩,⟨(some 50),(.append 61 2 24 (.t 40) (.t 49)),1,none⟩,⟨(some 51),(.faddr 1 (.t 4)),2,none⟩,⟨none,(.store 1 (.t 51) (.t 50)),2,none⟩] (some [[],[0],[],[],[3],[4,3],[5,4,3],[],[6,7,5,4,3],[2,8,6,7,5,4,3],[9,2,8,6,7,5,4,3],[1,10,0,9,2,8,6,7,5,4,3],[0,1,2,3,4,5,6,7,8,9,10,11],[12,11,0,1,2,3,4,5,6,7,8,9,10]])))) (.reg [⟨(some 52),(.bin .num .add (.t 35) (.c (.int .i64 1))),0,none⟩,⟨(some 35),(.mv (.t 52)),0,none⟩] none))))))) (.seq (.seq (.reg [⟨(some 53),(.load true [(.int .i64),(.sl 2)] (.t 4)),0,none⟩,⟨(some 54),(.call (.c (.fn 73)) [(.t 53)]),0,none⟩,⟨(some 55),(.un .not (.t 54)),2,none⟩] none) (.cond (.t 55) (.seq (.reg [⟨(some 56),(.build [(.int .i64 0),(.sl 0 true [])] []),0,none⟩,⟨none,(.store 2 (.t 2) (.t 56)),0,none⟩,⟨(some 3),(.mv (.c (.int .i64 3))),0,none⟩] none) .ret) .skip)) (.seq (.reg [⟨(some 57),(.load true [(.int .i64),(.sl 2)] (.t 4)),0,none⟩,⟨none,(.store 2 (.t 2) (.t 57)),0,none⟩,⟨(some 3),(.mv (.c (.int .i64 0))),0,none⟩] none) .ret))))))))
def YG:List IRes:=[(.cell true 2 2),(.tmp 3)]
abbrev a3j:Nat:=58
def YV:ZI:=WL [(154,.own YP XX),(73,.pure (preT (fun x:Lin×Unit=>Zt x.1)) (Zj (fun x:Lin×Unit=>Zh x.1)))]
theorem a7a{G:AV×List AObj×List AObj->Prop}(E:Y9)(n:Int)(m:List (Str×Int))(h:E 0 ⟨X0 58 0 [(0,(.ptr 0 0)),(2,(.ptr 2 0)),(4,(.ptr 3 0)),(5,(.pv (.sl 0 true []))),(6,.undef),(7,.undef),(15,.undef),(16,.undef),(17,.undef),(18,.undef),(19,.undef),(20,.undef),(21,.undef),(22,.undef),(23,.undef),(24,.undef),(25,.undef),(26,.undef),(27,.undef),(28,.undef),(29,.undef),(30,.undef)],[(.obj (.box [(.pv (.int .i64 n)),(.map 1)])),(.obj (.map (Zc m))),(.obj (.box [(.pv (.int .i64 0)),(.pv (.sl 0 true []))])),(.obj (.box [(.pv (.int .i64 n)),(.pv (.sl 0 true []))]))]⟩ (fun x S'=>NH YV E 2 (Zd 2 YG G) YA 0 x S')):Z7 YV E 2 (Zd 2 YG G) (.inl YA) [] (Yk 58 [.ptr 0 0] [.box [.pv (.int .i64 n),.map 1],.map (Zc m)]):=Z7.mo (.nil) h (by kernel_rfl)
-- IMPOSSIBLE
theorem Eo{G:AV×List AObj×List AObj->Prop}(E:Y9)(n:Int)(m:List (Str×Int))(i:Int)(h:if (decide (i<0))=true then(decide (0<=i)&&decide (Int.toNat i<List.length ([]:List PV))&&0==1)=true∧(False)else(∃ y0:Bool,AV.pv (Zj (fun(x:Lin×Unit)=>Zh x.1) [(.agg [(.int .i64 n),(.sl 0 true [])])])=AV.pv (enc y0)∧(if (!y0)=true then G (((.tup [(.pv (.agg [(.int .i64 0),(.sl 0 true [])])),(.pv (.int .i64 3))]),([(.box [(.pv (.int .i64 n)),(.map 1)]),(.map (Zc m))],[])))else(G (((.tup [(.pv (.agg [(.int .i64 n),(.sl 0 true [])])),(.pv (.int .i64 0))]),([(.box [(.pv (.int .i64 n)),(.map 1)]),(.map (Zc m))],[]))))))):Az YV E 2 (Zd 2 YG G) YA 0 58 [(0,.ptr 0 0),(2,.ptr 2 0),(4,.ptr 3 0),(33,.pv (.sl 0 true [])),(34,.pv (.int .i64 0)),(35,.pv (.int .i64 i))] [.obj (.box [.pv (.int .i64 n),.map 1]),.obj (.map (Zc m)),.obj (.box [.pv (.int .i64 0),.pv (.sl 0 true [])]),.obj (.box [.pv (.int .i64 n),.pv (.sl 0 true [])])]:=Z7.mo (.lit (.ask (.req (.keep (.lit (.nil)))) (.lit (.abs (Bool) (fun YY=>AV.pv (enc YY)) (.ask (.nil) (.nil)))))) h (by kernel_rfl)
theorem a1p{G:AV×List AObj×List AObj->Prop}(E:Y9)(n:Int)(m:List (Str×Int))(l:Nat)(xs:List (List UInt8))(i:Int)(h:if (decide (i<(↑l:Int)))=true then(decide (0<=i)&&decide (0+Int.toNat i<l)&&List.length (List.map PV.str xs)==l)=true∧((List.length (List.map PV.str xs)==l&&decide (0+Int.toNat i<List.length (List.map PV.str xs)))=true∧((decide (0+List.length [Sh.str]<=List.length (PV.cells (List.getD (List.map PV.str xs) (0+Int.toNat i) default)))&&UY (PV.cells (List.getD (List.map PV.str xs) (0+Int.toNat i) default)) 0 [Sh.str])=true∧((Wn (Sh.co Sh.str (List.getD (PV.cells (List.getD (List.map PV.str xs) (0+Int.toNat i) default)) 0 default)) (Zc m)&&Sh.fit (Sh.int .i64) (ZK (Sh.co Sh.str (List.getD (PV.cells (List.getD (List.map PV.str xs) (0+Int.toNat i) default)) 0 default)) (PV.int .i64 0) (Zc m)))=true∧(Az YV E 2 (Zd 2 YG G) YA 0 58 [(0,(.ptr 0 0)),(2,(.ptr 2 0)),(4,(.ptr 3 0)),(33,(.row 4 l 0 l)),(34,(.pv (.int .i64 (↑l:Int)))),(35,(.pv (.int .i64 (IntKind.wrap IntKind.i64 (i+1)))))] [(.obj (.box [(.pv (.int .i64 n)),(.map 1)])),(.obj (.map (Zc m))),(.obj (.box [(.pv (.int .i64 0)),(.pv (.sl 0 true []))])),(.obj (.box [(.pv (.int .i64 n)),(.row 5 1 0 1)])),(.obj (.row false 9 1 (List.map PV.str xs))),(.obj (.row false 61 2 [(.agg [(.str (PV.asStr (List.getD (PV.cells (List.getD (List.map PV.str xs) (0+Int.toNat i) default)) 0 default))),(.int .i64 (PV.asInt (ZK (Sh.co Sh.str (List.getD (PV.cells (List.getD (List.map PV.str xs) (0+Int.toNat i) default)) 0 default)) (PV.int .i64 0) (Zc m))))])]))]))))else(∃ y0:Bool,AV.pv (Zj (fun(x:Lin×Unit)=>Zh x.1) [(.agg [(.int .i64 n),(.sl 0 true [])])])=AV.pv (enc y0)∧(if (!y0)=true then G (((.tup [(.pv (.agg [(.int .i64 0),(.sl 0 true [])])),(.pv (.int .i64 3))]),([(.box [(.pv (.int .i64 n)),(.map 1)]),(.map (Zc m))],[])))else(G (((.tup [(.pv (.agg [(.int .i64 n),(.sl 0 true [])])),(.pv (.int .i64 0))]),([(.box [(.pv (.int .i64 n)),(.map 1)]),(.map (Zc m))],[]))))))):Az YV E 2 (Zd 2 YG G) YA 0 58 [(0,.ptr 0 0),(2,.ptr 2 0),(4,.ptr 3 0),(33,.row 4 l 0 l),(34,.pv (.int .i64 l)),(35,.pv (.int .i64 i))] [.obj (.box [.pv (.int .i64 n),.map 1]),.obj (.map (Zc m)),.obj (.box [.pv (.int .i64 0),.pv (.sl 0 true [])]),.obj (.box [.pv (.int .i64 n),.pv (.sl 0 true [])]),.obj (.row false 9 1 (xs.map .str))]:=Z7.mo (.lit (.ask (.req (.keep (.req (.req (.req (.keep (.lit (.lit (.lit (.lit (.lit (.lit (.nil))))))))))))) (.lit (.abs (Bool) (fun YY=>AV.pv (enc YY)) (.ask (.nil) (.nil)))))) h (by kernel_rfl)
theorem Sm{G:AV×List AObj×List AObj->Prop}(E:Y9)(n:Int)(m:List (Str×Int))(l:Nat)(xs:List (List UInt8))(i:Int)(q:Nat)(ts:List Coef)(h:if (decide (i<(↑l:Int)))=true then(decide (0<=i)&&decide (0+Int.toNat i<l)&&List.length (List.map PV.str xs)==l)=true∧((List.length (List.map PV.str xs)==l&&decide (0+Int.toNat i<List.length (List.map PV.str xs)))=true∧((decide (0+List.length [Sh.str]<=List.length (PV.cells (List.getD (List.map PV.str xs) (0+Int.toNat i) default)))&&UY (PV.cells (List.getD (List.map PV.str xs) (0+Int.toNat i) default)) 0 [Sh.str])=true∧((Wn (Sh.co Sh.str (List.getD (PV.cells (List.getD (List.map PV.str xs) (0+Int.toNat i) default)) 0 default)) (Zc m)&&Sh.fit (Sh.int .i64) (ZK (Sh.co Sh.str (List.getD (PV.cells (List.getD (List.map PV.str xs) (0+Int.toNat i) default)) 0 default)) (PV.int .i64 0) (Zc m)))=true∧((List.length (List.map enc ts)==q&&q==q&&decide ((q+List.length (List.drop 0 (List.take 1 [PV.agg [Sh.co Sh.str (List.getD (PV.cells (List.getD (List.map PV.str xs) (0+Int.toNat i) default)) 0 default),if false=true then PV.tup [Sh.co (Sh.int .i64) (ZK (Sh.co Sh.str (List.getD (PV.cells (List.getD (List.map PV.str xs) (0+Int.toNat i) default)) 0 default)) (PV.int .i64 0) (Zc m)),PV.bool (Y2 (Sh.co Sh.str (List.getD (PV.cells (List.getD (List.map PV.str xs) (0+Int.toNat i) default)) 0 default)) (Zc m))]else Sh.co (Sh.int .i64) (ZK (Sh.co Sh.str (List.getD (PV.cells (List.getD (List.map PV.str xs) (0+Int.toNat i) default)) 0 default)) (PV.int .i64 0) (Zc m))]])))*24<=1099511627776)&&decide (q+List.length (List.drop 0 (List.take 1 [PV.agg [Sh.co Sh.str (List.getD (PV.cells (List.getD (List.map PV.str xs) (0+Int.toNat i) default)) 0 default),if false=true then PV.tup [Sh.co (Sh.int .i64) (ZK (Sh.co Sh.str (List.getD (PV.cells (List.getD (List.map PV.str xs) (0+Int.toNat i) default)) 0 default)) (PV.int .i64 0) (Zc m)),PV.bool (Y2 (Sh.co Sh.str (List.getD (PV.cells (List.getD (List.map PV.str xs) (0+Int.toNat i) default)) 0 default)) (Zc m))]else Sh.co (Sh.int .i64) (ZK (Sh.co Sh.str (List.getD (PV.cells (List.getD (List.map PV.str xs) (0+Int.toNat i) default)) 0 default)) (PV.int .i64 0) (Zc m))]]))<=1099511627776))=true∧(Az YV E 2 (Zd 2 YG G) YA 0 58 [(0,(.ptr 0 0)),(2,(.ptr 2 0)),(4,(.ptr 3 0)),(33,(.row 4 l 0 l)),(34,(.pv (.int .i64 (↑l:Int)))),(35,(.pv (.int .i64 (IntKind.wrap IntKind.i64 (i+1)))))] [(.obj (.box [(.pv (.int .i64 n)),(.map 1)])),(.obj (.map (Zc m))),(.obj (.box [(.pv (.int .i64 0)),(.pv (.sl 0 true []))])),(.obj (.box [(.pv (.int .i64 n)),(.row 5 (q+List.length (List.drop 0 (List.take 1 [PV.agg [Sh.co Sh.str (List.getD (PV.cells (List.getD (List.map PV.str xs) (0+Int.toNat i) default)) 0 default),if false=true then PV.tup [Sh.co (Sh.int .i64) (ZK (Sh.co Sh.str (List.getD (PV.cells (List.getD (List.map PV.str xs) (0+Int.toNat i) default)) 0 default)) (PV.int .i64 0) (Zc m)),PV.bool (Y2 (Sh.co Sh.str (List.getD (PV.cells (List.getD (List.map PV.str xs) (0+Int.toNat i) default)) 0 default)) (Zc m))]else Sh.co (Sh.int .i64) (ZK (Sh.co Sh.str (List.getD (PV.cells (List.getD (List.map PV.str xs) (0+Int.toNat i) default)) 0 default)) (PV.int .i64 0) (Zc m))]]))) 0 (q+List.length (List.drop 0 (List.take 1 [PV.agg [Sh.co Sh.str (List.getD (PV.cells (List.getD (List.map PV.str xs) (0+Int.toNat i) default)) 0 default),if false=true then PV.tup [Sh.co (Sh.int .i64) (ZK (Sh.co Sh.str (List.getD (PV.cells (List.getD (List.map PV.str xs) (0+Int.toNat i) default)) 0 default)) (PV.int .i64 0) (Zc m)),PV.bool (Y2 (Sh.co Sh.str (List.getD (PV.cells (List.getD (List.map PV.str xs) (0+Int.toNat i) default)) 0 default)) (Zc m))]else Sh.co (Sh.int .i64) (ZK (Sh.co Sh.str (List.getD (PV.cells (List.getD (List.map PV.str xs) (0+Int.toNat i) default)) 0 default)) (PV.int .i64 0) (Zc m))]]))))])),(.obj (.row false 9 1 (List.map PV.str xs))),(.obj (.row false 61 2 (List.map enc ts++List.drop 0 (List.take 1 [PV.agg [Sh.co Sh.str (List.getD (PV.cells (List.getD (List.map PV.str xs) (0+Int.toNat i) default)) 0 default),if false=true then PV.tup [Sh.co (Sh.int .i64) (ZK (Sh.co Sh.str (List.getD (PV.cells (List.getD (List.map PV.str xs) (0+Int.toNat i) default)) 0 default)) (PV.int .i64 0) (Zc m)),PV.bool (Y2 (Sh.co Sh.str (List.getD (PV.cells (List.getD (List.map PV.str xs) (0+Int.toNat i) default)) 0 default)) (Zc m))]else Sh.co (Sh.int .i64) (ZK (Sh.co Sh.str (List.getD (PV.cells (List.getD (List.map PV.str xs) (0+Int.toNat i) default)) 0 default)) (PV.int .i64 0) (Zc m))]]))))])))))else((List.length (List.map enc ts)==q)=true∧((Go.Pl.preT (fun(x:Lin×Unit)=>Zt x.1) [(.agg [(.int .i64 n),(.sl 2 false (List.drop 0 (List.take q (List.map enc ts))))])])=true∧(∃ y0:Bool,AV.pv (Zj (fun(x:Lin×Unit)=>Zh x.1) [(.agg [(.int .i64 n),(.sl 2 false (List.drop 0 (List.take q (List.map enc ts))))])])=AV.pv (enc y0)∧(if (!y0)=true then G (((.tup [(.pv (.agg [(.int .i64 0),(.sl 0 true [])])),(.pv (.int .i64 3))]),([(.box [(.pv (.int .i64 n)),(.map 1)]),(.map (Zc m))],[])))else(G (((.tup [(.agg [(.pv (.int .i64 n)),(.row 2 q 0 q)]),(.pv (.int .i64 0))]),([(.box [(.pv (.int .i64 n)),(.map 1)]),(.map (Zc m))],[(.row true 61 2 (List.map enc ts))]))))))))):Az YV E 2 (Zd 2 YG G) YA 0 58 [(0,.ptr 0 0),(2,.ptr 2 0),(4,.ptr 3 0),(33,.row 4 l 0 l),(34,.pv (.int .i64 l)),(35,.pv (.int .i64 i))] [.obj (.box [.pv (.int .i64 n),.map 1]),.obj (.map (Zc m)),.obj (.box [.pv (.int .i64 0),.pv (.sl 0 true [])]),.obj (.box [.pv (.int .i64 n),.row 5 q 0 q]),.obj (.row false 9 1 (xs.map .str)),.obj (.row false 61 2 (ts.map enc))]:=Z7.mo (.lit (.ask (.req (.keep (.req (.req (.req (.keep (.lit (.lit (.req (.lit (.nil))))))))))) (.req (.req (.abs (Bool) (fun YY=>AV.pv (enc YY)) (.ask (.nil) (.nil))))))) h (by kernel_rfl)
theorem FZ{G:AV×List AObj×List AObj->Prop}(E:Y9)(n:Int)(m:List (Str×Int))(h:Az YV E 2 (Zd 2 YG G) YA 0 58 [(0,(.ptr 0 0)),(2,(.ptr 2 0)),(4,(.ptr 3 0)),(33,(.pv (.sl 0 true []))),(34,(.pv (.int .i64 0))),(35,(.pv (.int .i64 0)))] [(.obj (.box [(.pv (.int .i64 n)),(.map 1)])),(.obj (.map (Zc m))),(.obj (.box [(.pv (.int .i64 0)),(.pv (.sl 0 true []))])),(.obj (.box [(.pv (.int .i64 n)),(.pv (.sl 0 true []))]))]):NH YV E 2 (Zd 2 YG G) YA 0 .normal ⟨X0 58 0 [(0,.ptr 0 0),(2,.ptr 2 0),(4,.ptr 3 0),(5,.pv (.sl 0 true [])),(18,.map 1),(19,.ptr 4 0)],[.obj (.box [.pv (.int .i64 n),.map 1]),.obj (.map (Zc m)),.obj (.box [.pv (.int .i64 0),.pv (.sl 0 true [])]),.obj (.box [.pv (.int .i64 n),.pv (.sl 0 true [])]),.dead]⟩:=Z7.mo (.lit (.keep (.nil))) h (by kernel_rfl)
theorem FQ{G:AV×List AObj×List AObj->Prop}(E:Y9)(n:Int)(m:List (Str×Int))(l:Nat)(xs:List (List UInt8))(h:(YP [(.row 0 l 0 l)] [(.row false 9 1 (List.map PV.str xs))])=true∧(Az YV E 2 (Zd 2 YG G) YA 0 58 [(0,(.ptr 0 0)),(2,(.ptr 2 0)),(4,(.ptr 3 0)),(33,(.row 4 l 0 l)),(34,(.pv (.int .i64 (↑(l - 0):Int)))),(35,(.pv (.int .i64 0)))] [(.obj (.box [(.pv (.int .i64 n)),(.map 1)])),(.obj (.map (Zc m))),(.obj (.box [(.pv (.int .i64 0)),(.pv (.sl 0 true []))])),(.obj (.box [(.pv (.int .i64 n)),(.pv (.sl 0 true []))])),(.obj (.row false 9 1 (List.map PV.str (Yu (List.map JQ (List.map PV.str xs))))))])):NH YV E 2 (Zd 2 YG G) YA 0 .normal ⟨X0 58 0 [(0,.ptr 0 0),(2,.ptr 2 0),(4,.ptr 3 0),(5,.row 5 l 0 l),(18,.map 1),(19,.ptr 4 0)],[.obj (.box [.pv (.int .i64 n),.map 1]),.obj (.map (Zc m)),.obj (.box [.pv (.int .i64 0),.pv (.sl 0 true [])]),.obj (.box [.pv (.int .i64 n),.pv (.sl 0 true [])]),.dead,.obj (.row false 9 1 (xs.map .str))]⟩:=Z7.mo (.req (.keep (.nil))) h (by kernel_rfl)
end Go.Pl

namespace Go.Pl
open Go.RowKit
open Enc (enc dec is)
open EncL (encL decL isL)
def Zu(m:List (Str×Int))(xs:List (List UInt8)):List Coef:=xs.map fun s=>⟨⟨s⟩,Vh m s⟩
def KE(n:Int)(m:List (Str×Int))(l:List Coef):AV×List AObj×List AObj:=
 if Zh ⟨n,l⟩then
  if l.isEmpty then(.tup [.pv (.agg [.int .i64 n,.sl 0 true []]),.pv (.int .i64 0)],[.box [.pv (.int .i64 n),.map 1],.map (Zc m)],[])
  else(.tup [.agg [.pv (.int .i64 n),.row 2 l.length 0 l.length],.pv (.int .i64 0)],[.box [.pv (.int .i64 n),.map 1],.map (Zc m)],[.row true 61 2 (l.map enc)])
 else(.tup [.pv (.agg [.int .i64 0,.sl 0 true []]),.pv (.int .i64 3)],[.box [.pv (.int .i64 n),.map 1],.map (Zc m)],[])
theorem TA(n:Int)(m:List (Str×Int)){xs:List (List UInt8)}(hx:xs.length<=1000000)(hsx : ∀ x∈xs,x.length<=1000000):Zt ⟨n,Zu m xs⟩=true:=by
 simp only[Zt,Zy,Zu,List.length_map,Bool.and_eq_true,decide_eq_true_eq,List.all_eq_true,List.mem_map]
 refine⟨by omega,?_⟩
 rintro t ⟨x,hxm,rfl⟩
 exact hsx x hxm
theorem OM{E:Y9}(n:Int)(m:List (Str×Int))(xs:List (List UInt8))(hx:xs.length<=1000000)(hsx : ∀ x∈xs,x.length<=1000000): ∀ (j k:Nat),j+k=xs.length->0<k ->
  Az YV E 2 (Zd 2 YG fun r=>r=KE n m (Zu m xs)) YA 0 58 [(0,.ptr 0 0),(2,.ptr 2 0),(4,.ptr 3 0),(33,.row 4 xs.length 0 xs.length),(34,.pv (.int .i64 xs.length)),(35,.pv (.int .i64 k))]
   [.obj (.box [.pv (.int .i64 n),.map 1]),.obj (.map (Zc m)),.obj (.box [.pv (.int .i64 0),.pv (.sl 0 true [])]),.obj (.box [.pv (.int .i64 n),.row 5 k 0 k]),.obj (.row false 9 1 (xs.map .str)),.obj (.row false 61 2 ((Zu m (xs.take k)).map enc))]:=by
 intro j
 induction j with
 | zero=>
  intro k hk h0
  obtain rfl:k=xs.length:=by omega
  refine Sm E n m xs.length xs xs.length xs.length (Zu m (xs.take xs.length)) ?_
  rw[if_neg (by simp)]
  have e1:Zu m (xs.take xs.length)=Zu m xs:=by rw[List.take_length]
  rw[e1]
  have e2:List.drop 0 (List.take xs.length (List.map (enc:Coef->PV) (Zu m xs)))=(Zu m xs).map enc:=by rw[List.drop_zero,List.take_of_length_le (by simp[Zu])]
  rw[e2]
  refine⟨by simp[Zu],Zn (⟨n,Zu m xs⟩,()) rfl (TA n m hx hsx),Zl (⟨n,Zu m xs⟩,()) rfl ?_⟩
  have hne:(Zu m xs).isEmpty=false:=by cases xs <;> simp[Zu]at h0 ⊢
  by_cases hv:Zh ⟨n,Zu m xs⟩=true
  ·rw[if_neg (by simp[hv])]
   unfold KE
   rw[if_pos hv,hne]
   simp[Zu]
  ·rw[if_pos (by simpa using hv)]
   simp[KE,hv]
 | succ j ih=>
  intro k hk h0
  have hlt:k<xs.length:=by omega
  refine Sm E n m xs.length xs k k (Zu m (xs.take k)) ?_
  rw[if_pos (by simp;omega)]
  have eg:List.getD (List.map PV.str xs) (0+Int.toNat (k:Int)) default = .str xs[k]:=by simp[List.getD,hlt]
  rw[eg]
  have ec:Sh.co Sh.str (List.getD (PV.cells (.str xs[k])) 0 default) = .str xs[k]:=rfl
  rw[ec,Wz]
  refine⟨by simp;omega,by simp;omega,rfl,by rw[WB];rfl,?_,?_⟩
  ·simp[Zu];omega
  ·have h:=ih (k+1) (by omega) (by omega)
   have et:xs.take (k+1)=xs.take k++[xs[k]]:=by rw[List.take_add_one,List.getElem?_eq_getElem hlt];rfl
   rw[et]at h
   rw[next (by omega)]
   simp only[Zu,List.map_append,List.map_cons,List.map_nil]at h ⊢
   exact h
def TJ:MapParts:=⟨[⟨(some 15),(.mv (.t 0)),0,none⟩,⟨(some 16),(.nilchk (.t 15)),0,none⟩,⟨(some 17),(.faddr 1 (.t 16)),0,none⟩,⟨(some 18),(.load false [.any] (.t 17)),0,none⟩],.t 18,19,20,21,22,1,[⟨(some 23),(.extract (.t 22) 0),0,none⟩,⟨(some 24),(.extract (.t 22) 1),0,none⟩,⟨(some 6),(.mv (.t 23)),0,none⟩,⟨(some 7),(.mv (.t 24)),0,none⟩],We⟩
def Bq:Y9:=fun nn st q=>nn=0∧a7h YV 2 TJ st q
def kz(vis:List (PV×PV)):List (List UInt8):=vis.filterMap fun p=>match p with|(.str s,.int _ c)=>if c=0 then none else some s|_=>none
def XB(m:List (Str×Int)):List (List UInt8):=Yu (kz (Zc m))
def a6q(n:Int):ZA:=[.obj (.box [.pv (.int .i64 n),.map 1]),.dead,.obj (.box [.pv (.int .i64 0),.pv (.sl 0 true [])]),.obj (.box [.pv (.int .i64 n),.pv (.sl 0 true [])]),.dead]
def BU(x:AV):List AV:=X0 58 0 [(0,.ptr 0 0),(2,.ptr 2 0),(4,.ptr 3 0),(5,x),(18,.map 1),(19,.ptr 4 0)]
def a7q(n:Int)(vis:List (PV×PV))(s:St):Prop:=
 (kz vis=[]∧s=⟨BU (.pv (.sl 0 true [])),a6q n⟩)∨(kz vis≠[]∧s=⟨BU (.row 5 (kz vis).length 0 (kz vis).length),a6q n++[.obj (.row false 9 1 ((kz vis).map .str))]⟩)
theorem GU{a b:List (List UInt8)}(h:a.Perm b):Yu a=Yu b:=by
 have tr : ∀ x y z:List UInt8,decide (x<=y)=true->decide (y<=z)=true->decide (x<=z)=true:=fun x y z h k=>by simp only[decide_eq_true_eq]at *;exact List.le_trans h k
 have to : ∀ x y:List UInt8,(decide (x<=y)||decide (y<=x))=true:=fun x y=>by simp only[Bool.or_eq_true,decide_eq_true_eq];exact List.le_total x y
 refine List.Perm.eq_of_pairwise (le:=fun x y=>decide (x<=y)=true) (fun x y _ _ h1 h2=> ?_) (List.pairwise_mergeSort tr to a) (List.pairwise_mergeSort tr to b) (((List.mergeSort_perm a _).trans h).trans (List.mergeSort_perm b _).symm)
 simp only[decide_eq_true_eq]at h1 h2
 exact List.le_antisymm h1 h2
theorem M4(n:Int)(vis:List (PV×PV))(s:List UInt8)(c:Int)(st:St)(hl:(kz vis).length<1000000)(h:a7q n vis st):
  ∃ s2,Uj YV st.heap.length TJ.psE (grow ⟨((st.env.set 20 .junk).set 21 .junk).set 22 (.pv (.tup [.str s,.int .i64 c])),st.heap⟩ (news TJ.psE))=some s2∧ ∃ F',(∀ x,¬ F' x) ∧
   Z7 YV (fun n' S' _=>n'=99∧a7q n (vis++[(.str s,.int .i64 c)]) S') st.heap.length F' (.inl We) [.blk 1,.seq (.ext 99 [0,2,4,5,18,19])] s2:=by
 have hno : ∀ k,∀ x,¬ Zd k VF (fun _=>False) x:=by rintro k x ⟨r,_,h⟩;exact h
 have ek:kz (vis++[(.str s,.int .i64 c)])=kz vis++(if c=0 then []else [s]):=by
  unfold kz
  rw[List.filterMap_append]
  by_cases hc:c=0 <;> simp[hc]
 rcases h with ⟨h1,rfl⟩|⟨h1,rfl⟩
 ·refine⟨_,by kernel_rfl,_,hno 5,EN (G:=fun _=>False) _ n s c ?_⟩
  by_cases hc:c=0
  ·rw[if_neg (by simp[hc])]
   refine⟨rfl,.inl ⟨by rw[ek,h1];simp[hc],rfl⟩⟩
  ·rw[if_pos (by simpa using hc)]
   refine⟨rfl,.inr ⟨by rw[ek,h1];simp[hc],?_⟩⟩
   rw[ek,h1]
   simp[hc]
   exact⟨rfl,rfl⟩
 ·refine⟨_,by kernel_rfl,_,hno 6,F5 (G:=fun _=>False) _ n s c (kz vis).length (kz vis) ?_⟩
  by_cases hc:c=0
  ·rw[if_neg (by simp[hc])]
   refine⟨rfl,.inr ⟨by rw[ek];simp[hc,h1],?_⟩⟩
   rw[ek]
   simp[hc]
   exact⟨rfl,rfl⟩
  ·rw[if_pos (by simpa using hc)]
   refine⟨by simp;omega,rfl,.inr ⟨by rw[ek];simp[hc],?_⟩⟩
   rw[ek]
   simp[hc]
   exact⟨rfl,rfl⟩
theorem M9{E:Y9}(n:Int)(m:List (Str×Int))(xs:List (List UInt8))(hx:xs.length<=1000000)(hsx : ∀ x∈xs,x.length<=1000000)(h0:0<xs.length):
  Az YV E 2 (Zd 2 YG fun r=>r=KE n m (Zu m xs)) YA 0 58 [(0,.ptr 0 0),(2,.ptr 2 0),(4,.ptr 3 0),(33,.row 4 xs.length 0 xs.length),(34,.pv (.int .i64 xs.length)),(35,.pv (.int .i64 0))]
   [.obj (.box [.pv (.int .i64 n),.map 1]),.obj (.map (Zc m)),.obj (.box [.pv (.int .i64 0),.pv (.sl 0 true [])]),.obj (.box [.pv (.int .i64 n),.pv (.sl 0 true [])]),.obj (.row false 9 1 (xs.map .str))]:=by
 refine a1p E n m xs.length xs 0 ?_
 rw[if_pos (by simp;omega)]
 have eg:List.getD (List.map PV.str xs) (0+Int.toNat (0:Int)) default = .str xs[0]:=by simp[List.getD,h0]
 rw[eg]
 have ec:Sh.co Sh.str (List.getD (PV.cells (.str xs[0])) 0 default) = .str xs[0]:=rfl
 rw[ec,Wz]
 refine⟨by simp;omega,by simp;omega,rfl,by rw[WB];rfl,?_⟩
 have h:=OM (E:=E) n m xs hx hsx (xs.length - 1) 1 (by omega) (by omega)
 have et:xs.take 1=[xs[0]]:=by cases xs <;> simp at h0 ⊢
 rw[et]at h
 exact h
theorem EL(n:Int)(m:List (Str×Int))(hm:m.length<1000000)(hkm : ∀ x∈XB m,x.length<=1000000):
  QM YV Bq 2 (Zd 2 YG fun r=>r=KE n m (Zu m (XB m))) YA [] (Yk 58 [.ptr 0 0] [.box [.pv (.int .i64 n),.map 1],.map (Zc m)]):=by
 refine a7a Bq n m ?_
 have elen : ∀ x,(BU x).length=58:=fun x=>rfl
 refine⟨rfl,⟨((((X0 58 0 [(0,.ptr 0 0),(2,.ptr 2 0),(4,.ptr 3 0),(5,.pv (.sl 0 true [])),(6,.undef),(7,.undef),(15,.undef),(16,.undef),(17,.undef),(18,.undef),(19,.undef),(20,.undef),(21,.undef),(22,.undef),(23,.undef),(24,.undef),(25,.undef),(26,.undef),(27,.undef),(28,.undef),(29,.undef),(30,.undef)]).set 15 (.ptr 0 0)).set 16 (.ptr 0 0)).set 17 (.ptr 0 1)).set 18 (.map 1),
   [.obj (.box [.pv (.int .i64 n),.map 1]),.obj (.map (Zc m)),.obj (.box [.pv (.int .i64 0),.pv (.sl 0 true [])]),.obj (.box [.pv (.int .i64 n),.pv (.sl 0 true [])])]⟩,⟨BU (.pv (.sl 0 true [])),a6q n⟩,1,4,18,1,Zc m,[0,2,4,5,18,19],[0,2,4,5,18,19],a7q n,by kernel_rfl,rfl,rfl,by kernel_rfl,rfl,by decide,rfl,.inl ⟨rfl,rfl⟩,?_,?_,?_⟩
 ·intro vis s h
  rcases h with ⟨_,rfl⟩|⟨_,rfl⟩
  ·exact⟨⟨rfl,by show 20<_;rw[elen];omega,by show 21<_;rw[elen];omega,by show 22<_;rw[elen];omega⟩,rfl⟩
  ·exact⟨⟨rfl,by show 20<_;rw[elen];omega,by show 21<_;rw[elen];omega,by show 22<_;rw[elen];omega⟩,rfl⟩
 ·intro vis kv s rest hp hI
  have hin:kv∈Zc m:=hp.mem_iff.2 (by simp)
  obtain⟨p,_,rfl⟩:=List.mem_map.1 hin
  have hl:=hp.length_eq
  simp[Zc]at hl
  have hk:(kz vis).length<=vis.length:=List.length_filterMap_le _ _
  exact M4 n vis p.1.s p.2 s (by omega) hI
 ·intro vis s hp hI
  have hpk:(kz vis).Perm (kz (Zc m)):=hp.filterMap _
  have hs:Yu (kz vis)=XB m:=GU hpk
  have hkl:(kz vis).length<=1000000:=by
   have h1:(kz vis).length<=vis.length:=List.length_filterMap_le _ _
   have h2:=hp.length_eq
   simp[Zc]at h2
   omega
  rcases hI with ⟨h1,rfl⟩|⟨h1,rfl⟩
  ·refine FZ Bq n m ?_
   have hn:XB m=[]:=by rw[<- hs,h1];simp[Yu]
   rw[hn]
   refine Eo Bq n m 0 ?_
   rw[if_neg (by simp)]
   refine Jc (⟨n,[]⟩,()) (by simp) ?_
   by_cases hv:Zh ⟨n,[]⟩=true
   ·rw[if_neg (by simp[hv])]
    simp[KE,Zu,hv]
   ·rw[if_pos (by simpa using hv)]
    simp[KE,Zu,hv]
  ·refine FQ Bq n m (kz vis).length (kz vis) ?_
   have e1:List.map JQ (List.map PV.str (kz vis))=kz vis:=by rw[List.map_map];exact List.map_id _
   rw[e1,hs]
   have e2:(XB m).length=(kz vis).length:=by rw[<- hs];exact(List.mergeSort_perm _ _).length_eq
   refine⟨?_,?_⟩
   ·simp[YP,G5]
    omega
   ·have:=M9 (E:=Bq) n m (XB m) (by omega) hkm (by rw[e2];exact List.length_pos_iff.2 h1)
    rw[e2]at this
    simpa using this
end Go.Pl

namespace Go.Pl
open Go.RowKit
open Enc (enc dec is)
open EncL (encL decL isL)
def a7j(n:Int)(m:List (Str×Int)):AV×List AObj×List AObj:=(.tup [],[.box [.pv (.int .i64 n),.map 1],.map (Zc m)],[])
theorem Mx(n:Int)(l:Lin)(k:Int)(hl:l.t.length<=1000000): ∀ (j i:Nat) (m:List (Str×Int)),j+i=l.t.length ->
  At U7 2 (Zd 2 VM fun r=>r=a7j n (Y0 k (l.t.drop i) m)) VL 0 39 [(0,.ptr 0 0),(2,.pv (.int .i64 k)),(20,.pv (enc l.t)),(21,.pv (.int .i64 l.t.length)),(22,.pv (.int .i64 i))] [.obj (.box [.pv (.int .i64 n),.map 1]),.obj (.map (Zc m))]:=by
 intro j
 induction j with
 | zero=>
  intro i m hi
  refine NC n m l k i ?_
  rw[if_neg (by simp;omega),List.drop_of_length_le (by omega)]
  rfl
 | succ j ih=>
  intro i m hi
  have hlt:i<l.t.length:=by omega
  refine NC n m l k i ?_
  rw[if_pos (by simp;omega)]
  refine⟨by simp[Enc.sz];omega,l.t[i],by simp[List.getD,hlt],?_⟩
  have ec:Sh.co Sh.str (List.getD (PV.cells (enc l.t[i])) 0 default) = .str l.t[i].v.s:=rfl
  rw[ec,Wz]
  have ev:PV.asInt (List.getD (PV.cells (enc l.t[i])) (0+1) default)=l.t[i].c:=rfl
  have ea:PV.asInt (.int .i64 (Vh m l.t[i].v.s))=Vh m l.t[i].v.s:=rfl
  rw[ev,ea]
  have eu:=Hw l.t[i].v (IntKind.i64.wrap (Vh m l.t[i].v.s+IntKind.i64.wrap (k*l.t[i].c))) m
  refine⟨by rw[WB];rfl,?_,?_⟩
  ·show(upd _ _ _).isSome=true
   exact(congrArg Option.isSome eu).trans rfl
  ·have h:=ih (i+1) (WY l.t[i].v (IntKind.i64.wrap (Vh m l.t[i].v.s+IntKind.i64.wrap (k*l.t[i].c))) m) (by omega)
   rw[next (by omega)]
   have ed:l.t.drop i=l.t[i]::l.t.drop (i+1):=List.drop_eq_getElem_cons hlt
   rw[ed]
   have e2:J3 (.str l.t[i].v.s) (.int .i64 (IntKind.i64.wrap (Vh m l.t[i].v.s+IntKind.i64.wrap (k*l.t[i].c)))) (Zc m)=Zc (WY l.t[i].v (IntKind.i64.wrap (Vh m l.t[i].v.s+IntKind.i64.wrap (k*l.t[i].c))) m):=by
    unfold J3
    rw[eu]
    rfl
   rw[<- e2]at h
   exact h
theorem OH(n:Int)(m:List (Str×Int))(l:Lin)(k:Int)(hl:l.t.length<=1000000):
  Zi U7 2 (Zd 2 VM fun r=>r=a7j (IntKind.i64.wrap (n+IntKind.i64.wrap (k*l.k))) (Y0 k l.t m)) VL [] (Yk 39 [.ptr 0 0,.pv (enc l),.pv (.int .i64 k)] [.box [.pv (.int .i64 n),.map 1],.map (Zc m)]):=by
 refine a7f n m l k ?_
 have h:=Mx (IntKind.i64.wrap (n+IntKind.i64.wrap (k*l.k))) l k hl l.t.length 0 m rfl
 rw[List.drop_zero]at h
 have e:List.length (List.map (enc:Coef->PV) l.t)=l.t.length:=by simp
 rw[e]
 exact h
end Go.Pl

namespace Go.Pl
open Go.RowKit
open Enc (enc dec is)
open EncL (encL decL isL)
set_option maxRecDepth 100000
end Go.Pl

namespace Go.Pl
open Go.RowKit
open Enc (enc dec is)
open EncL (encL decL isL)
end Go.Pl

namespace Go.Pl
open Go.RowKit
open Enc (enc dec is)
open EncL (encL decL isL)
set_option maxRecDepth 100000
end Go.Pl

namespace Go.Pl
open Go.RowKit
open Enc (enc dec is)
open EncL (encL decL isL)
end Go.Pl

namespace Go.Pl
open Go.RowKit
open Enc (enc dec is)
open EncL (encL decL isL)
def ZX(es:List (PV×PV)):List (Str×Int):=es.map fun p=>(⟨JQ p.1⟩,p.2.asInt)
def b1a:PV×PV->Bool
 | (.str _,.int .i64 _)=>true
 | _=>false
def Jl(es:List (PV×PV)):Bool:=es.all b1a
theorem Yh(m:List (Str×Int)):ZX (Zc m)=m:=by
 simp only[ZX,Zc,List.map_map]
 exact List.map_id _
theorem Us(m:List (Str×Int)):Jl (Zc m)=true:=by
 simp only[Jl,Zc,List.all_map,List.all_eq_true]
 intro p _
 rfl
theorem UA: ∀ {es:List (PV×PV)},Jl es=true-> ∃ m,es=Zc m
 | [],_=>⟨[],rfl⟩
 | (a,b)::es,h=>by
  simp only[Jl,List.all_cons,Bool.and_eq_true]at h
  obtain⟨m,rfl⟩:=UA (es:=es) h.2
  match a,b,h.1 with
  | .str s,.int .i64 n,_=>exact⟨(⟨s⟩,n)::m,rfl⟩
def QP(m:List (Str×Int)):Bool:=decide (m.length<1000000)&&(ZQ m).all fun x=>decide (x.length<=1000000)
def YI:List AV->List AObj->Bool
 | [.ptr 0 0],[.box [.pv (.int .i64 n),.map 1],.map es]=>Jl es&&QP (ZX es)
 | _,_=>false
def KZ:List AV->List AObj->AV×List AObj×List AObj
 | _,[.box [.pv (.int .i64 n),.map 1],.map es]=>(.pv (enc (Xo n (ZX es))),[.box [.pv (.int .i64 n),.map 1],.map es],[])
 | _,_=>Wm
def WJ:List AV->List AObj->Bool
 | [.ptr 0 0,.pv l,.pv (.int .i64 k)],[.box [.pv (.int .i64 n),.map 1],.map es]=>Jl es&&FE Lin l&&decide ((dec l:Lin).t.length<=1000000)
 | _,_=>false
def a7x(n:Int)(es:List (PV×PV))(l:Lin)(k:Int):AV×List AObj×List AObj:=(.tup [],[.box [.pv (.int .i64 (Yb (n+Yb (k*l.k)))),.map 1],.map (Zc (Y0 k l.t (ZX es)))],[])
def KN:List AV->List AObj->AV×List AObj×List AObj
 | [_,.pv l,.pv (.int .i64 k)],[.box [.pv (.int .i64 n),.map 1],.map es]=>a7x n es (dec l) k
 | _,_=>Wm
def Yw(a b:Lin)(k:Int):Lin×Int:=if Zh a then(if Zh b then Xo (Yb (Yb (0+Yb (1*a.k))+Yb (k*b.k))) (Y0 k b.t (Y0 1 a.t []))else(⟨0,[]⟩,1))else(⟨0,[]⟩,1)
mutual
def cSm:Cert->Bool
 | .mk _ m l ks=>decide (m.length<=9223372036854775807)&&Zt l&&decide (ks.length<=9223372036854775807)&&Fh ks
def Fh:List Cert->Bool
 | []=>true
 | c::cs=>cSm c&&Fh cs
end
mutual
theorem a7n: ∀ {c:Cert},cSm c=true->cOk c=true
 | .mk k m l ks,h=>by
  simp only[cSm,cOk,Zt,Bool.and_eq_true]at h ⊢
  exact⟨⟨⟨h.1.1.1,h.1.1.2.1⟩,h.1.2⟩,NW h.2⟩
theorem NW: ∀ {cs:List Cert},Fh cs=true->Mo cs=true
 | [],_=>rfl
 | c::cs,h=>by
  simp only[Fh,Mo,Bool.and_eq_true]at h ⊢
  exact⟨a7n h.1,NW h.2⟩
end
theorem Wl{s:Str}(h:Zq s=true):s.s.length<=30:=by
 unfold Zq at h
 split at h
 ·cases h
 ·rename_i c r hs
  rw[hs]
  split at h
  ·simp only[Bool.and_eq_true,decide_eq_true_eq]at h
   have:=h.2
   simp only[List.length_cons]
   omega
  ·simp only[Bool.and_eq_true,decide_eq_true_eq]at h
   have:=h.2
   simp only[List.length_cons]
   omega
theorem YK{l:Lin}(h:Zh l=true):l.t.length<=12:=by
 simp only[Zh,Bool.and_eq_true,decide_eq_true_eq]at h
 exact h.2
theorem Yf{l:Lin}(h:Zh l=true){t:Coef}(ht:t∈l.t):Zq t.v=true∧t.c≠0∧ -1000000<=t.c∧t.c<=1000000:=by
 simp only[Zh,Bool.and_eq_true,decide_eq_true_eq,List.all_eq_true]at h
 have:=h.1.1.1 t ht
 simp only[Z5,Bool.and_eq_true,decide_eq_true_eq]at this
 exact⟨this.1.1,this.1.2,this.2⟩
theorem KV{l:Lin}(h:Zh l=true): -1000000<=l.k∧l.k<=1000000:=by
 simp only[Zh,Z5,Bool.and_eq_true,decide_eq_true_eq]at h
 exact h.1.2
theorem Oa{l:Lin}(h:Zh l=true):Zt l=true:=by
 have h1:=YK h
 simp only[Zt,Zy,Bool.and_eq_true,decide_eq_true_eq,List.all_eq_true]
 refine⟨by omega,fun t ht=> ?_⟩
 have:=Wl (Yf h ht).1
 omega
theorem QA(k:Int): ∀ (l:List Coef) (m:List (Str×Int)) (x:List UInt8),x∈ZQ (Y0 k l m)->x∈ZQ m ∨ ∃ t∈l,t.v.s=x
 | [],m,x,h=>.inl h
 | t::l,m,x,h=>by
  rw[Y0]at h
  rcases QA k l _ x h with h|⟨u,hu,rfl⟩
  ·rcases Ui t.v (IntKind.i64.wrap (Vh m t.v.s+IntKind.i64.wrap (k*t.c))) m with e|⟨_,e⟩
   ·rw[e]at h;exact .inl h
   ·rw[e,List.mem_append]at h
    rcases h with h|h
    ·exact .inl h
    ·exact .inr ⟨t,by simp,(List.mem_singleton.1 h).symm⟩
  ·exact .inr ⟨u,by simp[hu],rfl⟩
end Go.Pl

namespace Go.Pl
open Go.RowKit
open Enc (enc dec is)
open EncL (encL decL isL)
theorem Vz{n:Int}(h1 : -9223372036854775808<=n)(h2:n<=9223372036854775807):Yb n=n:=QR h1 h2
end Go.Pl

namespace Go.Pl
open Go.RowKit
open Enc (enc dec is)
open EncL (encL decL isL)
theorem a4n: ∀ args os,WJ args os=true->Zi U7 os.length (Zd os.length VM fun r=>r=KN args os) VL [] (Yk a5m args os):=by
 intro args os h
 unfold WJ at h
 split at h
 ·rename_i l k n es
  simp only[Bool.and_eq_true,decide_eq_true_eq]at h
  obtain⟨⟨h1,h2⟩,h3⟩:=h
  obtain⟨m,rfl⟩:=UA h1
  obtain⟨l,rfl⟩:=Af h2
  rw[Enc.dec_enc]at h3
  have hv:KN [.ptr 0 0,.pv (enc l),.pv (.int .i64 k)] [.box [.pv (.int .i64 n),.map 1],.map (Zc m)]=a7j (IntKind.i64.wrap (n+IntKind.i64.wrap (k*l.k))) (Y0 k l.t m):=by
   show a7x n (Zc m) (dec (enc l)) k=_
   rw[Enc.dec_enc,a7x,Yh]
   rfl
  rw[hv]
  exact OH n m l k h3
 ·cases h
theorem Bf: ∀ m:List (Str×Int),kz (Zc m)=ZQ (nzM m)
 | []=>rfl
 | (s,c)::m=>by
  have ih:=Bf m
  simp only[kz,Zc,ZQ,nzM]at ih ⊢
  by_cases h:c=0
  ·subst h
   simp[ih]
  ·simp[h,ih]
theorem JU(m:List (Str×Int)):Zu m (XB m)=YC m:=by
 unfold Zu XB YC
 rw[Bf]
 rfl
def Ug:List AV->List AObj->AV×List AObj×List AObj
 | _,[.box [.pv (.int .i64 n),.map 1],.map es]=>KE n (ZX es) (YC (ZX es))
 | _,_=>Wm
theorem EO: ∀ args os,YI args os=true->QM YV Bq os.length (Zd os.length YG fun r=>r=Ug args os) YA [] (Yk a3j args os):=by
 intro args os h
 unfold YI at h
 split at h
 ·rename_i n es
  simp only[Bool.and_eq_true,QP,decide_eq_true_eq,List.all_eq_true]at h
  obtain⟨h1,h2,h3⟩:=h
  obtain⟨m,rfl⟩:=UA h1
  rw[Yh]at h2 h3
  have hv:Ug [.ptr 0 0] [.box [.pv (.int .i64 n),.map 1],.map (Zc m)]=KE n m (Zu m (XB m)):=by
   show KE n (ZX (Zc m)) (YC (ZX (Zc m)))=_
   rw[Yh,JU]
  rw[hv]
  refine EL n m h2 fun x hx=>h3 x ?_
  have hx:x∈kz (Zc m):=(List.mergeSort_perm _ _).mem_iff.1 hx
  rw[Bf]at hx
  obtain⟨p,hp,rfl⟩:=List.mem_map.1 hx
  exact List.mem_map.2 ⟨p,(List.mem_filter.1 hp).1,rfl⟩
 ·cases h
theorem Ew: ∀ args os,YI args os=true->(Ug args os).2.1.length=os.length:=by
 intro args os h
 unfold YI at h
 split at h
 ·show(KE _ _ _).2.1.length=_
  unfold KE
  split
  ·split <;> rfl
  ·rfl
 ·cases h
theorem Qv(n c:Int):Sub (.tup [.agg [.int .i64 n,.sl 0 true []],.int .i64 c]) (enc (((⟨n,[]⟩:Lin),c):Lin×Int)):=.pair (.agg_cons (.refl _) (.agg_cons (Sub.sl0 _ _ _) .agg_nil)) (.refl _)
theorem a3b{P:Program}{f:Nat}(h:ZV P f YI Ug):ZV P f YI KZ:=by
 refine h.frz fun args os hp=> ?_
 unfold YI at hp
 split at hp
 ·rename_i n es
  have hv:Ug [.ptr 0 0] [.box [.pv (.int .i64 n),.map 1],.map es]=KE n (ZX es) (YC (ZX es)):=rfl
  have hv':KZ [.ptr 0 0] [.box [.pv (.int .i64 n),.map 1],.map es]=(.pv (enc (Xo n (ZX es))),[.box [.pv (.int .i64 n),.map 1],.map es],[]):=rfl
  simp only[Bool.and_eq_true]at hp
  obtain⟨m,rfl⟩:=UA hp.1
  rw[hv,hv',Yh]
  unfold KE Xo
  generalize YC m=l
  by_cases hl:Zh ⟨n,l⟩=true
  ·rw[if_pos hl,if_pos hl]
   by_cases hz:l.isEmpty=true
   ·rw[if_pos hz]
    obtain rfl:l=[]:=by simpa using hz
    exact⟨_,_,_,_,_,_,_,_,rfl,rfl,rfl,Qv n 0,rfl⟩
   ·rw[if_neg hz]
    refine⟨_,_,_,.tup [.agg [.int .i64 n,.sl 2 false (l.map enc)],.int .i64 0],[.obj (.box [.pv (.int .i64 n),.map 1]),.obj (.map (Zc m)),.obj (.row true 61 2 (l.map enc))],_,_,_,rfl,?_,rfl,.refl _,rfl⟩
    have e:List.drop 0 (List.take l.length (List.map (enc:Coef->PV) l))=l.map enc:=by rw[List.drop_zero,List.take_of_length_le (by simp)]
    simp only[frz,V8,HM.run_bind,Yg,List.map_cons,List.map_nil,List.cons_append,List.nil_append]
    simp[HM.run,HM.req]
    exact List.take_of_length_le (by simp)
  ·rw[if_neg hl,if_neg hl]
   exact⟨_,_,_,_,_,_,_,_,rfl,rfl,rfl,Qv 0 3,rfl⟩
 ·cases hp
end Go.Pl

namespace Go.Pl
open Go.RowKit
open Enc (enc dec is)
open EncL (encL decL isL)
set_option maxRecDepth 100000
end Go.Pl

namespace Go.Pl
open Go.RowKit
open Enc (enc dec is)
open EncL (encL decL isL)
end Go.Pl

namespace Go.Pl
open Go.RowKit
open Enc (enc dec is)
open EncL (encL decL isL)
set_option maxRecDepth 100000
def QS:IC:=(.seq (.reg [⟨(some 3),(.box 2 (.t 0)),0,none⟩,⟨(some 4),(.box 2 (.t 1)),1,none⟩,⟨(some 6),(.alloc (.agg [(.int .i64 0),(.sl 0 true [])])),2,none⟩,⟨(some 7),(.mv (.c (.int .i64 0))),3,none⟩] none) (.seq (.seq (.reg [⟨(some 9),(.load true [(.int .i64),(.sl 2)] (.t 3)),0,none⟩,⟨(some 10),(.call (.c (.fn 73)) [(.t 9)]),0,none⟩,⟨(some 11),(.un .not (.t 10)),2,none⟩,⟨(some 12),(.mv (.t 11)),2,none⟩,⟨(some 13),(.load true [(.int .i64),(.sl 2)] (.t 4)),2,(some (12,false))⟩,⟨(some 14),(.call (.c (.fn 73)) [(.t 13)]),2,(some (12,false))⟩,⟨(some 15),(.un .not (.t 14)),4,(some (12,false))⟩,⟨(some 16),(.pick (.t 12) (.c (.bool true)) (.t 15)),4,none⟩] none) (.cond (.t 16) (.seq (.reg [⟨(some 17),(.build [(.int .i64 0),(.sl 0 true [])] []),0,none⟩,⟨none,(.store 2 (.t 6) (.t 17)),0,none⟩,⟨(some 7),(.mv (.c (.int .i64 1))),0,none⟩] none) .ret) .skip)) (.seq (.reg [⟨(some 18),.mkmap,0,none⟩,⟨(some 19),(.build [(.int .i64 0),.nilmap] [(1,(1,(.t 18)))]),1,none⟩,⟨(some 8),(.alloc (.agg [(.int .i64 0),.nilmap])),1,none⟩,⟨none,(.store 2 (.t 8) (.t 19)),2,none⟩] none) (.seq (.reg [⟨(some 20),(.load true [(.int .i64),(.sl 2)] (.t 3)),0,none⟩,⟨(some 21),(.call (.c (.fn 114)) [(.t 8),(.t 20),(.c (.int .i64 1))]),0,none⟩] none) (.seq (.reg [⟨(some 22),(.load true [(.int .i64),(.sl 2)] (.t 4)),0,none⟩,⟨(some 23),(.mv (.t 2)),0,none⟩,⟨(some 24),(.call (.c (.fn 114)) [(.t 8),(.t 22),(.t 23)]),0,none⟩] none) (.seq (.reg [⟨(some 25),(.call (.c (.fn 82)) [(.t 8)]),0,none⟩,⟨(some 26),(.extract (.t 25) 0),2,none⟩,⟨(some 27),(.extract (.t 25) 1),2,none⟩,⟨none,(.store 2 (.t 6) (.t 26)),2,none⟩,⟨(some 7),(.mv (.t 27)),2,none⟩] none) .ret))))))
def QY:List IRes:=[(.cell true 2 6),(.tmp 7)]
abbrev RZ:Nat:=28
def K9:ZI:=WL [(73,.pure (preT (fun x:Lin×Unit=>Zt x.1)) (Zj (fun x:Lin×Unit=>Zh x.1))),(114,.own WJ KN),(82,.own YI KZ)]
theorem Fp{G:PV->Prop}(a b:Lin)(k:Int)(h:(Go.Pl.preT (fun(x:Lin×Unit)=>Zt x.1) [(.agg [(.int .i64 a.k),(.sl 2 false (List.map enc a.t))])])=true∧(∃ y0:Bool,AV.pv (Zj (fun(x:Lin×Unit)=>Zh x.1) [(.agg [(.int .i64 a.k),(.sl 2 false (List.map enc a.t))])])=AV.pv (enc y0)∧(if (!y0)=true then G ((.tup [(.agg [(.int .i64 0),(.sl 0 true [])]),(.int .i64 1)]))else((Go.Pl.preT (fun(x:Lin×Unit)=>Zt x.1) [(.agg [(.int .i64 b.k),(.sl 2 false (List.map enc b.t))])])=true∧(∃ y1:Bool,AV.pv (Zj (fun(x:Lin×Unit)=>Zh x.1) [(.agg [(.int .i64 b.k),(.sl 2 false (List.map enc b.t))])])=AV.pv (enc y1)∧(if (!y1)=true then G ((.tup [(.agg [(.int .i64 0),(.sl 0 true [])]),(.int .i64 1)]))else((WJ [(.ptr 0 0),(.pv (.agg [(.int .i64 a.k),(.sl 2 false (List.map enc a.t))])),(.pv (.int .i64 1))] [(.box [(.pv (.int .i64 0)),(.map 1)]),(.map [])])=true∧((WJ [(.ptr 0 0),(.pv (.agg [(.int .i64 b.k),(.sl 2 false (List.map enc b.t))])),(.pv (.int .i64 k))] [(.box [(.pv (.int .i64 (Yb (0+Yb (1*Lin.k (dec (PV.agg [enc a.k,enc a.t]))))))),(.map 1)]),(.map (Zc (Y0 1 (Lin.t (dec (PV.agg [enc a.k,enc a.t]))) (ZX []))))])=true∧((YI [(.ptr 0 0)] [(.box [(.pv (.int .i64 (Yb (Yb (0+Yb (1*Lin.k (dec (PV.agg [enc a.k,enc a.t]))))+Yb (k*Lin.k (dec (PV.agg [enc b.k,enc b.t]))))))),(.map 1)]),(.map (Zc (Y0 k (Lin.t (dec (PV.agg [enc b.k,enc b.t]))) (ZX (Zc (Y0 1 (Lin.t (dec (PV.agg [enc a.k,enc a.t]))) (ZX [])))))))])=true∧(G ((.tup [(.agg [(.int .i64 (Lin.k (Prod.fst (Xo (Yb (Yb (0+Yb (1*Lin.k (dec (PV.agg [enc a.k,enc a.t]))))+Yb (k*Lin.k (dec (PV.agg [enc b.k,enc b.t]))))) (ZX (Zc (Y0 k (Lin.t (dec (PV.agg [enc b.k,enc b.t]))) (ZX (Zc (Y0 1 (Lin.t (dec (PV.agg [enc a.k,enc a.t]))) (ZX []))))))))))),(.sl 2 false (List.map enc (Lin.t (Prod.fst (Xo (Yb (Yb (0+Yb (1*Lin.k (dec (PV.agg [enc a.k,enc a.t]))))+Yb (k*Lin.k (dec (PV.agg [enc b.k,enc b.t]))))) (ZX (Zc (Y0 k (Lin.t (dec (PV.agg [enc b.k,enc b.t]))) (ZX (Zc (Y0 1 (Lin.t (dec (PV.agg [enc a.k,enc a.t]))) (ZX []))))))))))))]),(.int .i64 (Prod.snd (Xo (Yb (Yb (0+Yb (1*Lin.k (dec (PV.agg [enc a.k,enc a.t]))))+Yb (k*Lin.k (dec (PV.agg [enc b.k,enc b.t]))))) (ZX (Zc (Y0 k (Lin.t (dec (PV.agg [enc b.k,enc b.t]))) (ZX (Zc (Y0 1 (Lin.t (dec (PV.agg [enc a.k,enc a.t]))) (ZX []))))))))))])))))))))))):Zi K9 0 (Ze QY G) QS [] (Xw 28 [enc a,enc b,enc k]):=Zi.tp (.req (.abs (Bool) (fun YY=>AV.pv (enc YY)) (.ask (.lit (.lit (.lit (.lit (.nil))))) (.lit (.req (.abs (Bool) (fun YY=>AV.pv (enc YY)) (.lit (.lit (.ask (.nil) (.req (.keep (.req (.keep (.req (.keep (.nil)))))))))))))))) h (by kernel_rfl)
def Gq:IC:=(.seq (.reg [⟨(some 2),(.box 2 (.t 0)),0,none⟩,⟨(some 3),(.box 2 (.t 1)),1,none⟩,⟨(some 4),(.alloc (.agg [(.int .i64 0),(.sl 0 true [])])),2,none⟩,⟨(some 5),(.mv (.c (.int .i64 0))),3,none⟩] none) (.seq (.reg [⟨(some 6),(.load true [(.int .i64),(.sl 2)] (.t 2)),0,none⟩,⟨(some 7),(.load true [(.int .i64),(.sl 2)] (.t 3)),0,none⟩,⟨(some 8),(.call (.c (.fn 111)) [(.t 6),(.t 7),(.c (.int .i64 1))]),0,none⟩,⟨(some 9),(.extract (.t 8) 0),2,none⟩,⟨(some 10),(.extract (.t 8) 1),2,none⟩,⟨none,(.store 2 (.t 4) (.t 9)),2,none⟩,⟨(some 5),(.mv (.t 10)),2,none⟩] none) .ret))
def Df:List IRes:=[(.cell true 2 4),(.tmp 5)]
abbrev FY:Nat:=11
def Ar:ZI:=WL [(111,.pure (preT (fun x:Lin×Lin×Int×Unit=>Zt x.1&&Zt x.2.1)) (Zj (fun x:Lin×Lin×Int×Unit=>Yw x.1 x.2.1 x.2.2.1)))]
theorem a5c{G:PV->Prop}(a b:Lin)(h:(Go.Pl.preT (fun(x:Lin×Lin×Int×Unit)=>Zt x.1&&Zt x.2.1) [(.agg [(.int .i64 a.k),(.sl 2 false (List.map enc a.t))]),(.agg [(.int .i64 b.k),(.sl 2 false (List.map enc b.t))]),(.int .i64 1)])=true∧(∃ y0:Lin×Int,AV.pv (Zj (fun(x:Lin×Lin×Int×Unit)=>Yw x.1 x.2.1 x.2.2.1) [(.agg [(.int .i64 a.k),(.sl 2 false (List.map enc a.t))]),(.agg [(.int .i64 b.k),(.sl 2 false (List.map enc b.t))]),(.int .i64 1)])=AV.pv (enc y0)∧(G ((.tup [(.agg [(.int .i64 y0.1.k),(.sl 2 false (List.map enc y0.1.t))]),(.int .i64 y0.2)]))))):Zi Ar 0 (Ze Df G) Gq [] (Xw 11 [enc a,enc b]):=Zi.tp (.req (.abs (Lin×Int) (fun YY=>AV.pv (enc YY)) (.nil))) h (by kernel_rfl)
end Go.Pl

namespace Go.Pl
open Go.RowKit
open Enc (enc dec is)
open EncL (encL decL isL)
theorem a2u(k:Int){a b:Lin}(ha:Zh a=true)(hb:Zh b=true):QP (Y0 k b.t (Y0 1 a.t []))=true:=by
 have h1:=YK ha
 have h2:=YK hb
 have h3:=KF k b.t (Y0 1 a.t [])
 have h4:=KF 1 a.t []
 simp only[QP,Bool.and_eq_true,decide_eq_true_eq,List.all_eq_true]
 have hz:([]:List (Str×Int)).length=0:=rfl
 refine⟨by omega,fun x hx=> ?_⟩
 rcases QA _ _ _ _ hx with hx|⟨t,ht,rfl⟩
 ·rcases QA _ _ _ _ hx with hx|⟨t,ht,rfl⟩
  ·cases hx
  ·have:=Wl (Yf ha ht).1;omega
 ·have:=Wl (Yf hb ht).1;omega
theorem RO(a:Lin):(dec (PV.agg [enc a.k,enc a.t]):Lin)=a:=Enc.dec_enc a
theorem Sd: ∀ a:Lin×Lin×Int×Unit,(Zt a.1&&Zt a.2.1)=true->Zi K9 0 (Ze QY (ZH (Yw a.1 a.2.1 a.2.2.1))) QS [] (Xw RZ (encL a)):=by
 rintro⟨a,b,k,⟨⟩⟩ h
 simp only[Bool.and_eq_true]at h
 refine Fp a b k ⟨Zn (a,()) rfl h.1,Zl (a,()) rfl (Wv (fun ha=> ?_) fun ha=>⟨Zn (b,()) rfl h.2,Zl (b,()) rfl (Wv (fun hb=> ?_) fun hb=> ?_)⟩)⟩
 ·have ha:Zh a=false:=ha
  simp only[Yw,ha]
  exact⟨rfl,rfl⟩
 ·have ha:Zh a=true:=ha
  have hb:Zh b=false:=hb
  simp only[Yw,ha,hb]
  exact⟨rfl,rfl⟩
 have ha:Zh a=true:=ha
 have hb:Zh b=true:=hb
 have h1:=YK ha
 have h2:=YK hb
 have e0:ZX []=[]:=rfl
 simp only[RO,Yh,e0]
 have c1:FE Lin (PV.agg [PV.int .i64 a.k,PV.sl 2 false (List.map enc a.t)])=true:=Qq a
 have c2:FE Lin (PV.agg [PV.int .i64 b.k,PV.sl 2 false (List.map enc b.t)])=true:=Qq b
 have d1:(dec (PV.agg [PV.int .i64 a.k,PV.sl 2 false (List.map enc a.t)]):Lin)=a:=Enc.dec_enc a
 have d2:(dec (PV.agg [PV.int .i64 b.k,PV.sl 2 false (List.map enc b.t)]):Lin)=b:=Enc.dec_enc b
 refine⟨?_,?_,?_,?_⟩
 ·simp only[WJ,c1,d1]
  simp[Jl];omega
 ·simp only[WJ,c2,d2,Us]
  simp;omega
 ·simp only[YI,Us,Yh,a2u k ha hb]
  rfl
 ·simp only[Yw,ha,hb,if_true]
  exact Yv rfl
theorem MX: ∀ a:Lin×Lin×Unit,(Zt a.1&&Zt a.2.1)=true->Zi Ar 0 (Ze Df (ZH (Yw a.1 a.2.1 1))) Gq [] (Xw FY (encL a)):=by
 rintro⟨a,b,⟨⟩⟩ h
 exact a5c a b ⟨Zn (a,b,1,()) rfl h,Zl (a,b,1,()) rfl (Yv rfl)⟩
end Go.Pl

namespace Go.Pl
open Go.RowKit
open Enc (enc dec is)
open EncL (encL decL isL)
mutual
def R9:Cert->Int->Bool
 | .mk _ m l ks,n=> !decide ((m.length:Int)>60)&&(Al l 8&&(!decide (n<1)&&(!decide ((ks.length:Int)>n)&&J9 ks n)))
def J9:List Cert->Int->Bool
 | [],_=>true
 | c::cs,n=>R9 c (Yb (n - 1))&&J9 cs (Yb (n - GM c))
end
end Go.Pl

namespace Go.Pl
open Go.RowKit
open Enc (enc dec is)
open EncL (encL decL isL)
set_option maxRecDepth 100000
end Go.Pl

namespace Go.Pl
open Go.RowKit
open Enc (enc dec is)
open EncL (encL decL isL)
set_option maxRecDepth 100000
def HV:IC:=(.seq (.reg [⟨(some 2),(.mv (.c (.bool false))),0,none⟩] none) (.seq (.reg [⟨(some 3),(.mv (.t 0)),0,none⟩,⟨(some 4),(.bin .num .geq (.t 3) (.c (.int .u8 48))),0,none⟩,⟨(some 5),(.mv (.t 4)),0,none⟩,⟨(some 6),(.mv (.t 0)),0,(some (5,true))⟩,⟨(some 7),(.bin .num .leq (.t 6) (.c (.int .u8 57))),0,(some (5,true))⟩,⟨(some 8),(.pick (.t 5) (.t 7) (.c (.bool false))),0,none⟩,⟨(some 2),(.mv (.t 8)),0,none⟩] none) .ret))
def BB:List IRes:=[(.tmp 2)]
abbrev a2k:Nat:=9
def Pe:ZI:=WL []
theorem a6o{G:PV->Prop}(c:UInt8)(h:if (decide ((↑(UInt8.toNat c):Int) ≥ 48))=true then G ((.bool (decide ((↑(UInt8.toNat c):Int)<=57))))else(G ((.bool false)))):Zi Pe 0 (Ze BB G) HV [] (Xw 9 [enc c]):=Zi.tp (.lit (.ask (.lit (.lit (.lit (.nil)))) (.lit (.lit (.nil))))) h (by kernel_rfl)
def BQ:IC:=(.seq (.reg [⟨(some 2),(.mv (.c (.bool false))),0,none⟩] none) (.seq (.reg [⟨(some 3),(.mv (.t 0)),0,none⟩,⟨(some 4),(.bin .num .geq (.t 3) (.c (.int .u8 97))),0,none⟩,⟨(some 5),(.mv (.t 4)),0,none⟩,⟨(some 6),(.mv (.t 0)),0,(some (5,true))⟩,⟨(some 7),(.bin .num .leq (.t 6) (.c (.int .u8 122))),0,(some (5,true))⟩,⟨(some 8),(.pick (.t 5) (.t 7) (.c (.bool false))),0,none⟩,⟨(some 2),(.mv (.t 8)),0,none⟩] none) .ret))
def BZ:List IRes:=[(.tmp 2)]
abbrev a4b:Nat:=9
def Rm:ZI:=WL []
theorem a7i{G:PV->Prop}(c:UInt8)(h:if (decide ((↑(UInt8.toNat c):Int) ≥ 97))=true then G ((.bool (decide ((↑(UInt8.toNat c):Int)<=122))))else(G ((.bool false)))):Zi Rm 0 (Ze BZ G) BQ [] (Xw 9 [enc c]):=Zi.tp (.lit (.ask (.lit (.lit (.lit (.nil)))) (.lit (.lit (.nil))))) h (by kernel_rfl)
def QH:IC:=(.seq (.reg [⟨(some 2),(.mv (.c (.bool false))),0,none⟩] none) (.seq (.reg [⟨(some 3),(.mv (.t 0)),0,none⟩,⟨(some 4),(.bin .num .geq (.t 3) (.c (.int .i64 (-1000000)))),0,none⟩,⟨(some 5),(.mv (.t 4)),0,none⟩,⟨(some 6),(.mv (.t 0)),0,(some (5,true))⟩,⟨(some 7),(.bin .num .leq (.t 6) (.c (.int .i64 1000000))),0,(some (5,true))⟩,⟨(some 8),(.pick (.t 5) (.t 7) (.c (.bool false))),0,none⟩,⟨(some 2),(.mv (.t 8)),0,none⟩] none) .ret))
def Ju:List IRes:=[(.tmp 2)]
abbrev MF:Nat:=9
def GN:ZI:=WL []
theorem FI{G:PV->Prop}(n:Int)(h:if (decide (n ≥ (-1000000:Int)))=true then G ((.bool (decide (n<=1000000))))else(G ((.bool false)))):Zi GN 0 (Ze Ju G) QH [] (Xw 9 [enc n]):=Zi.tp (.lit (.ask (.lit (.lit (.lit (.nil)))) (.lit (.lit (.nil))))) h (by kernel_rfl)
def Rn:IC:=QH
def Rw:List IRes:=[(.tmp 2)]
abbrev a6t:Nat:=9
def a1w:ZI:=WL []
theorem b0b{G:PV->Prop}(n:Int)(h:if (decide (n ≥ (-1000000:Int)))=true then G ((.bool (decide (n<=1000000))))else(G ((.bool false)))):Zi a1w 0 (Ze Rw G) Rn [] (Xw 9 [enc n]):=Zi.tp (.lit (.ask (.lit (.lit (.lit (.nil)))) (.lit (.lit (.nil))))) h (by kernel_rfl)
def Bb:IC:=HV
def BX:List IRes:=[(.tmp 2)]
abbrev a5e:Nat:=9
def RS:ZI:=WL []
theorem a9a{G:PV->Prop}(c:UInt8)(h:if (decide ((↑(UInt8.toNat c):Int) ≥ 48))=true then G ((.bool (decide ((↑(UInt8.toNat c):Int)<=57))))else(G ((.bool false)))):Zi RS 0 (Ze BX G) Bb [] (Xw 9 [enc c]):=Zi.tp (.lit (.ask (.lit (.lit (.lit (.nil)))) (.lit (.lit (.nil))))) h (by kernel_rfl)
def Xb:IC:=(.seq (.reg [⟨(some 2),(.mv (.c (.bool false))),0,none⟩] none) (.seq (.seq (.reg [⟨(some 5),(.mv (.t 0)),0,none⟩,⟨(some 6),(.len 0 (.t 5)),0,none⟩,⟨(some 7),(.bin .num .eql (.t 6) (.c (.int .i64 0))),0,none⟩,⟨(some 8),(.mv (.t 7)),0,none⟩,⟨(some 9),(.mv (.t 0)),0,(some (8,false))⟩,⟨(some 10),(.len 0 (.t 9)),0,(some (8,false))⟩,⟨(some 11),(.bin .num .gtr (.t 10) (.c (.int .i64 30))),0,(some (8,false))⟩,⟨(some 12),(.pick (.t 8) (.c (.bool true)) (.t 11)),0,none⟩] none) (.cond (.t 12) (.seq (.reg [⟨(some 2),(.mv (.c (.bool false))),0,none⟩] none) .ret) .skip)) (.seq (.seq (.reg [⟨(some 13),(.mv (.t 0)),0,none⟩,⟨(some 14),(.index (.t 13) (.c (.int .i64 0))),0,none⟩,⟨(some 15),(.bin .num .eql (.t 14) (.c (.int .u8 95))),0,none⟩] none) (.cond (.t 15) (.seq (.seq (.reg [⟨(some 16),(.mv (.t 0)),0,none⟩,⟨(some 17),(.len 0 (.t 16)),0,none⟩,⟨(some 18),(.bin .num .lss (.t 17) (.c (.int .i64 2))),0,none⟩,⟨(some 19),(.mv (.t 18)),0,none⟩,⟨(some 20),(.mv (.t 0)),0,(some (19,false))⟩,⟨(some 21),(.len 0 (.t 20)),0,(some (19,false))⟩,⟨(some 22),(.bin .num .gtr (.t 21) (.c (.int .i64 10))),0,(some (19,false))⟩,⟨(some 23),(.pick (.t 19) (.c (.bool true)) (.t 22)),0,none⟩,⟨(some 24),(.mv (.t 23)),0,none⟩,⟨(some 25),(.mv (.t 0)),0,(some (24,false))⟩,⟨(some 26),(.index (.t 25) (.c (.int .i64 1))),0,(some (24,false))⟩,⟨(some 27),(.bin .num .eql (.t 26) (.c (.int .u8 48))),0,(some (24,false))⟩,⟨(some 28),(.pick (.t 24) (.c (.bool true)) (.t 27)),0,none⟩] none) (.cond (.t 28) (.seq (.reg [⟨(some 2),(.mv (.c (.bool false))),0,none⟩] none) .ret) .skip)) (.seq (.seq (.reg [⟨(some 3),(.mv (.c (.int .i64 1))),0,none⟩] none) (.block 0 (.loop [3,0] (.seq (.seq (.reg [⟨(some 29),(.mv (.t 3)),0,none⟩,⟨(some 30),(.mv (.t 0)),0,none⟩,⟨(some 31),(.len 0 (.t 30)),0,none⟩,⟨(some 32),(.bin .num .lss (.t 29) (.t 31)),0,none⟩] none) (.cond (.t 32) .skip (.exit 0))) (.seq (.block 1 (.seq (.reg [⟨(some 35),(.mv (.t 0)),0,none⟩,⟨(some 36),(.mv (.t 3)),0,none⟩,⟨(some 37),(.index (.t 35) (.t 36)),0,none⟩,⟨(some 38),(.call (.c (.fn 155)) [(.t 37)]),0,none⟩,⟨(some 39),(.un .not (.t 38)),2,none⟩] none) (.cond (.t 39) (.seq (.reg [⟨(some 2),(.mv (.c (.bool false))),0,none⟩] none) .ret) .skip))) (.reg [⟨(some 33),(.mv (.t 3)),0,none⟩,⟨(some 34),(.bin .num .add (.t 33) (.c (.int .i64 1))),0,none⟩,⟨(some 3),(.mv (.t 34)),0,none⟩] none)))))) (.seq (.reg [⟨(some 2),(.mv (.c (.bool true))),0,none⟩] none) .ret))) .skip)) (.seq (.seq (.reg [⟨(some 4),(.mv (.c (.int .i64 0))),0,none⟩] none) (.block 2 (.loop [4,0] (.seq (.seq (.reg [⟨(some 40),(.mv (.t 4)),0,none⟩,⟨(some 41),(.mv (.t 0)),0,none⟩,⟨(some 42),(.len 0 (.t 41)),0,none⟩,⟨(some 43),(.bin .num .lss (.t 40) (.t 42)),0,none⟩] none) (.cond (.t 43) .skip (.exit 2))) (.seq (.block 3 (.seq (.reg [⟨(some 46),(.mv (.t 0)),0,none⟩,⟨(some 47),(.mv (.t 4)),0,none⟩,⟨(some 48),(.index (.t 46) (.t 47)),0,none⟩,⟨(some 49),(.call (.c (.fn 156)) [(.t 48)]),0,none⟩,⟨(some 50),(.un .not (.t 49)),2,none⟩,⟨(some 51),(.mv (.t 50)),2,none⟩,⟨(some 52),(.mv (.t 4)),2,(some (51,true))⟩,⟨(some 53),(.bin .num .eql (.t 52) (.c (.int .i64 0))),2,(some (51,true))⟩,⟨(some 54),(.mv (.t 53)),2,(some (51,true))⟩,⟨(some 55),(.mv (.t 0)),2,(some (54,false))⟩,⟨(some 56),(.mv (.t 4)),2,(some (54,false))⟩,⟨(some 57),(.index (.t 55) (.t 56)),2,(some (54,false))⟩,⟨(some 58),(.call (.c (.fn 155)) [(.t 57)]),2,(some (54,false))⟩,⟨(some 59),(.un .not (.t 58)),4,(some (54,false))⟩,⟨(some 60),(.pick (.t 54) (.c (.bool true)) (.t 59)),4,(some (51,true))⟩,⟨(some 61),(.pick (.t 51) (.t 60) (.c (.bool false))),4,none⟩] none) (.cond (.t 61) (.seq (.reg [⟨(some 2),(.mv (.c (.bool false))),0,none⟩] none) .ret) .skip))) (.reg [⟨(some 44),(.mv (.t 4)),0,none⟩,⟨(some 45),(.bin .num .add (.t 44) (.c (.int .i64 1))),0,none⟩,⟨(some 4),(.mv (.t 45)),0,none⟩] none)))))) (.seq (.reg [⟨(some 2),(.mv (.c (.bool true))),0,none⟩] none) .ret)))))
def Y8:List IRes:=[(.tmp 2)]
abbrev Oh:Nat:=62
def XI:ZI:=WL [(155,.pure (preT (fun _:UInt8×Unit=>true)) (Zj (fun x:UInt8×Unit=>digB x.1))),(156,.pure (preT (fun _:UInt8×Unit=>true)) (Zj (fun x:UInt8×Unit=>lowB x.1)))]
theorem a3n{G:PV->Prop}(s:List UInt8)(h:if ((↑(List.length s):Int)==0)=true then G ((.bool false))else(if (decide ((↑(List.length s):Int)>30))=true then G ((.bool false))else((decide (0<=0)&&decide (Int.toNat 0<List.length s))=true∧(if ((↑(UInt8.toNat (List.getD s (Int.toNat 0) (0:UInt8))):Int)==95)=true then if (decide ((↑(List.length s):Int)<2))=true then G ((.bool false))else(if (decide ((↑(List.length s):Int)>10))=true then G ((.bool false))else((decide (0<=1)&&decide (Int.toNat 1<List.length s))=true∧(if ((↑(UInt8.toNat (List.getD s (Int.toNat 1) (0:UInt8))):Int)==48)=true then G ((.bool false))else(At XI 0 (Ze Y8 G) Xb 0 62 [(0,(.pv (.str s))),(3,(.pv (.int .i64 1)))] []))))else(At XI 0 (Ze Y8 G) Xb 1 62 [(0,(.pv (.str s))),(4,(.pv (.int .i64 0)))] []))))):Zi XI 0 (Ze Y8 G) Xb [] (Xw 62 [.str s]):=Zi.tp (.lit (.ask (.lit (.lit (.lit (.lit (.nil))))) (.lit (.lit (.lit (.lit (.ask (.nil) (.req (.lit (.ask (.lit (.ask (.lit (.lit (.lit (.lit (.lit (.lit (.lit (.lit (.nil))))))))) (.lit (.lit (.lit (.lit (.ask (.lit (.lit (.lit (.lit (.nil))))) (.lit (.req (.lit (.lit (.lit (.ask (.nil) (.nil)))))))))))))) (.nil))))))))))) h (by kernel_rfl)
theorem AO{G:PV->Prop}(s:List UInt8)(i:Int)(h:if (decide (i<(↑(List.length s):Int)))=true then(decide (0<=i)&&decide (Int.toNat i<List.length s))=true∧((Go.Pl.preT (fun(x:UInt8×Unit)=>true) [(.int IntKind.u8 (↑(UInt8.toNat (List.getD s (Int.toNat i) (0:UInt8))):Int))])=true∧(∃ y0:Bool,AV.pv (Zj (fun(x:UInt8×Unit)=>digB x.1) [(.int IntKind.u8 (↑(UInt8.toNat (List.getD s (Int.toNat i) (0:UInt8))):Int))])=AV.pv (enc y0)∧(if (!y0)=true then G ((.bool false))else(At XI 0 (Ze Y8 G) Xb 0 62 [(0,(.pv (.str s))),(3,(.pv (.int .i64 (IntKind.wrap IntKind.i64 (i+1)))))] []))))else(G ((.bool true)))):At XI 0 (Ze Y8 G) Xb 0 62 [(0,.pv (.str s)),(3,.pv (.int .i64 i))] []:=At.tp (.lit (.ask (.req (.req (.abs (Bool) (fun YY=>AV.pv (enc YY)) (.ask (.nil) (.lit (.nil)))))) (.nil))) h (by kernel_rfl)
theorem Dw{G:PV->Prop}(s:List UInt8)(i:Int)(h:if (decide (i<(↑(List.length s):Int)))=true then(decide (0<=i)&&decide (Int.toNat i<List.length s))=true∧((Go.Pl.preT (fun(x:UInt8×Unit)=>true) [(.int IntKind.u8 (↑(UInt8.toNat (List.getD s (Int.toNat i) (0:UInt8))):Int))])=true∧(∃ y0:Bool,AV.pv (Zj (fun(x:UInt8×Unit)=>lowB x.1) [(.int IntKind.u8 (↑(UInt8.toNat (List.getD s (Int.toNat i) (0:UInt8))):Int))])=AV.pv (enc y0)∧(if (!y0)=true then if (i==0)=true then G ((.bool false))else((decide (0<=i)&&decide (Int.toNat i<List.length s))=true∧((Go.Pl.preT (fun(x:UInt8×Unit)=>true) [(.int IntKind.u8 (↑(UInt8.toNat (List.getD s (Int.toNat i) (0:UInt8))):Int))])=true∧(∃ y1:Bool,AV.pv (Zj (fun(x:UInt8×Unit)=>digB x.1) [(.int IntKind.u8 (↑(UInt8.toNat (List.getD s (Int.toNat i) (0:UInt8))):Int))])=AV.pv (enc y1)∧(if (!y1)=true then G ((.bool false))else(At XI 0 (Ze Y8 G) Xb 1 62 [(0,(.pv (.str s))),(4,(.pv (.int .i64 (IntKind.wrap IntKind.i64 (i+1)))))] [])))))else(At XI 0 (Ze Y8 G) Xb 1 62 [(0,(.pv (.str s))),(4,(.pv (.int .i64 (IntKind.wrap IntKind.i64 (i+1)))))] []))))else(G ((.bool true)))):At XI 0 (Ze Y8 G) Xb 1 62 [(0,.pv (.str s)),(4,.pv (.int .i64 i))] []:=At.tp (.lit (.ask (.req (.req (.abs (Bool) (fun YY=>AV.pv (enc YY)) (.ask (.lit (.lit (.lit (.ask (.lit (.lit (.lit (.lit (.lit (.lit (.lit (.lit (.nil))))))))) (.lit (.lit (.req (.lit (.req (.abs (Bool) (fun YY=>AV.pv (enc YY)) (.lit (.lit (.lit (.lit (.ask (.nil) (.lit (.nil))))))))))))))))) (.lit (.lit (.lit (.lit (.lit (.lit (.nil))))))))))) (.nil))) h (by kernel_rfl)
def Xr:IC:=(.seq (.reg [⟨(some 1),(.box 2 (.t 0)),0,none⟩,⟨(some 2),(.mv (.c (.bool false))),1,none⟩] none) (.seq (.seq (.reg [⟨(some 5),(.faddr 0 (.t 1)),0,none⟩,⟨(some 6),(.load false [(.int .i64)] (.t 5)),0,none⟩,⟨(some 7),(.call (.c (.fn 83)) [(.t 6)]),0,none⟩,⟨(some 8),(.un .not (.t 7)),2,none⟩,⟨(some 9),(.mv (.t 8)),2,none⟩,⟨(some 10),(.faddr 1 (.t 1)),2,(some (9,false))⟩,⟨(some 11),(.load false [(.sl 2)] (.t 10)),2,(some (9,false))⟩,⟨(some 12),(.len 1 (.t 11)),2,(some (9,false))⟩,⟨(some 13),(.bin .num .gtr (.t 12) (.c (.int .i64 12))),2,(some (9,false))⟩,⟨(some 14),(.pick (.t 9) (.c (.bool true)) (.t 13)),2,none⟩] none) (.cond (.t 14) (.seq (.reg [⟨(some 2),(.mv (.c (.bool false))),0,none⟩] none) .ret) .skip)) (.seq (.seq (.reg [⟨(some 3),(.mv (.c (.int .i64 0))),0,none⟩] none) (.block 0 (.loop [3,1] (.seq (.seq (.reg [⟨(some 15),(.mv (.t 3)),0,none⟩,⟨(some 16),(.faddr 1 (.t 1)),0,none⟩,⟨(some 17),(.load false [(.sl 2)] (.t 16)),0,none⟩,⟨(some 18),(.len 1 (.t 17)),0,none⟩,⟨(some 19),(.bin .num .lss (.t 15) (.t 18)),0,none⟩] none) (.cond (.t 19) .skip (.exit 0))) (.seq (.block 1 (.seq (.reg [⟨(some 22),(.faddr 1 (.t 1)),0,none⟩,⟨(some 23),(.load false [(.sl 2)] (.t 22)),0,none⟩,⟨(some 24),(.mv (.t 3)),0,none⟩,⟨(some 25),(.iaddr 2 (.t 23) (.t 24)),0,none⟩,⟨(some 26),(.load true [.str,(.int .i64)] (.t 25)),0,none⟩,⟨(some 4),(.alloc (.agg [(.str []),(.int .i64 0)])),0,none⟩,⟨none,(.store 2 (.t 4) (.t 26)),1,none⟩] none) (.seq (.reg [⟨(some 27),(.faddr 0 (.t 4)),0,none⟩,⟨(some 28),(.load false [.str] (.t 27)),0,none⟩,⟨(some 29),(.call (.c (.fn 84)) [(.t 28)]),0,none⟩,⟨(some 30),(.un .not (.t 29)),2,none⟩,⟨(some 31),(.mv (.t 30)),2,none⟩,⟨(some 32),(.faddr 1 (.t 4)),2,(some (31,false))⟩,⟨(some 33),(.load false [(.int .i64)] (.t 32)),2,(some (31,false))⟩,⟨(some 34),(.bin .num .eql (.t 33) (.c (.int .i64 0))),2,(some (31,false))⟩,⟨(some 35),(.pick (.t 31) (.c (.bool true)) (.t 34)),2,none⟩,⟨(some 36),(.mv (.t 35)),2,none⟩,⟨(some 37),(.faddr 1 (.t 4)),2,(some (36,false))⟩,⟨(some 38),(.load false [(.int .i64)] (.t 37)),2,(some (36,false))⟩,⟨(some 39),(.call (.c (.fn 83)) [(.t 38)]),2,(some (36,false))⟩,⟨(some 40),(.un .not (.t 39)),4,(some (36,false))⟩,⟨(some 41),(.pick (.t 36) (.c (.bool true)) (.t 40)),4,none⟩,⟨(some 42),(.mv (.t 41)),4,none⟩,⟨(some 43),(.mv (.t 3)),4,(some (42,false))⟩,⟨(some 44),(.bin .num .gtr (.t 43) (.c (.int .i64 0))),4,(some (42,false))⟩,⟨(some 45),(.mv (.t 44)),4,(some (42,false))⟩,⟨(some 46),(.faddr 1 (.t 1)),4,(some (45,true))⟩,⟨(some 47),(.load false [(.sl 2)] (.t 46)),4,(some (45,true))⟩,⟨(some 48),(.mv (.t 3)),4,(some (45,true))⟩,⟨(some 49),(.bin .num .sub (.t 48) (.c (.int .i64 1))),4,(some (45,true))⟩,⟨(some 50),(.iaddr 2 (.t 47) (.t 49)),4,(some (45,true))⟩,⟨(some 51),(.faddr 0 (.t 50)),4,(some (45,true))⟩,⟨(some 52),(.load false [.str] (.t 51)),4,(some (45,true))⟩,⟨(some 53),(.faddr 0 (.t 4)),4,(some (45,true))⟩,⟨(some 54),(.load false [.str] (.t 53)),4,(some (45,true))⟩,⟨(some 55),(.bin .num .geq (.t 52) (.t 54)),4,(some (45,true))⟩,⟨(some 56),(.pick (.t 45) (.t 55) (.c (.bool false))),4,(some (42,false))⟩,⟨(some 57),(.pick (.t 42) (.c (.bool true)) (.t 56)),4,none⟩] (some [[],[0],[1,0],[2,1,0],[3,2,1,0],[4,3,2,1,0],[5,4,3,2,1,0],[6,4,5,3,2,1,0],[4,7,3,2,1,0,6,5],[8,4,7,3,2,1,0,6,5],[9,8,4,7,3,2,1,0,6,5],[10,9,8,4,7,3,2,1,0,6,5],[11,9,10,8,4,7,3,2,1,0,6,5],[12,9,11,10,8,4,7,3,2,1,0,6,5],[9,13,8,4,7,3,2,1,0,6,5,12,11,10],[14,12,9,13,8,4,7,3,2,1,0,6,5,11,10],[15,14,12,9,13,8,4,7,3,2,1,0,6,5,11,10],[16,15,14,12,9,13,8,4,7,3,2,1,0,6,5,11,10],[17,15,16,14,12,9,13,8,4,7,3,2,1,0,6,5,11,10],[18,17,15,16,14,12,9,13,8,4,7,3,2,1,0,6,5,11,10],[19,18,17,15,16,14,12,9,13,8,4,7,3,2,1,0,6,5,11,10],[18,17,15,16,14,12,9,13,8,4,7,3,2,1,0,6,5,11,10],[21,18,17,15,16,14,12,9,13,8,4,7,3,2,1,0,6,5,11,10],[20,22,18,19,17,15,16,14,12,9,13,8,4,7,3,2,1,0,6,5,11,10,21],[23,18,20,22,19,17,15,16,14,12,9,13,8,4,7,3,2,1,0,6,5,11,10,21],[24,18,23,20,22,19,17,15,16,14,12,9,13,8,4,7,3,2,1,0,6,5,11,10,21],[18,17,15,16,14,12,9,13,8,4,7,3,2,1,0,6,5,11,10],[26,18,17,15,16,14,12,9,13,8,4,7,3,2,1,0,6,5,11,10],[25,27,18,24,23,20,22,19,17,15,16,14,12,9,13,8,4,7,3,2,1,0,6,5,11,10,21,26],[18,28,15,17,16,14,12,9,13,8,4,7,3,2,1,0,6,5,11,10,25,27,24,23,20,22,19,21,26],[15,29,14,12,9,13,8,4,7,3,2,1,0,6,5,11,10,18,28,17,16,25,27,24,23,20,22,19,21,26]])) (.cond (.t 57) (.seq (.reg [⟨(some 2),(.mv (.c (.bool false))),0,none⟩] none) .ret) .skip)))) (.reg [⟨(some 20),(.mv (.t 3)),0,none⟩,⟨(some 21),(.bin .num .add (.t 20) (.c (.int .i64 1))),0,none⟩,⟨(some 3),(.mv (.t 21)),0,none⟩] none)))))) (.seq (.reg [⟨(some 2),(.mv (.c (.bool true))),0,none⟩] none) .ret))))
def Xq:List IRes:=[(.tmp 2)]
abbrev Fv:Nat:=58
def Wt:ZI:=WL [(83,.pure (preT (fun _:Int×Unit=>true)) (Zj (fun x:Int×Unit=>Z5 x.1))),(84,.pure (preT (fun _:Str×Unit=>true)) (Zj (fun x:Str×Unit=>Zq x.1)))]
theorem a2a{G:PV->Prop}(l:Lin)(h : ∃ y0:Bool,AV.pv (Zj (fun(x:Int×Unit)=>Z5 x.1) [(.int .i64 l.k)])=AV.pv (enc y0)∧(if (!y0)=true then G ((.bool false))else(if (decide ((↑(List.length (List.map enc l.t)):Int)>12))=true then G ((.bool false))else(At Wt 0 (Ze Xq G) Xr 0 58 [(1,(.ptr 0 0)),(3,(.pv (.int .i64 0)))] [(.obj (.box [(.pv (.int .i64 l.k)),(.pv (.sl 2 false (List.map enc l.t)))]))])))):Zi Wt 0 (Ze Xq G) Xr [] (Xw 58 [enc l]):=Zi.tp (.lit (.abs (Bool) (fun YY=>AV.pv (enc YY)) (.ask (.lit (.lit (.lit (.lit (.lit (.nil)))))) (.lit (.lit (.lit (.lit (.lit (.ask (.nil) (.nil)))))))))) h (by kernel_rfl)
theorem CF{G:PV->Prop}(l:Lin)(i:Int)(h:if (decide (i<(↑(List.length (List.map enc l.t)):Int)))=true then(decide (0<=i)&&decide (Int.toNat i<List.length (List.map enc l.t))&&Enc.sz Coef==2)=true∧(∃ y0:Coef,AV.pv (PV.rptr (PV.cells (List.getD (List.map enc l.t) (Int.toNat i) default)))=AV.pv (PV.rptr (PV.cells ((enc) y0)))∧(∃ y1:Bool,AV.pv (Zj (fun(x:Str×Unit)=>Zq x.1) [(.str (PV.asStr (List.getD (PV.cells (enc y0)) 0 default)))])=AV.pv (enc y1)∧(if (!y1)=true then G ((.bool false))else(if (PV.asInt (List.getD (PV.cells (enc y0)) (0+1) default)==0)=true then G ((.bool false))else(∃ y2:Bool,AV.pv (Zj (fun(x:Int×Unit)=>Z5 x.1) [(.int .i64 (PV.asInt (List.getD (PV.cells (enc y0)) (0+1) default)))])=AV.pv (enc y2)∧(if (!y2)=true then G ((.bool false))else(if (decide (i>0))=true then(decide (0<=IntKind.wrap IntKind.i64 (i - 1))&&decide (Int.toNat (IntKind.wrap IntKind.i64 (i - 1))<List.length (List.map enc l.t))&&Enc.sz Coef==2)=true∧(∃ y3:Coef,AV.pv (PV.rptr (PV.cells (List.getD (List.map enc l.t) (Int.toNat (IntKind.wrap IntKind.i64 (i - 1))) default)))=AV.pv (PV.rptr (PV.cells ((enc) y3)))∧(if (!Op.bytesLess (PV.asStr (List.getD (List.drop 0 (PV.cells (enc y3))) 0 default)) (PV.asStr (List.getD (PV.cells (enc y0)) 0 default)))=true then G ((.bool false))else(At Wt 0 (Ze Xq G) Xr 0 58 [(1,(.ptr 0 0)),(3,(.pv (.int .i64 (IntKind.wrap IntKind.i64 (i+1)))))] [(.obj (.box [(.pv (.int .i64 l.k)),(.pv (.sl 2 false (List.map enc l.t)))]))])))else(At Wt 0 (Ze Xq G) Xr 0 58 [(1,(.ptr 0 0)),(3,(.pv (.int .i64 (IntKind.wrap IntKind.i64 (i+1)))))] [(.obj (.box [(.pv (.int .i64 l.k)),(.pv (.sl 2 false (List.map enc l.t)))]))]))))))))else(G ((.bool true)))):At Wt 0 (Ze Xq G) Xr 0 58 [(1,.ptr 0 0),(3,.pv (.int .i64 i))] [.obj (.box [.pv (.int .i64 l.k),.pv (enc l.t)])]:=At.tp (.lit (.ask (.req (.abs (Coef) (fun YY=>AV.pv (PV.rptr (PV.cells ((enc) YY)))) (.lit (.lit (.abs (Bool) (fun YY=>AV.pv (enc YY)) (.ask (.lit (.lit (.lit (.lit (.lit (.lit (.lit (.lit (.lit (.lit (.lit (.lit (.lit (.lit (.nil))))))))))))))) (.lit (.lit (.lit (.lit (.ask (.lit (.lit (.lit (.lit (.lit (.lit (.lit (.lit (.lit (.lit (.nil))))))))))) (.lit (.lit (.lit (.abs (Bool) (fun YY=>AV.pv (enc YY)) (.lit (.lit (.ask (.lit (.lit (.lit (.lit (.lit (.nil)))))) (.lit (.lit (.lit (.ask (.lit (.lit (.lit (.lit (.lit (.req (.abs (Coef) (fun YY=>AV.pv (PV.rptr (PV.cells ((enc) YY)))) (.lit (.lit (.lit (.lit (.lit (.lit (.lit (.lit (.lit (.lit (.ask (.nil) (.lit (.nil)))))))))))))))))))) (.lit (.lit (.lit (.lit (.lit (.lit (.lit (.lit (.lit (.lit (.lit (.lit (.lit (.lit (.nil))))))))))))))))))))))))))))))))))))) (.nil))) h (by kernel_rfl)
def UG:IC:=(.seq (.reg [⟨(some 2),(.box 2 (.t 0)),0,none⟩,⟨(some 4),(.mv (.c (.bool false))),1,none⟩] none) (.seq (.seq (.reg [⟨(some 5),(.mv (.c (.int .i64 0))),0,none⟩] none) (.block 0 (.loop [5,2,1] (.seq (.seq (.reg [⟨(some 6),(.mv (.t 5)),0,none⟩,⟨(some 7),(.faddr 1 (.t 2)),0,none⟩,⟨(some 8),(.load false [(.sl 2)] (.t 7)),0,none⟩,⟨(some 9),(.len 1 (.t 8)),0,none⟩,⟨(some 10),(.bin .num .lss (.t 6) (.t 9)),0,none⟩] none) (.cond (.t 10) .skip (.exit 0))) (.seq (.block 1 (.seq (.reg [⟨(some 13),(.faddr 1 (.t 2)),0,none⟩,⟨(some 14),(.load false [(.sl 2)] (.t 13)),0,none⟩,⟨(some 15),(.mv (.t 5)),0,none⟩,⟨(some 16),(.iaddr 2 (.t 14) (.t 15)),0,none⟩,⟨(some 17),(.faddr 0 (.t 16)),0,none⟩,⟨(some 18),(.load false [.str] (.t 17)),0,none⟩,⟨(some 19),(.len 0 (.t 18)),0,none⟩,⟨(some 20),(.bin .num .gtr (.t 19) (.c (.int .i64 40))),0,none⟩] none) (.cond (.t 20) (.seq (.reg [⟨(some 4),(.mv (.c (.bool false))),0,none⟩] none) .ret) .skip))) (.reg [⟨(some 11),(.mv (.t 5)),0,none⟩,⟨(some 12),(.bin .num .add (.t 11) (.c (.int .i64 1))),0,none⟩,⟨(some 5),(.mv (.t 12)),0,none⟩] none)))))) (.seq (.reg [⟨(some 21),(.faddr 1 (.t 2)),0,none⟩,⟨(some 22),(.load false [(.sl 2)] (.t 21)),0,none⟩,⟨(some 23),(.len 1 (.t 22)),0,none⟩,⟨(some 24),(.mv (.t 1)),0,none⟩,⟨(some 25),(.bin .num .leq (.t 23) (.t 24)),0,none⟩,⟨(some 4),(.mv (.t 25)),0,none⟩] none) .ret)))
def Ux:List IRes:=[(.tmp 4)]
abbrev a2w:Nat:=26
def QT:ZI:=WL []
theorem a8p{G:PV->Prop}(l:Lin)(n:Int)(h:At QT 0 (Ze Ux G) UG 0 26 [(1,(.pv (.int .i64 n))),(2,(.ptr 0 0)),(5,(.pv (.int .i64 0)))] [(.obj (.box [(.pv (.int .i64 l.k)),(.pv (.sl 2 false (List.map enc l.t)))]))]):Zi QT 0 (Ze Ux G) UG [] (Xw 26 [enc l,enc n]):=Zi.tp (.nil) h (by kernel_rfl)
theorem NN{G:PV->Prop}(l:Lin)(n:Int)(i:Int)(h:if (decide (i<(↑(List.length (List.map enc l.t)):Int)))=true then(decide (0<=i)&&decide (Int.toNat i<List.length (List.map enc l.t))&&Enc.sz Coef==2)=true∧(∃ y0:Coef,AV.pv (PV.rptr (PV.cells (List.getD (List.map enc l.t) (Int.toNat i) default)))=AV.pv (PV.rptr (PV.cells ((enc) y0)))∧(if (decide ((↑(List.length (PV.asStr (List.getD (List.drop 0 (PV.cells (enc y0))) 0 default))):Int)>40))=true then G ((.bool false))else(At QT 0 (Ze Ux G) UG 0 26 [(1,(.pv (.int .i64 n))),(2,(.ptr 0 0)),(5,(.pv (.int .i64 (IntKind.wrap IntKind.i64 (i+1)))))] [(.obj (.box [(.pv (.int .i64 l.k)),(.pv (.sl 2 false (List.map enc l.t)))]))])))else(G ((.bool (decide ((↑(List.length (List.map enc l.t)):Int)<=n)))))):At QT 0 (Ze Ux G) UG 0 26 [(1,.pv (.int .i64 n)),(2,.ptr 0 0),(5,.pv (.int .i64 i))] [.obj (.box [.pv (.int .i64 l.k),.pv (enc l.t)])]:=At.tp (.lit (.ask (.req (.abs (Coef) (fun YY=>AV.pv (PV.rptr (PV.cells ((enc) YY)))) (.lit (.lit (.ask (.nil) (.lit (.nil))))))) (.lit (.nil)))) h (by kernel_rfl)
-- IMPOSSIBLE
def VQ:IC:=(.seq (.reg [⟨(some 2),(.box 2 (.t 0)),0,none⟩,⟨(some 3),(.box 2 (.t 1)),1,none⟩,⟨(some 4),(.mv (.c (.int .i64 0))),2,none⟩] none) (.seq (.seq (.reg [⟨(some 5),(.mv (.c (.int .i64 0))),0,none⟩] none) (.block 0 (.loop [5,2,3] (.seq (.seq (.reg [⟨(some 8),(.mv (.t 5)),0,none⟩,⟨(some 9),(.faddr 1 (.t 2)),0,none⟩,⟨(some 10),(.load false [(.sl 2)] (.t 9)),0,none⟩,⟨(some 11),(.len 1 (.t 10)),0,none⟩,⟨(some 12),(.bin .num .lss (.t 8) (.t 11)),0,none⟩,⟨(some 13),(.mv (.t 12)),0,none⟩,⟨(some 14),(.mv (.t 5)),0,(some (13,true))⟩,⟨(some 15),(.faddr 1 (.t 3)),0,(some (13,true))⟩,⟨(some 16),(.load false [(.sl 2)] (.t 15)),0,(some (13,true))⟩,⟨(some 17),(.len 1 (.t 16)),0,(some (13,true))⟩,⟨(some 18),(.bin .num .lss (.t 14) (.t 17)),0,(some (13,true))⟩,⟨(some 19),(.pick (.t 13) (.t 18) (.c (.bool false))),0,none⟩] none) (.cond (.t 19) .skip (.exit 0))) (.seq (.block 1 (.seq (.reg [⟨(some 22),(.faddr 1 (.t 2)),0,none⟩,⟨(some 23),(.load false [(.sl 2)] (.t 22)),0,none⟩,⟨(some 24),(.mv (.t 5)),0,none⟩,⟨(some 25),(.iaddr 2 (.t 23) (.t 24)),0,none⟩,⟨(some 26),(.load true [.str,(.int .i64)] (.t 25)),0,none⟩,⟨(some 27),(.faddr 1 (.t 3)),0,none⟩,⟨(some 28),(.load false [(.sl 2)] (.t 27)),0,none⟩,⟨(some 29),(.mv (.t 5)),0,none⟩,⟨(some 30),(.iaddr 2 (.t 28) (.t 29)),0,none⟩,⟨(some 31),(.load true [.str,(.int .i64)] (.t 30)),0,none⟩,⟨(some 6),(.alloc (.agg [(.str []),(.int .i64 0)])),0,none⟩,⟨(some 7),(.alloc (.agg [(.str []),(.int .i64 0)])),1,none⟩,⟨none,(.store 2 (.t 6) (.t 26)),2,none⟩,⟨none,(.store 2 (.t 7) (.t 31)),2,none⟩] (some [[],[0],[],[1,2,0],[3,1,2,0],[],[5],[],[6,7,5],[8,6,7,5],[],[],[10,4,0,1,2,3,11],[11,9,12,0,1,2,3,4,5,6,7,8,10]])) (.block 2 (.seq (.reg [⟨(some 33),(.faddr 0 (.t 6)),0,none⟩,⟨(some 34),(.load false [.str] (.t 33)),0,none⟩,⟨(some 35),(.faddr 0 (.t 7)),0,none⟩,⟨(some 36),(.load false [.str] (.t 35)),0,none⟩,⟨(some 37),(.bin .num .lss (.t 34) (.t 36)),0,none⟩,⟨(some 38),(.mv (.t 37)),0,none⟩,⟨(some 39),(.faddr 0 (.t 6)),0,(some (38,false))⟩,⟨(some 40),(.load false [.str] (.t 39)),0,(some (38,false))⟩,⟨(some 41),(.faddr 0 (.t 7)),0,(some (38,false))⟩,⟨(some 42),(.load false [.str] (.t 41)),0,(some (38,false))⟩,⟨(some 43),(.bin .num .eql (.t 40) (.t 42)),0,(some (38,false))⟩,⟨(some 44),(.mv (.t 43)),0,(some (38,false))⟩,⟨(some 45),(.faddr 1 (.t 6)),0,(some (44,true))⟩,⟨(some 46),(.load false [(.int .i64)] (.t 45)),0,(some (44,true))⟩,⟨(some 47),(.faddr 1 (.t 7)),0,(some (44,true))⟩,⟨(some 48),(.load false [(.int .i64)] (.t 47)),0,(some (44,true))⟩,⟨(some 49),(.bin .num .lss (.t 46) (.t 48)),0,(some (44,true))⟩,⟨(some 50),(.pick (.t 44) (.t 49) (.c (.bool false))),0,(some (38,false))⟩,⟨(some 51),(.pick (.t 38) (.c (.bool true)) (.t 50)),0,none⟩,⟨(some 32),(.mv (.t 51)),0,none⟩] none) (.cond (.t 32) (.seq (.reg [⟨(some 4),(.mv (.c (.int .i64 (-1)))),0,none⟩] none) .ret) (.seq (.reg [⟨(some 53),(.load true [.str,(.int .i64)] (.t 6)),0,none⟩,⟨(some 54),(.load true [.str,(.int .i64)] (.t 7)),0,none⟩,⟨(some 55),(.bin (.agg [1,0]) .neq (.t 53) (.t 54)),0,none⟩,⟨(some 52),(.mv (.t 55)),0,none⟩] none) (.cond (.t 52) (.seq (.reg [⟨(some 4),(.mv (.c (.int .i64 1))),0,none⟩] none) .ret) .skip))))))) (.reg [⟨(some 20),(.mv (.t 5)),0,none⟩,⟨(some 21),(.bin .num .add (.t 20) (.c (.int .i64 1))),0,none⟩,⟨(some 5),(.mv (.t 21)),0,none⟩] none)))))) (.seq (.block 3 (.seq (.reg [⟨(some 57),(.faddr 1 (.t 2)),0,none⟩,⟨(some 58),(.load false [(.sl 2)] (.t 57)),0,none⟩,⟨(some 59),(.len 1 (.t 58)),0,none⟩,⟨(some 60),(.faddr 1 (.t 3)),0,none⟩,⟨(some 61),(.load false [(.sl 2)] (.t 60)),0,none⟩,⟨(some 62),(.len 1 (.t 61)),0,none⟩,⟨(some 63),(.bin .num .lss (.t 59) (.t 62)),0,none⟩,⟨(some 64),(.mv (.t 63)),0,none⟩,⟨(some 65),(.faddr 1 (.t 2)),0,(some (64,false))⟩,⟨(some 66),(.load false [(.sl 2)] (.t 65)),0,(some (64,false))⟩,⟨(some 67),(.len 1 (.t 66)),0,(some (64,false))⟩,⟨(some 68),(.faddr 1 (.t 3)),0,(some (64,false))⟩,⟨(some 69),(.load false [(.sl 2)] (.t 68)),0,(some (64,false))⟩,⟨(some 70),(.len 1 (.t 69)),0,(some (64,false))⟩,⟨(some 71),(.bin .num .eql (.t 67) (.t 70)),0,(some (64,false))⟩,⟨(some 72),(.mv (.t 71)),0,(some (64,false))⟩,⟨(some 73),(.faddr 0 (.t 2)),0,(some (72,true))⟩,⟨(some 74),(.load false [(.int .i64)] (.t 73)),0,(some (72,true))⟩,⟨(some 75),(.faddr 0 (.t 3)),0,(some (72,true))⟩,⟨(some 76),(.load false [(.int .i64)] (.t 75)),0,(some (72,true))⟩,⟨(some 77),(.bin .num .lss (.t 74) (.t 76)),0,(some (72,true))⟩,⟨(some 78),(.pick (.t 72) (.t 77) (.c (.bool false))),0,(some (64,false))⟩,⟨(some 79),(.pick (.t 64) (.c (.bool true)) (.t 78)),0,none⟩,⟨(some 56),(.mv (.t 79)),0,none⟩] none) (.cond (.t 56) (.seq (.reg [⟨(some 4),(.mv (.c (.int .i64 (-1)))),0,none⟩] none) .ret) (.seq (.reg [⟨(some 81),(.faddr 1 (.t 2)),0,none⟩,⟨(some 82),(.load false [(.sl 2)] (.t 81)),0,none⟩,⟨(some 83),(.len 1 (.t 82)),0,none⟩,⟨(some 84),(.faddr 1 (.t 3)),0,none⟩,⟨(some 85),(.load false [(.sl 2)] (.t 84)),0,none⟩,⟨(some 86),(.len 1 (.t 85)),0,none⟩,⟨(some 87),(.bin .num .gtr (.t 83) (.t 86)),0,none⟩,⟨(some 88),(.mv (.t 87)),0,none⟩,⟨(some 89),(.faddr 0 (.t 2)),0,(some (88,false))⟩,⟨(some 90),(.load false [(.int .i64)] (.t 89)),0,(some (88,false))⟩,⟨(some 91),(.faddr 0 (.t 3)),0,(some (88,false))⟩,⟨(some 92),(.load false [(.int .i64)] (.t 91)),0,(some (88,false))⟩,⟨(some 93),(.bin .num .gtr (.t 90) (.t 92)),0,(some (88,false))⟩,⟨(some 94),(.pick (.t 88) (.c (.bool true)) (.t 93)),0,none⟩,⟨(some 80),(.mv (.t 94)),0,none⟩] none) (.cond (.t 80) (.seq (.reg [⟨(some 4),(.mv (.c (.int .i64 1))),0,none⟩] none) .ret) .skip))))) (.seq (.reg [⟨(some 4),(.mv (.c (.int .i64 0))),0,none⟩] none) .ret))))
def VO:List IRes:=[(.tmp 4)]
abbrev a4o:Nat:=95
def Qb:ZI:=WL []
theorem a6v{G:PV->Prop}(a b:Lin)(h:At Qb 0 (Ze VO G) VQ 0 95 [(2,(.ptr 0 0)),(3,(.ptr 1 0)),(5,(.pv (.int .i64 0)))] [(.obj (.box [(.pv (.int .i64 a.k)),(.pv (.sl 2 false (List.map enc a.t)))])),(.obj (.box [(.pv (.int .i64 b.k)),(.pv (.sl 2 false (List.map enc b.t)))]))]):Zi Qb 0 (Ze VO G) VQ [] (Xw 95 [enc a,enc b]):=Zi.tp (.nil) h (by kernel_rfl)
theorem Nv{G:PV->Prop}(a b:Lin)(i:Int)(h:if (decide (i<(↑(List.length (List.map enc a.t)):Int)))=true then if (decide (i<(↑(List.length (List.map enc b.t)):Int)))=true then(decide (0<=i)&&decide (Int.toNat i<List.length (List.map enc a.t))&&Enc.sz Coef==2)=true∧(∃ y0:Coef,AV.pv (PV.rptr (PV.cells (List.getD (List.map enc a.t) (Int.toNat i) default)))=AV.pv (PV.rptr (PV.cells ((enc) y0)))∧((decide (0<=i)&&decide (Int.toNat i<List.length (List.map enc b.t))&&Enc.sz Coef==2)=true∧(∃ y1:Coef,AV.pv (PV.rptr (PV.cells (List.getD (List.map enc b.t) (Int.toNat i) default)))=AV.pv (PV.rptr (PV.cells ((enc) y1)))∧(if (Op.bytesLess (PV.asStr (List.getD (PV.cells (enc y0)) 0 default)) (PV.asStr (List.getD (PV.cells (enc y1)) 0 default)))=true then G ((.int .i64 (-1)))else(if (PV.asStr (List.getD (PV.cells (enc y0)) 0 default)==PV.asStr (List.getD (PV.cells (enc y1)) 0 default))=true then if (decide (PV.asInt (List.getD (PV.cells (enc y0)) (0+1) default)<PV.asInt (List.getD (PV.cells (enc y1)) (0+1) default)))=true then G ((.int .i64 (-1)))else(if (!(PV.asStr (List.getD (PV.cells (enc y0)) 0 default)==PV.asStr (List.getD (PV.cells (enc y1)) 0 default)&&(PV.asInt (List.getD (PV.cells (enc y0)) (0+1) default)==PV.asInt (List.getD (PV.cells (enc y1)) (0+1) default)&&true)))=true then G ((.int .i64 1))else(At Qb 0 (Ze VO G) VQ 0 95 [(2,(.ptr 0 0)),(3,(.ptr 1 0)),(5,(.pv (.int .i64 (IntKind.wrap IntKind.i64 (i+1)))))] [(.obj (.box [(.pv (.int .i64 a.k)),(.pv (.sl 2 false (List.map enc a.t)))])),(.obj (.box [(.pv (.int .i64 b.k)),(.pv (.sl 2 false (List.map enc b.t)))]))]))else(if (!(PV.asStr (List.getD (PV.cells (enc y0)) 0 default)==PV.asStr (List.getD (PV.cells (enc y1)) 0 default)&&(PV.asInt (List.getD (PV.cells (enc y0)) (0+1) default)==PV.asInt (List.getD (PV.cells (enc y1)) (0+1) default)&&true)))=true then G ((.int .i64 1))else(At Qb 0 (Ze VO G) VQ 0 95 [(2,(.ptr 0 0)),(3,(.ptr 1 0)),(5,(.pv (.int .i64 (IntKind.wrap IntKind.i64 (i+1)))))] [(.obj (.box [(.pv (.int .i64 a.k)),(.pv (.sl 2 false (List.map enc a.t)))])),(.obj (.box [(.pv (.int .i64 b.k)),(.pv (.sl 2 false (List.map enc b.t)))]))])))))))else(if (decide ((↑(List.length (List.map enc a.t)):Int)<(↑(List.length (List.map enc b.t)):Int)))=true then G ((.int .i64 (-1)))else(if ((↑(List.length (List.map enc a.t)):Int)==(↑(List.length (List.map enc b.t)):Int))=true then if (decide (a.k<b.k))=true then G ((.int .i64 (-1)))else(if (decide ((↑(List.length (List.map enc a.t)):Int)>(↑(List.length (List.map enc b.t)):Int)))=true then G ((.int .i64 1))else(if (decide (a.k>b.k))=true then G ((.int .i64 1))else(G ((.int .i64 0)))))else(if (decide ((↑(List.length (List.map enc a.t)):Int)>(↑(List.length (List.map enc b.t)):Int)))=true then G ((.int .i64 1))else(if (decide (a.k>b.k))=true then G ((.int .i64 1))else(G ((.int .i64 0)))))))else(if (decide ((↑(List.length (List.map enc a.t)):Int)<(↑(List.length (List.map enc b.t)):Int)))=true then G ((.int .i64 (-1)))else(if ((↑(List.length (List.map enc a.t)):Int)==(↑(List.length (List.map enc b.t)):Int))=true then if (decide (a.k<b.k))=true then G ((.int .i64 (-1)))else(if (decide ((↑(List.length (List.map enc a.t)):Int)>(↑(List.length (List.map enc b.t)):Int)))=true then G ((.int .i64 1))else(if (decide (a.k>b.k))=true then G ((.int .i64 1))else(G ((.int .i64 0)))))else(if (decide ((↑(List.length (List.map enc a.t)):Int)>(↑(List.length (List.map enc b.t)):Int)))=true then G ((.int .i64 1))else(if (decide (a.k>b.k))=true then G ((.int .i64 1))else(G ((.int .i64 0)))))))):At Qb 0 (Ze VO G) VQ 0 95 [(2,.ptr 0 0),(3,.ptr 1 0),(5,.pv (.int .i64 i))] [.obj (.box [.pv (.int .i64 a.k),.pv (enc a.t)]),.obj (.box [.pv (.int .i64 b.k),.pv (enc b.t)])]:=At.tp (.lit (.ask (.lit (.lit (.lit (.lit (.lit (.lit (.ask (.req (.abs (Coef) (fun YY=>AV.pv (PV.rptr (PV.cells ((enc) YY)))) (.lit (.req (.abs (Coef) (fun YY=>AV.pv (PV.rptr (PV.cells ((enc) YY)))) (.lit (.lit (.ask (.lit (.lit (.lit (.lit (.lit (.lit (.lit (.lit (.nil))))))))) (.lit (.lit (.lit (.lit (.lit (.lit (.ask (.lit (.lit (.lit (.lit (.lit (.lit (.lit (.lit (.ask (.nil) (.lit (.ask (.nil) (.lit (.nil))))))))))))) (.lit (.lit (.lit (.lit (.lit (.lit (.lit (.lit (.lit (.ask (.nil) (.lit (.nil))))))))))))))))))))))))))) (.lit (.ask (.lit (.lit (.lit (.lit (.lit (.lit (.lit (.lit (.lit (.lit (.nil))))))))))) (.lit (.lit (.lit (.lit (.lit (.lit (.lit (.lit (.ask (.lit (.lit (.lit (.lit (.lit (.lit (.lit (.lit (.ask (.nil) (.lit (.ask (.lit (.lit (.lit (.lit (.lit (.lit (.nil))))))) (.lit (.lit (.lit (.lit (.lit (.lit (.ask (.nil) (.nil))))))))))))))))))) (.lit (.lit (.lit (.lit (.lit (.lit (.lit (.lit (.lit (.ask (.lit (.lit (.lit (.lit (.lit (.lit (.nil))))))) (.lit (.lit (.lit (.lit (.lit (.lit (.ask (.nil) (.nil)))))))))))))))))))))))))))))))))))) (.lit (.lit (.lit (.lit (.lit (.lit (.lit (.ask (.lit (.lit (.lit (.lit (.lit (.lit (.lit (.lit (.lit (.lit (.nil))))))))))) (.lit (.lit (.lit (.lit (.lit (.lit (.lit (.lit (.ask (.lit (.lit (.lit (.lit (.lit (.lit (.lit (.lit (.ask (.nil) (.lit (.ask (.lit (.lit (.lit (.lit (.lit (.lit (.nil))))))) (.lit (.lit (.lit (.lit (.lit (.lit (.ask (.nil) (.nil))))))))))))))))))) (.lit (.lit (.lit (.lit (.lit (.lit (.lit (.lit (.lit (.ask (.lit (.lit (.lit (.lit (.lit (.lit (.nil))))))) (.lit (.lit (.lit (.lit (.lit (.lit (.ask (.nil) (.nil))))))))))))))))))))))))))))))))))))) h (by kernel_rfl)
def PN:IC:=(.seq (.reg [⟨(some 2),(.box 2 (.t 0)),0,none⟩,⟨(some 3),(.box 2 (.t 1)),1,none⟩,⟨(some 4),(.mv (.c (.bool false))),2,none⟩] none) (.seq (.reg [⟨(some 5),(.load true [(.int .i64),(.sl 2)] (.t 2)),0,none⟩,⟨(some 6),(.load true [(.int .i64),(.sl 2)] (.t 3)),0,none⟩,⟨(some 7),(.call (.c (.fn 85)) [(.t 5),(.t 6)]),0,none⟩,⟨(some 8),(.bin .num .eql (.t 7) (.c (.int .i64 0))),2,none⟩,⟨(some 4),(.mv (.t 8)),2,none⟩] none) .ret))
def Rz:List IRes:=[(.tmp 4)]
abbrev a8k:Nat:=9
def a0s:ZI:=WL [(85,.pure (preT (fun x:Lin×Lin×Unit=>Zy x.1)) (Zj (fun x:Lin×Lin×Unit=>UQ x.1 x.2.1)))]
theorem a9j{G:PV->Prop}(a b:Lin)(h:(Go.Pl.preT (fun(x:Lin×Lin×Unit)=>Zy x.1) [(.agg [(.int .i64 a.k),(.sl 2 false (List.map enc a.t))]),(.agg [(.int .i64 b.k),(.sl 2 false (List.map enc b.t))])])=true∧(∃ y0:Int,AV.pv (Zj (fun(x:Lin×Lin×Unit)=>UQ x.1 x.2.1) [(.agg [(.int .i64 a.k),(.sl 2 false (List.map enc a.t))]),(.agg [(.int .i64 b.k),(.sl 2 false (List.map enc b.t))])])=AV.pv (enc y0)∧(G ((.bool (y0==0)))))):Zi a0s 0 (Ze Rz G) PN [] (Xw 9 [enc a,enc b]):=Zi.tp (.req (.abs (Int) (fun YY=>AV.pv (enc YY)) (.lit (.nil)))) h (by kernel_rfl)
end Go.Pl

namespace Go.Pl
open Go.RowKit
open Enc (enc dec is)
open EncL (encL decL isL)
theorem O5(c:UInt8):digB c=(decide ((c.toNat:Int) ≥ 48)&&decide ((c.toNat:Int)<=57)):=by
 simp only[digB,UInt8.le_iff_toNat_le,ge_iff_le]
 have e1:(48:UInt8).toNat=48:=rfl
 have e2:(57:UInt8).toNat=57:=rfl
 rw[e1,e2]
 congr 1 <;> exact decide_eq_decide.2 (by omega)
theorem EH(c:UInt8):lowB c=(decide ((c.toNat:Int) ≥ 97)&&decide ((c.toNat:Int)<=122)):=by
 simp only[lowB,UInt8.le_iff_toNat_le,ge_iff_le]
 have e1:(97:UInt8).toNat=97:=rfl
 have e2:(122:UInt8).toNat=122:=rfl
 rw[e1,e2]
 congr 1 <;> exact decide_eq_decide.2 (by omega)
theorem Db{a b:Bool}{G:PV->Prop}(h:G (.bool (a&&b))):if a=true then G (.bool b)else G (.bool false):=by cases a <;> simpa using h
theorem Og: ∀ a:UInt8×Unit,true=true->Zi Pe 0 (Ze BB (ZH (digB a.1))) HV [] (Xw a2k (encL a)):=by
 rintro⟨c,⟨⟩⟩ -
 exact a6o c (Db (Yi (O5 c).symm))
theorem FX: ∀ a:UInt8×Unit,true=true->Zi RS 0 (Ze BX (ZH (digB a.1))) Bb [] (Xw a5e (encL a)):=by
 rintro⟨c,⟨⟩⟩ -
 exact a9a c (Db (Yi (O5 c).symm))
theorem a0r: ∀ a:UInt8×Unit,true=true->Zi Rm 0 (Ze BZ (ZH (lowB a.1))) BQ [] (Xw a4b (encL a)):=by
 rintro⟨c,⟨⟩⟩ -
 exact a7i c (Db (Yi (EH c).symm))
theorem RQ: ∀ a:Int×Unit,true=true->Zi GN 0 (Ze Ju (ZH (Z5 a.1))) QH [] (Xw MF (encL a)):=by
 rintro⟨n,⟨⟩⟩ -
 exact FI n (Db (Yi rfl))
theorem a5t: ∀ a:Int×Unit,true=true->Zi a1w 0 (Ze Rw (ZH (Z5 a.1))) Rn [] (Xw a6t (encL a)):=by
 rintro⟨n,⟨⟩⟩ -
 exact b0b n (Db (Yi rfl))
theorem OG(s:List UInt8)(hs:s.length<=30): ∀ (j i:Nat),j+i=s.length->At XI 0 (Ze Y8 (ZH ((s.drop i).all digB))) Xb 0 62 [(0,.pv (.str s)),(3,.pv (.int .i64 i))] []:=by
 intro j
 induction j with
 | zero=>
  intro i hi
  refine AO s i ?_
  rw[if_neg (X9 (by omega))]
  exact Yi (by rw[List.drop_of_length_le (by omega)];rfl)
 | succ j ih=>
  intro i hi
  have hlt:i<s.length:=by omega
  refine AO s i ?_
  rw[if_pos (Wq hlt)]
  have eg:List.getD s (Int.toNat (i:Int)) 0=s[i]:=by simp[List.getD,hlt]
  rw[eg,next (by omega)]
  refine⟨by simp[hlt],Zn (s[i],()) rfl rfl,Zl (s[i],()) rfl ?_⟩
  rw[List.drop_eq_getElem_cons hlt,List.all_cons]
  show if (!digB s[i])=true then _ else _
  cases hd:digB s[i]
  ·exact Yi rfl
  ·rw[if_neg (by simp)]
   simpa using ih (i+1) (by omega)
theorem ET(s:List UInt8)(hs:s.length<=30): ∀ (j i:Nat),j+i=s.length->0<i->At XI 0 (Ze Y8 (ZH ((s.drop i).all fun c=>lowB c||digB c))) Xb 1 62 [(0,.pv (.str s)),(4,.pv (.int .i64 i))] []:=by
 intro j
 induction j with
 | zero=>
  intro i hi _
  refine Dw s i ?_
  rw[if_neg (X9 (by omega))]
  exact Yi (by rw[List.drop_of_length_le (by omega)];rfl)
 | succ j ih=>
  intro i hi h0
  have hlt:i<s.length:=by omega
  refine Dw s i ?_
  rw[if_pos (Wq hlt)]
  have eg:List.getD s (Int.toNat (i:Int)) 0=s[i]:=by simp[List.getD,hlt]
  rw[eg,next (by omega)]
  refine⟨by simp[hlt],Zn (s[i],()) rfl rfl,Zl (s[i],()) rfl ?_⟩
  rw[List.drop_eq_getElem_cons hlt,List.all_cons]
  show if (!lowB s[i])=true then _ else _
  cases hd:lowB s[i]
  ·rw[a6h,if_neg (by simp;omega)]
   refine⟨by simp[hlt],Zn (s[i],()) rfl rfl,Zl (s[i],()) rfl ?_⟩
   show if (!digB s[i])=true then _ else _
   cases hd:digB s[i]
   ·exact Yi rfl
   ·rw[if_neg (by simp)]
    simpa using ih (i+1) (by omega) (by omega)
  ·rw[if_neg (by simp)]
   simpa using ih (i+1) (by omega) (by omega)
theorem Lc: ∀ a:Str×Unit,true=true->Zi XI 0 (Ze Y8 (ZH (Zq a.1))) Xb [] (Xw Oh (encL a)):=by
 rintro⟨⟨s⟩,⟨⟩⟩ -
 refine a3n s ?_
 cases s with
 | nil=>exact Yi rfl
 | cons c r=>
  rw[if_neg (by simp;omega)]
  by_cases h30:((c::r).length:Int)>30
  ·rw[if_pos (by simpa using h30)]
   refine Yi ?_
   have : ¬ r.length<=29:=by simp at h30;omega
   have h9 : ¬ r.length<=9:=by omega
   simp[Zq,this,h9]
  ·rw[if_neg (by simpa using h30)]
   have hl:(c::r).length<=30:=by omega
   refine⟨by simp,?_⟩
   show if ((c.toNat:Int)==95)=true then _ else _
   by_cases hc:c=95
   ·subst hc
    rw[if_pos (by rfl)]
    simp only[Zq,if_true]
    cases r with
    | nil=>exact Yi rfl
    | cons d r=>
     rw[if_neg (by simp;omega)]
     by_cases h10:((95::d::r:List UInt8).length:Int)>10
     ·rw[if_pos (by simpa using h10)]
      refine Yi ?_
      have:decide ((d::r).length<=9)=false:=decide_eq_false (by simp at h10 ⊢;omega)
      rw[this,Bool.and_false]
     ·rw[if_neg (by simpa using h10)]
      refine⟨by simp,?_⟩
      show if ((d.toNat:Int)==48)=true then _ else _
      by_cases hd:d=48
      ·subst hd
       rw[if_pos (by rfl)]
       exact Yi (by simp)
      ·rw[if_neg (by exact a5w 48 hd (by omega))]
       have h:=OG (95::d::r) hl (d::r).length 1 (by simp)
       have e:(d::r).length<=9:=by simp at h10 ⊢;omega
       have e2:((d::r).all digB&& !(d::r).isEmpty&&decide ((d::r).head? ≠ some 48)&&decide ((d::r).length<=9))=(d::r).all digB:=by rw[decide_eq_true e,show decide ((d::r).head? ≠ some (48:UInt8))=true by simpa using hd];simp
       rw[e2]
       exact h
   ·rw[if_neg (by exact a5w 95 hc (by omega))]
    refine Dw (c::r) 0 ?_
    rw[if_pos (by simp)]
    refine⟨by simp,Zn (c,()) rfl rfl,Zl (c,()) rfl ?_⟩
    show if (!lowB c)=true then _ else _
    have en:Zq ⟨c::r⟩=(lowB c&&r.all (fun c=>lowB c||digB c)):=by
     have:r.length<=29:=by simp at hl;omega
     simp[Zq,hc,this]
    rw[en]
    cases hlow:lowB c
    ·rw[a6h,if_pos (by rfl)]
     exact Yi rfl
    ·rw[if_neg (by simp)]
     exact ET (c::r) hl r.length 1 (by simp) (by omega)
end Go.Pl

namespace Go.Pl
open Go.RowKit
open Enc (enc dec is)
open EncL (encL decL isL)
def H7(prev:Option (List UInt8)):List Coef->Bool
 | []=>true
 | t::r=>Zq t.v&&decide (t.c≠0)&&Z5 t.c&&(match prev with|none=>true|some p=>decide (p<t.v.s))&&H7 (some t.v.s) r
theorem KG(p:Option (List UInt8))(t:Coef)(r:List Coef):H7 p (t::r)=(Zq t.v&&decide (t.c≠0)&&Z5 t.c&&(match p with|none=>true|some p=>decide (p<t.v.s))&&H7 (some t.v.s) r):=by cases p <;> rfl
theorem TZ: ∀ (l:List Coef) (p:List UInt8),H7 (some p) l=(l.all (fun t=>Zq t.v&&decide (t.c≠0)&&Z5 t.c)&&(match l with|[]=>true|t::_=>decide (p<t.v.s))&&JZ l)
 | [],p=>by simp[H7,JZ]
 | t::r,p=>by
  rw[KG,TZ r]
  cases r with
  | nil=>simp[JZ]
  | cons u r=>
   simp only[List.all_cons,JZ]
   ac_rfl
theorem a0p(l:List Coef):H7 none l=(l.all (fun t=>Zq t.v&&decide (t.c≠0)&&Z5 t.c)&&JZ l):=by
 cases l with
 | nil=>simp[H7,JZ]
 | cons t r=>
  rw[KG,TZ r]
  cases r with
  | nil=>simp[JZ]
  | cons u r=>
   simp only[List.all_cons,JZ,Bool.and_true]
   ac_rfl
theorem Tj(l:Lin):Zh l=(Z5 l.k&&decide (l.t.length<=12)&&H7 none l.t):=by
 rw[a0p,Zh]
 ac_rfl
def OV(ts:List Coef):Nat->Option (List UInt8)
 | 0=>none
 | i+1=>(ts[i]?).map (·.v.s)
theorem P5{k:Nat}(h:k<9223372036854775807):IntKind.i64.wrap (((k+1:Nat):Int) - 1)=(k:Int):=by rw[QR (by omega) (by omega)];omega
theorem Rj(l:Lin)(hl:l.t.length<=9223372036854775807): ∀ (j i:Nat),j+i=l.t.length->At Wt 0 (Ze Xq (ZH (H7 (OV l.t i) (l.t.drop i)))) Xr 0 58 [(1,.ptr 0 0),(3,.pv (.int .i64 i))] [.obj (.box [.pv (.int .i64 l.k),.pv (enc l.t)])]:=by
 intro j
 induction j with
 | zero=>
  intro i hi
  refine CF l i ?_
  rw[if_neg (Co (by omega))]
  exact Yi (by rw[List.drop_of_length_le (by omega)];rfl)
 | succ j ih=>
  intro i hi
  have hlt:i<l.t.length:=by omega
  have h:=ih (i+1) (by omega)
  refine CF l i ?_
  simp only[co1,co2,co3,co4]
  refine YD (Ct hlt) ⟨Xy hlt rfl,WP hlt (Zl (l.t[i].v,()) rfl (Wv (fun hn=> ?_) fun hn=>Wu (fun hc=> ?_) fun hc=>Zl (l.t[i].c,()) rfl (Wv (fun hk=> ?_) fun hk=> ?_)))⟩
  all_goals rw[List.drop_eq_getElem_cons hlt,KG]
  ·have hn:Zq l.t[i].v=false:=hn
   exact Yi (by simp[hn])
  ·exact Yi (by simp[hc])
  ·have hk:Z5 l.t[i].c=false:=hk
   exact Yi (by simp[hk])
  have hn:Zq l.t[i].v=true:=hn
  have hk:Z5 l.t[i].c=true:=hk
  rw[next (by omega),hn,hk,decide_eq_true hc]
  have ep:OV l.t (i+1)=some l.t[i].v.s:=by simp[OV,hlt]
  rw[ep]at h
  cases i with
  | zero=>exact XG (by simp) h
  | succ i=>
   refine YD (by simp) ?_
   rw[P5 (by omega)]
   refine⟨Xy (by omega) rfl,WP (by omega) ?_⟩
   have e2:OV l.t (i+1)=some l.t[i].v.s:=by simp[OV,show i<l.t.length by omega]
   rw[e2]
   refine Wv (fun hb=> ?_) fun hb=> ?_
   all_goals
    have hb':=(Yj l.t[i].v.s l.t[i+1].v.s).symm.trans hb
    simp only[hb',Bool.and_true,Bool.true_and,Bool.and_false,Bool.false_and]
   ·exact Yi rfl
   ·exact h
theorem Pg: ∀ a:Lin×Unit,Zy a.1=true->Zi Wt 0 (Ze Xq (ZH (Zh a.1))) Xr [] (Xw Fv (encL a)):=by
 rintro⟨l,⟨⟩⟩ hl
 have hl:l.t.length<=9223372036854775807:=by simpa [Zy]using hl
 refine a2a l (Zl (l.k,()) rfl ?_)
 show if (!Z5 l.k)=true then _ else _
 show if (!Z5 l.k)=true then ZH (Zh l) _ else if _ then ZH (Zh l) _ else At Wt 0 (Ze Xq (ZH (Zh l))) Xr 0 58 _ _
 rw[Tj]
 cases hk:Z5 l.k
 ·exact Yi rfl
 rw[a9h]
 by_cases h12:l.t.length<=12
 ·rw[if_neg (by simp;omega)]
  have h:=Rj l hl l.t.length 0 (by omega)
  simp only[h12,decide_true,Bool.true_and]
  exact h
 ·rw[if_pos (by simp;omega)]
  exact Yi (by simp[h12])
theorem Fx(l:Lin)(n:Int)(hl:l.t.length<=9223372036854775807): ∀ (j i:Nat),j+i=l.t.length->At QT 0 (Ze Ux (ZH ((l.t.drop i).all (fun t=>decide (t.v.s.length<=40))&&decide ((l.t.length:Int)<=n)))) UG 0 26 [(1,.pv (.int .i64 n)),(2,.ptr 0 0),(5,.pv (.int .i64 i))] [.obj (.box [.pv (.int .i64 l.k),.pv (enc l.t)])]:=by
 intro j
 induction j with
 | zero=>
  intro i hi
  exact NN l n i (XG (Co (by omega)) (Yi (by rw[List.drop_of_length_le (by omega),List.length_map];rfl)))
 | succ j ih=>
  intro i hi
  have hlt:i<l.t.length:=by omega
  have h:=ih (i+1) (by omega)
  refine NN l n i (YD (Ct hlt) ⟨Xy hlt rfl,WP hlt ?_⟩)
  rw[List.drop_eq_getElem_cons hlt,List.all_cons,next (by omega)]
  refine XP (fun h40=> ?_) fun h40=> ?_
  ·have h40:(l.t[i].v.s.length:Int)>40:=h40
   exact Yi (by rw[decide_eq_false (show ¬ l.t[i].v.s.length<=40 by omega)];rfl)
  ·have h40 : ¬ (l.t[i].v.s.length:Int)>40:=h40
   rw[decide_eq_true (show l.t[i].v.s.length<=40 by omega),Bool.true_and]
   exact h
theorem O1: ∀ a:Lin×Int×Unit,Zy a.1=true->Zi QT 0 (Ze Ux (ZH (Al a.1 a.2.1))) UG [] (Xw a2w (encL a)):=by
 rintro⟨l,n,⟨⟩⟩ hl
 exact a8p l n (Fx l n (by simpa [Zy]using hl) l.t.length 0 (by omega))
end Go.Pl

namespace Go.Pl
open Go.RowKit
open Enc (enc dec is)
open EncL (encL decL isL)
end Go.Pl

namespace Go.Pl
open Go.RowKit
open Enc (enc dec is)
open EncL (encL decL isL)
def nS:Str:=⟨[110]⟩
theorem LA(x:List UInt8):Yu [x]=[x]:=by simp[Yu]
end Go.Pl

namespace Go.Pl
open Go.RowKit
open Enc (enc dec is)
open EncL (encL decL isL)
def GK(x y:List Coef)(a b:Int):Int:=if Ky x y≠0 then Ky x y else U3 a b
theorem Ll(a b:Lin)(hl:a.t.length<=9223372036854775807): ∀ (m i:Nat),m+i=a.t.length->i<=b.t.length->At Qb 0 (Ze VO (ZH (GK (a.t.drop i) (b.t.drop i) a.k b.k))) VQ 0 95 [(2,.ptr 0 0),(3,.ptr 1 0),(5,.pv (.int .i64 i))] [.obj (.box [.pv (.int .i64 a.k),.pv (enc a.t)]),.obj (.box [.pv (.int .i64 b.k),.pv (enc b.t)])]:=by
 intro m
 induction m with
 | zero=>
  intro i hi hb
  refine Nv a b i (XG (Co (by omega)) ?_)
  rw[List.drop_of_length_le (show a.t.length<=i by omega)]
  refine XP (fun h1=> ?_) fun h1=> ?_
  ·simp only[List.length_map]at h1
   refine Ur ?_
   obtain⟨t,r,e⟩ : ∃ t r,b.t.drop i=t::r:=by
    cases e:b.t.drop i with
    | nil=>have:=List.length_drop (l:=b.t) (i:=i);rw[e]at this;simp at this;omega
    | cons t r=>exact⟨t,r,rfl⟩
   rw[e];rfl
  ·simp only[List.length_map]at h1
   have e:b.t.drop i=[]:=List.drop_of_length_le (by omega)
   rw[e]
   have hlen:(List.length (List.map (enc:Coef->PV) a.t):Int)=(List.length (List.map (enc:Coef->PV) b.t):Int):=by simp;omega
   refine Wu (fun _=> ?_) fun h=>absurd hlen h
   have ec:GK [] [] a.k b.k=U3 a.k b.k:=by simp[GK,Ky]
   rw[ec]
   unfold U3
   refine XP (fun h2=>Ur (by rw[if_pos h2])) fun h2=>XP (fun h3=>by simp only[List.length_map]at h3;omega) fun h3=>XP (fun h4=>Ur (by rw[if_neg h2,if_pos h4])) fun h4=>Ur (by rw[if_neg h2,if_neg h4])
 | succ m ih=>
  intro i hi hb
  have hlt:i<a.t.length:=by omega
  refine Nv a b i (YD (Ct hlt) ?_)
  by_cases hlb:i<b.t.length
  ·have h:=ih (i+1) (by omega) (by omega)
   refine YD (Ct hlb) ⟨Xy hlt rfl,WP hlt ⟨Xy hlb rfl,WP hlb ?_⟩⟩
   rw[List.drop_eq_getElem_cons hlt,List.drop_eq_getElem_cons hlb,next (by omega)]
   generalize a.t[i]=x at h ⊢
   generalize b.t[i]=y at h ⊢
   obtain⟨⟨xv⟩,xc⟩:=x
   obtain⟨⟨yv⟩,yc⟩:=y
   refine Vi (fun h1=> ?_) fun h1=> ?_
   ·have h1:xv<yv:=by have:=(Yj xv yv).symm.trans h1;simpa using this
    exact Ur (by simp[GK,Ky,h1])
   have h1 : ¬ xv<yv:=by have:=(Yj xv yv).symm.trans h1;simpa using this
   refine Wu (fun h2=> ?_) fun h2=> ?_
   ·have h2:xv=yv:=h2
    subst h2
    refine XP (fun h3=> ?_) fun h3=> ?_
    ·have h3:xc<yc:=h3
     exact Ur (by simp[GK,Ky,h1,h3])
    have h3 : ¬ xc<yc:=h3
    refine Wv (fun h4=> ?_) fun h4=> ?_
    ·have h4:(xv==xv&&(xc==yc&&true))=false:=h4
     have h4:xc≠yc:=by simpa using h4
     exact Ur (by simp[GK,Ky,h1,h3,h4])
    ·have h4:(xv==xv&&(xc==yc&&true))=true:=h4
     have h4:xc=yc:=by simpa using h4
     subst h4
     have e:GK (⟨⟨xv⟩,xc⟩::a.t.drop (i+1)) (⟨⟨xv⟩,xc⟩::b.t.drop (i+1)) a.k b.k=GK (a.t.drop (i+1)) (b.t.drop (i+1)) a.k b.k:=by simp[GK,Ky,List.lt_irrefl xv]
     rw[e]
     exact h
   ·have h2 : ¬ xv=yv:=h2
    refine Wv (fun h4=>Ur (by simp[GK,Ky,h1,h2])) fun h4=> ?_
    have h4:(xv==yv&&(xc==yc&&true))=true:=h4
    simp[h2]at h4
  ·refine XG (Co hlb) ?_
   obtain⟨t,r,e⟩ : ∃ t r,a.t.drop i=t::r:=⟨_,_,List.drop_eq_getElem_cons hlt⟩
   rw[e,List.drop_of_length_le (show b.t.length<=i by omega)]
   refine XP (fun h1=>by simp only[List.length_map]at h1;omega) fun h1=>Wu (fun h2=>by simp only[List.length_map]at h2;omega) fun h2=>XP (fun h3=>Ur (by simp[GK,Ky])) fun h3=>by simp only[List.length_map]at h3;omega
theorem Eh: ∀ a:Lin×Lin×Unit,Zy a.1=true->Zi Qb 0 (Ze VO (ZH (UQ a.1 a.2.1))) VQ [] (Xw a4o (encL a)):=by
 rintro⟨a,b,⟨⟩⟩ hl
 exact a6v a b (Ll a b (by simpa [Zy]using hl) a.t.length 0 (by omega) (by omega))
def b1s(a b:Lin):Bool:=UQ a b==0
theorem a2c: ∀ a:Lin×Lin×Unit,Zy a.1=true->Zi a0s 0 (Ze Rz (ZH (b1s a.1 a.2.1))) PN [] (Xw a8k (encL a)):=by
 rintro⟨a,b,⟨⟩⟩ hl
 exact a9j a b ⟨Zn (a,b,()) rfl hl,Zl (a,b,()) rfl (Yi rfl)⟩
end Go.Pl

namespace Go.Pl
open Go.RowKit
open Enc (enc dec is)
open EncL (encL decL isL)
theorem Oi(ts:List Coef)(j:Nat)(x y:Coef):List.set (List.map enc ts) j (PV.withCells (enc y) (splice (PV.cells (enc y)) 0 (PV.cells (PV.agg (VK (PV.cells (enc x)) 0 [Sh.str,Sh.int .i64])))))=List.map enc (ts.set j x):=by
 rw[List.map_set]
 rfl
theorem FW{α:Type}(f:α->PV){l:List α}{k:Nat}(h:k<l.length):(l.map f).getD (0+(k:Int).toNat) default=f l[k]:=by rw[Nat.zero_add];exact Sj f h
theorem tri{x y:List UInt8}(h1 : ¬ x<y)(h2:x≠y):y<x:=Decidable.byContradiction fun h=>h2 (List.le_antisymm (List.not_lt.1 h) (List.not_lt.1 h1))
theorem NI(s:Str)(c:Int)(t:Coef)(r:List Coef):YL s c true (t::r)=(if t.v=s then⟨t.v,Yb (t.c+c)⟩else t)::YL s c true r:=by
 rw[YL];simp only[Bool.not_true,Bool.false_and,Bool.false_eq_true,if_false,Bool.true_or,List.nil_append];split <;> rfl
theorem QO(s:Str)(c:Int)(t:Coef)(r:List Coef):YL s c false (t::r)=if s.s<t.v.s then⟨s,c⟩::t::YL s c true r else if t.v=s then⟨t.v,Yb (t.c+c)⟩::YL s c true r else t::YL s c false r:=by
 rw[YL]
 by_cases h:s.s<t.v.s
 ·have : ¬ t.v=s:=fun e=>by rw[e]at h;exact List.lt_irrefl _ h
  simp[h,this]
 ·simp[h]
theorem CY(s:Str)(c:Int): ∀ (l:List Coef),(YL s c true l).length=l.length
 | []=>by simp[YL]
 | t::l=>by rw[NI];simp[CY s c l]
theorem Cy(s:Str)(c:Int): ∀ (l:List Coef),(YL s c false l).length<=l.length+1
 | []=>by simp[YL]
 | t::l=>by
  have h1:=CY s c l
  have h2:=Cy s c l
  rw[QO]
  split
  ·simp[h1]
  ·split <;> simp[h1] <;> omega
theorem FH(l:Lin)(s:Str)(c:Int):(Wh l s c).t.length<=l.t.length+1:=Nat.le_trans (List.length_filter_le _ _) (Cy s c l.t)
theorem QE{a b:Str}:a=b ↔ a.s=b.s:=⟨fun h=>by rw[h],fun h=>by cases a;cases b;cases h;rfl⟩
end Go.Pl

namespace Go.Pl
open Go.RowKit
open Enc (enc dec is)
open EncL (encL decL isL)
set_option maxRecDepth 100000
end Go.Pl

namespace Go.Pl
open Go.RowKit
open Enc (enc dec is)
open EncL (encL decL isL)
end Go.Pl

namespace Go.Pl
open Go.RowKit
open Enc (enc dec is)
open EncL (encL decL isL)
set_option maxRecDepth 100000
def Y7:IC:=(.seq (.reg [⟨(some 2),(.mv (.c (.bool false))),0,none⟩] none) (.seq (.seq (.reg [⟨(some 7),(.mv (.t 0)),0,none⟩,⟨(some 8),(.call (.c (.fn 152)) [(.t 7),(.c (.str [95]))]),0,none⟩] none) (.cond (.t 8) (.seq (.reg [⟨(some 10),(.mv (.t 0)),0,none⟩,⟨(some 11),(.strslc (.t 10) (some (.c (.int .i64 1))) none),0,none⟩,⟨(some 12),(.call (.c (.fn 182)) [(.t 11)]),0,none⟩,⟨(some 9),(.mv (.t 12)),2,none⟩,⟨(some 13),(.extract (.t 9) 0),2,none⟩,⟨(some 14),(.extract (.t 9) 1),2,none⟩,⟨(some 3),(.mv (.t 13)),2,none⟩,⟨(some 4),(.mv (.t 14)),2,none⟩] none) (.seq (.reg [⟨(some 15),(.mv (.t 4)),0,none⟩,⟨(some 16),(.bin .ifc .eql (.t 15) (.c .nili)),0,none⟩,⟨(some 17),(.mv (.t 16)),0,none⟩,⟨(some 18),(.mv (.t 3)),0,(some (17,true))⟩,⟨(some 19),(.bin .num .gtr (.t 18) (.c (.int .i64 0))),0,(some (17,true))⟩,⟨(some 20),(.pick (.t 17) (.t 19) (.c (.bool false))),0,none⟩,⟨(some 21),(.mv (.t 20)),0,none⟩,⟨(some 22),(.mv (.t 0)),0,(some (21,true))⟩,⟨(some 23),(.len 0 (.t 22)),0,(some (21,true))⟩,⟨(some 24),(.bin .num .leq (.t 23) (.c (.int .i64 10))),0,(some (21,true))⟩,⟨(some 25),(.pick (.t 21) (.t 24) (.c (.bool false))),0,none⟩,⟨(some 26),(.mv (.t 25)),0,none⟩,⟨(some 27),(.mv (.t 3)),0,(some (26,true))⟩,⟨(some 28),(.call (.c (.fn 76)) [(.t 27)]),0,(some (26,true))⟩,⟨(some 29),(.mv (.t 0)),2,(some (26,true))⟩,⟨(some 30),(.strslc (.t 29) (some (.c (.int .i64 1))) none),2,(some (26,true))⟩,⟨(some 31),(.bin .num .eql (.t 28) (.t 30)),2,(some (26,true))⟩,⟨(some 32),(.pick (.t 26) (.t 31) (.c (.bool false))),2,none⟩,⟨(some 2),(.mv (.t 32)),2,none⟩] (some [[],[0],[1,0],[2,1,0],[3,2,1,0],[2,4,1,0,3],[5,2,4,1,0,3],[6,5,2,4,1,0,3],[7,6,5,2,4,1,0,3],[8,6,7,5,2,4,1,0,3],[6,9,5,2,4,1,0,3,8,7],[10,6,9,5,2,4,1,0,3,8,7],[11,10,6,9,5,2,4,1,0,3,8,7],[12,11,10,6,9,5,2,4,1,0,3,8,7],[11,10,6,9,5,2,4,1,0,3,8,7],[14,11,10,6,9,5,2,4,1,0,3,8,7],[13,15,11,12,10,6,9,5,2,4,1,0,3,8,7,14],[11,16,10,6,9,5,2,4,1,0,3,8,7,13,15,12,14],[17,13,0,1,2,3,4,5,6,7,8,9,10,11,12,14,15,16]])) .ret)) .skip)) (.seq (.seq (.reg [⟨(some 33),(.mv (.t 0)),0,none⟩,⟨(some 34),(.sbytes (.t 33)),0,none⟩,⟨(some 35),(.len 1 (.t 34)),0,none⟩,⟨(some 36),(.mv (.c (.int .i64 0))),0,none⟩] none) (.block 0 (.loop [36,35,34,0] (.seq (.reg [⟨(some 37),(.bin .num .lss (.t 36) (.t 35)),0,none⟩] none) (.seq (.cond (.t 37) .skip (.exit 0)) (.seq (.block 1 (.seq (.reg [⟨(some 38),(.mv (.t 36)),0,none⟩,⟨(some 39),(.iaddr 1 (.t 34) (.t 36)),0,none⟩,⟨(some 40),(.load false [(.int .u8)] (.t 39)),0,none⟩,⟨(some 5),(.mv (.t 38)),0,none⟩,⟨(some 6),(.mv (.t 40)),0,none⟩] none) (.seq (.reg [⟨(some 41),(.mv (.t 6)),0,none⟩,⟨(some 42),(.bin .num .lss (.t 41) (.c (.int .u8 97))),0,none⟩,⟨(some 43),(.mv (.t 42)),0,none⟩,⟨(some 44),(.mv (.t 6)),0,(some (43,false))⟩,⟨(some 45),(.bin .num .gtr (.t 44) (.c (.int .u8 122))),0,(some (43,false))⟩,⟨(some 46),(.pick (.t 43) (.c (.bool true)) (.t 45)),0,none⟩,⟨(some 47),(.mv (.t 46)),0,none⟩,⟨(some 48),(.mv (.t 5)),0,(some (47,true))⟩,⟨(some 49),(.bin .num .eql (.t 48) (.c (.int .i64 0))),0,(some (47,true))⟩,⟨(some 50),(.mv (.t 49)),0,(some (47,true))⟩,⟨(some 51),(.mv (.t 6)),0,(some (50,false))⟩,⟨(some 52),(.bin .num .lss (.t 51) (.c (.int .u8 48))),0,(some (50,false))⟩,⟨(some 53),(.pick (.t 50) (.c (.bool true)) (.t 52)),0,(some (47,true))⟩,⟨(some 54),(.mv (.t 53)),0,(some (47,true))⟩,⟨(some 55),(.mv (.t 6)),0,(some (54,false))⟩,⟨(some 56),(.bin .num .gtr (.t 55) (.c (.int .u8 57))),0,(some (54,false))⟩,⟨(some 57),(.pick (.t 54) (.c (.bool true)) (.t 56)),0,(some (47,true))⟩,⟨(some 58),(.pick (.t 47) (.t 57) (.c (.bool false))),0,none⟩] none) (.cond (.t 58) (.seq (.reg [⟨(some 2),(.mv (.c (.bool false))),0,none⟩] none) .ret) .skip)))) (.reg [⟨(some 59),(.bin .num .add (.t 36) (.c (.int .i64 1))),0,none⟩,⟨(some 36),(.mv (.t 59)),0,none⟩] none))))))) (.seq (.reg [⟨(some 60),(.mv (.t 0)),0,none⟩,⟨(some 61),(.bin .num .neq (.t 60) (.c (.str []))),0,none⟩,⟨(some 62),(.mv (.t 61)),0,none⟩,⟨(some 63),(.mv (.t 0)),0,(some (62,true))⟩,⟨(some 64),(.len 0 (.t 63)),0,(some (62,true))⟩,⟨(some 65),(.bin .num .leq (.t 64) (.c (.int .i64 30))),0,(some (62,true))⟩,⟨(some 66),(.pick (.t 62) (.t 65) (.c (.bool false))),0,none⟩,⟨(some 2),(.mv (.t 66)),0,none⟩] none) .ret))))
def Xa:List IRes:=[(.tmp 2)]
abbrev a1m:Nat:=67
def XK:ZI:=WL [(152,.pure (preT (fun _:Str×Str×Unit=>true)) (Zj (fun x:Str×Str×Unit=>x.2.1.s.isPrefixOf x.1.s))),(182,.pure (preT (fun x:Str×Unit=>decide (x.1.s.length<=1000000))) (Zj (fun x:Str×Unit=>ZR x.1))),(76,.pure (preT (fun x:Int×Unit=>decide (-9223372036854775808<=x.1)&&decide (x.1<=9223372036854775807))) (Zj (fun x:Int×Unit=>ZB x.1)))]
theorem a4y{G:PV->Prop}(s:List UInt8)(h : ∃ y0:Bool,AV.pv (Zj (fun(x:Str×Str×Unit)=>List.isPrefixOf (Str.s x.2.1) (Str.s x.1)) [(.str s),(.str [(95:UInt8)])])=AV.pv (enc y0)∧(if (y0)=true then(decide (0<=1)&&true&&decide (Int.toNat 1<=List.length s)&&decide (List.length s<=List.length s))=true∧((Go.Pl.preT (fun(x:Str×Unit)=>decide (List.length (Str.s x.1)<=1000000)) [(.str (List.drop (Int.toNat 1) (List.take (List.length s) s)))])=true∧(∃ y1:Int×Er,AV.pv (Zj (fun(x:Str×Unit)=>ZR x.1) [(.str (List.drop (Int.toNat 1) (List.take (List.length s) s)))])=AV.pv (enc y1)∧((JF (enc y1.2)&&Prod.fst (true,PV.bool (WW (enc y1.2))))=true∧(if (WW (enc y1.2))=true then if (decide (y1.1>0))=true then if (decide ((↑(List.length s):Int)<=10))=true then(Go.Pl.preT (fun(x:Int×Unit)=>decide ((-9223372036854775808:Int)<=x.1)&&decide (x.1<=9223372036854775807)) [(.int .i64 y1.1)])=true∧(∃ y2:Str,AV.pv (Zj (fun(x:Int×Unit)=>ZB x.1) [(.int .i64 y1.1)])=AV.pv (enc y2)∧((decide (0<=1)&&true&&decide (Int.toNat 1<=List.length s)&&decide (List.length s<=List.length s))=true∧(G ((.bool (Str.s y2==List.drop (Int.toNat 1) (List.take (List.length s) s)))))))else(G ((.bool false)))else(G ((.bool false)))else(G ((.bool false)))))))else(At XK 0 (Ze Xa G) Y7 0 67 [(0,(.pv (.str s))),(34,(.pv (.sl 1 false (ZL s)))),(35,(.pv (.int .i64 (↑(List.length (ZL s)):Int)))),(36,(.pv (.int .i64 0)))] []))):Zi XK 0 (Ze Xa G) Y7 [] (Xw 67 [.str s]):=Zi.tp (.lit (.abs (Bool) (fun YY=>AV.pv (enc YY)) (.ask (.req (.req (.abs (Int×Er) (fun YY=>AV.pv (enc YY)) (.req (.ask (.lit (.lit (.lit (.ask (.lit (.lit (.lit (.lit (.ask (.lit (.req (.abs (Str) (fun YY=>AV.pv (enc YY)) (.lit (.lit (.req (.lit (.lit (.lit (.nil)))))))))) (.lit (.lit (.lit (.lit (.lit (.nil))))))))))) (.lit (.lit (.lit (.lit (.lit (.lit (.lit (.lit (.lit (.nil)))))))))))))) (.lit (.lit (.lit (.lit (.lit (.lit (.lit (.lit (.lit (.lit (.lit (.lit (.nil)))))))))))))))))) (.nil)))) h (by kernel_rfl)
theorem Su{G:PV->Prop}(s:List UInt8)(i:Int)(h:if (decide (i<(↑(List.length (ZL s)):Int)))=true then(decide (0<=i)&&decide (Int.toNat i<List.length (ZL s))&&1==1)=true∧((decide (0+List.length [Sh.int IntKind.u8]<=List.length (PV.cells (List.getD (ZL s) (Int.toNat i) default)))&&UY (PV.cells (List.getD (ZL s) (Int.toNat i) default)) 0 [Sh.int IntKind.u8])=true∧(if (decide (PV.asInt (List.getD (PV.cells (List.getD (ZL s) (Int.toNat i) default)) 0 default)<97))=true then if (i==0)=true then G ((.bool false))else(if (decide (PV.asInt (List.getD (PV.cells (List.getD (ZL s) (Int.toNat i) default)) 0 default)<48))=true then G ((.bool false))else(if (decide (PV.asInt (List.getD (PV.cells (List.getD (ZL s) (Int.toNat i) default)) 0 default)>57))=true then G ((.bool false))else(At XK 0 (Ze Xa G) Y7 0 67 [(0,(.pv (.str s))),(34,(.pv (.sl 1 false (ZL s)))),(35,(.pv (.int .i64 (↑(List.length (ZL s)):Int)))),(36,(.pv (.int .i64 (IntKind.wrap IntKind.i64 (i+1)))))] [])))else(if (decide (PV.asInt (List.getD (PV.cells (List.getD (ZL s) (Int.toNat i) default)) 0 default)>122))=true then if (i==0)=true then G ((.bool false))else(if (decide (PV.asInt (List.getD (PV.cells (List.getD (ZL s) (Int.toNat i) default)) 0 default)<48))=true then G ((.bool false))else(if (decide (PV.asInt (List.getD (PV.cells (List.getD (ZL s) (Int.toNat i) default)) 0 default)>57))=true then G ((.bool false))else(At XK 0 (Ze Xa G) Y7 0 67 [(0,(.pv (.str s))),(34,(.pv (.sl 1 false (ZL s)))),(35,(.pv (.int .i64 (↑(List.length (ZL s)):Int)))),(36,(.pv (.int .i64 (IntKind.wrap IntKind.i64 (i+1)))))] [])))else(At XK 0 (Ze Xa G) Y7 0 67 [(0,(.pv (.str s))),(34,(.pv (.sl 1 false (ZL s)))),(35,(.pv (.int .i64 (↑(List.length (ZL s)):Int)))),(36,(.pv (.int .i64 (IntKind.wrap IntKind.i64 (i+1)))))] []))))else(if (!s==[])=true then G ((.bool (decide ((↑(List.length s):Int)<=30))))else(G ((.bool false))))):At XK 0 (Ze Xa G) Y7 0 67 [(0,.pv (.str s)),(34,.pv (.sl 1 false (ZL s))),(35,.pv (.int .i64 (ZL s).length)),(36,.pv (.int .i64 i))] []:=At.tp (.lit (.ask (.req (.keep (.req (.lit (.ask (.lit (.lit (.lit (.lit (.lit (.lit (.ask (.lit (.lit (.lit (.lit (.lit (.lit (.lit (.lit (.lit (.lit (.nil))))))))))) (.lit (.lit (.lit (.lit (.lit (.ask (.lit (.lit (.lit (.lit (.lit (.nil)))))) (.lit (.lit (.lit (.lit (.lit (.ask (.nil) (.lit (.nil))))))))))))))))))))) (.lit (.lit (.lit (.ask (.lit (.lit (.lit (.ask (.lit (.lit (.lit (.lit (.lit (.lit (.lit (.lit (.lit (.lit (.nil))))))))))) (.lit (.lit (.lit (.lit (.lit (.ask (.lit (.lit (.lit (.lit (.lit (.nil)))))) (.lit (.lit (.lit (.lit (.lit (.ask (.nil) (.lit (.nil)))))))))))))))))) (.lit (.lit (.lit (.lit (.lit (.lit (.lit (.lit (.nil)))))))))))))))))) (.lit (.ask (.lit (.lit (.lit (.lit (.nil))))) (.lit (.lit (.lit (.nil)))))))) h (by kernel_rfl)
def Xn:IC:=(.seq (.reg [⟨(some 1),(.box 2 (.t 0)),0,none⟩,⟨(some 2),(.mv (.c (.bool false))),1,none⟩] none) (.seq (.seq (.reg [⟨(some 5),(.faddr 1 (.t 1)),0,none⟩,⟨(some 6),(.load false [(.sl 2)] (.t 5)),0,none⟩,⟨(some 7),(.len 1 (.t 6)),0,none⟩,⟨(some 8),(.mv (.c (.int .i64 0))),0,none⟩] none) (.block 0 (.loop [8,7,6,1] (.seq (.reg [⟨(some 9),(.bin .num .lss (.t 8) (.t 7)),0,none⟩] none) (.seq (.cond (.t 9) .skip (.exit 0)) (.seq (.block 1 (.seq (.reg [⟨(some 10),(.mv (.t 8)),0,none⟩,⟨(some 11),(.iaddr 2 (.t 6) (.t 8)),0,none⟩,⟨(some 12),(.load true [.str,(.int .i64)] (.t 11)),0,none⟩,⟨(some 4),(.alloc (.agg [(.str []),(.int .i64 0)])),0,none⟩,⟨(some 3),(.mv (.t 10)),1,none⟩,⟨none,(.store 2 (.t 4) (.t 12)),1,none⟩] none) (.seq (.reg [⟨(some 13),(.faddr 0 (.t 4)),0,none⟩,⟨(some 14),(.load false [.str] (.t 13)),0,none⟩,⟨(some 15),(.call (.c (.fn 119)) [(.t 14)]),0,none⟩,⟨(some 16),(.un .not (.t 15)),2,none⟩,⟨(some 17),(.mv (.t 16)),2,none⟩,⟨(some 18),(.faddr 1 (.t 4)),2,(some (17,false))⟩,⟨(some 19),(.load false [(.int .i64)] (.t 18)),2,(some (17,false))⟩,⟨(some 20),(.bin .num .eql (.t 19) (.c (.int .i64 0))),2,(some (17,false))⟩,⟨(some 21),(.pick (.t 17) (.c (.bool true)) (.t 20)),2,none⟩,⟨(some 22),(.mv (.t 21)),2,none⟩,⟨(some 23),(.faddr 1 (.t 4)),2,(some (22,false))⟩,⟨(some 24),(.load false [(.int .i64)] (.t 23)),2,(some (22,false))⟩,⟨(some 25),(.call (.c (.fn 144)) [(.t 24)]),2,(some (22,false))⟩,⟨(some 26),(.un .not (.t 25)),4,(some (22,false))⟩,⟨(some 27),(.pick (.t 22) (.c (.bool true)) (.t 26)),4,none⟩,⟨(some 28),(.mv (.t 27)),4,none⟩,⟨(some 29),(.mv (.t 3)),4,(some (28,false))⟩,⟨(some 30),(.bin .num .gtr (.t 29) (.c (.int .i64 0))),4,(some (28,false))⟩,⟨(some 31),(.mv (.t 30)),4,(some (28,false))⟩,⟨(some 32),(.faddr 1 (.t 1)),4,(some (31,true))⟩,⟨(some 33),(.load false [(.sl 2)] (.t 32)),4,(some (31,true))⟩,⟨(some 34),(.mv (.t 3)),4,(some (31,true))⟩,⟨(some 35),(.bin .num .sub (.t 34) (.c (.int .i64 1))),4,(some (31,true))⟩,⟨(some 36),(.iaddr 2 (.t 33) (.t 35)),4,(some (31,true))⟩,⟨(some 37),(.faddr 0 (.t 36)),4,(some (31,true))⟩,⟨(some 38),(.load false [.str] (.t 37)),4,(some (31,true))⟩,⟨(some 39),(.faddr 0 (.t 4)),4,(some (31,true))⟩,⟨(some 40),(.load false [.str] (.t 39)),4,(some (31,true))⟩,⟨(some 41),(.bin .num .geq (.t 38) (.t 40)),4,(some (31,true))⟩,⟨(some 42),(.pick (.t 31) (.t 41) (.c (.bool false))),4,(some (28,false))⟩,⟨(some 43),(.pick (.t 28) (.c (.bool true)) (.t 42)),4,none⟩] (some [[],[0],[1,0],[2,1,0],[3,2,1,0],[4,3,2,1,0],[5,4,3,2,1,0],[6,4,5,3,2,1,0],[4,7,3,2,1,0,6,5],[8,4,7,3,2,1,0,6,5],[9,8,4,7,3,2,1,0,6,5],[10,9,8,4,7,3,2,1,0,6,5],[11,9,10,8,4,7,3,2,1,0,6,5],[12,9,11,10,8,4,7,3,2,1,0,6,5],[9,13,8,4,7,3,2,1,0,6,5,12,11,10],[14,12,9,13,8,4,7,3,2,1,0,6,5,11,10],[15,14,12,9,13,8,4,7,3,2,1,0,6,5,11,10],[16,15,14,12,9,13,8,4,7,3,2,1,0,6,5,11,10],[17,15,16,14,12,9,13,8,4,7,3,2,1,0,6,5,11,10],[18,17,15,16,14,12,9,13,8,4,7,3,2,1,0,6,5,11,10],[19,18,17,15,16,14,12,9,13,8,4,7,3,2,1,0,6,5,11,10],[18,17,15,16,14,12,9,13,8,4,7,3,2,1,0,6,5,11,10],[21,18,17,15,16,14,12,9,13,8,4,7,3,2,1,0,6,5,11,10],[20,22,18,19,17,15,16,14,12,9,13,8,4,7,3,2,1,0,6,5,11,10,21],[23,18,20,22,19,17,15,16,14,12,9,13,8,4,7,3,2,1,0,6,5,11,10,21],[24,18,23,20,22,19,17,15,16,14,12,9,13,8,4,7,3,2,1,0,6,5,11,10,21],[18,17,15,16,14,12,9,13,8,4,7,3,2,1,0,6,5,11,10],[26,18,17,15,16,14,12,9,13,8,4,7,3,2,1,0,6,5,11,10],[25,27,18,24,23,20,22,19,17,15,16,14,12,9,13,8,4,7,3,2,1,0,6,5,11,10,21,26],[18,28,15,17,16,14,12,9,13,8,4,7,3,2,1,0,6,5,11,10,25,27,24,23,20,22,19,21,26],[15,29,14,12,9,13,8,4,7,3,2,1,0,6,5,11,10,18,28,17,16,25,27,24,23,20,22,19,21,26]])) (.cond (.t 43) (.seq (.reg [⟨(some 2),(.mv (.c (.bool false))),0,none⟩] none) .ret) .skip)))) (.reg [⟨(some 44),(.bin .num .add (.t 8) (.c (.int .i64 1))),0,none⟩,⟨(some 8),(.mv (.t 44)),0,none⟩] none))))))) (.seq (.reg [⟨(some 45),(.faddr 0 (.t 1)),0,none⟩,⟨(some 46),(.load false [(.int .i64)] (.t 45)),0,none⟩,⟨(some 47),(.call (.c (.fn 144)) [(.t 46)]),0,none⟩,⟨(some 48),(.mv (.t 47)),2,none⟩,⟨(some 49),(.faddr 1 (.t 1)),2,(some (48,true))⟩,⟨(some 50),(.load false [(.sl 2)] (.t 49)),2,(some (48,true))⟩,⟨(some 51),(.len 1 (.t 50)),2,(some (48,true))⟩,⟨(some 52),(.bin .num .leq (.t 51) (.c (.int .i64 12))),2,(some (48,true))⟩,⟨(some 53),(.pick (.t 48) (.t 52) (.c (.bool false))),2,none⟩,⟨(some 2),(.mv (.t 53)),2,none⟩] none) .ret)))
def Xt:List IRes:=[(.tmp 2)]
abbrev MK:Nat:=54
def X7:ZI:=WL [(144,.pure (preT (fun _:Int×Unit=>true)) (Zj (fun x:Int×Unit=>Z5 x.1))),(119,.pure (preT (fun x:Str×Unit=>decide (x.1.s.length<=1000000))) (Zj (fun x:Str×Unit=>Zq x.1)))]
theorem a1o{G:PV->Prop}(l:Lin)(h:At X7 0 (Ze Xt G) Xn 0 54 [(1,(.ptr 0 0)),(6,(.pv (.sl 2 false (List.map enc l.t)))),(7,(.pv (.int .i64 (↑(List.length (List.map enc l.t)):Int)))),(8,(.pv (.int .i64 0)))] [(.obj (.box [(.pv (.int .i64 l.k)),(.pv (.sl 2 false (List.map enc l.t)))]))]):Zi X7 0 (Ze Xt G) Xn [] (Xw 54 [enc l]):=Zi.tp (.nil) h (by kernel_rfl)
theorem Cb{G:PV->Prop}(l:Lin)(i:Int)(h:if (decide (i<(↑(List.length l.t):Int)))=true then(decide (0<=i)&&decide (Int.toNat i<List.length (List.map enc l.t))&&Enc.sz Coef==2)=true∧(∃ y0:Coef,AV.pv (PV.rptr (PV.cells (List.getD (List.map enc l.t) (Int.toNat i) default)))=AV.pv (PV.rptr (PV.cells ((enc) y0)))∧((Go.Pl.preT (fun(x:Str×Unit)=>decide (List.length (Str.s x.1)<=1000000)) [(.str (PV.asStr (List.getD (PV.cells (enc y0)) 0 default)))])=true∧(∃ y1:Bool,AV.pv (Zj (fun(x:Str×Unit)=>Zq x.1) [(.str (PV.asStr (List.getD (PV.cells (enc y0)) 0 default)))])=AV.pv (enc y1)∧(if (!y1)=true then G ((.bool false))else(if (PV.asInt (List.getD (PV.cells (enc y0)) (0+1) default)==0)=true then G ((.bool false))else(∃ y2:Bool,AV.pv (Zj (fun(x:Int×Unit)=>Z5 x.1) [(.int .i64 (PV.asInt (List.getD (PV.cells (enc y0)) (0+1) default)))])=AV.pv (enc y2)∧(if (!y2)=true then G ((.bool false))else(if (decide (i>0))=true then(decide (0<=IntKind.wrap IntKind.i64 (i - 1))&&decide (Int.toNat (IntKind.wrap IntKind.i64 (i - 1))<List.length (List.map enc l.t))&&Enc.sz Coef==2)=true∧(∃ y3:Coef,AV.pv (PV.rptr (PV.cells (List.getD (List.map enc l.t) (Int.toNat (IntKind.wrap IntKind.i64 (i - 1))) default)))=AV.pv (PV.rptr (PV.cells ((enc) y3)))∧(if (!Op.bytesLess (PV.asStr (List.getD (List.drop 0 (PV.cells (enc y3))) 0 default)) (PV.asStr (List.getD (PV.cells (enc y0)) 0 default)))=true then G ((.bool false))else(At X7 0 (Ze Xt G) Xn 0 54 [(1,(.ptr 0 0)),(6,(.pv (.sl 2 false (List.map enc l.t)))),(7,(.pv (.int .i64 (↑(List.length l.t):Int)))),(8,(.pv (.int .i64 (IntKind.wrap IntKind.i64 (i+1)))))] [(.obj (.box [(.pv (.int .i64 l.k)),(.pv (.sl 2 false (List.map enc l.t)))]))])))else(At X7 0 (Ze Xt G) Xn 0 54 [(1,(.ptr 0 0)),(6,(.pv (.sl 2 false (List.map enc l.t)))),(7,(.pv (.int .i64 (↑(List.length l.t):Int)))),(8,(.pv (.int .i64 (IntKind.wrap IntKind.i64 (i+1)))))] [(.obj (.box [(.pv (.int .i64 l.k)),(.pv (.sl 2 false (List.map enc l.t)))]))])))))))))else(∃ y4:Bool,AV.pv (Zj (fun(x:Int×Unit)=>Z5 x.1) [(.int .i64 l.k)])=AV.pv (enc y4)∧(if (y4)=true then G ((.bool (decide ((↑(List.length (List.map enc l.t)):Int)<=12))))else(G ((.bool false)))))):At X7 0 (Ze Xt G) Xn 0 54 [(1,.ptr 0 0),(6,.pv (enc l.t)),(7,.pv (.int .i64 l.t.length)),(8,.pv (.int .i64 i))] [.obj (.box [.pv (.int .i64 l.k),.pv (enc l.t)])]:=At.tp (.lit (.ask (.req (.abs (Coef) (fun YY=>AV.pv (PV.rptr (PV.cells ((enc) YY)))) (.lit (.req (.abs (Bool) (fun YY=>AV.pv (enc YY)) (.ask (.lit (.lit (.lit (.lit (.lit (.lit (.lit (.lit (.lit (.lit (.lit (.lit (.lit (.lit (.nil))))))))))))))) (.lit (.lit (.lit (.lit (.ask (.lit (.lit (.lit (.lit (.lit (.lit (.lit (.lit (.lit (.lit (.nil))))))))))) (.lit (.lit (.lit (.abs (Bool) (fun YY=>AV.pv (enc YY)) (.lit (.lit (.ask (.lit (.lit (.lit (.lit (.lit (.nil)))))) (.lit (.lit (.lit (.ask (.lit (.lit (.lit (.lit (.lit (.req (.abs (Coef) (fun YY=>AV.pv (PV.rptr (PV.cells ((enc) YY)))) (.lit (.lit (.lit (.lit (.lit (.lit (.lit (.lit (.lit (.lit (.ask (.nil) (.lit (.nil)))))))))))))))))))) (.lit (.lit (.lit (.lit (.lit (.lit (.lit (.lit (.lit (.lit (.lit (.lit (.lit (.lit (.nil))))))))))))))))))))))))))))))))))))) (.lit (.abs (Bool) (fun YY=>AV.pv (enc YY)) (.ask (.lit (.lit (.lit (.lit (.lit (.nil)))))) (.lit (.lit (.lit (.lit (.nil)))))))))) h (by kernel_rfl)
end Go.Pl

namespace Go.Pl
open Go.RowKit
open Enc (enc dec is)
open EncL (encL decL isL)
theorem a1k{s:List UInt8}{i:Nat}(h:i<s.length):List.getD (ZL s) (Int.toNat (i:Int)) default = .int .u8 (s[i].toNat:Int):=by
 simp[ZL,List.getD,h]
theorem Jy(s:List UInt8):(ZL s).length=s.length:=by simp[ZL]
def TF(c:UInt8):Bool:=lowB c||digB c
theorem Nb{c:UInt8}:lowB c=true ↔ 97<=c.toNat∧c.toNat<=122:=by
 simp only[lowB,Bool.and_eq_true,decide_eq_true_eq,UInt8.le_iff_toNat_le]
 have e1:(97:UInt8).toNat=97:=rfl
 have e2:(122:UInt8).toNat=122:=rfl
 rw[e1,e2]
theorem Ci{c:UInt8}(h : ¬ (97<=c.toNat∧c.toNat<=122)):lowB c=false:=by
 cases e:lowB c
 ·rfl
 ·exact absurd (Nb.1 e) h
theorem CZ{c:UInt8}(h : ¬ (48<=c.toNat∧c.toNat<=57)):digB c=false:=by
 cases e:digB c
 ·rfl
 ·exact absurd (YO.1 e) h
def Ww(s:List UInt8)(i:Nat):Bool:=(match i with|0=>(match s with|[]=>true|c::r=>lowB c&&r.all TF)|i+1=>(s.drop (i+1)).all TF)&&(!(s==[]))&&decide (s.length<=30)
theorem L6{s:List UInt8}{i:Nat}(h:i<s.length)(hb:lowB s[i]=true∨(i≠0∧digB s[i]=true)):Ww s i=Ww s (i+1):=by
 cases i with
 | zero=>
  cases s with
  | nil=>simp at h
  | cons c r=>
   rcases hb with hb|hb
   ·have hb:lowB c=true:=hb
    simp[Ww,hb]
   ·exact absurd rfl hb.1
 | succ i=>
  unfold Ww
  simp only
  rw[List.drop_eq_getElem_cons h,List.all_cons]
  have:TF s[i+1]=true:=by
   rcases hb with hb|hb
   ·simp[TF,hb]
   ·simp[TF,hb.2]
  rw[this,Bool.true_and]
theorem LH{s:List UInt8}{i:Nat}(h:i<s.length)(hb:lowB s[i]=false∧(i=0∨digB s[i]=false)):Ww s i=false:=by
 cases i with
 | zero=>
  cases s with
  | nil=>simp at h
  | cons c r=>
   have hb:lowB c=false:=hb.1
   simp[Ww,hb]
 | succ i=>
  unfold Ww
  simp only
  rw[List.drop_eq_getElem_cons h,List.all_cons]
  have:TF s[i+1]=false:=by
   rcases hb.2 with h0|h0
   ·cases h0
   ·simp[TF,hb.1,h0]
  rw[this];simp
theorem RU(s:List UInt8)(hs:s.length<=1000000): ∀ (m i:Nat),m+i=s.length->At XK 0 (Ze Xa (ZH (Ww s i))) Y7 0 67 [(0,.pv (.str s)),(34,.pv (.sl 1 false (ZL s))),(35,.pv (.int .i64 (ZL s).length)),(36,.pv (.int .i64 i))] []:=by
 intro m
 induction m with
 | zero=>
  intro i hi
  have e:Ww s i=(!(s==[])&&decide (s.length<=30)):=by
   unfold Ww
   cases i with
   | zero=>cases s with
    | nil=>rfl
    | cons c r=>simp at hi
   | succ i=>simp only;rw[List.drop_of_length_le (show s.length<=i+1 by omega)];simp
  rw[e]
  refine Su s i (XG (X9 (by rw[Jy];omega)) (Vi (fun h=>Yi ?_) fun h=>Yi ?_))
  ·rw[h,Bool.true_and];exact decide_eq_decide.2 (by omega)
  ·rw[h,Bool.false_and]
 | succ m ih=>
  intro i hi
  have hlt:i<s.length:=by omega
  have h:=ih (i+1) (by omega)
  refine Su s i ?_
  rw[a1k hlt,next (by omega)]
  have stop:(lowB s[i]=false∧(i=0∨digB s[i]=false))->ZH (Ww s i) (.bool false):=fun hb=>Yi (LH hlt hb).symm
  have go:(lowB s[i]=true∨(i≠0∧digB s[i]=true))->At XK 0 (Ze Xa (ZH (Ww s i))) Y7 0 67 [(0,.pv (.str s)),(34,.pv (.sl 1 false (ZL s))),(35,.pv (.int .i64 (ZL s).length)),(36,.pv (.int .i64 ((i+1:Nat):Int)))] []:=fun hb=>by rw[L6 hlt hb];exact h
  have rest:lowB s[i]=false->(if ((i:Int)==0)=true then ZH (Ww s i) (.bool false)else if decide ((s[i].toNat:Int)<48)=true then ZH (Ww s i) (.bool false)else if decide ((s[i].toNat:Int)>57)=true then ZH (Ww s i) (.bool false)else At XK 0 (Ze Xa (ZH (Ww s i))) Y7 0 67 [(0,.pv (.str s)),(34,.pv (.sl 1 false (ZL s))),(35,.pv (.int .i64 (ZL s).length)),(36,.pv (.int .i64 ((i+1:Nat):Int)))] []):=by
   intro hl
   refine Wu (fun h0=>stop ⟨hl,.inl (by omega)⟩) fun h0=>XP (fun h1=>stop ⟨hl,.inr (CZ (by omega))⟩) fun h1=>XP (fun h2=>stop ⟨hl,.inr (CZ (by omega))⟩) fun h2=>go (.inr ⟨by omega,YO.2 (by omega)⟩)
  refine YD (Wq (by rw[Jy];exact hlt)) ⟨by rw[Jy];simp[hlt],by rfl,?_⟩
  refine XP (fun h1=>rest (Ci ?_)) fun h1=>XP (fun h2=>rest (Ci ?_)) fun h2=>go (.inl (Nb.2 ?_))
  ·have h1:(s[i].toNat:Int)<97:=h1
   omega
  ·have h2:(s[i].toNat:Int)>122:=h2
   omega
  ·have h1 : ¬ (s[i].toNat:Int)<97:=h1
   have h2 : ¬ (s[i].toNat:Int)>122:=h2
   omega
theorem Lj{s:List UInt8}(h:[95].isPrefixOf s=false):Zq ⟨s⟩=Ww s 0:=by
 cases s with
 | nil=>rfl
 | cons c r=>
  have hc : ¬ c=95:=by intro e;subst e;simp at h
  have e:decide ((c::r).length<=30)=decide (r.length<=29):=decide_eq_decide.2 (by simp)
  unfold Ww
  rw[e]
  simp only[Zq,if_neg hc]
  show _=(lowB c&&r.all TF&& !((c::r)==[])&&_)
  have e2:((c::r)==[])=false:=rfl
  rw[e2]
  simp only[Bool.not_false,Bool.and_true]
  rfl
theorem RN(s:Str): -9223372036854775808<=(ZR s).1∧((ZR s).1<=9223372036854775807):=by
 unfold ZR
 split
 ·rename_i v hv;exact Lib.atoiAll_bounds hv
 ·have:=Lib.atoiSat_bounds s.s
  exact⟨by show _<=Lib.atoiSat s.s;omega,by show Lib.atoiSat s.s<=_;omega⟩
 ·exact⟨by show(-9223372036854775808:Int)<=0;omega,by show(0:Int)<=_;omega⟩
theorem MI: ∀ a:Str×Unit,decide (a.1.s.length<=1000000)=true->Zi XK 0 (Ze Xa (ZH (Zq a.1))) Y7 [] (Xw a1m (encL a)):=by
 rintro⟨⟨s⟩,⟨⟩⟩ hl
 have hl:s.length<=1000000:=by simpa using hl
 refine a4y s (Zl (⟨s⟩,⟨[95]⟩,()) rfl (Vi (fun h=> ?_) fun h=> ?_))
 ·have h:[95].isPrefixOf s=true:=h
  obtain⟨r,rfl⟩ : ∃ r,s=95::r:=by
   cases s with
   | nil=>simp at h
   | cons c r=>
    have:95=c:=by simpa using h
    exact⟨r,by rw[this]⟩
  have e1:List.drop (Int.toNat 1) (List.take (List.length (95::r)) (95::r))=r:=by rw[List.take_of_length_le (Nat.le_refl _)];rfl
  simp only[e1]
  refine⟨by simp,Zn (⟨r⟩,()) rfl (by simp at hl ⊢;omega),Zl (⟨r⟩,()) rfl ⟨by show(JF (enc (ZR ⟨r⟩).2)&&true)=true;rw[b0g];rfl,?_⟩⟩
  show if WW (enc (ZR ⟨r⟩).2)=true then(if decide ((ZR ⟨r⟩).1>0)=true then(if _ then _ else ZH (Zq ⟨95::r⟩) _)else ZH (Zq ⟨95::r⟩) _)else ZH (Zq ⟨95::r⟩) _
  rw[a0q]
  by_cases h9:r.length<=9
  ·rw[<- a4f r h9,decide_eq_true h9,Bool.and_true]
   refine Vi (fun h1=>Vi (fun h2=>YD (by simp;omega) ⟨Zn ((ZR ⟨r⟩).1,()) rfl (by have:=RN ⟨r⟩;simp;omega),Zl ((ZR ⟨r⟩).1,()) rfl ⟨by simp,Yi ?_⟩⟩) fun h2=>Yi ?_) fun h1=>Yi ?_
   ·rw[h1,h2];simp only[Bool.true_and,Bool.and_true];rfl
   ·rw[h2];simp
   ·rw[h1];simp
  ·rw[decide_eq_false h9,Bool.and_false]
   refine Vi (fun h1=>Vi (fun h2=>XG (by simp;omega) (Yi rfl)) fun h2=>Yi rfl) fun h1=>Yi rfl
 ·have h:[95].isPrefixOf s=false:=h
  show At XK 0 (Ze Xa (ZH (Zq ⟨s⟩))) Y7 0 67 _ _
  rw[Lj h]
  exact RU s hl s.length 0 (by omega)
theorem AU(l:Lin)(hl:l.t.length<=9223372036854775807)(hs:l.t.all (fun t=>decide (t.v.s.length<=1000000))=true): ∀ (j i:Nat),j+i=l.t.length->At X7 0 (Ze Xt (ZH (H7 (OV l.t i) (l.t.drop i)&&(Z5 l.k&&decide (l.t.length<=12))))) Xn 0 54 [(1,.ptr 0 0),(6,.pv (enc l.t)),(7,.pv (.int .i64 l.t.length)),(8,.pv (.int .i64 i))] [.obj (.box [.pv (.int .i64 l.k),.pv (enc l.t)])]:=by
 intro j
 induction j with
 | zero=>
  intro i hi
  refine Cb l i (XG (X9 (by omega)) (Zl (l.k,()) rfl ?_))
  rw[List.drop_of_length_le (show l.t.length<=i by omega)]
  refine Vi (fun h=>Yi ?_) fun h=>Yi ?_
  ·have h:Z5 l.k=true:=h
   rw[h]
   show _=(true&&(true&&_))
   rw[Bool.true_and,Bool.true_and]
   exact decide_eq_decide.2 (by simp;omega)
  ·have h:Z5 l.k=false:=h
   rw[h];simp
 | succ j ih=>
  intro i hi
  have hlt:i<l.t.length:=by omega
  have h:=ih (i+1) (by omega)
  have hsi:l.t[i].v.s.length<=1000000:=by rw[List.all_eq_true]at hs;simpa using hs _ (List.getElem_mem hlt)
  refine Cb l i ?_
  refine YD (Wq hlt) ⟨Xy hlt rfl,WP hlt ⟨Zn (l.t[i].v,()) rfl (by simpa using hsi),Zl (l.t[i].v,()) rfl (Wv (fun hn=> ?_) fun hn=>Wu (fun hc=> ?_) fun hc=>Zl (l.t[i].c,()) rfl (Wv (fun hk=> ?_) fun hk=> ?_))⟩⟩
  all_goals rw[List.drop_eq_getElem_cons hlt,KG]
  ·have hn:Zq l.t[i].v=false:=hn
   exact Yi (by simp[hn])
  ·have hc:l.t[i].c=0:=hc
   exact Yi (by simp[hc])
  ·have hk:Z5 l.t[i].c=false:=hk
   exact Yi (by simp[hk])
  have hn:Zq l.t[i].v=true:=hn
  have hk:Z5 l.t[i].c=true:=hk
  have hc:l.t[i].c≠0:=hc
  rw[next (by omega),hn,hk,decide_eq_true hc]
  have ep:OV l.t (i+1)=some l.t[i].v.s:=by simp[OV,hlt]
  rw[ep]at h
  cases i with
  | zero=>exact XG (by simp) h
  | succ i=>
   refine YD (by simp) ?_
   rw[P5 (by omega)]
   refine⟨Xy (by omega) rfl,WP (by omega) ?_⟩
   have e2:OV l.t (i+1)=some l.t[i].v.s:=by simp[OV,show i<l.t.length by omega]
   rw[e2]
   refine Wv (fun hb=> ?_) fun hb=> ?_
   all_goals
    have hb':=(Yj l.t[i].v.s l.t[i+1].v.s).symm.trans hb
    simp only[hb',Bool.and_true,Bool.true_and,Bool.and_false,Bool.false_and]
   ·exact Yi rfl
   ·exact h
theorem Rp: ∀ a:Lin×Unit,Zt a.1=true->Zi X7 0 (Ze Xt (ZH (Zh a.1))) Xn [] (Xw MK (encL a)):=by
 rintro⟨l,⟨⟩⟩ hl
 simp only[Zt,Zy,Bool.and_eq_true,decide_eq_true_eq]at hl
 refine a1o l ?_
 show At X7 0 (Ze Xt (ZH (Zh l))) Xn 0 54 _ _
 have e:Zh l=(H7 (OV l.t 0) (l.t.drop 0)&&(Z5 l.k&&decide (l.t.length<=12))):=by rw[Tj,Bool.and_comm];rfl
 rw[e,List.length_map]
 exact AU l hl.1 hl.2 l.t.length 0 (by omega)
end Go.Pl

namespace Go.Pl
open Go.RowKit
open Enc (enc dec is)
open EncL (encL decL isL)
structure LR where
 k:Int
 w:Nat
 ts:List Coef
def LR.view(r:LR):Lin:=⟨r.k,r.ts.take r.w⟩
def LR.av(r:LR)(l:Nat):AV:=.agg [.pv (.int .i64 r.k),.row l r.ts.length 0 r.w]
def LR.ob(r:LR):AObj:=.row false 61 2 (r.ts.map enc)
def Qg:Nat->Nat->Nat->List Coef->List Coef×Nat
 | 0,_,j,ts=>(ts,j)
 | m+1,i,j,ts=>if (ts.getD i ⟨⟨[]⟩,0⟩).c=0 then Qg m (i+1) j ts else Qg m (i+1) (j+1) (ts.set j (ts.getD i ⟨⟨[]⟩,0⟩))
def CR(k:Int)(o:List Coef):LR:=⟨k,(Qg o.length 0 0 o).2,(Qg o.length 0 0 o).1⟩
def JD(l:Lin)(s:Str)(c:Int):LR:=CR l.k (YL s c false l.t)
theorem Jm(o:List Coef): ∀ (m i j:Nat) (ts:List Coef),m+i=o.length->ts.length=o.length->j<=i->ts.take j=(o.take i).filter (fun t=>decide (t.c≠0))->ts.drop i=o.drop i->(Qg m i j ts).1.take (Qg m i j ts).2=o.filter fun t=>decide (t.c≠0)
 | 0,i,j,ts,hm,hts,hji,h1,h2=>by
  rw[Qg]
  show ts.take j=_
  rw[h1,List.take_of_length_le (by omega)]
 | m+1,i,j,ts,hm,hts,hji,h1,h2=>by
  have hlt:i<o.length:=by omega
  have hi':i<ts.length:=by omega
  have hj':j<ts.length:=by omega
  have ei:ts[i]=o[i]:=by
   have:(ts.drop i)[0]? = (o.drop i)[0]? :=by rw[h2]
   simpa [hi',hlt]using this
  have htk:(o.take (i+1))=o.take i++[o[i]]:=by rw[List.take_add_one,List.getElem?_eq_getElem hlt];rfl
  have eg:ts.getD i ⟨⟨[]⟩,0⟩=ts[i]:=by simp[List.getD,hi']
  rw[Qg,eg]
  split
  ·rename_i hz
   refine Jm o m (i+1) j ts (by omega) hts (by omega) ?_ ?_
   ·rw[h1,htk,List.filter_append]
    have:o[i].c=0:=by rw[<- ei];exact hz
    simp[this]
   ·have:=congrArg (List.drop 1) h2
    simpa [List.drop_drop,Nat.add_comm]using this
  ·rename_i hz
   refine Jm o m (i+1) (j+1) (ts.set j ts[i]) (by omega) (by simp[hts]) (by omega) ?_ ?_
   ·rw[htk,List.filter_append,<- h1]
    have:decide (o[i].c≠0)=true:=by rw[<- ei];exact decide_eq_true hz
    simp only[List.filter_cons,this,if_true,List.filter_nil]
    rw[List.take_add_one,List.getElem?_set_self hj',List.take_set_of_le (Nat.le_refl j),ei]
    rfl
   ·rw[List.drop_set_of_lt (by omega)]
    have:=congrArg (List.drop 1) h2
    simpa [List.drop_drop,Nat.add_comm]using this
theorem RD(l:Lin)(s:Str)(c:Int):(JD l s c).view=Wh l s c:=by
 show(⟨_,_⟩:Lin)=⟨_,_⟩
 congr 1
 exact Jm _ _ 0 0 _ (by omega) rfl (by omega) (by simp) rfl
def Qw:List AV->List AObj->Bool
 | [.pv l,.pv (.str s),.pv (.int .i64 c)],[]=>FE Lin l&&decide ((dec l:Lin).t.length<=1000000)
 | _,_=>false
def Du(r:LR)(l:Nat)(os:List AObj):AV×List AObj×List AObj:=(r.av l,os,[r.ob])
def Qu:List AV->List AObj->AV×List AObj×List AObj
 | [.pv l,.pv (.str s),.pv (.int .i64 c)],_=>Du (JD (dec l) ⟨s⟩ c) 0 []
 | _,_=>Wm
def a9y:PV:=.agg [.int .i64 0,.sl 0 true []]
end Go.Pl

namespace Go.Pl
open Go.RowKit
open Enc (enc dec is)
open EncL (encL decL isL)
set_option maxRecDepth 100000
def Zz:IC:=(.seq (.reg [⟨(some 3),(.box 2 (.t 0)),0,none⟩,⟨(some 6),(.alloc (.agg [(.int .i64 0),(.sl 0 true [])])),1,none⟩] none) (.seq (.reg [⟨(some 13),(.faddr 0 (.t 3)),0,none⟩,⟨(some 14),(.load false [(.int .i64)] (.t 13)),0,none⟩,⟨(some 15),(.build [(.int .i64 0),(.sl 0 true [])] [(0,(1,(.t 14)))]),0,none⟩,⟨(some 7),(.alloc (.agg [(.int .i64 0),(.sl 0 true [])])),0,none⟩,⟨none,(.store 2 (.t 7) (.t 15)),1,none⟩] none) (.seq (.reg [⟨(some 8),(.mv (.c (.bool false))),0,none⟩] none) (.seq (.seq (.reg [⟨(some 9),(.mv (.c (.int .i64 0))),0,none⟩] none) (.block 0 (.loop [9,3,8,1,7,2,6] (.seq (.seq (.reg [⟨(some 16),(.mv (.t 9)),0,none⟩,⟨(some 17),(.faddr 1 (.t 3)),0,none⟩,⟨(some 18),(.load false [(.sl 2)] (.t 17)),0,none⟩,⟨(some 19),(.len 1 (.t 18)),0,none⟩,⟨(some 20),(.bin .num .lss (.t 16) (.t 19)),0,none⟩] none) (.cond (.t 20) .skip (.exit 0))) (.seq (.block 1 (.seq (.reg [⟨(some 23),(.faddr 1 (.t 3)),0,none⟩,⟨(some 24),(.load false [(.sl 2)] (.t 23)),0,none⟩,⟨(some 25),(.mv (.t 9)),0,none⟩,⟨(some 26),(.iaddr 2 (.t 24) (.t 25)),0,none⟩,⟨(some 27),(.load true [.str,(.int .i64)] (.t 26)),0,none⟩,⟨(some 10),(.alloc (.agg [(.str []),(.int .i64 0)])),0,none⟩,⟨none,(.store 2 (.t 10) (.t 27)),1,none⟩] none) (.seq (.seq (.reg [⟨(some 28),(.mv (.t 8)),0,none⟩,⟨(some 29),(.un .not (.t 28)),0,none⟩,⟨(some 30),(.mv (.t 29)),0,none⟩,⟨(some 31),(.faddr 0 (.t 10)),0,(some (30,true))⟩,⟨(some 32),(.load false [.str] (.t 31)),0,(some (30,true))⟩,⟨(some 33),(.mv (.t 1)),0,(some (30,true))⟩,⟨(some 34),(.bin .num .gtr (.t 32) (.t 33)),0,(some (30,true))⟩,⟨(some 35),(.pick (.t 30) (.t 34) (.c (.bool false))),0,none⟩] none) (.cond (.t 35) (.seq (.reg [⟨(some 36),(.faddr 1 (.t 7)),0,none⟩,⟨(some 37),(.load false [(.sl 2)] (.t 36)),0,none⟩,⟨(some 38),(.mv (.t 1)),0,none⟩,⟨(some 39),(.mv (.t 2)),0,none⟩,⟨(some 40),(.build [(.str []),(.int .i64 0)] [(0,(1,(.t 38))),(1,(1,(.t 39)))]),0,none⟩,⟨(some 41),(.bslice 61 2 1 (.agg [(.str []),(.int .i64 0)]) [(0,(.t 40))]),0,none⟩,⟨(some 42),(.append 61 2 24 (.t 37) (.t 41)),1,none⟩,⟨(some 43),(.faddr 1 (.t 7)),2,none⟩,⟨none,(.store 1 (.t 43) (.t 42)),2,none⟩] none) (.reg [⟨(some 8),(.mv (.c (.bool true))),0,none⟩] none)) .skip)) (.seq (.seq (.reg [⟨(some 44),(.faddr 0 (.t 10)),0,none⟩,⟨(some 45),(.load false [.str] (.t 44)),0,none⟩,⟨(some 46),(.mv (.t 1)),0,none⟩,⟨(some 47),(.bin .num .eql (.t 45) (.t 46)),0,none⟩] none) (.cond (.t 47) (.seq (.reg [⟨(some 48),(.faddr 1 (.t 10)),0,none⟩,⟨(some 49),(.load false [(.int .i64)] (.t 48)),0,none⟩,⟨(some 50),(.mv (.t 2)),0,none⟩,⟨(some 51),(.bin .num .add (.t 49) (.t 50)),0,none⟩,⟨(some 52),(.faddr 1 (.t 10)),0,none⟩,⟨none,(.store 1 (.t 52) (.t 51)),0,none⟩] none) (.reg [⟨(some 8),(.mv (.c (.bool true))),0,none⟩] none)) .skip)) (.reg [⟨(some 53),(.faddr 1 (.t 7)),0,none⟩,⟨(some 54),(.load false [(.sl 2)] (.t 53)),0,none⟩,⟨(some 55),(.load true [.str,(.int .i64)] (.t 10)),0,none⟩,⟨(some 56),(.bslice 61 2 1 (.agg [(.str []),(.int .i64 0)]) [(0,(.t 55))]),0,none⟩,⟨(some 57),(.append 61 2 24 (.t 54) (.t 56)),1,none⟩,⟨(some 58),(.faddr 1 (.t 7)),2,none⟩,⟨none,(.store 1 (.t 58) (.t 57)),2,none⟩] none))))) (.reg [⟨(some 21),(.mv (.t 9)),0,none⟩,⟨(some 22),(.bin .num .add (.t 21) (.c (.int .i64 1))),0,none⟩,⟨(some 9),(.mv (.t 22)),0,none⟩] none)))))) (.seq (.seq (.reg [⟨(some 59),(.mv (.t 8)),0,none⟩,⟨(some 60),(.un .not (.t 59)),0,none⟩] none) (.cond (.t 60) (.reg [⟨(some 61),(.faddr 1 (.t 7)),0,none⟩,⟨(some 62),(.load false [(.sl 2)] (.t 61)),0,none⟩,⟨(some 63),(.mv (.t 1)),0,none⟩,⟨(some 64),(.mv (.t 2)),0,none⟩,⟨(some 65),(.build [(.str []),(.int .i64 0)] [(0,(1,(.t 63))),(1,(1,(.t 64)))]),0,none⟩,⟨(some 66),(.bslice 61 2 1 (.agg [(.str []),(.int .i64 0)]) [(0,(.t 65))]),0,none⟩,⟨(some 67),(.append 61 2 24 (.t 62) (.t 66)),1,none⟩,⟨(some 68),(.faddr 1 (.t 7)),2,none⟩,⟨none,(.store 1 (.t 68) (.t 67)),2,none⟩] none) .skip)) (.seq (.reg [⟨(some 11),(.mv (.c (.int .i64 0))),0,none⟩] none) (.seq (.seq (.reg [⟨(some 12),(.mv (.c (.int .i64 0))),0,none⟩] none) (.block 2 (.loop [12,7,11,6] (.seq (.seq (.reg [⟨(some 69),(.mv (.t 12)),0,none⟩,⟨(some 70),(.faddr 1 (.t 7)),0,none⟩,⟨(some 71),(.load false [(.sl 2)] (.t 70)),0,none⟩,⟨(some 72),(.len 1 (.t 71)),0,none⟩,⟨(some 73),(.bin .num .lss (.t 69) (.t 72)),0,none⟩] none) (.cond (.t 73) .skip (.exit 2))) (.seq (.block 3 (.seq (.reg [⟨(some 76),(.faddr 1 (.t 7)),0,none⟩,⟨(some 77),(.load false [(.sl 2)] (.t 76)),0,none⟩,⟨(some 78),(.mv (.t 12)),0,none⟩,⟨(some 79),(.iaddr 2 (.t 77) (.t 78)),0,none⟩,⟨(some 80),(.faddr 1 (.t 79)),0,none⟩,⟨(some 81),(.load false [(.int .i64)] (.t 80)),0,none⟩,⟨(some 82),(.bin .num .neq (.t 81) (.c (.int .i64 0))),0,none⟩] none) (.cond (.t 82) (.seq (.reg [⟨(some 83),(.faddr 1 (.t 7)),0,none⟩,⟨(some 84),(.load false [(.sl 2)] (.t 83)),0,none⟩,⟨(some 85),(.mv (.t 11)),0,none⟩,⟨(some 86),(.faddr 1 (.t 7)),0,none⟩,⟨(some 87),(.load false [(.sl 2)] (.t 86)),0,none⟩,⟨(some 88),(.mv (.t 12)),0,none⟩,⟨(some 89),(.iaddr 2 (.t 87) (.t 88)),0,none⟩,⟨(some 90),(.load true [.str,(.int .i64)] (.t 89)),0,none⟩,⟨(some 91),(.iaddr 2 (.t 84) (.t 85)),0,none⟩,⟨none,(.store 2 (.t 91) (.t 90)),0,none⟩] (some [[],[0],[],[],[3],[],[4,5,3],[6,4,5,3],[1,2,0,3,4,5,6,7],[8,7,0,1,2,3,4,5,6]])) (.reg [⟨(some 92),(.mv (.t 11)),0,none⟩,⟨(some 93),(.bin .num .add (.t 92) (.c (.int .i64 1))),0,none⟩,⟨(some 11),(.mv (.t 93)),0,none⟩] none)) .skip))) (.reg [⟨(some 74),(.mv (.t 12)),0,none⟩,⟨(some 75),(.bin .num .add (.t 74) (.c (.int .i64 1))),0,none⟩,⟨(some 12),(.mv (.t 75)),0,none⟩] none)))))) (.seq (.reg [⟨(some 94),(.faddr 1 (.t 7)),0,none⟩,⟨(some 95),(.load false [(.sl 2)] (.t 94)),0,none⟩,⟨(some 96),(.mv (.t 11)),0,none⟩,⟨(some 97),(.slc 2 (.t 95) none (some (.t 96)) none),0,none⟩,⟨(some 98),(.faddr 1 (.t 7)),0,none⟩,⟨none,(.store 1 (.t 98) (.t 97)),0,none⟩] none) (.seq (.reg [⟨(some 99),(.load true [(.int .i64),(.sl 2)] (.t 7)),0,none⟩,⟨none,(.store 2 (.t 6) (.t 99)),0,none⟩] none) .ret)))))))))
def Zx:List IRes:=[(.cell true 2 6)]
abbrev TK:Nat:=100
def ZG:ZI:=WL []
theorem a2p{G:AV×List AObj×List AObj->Prop}(l:Lin)(s:List UInt8)(c:Int)(h:At ZG 0 (Zd 0 Zx G) Zz 0 100 [(1,(.pv (.str s))),(2,(.pv (.int .i64 c))),(3,(.ptr 0 0)),(6,(.ptr 1 0)),(7,(.ptr 2 0)),(8,(.pv (.bool false))),(9,(.pv (.int .i64 0)))] [(.obj (.box [(.pv (.int .i64 l.k)),(.pv (.sl 2 false (List.map enc l.t)))])),(.obj (.box [(.pv (.int .i64 0)),(.pv (.sl 0 true []))])),(.obj (.box [(.pv (.int .i64 l.k)),(.pv (.sl 0 true []))]))]):Zi ZG 0 (Zd 0 Zx G) Zz [] (Yk 100 [.pv (enc l),.pv (.str s),.pv (enc c)] []):=Zi.to (.nil) h (by kernel_rfl)
theorem Fj{G:AV×List AObj×List AObj->Prop}(l:Lin)(s:List UInt8)(c:Int)(p:Bool)(i:Int)(h:if (decide (i<(↑(List.length (List.map enc l.t)):Int)))=true then(decide (0<=i)&&decide (Int.toNat i<List.length (List.map enc l.t))&&Enc.sz Coef==2)=true∧(∃ y0:Coef,AV.pv (PV.rptr (PV.cells (List.getD (List.map enc l.t) (Int.toNat i) default)))=AV.pv (PV.rptr (PV.cells ((enc) y0)))∧(if (!p)=true then if (!(Op.bytesLess (PV.asStr (List.getD (PV.cells (enc y0)) 0 default)) s||PV.asStr (List.getD (PV.cells (enc y0)) 0 default)==s))=true then if (PV.asStr (List.getD (PV.cells (enc y0)) 0 default)==s)=true then At ZG 0 (Zd 0 Zx G) Zz 0 100 [(1,(.pv (.str s))),(2,(.pv (.int .i64 c))),(3,(.ptr 0 0)),(6,(.ptr 1 0)),(7,(.ptr 2 0)),(8,(.pv (.bool true))),(9,(.pv (.int .i64 (IntKind.wrap IntKind.i64 (i+1)))))] [(.obj (.box [(.pv (.int .i64 l.k)),(.pv (.sl 2 false (List.map enc l.t)))])),(.obj (.box [(.pv (.int .i64 0)),(.pv (.sl 0 true []))])),(.obj (.box [(.pv (.int .i64 l.k)),(.row 3 2 0 2)])),(.obj (.row false 61 2 [(.agg [(.str s),(.int .i64 c)]),(.agg [(.str (PV.asStr (List.getD (PV.cells (enc y0)) 0 default))),(.int .i64 (IntKind.wrap IntKind.i64 (PV.asInt (List.getD (PV.cells (enc y0)) (0+1) default)+c)))])]))]else(At ZG 0 (Zd 0 Zx G) Zz 0 100 [(1,(.pv (.str s))),(2,(.pv (.int .i64 c))),(3,(.ptr 0 0)),(6,(.ptr 1 0)),(7,(.ptr 2 0)),(8,(.pv (.bool true))),(9,(.pv (.int .i64 (IntKind.wrap IntKind.i64 (i+1)))))] [(.obj (.box [(.pv (.int .i64 l.k)),(.pv (.sl 2 false (List.map enc l.t)))])),(.obj (.box [(.pv (.int .i64 0)),(.pv (.sl 0 true []))])),(.obj (.box [(.pv (.int .i64 l.k)),(.row 3 2 0 2)])),(.obj (.row false 61 2 [(.agg [(.str s),(.int .i64 c)]),(.agg [(.str (PV.asStr (List.getD (PV.cells (enc y0)) 0 default))),(.int .i64 (PV.asInt (List.getD (PV.cells (enc y0)) (0+1) default)))])]))])else(if (PV.asStr (List.getD (PV.cells (enc y0)) 0 default)==s)=true then At ZG 0 (Zd 0 Zx G) Zz 0 100 [(1,(.pv (.str s))),(2,(.pv (.int .i64 c))),(3,(.ptr 0 0)),(6,(.ptr 1 0)),(7,(.ptr 2 0)),(8,(.pv (.bool true))),(9,(.pv (.int .i64 (IntKind.wrap IntKind.i64 (i+1)))))] [(.obj (.box [(.pv (.int .i64 l.k)),(.pv (.sl 2 false (List.map enc l.t)))])),(.obj (.box [(.pv (.int .i64 0)),(.pv (.sl 0 true []))])),(.obj (.box [(.pv (.int .i64 l.k)),(.row 3 1 0 1)])),(.obj (.row false 61 2 [(.agg [(.str (PV.asStr (List.getD (PV.cells (enc y0)) 0 default))),(.int .i64 (IntKind.wrap IntKind.i64 (PV.asInt (List.getD (PV.cells (enc y0)) (0+1) default)+c)))])]))]else(At ZG 0 (Zd 0 Zx G) Zz 0 100 [(1,(.pv (.str s))),(2,(.pv (.int .i64 c))),(3,(.ptr 0 0)),(6,(.ptr 1 0)),(7,(.ptr 2 0)),(8,(.pv (.bool p))),(9,(.pv (.int .i64 (IntKind.wrap IntKind.i64 (i+1)))))] [(.obj (.box [(.pv (.int .i64 l.k)),(.pv (.sl 2 false (List.map enc l.t)))])),(.obj (.box [(.pv (.int .i64 0)),(.pv (.sl 0 true []))])),(.obj (.box [(.pv (.int .i64 l.k)),(.row 3 1 0 1)])),(.obj (.row false 61 2 [(.agg [(.str (PV.asStr (List.getD (PV.cells (enc y0)) 0 default))),(.int .i64 (PV.asInt (List.getD (PV.cells (enc y0)) (0+1) default)))])]))]))else(if (PV.asStr (List.getD (PV.cells (enc y0)) 0 default)==s)=true then At ZG 0 (Zd 0 Zx G) Zz 0 100 [(1,(.pv (.str s))),(2,(.pv (.int .i64 c))),(3,(.ptr 0 0)),(6,(.ptr 1 0)),(7,(.ptr 2 0)),(8,(.pv (.bool true))),(9,(.pv (.int .i64 (IntKind.wrap IntKind.i64 (i+1)))))] [(.obj (.box [(.pv (.int .i64 l.k)),(.pv (.sl 2 false (List.map enc l.t)))])),(.obj (.box [(.pv (.int .i64 0)),(.pv (.sl 0 true []))])),(.obj (.box [(.pv (.int .i64 l.k)),(.row 3 1 0 1)])),(.obj (.row false 61 2 [(.agg [(.str (PV.asStr (List.getD (PV.cells (enc y0)) 0 default))),(.int .i64 (IntKind.wrap IntKind.i64 (PV.asInt (List.getD (PV.cells (enc y0)) (0+1) default)+c)))])]))]else(At ZG 0 (Zd 0 Zx G) Zz 0 100 [(1,(.pv (.str s))),(2,(.pv (.int .i64 c))),(3,(.ptr 0 0)),(6,(.ptr 1 0)),(7,(.ptr 2 0)),(8,(.pv (.bool p))),(9,(.pv (.int .i64 (IntKind.wrap IntKind.i64 (i+1)))))] [(.obj (.box [(.pv (.int .i64 l.k)),(.pv (.sl 2 false (List.map enc l.t)))])),(.obj (.box [(.pv (.int .i64 0)),(.pv (.sl 0 true []))])),(.obj (.box [(.pv (.int .i64 l.k)),(.row 3 1 0 1)])),(.obj (.row false 61 2 [(.agg [(.str (PV.asStr (List.getD (PV.cells (enc y0)) 0 default))),(.int .i64 (PV.asInt (List.getD (PV.cells (enc y0)) (0+1) default)))])]))]))))else(if (!p)=true then At ZG 0 (Zd 0 Zx G) Zz 1 100 [(6,(.ptr 0 0)),(7,(.ptr 1 0)),(11,(.pv (.int .i64 0))),(12,(.pv (.int .i64 0)))] [(.obj (.box [(.pv (.int .i64 0)),(.pv (.sl 0 true []))])),(.obj (.box [(.pv (.int .i64 l.k)),(.row 2 1 0 1)])),(.obj (.row false 61 2 [(.agg [(.str s),(.int .i64 c)])]))]else(At ZG 0 (Zd 0 Zx G) Zz 1 100 [(6,(.ptr 0 0)),(7,(.ptr 1 0)),(11,(.pv (.int .i64 0))),(12,(.pv (.int .i64 0)))] [(.obj (.box [(.pv (.int .i64 0)),(.pv (.sl 0 true []))])),(.obj (.box [(.pv (.int .i64 l.k)),(.pv (.sl 0 true []))]))]))):At ZG 0 (Zd 0 Zx G) Zz 0 100 [(1,.pv (.str s)),(2,.pv (.int .i64 c)),(3,.ptr 0 0),(6,.ptr 1 0),(7,.ptr 2 0),(8,.pv (.bool p)),(9,.pv (.int .i64 i))] [.obj (.box [.pv (.int .i64 l.k),.pv (enc l.t)]),.obj (.box [.pv (.int .i64 0),.pv (.sl 0 true [])]),.obj (.box [.pv (.int .i64 l.k),.pv (.sl 0 true [])])]:=At.to (.lit (.ask (.req (.abs (Coef) (fun YY=>AV.pv (PV.rptr (PV.cells ((enc) YY)))) (.lit (.ask (.lit (.lit (.lit (.lit (.lit (.ask (.lit (.lit (.lit (.lit (.lit (.lit (.ask (.lit (.lit (.lit (.lit (.lit (.nil)))))) (.lit (.lit (.lit (.lit (.nil)))))))))))) (.lit (.ask (.lit (.lit (.lit (.lit (.lit (.lit (.lit (.nil)))))))) (.lit (.lit (.lit (.lit (.lit (.lit (.nil))))))))))))))) (.lit (.lit (.lit (.lit (.lit (.lit (.ask (.lit (.lit (.lit (.lit (.lit (.lit (.lit (.nil)))))))) (.lit (.lit (.lit (.lit (.lit (.lit (.nil)))))))))))))))))) (.ask (.lit (.lit (.lit (.lit (.lit (.nil)))))) (.nil)))) h (by kernel_rfl)
theorem Cu{G:AV×List AObj×List AObj->Prop}(l:Lin)(s:List UInt8)(c:Int)(j i:Int)(q:Nat)(ts:List Coef)(h:if (decide (i<(↑(q - 0):Int)))=true then(decide (0<=i)&&decide (0+Int.toNat i<q)&&List.length (List.map enc ts)==q)=true∧((List.length (List.map enc ts)==q&&decide (0+Int.toNat i<List.length (List.map enc ts)))=true∧((decide (0+1+List.length [Sh.int .i64]<=List.length (PV.cells (List.getD (List.map enc ts) (0+Int.toNat i) default)))&&UY (PV.cells (List.getD (List.map enc ts) (0+Int.toNat i) default)) (0+1) [Sh.int .i64])=true∧(if (PV.asInt (List.getD (PV.cells (List.getD (List.map enc ts) (0+Int.toNat i) default)) (0+1) default) != 0)=true then(decide (0<=i)&&decide (0+Int.toNat i<q)&&List.length (List.map enc ts)==q)=true∧((List.length (List.map enc ts)==q&&decide (0+Int.toNat i<List.length (List.map enc ts)))=true∧((decide (0+List.length [Sh.str,Sh.int .i64]<=List.length (PV.cells (List.getD (List.map enc ts) (0+Int.toNat i) default)))&&UY (PV.cells (List.getD (List.map enc ts) (0+Int.toNat i) default)) 0 [Sh.str,Sh.int .i64])=true∧((decide (0<=j)&&decide (0+Int.toNat j<q)&&List.length (List.map enc ts)==q)=true∧((List.length (List.map enc ts)==q&&decide (0+Int.toNat j<List.length (List.map enc ts))&&List.length (PV.cells (PV.agg (VK (PV.cells (List.getD (List.map enc ts) (0+Int.toNat i) default)) 0 [Sh.str,Sh.int .i64])))==2&&decide (0+2<=List.length (PV.cells (List.getD (List.map enc ts) (0+Int.toNat j) default)))&&PV.cellsOk (PV.agg (VK (PV.cells (List.getD (List.map enc ts) (0+Int.toNat i) default)) 0 [Sh.str,Sh.int .i64])))=true∧(At ZG 0 (Zd 0 Zx G) Zz 1 100 [(6,(.ptr 0 0)),(7,(.ptr 1 0)),(11,(.pv (.int .i64 (IntKind.wrap IntKind.i64 (j+1))))),(12,(.pv (.int .i64 (IntKind.wrap IntKind.i64 (i+1)))))] [(.obj (.box [(.pv (.int .i64 0)),(.pv (.sl 0 true []))])),(.obj (.box [(.pv (.int .i64 l.k)),(.row 2 q 0 q)])),(.obj (.row false 61 2 (List.set (List.map enc ts) (0+Int.toNat j) (PV.withCells (List.getD (List.map enc ts) (0+Int.toNat j) default) (splice (PV.cells (List.getD (List.map enc ts) (0+Int.toNat j) default)) 0 (PV.cells (PV.agg (VK (PV.cells (List.getD (List.map enc ts) (0+Int.toNat i) default)) 0 [Sh.str,Sh.int .i64]))))))))])))))else(At ZG 0 (Zd 0 Zx G) Zz 1 100 [(6,(.ptr 0 0)),(7,(.ptr 1 0)),(11,(.pv (.int .i64 j))),(12,(.pv (.int .i64 (IntKind.wrap IntKind.i64 (i+1)))))] [(.obj (.box [(.pv (.int .i64 0)),(.pv (.sl 0 true []))])),(.obj (.box [(.pv (.int .i64 l.k)),(.row 2 q 0 q)])),(.obj (.row false 61 2 (List.map enc ts)))]))))else((true&&decide (0<=j)&&decide (0<=Int.toNat j)&&decide (0+Int.toNat j<=q)&&List.length (List.map enc ts)==q)=true∧(G (((.agg [(.pv (.int .i64 l.k)),(.row 0 q 0 (0+Int.toNat j))]),([],[(.row false 61 2 (List.map enc ts))])))))):At ZG 0 (Zd 0 Zx G) Zz 1 100 [(6,.ptr 0 0),(7,.ptr 1 0),(11,.pv (.int .i64 j)),(12,.pv (.int .i64 i))] [.obj (.box [.pv (.int .i64 0),.pv (.sl 0 true [])]),.obj (.box [.pv (.int .i64 l.k),.row 2 q 0 q]),.obj (.row false 61 2 (ts.map enc))]:=At.to (.lit (.ask (.req (.keep (.req (.req (.lit (.ask (.req (.keep (.req (.req (.req (.keep (.req (.lit (.lit (.nil)))))))))) (.lit (.nil)))))))) (.req (.nil)))) h (by kernel_rfl)
theorem CV{G:AV×List AObj×List AObj->Prop}(l:Lin)(s:List UInt8)(c:Int)(p:Bool)(i:Int)(q:Nat)(ts:List Coef)(h:if (decide (i<(↑(List.length (List.map enc l.t)):Int)))=true then(decide (0<=i)&&decide (Int.toNat i<List.length (List.map enc l.t))&&Enc.sz Coef==2)=true∧(∃ y0:Coef,AV.pv (PV.rptr (PV.cells (List.getD (List.map enc l.t) (Int.toNat i) default)))=AV.pv (PV.rptr (PV.cells ((enc) y0)))∧(if (!p)=true then if (!(Op.bytesLess (PV.asStr (List.getD (PV.cells (enc y0)) 0 default)) s||PV.asStr (List.getD (PV.cells (enc y0)) 0 default)==s))=true then(List.length (List.map enc ts)==q&&q==q&&decide ((q+List.length (List.drop 0 (List.take 1 [PV.agg [PV.str s,PV.int .i64 c]])))*24<=1099511627776)&&decide (q+List.length (List.drop 0 (List.take 1 [PV.agg [PV.str s,PV.int .i64 c]]))<=1099511627776))=true∧(if (PV.asStr (List.getD (PV.cells (enc y0)) 0 default)==s)=true then(List.length (List.map enc ts++List.drop 0 (List.take 1 [PV.agg [PV.str s,PV.int .i64 c]]))==q+List.length (List.drop 0 (List.take 1 [PV.agg [PV.str s,PV.int .i64 c]]))&&q+List.length (List.drop 0 (List.take 1 [PV.agg [PV.str s,PV.int .i64 c]]))==q+List.length (List.drop 0 (List.take 1 [PV.agg [PV.str s,PV.int .i64 c]]))&&decide ((q+List.length (List.drop 0 (List.take 1 [PV.agg [PV.str s,PV.int .i64 c]]))+List.length (List.drop 0 (List.take 1 [PV.agg [Sh.co Sh.str (List.getD (PV.cells (enc y0)) 0 default),PV.int .i64 (IntKind.wrap IntKind.i64 (PV.asInt (List.getD (PV.cells (enc y0)) (0+1) default)+c))]])))*24<=1099511627776)&&decide (q+List.length (List.drop 0 (List.take 1 [PV.agg [PV.str s,PV.int .i64 c]]))+List.length (List.drop 0 (List.take 1 [PV.agg [Sh.co Sh.str (List.getD (PV.cells (enc y0)) 0 default),PV.int .i64 (IntKind.wrap IntKind.i64 (PV.asInt (List.getD (PV.cells (enc y0)) (0+1) default)+c))]]))<=1099511627776))=true∧(At ZG 0 (Zd 0 Zx G) Zz 0 100 [(1,(.pv (.str s))),(2,(.pv (.int .i64 c))),(3,(.ptr 0 0)),(6,(.ptr 1 0)),(7,(.ptr 2 0)),(8,(.pv (.bool true))),(9,(.pv (.int .i64 (IntKind.wrap IntKind.i64 (i+1)))))] [(.obj (.box [(.pv (.int .i64 l.k)),(.pv (.sl 2 false (List.map enc l.t)))])),(.obj (.box [(.pv (.int .i64 0)),(.pv (.sl 0 true []))])),(.obj (.box [(.pv (.int .i64 l.k)),(.row 3 (q+List.length (List.drop 0 (List.take 1 [PV.agg [PV.str s,PV.int .i64 c]]))+List.length (List.drop 0 (List.take 1 [PV.agg [Sh.co Sh.str (List.getD (PV.cells (enc y0)) 0 default),PV.int .i64 (IntKind.wrap IntKind.i64 (PV.asInt (List.getD (PV.cells (enc y0)) (0+1) default)+c))]]))) 0 (q+List.length (List.drop 0 (List.take 1 [PV.agg [PV.str s,PV.int .i64 c]]))+List.length (List.drop 0 (List.take 1 [PV.agg [Sh.co Sh.str (List.getD (PV.cells (enc y0)) 0 default),PV.int .i64 (IntKind.wrap IntKind.i64 (PV.asInt (List.getD (PV.cells (enc y0)) (0+1) default)+c))]]))))])),(.obj (.row false 61 2 (List.map enc ts++List.drop 0 (List.take 1 [PV.agg [PV.str s,PV.int .i64 c]])++List.drop 0 (List.take 1 [PV.agg [Sh.co Sh.str (List.getD (PV.cells (enc y0)) 0 default),PV.int .i64 (IntKind.wrap IntKind.i64 (PV.asInt (List.getD (PV.cells (enc y0)) (0+1) default)+c))]]))))])else((List.length (List.map enc ts++List.drop 0 (List.take 1 [PV.agg [PV.str s,PV.int .i64 c]]))==q+List.length (List.drop 0 (List.take 1 [PV.agg [PV.str s,PV.int .i64 c]]))&&q+List.length (List.drop 0 (List.take 1 [PV.agg [PV.str s,PV.int .i64 c]]))==q+List.length (List.drop 0 (List.take 1 [PV.agg [PV.str s,PV.int .i64 c]]))&&decide ((q+List.length (List.drop 0 (List.take 1 [PV.agg [PV.str s,PV.int .i64 c]]))+List.length (List.drop 0 (List.take 1 [PV.agg [Sh.co Sh.str (List.getD (PV.cells (enc y0)) 0 default),Sh.co (Sh.int .i64) (List.getD (PV.cells (enc y0)) (0+1) default)]])))*24<=1099511627776)&&decide (q+List.length (List.drop 0 (List.take 1 [PV.agg [PV.str s,PV.int .i64 c]]))+List.length (List.drop 0 (List.take 1 [PV.agg [Sh.co Sh.str (List.getD (PV.cells (enc y0)) 0 default),Sh.co (Sh.int .i64) (List.getD (PV.cells (enc y0)) (0+1) default)]]))<=1099511627776))=true∧(At ZG 0 (Zd 0 Zx G) Zz 0 100 [(1,(.pv (.str s))),(2,(.pv (.int .i64 c))),(3,(.ptr 0 0)),(6,(.ptr 1 0)),(7,(.ptr 2 0)),(8,(.pv (.bool true))),(9,(.pv (.int .i64 (IntKind.wrap IntKind.i64 (i+1)))))] [(.obj (.box [(.pv (.int .i64 l.k)),(.pv (.sl 2 false (List.map enc l.t)))])),(.obj (.box [(.pv (.int .i64 0)),(.pv (.sl 0 true []))])),(.obj (.box [(.pv (.int .i64 l.k)),(.row 3 (q+List.length (List.drop 0 (List.take 1 [PV.agg [PV.str s,PV.int .i64 c]]))+List.length (List.drop 0 (List.take 1 [PV.agg [Sh.co Sh.str (List.getD (PV.cells (enc y0)) 0 default),Sh.co (Sh.int .i64) (List.getD (PV.cells (enc y0)) (0+1) default)]]))) 0 (q+List.length (List.drop 0 (List.take 1 [PV.agg [PV.str s,PV.int .i64 c]]))+List.length (List.drop 0 (List.take 1 [PV.agg [Sh.co Sh.str (List.getD (PV.cells (enc y0)) 0 default),Sh.co (Sh.int .i64) (List.getD (PV.cells (enc y0)) (0+1) default)]]))))])),(.obj (.row false 61 2 (List.map enc ts++List.drop 0 (List.take 1 [PV.agg [PV.str s,PV.int .i64 c]])++List.drop 0 (List.take 1 [PV.agg [Sh.co Sh.str (List.getD (PV.cells (enc y0)) 0 default),Sh.co (Sh.int .i64) (List.getD (PV.cells (enc y0)) (0+1) default)]]))))])))else(if (PV.asStr (List.getD (PV.cells (enc y0)) 0 default)==s)=true then(List.length (List.map enc ts)==q&&q==q&&decide ((q+List.length (List.drop 0 (List.take 1 [PV.agg [Sh.co Sh.str (List.getD (PV.cells (enc y0)) 0 default),PV.int .i64 (IntKind.wrap IntKind.i64 (PV.asInt (List.getD (PV.cells (enc y0)) (0+1) default)+c))]])))*24<=1099511627776)&&decide (q+List.length (List.drop 0 (List.take 1 [PV.agg [Sh.co Sh.str (List.getD (PV.cells (enc y0)) 0 default),PV.int .i64 (IntKind.wrap IntKind.i64 (PV.asInt (List.getD (PV.cells (enc y0)) (0+1) default)+c))]]))<=1099511627776))=true∧(At ZG 0 (Zd 0 Zx G) Zz 0 100 [(1,(.pv (.str s))),(2,(.pv (.int .i64 c))),(3,(.ptr 0 0)),(6,(.ptr 1 0)),(7,(.ptr 2 0)),(8,(.pv (.bool true))),(9,(.pv (.int .i64 (IntKind.wrap IntKind.i64 (i+1)))))] [(.obj (.box [(.pv (.int .i64 l.k)),(.pv (.sl 2 false (List.map enc l.t)))])),(.obj (.box [(.pv (.int .i64 0)),(.pv (.sl 0 true []))])),(.obj (.box [(.pv (.int .i64 l.k)),(.row 3 (q+List.length (List.drop 0 (List.take 1 [PV.agg [Sh.co Sh.str (List.getD (PV.cells (enc y0)) 0 default),PV.int .i64 (IntKind.wrap IntKind.i64 (PV.asInt (List.getD (PV.cells (enc y0)) (0+1) default)+c))]]))) 0 (q+List.length (List.drop 0 (List.take 1 [PV.agg [Sh.co Sh.str (List.getD (PV.cells (enc y0)) 0 default),PV.int .i64 (IntKind.wrap IntKind.i64 (PV.asInt (List.getD (PV.cells (enc y0)) (0+1) default)+c))]]))))])),(.obj (.row false 61 2 (List.map enc ts++List.drop 0 (List.take 1 [PV.agg [Sh.co Sh.str (List.getD (PV.cells (enc y0)) 0 default),PV.int .i64 (IntKind.wrap IntKind.i64 (PV.asInt (List.getD (PV.cells (enc y0)) (0+1) default)+c))]]))))])else((List.length (List.map enc ts)==q&&q==q&&decide ((q+List.length (List.drop 0 (List.take 1 [PV.agg [Sh.co Sh.str (List.getD (PV.cells (enc y0)) 0 default),Sh.co (Sh.int .i64) (List.getD (PV.cells (enc y0)) (0+1) default)]])))*24<=1099511627776)&&decide (q+List.length (List.drop 0 (List.take 1 [PV.agg [Sh.co Sh.str (List.getD (PV.cells (enc y0)) 0 default),Sh.co (Sh.int .i64) (List.getD (PV.cells (enc y0)) (0+1) default)]]))<=1099511627776))=true∧(At ZG 0 (Zd 0 Zx G) Zz 0 100 [(1,(.pv (.str s))),(2,(.pv (.int .i64 c))),(3,(.ptr 0 0)),(6,(.ptr 1 0)),(7,(.ptr 2 0)),(8,(.pv (.bool p))),(9,(.pv (.int .i64 (IntKind.wrap IntKind.i64 (i+1)))))] [(.obj (.box [(.pv (.int .i64 l.k)),(.pv (.sl 2 false (List.map enc l.t)))])),(.obj (.box [(.pv (.int .i64 0)),(.pv (.sl 0 true []))])),(.obj (.box [(.pv (.int .i64 l.k)),(.row 3 (q+List.length (List.drop 0 (List.take 1 [PV.agg [Sh.co Sh.str (List.getD (PV.cells (enc y0)) 0 default),Sh.co (Sh.int .i64) (List.getD (PV.cells (enc y0)) (0+1) default)]]))) 0 (q+List.length (List.drop 0 (List.take 1 [PV.agg [Sh.co Sh.str (List.getD (PV.cells (enc y0)) 0 default),Sh.co (Sh.int .i64) (List.getD (PV.cells (enc y0)) (0+1) default)]]))))])),(.obj (.row false 61 2 (List.map enc ts++List.drop 0 (List.take 1 [PV.agg [Sh.co Sh.str (List.getD (PV.cells (enc y0)) 0 default),Sh.co (Sh.int .i64) (List.getD (PV.cells (enc y0)) (0+1) default)]]))))])))else(if (PV.asStr (List.getD (PV.cells (enc y0)) 0 default)==s)=true then(List.length (List.map enc ts)==q&&q==q&&decide ((q+List.length (List.drop 0 (List.take 1 [PV.agg [Sh.co Sh.str (List.getD (PV.cells (enc y0)) 0 default),PV.int .i64 (IntKind.wrap IntKind.i64 (PV.asInt (List.getD (PV.cells (enc y0)) (0+1) default)+c))]])))*24<=1099511627776)&&decide (q+List.length (List.drop 0 (List.take 1 [PV.agg [Sh.co Sh.str (List.getD (PV.cells (enc y0)) 0 default),PV.int .i64 (IntKind.wrap IntKind.i64 (PV.asInt (List.getD (PV.cells (enc y0)) (0+1) default)+c))]]))<=1099511627776))=true∧(At ZG 0 (Zd 0 Zx G) Zz 0 100 [(1,(.pv (.str s))),(2,(.pv (.int .i64 c))),(3,(.ptr 0 0)),(6,(.ptr 1 0)),(7,(.ptr 2 0)),(8,(.pv (.bool true))),(9,(.pv (.int .i64 (IntKind.wrap IntKind.i64 (i+1)))))] [(.obj (.box [(.pv (.int .i64 l.k)),(.pv (.sl 2 false (List.map enc l.t)))])),(.obj (.box [(.pv (.int .i64 0)),(.pv (.sl 0 true []))])),(.obj (.box [(.pv (.int .i64 l.k)),(.row 3 (q+List.length (List.drop 0 (List.take 1 [PV.agg [Sh.co Sh.str (List.getD (PV.cells (enc y0)) 0 default),PV.int .i64 (IntKind.wrap IntKind.i64 (PV.asInt (List.getD (PV.cells (enc y0)) (0+1) default)+c))]]))) 0 (q+List.length (List.drop 0 (List.take 1 [PV.agg [Sh.co Sh.str (List.getD (PV.cells (enc y0)) 0 default),PV.int .i64 (IntKind.wrap IntKind.i64 (PV.asInt (List.getD (PV.cells (enc y0)) (0+1) default)+c))]]))))])),(.obj (.row false 61 2 (List.map enc ts++List.drop 0 (List.take 1 [PV.agg [Sh.co Sh.str (List.getD (PV.cells (enc y0)) 0 default),PV.int .i64 (IntKind.wrap IntKind.i64 (PV.asInt (List.getD (PV.cells (enc y0)) (0+1) default)+c))]]))))])else((List.length (List.map enc ts)==q&&q==q&&decide ((q+List.length (List.drop 0 (List.take 1 [PV.agg [Sh.co Sh.str (List.getD (PV.cells (enc y0)) 0 default),Sh.co (Sh.int .i64) (List.getD (PV.cells (enc y0)) (0+1) default)]])))*24<=1099511627776)&&decide (q+List.length (List.drop 0 (List.take 1 [PV.agg [Sh.co Sh.str (List.getD (PV.cells (enc y0)) 0 default),Sh.co (Sh.int .i64) (List.getD (PV.cells (enc y0)) (0+1) default)]]))<=1099511627776))=true∧(At ZG 0 (Zd 0 Zx G) Zz 0 100 [(1,(.pv (.str s))),(2,(.pv (.int .i64 c))),(3,(.ptr 0 0)),(6,(.ptr 1 0)),(7,(.ptr 2 0)),(8,(.pv (.bool p))),(9,(.pv (.int .i64 (IntKind.wrap IntKind.i64 (i+1)))))] [(.obj (.box [(.pv (.int .i64 l.k)),(.pv (.sl 2 false (List.map enc l.t)))])),(.obj (.box [(.pv (.int .i64 0)),(.pv (.sl 0 true []))])),(.obj (.box [(.pv (.int .i64 l.k)),(.row 3 (q+List.length (List.drop 0 (List.take 1 [PV.agg [Sh.co Sh.str (List.getD (PV.cells (enc y0)) 0 default),Sh.co (Sh.int .i64) (List.getD (PV.cells (enc y0)) (0+1) default)]]))) 0 (q+List.length (List.drop 0 (List.take 1 [PV.agg [Sh.co Sh.str (List.getD (PV.cells (enc y0)) 0 default),Sh.co (Sh.int .i64) (List.getD (PV.cells (enc y0)) (0+1) default)]]))))])),(.obj (.row false 61 2 (List.map enc ts++List.drop 0 (List.take 1 [PV.agg [Sh.co Sh.str (List.getD (PV.cells (enc y0)) 0 default),Sh.co (Sh.int .i64) (List.getD (PV.cells (enc y0)) (0+1) default)]]))))])))))else(if (!p)=true then(List.length (List.map enc ts)==q&&q==q&&decide ((q+List.length (List.drop 0 (List.take 1 [PV.agg [PV.str s,PV.int .i64 c]])))*24<=1099511627776)&&decide (q+List.length (List.drop 0 (List.take 1 [PV.agg [PV.str s,PV.int .i64 c]]))<=1099511627776))=true∧(At ZG 0 (Zd 0 Zx G) Zz 1 100 [(6,(.ptr 0 0)),(7,(.ptr 1 0)),(11,(.pv (.int .i64 0))),(12,(.pv (.int .i64 0)))] [(.obj (.box [(.pv (.int .i64 0)),(.pv (.sl 0 true []))])),(.obj (.box [(.pv (.int .i64 l.k)),(.row 2 (q+List.length (List.drop 0 (List.take 1 [PV.agg [PV.str s,PV.int .i64 c]]))) 0 (q+List.length (List.drop 0 (List.take 1 [PV.agg [PV.str s,PV.int .i64 c]]))))])),(.obj (.row false 61 2 (List.map enc ts++List.drop 0 (List.take 1 [PV.agg [PV.str s,PV.int .i64 c]]))))])else(At ZG 0 (Zd 0 Zx G) Zz 1 100 [(6,(.ptr 0 0)),(7,(.ptr 1 0)),(11,(.pv (.int .i64 0))),(12,(.pv (.int .i64 0)))] [(.obj (.box [(.pv (.int .i64 0)),(.pv (.sl 0 true []))])),(.obj (.box [(.pv (.int .i64 l.k)),(.row 2 q 0 q)])),(.obj (.row false 61 2 (List.map enc ts)))]))):At ZG 0 (Zd 0 Zx G) Zz 0 100 [(1,.pv (.str s)),(2,.pv (.int .i64 c)),(3,.ptr 0 0),(6,.ptr 1 0),(7,.ptr 2 0),(8,.pv (.bool p)),(9,.pv (.int .i64 i))] [.obj (.box [.pv (.int .i64 l.k),.pv (enc l.t)]),.obj (.box [.pv (.int .i64 0),.pv (.sl 0 true [])]),.obj (.box [.pv (.int .i64 l.k),.row 3 q 0 q]),.obj (.row false 61 2 (ts.map enc))]:=At.to (.lit (.ask (.req (.abs (Coef) (fun YY=>AV.pv (PV.rptr (PV.cells ((enc) YY)))) (.lit (.ask (.lit (.lit (.lit (.lit (.lit (.ask (.lit (.lit (.req (.lit (.ask (.lit (.lit (.lit (.req (.lit (.nil)))))) (.lit (.lit (.req (.lit (.nil)))))))))) (.lit (.ask (.lit (.lit (.lit (.req (.lit (.nil)))))) (.lit (.lit (.req (.lit (.nil))))))))))))) (.lit (.lit (.lit (.lit (.lit (.lit (.ask (.lit (.lit (.lit (.req (.lit (.nil)))))) (.lit (.lit (.req (.lit (.nil)))))))))))))))) (.ask (.lit (.lit (.req (.nil)))) (.nil)))) h (by kernel_rfl)
end Go.Pl

namespace Go.Pl
open Go.RowKit
open Enc (enc dec is)
open EncL (encL decL isL)
theorem a3w{ts:List Coef}{i:Nat}(h:i<ts.length):ts.getD i ⟨⟨[]⟩,0⟩=ts[i]:=by simp[List.getD,h]
theorem OW(l:Lin)(s:List UInt8)(c:Int)(q:Nat)(ho:q<=2000000): ∀ (m i j:Nat) (ts:List Coef),m+i=q->ts.length=q->j<=i ->
  At ZG 0 (Zd 0 Zx (fun r=>r=Du ⟨l.k,(Qg m i j ts).2,(Qg m i j ts).1⟩ 0 [])) Zz 1 100 [(6,.ptr 0 0),(7,.ptr 1 0),(11,.pv (.int .i64 j)),(12,.pv (.int .i64 i))] [.obj (.box [.pv (.int .i64 0),.pv (.sl 0 true [])]),.obj (.box [.pv (.int .i64 l.k),.row 2 q 0 q]),.obj (.row false 61 2 (ts.map enc))]:=by
 intro m
 induction m with
 | zero=>
  intro i j ts hm hts hji
  refine Cu l s c j i q ts (XG (by simp;omega) ?_)
  refine⟨by simp[hts];omega,?_⟩
  subst hts
  simp only[Int.toNat_natCast,Nat.zero_add]
  rfl
 | succ m ih=>
  intro i j ts hm hts hji
  have hi':i<ts.length:=by omega
  have hj':j<ts.length:=by omega
  refine Cu l s c j i q ts ?_
  simp only[FW enc hi',FW enc hj']
  refine YD (by simp;omega) ⟨by simp;omega,by simp;omega,rfl,?_⟩
  rw[Qg,a3w hi']
  by_cases hz:ts[i].c=0
  ·refine XG (by show ¬ (ts[i].c != 0)=true;simp[hz]) ?_
   rw[next (by omega),if_pos hz]
   exact ih (i+1) j ts (by omega) hts (by omega)
  ·refine YD (by show(ts[i].c != 0)=true;simp[hz]) ⟨by simp;omega,by simp;omega,rfl,by simp;omega,?_,?_⟩
   ·simp only[List.length_map,hts,beq_self_eq_true,Bool.true_and,Nat.zero_add,Int.toNat_natCast,decide_eq_true (show j<q by omega)]
    rfl
   ·rw[Nat.zero_add,Int.toNat_natCast,Oi,next (by omega),next (by omega),if_neg hz]
    exact ih (i+1) (j+1) (ts.set j ts[i]) (by omega) (by simp[hts]) (by omega)
theorem Jb(l:Lin)(s:List UInt8)(c:Int)(o:List Coef)(ho:o.length<=2000000):
  At ZG 0 (Zd 0 Zx (fun r=>r=Du (CR l.k o) 0 [])) Zz 1 100 [(6,.ptr 0 0),(7,.ptr 1 0),(11,.pv (.int .i64 0)),(12,.pv (.int .i64 0))] [.obj (.box [.pv (.int .i64 0),.pv (.sl 0 true [])]),.obj (.box [.pv (.int .i64 l.k),.row 2 o.length 0 o.length]),.obj (.row false 61 2 (o.map enc))]:=
 OW l s c o.length ho o.length 0 0 o (by omega) rfl (by omega)
theorem a1a(l:Lin)(s:List UInt8)(c:Int)(hl:l.t.length<=1000000): ∀ (m i:Nat) (p:Bool) (q:Nat) (ts:List Coef),m+i=l.t.length->q=ts.length->(p=false->ts.length<=i)->ts.length<=i+1 ->
  At ZG 0 (Zd 0 Zx (fun r=>r=Du (CR l.k (ts++YL ⟨s⟩ c p (l.t.drop i))) 0 [])) Zz 0 100 [(1,.pv (.str s)),(2,.pv (.int .i64 c)),(3,.ptr 0 0),(6,.ptr 1 0),(7,.ptr 2 0),(8,.pv (.bool p)),(9,.pv (.int .i64 i))]
   [.obj (.box [.pv (.int .i64 l.k),.pv (enc l.t)]),.obj (.box [.pv (.int .i64 0),.pv (.sl 0 true [])]),.obj (.box [.pv (.int .i64 l.k),.row 3 q 0 q]),.obj (.row false 61 2 (ts.map enc))]:=by
 intro m
 induction m with
 | zero=>
  intro i p q ts hm hq h1 h2
  refine CV l s c p i q ts (XG (Co (by omega)) ?_)
  rw[List.drop_of_length_le (show l.t.length<=i by omega)]
  refine Wv (fun hp=> ?_) fun hp=> ?_
  ·subst hp
   refine⟨by simp[hq];omega,?_⟩
   have h:=Jb l s c (ts++[⟨⟨s⟩,c⟩]) (by simp;omega)
   rw[List.map_append,List.length_append,<- hq]at h
   rw[YL]
   exact h
  ·subst hp
   have h:=Jb l s c ts (by omega)
   rw[<- hq]at h
   rw[YL,if_pos rfl,List.append_nil]
   exact h
 | succ m ih=>
  intro i p q ts hm hq h1 h2
  have hlt:i<l.t.length:=by omega
  refine CV l s c p i q ts (YD (Ct hlt) ⟨Xy hlt rfl,WP hlt ?_⟩)
  rw[List.drop_eq_getElem_cons hlt,next (by omega)]
  have key : ∀ (p':Bool) (add:List Coef),add.length<=2->(p'=false->(ts++add).length<=i+1)->(ts++add).length<=i+2->ts++YL ⟨s⟩ c p (l.t[i]::l.t.drop (i+1))=(ts++add)++YL ⟨s⟩ c p' (l.t.drop (i+1)) ->
    At ZG 0 (Zd 0 Zx (fun r=>r=Du (CR l.k (ts++YL ⟨s⟩ c p (l.t[i]::l.t.drop (i+1)))) 0 [])) Zz 0 100 [(1,.pv (.str s)),(2,.pv (.int .i64 c)),(3,.ptr 0 0),(6,.ptr 1 0),(7,.ptr 2 0),(8,.pv (.bool p')),(9,.pv (.int .i64 ((i+1:Nat):Int)))]
     [.obj (.box [.pv (.int .i64 l.k),.pv (enc l.t)]),.obj (.box [.pv (.int .i64 0),.pv (.sl 0 true [])]),.obj (.box [.pv (.int .i64 l.k),.row 3 (q+add.length) 0 (q+add.length)]),.obj (.row false 61 2 (ts.map enc++add.map enc))]:=by
   intro p' add h3 h4 h5 h6
   rw[h6,<- List.map_append]
   exact ih (i+1) p' (q+add.length) (ts++add) (by omega) (by simp[hq]) h4 h5
  generalize l.t[i]=y at key ⊢
  obtain⟨⟨yv⟩,yc⟩:=y
  subst hq
  refine Wv (fun hp=> ?_) fun hp=> ?_
  ·subst hp
   have hle:=h1 rfl
   refine Wv (fun hb=> ?_) fun hb=> ?_
   ·have hb:(Op.bytesLess yv s||yv==s)=false:=hb
    have hlt2:s<yv:=by
     simp only[Yj,Bool.or_eq_false_iff,decide_eq_false_iff_not,beq_eq_false_iff_ne]at hb
     exact tri hb.1 hb.2
    have hne : ¬ yv=s:=fun e=>by rw[e]at hlt2;exact List.lt_irrefl _ hlt2
    refine⟨by simp;omega,Wu (fun h=>absurd h hne) fun _=>⟨by simp;omega,?_⟩⟩
    have:=key true [⟨⟨s⟩,c⟩,⟨⟨yv⟩,yc⟩] (by simp) (fun h=>by cases h) (by simp;omega) (by rw[QO,if_pos hlt2];simp)
    rw[List.append_assoc]
    exact this
   ·have hb:(Op.bytesLess yv s||yv==s)=true:=hb
    have hnl : ¬ s<yv:=by
     simp only[Yj,Bool.or_eq_true,decide_eq_true_eq,beq_iff_eq]at hb
     rcases hb with h|h
     ·exact List.lt_asymm h
     ·rw[h];exact List.lt_irrefl _
    refine Wu (fun h=> ?_) fun h=> ?_
    ·have h:yv=s:=h
     subst h
     refine⟨by simp;omega,?_⟩
     exact key true [⟨⟨yv⟩,Yb (yc+c)⟩] (by simp) (fun h=>by cases h) (by simp;omega) (by rw[QO,if_neg hnl,if_pos rfl];simp)
    ·have h:yv≠s:=h
     refine⟨by simp;omega,?_⟩
     exact key false [⟨⟨yv⟩,yc⟩] (by simp) (fun _=>by simp;omega) (by simp;omega) (by rw[QO,if_neg hnl,if_neg (by rw[QE];exact h)];simp)
  ·subst hp
   refine Wu (fun h=> ?_) fun h=> ?_
   ·have h:yv=s:=h
    subst h
    refine⟨by simp;omega,?_⟩
    exact key true [⟨⟨yv⟩,Yb (yc+c)⟩] (by simp) (fun h=>by cases h) (by simp;omega) (by rw[NI,if_pos rfl];simp)
   ·have h:yv≠s:=h
    refine⟨by simp;omega,?_⟩
    exact key true [⟨⟨yv⟩,yc⟩] (by simp) (fun h=>by cases h) (by simp;omega) (by rw[NI,if_neg (by rw[QE];exact h)];simp)
theorem LM(l:Lin)(s:List UInt8)(c:Int)(hl:l.t.length<=1000000):Zi ZG 0 (Zd 0 Zx (fun r=>r=Du (JD l ⟨s⟩ c) 0 [])) Zz [] (Yk TK [.pv (enc l),.pv (.str s),.pv (enc c)] []):=by
 refine a2p l s c (Fj l s c false 0 ?_)
 show if _ then _ else(if _ then At ZG 0 (Zd 0 Zx (fun r=>r=Du (CR l.k (YL ⟨s⟩ c false l.t)) 0 [])) _ _ _ _ _ else _)
 by_cases h0:l.t=[]
 ·refine XG (by simp[h0]) (YD rfl ?_)
  have h:=Jb l s c [⟨⟨s⟩,c⟩] (by simp)
  rw[h0,YL]
  exact h
 ·have hlt:0<l.t.length:=List.length_pos_iff.2 h0
  refine YD (by simp;omega) ⟨by simp[Enc.sz];omega,WP hlt ?_⟩
  have ed:l.t=l.t[0]::l.t.drop 1:=by
   have:=List.drop_eq_getElem_cons hlt
   rwa [List.drop_zero]at this
  have key : ∀ (p':Bool) (add:List Coef),add.length<=2->(p'=false->add.length<=1)->YL ⟨s⟩ c false (l.t[0]::l.t.drop 1)=add++YL ⟨s⟩ c p' (l.t.drop 1) ->
    At ZG 0 (Zd 0 Zx (fun r=>r=Du (CR l.k (YL ⟨s⟩ c false l.t)) 0 [])) Zz 0 100 [(1,.pv (.str s)),(2,.pv (.int .i64 c)),(3,.ptr 0 0),(6,.ptr 1 0),(7,.ptr 2 0),(8,.pv (.bool p')),(9,.pv (.int .i64 ((0+1:Nat):Int)))]
     [.obj (.box [.pv (.int .i64 l.k),.pv (enc l.t)]),.obj (.box [.pv (.int .i64 0),.pv (.sl 0 true [])]),.obj (.box [.pv (.int .i64 l.k),.row 3 add.length 0 add.length]),.obj (.row false 61 2 (add.map enc))]:=by
   intro p' add h3 h4 h6
   have h7:YL ⟨s⟩ c false l.t=add++YL ⟨s⟩ c p' (l.t.drop 1):=by rw[<- h6,<- ed]
   rw[h7]
   exact a1a l s c hl (l.t.length - 1) (0+1) p' add.length add (by omega) rfl (fun h=>h4 h) (by omega)
  rw[show IntKind.wrap IntKind.i64 (0+1)=((0+1:Nat):Int)from rfl]
  generalize l.t[0]=y at key ⊢
  obtain⟨⟨yv⟩,yc⟩:=y
  refine YD rfl ?_
  refine Wv (fun hb=> ?_) fun hb=> ?_
  ·have hb:(Op.bytesLess yv s||yv==s)=false:=hb
   have hlt2:s<yv:=by
    simp only[Yj,Bool.or_eq_false_iff,decide_eq_false_iff_not,beq_eq_false_iff_ne]at hb
    exact tri hb.1 hb.2
   have hne : ¬ yv=s:=fun e=>by rw[e]at hlt2;exact List.lt_irrefl _ hlt2
   refine Wu (fun h=>absurd h hne) fun _=> ?_
   exact key true [⟨⟨s⟩,c⟩,⟨⟨yv⟩,yc⟩] (by simp) (fun h=>by cases h) (by rw[QO,if_pos hlt2];simp)
  ·have hb:(Op.bytesLess yv s||yv==s)=true:=hb
   have hnl : ¬ s<yv:=by
    simp only[Yj,Bool.or_eq_true,decide_eq_true_eq,beq_iff_eq]at hb
    rcases hb with h|h
    ·exact List.lt_asymm h
    ·rw[h];exact List.lt_irrefl _
   refine Wu (fun h=> ?_) fun h=> ?_
   ·have h:yv=s:=h
    subst h
    exact key true [⟨⟨yv⟩,Yb (yc+c)⟩] (by simp) (fun h=>by cases h) (by rw[QO,if_neg hnl,if_pos rfl];simp)
   ·have h:yv≠s:=h
    exact key false [⟨⟨yv⟩,yc⟩] (by simp) (fun _=>by simp) (by rw[QO,if_neg hnl,if_neg (by rw[QE];exact h)];simp)
theorem LV: ∀ args os,Qw args os=true->Zi ZG os.length (Zd os.length Zx fun r=>r=Qu args os) Zz [] (Yk TK args os):=by
 intro args os h
 unfold Qw at h
 split at h
 ·rename_i l s c
  simp only[Bool.and_eq_true,decide_eq_true_eq]at h
  obtain⟨hl,h1⟩:=h
  obtain⟨l,rfl⟩:=Af hl
  rw[Enc.dec_enc]at h1
  have ev:Qu [.pv (enc l),.pv (.str s),.pv (.int .i64 c)] []=Du (JD l ⟨s⟩ c) 0 []:=by
   show Du (JD (dec (enc l:PV)) ⟨s⟩ c) 0 []=_
   rw[Enc.dec_enc]
  rw[ev]
  exact LM l s c h1
 ·cases h
end Go.Pl

namespace Go.Pl
open Go.RowKit
open Enc (enc dec is)
open EncL (encL decL isL)
theorem V6.rfl(ps:List PV):V6 ps ps:=⟨Eq.refl _,fun j x y hx hy Φ v h=>by rw[hx]at hy;cases hy;exact h⟩
theorem LR.frz_av(r:LR):(frz (r.av 0)).run (Yg [r.ob])=some (enc r.view,[.obj (.row true 61 2 (r.ts.map enc))]):=by
 have:(PV.agg [.int .i64 r.k,.sl 2 false (List.drop 0 (List.take r.w (r.ts.map enc)))])=enc r.view:=by
  rw[List.drop_zero,<- List.map_take];rfl
 rw[<- this]
 simp[frz,V8,HM.bind,HM.run,Yg,LR.av,LR.ob]
theorem Fe{P:Program}{f:Nat}(h:ZV P f Qw Qu):ZC P f (fun x:Lin×Str×Int×Unit=>decide (x.1.t.length<=1000000)) (fun x:Lin×Str×Int×Unit=>Wh x.1 x.2.1 x.2.2.1):=ZC.of_own h fun a ha=>by
 obtain⟨l,⟨s⟩,c,⟨⟩⟩:=a
 have ha:l.t.length<=1000000:=by simpa using ha
 refine⟨(JD l ⟨s⟩ c).av 0,[(JD l ⟨s⟩ c).ob],_,_,?_,?_,LR.frz_av _,?_⟩
 ·show(FE Lin (enc l)&&decide ((dec (enc l:PV):Lin).t.length<=1000000))=true
  rw[Qq,Enc.dec_enc,decide_eq_true ha];rfl
 ·show Du (JD (dec (enc l:PV)) ⟨s⟩ c) 0 []=_
  rw[Enc.dec_enc];rfl
 ·rw[RD];exact .refl _
end Go.Pl

namespace Go.Pl
open Go.RowKit
open Enc (enc dec is)
open EncL (encL decL isL)
end Go.Pl

namespace Go.Pl
open Go.RowKit
open Enc (enc dec is)
open EncL (encL decL isL)
set_option maxRecDepth 100000
-- IMPOSSIBLE
end Go.Pl

namespace Go.Pl
open Go.RowKit
open Enc (enc dec is)
open EncL (encL decL isL)
end Go.Pl

namespace Go.Pl
open Go.RowKit
open Enc (enc dec is)
open EncL (encL decL isL)
end Go.Pl

namespace Go.Pl
open Go.RowKit
open Enc (enc dec is)
open EncL (encL decL isL)
set_option maxRecDepth 100000
end Go.Pl

namespace Go.Pl
open Go.RowKit
open Enc (enc dec is)
open EncL (encL decL isL)
set_option maxRecDepth 100000
end Go.Pl

namespace Go.Pl
open Go.RowKit
open Enc (enc dec is)
open EncL (encL decL isL)
structure Cert2 where
 a:Cert
 b:Cert
instance:Enc Cert2 where
 sz:=10
 enc x:=.agg (PV.cells (enc x.a)++PV.cells (enc x.b))
 dec | .agg [a,b,c,d,e,f,g,h,i,j]=>⟨dec (.agg [a,b,c,d,e]),dec (.agg [f,g,h,i,j])⟩|_=>⟨.mk 0 [] ⟨0,[]⟩ [],.mk 0 [] ⟨0,[]⟩ []⟩
 is | .agg [a,b,c,d,e,f,g,h,i,j]=>is Cert (.agg [a,b,c,d,e])&&is Cert (.agg [f,g,h,i,j])|_=>false
 is_enc v:=by
  obtain⟨⟨k,m,l,ks⟩,⟨k',m',l',ks'⟩⟩:=v
  rw[WR,WR]
  show(is Cert (.agg [enc k,enc m,enc l.k,enc l.t,enc ks])&&is Cert (.agg [enc k',enc m',enc l'.k,enc l'.t,enc ks']))=true
  rw[<- WR,<- WR,Enc.is_enc,Enc.is_enc];rfl
 dec_enc v:=by
  obtain⟨⟨k,m,l,ks⟩,⟨k',m',l',ks'⟩⟩:=v
  rw[WR,WR]
  show(⟨dec (.agg [enc k,enc m,enc l.k,enc l.t,enc ks]),dec (.agg [enc k',enc m',enc l'.k,enc l'.t,enc ks'])⟩:Cert2)=_
  rw[<- WR,<- WR,Enc.dec_enc,Enc.dec_enc]
 sub p h:=by
  cases p with
  | agg xs=>
   match xs,h with
   | [a,b,c,d,e,f,g,h',i,j],h=>
    simp only[Bool.and_eq_true]at h
    have h1:=Enc.sub (α:=Cert) _ h.1
    have h2:=Enc.sub (α:=Cert) _ h.2
    exact V4.agg (h1.1.append h2.1)
  | _=>cases h
theorem a8v{l:Lin}{n:Int}(h:Al l n=true)(hl:Zy l=true):Zt l=true:=by
 simp only[Al,Bool.and_eq_true,List.all_eq_true,decide_eq_true_eq]at h
 simp only[Zt,hl,Bool.true_and,List.all_eq_true,decide_eq_true_eq]
 intro t ht
 have:=h.1 t ht
 omega
mutual
theorem a4c: ∀ (c:Cert) (n:Int),n<=12->R9 c n=true->cOk c=true->1<=n∧(a9c c:Int)<=n∧1<=GM c∧GM c<=n∧cSm c=true
 | .mk k m l ks,n,hn,h,ho=>by
  simp only[R9,Bool.and_eq_true,Bool.not_eq_true',decide_eq_false_iff_not]at h
  obtain⟨h1,h2,h3,h4,h5⟩:=h
  simp only[cOk,Bool.and_eq_true,decide_eq_true_eq]at ho
  obtain⟨⟨⟨o1,o2⟩,o3⟩,o4⟩:=ho
  obtain⟨a1,a2,a3,a4⟩:=Rc ks n 1 (by omega) hn (by omega) (by omega) h5 o4
  rw[a9c,GM]
  refine⟨by omega,by omega,by omega,by omega,?_⟩
  simp only[cSm,a8v h2 o2,a4,decide_eq_true o1,decide_eq_true o3]
  rfl
theorem Rc: ∀ (cs:List Cert) (n s:Int),1<=n->n<=12->1<=s->s<=100 - n->J9 cs n=true->Mo cs=true->(Sq cs:Int)<=n - 1∧s<=K6 s cs∧K6 s cs<=s+n - 1∧Fh cs=true
 | [],n,s,h1,h2,h3,h4,_,_=>by
  rw[Sq,K6]
  exact⟨by omega,by omega,by omega,rfl⟩
 | c::cs,n,s,h1,h2,h3,h4,h,ho=>by
  simp only[J9,Bool.and_eq_true]at h
  simp only[Mo,Bool.and_eq_true]at ho
  rw[Vz (by omega) (by omega)]at h
  obtain⟨b1,b2,b3,b4,b5⟩:=a4c c (n - 1) (by omega) h.1 ho.1
  have h':=h.2
  rw[Vz (by omega) (by omega)]at h'
  obtain⟨a1,a2,a3,a4⟩:=Rc cs (n - GM c) (s+GM c) (by omega) (by omega) (by omega) (by omega) h' ho.2
  rw[Sq,K6,Vz (by omega) (by omega)]
  refine⟨by omega,by omega,by omega,?_⟩
  simp only[Fh,b5,a4]
  rfl
end
end Go.Pl

namespace Go.Pl
open Go.RowKit
open Enc (enc dec is)
open EncL (encL decL isL)
set_option maxRecDepth 100000
end Go.Pl

namespace Go.Pl
open Go.RowKit
open Enc (enc dec is)
open EncL (encL decL isL)
theorem Bv: ∀ {m:List (Str×Int)},(ZQ m).Nodup-> ∀ p∈m,Vh m p.1.s=p.2
 | q::m,h,p,hp=>by
  simp only[ZQ,List.map_cons,List.nodup_cons]at h
  rcases List.mem_cons.1 hp with rfl|hp
  ·simp[Vh]
  ·have:(q.1.s==p.1.s)=false:=by
    simp only[beq_eq_false_iff_ne,ne_eq]
    intro e
    exact h.1 (e▸List.mem_map.2 ⟨p,hp,rfl⟩)
   have ih:=Bv (m:=m) h.2 p hp
   simp only[Vh,List.find?_cons,this]at ih ⊢
   exact ih
end Go.Pl

namespace Go.Pl
open Go.RowKit
open Enc (enc dec is)
open EncL (encL decL isL)
end Go.Pl

namespace Go.Pl
open Go.RowKit
open Enc (enc dec is)
open EncL (encL decL isL)
end Go.Pl

namespace Go.Pl
open Go.RowKit
def Yt(ts:List Coef)(s:List UInt8):Int:=((ts.find? fun t=>t.v.s==s).map (·.c)).getD 0
def Uk(ts:List Coef):Prop:=ts.Pairwise fun a b=>a.v.s<b.v.s
def SY(ts:List Coef):Prop:= ∀ t∈ts,t.c≠0
theorem QI(s:List UInt8):Yt [] s=0:=rfl
theorem ZE(t:Coef)(ts:List Coef)(s:List UInt8):Yt (t::ts) s=if t.v.s=s then t.c else Yt ts s:=by
 simp only[Yt,List.find?_cons]
 by_cases h:t.v.s=s
 ·simp[h]
 ·have:(t.v.s==s)=false:=by simpa using h
  simp[this,h]
theorem Vw{s:List UInt8}: ∀ {ts:List Coef},(∀ t∈ts,s<t.v.s)->Yt ts s=0
 | [],_=>rfl
 | t::ts,h=>by
  have h1:=h t (by simp)
  rw[ZE,if_neg (fun e=>by rw[e]at h1;exact List.lt_irrefl _ h1)]
  exact Vw fun u hu=>h u (by simp[hu])
theorem Xk{t:Coef}{ts:List Coef}:Uk (t::ts) ↔ (∀ u∈ts,t.v.s<u.v.s)∧Uk ts:=List.pairwise_cons
theorem Ck: ∀ {a b:List Coef},Uk a->SY a->Uk b->SY b->(∀ s,Yt a s=Yt b s)->a=b
 | [],[],_,_,_,_,_=>rfl
 | [],y::ys,_,_,_,hn,h=>by
  have:=h y.v.s
  rw[QI,ZE,if_pos rfl]at this
  exact absurd this.symm (hn y (by simp))
 | x::xs,[],_,hn,_,_,h=>by
  have:=h x.v.s
  rw[QI,ZE,if_pos rfl]at this
  exact absurd this (hn x (by simp))
 | x::xs,y::ys,ha,hna,hb,hnb,h=>by
  obtain⟨ha1,ha2⟩:=Xk.1 ha
  obtain⟨hb1,hb2⟩:=Xk.1 hb
  have hxy:x.v.s=y.v.s:=by
   by_cases h1:x.v.s<y.v.s
   ·have e:=h x.v.s
    rw[ZE,if_pos rfl,Vw (ts:=y::ys) (fun t ht=>by
     rcases List.mem_cons.1 ht with rfl|ht
     ·exact h1
     ·exact List.lt_trans h1 (hb1 t ht))]at e
    exact absurd e (hna x (by simp))
   ·by_cases h2:x.v.s=y.v.s
    ·exact h2
    ·have h3:=tri h1 h2
     have e:=h y.v.s
     rw[ZE (t:=y),if_pos rfl,Vw (ts:=x::xs) (fun t ht=>by
      rcases List.mem_cons.1 ht with rfl|ht
      ·exact h3
      ·exact List.lt_trans h3 (ha1 t ht))]at e
     exact absurd e.symm (hnb y (by simp))
  have hc:x.c=y.c:=by
   have e:=h x.v.s
   rwa [ZE,if_pos rfl,ZE,if_pos hxy.symm]at e
  have hxe:x=y:=by
   have hv:x.v=y.v:=QE.2 hxy
   cases x;cases y;simp only at hv hc;rw[hv,hc]
  have ht:xs=ys:=Ck ha2 (fun t ht=>hna t (by simp[ht])) hb2 (fun t ht=>hnb t (by simp[ht])) fun s=>by
   by_cases hs:x.v.s=s
   ·rw[Vw (ts:=xs) (fun t ht=>hs▸ha1 t ht),Vw (ts:=ys) (fun t ht=>hs▸hxy▸hb1 t ht)]
   ·have e:=h s
    rwa [ZE,if_neg hs,ZE,if_neg (fun e=>hs (hxy.trans e))]at e
  rw[hxe,ht]
theorem Vy(s:Str)(c:Int): ∀ {ts:List Coef},(∀ t∈ts,s.s<t.v.s)->YL s c true ts=ts
 | [],_=>by simp[YL]
 | t::ts,h=>by
  have h1:=h t (by simp)
  rw[NI,if_neg (fun e=>by rw[e]at h1;exact List.lt_irrefl _ h1),Vy s c fun u hu=>h u (by simp[hu])]
theorem P9(s:Str)(c:Int): ∀ {ts:List Coef},Uk ts-> ∀ u∈YL s c false ts,u.v.s=s.s ∨ ∃ t∈ts,t.v.s=u.v.s
 | [],_,u,hu=>by
  simp only[YL,Bool.false_eq_true,if_false,List.mem_singleton]at hu
  exact .inl (by rw[hu])
 | t::ts,h,u,hu=>by
  obtain⟨h1,h2⟩:=Xk.1 h
  rw[QO]at hu
  split at hu
  ·rename_i hlt
   rw[Vy s c (fun u hu=>List.lt_trans hlt (h1 u hu))]at hu
   rcases List.mem_cons.1 hu with rfl|hu
   ·exact .inl rfl
   ·exact .inr ⟨u,hu,rfl⟩
  ·split at hu
   ·rename_i he
    rw[Vy s c (fun u hu=>he▸h1 u hu)]at hu
    rcases List.mem_cons.1 hu with rfl|hu
    ·exact .inr ⟨t,by simp,rfl⟩
    ·exact .inr ⟨u,by simp[hu],rfl⟩
   ·rcases List.mem_cons.1 hu with rfl|hu
    ·exact .inr ⟨u,by simp,rfl⟩
    ·rcases P9 s c h2 u hu with h|⟨w,hw,e⟩
     ·exact .inl h
     ·exact .inr ⟨w,by simp[hw],e⟩
theorem Ac(s:Str)(c:Int): ∀ {ts:List Coef},Uk ts->Uk (YL s c false ts)
 | [],_=>by simp[YL,Uk]
 | t::ts,h=>by
  obtain⟨h1,h2⟩:=Xk.1 h
  rw[QO]
  split
  ·rename_i hlt
   rw[Vy s c (fun u hu=>List.lt_trans hlt (h1 u hu))]
   exact Xk.2 ⟨fun u hu=>by
    rcases List.mem_cons.1 hu with rfl|hu
    ·exact hlt
    ·exact List.lt_trans hlt (h1 u hu),h⟩
  ·rename_i hlt
   split
   ·rename_i he
    rw[Vy s c (fun u hu=>he▸h1 u hu)]
    exact Xk.2 ⟨h1,h2⟩
   ·rename_i he
    have hts:t.v.s<s.s:=tri hlt (fun e=>he (QE.2 e.symm))
    refine Xk.2 ⟨fun u hu=> ?_,Ac s c h2⟩
    rcases P9 s c h2 u hu with e|⟨w,hw,e⟩
    ·rw[e];exact hts
    ·rw[<- e];exact h1 w hw
theorem Sw(s:Str)(c:Int)(hc:Yb c=c): ∀ {ts:List Coef},Uk ts-> ∀ x,Yt (YL s c false ts) x=if s.s=x then Yb (Yt ts s.s+c)else Yt ts x
 | [],_,x=>by
  have e:YL s c false []=[⟨s,c⟩]:=by simp[YL]
  rw[e,ZE,QI,QI,Int.zero_add,hc]
 | t::ts,h,x=>by
  obtain⟨h1,h2⟩:=Xk.1 h
  rw[QO]
  split
  ·rename_i hlt
   rw[Vy s c (fun u hu=>List.lt_trans hlt (h1 u hu)),ZE,Vw (ts:=t::ts) (s:=s.s) (fun u hu=>by
    rcases List.mem_cons.1 hu with rfl|hu
    ·exact hlt
    ·exact List.lt_trans hlt (h1 u hu)),Int.zero_add,hc]
  ·rename_i hlt
   split
   ·rename_i he
    have he':t.v.s=s.s:=by rw[he]
    have e1:Yt (t::ts) s.s=t.c:=by rw[ZE,if_pos he']
    have e2:Yt (t::ts) x=if s.s=x then t.c else Yt ts x:=by rw[ZE,he']
    rw[Vy s c (fun u hu=>he▸h1 u hu),ZE,e1,e2]
    show(if t.v.s=x then Yb (t.c+c)else Yt ts x)=_
    rw[he']
    by_cases hx:s.s=x
    ·rw[if_pos hx,if_pos hx]
    ·rw[if_neg hx,if_neg hx,if_neg hx]
   ·rename_i he
    have he' : ¬ t.v.s=s.s:=fun e=>he (QE.2 e)
    rw[ZE,Sw s c hc h2 x,ZE (s:=s.s),if_neg he',ZE (s:=x)]
    by_cases hx:s.s=x
    ·rw[if_pos hx,if_pos hx,if_neg (fun e=>he' (e.trans hx.symm))]
    ·rw[if_neg hx,if_neg hx]
theorem Jd: ∀ {ts:List Coef},Uk ts-> ∀ x,Yt (ts.filter fun t=>decide (t.c≠0)) x=Yt ts x
 | [],_,x=>rfl
 | t::ts,h,x=>by
  obtain⟨h1,h2⟩:=Xk.1 h
  rw[List.filter_cons]
  split
  ·rw[ZE,ZE,Jd h2 x]
  ·rename_i hz
   have hz0:t.c=0:=by simpa using hz
   rw[ZE,Jd h2 x]
   by_cases hx:t.v.s=x
   ·rw[if_pos hx,hz0,Vw fun u hu=>hx▸h1 u hu]
   ·rw[if_neg hx]
theorem TE{l:Lin}(s:Str)(c:Int)(h:Uk l.t):Uk (Wh l s c).t:=(Ac s c h).sublist List.filter_sublist
theorem P8(l:Lin)(s:Str)(c:Int):SY (Wh l s c).t:=fun t ht=>by simpa using (List.mem_filter.1 ht).2
theorem Cq{l:Lin}(s:Str){c:Int}(hc:Yb c=c)(h:Uk l.t)(x:List UInt8):Yt (Wh l s c).t x=if s.s=x then Yb (Yt l.t s.s+c)else Yt l.t x:=by
 show Yt (List.filter _ _) x=_
 rw[Jd (Ac s c h),Sw s c hc h]
theorem PZ(n:Int): -9223372036854775808<=Yb n∧Yb n<=9223372036854775807:=by
 unfold Yb IntKind.wrap
 simp only[IntKind.bits,IntKind.signed]
 simp
 split <;> omega
theorem K4(n:Int):Yb (Yb n)=Yb n:=Vz (by have:=PZ n;omega) (by have:=PZ n;omega)
theorem GY(s:Str)(c:Int)(x:List UInt8): ∀ m:List (Str×Int),Vh (WY s c m) x=if s.s=x then c else Vh m x
 | []=>by
  rw[WY]
  simp only[Vh,List.find?_cons]
  by_cases h:s.s=x
  ·simp[h]
  ·have:(s.s==x)=false:=by simpa using h
   simp[this,h]
 | p::m=>by
  have ih:=GY s c x m
  rw[WY]
  split
  ·rename_i he
   simp only[Vh,List.find?_cons]
   by_cases h:s.s=x
   ·simp[h]
   ·have h1:(s.s==x)=false:=by simpa using h
    have h2:(p.1.s==x)=false:=by rw[<- he];exact h1
    simp[h1,h2,h]
  ·rename_i he
   simp only[Vh,List.find?_cons]at ih ⊢
   by_cases h:p.1.s=x
   ·have h2 : ¬ s.s=x:=fun e=>he (e.trans h.symm)
    simp[h,h2]
   ·have h2:(p.1.s==x)=false:=by simpa using h
    rw[h2]
    exact ih
def Dl(ts:List Coef)(m:List (Str×Int)):Prop:=Uk ts∧ ∀ s,Yt ts s=Vh m s
theorem Cx(k:Int): ∀ (x:List Coef) (l:Lin) (m:List (Str×Int)),Dl l.t m->Dl (x.foldl (fun o t=>Wh o t.v (Yb (k*t.c))) l).t (Y0 k x m)
 | [],l,m,h=>h
 | t::x,l,m,h=>by
  rw[List.foldl_cons,Y0]
  refine Cx k x _ _ ⟨TE _ _ h.1,fun s=> ?_⟩
  rw[Cq _ (K4 _) h.1,GY,h.2,h.2]
theorem NK(k:Int): ∀ (x:List Coef) (l:Lin),SY l.t->SY (x.foldl (fun o t=>Wh o t.v (Yb (k*t.c))) l).t
 | [],l,h=>h
 | t::x,l,h=>NK k x _ (P8 _ _ _)
theorem EE(k:Int): ∀ (x:List Coef) (l:Lin),(x.foldl (fun o t=>Wh o t.v (Yb (k*t.c))) l).k=l.k
 | [],l=>rfl
 | t::x,l=>EE k x _
theorem O8{l x:Lin}{k:Int}(h:SY l.t):SY (Qh l x k).t:=NK k x.t _ h
theorem a2j(l x:Lin)(k:Int):(Qh l x k).k=Yb (l.k+Yb (k*x.k)):=EE k x.t _
theorem a1e{m:List (Str×Int)}{s:List UInt8}(h:s ∉ ZQ m):Vh m s=0:=by
 have:(m.find? fun p=>p.1.s==s)=none:=by
  rw[List.find?_eq_none]
  intro p hp e
  exact h (List.mem_map.2 ⟨p,hp,by simpa using e⟩)
 simp[Vh,this]
theorem Qk(m:List (Str×Int))(x:List UInt8): ∀ l:List (List UInt8),Yt (l.map fun s=>(⟨⟨s⟩,Vh m s⟩:Coef)) x=if x∈l then Vh m x else 0
 | []=>by simp[Yt]
 | s::l=>by
  rw[List.map_cons,ZE,Qk m x l]
  by_cases h:s=x
  ·subst h;simp
  ·have : ¬ x=s:=fun e=>h e.symm
   simp[h,this]
theorem Oj{l:List (List UInt8)}(h:l.Nodup):(Yu l).Pairwise (· < ·):=by
 have tr : ∀ x y z:List UInt8,decide (x<=y)=true->decide (y<=z)=true->decide (x<=z)=true:=fun x y z h k=>by simp only[decide_eq_true_eq]at *;exact List.le_trans h k
 have to : ∀ x y:List UInt8,(decide (x<=y)||decide (y<=x))=true:=fun x y=>by simp only[Bool.or_eq_true,decide_eq_true_eq];exact List.le_total x y
 have h1:=List.pairwise_mergeSort tr to l
 have h2:(Yu l).Nodup:=(List.mergeSort_perm l _).nodup_iff.2 h
 refine(h1.and h2).imp fun {a b} hab=> ?_
 have h3:a<=b:=by simpa using hab.1
 exact Decidable.byContradiction fun hn=>hab.2 (List.le_antisymm h3 (List.not_lt.1 hn))
theorem Lx(m:List (Str×Int)){l:List (List UInt8)}(h:l.Nodup):Uk ((Yu l).map fun s=>(⟨⟨s⟩,Vh m s⟩:Coef)):=List.Pairwise.map _ (fun a b hab=>hab) (Oj h)
theorem Jt{m:List (Str×Int)}(hd:(ZQ m).Nodup):Dl (YC m) m∧SY (YC m):=by
 have hd2:((m.filter fun p=>decide (p.2≠0)).map (·.1.s)).Nodup:=hd.sublist (List.filter_sublist.map _)
 refine⟨⟨Lx m hd2,fun s=> ?_⟩,fun t ht=> ?_⟩
 ·rw[YC,Qk]
  split
  ·rfl
  ·rename_i hn
   refine(Decidable.byContradiction fun h0=>hn ?_)
   have hk:s∈ZQ m:=Decidable.byContradiction fun hk=>h0 (a1e hk).symm
   obtain⟨p,hp,rfl⟩:=List.mem_map.1 hk
   have e:=Bv hd p hp
   refine((List.mergeSort_perm _ _).mem_iff).2 (List.mem_map.2 ⟨p,List.mem_filter.2 ⟨hp,?_⟩,rfl⟩)
   rw[<- e]
   simpa using fun e=>h0 e.symm
 ·obtain⟨s,hs,rfl⟩:=List.mem_map.1 ht
  have hs:=((List.mergeSort_perm _ _).mem_iff).1 hs
  obtain⟨p,hp,rfl⟩:=List.mem_map.1 hs
  obtain⟨hp1,hp2⟩:=List.mem_filter.1 hp
  show Vh m p.1.s≠0
  rw[Bv hd p hp1]
  simpa using hp2
theorem Ch{ts:List Coef}{m:List (Str×Int)}(h:Dl ts m)(hn:SY ts)(hd:(ZQ m).Nodup):ts=YC m:=
 Ck h.1 hn (Jt hd).1.1 (Jt hd).2 fun s=>(h.2 s).trans ((Jt hd).1.2 s).symm
theorem SB: ∀ {l:List Coef},JZ l=true->Uk l
 | [],_=>List.Pairwise.nil
 | [a],_=>by simp[Uk]
 | a::b::l,h=>by
  simp only[JZ,Bool.and_eq_true,decide_eq_true_eq]at h
  have ih:=SB (l:=b::l) h.2
  refine Xk.2 ⟨fun u hu=> ?_,ih⟩
  rcases List.mem_cons.1 hu with rfl|hu
  ·exact h.1
  ·exact List.lt_trans h.1 ((Xk.1 ih).1 u hu)
theorem Js{l:Lin}(h:Zh l=true):Uk l.t:=by
 simp only[Zh,Bool.and_eq_true]at h
 exact SB h.1.1.2
theorem Tg{l:Lin}(h:Zh l=true):SY l.t:=fun t ht=>(Yf h ht).2.1
theorem NY: ∀ (x pre:List Coef) (m:List (Str×Int)),Uk (pre++x)->(∀ t∈x,Yb t.c=t.c)->(∀ s,Yt pre s=Vh m s)-> ∀ s,Yt (pre++x) s=Vh (Y0 1 x m) s
 | [],pre,m,_,_,h,s=>by rw[List.append_nil];exact h s
 | t::x,pre,m,ha,hw,h,s=>by
  have e:pre++t::x=(pre++[t])++x:=by simp
  rw[Y0,e]
  refine NY x (pre++[t]) _ (e▸ha) (fun u hu=>hw u (by simp[hu])) (fun y=> ?_) s
  have hp : ∀ u∈pre,u.v.s<t.v.s:=fun u hu=>(List.pairwise_append.1 ha).2.2 u hu t (by simp)
  have hnone:Yt pre t.v.s=0:=by
   have:(pre.find? fun u=>u.v.s==t.v.s)=none:=by
    rw[List.find?_eq_none]
    intro u hu e
    have e:u.v.s=t.v.s:=by simpa using e
    have:=hp u hu
    rw[e]at this
    exact List.lt_irrefl _ this
   simp[Yt,this]
  have hw1:IntKind.i64.wrap t.c=t.c:=hw t (by simp)
  rw[GY,<- h,<- h,hnone,Int.one_mul,hw1,Int.zero_add,hw1]
  by_cases hy:t.v.s=y
  ·have hn:(pre.find? fun u=>u.v.s==y)=none:=by
    rw[List.find?_eq_none]
    intro u hu e
    have e:u.v.s=y:=by simpa using e
    have:=hp u hu
    rw[e,hy]at this
    exact List.lt_irrefl _ this
   rw[if_pos hy]
   simp[Yt,List.find?_append,hn,hy]
  ·have hn:([t].find? fun u=>u.v.s==y)=none:=by simp[hy]
   rw[if_neg hy]
   simp only[Yt,List.find?_append,hn,Option.or_none]
theorem ER{l:Lin}(h:Zh l=true): ∀ t∈l.t,Yb t.c=t.c:=fun t ht=>by
 have:=(Yf h ht).2.2
 exact Vz (by omega) (by omega)
theorem F7{l:Lin}(h:Zh l=true):Dl l.t (Y0 1 l.t []):=⟨Js h,fun s=>by
 have:=NY l.t [] [] (by simpa using Js h) (ER h) (fun s=>rfl) s
 simpa using this⟩
def VI(l:Lin):Lin×Int:=if Zh l then(l,0)else(⟨0,[]⟩,3)
theorem DX{a b:Lin}(k:Int)(ha:Zh a=true)(hb:Zh b=true):Yw a b k=VI (Qh a b k):=by
 have hk:=KV ha
 have hr:=Cx k b.t ⟨Yb (a.k+Yb (k*b.k)),a.t⟩ _ (F7 (l:=a) ha)
 have hd:(ZQ (Y0 k b.t (Y0 1 a.t []))).Nodup:=Q5 _ _ _ (Q5 _ _ _ (by simp[ZQ]))
 have e1:(Qh a b k).t=YC (Y0 k b.t (Y0 1 a.t [])):=Ch hr (O8 (Tg ha)) hd
 have e2:Yb (Yb (0+Yb (1*a.k))+Yb (k*b.k))=(Qh a b k).k:=by
  rw[a2j,Int.one_mul,Vz (n:=a.k) (by omega) (by omega),Int.zero_add,Vz (n:=a.k) (by omega) (by omega)]
 have e3:(⟨(Qh a b k).k,(Qh a b k).t⟩:Lin)=Qh a b k:=rfl
 unfold Yw
 rw[ha,hb,if_pos rfl,if_pos rfl,e2,Xo,<- e1,e3,VI]
end Go.Pl

namespace Go.Pl
open Go.RowKit
def wM(m:List (Str×Int)):Prop:= ∀ s,Yb (Vh m s)=Vh m s
theorem add_zero: ∀ (x:List Coef) (m:List (Str×Int)),wM m-> ∀ s,Vh (Y0 0 x m) s=Vh m s
 | [],m,h,s=>rfl
 | t::x,m,h,s=>by
  have e : ∀ y,Vh (WY t.v (IntKind.i64.wrap (Vh m t.v.s+IntKind.i64.wrap (0*t.c))) m) y=Vh m y:=fun y=>by
   rw[GY]
   split
   ·rename_i hy
    have:IntKind.i64.wrap (0*t.c)=0:=by rw[Int.zero_mul];rfl
    rw[this,Int.add_zero,<- hy]
    exact h t.v.s
   ·rfl
  rw[Y0,add_zero x _ (fun y=>by rw[e];exact h y),e]
end Go.Pl

namespace Go.Pl
open Go.RowKit
end Go.Pl

namespace Go.Pl
open Go.RowKit
open Enc (enc dec is)
open EncL (encL decL isL)
end Go.Pl

namespace Go.Pl
open Go.RowKit
open Enc (enc dec is)
open EncL (encL decL isL)
set_option maxRecDepth 100000
end Go.Pl

namespace Go.Pl
open Go.RowKit
open Enc (enc dec is)
open EncL (encL decL isL)
set_option maxRecDepth 100000
end Go.Pl

namespace Go.Pl
open Go.RowKit
open Enc (enc dec is)
open EncL (encL decL isL)
end Go.Pl

namespace Go.Pl
open Go.RowKit
open Enc (enc dec is)
open EncL (encL decL isL)
end Go.Pl

namespace Go.Pl
open Go.RowKit
open Enc (enc dec is)
open EncL (encL decL isL)
end Go.Pl

namespace Go.Pl
open Go.RowKit
open Enc (enc dec is)
open EncL (encL decL isL)
theorem one_of{α:Type}: ∀ {ks:List α},ks.length=1-> ∃ a,ks=[a]
 | [a],_=>⟨a,rfl⟩
end Go.Pl

namespace Go.Pl
open Go.RowKit
open Enc (enc dec is)
open EncL (encL decL isL)
set_option maxRecDepth 100000
end Go.Pl

namespace Go.Pl
open Go.RowKit
open Enc (enc dec is)
open EncL (encL decL isL)
end Go.Pl

namespace Go.Pl
open Go.RowKit
open Enc (enc dec is)
open EncL (encL decL isL)
theorem sub_zero(b:Bool):Sub (.tup [a9y,.bool b]) (enc (((⟨0,[]⟩:Lin),b):Lin×Bool)):=Sub.pair (Sub.agg_cons (.refl _) (Sub.agg_cons (.sl0 _ _ _) Sub.agg_nil)) (.refl _)
end Go.Pl

namespace Go.Pl
open Go.RowKit
open Enc (enc dec is)
open EncL (encL decL isL)
def Zv(c:UInt8):Bool:=lowB c||c==95||digB c
def Za(s:List UInt8):List UInt8:=s.dropWhile fun c=>c==32
def Lb(s:List UInt8)(n:Int)(es:List (PV×PV)):List AObj:=[.box [.pv (.str s),.pv (.int .i64 n),.map 1],.map es]
def ZN:List AV->List AObj->Bool
 | [.ptr 0 0],[.box [.pv (.str s),.pv (.int .i64 n),.map 1],.map es]=>decide (s.length<=1000000)
 | _,_=>false
def Y6(g:Nat):List AV->List AObj->Bool
 | [.ptr 0 0,.pv (.fn g')],[.box [.pv (.str s),.pv (.int .i64 n),.map 1],.map es]=>g'==g&&decide (s.length<=1000000)
 | _,_=>false
def UW:List AV->List AObj->AV×List AObj×List AObj
 | _,[.box [.pv (.str s),.pv (.int .i64 n),.map 1],.map es]=>(.tup [],Lb (Za s) n es,[])
 | _,_=>Wm
def Cg(p:UInt8->Bool):List AV->List AObj->AV×List AObj×List AObj
 | _,[.box [.pv (.str s),.pv (.int .i64 n),.map 1],.map es]=>(.pv (.str (s.takeWhile p)),Lb (s.dropWhile p) n es,[])
 | _,_=>Wm
def Kk(d:List UInt8):Bool:= !(ZR ⟨d⟩).2.b&&decide (d.length<=7)&&(decide (d.head? ≠ some 48)||decide (d=[48]))
def Uz:List AV->List AObj->AV×List AObj×List AObj
 | _,[.box [.pv (.str s),.pv (.int .i64 n),.map 1],.map es]=>(.tup [.pv (.int .i64 (ZR ⟨s.takeWhile digB⟩).1),.pv (.bool (Kk (s.takeWhile digB)))],Lb (s.dropWhile digB) n es,[])
 | _,_=>Wm
def UU:List AV->List AObj->AV×List AObj×List AObj
 | _,[.box [.pv (.str s),.pv (.int .i64 n),.map 1],.map es]=>(.tup [.pv (.str (s.takeWhile Zv)),.pv (.bool (Zq ⟨s.takeWhile Zv⟩))],Lb (s.dropWhile Zv) n es,[])
 | _,_=>Wm
def ZM:List UInt8->(Int×Bool)×List UInt8
 | []=>((1,false),[])
 | c::r=>if c=43 then((1,true),r)else if c=45 then((-1,true),r)else((1,false),c::r)
def KI:List AV->List AObj->AV×List AObj×List AObj
 | _,[.box [.pv (.str s),.pv (.int .i64 n),.map 1],.map es]=>(.tup [.pv (.int .i64 (ZM s).1.1),.pv (.bool (ZM s).1.2)],Lb (ZM s).2 n es,[])
 | _,_=>Wm
end Go.Pl

namespace Go.Pl
open Go.RowKit
open Enc (enc dec is)
open EncL (encL decL isL)
structure RdS where
 s:List UInt8
 n:Int
 m:List (Str×Int)
def RdS.os(r:RdS):List AObj:=Lb r.s r.n (Zc r.m)
def Gg(s:List UInt8)(n:Int)(m:List (Str×Int))(k:Int):Bool×RdS:=
 (Zq ⟨s.takeWhile Zv⟩,⟨s.dropWhile Zv,n,WY ⟨s.takeWhile Zv⟩ (Yb (Vh m (s.takeWhile Zv)+k)) m⟩)
def Vs(s:List UInt8)(n:Int)(m:List (Str×Int))(k:Int):Bool×RdS:=
 if ([42]:List UInt8).isPrefixOf (Za s)then Gg (Za ((Za s).drop 1)) n m k
 else if s=[]∨Zv (s.headD 0)=false then(true,⟨s,Yb (n+k),m⟩)
 else Gg s n m k
def ZO(r:RdS)(g:Int):Bool×RdS:=
 if r.s=[]then(false,r)
 else if digB (r.s.headD 0)=false then Gg r.s r.n r.m g
 else if Kk (r.s.takeWhile digB)=false then(false,⟨r.s.dropWhile digB,r.n,r.m⟩)
 else Vs (r.s.dropWhile digB) r.n r.m (Yb (g*(ZR ⟨r.s.takeWhile digB⟩).1))
def Qz:List AV->List AObj->Bool
 | [.ptr 0 0,.pv (.int .i64 g)],[.box [.pv (.str s),.pv (.int .i64 n),.map 1],.map es]=>Jl es&&decide (s.length<=1000000)
 | _,_=>false
def TW(z:Bool×RdS):AV×List AObj×List AObj:=(.pv (.bool z.1),z.2.os,[])
def Kt:List AV->List AObj->AV×List AObj×List AObj
 | [_,.pv (.int .i64 g)],[.box [.pv (.str s),.pv (.int .i64 n),.map 1],.map es]=>TW (ZO ⟨s,n,ZX es⟩ g)
 | _,_=>Wm
end Go.Pl

namespace Go.Pl
open Go.RowKit
def Q4:Nat->List UInt8->Int->List (Str×Int)->Int->Lin×Int
 | 0,_,_,_,_=>(⟨0,[]⟩,6)
 | f+1,t,n,m,g=>
  if (ZO ⟨Za t,n,m⟩ g).1=false then(⟨0,[]⟩,6)
  else if Za (ZO ⟨Za t,n,m⟩ g).2.s=[]then Xo (ZO ⟨Za t,n,m⟩ g).2.n (ZO ⟨Za t,n,m⟩ g).2.m
  else if (ZM (Za (ZO ⟨Za t,n,m⟩ g).2.s)).1.2=false then(⟨0,[]⟩,6)
  else Q4 f (ZM (Za (ZO ⟨Za t,n,m⟩ g).2.s)).2 (ZO ⟨Za t,n,m⟩ g).2.n (ZO ⟨Za t,n,m⟩ g).2.m (ZM (Za (ZO ⟨Za t,n,m⟩ g).2.s)).1.1
def Zm(s:List UInt8):Lin×Int:=Q4 (s.length+1) (ZM (Za s)).2 0 [] (ZM (Za s)).1.1
end Go.Pl

namespace Go.Pl
open Go.RowKit
open Enc (enc dec is)
open EncL (encL decL isL)
def DR(x y:Coef):Int:=if Lib.compareBytes x.v.s y.v.s≠0 then Lib.compareBytes x.v.s y.v.s else U3 x.c y.c
def WU:List Coef->List Coef->Int
 | [],[]=>0
 | [],_::_=> -1
 | _::_,[]=>1
 | x::l,y::m=>if DR x y≠0 then DR x y else WU l m
def VG(a b:Lin):Int:=if WU a.t b.t≠0 then WU a.t b.t else U3 a.k b.k
def ZZ(o:List UInt8)(n:Int)(s:List UInt8):List UInt8:=
 (if decide (n ≥ 0)&&decide (o≠[])then o++[43]else o)++((if decide (s≠[])&&(decide (n=1)||decide (n = -1))then Lib.trimSuffix (ZB n).s [49]else(ZB n).s)++s)
def UE(ts:List Coef):List UInt8:=ts.foldl (fun o t=>ZZ o t.c t.v.s) []
def Zw(l:Lin):List UInt8:=if Zh l then(if decide (l.k≠0)||decide (UE l.t=[])then ZZ (UE l.t) l.k []else UE l.t)else []
def Xj:List AV->List AObj->Bool
 | [.pv (.int .i64 n),.pv (.str s),.ptr 0 0],[.box [.pv (.str o)]]=>decide (-9223372036854775808<=n)&&decide (n<=9223372036854775807)&&decide (s.length<=1000000)&&decide (o.length<=1000000)
 | _,_=>false
def Kv:List AV->List AObj->AV×List AObj×List AObj
 | [.pv (.int .i64 n),.pv (.str s),.ptr 0 0],[.box [.pv (.str o)]]=>(.tup [],[.box [.pv (.str (ZZ o n s))]],[])
 | _,_=>Wm
end Go.Pl

namespace Go.Pl
open Go.RowKit
open Enc (enc dec is)
open EncL (encL decL isL)
def QL(v:List UInt8)(b:Bnd):Bool:=decide (b.kind=1)&&b.v.s==v
def GI:List AV->List AObj->Bool
 | [.pv x,.ptr 0 0],[.box [.pv (.str v),.pv (.int .i64 c)]]=>FE Bnd x
 | _,_=>false
def Ai:List AV->List AObj->AV×List AObj×List AObj
 | [.pv x,_],[.box [.pv (.str v),.pv (.int .i64 c)]]=>(.pv (.bool (QL v (dec x))),[.box [.pv (.str v),.pv (.int .i64 c)]],[])
 | _,_=>Wm
def Qx(g:Nat):List AV->List AObj->Bool
 | [.pv l,.fn g' [] [.ptr 0 0]],[.box [.pv (.str v),.pv (.int .i64 c)]]=>g'==g&&FE (List Bnd) l&&decide ((dec l:List Bnd).length<=9223372036854775807)
 | _,_=>false
def Hf:List AV->List AObj->AV×List AObj×List AObj
 | [.pv l,_],[.box [.pv (.str v),.pv (.int .i64 c)]]=>(.pv (.int .i64 (Xz (QL v) (dec l))),[.box [.pv (.str v),.pv (.int .i64 c)]],[])
 | _,_=>Wm
def Rt(bs:List Bnd)(s:Int×List (Str×Int))(t:Coef):Option (Int×List (Str×Int)):=match bs.find? (QL t.v.s)with
 | none=>some (s.1,WY t.v (Yb (Vh s.2 t.v.s+t.c)) s.2)
 | some b=>if Zh b.dim then some (Yb (s.1+Yb (t.c*b.dim.k)),Y0 t.c b.dim.t s.2)else none
def UZ(bs:List Bnd):List Coef->Int×List (Str×Int)->Option (Int×List (Str×Int))
 | [],s=>some s
 | t::ts,s=>match Rt bs s t with|none=>none|some s'=>UZ bs ts s'
def UR(l:Lin)(bs:List Bnd):Lin×Int:=if Zh l then(match UZ bs l.t (l.k,[])with|none=>(⟨0,[]⟩,1)|some s=>Xo s.1 s.2)else(⟨0,[]⟩,1)
def Jn(bs:List Bnd):Bool:=decide (bs.length<=9223372036854775807)&&bs.all fun b=>Zt b.dim
end Go.Pl

namespace Go.Pl
open Go.RowKit
open Enc (enc dec is)
open EncL (encL decL isL)
set_option maxRecDepth 100000
def K8:IC:=(.seq (.reg [⟨(some 0),(.mv (.c (.bool false))),0,none⟩] none) (.seq (.reg [⟨(some 16),(.call (.c (.fn 19)) [(.c (.str [50,110]))]),0,none⟩,⟨(some 15),(.mv (.t 16)),2,none⟩,⟨(some 17),(.extract (.t 15) 0),2,none⟩,⟨(some 18),(.extract (.t 15) 1),2,none⟩,⟨(some 1),(.alloc (.agg [(.int .i64 0),(.sl 0 true [])])),2,none⟩,⟨none,(.store 2 (.t 1) (.t 17)),3,none⟩,⟨(some 2),(.mv (.t 18)),3,none⟩] none) (.seq (.reg [⟨(some 20),(.call (.c (.fn 19)) [(.c (.str [109,32,45,32,49]))]),0,none⟩,⟨(some 19),(.mv (.t 20)),2,none⟩,⟨(some 21),(.extract (.t 19) 0),2,none⟩,⟨(some 22),(.extract (.t 19) 1),2,none⟩,⟨(some 3),(.alloc (.agg [(.int .i64 0),(.sl 0 true [])])),2,none⟩,⟨none,(.store 2 (.t 3) (.t 21)),3,none⟩,⟨(some 4),(.mv (.t 22)),3,none⟩] none) (.seq (.reg [⟨(some 24),(.load true [(.int .i64),(.sl 2)] (.t 1)),0,none⟩,⟨(some 25),(.load true [(.int .i64),(.sl 2)] (.t 3)),0,none⟩,⟨(some 26),(.call (.c (.fn 39)) [(.t 24),(.t 25)]),0,none⟩,⟨(some 23),(.mv (.t 26)),2,none⟩,⟨(some 27),(.extract (.t 23) 0),2,none⟩,⟨(some 28),(.extract (.t 23) 1),2,none⟩,⟨(some 5),(.alloc (.agg [(.int .i64 0),(.sl 0 true [])])),2,none⟩,⟨none,(.store 2 (.t 5) (.t 27)),3,none⟩,⟨(some 6),(.mv (.t 28)),3,none⟩] none) (.seq (.reg [⟨(some 30),(.call (.c (.fn 19)) [(.c (.str [51,32,42,32,110,32,45,32,110,43,32,50]))]),0,none⟩,⟨(some 29),(.mv (.t 30)),2,none⟩,⟨(some 31),(.extract (.t 29) 0),2,none⟩,⟨(some 32),(.extract (.t 29) 1),2,none⟩,⟨(some 7),(.alloc (.agg [(.int .i64 0),(.sl 0 true [])])),2,none⟩,⟨none,(.store 2 (.t 7) (.t 31)),3,none⟩,⟨(some 8),(.mv (.t 32)),3,none⟩] none) (.seq (.reg [⟨(some 34),(.call (.c (.fn 19)) [(.c (.str [110,43,109]))]),0,none⟩,⟨(some 33),(.mv (.t 34)),2,none⟩,⟨(some 35),(.extract (.t 33) 0),2,none⟩,⟨(some 36),(.extract (.t 33) 1),2,none⟩,⟨(some 9),(.alloc (.agg [(.int .i64 0),(.sl 0 true [])])),2,none⟩,⟨none,(.store 2 (.t 9) (.t 35)),3,none⟩,⟨(some 10),(.mv (.t 36)),3,none⟩] none) (.seq (.reg [⟨(some 38),(.call (.c (.fn 19)) [(.c (.str [109,43,49]))]),0,none⟩,⟨(some 37),(.mv (.t 38)),2,none⟩,⟨(some 39),(.extract (.t 37) 0),2,none⟩,⟨(some 40),(.extract (.t 37) 1),2,none⟩,⟨(some 11),(.alloc (.agg [(.int .i64 0),(.sl 0 true [])])),2,none⟩,⟨none,(.store 2 (.t 11) (.t 39)),3,none⟩,⟨(some 12),(.mv (.t 40)),3,none⟩] none) (.seq (.reg [⟨(some 42),(.load true [(.int .i64),(.sl 2)] (.t 9)),0,none⟩,⟨(some 43),(.load true [(.int .i64),(.sl 2)] (.t 11)),0,none⟩,⟨(some 44),(.build [(.int .i64 0),(.str []),(.int .i64 0),(.sl 0 true []),(.str []),(.sl 0 true []),(.str [])] [(0,(1,(.c (.int .i64 1)))),(1,(1,(.c (.str [110])))),(2,(2,(.t 43)))]),0,none⟩,⟨(some 45),(.bslice 73 7 1 (.agg [(.int .i64 0),(.str []),(.int .i64 0),(.sl 0 true []),(.str []),(.sl 0 true []),(.str [])]) [(0,(.t 44))]),0,none⟩,⟨(some 46),(.call (.c (.fn 42)) [(.t 42),(.t 45)]),1,none⟩,⟨(some 41),(.mv (.t 46)),3,none⟩,⟨(some 47),(.extract (.t 41) 0),3,none⟩,⟨(some 48),(.extract (.t 41) 1),3,none⟩,⟨(some 13),(.alloc (.agg [(.int .i64 0),(.sl 0 true [])])),3,none⟩,⟨none,(.store 2 (.t 13) (.t 47)),4,none⟩,⟨(some 14),(.mv (.t 48)),4,none⟩] none) (.seq (.reg [⟨(some 49),(.mv (.t 2)),0,none⟩,⟨(some 50),(.bin .num .eql (.t 49) (.c (.int .i64 0))),0,none⟩,⟨(some 51),(.mv (.t 50)),0,none⟩,⟨(some 52),(.mv (.t 4)),0,(some (51,true))⟩,⟨(some 53),(.bin .num .eql (.t 52) (.c (.int .i64 0))),0,(some (51,true))⟩,⟨(some 54),(.pick (.t 51) (.t 53) (.c (.bool false))),0,none⟩,⟨(some 55),(.mv (.t 54)),0,none⟩,⟨(some 56),(.mv (.t 6)),0,(some (55,true))⟩,⟨(some 57),(.bin .num .eql (.t 56) (.c (.int .i64 0))),0,(some (55,true))⟩,⟨(some 58),(.pick (.t 55) (.t 57) (.c (.bool false))),0,none⟩,⟨(some 59),(.mv (.t 58)),0,none⟩,⟨(some 60),(.mv (.t 8)),0,(some (59,true))⟩,⟨(some 61),(.bin .num .eql (.t 60) (.c (.int .i64 0))),0,(some (59,true))⟩,⟨(some 62),(.pick (.t 59) (.t 61) (.c (.bool false))),0,none⟩,⟨(some 63),(.mv (.t 62)),0,none⟩,⟨(some 64),(.mv (.t 10)),0,(some (63,true))⟩,⟨(some 65),(.bin .num .eql (.t 64) (.c (.int .i64 0))),0,(some (63,true))⟩,⟨(some 66),(.pick (.t 63) (.t 65) (.c (.bool false))),0,none⟩,⟨(some 67),(.mv (.t 66)),0,none⟩,⟨(some 68),(.mv (.t 12)),0,(some (67,true))⟩,⟨(some 69),(.bin .num .eql (.t 68) (.c (.int .i64 0))),0,(some (67,true))⟩,⟨(some 70),(.pick (.t 67) (.t 69) (.c (.bool false))),0,none⟩,⟨(some 71),(.mv (.t 70)),0,none⟩,⟨(some 72),(.mv (.t 14)),0,(some (71,true))⟩,⟨(some 73),(.bin .num .eql (.t 72) (.c (.int .i64 0))),0,(some (71,true))⟩,⟨(some 74),(.pick (.t 71) (.t 73) (.c (.bool false))),0,none⟩,⟨(some 75),(.mv (.t 74)),0,none⟩,⟨(some 76),(.load true [(.int .i64),(.sl 2)] (.t 5)),0,(some (75,true))⟩,⟨(some 77),(.call (.c (.fn 17)) [(.t 76)]),0,(some (75,true))⟩,⟨(some 78),(.bin .num .eql (.t 77) (.c (.str [109,43,50,110,45,49]))),2,(some (75,true))⟩,⟨(some 79),(.pick (.t 75) (.t 78) (.c (.bool false))),2,none⟩,⟨(some 80),(.mv (.t 79)),2,none⟩,⟨(some 81),(.load true [(.int .i64),(.sl 2)] (.t 7)),2,(some (80,true))⟩,⟨(some 82),(.call (.c (.fn 17)) [(.t 81)]),2,(some (80,true))⟩,⟨(some 83),(.bin .num .eql (.t 82) (.c (.str [50,110,43,50]))),4,(some (80,true))⟩,⟨(some 84),(.pick (.t 80) (.t 83) (.c (.bool false))),4,none⟩,⟨(some 85),(.mv (.t 84)),4,none⟩,⟨(some 86),(.load true [(.int .i64),(.sl 2)] (.t 13)),4,(some (85,true))⟩,⟨(some 87),(.call (.c (.fn 17)) [(.t 86)]),4,(some (85,true))⟩,⟨(some 88),(.bin .num .eql (.t 87) (.c (.str [50,109,43,49]))),6,(some (85,true))⟩,⟨(some 89),(.pick (.t 85) (.t 88) (.c (.bool false))),6,none⟩,⟨(some 90),(.mv (.t 89)),6,none⟩,⟨(some 91),(.load true [(.int .i64),(.sl 2)] (.t 5)),6,(some (90,true))⟩,⟨(some 92),(.call (.c (.fn 73)) [(.t 91)]),6,(some (90,true))⟩,⟨(some 93),(.pick (.t 90) (.t 92) (.c (.bool false))),8,none⟩,⟨(some 94),(.mv (.t 93)),8,none⟩,⟨(some 95),(.load true [(.int .i64),(.sl 2)] (.t 5)),8,(some (94,true))⟩,⟨(some 96),(.load true [(.int .i64),(.sl 2)] (.t 5)),8,(some (94,true))⟩,⟨(some 97),(.call (.c (.fn 74)) [(.t 95),(.t 96)]),8,(some (94,true))⟩,⟨(some 98),(.pick (.t 94) (.t 97) (.c (.bool false))),10,none⟩,⟨(some 0),(.mv (.t 98)),10,none⟩] none) .ret)))))))))
def K5:List IRes:=[(.tmp 0)]
abbrev M0:Nat:=99
def H5:ZI:=WL [(19,.pure (preT (fun x:Str×Unit=>decide (x.1.s.length<=400000))) (Zj (fun x:Str×Unit=>Zm x.1.s))),(39,.pure (preT (fun x:Lin×Lin×Unit=>Zt x.1&&Zt x.2.1)) (Zj (fun x:Lin×Lin×Unit=>Yw x.1 x.2.1 1))),(42,.pure (preT (fun x:Lin×List Bnd×Unit=>Zt x.1&&Jn x.2.1)) (Zj (fun x:Lin×List Bnd×Unit=>UR x.1 x.2.1))),(17,.pure (preT (fun x:Lin×Unit=>Zt x.1)) (Zj (fun x:Lin×Unit=>(⟨Zw x.1⟩:Str)))),(73,.pure (preT (fun x:Lin×Unit=>Zt x.1)) (Zj (fun x:Lin×Unit=>Zh x.1))),(74,.pure (preT (fun x:Lin×Lin×Unit=>Zy x.1&&Zy x.2.1)) (Zj (fun x:Lin×Lin×Unit=>VG x.1 x.2.1==0)))]
theorem OC{G:PV->Prop}(h : ∃ y0:Lin×Int,AV.pv (Zj (fun(x:Str×Unit)=>Zm (Str.s x.1)) [(.str [(50:UInt8),(110:UInt8)])])=AV.pv (enc y0)∧(∃ y1:Lin×Int,AV.pv (Zj (fun(x:Str×Unit)=>Zm (Str.s x.1)) [(.str [(109:UInt8),(32:UInt8),(45:UInt8),(32:UInt8),(49:UInt8)])])=AV.pv (enc y1)∧((Go.Pl.preT (fun(x:Lin×Lin×Unit)=>Zt x.1&&Zt x.2.1) [(.agg [(.int .i64 y0.1.k),(.sl 2 false (List.map enc y0.1.t))]),(.agg [(.int .i64 y1.1.k),(.sl 2 false (List.map enc y1.1.t))])])=true∧(∃ y2:Lin×Int,AV.pv (Zj (fun(x:Lin×Lin×Unit)=>Yw x.1 x.2.1 1) [(.agg [(.int .i64 y0.1.k),(.sl 2 false (List.map enc y0.1.t))]),(.agg [(.int .i64 y1.1.k),(.sl 2 false (List.map enc y1.1.t))])])=AV.pv (enc y2)∧(∃ y3:Lin×Int,AV.pv (Zj (fun(x:Str×Unit)=>Zm (Str.s x.1)) [(.str [(51:UInt8),(32:UInt8),(42:UInt8),(32:UInt8),(110:UInt8),(32:UInt8),(45:UInt8),(32:UInt8),(110:UInt8),(43:UInt8),(32:UInt8),(50:UInt8)])])=AV.pv (enc y3)∧(∃ y4:Lin×Int,AV.pv (Zj (fun(x:Str×Unit)=>Zm (Str.s x.1)) [(.str [(110:UInt8),(43:UInt8),(109:UInt8)])])=AV.pv (enc y4)∧(∃ y5:Lin×Int,AV.pv (Zj (fun(x:Str×Unit)=>Zm (Str.s x.1)) [(.str [(109:UInt8),(43:UInt8),(49:UInt8)])])=AV.pv (enc y5)∧((Go.Pl.preT (fun(x:Lin×List Bnd×Unit)=>Zt x.1&&Jn x.2.1) [(.agg [(.int .i64 y4.1.k),(.sl 2 false (List.map enc y4.1.t))]),(.sl 7 false [(.agg [(.int .i64 1),(.str [(110:UInt8)]),(.int .i64 y5.1.k),(.sl 2 false (List.map enc y5.1.t)),(.str []),(.sl 0 true []),(.str [])])])])=true∧(∃ y6:Lin×Int,AV.pv (Zj (fun(x:Lin×List Bnd×Unit)=>UR x.1 x.2.1) [(.agg [(.int .i64 y4.1.k),(.sl 2 false (List.map enc y4.1.t))]),(.sl 7 false [(.agg [(.int .i64 1),(.str [(110:UInt8)]),(.int .i64 y5.1.k),(.sl 2 false (List.map enc y5.1.t)),(.str []),(.sl 0 true []),(.str [])])])])=AV.pv (enc y6)∧(if (y0.2==0)=true then if (y1.2==0)=true then if (y2.2==0)=true then if (y3.2==0)=true then if (y4.2==0)=true then if (y5.2==0)=true then if (y6.2==0)=true then(Go.Pl.preT (fun(x:Lin×Unit)=>Zt x.1) [(.agg [(.int .i64 y2.1.k),(.sl 2 false (List.map enc y2.1.t))])])=true∧(∃ y7:Str,AV.pv (Zj (fun(x:Lin×Unit)=>Str.mk (Zw x.1)) [(.agg [(.int .i64 y2.1.k),(.sl 2 false (List.map enc y2.1.t))])])=AV.pv (enc y7)∧(if (Str.s y7==[(109:UInt8),(43:UInt8),(50:UInt8),(110:UInt8),(45:UInt8),(49:UInt8)])=true then(Go.Pl.preT (fun(x:Lin×Unit)=>Zt x.1) [(.agg [(.int .i64 y3.1.k),(.sl 2 false (List.map enc y3.1.t))])])=true∧(∃ y8:Str,AV.pv (Zj (fun(x:Lin×Unit)=>Str.mk (Zw x.1)) [(.agg [(.int .i64 y3.1.k),(.sl 2 false (List.map enc y3.1.t))])])=AV.pv (enc y8)∧(if (Str.s y8==[(50:UInt8),(110:UInt8),(43:UInt8),(50:UInt8)])=true then(Go.Pl.preT (fun(x:Lin×Unit)=>Zt x.1) [(.agg [(.int .i64 y6.1.k),(.sl 2 false (List.map enc y6.1.t))])])=true∧(∃ y9:Str,AV.pv (Zj (fun(x:Lin×Unit)=>Str.mk (Zw x.1)) [(.agg [(.int .i64 y6.1.k),(.sl 2 false (List.map enc y6.1.t))])])=AV.pv (enc y9)∧(if (Str.s y9==[(50:UInt8),(109:UInt8),(43:UInt8),(49:UInt8)])=true then(Go.Pl.preT (fun(x:Lin×Unit)=>Zt x.1) [(.agg [(.int .i64 y2.1.k),(.sl 2 false (List.map enc y2.1.t))])])=true∧(∃ y10:Bool,AV.pv (Zj (fun(x:Lin×Unit)=>Zh x.1) [(.agg [(.int .i64 y2.1.k),(.sl 2 false (List.map enc y2.1.t))])])=AV.pv (enc y10)∧(if (y10)=true then(Go.Pl.preT (fun(x:Lin×Lin×Unit)=>Zy x.1&&Zy x.2.1) [(.agg [(.int .i64 y2.1.k),(.sl 2 false (List.map enc y2.1.t))]),(.agg [(.int .i64 y2.1.k),(.sl 2 false (List.map enc y2.1.t))])])=true∧(∃ y11:Bool,AV.pv (Zj (fun(x:Lin×Lin×Unit)=>VG x.1 x.2.1==0) [(.agg [(.int .i64 y2.1.k),(.sl 2 false (List.map enc y2.1.t))]),(.agg [(.int .i64 y2.1.k),(.sl 2 false (List.map enc y2.1.t))])])=AV.pv (enc y11)∧(G ((.bool y11))))else(G ((.bool false)))))else(G ((.bool false)))))else(G ((.bool false)))))else(G ((.bool false)))))else(G ((.bool false)))else(G ((.bool false)))else(G ((.bool false)))else(G ((.bool false)))else(G ((.bool false)))else(G ((.bool false)))else(G ((.bool false))))))))))))):Zi H5 0 (Ze K5 G) K8 [] (Xw 99 []):=Zi.tp (.lit (.abs (Lin×Int) (fun YY=>AV.pv (enc YY)) (.lit (.abs (Lin×Int) (fun YY=>AV.pv (enc YY)) (.req (.abs (Lin×Int) (fun YY=>AV.pv (enc YY)) (.lit (.abs (Lin×Int) (fun YY=>AV.pv (enc YY)) (.lit (.abs (Lin×Int) (fun YY=>AV.pv (enc YY)) (.lit (.abs (Lin×Int) (fun YY=>AV.pv (enc YY)) (.lit (.lit (.req (.abs (Lin×Int) (fun YY=>AV.pv (enc YY)) (.lit (.ask (.lit (.lit (.lit (.ask (.lit (.lit (.lit (.ask (.lit (.lit (.lit (.ask (.lit (.lit (.lit (.ask (.lit (.lit (.lit (.ask (.lit (.lit (.lit (.ask (.lit (.req (.abs (Str) (fun YY=>AV.pv (enc YY)) (.lit (.lit (.lit (.ask (.lit (.req (.abs (Str) (fun YY=>AV.pv (enc YY)) (.lit (.lit (.lit (.ask (.lit (.req (.abs (Str) (fun YY=>AV.pv (enc YY)) (.lit (.lit (.lit (.ask (.lit (.req (.abs (Bool) (fun YY=>AV.pv (enc YY)) (.lit (.ask (.lit (.lit (.req (.abs (Bool) (fun YY=>AV.pv (enc YY)) (.lit (.nil)))))) (.lit (.lit (.lit (.nil))))))))) (.lit (.lit (.lit (.lit (.lit (.lit (.nil)))))))))))))) (.lit (.lit (.lit (.lit (.lit (.lit (.lit (.lit (.lit (.lit (.nil)))))))))))))))))) (.lit (.lit (.lit (.lit (.lit (.lit (.lit (.lit (.lit (.lit (.lit (.lit (.lit (.lit (.nil)))))))))))))))))))))) (.lit (.lit (.lit (.lit (.lit (.lit (.lit (.lit (.lit (.lit (.lit (.lit (.lit (.lit (.lit (.lit (.lit (.lit (.nil))))))))))))))))))))))) (.lit (.lit (.lit (.lit (.lit (.lit (.lit (.lit (.lit (.lit (.lit (.lit (.lit (.lit (.lit (.lit (.lit (.lit (.lit (.lit (.lit (.nil)))))))))))))))))))))))))) (.lit (.lit (.lit (.lit (.lit (.lit (.lit (.lit (.lit (.lit (.lit (.lit (.lit (.lit (.lit (.lit (.lit (.lit (.lit (.lit (.lit (.lit (.lit (.lit (.nil))))))))))))))))))))))))))))) (.lit (.lit (.lit (.lit (.lit (.lit (.lit (.lit (.lit (.lit (.lit (.lit (.lit (.lit (.lit (.lit (.lit (.lit (.lit (.lit (.lit (.lit (.lit (.lit (.lit (.lit (.lit (.nil)))))))))))))))))))))))))))))))) (.lit (.lit (.lit (.lit (.lit (.lit (.lit (.lit (.lit (.lit (.lit (.lit (.lit (.lit (.lit (.lit (.lit (.lit (.lit (.lit (.lit (.lit (.lit (.lit (.lit (.lit (.lit (.lit (.lit (.lit (.nil))))))))))))))))))))))))))))))))))) (.lit (.lit (.lit (.lit (.lit (.lit (.lit (.lit (.lit (.lit (.lit (.lit (.lit (.lit (.lit (.lit (.lit (.lit (.lit (.lit (.lit (.lit (.lit (.lit (.lit (.lit (.lit (.lit (.lit (.lit (.lit (.lit (.lit (.nil)))))))))))))))))))))))))))))))))))))) (.lit (.lit (.lit (.lit (.lit (.lit (.lit (.lit (.lit (.lit (.lit (.lit (.lit (.lit (.lit (.lit (.lit (.lit (.lit (.lit (.lit (.lit (.lit (.lit (.lit (.lit (.lit (.lit (.lit (.lit (.lit (.lit (.lit (.lit (.lit (.lit (.nil))))))))))))))))))))))))))))))))))))))))))))))))))))))) h (by kernel_rfl)
def Qf:IC:=(.seq (.reg [⟨(some 1),(.box 2 (.t 0)),0,none⟩,⟨(some 2),(.alloc (.agg [(.int .i64 0),(.sl 0 true [])])),1,none⟩,⟨(some 3),(.mv (.c (.int .i64 0))),2,none⟩] none) (.seq (.seq (.reg [⟨(some 4),(.load true [(.int .i64),(.sl 2)] (.t 1)),0,none⟩,⟨(some 5),(.call (.c (.fn 20)) [(.t 4)]),0,none⟩,⟨(some 6),(.un .not (.t 5)),2,none⟩] none) (.cond (.t 6) (.seq (.reg [⟨(some 7),(.build [(.int .i64 0),(.sl 0 true [])] []),0,none⟩,⟨none,(.store 2 (.t 2) (.t 7)),0,none⟩,⟨(some 3),(.mv (.c (.int .i64 3))),0,none⟩] none) .ret) .skip)) (.seq (.reg [⟨(some 8),(.load true [(.int .i64),(.sl 2)] (.t 1)),0,none⟩,⟨none,(.store 2 (.t 2) (.t 8)),0,none⟩,⟨(some 3),(.mv (.c (.int .i64 0))),0,none⟩] none) .ret)))
def VJ:List IRes:=[(.cell true 2 2),(.tmp 3)]
abbrev TC:Nat:=9
def UB:ZI:=WL [(20,.pure (preT (fun x:Lin×Unit=>Zy x.1)) (Zj (fun x:Lin×Unit=>Zh x.1)))]
theorem PR{G:PV->Prop}(l:Lin)(h:(Go.Pl.preT (fun(x:Lin×Unit)=>Zy x.1) [(.agg [(.int .i64 l.k),(.sl 2 false (List.map enc l.t))])])=true∧(∃ y0:Bool,AV.pv (Zj (fun(x:Lin×Unit)=>Zh x.1) [(.agg [(.int .i64 l.k),(.sl 2 false (List.map enc l.t))])])=AV.pv (enc y0)∧(if (!y0)=true then G ((.tup [(.agg [(.int .i64 0),(.sl 0 true [])]),(.int .i64 3)]))else(G ((.tup [(.agg [(.int .i64 l.k),(.sl 2 false (List.map enc l.t))]),(.int .i64 0)])))))):Zi UB 0 (Ze VJ G) Qf [] (Xw 9 [enc l]):=Zi.tp (.req (.abs (Bool) (fun YY=>AV.pv (enc YY)) (.ask (.nil) (.nil)))) h (by kernel_rfl)
end Go.Pl

namespace Go.Pl
open Go.RowKit
open Enc (enc dec is)
open EncL (encL decL isL)
set_option maxRecDepth 100000
def VD:IC:=We
def Vu:List IRes:=[]
def Qn:ZI:=WL [(154,.own YP XX),(73,.pure (preT (fun x:Lin×Unit=>Zt x.1)) (Zj (fun x:Lin×Unit=>Zh x.1)))]
theorem Ef{G:AV×List AObj×List AObj->Prop}(E:Y9)(r:List UInt8)(n:Int)(s:List UInt8)(c:Int)(h:if (c != 0)=true then E 99 ⟨X0 58 0 [(0,(.ptr 0 1)),(2,(.ptr 2 0)),(4,(.ptr 3 0)),(5,(.row 5 1 0 1)),(18,(.map 1)),(19,(.ptr 4 0))],[(.obj (.box [(.pv (.str r)),(.pv (.int .i64 n)),(.map 1)])),.dead,(.obj (.box [(.pv (.int .i64 0)),(.pv (.sl 0 true []))])),(.obj (.box [(.pv (.int .i64 n)),(.pv (.sl 0 true []))])),.dead,(.obj (.row false 9 1 [(.str s)]))]⟩ (fun x S'=>NH Qn E 5 (Zd 5 Vu G) VD 99 x S')else(E 99 ⟨X0 58 0 [(0,(.ptr 0 1)),(2,(.ptr 2 0)),(4,(.ptr 3 0)),(5,(.pv (.sl 0 true []))),(18,(.map 1)),(19,(.ptr 4 0))],[(.obj (.box [(.pv (.str r)),(.pv (.int .i64 n)),(.map 1)])),.dead,(.obj (.box [(.pv (.int .i64 0)),(.pv (.sl 0 true []))])),(.obj (.box [(.pv (.int .i64 n)),(.pv (.sl 0 true []))])),.dead]⟩ (fun x S'=>NH Qn E 5 (Zd 5 Vu G) VD 99 x S'))):Z7 Qn E 5 (Zd 5 Vu G) (.inl VD) [.blk 1,.seq (.ext 99 [0,2,4,5,18,19])] ⟨X0 58 0 [(0,.ptr 0 1),(2,.ptr 2 0),(4,.ptr 3 0),(5,.pv (.sl 0 true [])),(6,.pv (.str s)),(7,.pv (.int .i64 c)),(18,.map 1),(19,.ptr 4 0),(22,.pv (.tup [.str s,.int .i64 c])),(23,.pv (.str s)),(24,.pv (.int .i64 c))],[.obj (.box [.pv (.str r),.pv (.int .i64 n),.map 1]),.dead,.obj (.box [.pv (.int .i64 0),.pv (.sl 0 true [])]),.obj (.box [.pv (.int .i64 n),.pv (.sl 0 true [])]),.dead]⟩:=Z7.mo (.lit (.ask (.lit (.lit (.lit (.lit (.lit (.nil)))))) (.nil))) h (by kernel_rfl)
theorem EP{G:AV×List AObj×List AObj->Prop}(E:Y9)(r:List UInt8)(n:Int)(s:List UInt8)(c:Int)(l:Nat)(xs:List (List UInt8))(h:if (c != 0)=true then(List.length (List.map PV.str xs)==l&&l==l&&decide ((l+List.length (List.drop 0 (List.take 1 [PV.str s])))*16<=1099511627776)&&decide (l+List.length (List.drop 0 (List.take 1 [PV.str s]))<=1099511627776))=true∧(E 99 ⟨X0 58 0 [(0,(.ptr 0 1)),(2,(.ptr 2 0)),(4,(.ptr 3 0)),(5,(.row 5 (l+List.length (List.drop 0 (List.take 1 [PV.str s]))) 0 (l+List.length (List.drop 0 (List.take 1 [PV.str s]))))),(18,(.map 1)),(19,(.ptr 4 0))],[(.obj (.box [(.pv (.str r)),(.pv (.int .i64 n)),(.map 1)])),.dead,(.obj (.box [(.pv (.int .i64 0)),(.pv (.sl 0 true []))])),(.obj (.box [(.pv (.int .i64 n)),(.pv (.sl 0 true []))])),.dead,(.obj (.row false 9 1 (List.map PV.str xs++List.drop 0 (List.take 1 [PV.str s]))))]⟩ (fun x S'=>NH Qn E 6 (Zd 6 Vu G) VD 99 x S'))else(E 99 ⟨X0 58 0 [(0,(.ptr 0 1)),(2,(.ptr 2 0)),(4,(.ptr 3 0)),(5,(.row 5 l 0 l)),(18,(.map 1)),(19,(.ptr 4 0))],[(.obj (.box [(.pv (.str r)),(.pv (.int .i64 n)),(.map 1)])),.dead,(.obj (.box [(.pv (.int .i64 0)),(.pv (.sl 0 true []))])),(.obj (.box [(.pv (.int .i64 n)),(.pv (.sl 0 true []))])),.dead,(.obj (.row false 9 1 (List.map PV.str xs)))]⟩ (fun x S'=>NH Qn E 6 (Zd 6 Vu G) VD 99 x S'))):Z7 Qn E 6 (Zd 6 Vu G) (.inl VD) [.blk 1,.seq (.ext 99 [0,2,4,5,18,19])] ⟨X0 58 0 [(0,.ptr 0 1),(2,.ptr 2 0),(4,.ptr 3 0),(5,.row 5 l 0 l),(6,.pv (.str s)),(7,.pv (.int .i64 c)),(18,.map 1),(19,.ptr 4 0),(22,.pv (.tup [.str s,.int .i64 c])),(23,.pv (.str s)),(24,.pv (.int .i64 c))],[.obj (.box [.pv (.str r),.pv (.int .i64 n),.map 1]),.dead,.obj (.box [.pv (.int .i64 0),.pv (.sl 0 true [])]),.obj (.box [.pv (.int .i64 n),.pv (.sl 0 true [])]),.dead,.obj (.row false 9 1 (xs.map .str))]⟩:=Z7.mo (.lit (.ask (.lit (.lit (.req (.nil)))) (.nil))) h (by kernel_rfl)
def YH:IC:=YA
def YJ:List IRes:=[(.cell true 2 2),(.tmp 3)]
abbrev a5p:Nat:=58
def YU:ZI:=WL [(154,.own YP XX),(73,.pure (preT (fun x:Lin×Unit=>Zt x.1)) (Zj (fun x:Lin×Unit=>Zh x.1)))]
theorem a6x{G:AV×List AObj×List AObj->Prop}(E:Y9)(r:List UInt8)(n:Int)(m:List (Str×Int))(h:E 0 ⟨X0 58 0 [(0,(.ptr 0 1)),(2,(.ptr 2 0)),(4,(.ptr 3 0)),(5,(.pv (.sl 0 true []))),(6,.undef),(7,.undef),(15,.undef),(16,.undef),(17,.undef),(18,.undef),(19,.undef),(20,.undef),(21,.undef),(22,.undef),(23,.undef),(24,.undef),(25,.undef),(26,.undef),(27,.undef),(28,.undef),(29,.undef),(30,.undef)],[(.obj (.box [(.pv (.str r)),(.pv (.int .i64 n)),(.map 1)])),(.obj (.map (Zc m))),(.obj (.box [(.pv (.int .i64 0)),(.pv (.sl 0 true []))])),(.obj (.box [(.pv (.int .i64 n)),(.pv (.sl 0 true []))]))]⟩ (fun x S'=>NH YU E 2 (Zd 2 YJ G) YH 0 x S')):Z7 YU E 2 (Zd 2 YJ G) (.inl YH) [] (Yk 58 [.ptr 0 1] [.box [.pv (.str r),.pv (.int .i64 n),.map 1],.map (Zc m)]):=Z7.mo (.nil) h (by kernel_rfl)
-- IMPOSSIBLE
theorem F6{G:AV×List AObj×List AObj->Prop}(E:Y9)(r:List UInt8)(n:Int)(m:List (Str×Int))(i:Int)(h:if (decide (i<0))=true then(decide (0<=i)&&decide (Int.toNat i<List.length ([]:List PV))&&0==1)=true∧(False)else(∃ y0:Bool,AV.pv (Zj (fun(x:Lin×Unit)=>Zh x.1) [(.agg [(.int .i64 n),(.sl 0 true [])])])=AV.pv (enc y0)∧(if (!y0)=true then G (((.tup [(.pv (.agg [(.int .i64 0),(.sl 0 true [])])),(.pv (.int .i64 3))]),([(.box [(.pv (.str r)),(.pv (.int .i64 n)),(.map 1)]),(.map (Zc m))],[])))else(G (((.tup [(.pv (.agg [(.int .i64 n),(.sl 0 true [])])),(.pv (.int .i64 0))]),([(.box [(.pv (.str r)),(.pv (.int .i64 n)),(.map 1)]),(.map (Zc m))],[]))))))):Az YU E 2 (Zd 2 YJ G) YH 0 58 [(0,.ptr 0 1),(2,.ptr 2 0),(4,.ptr 3 0),(33,.pv (.sl 0 true [])),(34,.pv (.int .i64 0)),(35,.pv (.int .i64 i))] [.obj (.box [.pv (.str r),.pv (.int .i64 n),.map 1]),.obj (.map (Zc m)),.obj (.box [.pv (.int .i64 0),.pv (.sl 0 true [])]),.obj (.box [.pv (.int .i64 n),.pv (.sl 0 true [])])]:=Z7.mo (.lit (.ask (.req (.keep (.lit (.nil)))) (.lit (.abs (Bool) (fun YY=>AV.pv (enc YY)) (.ask (.nil) (.nil)))))) h (by kernel_rfl)
theorem a1h{G:AV×List AObj×List AObj->Prop}(E:Y9)(r:List UInt8)(n:Int)(m:List (Str×Int))(l:Nat)(xs:List (List UInt8))(i:Int)(h:if (decide (i<(↑l:Int)))=true then(decide (0<=i)&&decide (0+Int.toNat i<l)&&List.length (List.map PV.str xs)==l)=true∧((List.length (List.map PV.str xs)==l&&decide (0+Int.toNat i<List.length (List.map PV.str xs)))=true∧((decide (0+List.length [Sh.str]<=List.length (PV.cells (List.getD (List.map PV.str xs) (0+Int.toNat i) default)))&&UY (PV.cells (List.getD (List.map PV.str xs) (0+Int.toNat i) default)) 0 [Sh.str])=true∧((Wn (Sh.co Sh.str (List.getD (PV.cells (List.getD (List.map PV.str xs) (0+Int.toNat i) default)) 0 default)) (Zc m)&&Sh.fit (Sh.int .i64) (ZK (Sh.co Sh.str (List.getD (PV.cells (List.getD (List.map PV.str xs) (0+Int.toNat i) default)) 0 default)) (PV.int .i64 0) (Zc m)))=true∧(Az YU E 2 (Zd 2 YJ G) YH 0 58 [(0,(.ptr 0 1)),(2,(.ptr 2 0)),(4,(.ptr 3 0)),(33,(.row 4 l 0 l)),(34,(.pv (.int .i64 (↑l:Int)))),(35,(.pv (.int .i64 (IntKind.wrap IntKind.i64 (i+1)))))] [(.obj (.box [(.pv (.str r)),(.pv (.int .i64 n)),(.map 1)])),(.obj (.map (Zc m))),(.obj (.box [(.pv (.int .i64 0)),(.pv (.sl 0 true []))])),(.obj (.box [(.pv (.int .i64 n)),(.row 5 1 0 1)])),(.obj (.row false 9 1 (List.map PV.str xs))),(.obj (.row false 61 2 [(.agg [(.str (PV.asStr (List.getD (PV.cells (List.getD (List.map PV.str xs) (0+Int.toNat i) default)) 0 default))),(.int .i64 (PV.asInt (ZK (Sh.co Sh.str (List.getD (PV.cells (List.getD (List.map PV.str xs) (0+Int.toNat i) default)) 0 default)) (PV.int .i64 0) (Zc m))))])]))]))))else(∃ y0:Bool,AV.pv (Zj (fun(x:Lin×Unit)=>Zh x.1) [(.agg [(.int .i64 n),(.sl 0 true [])])])=AV.pv (enc y0)∧(if (!y0)=true then G (((.tup [(.pv (.agg [(.int .i64 0),(.sl 0 true [])])),(.pv (.int .i64 3))]),([(.box [(.pv (.str r)),(.pv (.int .i64 n)),(.map 1)]),(.map (Zc m))],[])))else(G (((.tup [(.pv (.agg [(.int .i64 n),(.sl 0 true [])])),(.pv (.int .i64 0))]),([(.box [(.pv (.str r)),(.pv (.int .i64 n)),(.map 1)]),(.map (Zc m))],[]))))))):Az YU E 2 (Zd 2 YJ G) YH 0 58 [(0,.ptr 0 1),(2,.ptr 2 0),(4,.ptr 3 0),(33,.row 4 l 0 l),(34,.pv (.int .i64 l)),(35,.pv (.int .i64 i))] [.obj (.box [.pv (.str r),.pv (.int .i64 n),.map 1]),.obj (.map (Zc m)),.obj (.box [.pv (.int .i64 0),.pv (.sl 0 true [])]),.obj (.box [.pv (.int .i64 n),.pv (.sl 0 true [])]),.obj (.row false 9 1 (xs.map .str))]:=Z7.mo (.lit (.ask (.req (.keep (.req (.req (.req (.keep (.lit (.lit (.lit (.lit (.lit (.lit (.nil))))))))))))) (.lit (.abs (Bool) (fun YY=>AV.pv (enc YY)) (.ask (.nil) (.nil)))))) h (by kernel_rfl)
theorem TU{G:AV×List AObj×List AObj->Prop}(E:Y9)(r:List UInt8)(n:Int)(m:List (Str×Int))(l:Nat)(xs:List (List UInt8))(i:Int)(q:Nat)(ts:List Coef)(h:if (decide (i<(↑l:Int)))=true then(decide (0<=i)&&decide (0+Int.toNat i<l)&&List.length (List.map PV.str xs)==l)=true∧((List.length (List.map PV.str xs)==l&&decide (0+Int.toNat i<List.length (List.map PV.str xs)))=true∧((decide (0+List.length [Sh.str]<=List.length (PV.cells (List.getD (List.map PV.str xs) (0+Int.toNat i) default)))&&UY (PV.cells (List.getD (List.map PV.str xs) (0+Int.toNat i) default)) 0 [Sh.str])=true∧((Wn (Sh.co Sh.str (List.getD (PV.cells (List.getD (List.map PV.str xs) (0+Int.toNat i) default)) 0 default)) (Zc m)&&Sh.fit (Sh.int .i64) (ZK (Sh.co Sh.str (List.getD (PV.cells (List.getD (List.map PV.str xs) (0+Int.toNat i) default)) 0 default)) (PV.int .i64 0) (Zc m)))=true∧((List.length (List.map enc ts)==q&&q==q&&decide ((q+List.length (List.drop 0 (List.take 1 [PV.agg [Sh.co Sh.str (List.getD (PV.cells (List.getD (List.map PV.str xs) (0+Int.toNat i) default)) 0 default),if false=true then PV.tup [Sh.co (Sh.int .i64) (ZK (Sh.co Sh.str (List.getD (PV.cells (List.getD (List.map PV.str xs) (0+Int.toNat i) default)) 0 default)) (PV.int .i64 0) (Zc m)),PV.bool (Y2 (Sh.co Sh.str (List.getD (PV.cells (List.getD (List.map PV.str xs) (0+Int.toNat i) default)) 0 default)) (Zc m))]else Sh.co (Sh.int .i64) (ZK (Sh.co Sh.str (List.getD (PV.cells (List.getD (List.map PV.str xs) (0+Int.toNat i) default)) 0 default)) (PV.int .i64 0) (Zc m))]])))*24<=1099511627776)&&decide (q+List.length (List.drop 0 (List.take 1 [PV.agg [Sh.co Sh.str (List.getD (PV.cells (List.getD (List.map PV.str xs) (0+Int.toNat i) default)) 0 default),if false=true then PV.tup [Sh.co (Sh.int .i64) (ZK (Sh.co Sh.str (List.getD (PV.cells (List.getD (List.map PV.str xs) (0+Int.toNat i) default)) 0 default)) (PV.int .i64 0) (Zc m)),PV.bool (Y2 (Sh.co Sh.str (List.getD (PV.cells (List.getD (List.map PV.str xs) (0+Int.toNat i) default)) 0 default)) (Zc m))]else Sh.co (Sh.int .i64) (ZK (Sh.co Sh.str (List.getD (PV.cells (List.getD (List.map PV.str xs) (0+Int.toNat i) default)) 0 default)) (PV.int .i64 0) (Zc m))]]))<=1099511627776))=true∧(Az YU E 2 (Zd 2 YJ G) YH 0 58 [(0,(.ptr 0 1)),(2,(.ptr 2 0)),(4,(.ptr 3 0)),(33,(.row 4 l 0 l)),(34,(.pv (.int .i64 (↑l:Int)))),(35,(.pv (.int .i64 (IntKind.wrap IntKind.i64 (i+1)))))] [(.obj (.box [(.pv (.str r)),(.pv (.int .i64 n)),(.map 1)])),(.obj (.map (Zc m))),(.obj (.box [(.pv (.int .i64 0)),(.pv (.sl 0 true []))])),(.obj (.box [(.pv (.int .i64 n)),(.row 5 (q+List.length (List.drop 0 (List.take 1 [PV.agg [Sh.co Sh.str (List.getD (PV.cells (List.getD (List.map PV.str xs) (0+Int.toNat i) default)) 0 default),if false=true then PV.tup [Sh.co (Sh.int .i64) (ZK (Sh.co Sh.str (List.getD (PV.cells (List.getD (List.map PV.str xs) (0+Int.toNat i) default)) 0 default)) (PV.int .i64 0) (Zc m)),PV.bool (Y2 (Sh.co Sh.str (List.getD (PV.cells (List.getD (List.map PV.str xs) (0+Int.toNat i) default)) 0 default)) (Zc m))]else Sh.co (Sh.int .i64) (ZK (Sh.co Sh.str (List.getD (PV.cells (List.getD (List.map PV.str xs) (0+Int.toNat i) default)) 0 default)) (PV.int .i64 0) (Zc m))]]))) 0 (q+List.length (List.drop 0 (List.take 1 [PV.agg [Sh.co Sh.str (List.getD (PV.cells (List.getD (List.map PV.str xs) (0+Int.toNat i) default)) 0 default),if false=true then PV.tup [Sh.co (Sh.int .i64) (ZK (Sh.co Sh.str (List.getD (PV.cells (List.getD (List.map PV.str xs) (0+Int.toNat i) default)) 0 default)) (PV.int .i64 0) (Zc m)),PV.bool (Y2 (Sh.co Sh.str (List.getD (PV.cells (List.getD (List.map PV.str xs) (0+Int.toNat i) default)) 0 default)) (Zc m))]else Sh.co (Sh.int .i64) (ZK (Sh.co Sh.str (List.getD (PV.cells (List.getD (List.map PV.str xs) (0+Int.toNat i) default)) 0 default)) (PV.int .i64 0) (Zc m))]]))))])),(.obj (.row false 9 1 (List.map PV.str xs))),(.obj (.row false 61 2 (List.map enc ts++List.drop 0 (List.take 1 [PV.agg [Sh.co Sh.str (List.getD (PV.cells (List.getD (List.map PV.str xs) (0+Int.toNat i) default)) 0 default),if false=true then PV.tup [Sh.co (Sh.int .i64) (ZK (Sh.co Sh.str (List.getD (PV.cells (List.getD (List.map PV.str xs) (0+Int.toNat i) default)) 0 default)) (PV.int .i64 0) (Zc m)),PV.bool (Y2 (Sh.co Sh.str (List.getD (PV.cells (List.getD (List.map PV.str xs) (0+Int.toNat i) default)) 0 default)) (Zc m))]else Sh.co (Sh.int .i64) (ZK (Sh.co Sh.str (List.getD (PV.cells (List.getD (List.map PV.str xs) (0+Int.toNat i) default)) 0 default)) (PV.int .i64 0) (Zc m))]]))))])))))else((List.length (List.map enc ts)==q)=true∧((Go.Pl.preT (fun(x:Lin×Unit)=>Zt x.1) [(.agg [(.int .i64 n),(.sl 2 false (List.drop 0 (List.take q (List.map enc ts))))])])=true∧(∃ y0:Bool,AV.pv (Zj (fun(x:Lin×Unit)=>Zh x.1) [(.agg [(.int .i64 n),(.sl 2 false (List.drop 0 (List.take q (List.map enc ts))))])])=AV.pv (enc y0)∧(if (!y0)=true then G (((.tup [(.pv (.agg [(.int .i64 0),(.sl 0 true [])])),(.pv (.int .i64 3))]),([(.box [(.pv (.str r)),(.pv (.int .i64 n)),(.map 1)]),(.map (Zc m))],[])))else(G (((.tup [(.agg [(.pv (.int .i64 n)),(.row 2 q 0 q)]),(.pv (.int .i64 0))]),([(.box [(.pv (.str r)),(.pv (.int .i64 n)),(.map 1)]),(.map (Zc m))],[(.row true 61 2 (List.map enc ts))]))))))))):Az YU E 2 (Zd 2 YJ G) YH 0 58 [(0,.ptr 0 1),(2,.ptr 2 0),(4,.ptr 3 0),(33,.row 4 l 0 l),(34,.pv (.int .i64 l)),(35,.pv (.int .i64 i))] [.obj (.box [.pv (.str r),.pv (.int .i64 n),.map 1]),.obj (.map (Zc m)),.obj (.box [.pv (.int .i64 0),.pv (.sl 0 true [])]),.obj (.box [.pv (.int .i64 n),.row 5 q 0 q]),.obj (.row false 9 1 (xs.map .str)),.obj (.row false 61 2 (ts.map enc))]:=Z7.mo (.lit (.ask (.req (.keep (.req (.req (.req (.keep (.lit (.lit (.req (.lit (.nil))))))))))) (.req (.req (.abs (Bool) (fun YY=>AV.pv (enc YY)) (.ask (.nil) (.nil))))))) h (by kernel_rfl)
theorem FL{G:AV×List AObj×List AObj->Prop}(E:Y9)(r:List UInt8)(n:Int)(m:List (Str×Int))(h:Az YU E 2 (Zd 2 YJ G) YH 0 58 [(0,(.ptr 0 1)),(2,(.ptr 2 0)),(4,(.ptr 3 0)),(33,(.pv (.sl 0 true []))),(34,(.pv (.int .i64 0))),(35,(.pv (.int .i64 0)))] [(.obj (.box [(.pv (.str r)),(.pv (.int .i64 n)),(.map 1)])),(.obj (.map (Zc m))),(.obj (.box [(.pv (.int .i64 0)),(.pv (.sl 0 true []))])),(.obj (.box [(.pv (.int .i64 n)),(.pv (.sl 0 true []))]))]):NH YU E 2 (Zd 2 YJ G) YH 0 .normal ⟨X0 58 0 [(0,.ptr 0 1),(2,.ptr 2 0),(4,.ptr 3 0),(5,.pv (.sl 0 true [])),(18,.map 1),(19,.ptr 4 0)],[.obj (.box [.pv (.str r),.pv (.int .i64 n),.map 1]),.obj (.map (Zc m)),.obj (.box [.pv (.int .i64 0),.pv (.sl 0 true [])]),.obj (.box [.pv (.int .i64 n),.pv (.sl 0 true [])]),.dead]⟩:=Z7.mo (.lit (.keep (.nil))) h (by kernel_rfl)
theorem Ec{G:AV×List AObj×List AObj->Prop}(E:Y9)(r:List UInt8)(n:Int)(m:List (Str×Int))(l:Nat)(xs:List (List UInt8))(h:(YP [(.row 0 l 0 l)] [(.row false 9 1 (List.map PV.str xs))])=true∧(Az YU E 2 (Zd 2 YJ G) YH 0 58 [(0,(.ptr 0 1)),(2,(.ptr 2 0)),(4,(.ptr 3 0)),(33,(.row 4 l 0 l)),(34,(.pv (.int .i64 (↑(l - 0):Int)))),(35,(.pv (.int .i64 0)))] [(.obj (.box [(.pv (.str r)),(.pv (.int .i64 n)),(.map 1)])),(.obj (.map (Zc m))),(.obj (.box [(.pv (.int .i64 0)),(.pv (.sl 0 true []))])),(.obj (.box [(.pv (.int .i64 n)),(.pv (.sl 0 true []))])),(.obj (.row false 9 1 (List.map PV.str (Yu (List.map JQ (List.map PV.str xs))))))])):NH YU E 2 (Zd 2 YJ G) YH 0 .normal ⟨X0 58 0 [(0,.ptr 0 1),(2,.ptr 2 0),(4,.ptr 3 0),(5,.row 5 l 0 l),(18,.map 1),(19,.ptr 4 0)],[.obj (.box [.pv (.str r),.pv (.int .i64 n),.map 1]),.obj (.map (Zc m)),.obj (.box [.pv (.int .i64 0),.pv (.sl 0 true [])]),.obj (.box [.pv (.int .i64 n),.pv (.sl 0 true [])]),.dead,.obj (.row false 9 1 (xs.map .str))]⟩:=Z7.mo (.req (.keep (.nil))) h (by kernel_rfl)
end Go.Pl

namespace Go.Pl
open Go.RowKit
open Enc (enc dec is)
open EncL (encL decL isL)
def KQ(r:List UInt8)(n:Int)(m:List (Str×Int))(l:List Coef):AV×List AObj×List AObj:=
 if Zh ⟨n,l⟩then
  if l.isEmpty then(.tup [.pv (.agg [.int .i64 n,.sl 0 true []]),.pv (.int .i64 0)],[.box [.pv (.str r),.pv (.int .i64 n),.map 1],.map (Zc m)],[])
  else(.tup [.agg [.pv (.int .i64 n),.row 2 l.length 0 l.length],.pv (.int .i64 0)],[.box [.pv (.str r),.pv (.int .i64 n),.map 1],.map (Zc m)],[.row true 61 2 (l.map enc)])
 else(.tup [.pv (.agg [.int .i64 0,.sl 0 true []]),.pv (.int .i64 3)],[.box [.pv (.str r),.pv (.int .i64 n),.map 1],.map (Zc m)],[])
theorem Lm{E:Y9}(r:List UInt8)(n:Int)(m:List (Str×Int))(xs:List (List UInt8))(hx:xs.length<=1000000)(hsx : ∀ x∈xs,x.length<=1000000): ∀ (j k:Nat),j+k=xs.length->0<k ->
  Az YU E 2 (Zd 2 YJ fun z=>z=KQ r n m (Zu m xs)) YH 0 58 [(0,.ptr 0 1),(2,.ptr 2 0),(4,.ptr 3 0),(33,.row 4 xs.length 0 xs.length),(34,.pv (.int .i64 xs.length)),(35,.pv (.int .i64 k))]
   [.obj (.box [.pv (.str r),.pv (.int .i64 n),.map 1]),.obj (.map (Zc m)),.obj (.box [.pv (.int .i64 0),.pv (.sl 0 true [])]),.obj (.box [.pv (.int .i64 n),.row 5 k 0 k]),.obj (.row false 9 1 (xs.map .str)),.obj (.row false 61 2 ((Zu m (xs.take k)).map enc))]:=by
 intro j
 induction j with
 | zero=>
  intro k hk h0
  obtain rfl:k=xs.length:=by omega
  refine TU E r n m xs.length xs xs.length xs.length (Zu m (xs.take xs.length)) ?_
  rw[if_neg (by simp)]
  have e1:Zu m (xs.take xs.length)=Zu m xs:=by rw[List.take_length]
  rw[e1]
  have e2:List.drop 0 (List.take xs.length (List.map (enc:Coef->PV) (Zu m xs)))=(Zu m xs).map enc:=by rw[List.drop_zero,List.take_of_length_le (by simp[Zu])]
  rw[e2]
  refine⟨by simp[Zu],Zn (⟨n,Zu m xs⟩,()) rfl (TA n m hx hsx),Zl (⟨n,Zu m xs⟩,()) rfl ?_⟩
  have hne:(Zu m xs).isEmpty=false:=by cases xs <;> simp[Zu]at h0 ⊢
  by_cases hv:Zh ⟨n,Zu m xs⟩=true
  ·rw[if_neg (by simp[hv])]
   unfold KQ
   rw[if_pos hv,hne]
   simp[Zu]
  ·rw[if_pos (by simpa using hv)]
   simp[KQ,hv]
 | succ j ih=>
  intro k hk h0
  have hlt:k<xs.length:=by omega
  refine TU E r n m xs.length xs k k (Zu m (xs.take k)) ?_
  rw[if_pos (by simp;omega)]
  have eg:List.getD (List.map PV.str xs) (0+Int.toNat (k:Int)) default = .str xs[k]:=by simp[List.getD,hlt]
  rw[eg]
  have ec:Sh.co Sh.str (List.getD (PV.cells (.str xs[k])) 0 default) = .str xs[k]:=rfl
  rw[ec,Wz]
  refine⟨by simp;omega,by simp;omega,rfl,by rw[WB];rfl,?_,?_⟩
  ·simp[Zu];omega
  ·have h:=ih (k+1) (by omega) (by omega)
   have et:xs.take (k+1)=xs.take k++[xs[k]]:=by rw[List.take_add_one,List.getElem?_eq_getElem hlt];rfl
   rw[et]at h
   rw[next (by omega)]
   simp only[Zu,List.map_append,List.map_cons,List.map_nil]at h ⊢
   exact h
def KL:Y9:=fun nn st q=>nn=0∧a7h YU 2 TJ st q
def Ot(r:List UInt8)(n:Int):ZA:=[.obj (.box [.pv (.str r),.pv (.int .i64 n),.map 1]),.dead,.obj (.box [.pv (.int .i64 0),.pv (.sl 0 true [])]),.obj (.box [.pv (.int .i64 n),.pv (.sl 0 true [])]),.dead]
def Hy(x:AV):List AV:=X0 58 0 [(0,.ptr 0 1),(2,.ptr 2 0),(4,.ptr 3 0),(5,x),(18,.map 1),(19,.ptr 4 0)]
def EA(r:List UInt8)(n:Int)(vis:List (PV×PV))(s:St):Prop:=
 (kz vis=[]∧s=⟨Hy (.pv (.sl 0 true [])),Ot r n⟩)∨(kz vis≠[]∧s=⟨Hy (.row 5 (kz vis).length 0 (kz vis).length),Ot r n++[.obj (.row false 9 1 ((kz vis).map .str))]⟩)
theorem PE(r:List UInt8)(n:Int)(vis:List (PV×PV))(s:List UInt8)(c:Int)(st:St)(hl:(kz vis).length<1000000)(h:EA r n vis st):
  ∃ s2,Uj YU st.heap.length TJ.psE (grow ⟨((st.env.set 20 .junk).set 21 .junk).set 22 (.pv (.tup [.str s,.int .i64 c])),st.heap⟩ (news TJ.psE))=some s2∧ ∃ F',(∀ x,¬ F' x) ∧
   Z7 YU (fun n' S' _=>n'=99∧EA r n (vis++[(.str s,.int .i64 c)]) S') st.heap.length F' (.inl VD) [.blk 1,.seq (.ext 99 [0,2,4,5,18,19])] s2:=by
 have hno : ∀ k,∀ x,¬ Zd k Vu (fun _=>False) x:=by rintro k x ⟨r,_,h⟩;exact h
 have ek:kz (vis++[(.str s,.int .i64 c)])=kz vis++(if c=0 then []else [s]):=by
  unfold kz
  rw[List.filterMap_append]
  by_cases hc:c=0 <;> simp[hc]
 rcases h with ⟨h1,rfl⟩|⟨h1,rfl⟩
 ·refine⟨_,by kernel_rfl,_,hno 5,Ef (G:=fun _=>False) _ r n s c ?_⟩
  by_cases hc:c=0
  ·rw[if_neg (by simp[hc])]
   refine⟨rfl,.inl ⟨by rw[ek,h1];simp[hc],rfl⟩⟩
  ·rw[if_pos (by simpa using hc)]
   refine⟨rfl,.inr ⟨by rw[ek,h1];simp[hc],?_⟩⟩
   rw[ek,h1]
   simp[hc]
   exact⟨rfl,rfl⟩
 ·refine⟨_,by kernel_rfl,_,hno 6,EP (G:=fun _=>False) _ r n s c (kz vis).length (kz vis) ?_⟩
  by_cases hc:c=0
  ·rw[if_neg (by simp[hc])]
   refine⟨rfl,.inr ⟨by rw[ek];simp[hc,h1],?_⟩⟩
   rw[ek]
   simp[hc]
   exact⟨rfl,rfl⟩
  ·rw[if_pos (by simpa using hc)]
   refine⟨by simp;omega,rfl,.inr ⟨by rw[ek];simp[hc],?_⟩⟩
   rw[ek]
   simp[hc]
   exact⟨rfl,rfl⟩
theorem PW{E:Y9}(r:List UInt8)(n:Int)(m:List (Str×Int))(xs:List (List UInt8))(hx:xs.length<=1000000)(hsx : ∀ x∈xs,x.length<=1000000)(h0:0<xs.length):
  Az YU E 2 (Zd 2 YJ fun z=>z=KQ r n m (Zu m xs)) YH 0 58 [(0,.ptr 0 1),(2,.ptr 2 0),(4,.ptr 3 0),(33,.row 4 xs.length 0 xs.length),(34,.pv (.int .i64 xs.length)),(35,.pv (.int .i64 0))]
   [.obj (.box [.pv (.str r),.pv (.int .i64 n),.map 1]),.obj (.map (Zc m)),.obj (.box [.pv (.int .i64 0),.pv (.sl 0 true [])]),.obj (.box [.pv (.int .i64 n),.pv (.sl 0 true [])]),.obj (.row false 9 1 (xs.map .str))]:=by
 refine a1h E r n m xs.length xs 0 ?_
 rw[if_pos (by simp;omega)]
 have eg:List.getD (List.map PV.str xs) (0+Int.toNat (0:Int)) default = .str xs[0]:=by simp[List.getD,h0]
 rw[eg]
 have ec:Sh.co Sh.str (List.getD (PV.cells (.str xs[0])) 0 default) = .str xs[0]:=rfl
 rw[ec,Wz]
 refine⟨by simp;omega,by simp;omega,rfl,by rw[WB];rfl,?_⟩
 have h:=Lm (E:=E) r n m xs hx hsx (xs.length - 1) 1 (by omega) (by omega)
 have et:xs.take 1=[xs[0]]:=by cases xs <;> simp at h0 ⊢
 rw[et]at h
 exact h
theorem FO(r:List UInt8)(n:Int)(m:List (Str×Int))(hm:m.length<1000000)(hkm : ∀ x∈XB m,x.length<=1000000):
  QM YU KL 2 (Zd 2 YJ fun z=>z=KQ r n m (Zu m (XB m))) YH [] (Yk 58 [.ptr 0 1] [.box [.pv (.str r),.pv (.int .i64 n),.map 1],.map (Zc m)]):=by
 refine a6x KL r n m ?_
 have elen : ∀ x,(Hy x).length=58:=fun x=>rfl
 refine⟨rfl,⟨((((X0 58 0 [(0,.ptr 0 1),(2,.ptr 2 0),(4,.ptr 3 0),(5,.pv (.sl 0 true [])),(6,.undef),(7,.undef),(15,.undef),(16,.undef),(17,.undef),(18,.undef),(19,.undef),(20,.undef),(21,.undef),(22,.undef),(23,.undef),(24,.undef),(25,.undef),(26,.undef),(27,.undef),(28,.undef),(29,.undef),(30,.undef)]).set 15 (.ptr 0 1)).set 16 (.ptr 0 1)).set 17 (.ptr 0 2)).set 18 (.map 1),
   [.obj (.box [.pv (.str r),.pv (.int .i64 n),.map 1]),.obj (.map (Zc m)),.obj (.box [.pv (.int .i64 0),.pv (.sl 0 true [])]),.obj (.box [.pv (.int .i64 n),.pv (.sl 0 true [])])]⟩,⟨Hy (.pv (.sl 0 true [])),Ot r n⟩,1,4,18,1,Zc m,[0,2,4,5,18,19],[0,2,4,5,18,19],EA r n,by kernel_rfl,rfl,rfl,by kernel_rfl,rfl,by decide,rfl,.inl ⟨rfl,rfl⟩,?_,?_,?_⟩
 ·intro vis s h
  rcases h with ⟨_,rfl⟩|⟨_,rfl⟩
  ·exact⟨⟨rfl,by show 20<_;rw[elen];omega,by show 21<_;rw[elen];omega,by show 22<_;rw[elen];omega⟩,rfl⟩
  ·exact⟨⟨rfl,by show 20<_;rw[elen];omega,by show 21<_;rw[elen];omega,by show 22<_;rw[elen];omega⟩,rfl⟩
 ·intro vis kv s rest hp hI
  have hin:kv∈Zc m:=hp.mem_iff.2 (by simp)
  obtain⟨p,_,rfl⟩:=List.mem_map.1 hin
  have hl:=hp.length_eq
  simp[Zc]at hl
  have hk:(kz vis).length<=vis.length:=List.length_filterMap_le _ _
  exact PE r n vis p.1.s p.2 s (by omega) hI
 ·intro vis s hp hI
  have hpk:(kz vis).Perm (kz (Zc m)):=hp.filterMap _
  have hs:Yu (kz vis)=XB m:=GU hpk
  have hkl:(kz vis).length<=1000000:=by
   have h1:(kz vis).length<=vis.length:=List.length_filterMap_le _ _
   have h2:=hp.length_eq
   simp[Zc]at h2
   omega
  rcases hI with ⟨h1,rfl⟩|⟨h1,rfl⟩
  ·refine FL KL r n m ?_
   have hn:XB m=[]:=by rw[<- hs,h1];simp[Yu]
   rw[hn]
   refine F6 KL r n m 0 ?_
   rw[if_neg (by simp)]
   refine Jc (⟨n,[]⟩,()) (by simp) ?_
   by_cases hv:Zh ⟨n,[]⟩=true
   ·rw[if_neg (by simp[hv])]
    simp[KQ,Zu,hv]
   ·rw[if_pos (by simpa using hv)]
    simp[KQ,Zu,hv]
  ·refine Ec KL r n m (kz vis).length (kz vis) ?_
   have e1:List.map JQ (List.map PV.str (kz vis))=kz vis:=by rw[List.map_map];exact List.map_id _
   rw[e1,hs]
   have e2:(XB m).length=(kz vis).length:=by rw[<- hs];exact(List.mergeSort_perm _ _).length_eq
   refine⟨?_,?_⟩
   ·simp[YP,G5]
    omega
   ·have:=PW (E:=KL) r n m (XB m) (by omega) hkm (by rw[e2];exact List.length_pos_iff.2 h1)
    rw[e2]at this
    simpa using this
def YR:List AV->List AObj->Bool
 | [.ptr 0 1],[.box [.pv (.str r),.pv (.int .i64 n),.map 1],.map es]=>Jl es&&QP (ZX es)
 | _,_=>false
def KS:List AV->List AObj->AV×List AObj×List AObj
 | _,[.box [.pv (.str r),.pv (.int .i64 n),.map 1],.map es]=>(.pv (enc (Xo n (ZX es))),[.box [.pv (.str r),.pv (.int .i64 n),.map 1],.map es],[])
 | _,_=>Wm
def Ul:List AV->List AObj->AV×List AObj×List AObj
 | _,[.box [.pv (.str r),.pv (.int .i64 n),.map 1],.map es]=>KQ r n (ZX es) (YC (ZX es))
 | _,_=>Wm
theorem a1r: ∀ args os,YR args os=true->QM YU KL os.length (Zd os.length YJ fun z=>z=Ul args os) YH [] (Yk a5p args os):=by
 intro args os h
 unfold YR at h
 split at h
 ·rename_i r n es
  simp only[Bool.and_eq_true,QP,decide_eq_true_eq,List.all_eq_true]at h
  obtain⟨h1,h2,h3⟩:=h
  obtain⟨m,rfl⟩:=UA h1
  rw[Yh]at h2 h3
  have hv:Ul [.ptr 0 1] [.box [.pv (.str r),.pv (.int .i64 n),.map 1],.map (Zc m)]=KQ r n m (Zu m (XB m)):=by
   show KQ r n (ZX (Zc m)) (YC (ZX (Zc m)))=_
   rw[Yh,JU]
  rw[hv]
  refine FO r n m h2 fun x hx=>h3 x ?_
  have hx:x∈kz (Zc m):=(List.mergeSort_perm _ _).mem_iff.1 hx
  rw[Bf]at hx
  obtain⟨p,hp,rfl⟩:=List.mem_map.1 hx
  exact List.mem_map.2 ⟨p,(List.mem_filter.1 hp).1,rfl⟩
 ·cases h
theorem Oq: ∀ args os,YR args os=true->(Ul args os).2.1.length=os.length:=by
 intro args os h
 unfold YR at h
 split at h
 ·show(KQ _ _ _ _).2.1.length=_
  unfold KQ
  split
  ·split <;> rfl
  ·rfl
 ·cases h
theorem EW{P:Program}{f:Nat}(h:ZV P f YR Ul):ZV P f YR KS:=by
 refine h.frz fun args os hp=> ?_
 unfold YR at hp
 split at hp
 ·rename_i r n es
  have hv:Ul [.ptr 0 1] [.box [.pv (.str r),.pv (.int .i64 n),.map 1],.map es]=KQ r n (ZX es) (YC (ZX es)):=rfl
  have hv':KS [.ptr 0 1] [.box [.pv (.str r),.pv (.int .i64 n),.map 1],.map es]=(.pv (enc (Xo n (ZX es))),[.box [.pv (.str r),.pv (.int .i64 n),.map 1],.map es],[]):=rfl
  simp only[Bool.and_eq_true]at hp
  obtain⟨m,rfl⟩:=UA hp.1
  rw[hv,hv',Yh]
  unfold KQ Xo
  generalize YC m=l
  by_cases hl:Zh ⟨n,l⟩=true
  ·rw[if_pos hl,if_pos hl]
   by_cases hz:l.isEmpty=true
   ·rw[if_pos hz]
    obtain rfl:l=[]:=by simpa using hz
    exact⟨_,_,_,_,_,_,_,_,rfl,rfl,rfl,Qv n 0,rfl⟩
   ·rw[if_neg hz]
    refine⟨_,_,_,.tup [.agg [.int .i64 n,.sl 2 false (l.map enc)],.int .i64 0],[.obj (.box [.pv (.str r),.pv (.int .i64 n),.map 1]),.obj (.map (Zc m)),.obj (.row true 61 2 (l.map enc))],_,_,_,rfl,?_,rfl,.refl _,rfl⟩
    have e:List.drop 0 (List.take l.length (List.map (enc:Coef->PV) l))=l.map enc:=by rw[List.drop_zero,List.take_of_length_le (by simp)]
    simp only[frz,V8,HM.run_bind,Yg,List.map_cons,List.map_nil,List.cons_append,List.nil_append]
    simp[HM.run,HM.req]
    exact List.take_of_length_le (by simp)
  ·rw[if_neg hl,if_neg hl]
   exact⟨_,_,_,_,_,_,_,_,rfl,rfl,rfl,Qv 0 3,rfl⟩
 ·cases hp
end Go.Pl

namespace Go.Pl
open Go.RowKit
open Enc (enc dec is)
open EncL (encL decL isL)
set_option maxRecDepth 100000
def VE:IC:=(.seq (.reg [⟨(some 2),(.alloc (.agg [(.int .i64 0),(.sl 0 true [])])),0,none⟩,⟨(some 3),(.mv (.c (.int .i64 0))),1,none⟩] none) (.seq (.reg [⟨(some 9),(.mv (.t 0)),0,none⟩,⟨(some 10),.mkmap,0,none⟩,⟨(some 11),(.build [(.int .i64 0),.nilmap] [(1,(1,(.t 10)))]),1,none⟩,⟨(some 12),(.build [(.str []),(.int .i64 0),.nilmap] [(0,(1,(.t 9))),(1,(2,(.t 11)))]),1,none⟩,⟨(some 13),(.box 3 (.t 12)),1,none⟩,⟨(some 4),(.mv (.t 13)),2,none⟩] none) (.seq (.reg [⟨(some 14),(.mv (.t 4)),0,none⟩,⟨(some 15),(.mkfn 79 [(.t 14)] []),0,none⟩,⟨(some 5),(.mv (.t 15)),0,none⟩] none) (.seq (.reg [⟨(some 16),(.mv (.t 4)),0,none⟩,⟨(some 17),(.call (.c (.fn 80)) [(.t 16)]),0,none⟩] none) (.seq (.reg [⟨(some 19),(.mv (.t 4)),0,none⟩,⟨(some 20),(.call (.c (.fn 81)) [(.t 19)]),0,none⟩,⟨(some 18),(.mv (.t 20)),2,none⟩,⟨(some 21),(.extract (.t 18) 0),2,none⟩,⟨(some 22),(.extract (.t 18) 1),2,none⟩,⟨(some 6),(.mv (.t 21)),2,none⟩,⟨(some 7),(.mv (.t 22)),2,none⟩] none) (.block 0 (.loop [4,5,6,2] (.block 1 (.seq (.reg [⟨(some 23),(.mv (.t 4)),0,none⟩,⟨(some 24),(.call (.c (.fn 80)) [(.t 23)]),0,none⟩] none) (.seq (.seq (.reg [⟨(some 25),(.mv (.t 5)),0,none⟩,⟨(some 26),(.mv (.t 6)),0,none⟩,⟨(some 27),(.call (.t 25) [(.t 26)]),0,none⟩,⟨(some 28),(.un .not (.t 27)),2,none⟩] none) (.cond (.t 28) (.seq (.reg [⟨(some 29),(.build [(.int .i64 0),(.sl 0 true [])] []),0,none⟩,⟨none,(.store 2 (.t 2) (.t 29)),0,none⟩,⟨(some 3),(.mv (.c (.int .i64 6))),0,none⟩] none) .ret) .skip)) (.seq (.reg [⟨(some 30),(.mv (.t 4)),0,none⟩,⟨(some 31),(.call (.c (.fn 80)) [(.t 30)]),0,none⟩] none) (.seq (.seq (.reg [⟨(some 32),(.mv (.t 4)),0,none⟩,⟨(some 33),(.nilchk (.t 32)),0,none⟩,⟨(some 34),(.faddr 0 (.t 33)),0,none⟩,⟨(some 35),(.load false [.str] (.t 34)),0,none⟩,⟨(some 36),(.bin .num .eql (.t 35) (.c (.str []))),0,none⟩] none) (.cond (.t 36) (.seq (.reg [⟨(some 37),(.mv (.t 4)),0,none⟩,⟨(some 38),(.nilchk (.t 37)),0,none⟩,⟨(some 39),(.faddr 1 (.t 38)),0,none⟩,⟨(some 40),(.call (.c (.fn 82)) [(.t 39)]),0,none⟩,⟨(some 41),(.extract (.t 40) 0),2,none⟩,⟨(some 42),(.extract (.t 40) 1),2,none⟩,⟨none,(.store 2 (.t 2) (.t 41)),2,none⟩,⟨(some 3),(.mv (.t 42)),2,none⟩] none) .ret) .skip)) (.seq (.reg [⟨(some 8),(.mv (.c (.bool false))),0,none⟩] none) (.seq (.reg [⟨(some 44),(.mv (.t 4)),0,none⟩,⟨(some 45),(.call (.c (.fn 81)) [(.t 44)]),0,none⟩,⟨(some 43),(.mv (.t 45)),2,none⟩,⟨(some 46),(.extract (.t 43) 0),2,none⟩,⟨(some 47),(.extract (.t 43) 1),2,none⟩,⟨(some 6),(.mv (.t 46)),2,none⟩,⟨(some 8),(.mv (.t 47)),2,none⟩] none) (.seq (.reg [⟨(some 48),(.mv (.t 8)),0,none⟩,⟨(some 49),(.un .not (.t 48)),0,none⟩] none) (.cond (.t 49) (.seq (.reg [⟨(some 50),(.build [(.int .i64 0),(.sl 0 true [])] []),0,none⟩,⟨none,(.store 2 (.t 2) (.t 50)),0,none⟩,⟨(some 3),(.mv (.c (.int .i64 6))),0,none⟩] none) .ret) .skip))))))))))))))))
def Vo:List IRes:=[(.cell true 2 2),(.tmp 3)]
abbrev OI:Nat:=51
def UI:ZI:=WL [(80,.own ZN UW),(81,.own ZN KI),(79,.own Qz Kt),(82,.own YR KS)]
theorem a2g{G:PV->Prop}(s:List UInt8)(h:(ZN [(.ptr 0 0)] [(.box [(.pv (.str s)),(.pv (.int .i64 0)),(.map 1)]),(.map [])])=true∧((ZN [(.ptr 0 0)] [(.box [(.pv (.str (Za s))),(.pv (.int .i64 0)),(.map 1)]),(.map [])])=true∧(At UI 0 (Ze Vo G) VE 0 51 [(2,(.ptr 0 0)),(4,(.ptr 1 0)),(5,(.fn 79 [(.ptr 1 0)] [])),(6,(.pv (.int .i64 (Prod.fst (Prod.fst (ZM (Za s)))))))] [(.obj (.box [(.pv (.int .i64 0)),(.pv (.sl 0 true []))])),(.obj (.box [(.pv (.str (Prod.snd (ZM (Za s))))),(.pv (.int .i64 0)),(.map 2)])),(.obj (.map []))]))):Zi UI 0 (Ze Vo G) VE [] (Xw 51 [.str s]):=Zi.tp (.req (.keep (.req (.keep (.nil))))) h (by kernel_rfl)
theorem Ea{G:PV->Prop}(s:List UInt8)(t:List UInt8)(n:Int)(m:List (Str×Int))(g:Int)(h:(ZN [(.ptr 0 0)] [(.box [(.pv (.str t)),(.pv (.int .i64 n)),(.map 1)]),(.map (Zc m))])=true∧((Qz [(.ptr 0 0),(.pv (.int .i64 g))] [(.box [(.pv (.str (Za t))),(.pv (.int .i64 n)),(.map 1)]),(.map (Zc m))])=true∧(if (!Prod.fst (ZO (RdS.mk (Za t) n (ZX (Zc m))) g))=true then G ((.tup [(.agg [(.int .i64 0),(.sl 0 true [])]),(.int .i64 6)]))else((ZN [(.ptr 0 0)] [(.box [(.pv (.str (RdS.s (Prod.snd (ZO (RdS.mk (Za t) n (ZX (Zc m))) g))))),(.pv (.int .i64 (RdS.n (Prod.snd (ZO (RdS.mk (Za t) n (ZX (Zc m))) g))))),(.map 1)]),(.map (Zc (RdS.m (Prod.snd (ZO (RdS.mk (Za t) n (ZX (Zc m))) g)))))])=true∧(if (Za (RdS.s (Prod.snd (ZO (RdS.mk (Za t) n (ZX (Zc m))) g)))==[])=true then(YR [(.ptr 0 1)] [(.box [(.pv (.str (Za (RdS.s (Prod.snd (ZO (RdS.mk (Za t) n (ZX (Zc m))) g)))))),(.pv (.int .i64 (RdS.n (Prod.snd (ZO (RdS.mk (Za t) n (ZX (Zc m))) g))))),(.map 1)]),(.map (Zc (RdS.m (Prod.snd (ZO (RdS.mk (Za t) n (ZX (Zc m))) g)))))])=true∧(G ((.tup [(.agg [(.int .i64 (Lin.k (Prod.fst (Xo (RdS.n (Prod.snd (ZO (RdS.mk (Za t) n (ZX (Zc m))) g))) (ZX (Zc (RdS.m (Prod.snd (ZO (RdS.mk (Za t) n (ZX (Zc m))) g))))))))),(.sl 2 false (List.map enc (Lin.t (Prod.fst (Xo (RdS.n (Prod.snd (ZO (RdS.mk (Za t) n (ZX (Zc m))) g))) (ZX (Zc (RdS.m (Prod.snd (ZO (RdS.mk (Za t) n (ZX (Zc m))) g))))))))))]),(.int .i64 (Prod.snd (Xo (RdS.n (Prod.snd (ZO (RdS.mk (Za t) n (ZX (Zc m))) g))) (ZX (Zc (RdS.m (Prod.snd (ZO (RdS.mk (Za t) n (ZX (Zc m))) g))))))))])))else((ZN [(.ptr 0 0)] [(.box [(.pv (.str (Za (RdS.s (Prod.snd (ZO (RdS.mk (Za t) n (ZX (Zc m))) g)))))),(.pv (.int .i64 (RdS.n (Prod.snd (ZO (RdS.mk (Za t) n (ZX (Zc m))) g))))),(.map 1)]),(.map (Zc (RdS.m (Prod.snd (ZO (RdS.mk (Za t) n (ZX (Zc m))) g)))))])=true∧(if (!Prod.snd (Prod.fst (ZM (Za (RdS.s (Prod.snd (ZO (RdS.mk (Za t) n (ZX (Zc m))) g)))))))=true then G ((.tup [(.agg [(.int .i64 0),(.sl 0 true [])]),(.int .i64 6)]))else(At UI 0 (Ze Vo G) VE 0 51 [(2,(.ptr 0 0)),(4,(.ptr 1 0)),(5,(.fn 79 [(.ptr 1 0)] [])),(6,(.pv (.int .i64 (Prod.fst (Prod.fst (ZM (Za (RdS.s (Prod.snd (ZO (RdS.mk (Za t) n (ZX (Zc m))) g))))))))))] [(.obj (.box [(.pv (.int .i64 0)),(.pv (.sl 0 true []))])),(.obj (.box [(.pv (.str (Prod.snd (ZM (Za (RdS.s (Prod.snd (ZO (RdS.mk (Za t) n (ZX (Zc m))) g)))))))),(.pv (.int .i64 (RdS.n (Prod.snd (ZO (RdS.mk (Za t) n (ZX (Zc m))) g))))),(.map 2)])),(.obj (.map (Zc (RdS.m (Prod.snd (ZO (RdS.mk (Za t) n (ZX (Zc m))) g))))))])))))))):At UI 0 (Ze Vo G) VE 0 51 [(2,.ptr 0 0),(4,.ptr 1 0),(5,.fn 79 [.ptr 1 0] []),(6,.pv (.int .i64 g))] [.obj (.box [.pv (.int .i64 0),.pv (.sl 0 true [])]),.obj (.box [.pv (.str t),.pv (.int .i64 n),.map 2]),.obj (.map (Zc m))]:=At.tp (.req (.keep (.req (.keep (.ask (.nil) (.req (.keep (.lit (.ask (.req (.keep (.nil))) (.req (.keep (.ask (.nil) (.nil))))))))))))) h (by kernel_rfl)
end Go.Pl

