/-
  Texts of mine that belong together (packed by pack.py), for every input: TyL, TyM, TyN, TyT, TyO, TyS, GLb, GLa, QLa, QLb, GLc, QLc, GLd, QLd, TyU, QLh, QLm, GLe, QLe, GLg, QLg, QLf, GLi, GL1, QL1, QL2, QLi, QLj, QL3, QL4, GL5, QL5, GL7, QL7, TyR, GLr, QRp, QRq, TyP, GLo, QLq, QLr, GLm, GLk, QLk, GLn, QLn, QLo, QLp, QRa, QRb, QRc, TyQ, GLu, GLt, QRs, QRt, QRu, QRv, GLv, QRw, QRx, TyG, TyH, TyK, TyI, TyE, GLh, GLx, QLx, GL4, GLz, GLy, QLy, QLz, QL8.
-/
import Derived.Test.YtgllkpfiokkdhaaGreatDoorLC2
import Derived.KernelRfl
import Derived.Lib.AtoiAllMem
import Derived.Lib.AtoiAllCases
import Derived.Lib.ItoaNum
import Derived.Lib.Bytealg
import Derived.Lib.Strings
set_option linter.unusedVariables false
set_option linter.unusedSimpArgs false
namespace Go.Pl
open Go.RowKit
open Enc (enc dec is)
open EncL (encL decL isL)
structure Coef where
 v:Str
 c:Int
 deriving DecidableEq
instance:Enc Coef where
 sz:=2
 enc x:=.agg [enc x.v,enc x.c]
 dec | .agg [a,b]=>⟨dec a,dec b⟩|_=>⟨⟨[]⟩,0⟩
 is | .agg [a,b]=>is Str a&&is Int b|_=>false
 is_enc v:=by simp
 dec_enc v:=by simp
 sub p h:=by
  cases p with
  | agg xs=>
   match xs,h with
   | [a,b],h=>
    simp only[Bool.and_eq_true]at h
    exact .agg (.cons (Enc.sub a h.1).2 (.cons (Enc.sub b h.2).2 .nil))
  | _=>cases h
structure Lin where
 k:Int
 t:List Coef
 deriving DecidableEq
instance:Enc Lin where
 sz:=2
 enc x:=.agg [enc x.k,enc x.t]
 dec | .agg [a,b]=>⟨dec a,dec b⟩|_=>⟨0,[]⟩
 is | .agg [a,b]=>is Int a&&is (List Coef) b|_=>false
 is_enc v:=by simp
 dec_enc v:=by simp
 sub p h:=by
  cases p with
  | agg xs=>
   match xs,h with
   | [a,b],h=>
    simp only[Bool.and_eq_true]at h
    exact .agg (.cons (Enc.sub a h.1).2 (.cons (Enc.sub b h.2).2 .nil))
  | _=>cases h
@[simp] theorem c2p (a b : PV) : is Coef (.agg [a, b]) = (is Str a && is Int b) := rfl
@[simp] theorem c1l (a b : PV) : (dec (.agg [a, b]) : Coef) = ⟨dec a, dec b⟩ := rfl
@[simp] theorem c3g (a b : PV) : is Lin (.agg [a, b]) = (is Int a && is (List Coef) b) := rfl
@[simp] theorem c2w (a b : PV) : (dec (.agg [a, b]) : Lin) = ⟨dec a, dec b⟩ := rfl
def digB(c:UInt8):Bool:=decide (48<=c)&&decide (c<=57)
def Wm(c:UInt8):Bool:=decide (97<=c)&&decide (c<=122)
def Yc(s:Str):Bool:=match s.s with
 | []=>false
 | c::r=>if c=95 then r.all digB&& !r.isEmpty&&decide (r.head? ≠ some 48)&&decide (r.length<=9)else Wm c&&r.all (fun c=>Wm c||digB c)&&decide (r.length<=29)
def Z8(n:Int):Bool:=decide (-1000000<=n)&&decide (n<=1000000)
def DI:List Coef->Bool
 | a::b::l=>decide (a.v.s<b.v.s)&&DI (b::l)
 | _=>true
def Zm(l:Lin):Bool:=l.t.all (fun t=>Yc t.v&&decide (t.c≠0)&&Z8 t.c)&&DI l.t&&Z8 l.k&&decide (l.t.length<=12)
def Zj(m:List (Str×Int)):List (PV×PV):=m.map fun p=>(.str p.1.s,.int .i64 p.2)
def Um(m:List (Str×Int))(s:List UInt8):Int:=((m.find? fun p=>p.1.s==s).map (·.2)).getD 0
def YX(m:List (Str×Int)):List Coef:=(YQ ((m.filter fun p=>decide (p.2≠0)).map (·.1.s))).map fun s=>⟨⟨s⟩,Um m s⟩
def X9(n:Int)(m:List (Str×Int)):Lin×Int:=if Zm ⟨n,YX m⟩then(⟨n,YX m⟩,0)else(⟨0,[]⟩,3)
end Go.Pl

namespace Go.Pl
open Go.RowKit
open Enc (enc dec is)
open EncL (encL decL isL)
structure Fact where
 eq:Bool
 l:Lin
 deriving DecidableEq
instance:Enc Fact where
 sz:=3
 enc x:=.agg [enc x.eq,enc x.l.k,enc x.l.t]
 dec | .agg [a,b,c]=>⟨dec a,⟨dec b,dec c⟩⟩|_=>⟨false,⟨0,[]⟩⟩
 is | .agg [a,b,c]=>is Bool a&&is Int b&&is (List Coef) c|_=>false
 is_enc v:=by simp
 dec_enc v:=by simp
 sub p h:=by
  cases p with
  | agg xs=>
   match xs,h with
   | [a,b,c],h=>
    simp only[Bool.and_eq_true]at h
    exact .agg (.cons (Enc.sub a h.1.1).2 (.cons (Enc.sub b h.1.2).2 (.cons (Enc.sub c h.2).2 .nil)))
  | _=>cases h
@[simp] theorem c2r (a b c : PV) : is Fact (.agg [a, b, c]) = (is Bool a && is Int b && is (List Coef) c) := rfl
@[simp] theorem c2j (a b c : PV) : (dec (.agg [a, b, c]) : Fact) = ⟨dec a, ⟨dec b, dec c⟩⟩ := rfl
structure Bnd where
 kind:Int
 v:Str
 dim:Lin
 row:Str
 dims:List Lin
 elem:Str
 deriving DecidableEq
instance:Enc Bnd where
 sz:=7
 enc x:=.agg [enc x.kind,enc x.v,enc x.dim.k,enc x.dim.t,enc x.row,enc x.dims,enc x.elem]
 dec | .agg [a,b,c,d,e,f,g]=>⟨dec a,dec b,⟨dec c,dec d⟩,dec e,dec f,dec g⟩|_=>⟨0,⟨[]⟩,⟨0,[]⟩,⟨[]⟩,[],⟨[]⟩⟩
 is | .agg [a,b,c,d,e,f,g]=>is Int a&&is Str b&&is Int c&&is (List Coef) d&&is Str e&&is (List Lin) f&&is Str g|_=>false
 is_enc v:=by simp
 dec_enc v:=by simp
 sub p h:=by
  cases p with
  | agg xs=>
   match xs,h with
   | [a,b,c,d,e,f,g],h=>
    simp only[Bool.and_eq_true]at h
    exact .agg (.cons (Enc.sub a h.1.1.1.1.1.1).2 (.cons (Enc.sub b h.1.1.1.1.1.2).2 (.cons (Enc.sub c h.1.1.1.1.2).2 (.cons (Enc.sub d h.1.1.1.2).2 (.cons (Enc.sub e h.1.1.2).2 (.cons (Enc.sub f h.1.2).2 (.cons (Enc.sub g h.2).2 .nil)))))))
  | _=>cases h
@[simp] theorem c3e (a b c d e f g : PV) : is Bnd (.agg [a, b, c, d, e, f, g]) = (is Int a && is Str b && is Int c && is (List Coef) d && is Str e && is (List Lin) f && is Str g) := rfl
@[simp] theorem c2v (a b c d e f g : PV) : (dec (.agg [a, b, c, d, e, f, g]) : Bnd) = ⟨dec a, dec b, ⟨dec c, dec d⟩, dec e, dec f, dec g⟩ := rfl
inductive Cert where
 | mk (kind:Int) (mults:List Int) (lin:Lin) (kids:List Cert)
mutual
def Q0:Cert->PV
 | .mk k m l ks=>.agg [enc k,enc m,enc l.k,enc l.t,.sl 5 false (XM ks)]
def XM:List Cert->List PV
 | []=>[]
 | c::cs=>Q0 c::XM cs
end
mutual
def J2:PV->Cert
 | .agg [a,b,c,d,.sl _ _ ks]=>.mk (dec a) (dec b) ⟨dec c,dec d⟩ (WR ks)
 | _=>.mk 0 [] ⟨0,[]⟩ []
def WR:List PV->List Cert
 | []=>[]
 | p::ps=>J2 p::WR ps
end
mutual
def Ut:PV->Bool
 | .agg [a,b,c,d,.sl s _ ks]=>is Int a&&is (List Int) b&&is Int c&&is (List Coef) d&&(ks.isEmpty||s==5)&&UJ ks
 | _=>false
def UJ:List PV->Bool
 | []=>true
 | p::ps=>Ut p&&UJ ps
end
theorem LB(cs:List Cert):XM cs=cs.map Q0:=by
 induction cs with
 | nil=>simp[XM]
 | cons c cs ih=>simp[XM,ih]
theorem L9(cs:List PV):WR cs=cs.map J2:=by
 induction cs with
 | nil=>simp[WR]
 | cons c cs ih=>simp[WR,ih]
theorem LM(cs:List PV):UJ cs=cs.all Ut:=by
 induction cs with
 | nil=>simp[UJ]
 | cons c cs ih=>simp[UJ,ih]
mutual
theorem Eg: ∀ c:Cert,Ut (Q0 c)=true
 | .mk k m l ks=>by
  have h:=Nn ks
  simp only[Q0,Ut,Enc.is_enc,Bool.true_and,Bool.and_eq_true,h,and_true]
  simp
theorem Nn: ∀ cs:List Cert,UJ (XM cs)=true
 | []=>by simp[XM,UJ]
 | c::cs=>by simp[XM,UJ,Eg c,Nn cs]
end
mutual
theorem O1: ∀ c:Cert,J2 (Q0 c)=c
 | .mk k m l ks=>by
  have h:=NM ks
  simp only[Q0,J2,Enc.dec_enc,h]
theorem NM: ∀ cs:List Cert,WR (XM cs)=cs
 | []=>by simp[XM,WR]
 | c::cs=>by simp[XM,WR,O1 c,NM cs]
end
mutual
theorem NY: ∀ p:PV,Ut p=true->UM p (Q0 (J2 p))
 | .agg [a,b,c,d,.sl s t ks],h=>by
  simp only[Ut,Bool.and_eq_true]at h
  obtain⟨⟨⟨⟨⟨h1,h2⟩,h3⟩,h4⟩,h5⟩,h6⟩:=h
  have hk:=Tg ks h6
  simp only[J2,Q0]
  refine .agg (.cons (Enc.sub a h1).2 (.cons (Enc.sub b h2).2 (.cons (Enc.sub c h3).2 (.cons (Enc.sub d h4).2 (.cons ?_ .nil)))))
  simp only[Bool.or_eq_true,List.isEmpty_iff,beq_iff_eq]at h5
  rcases h5 with rfl|rfl
  ·simp only[WR,XM]
   exact(UM.sl0 _ _ _).2
  ·exact(UM.sl hk.1 hk.2).2
 | .bool _,h | .int _ _,h | .str _,h | .sl _ _ _,h | .tup _,h | .nilp,h | .nilmap,h | .nilfn,h | .nili,h | .ifc,h | .fn _,h | .rptr _,h=>by simp[Ut]at h
 | .agg [],h | .agg [_],h | .agg [_,_],h | .agg [_,_,_],h | .agg [_,_,_,_],h=>by simp[Ut]at h
 | .agg (a::b::c::d::e::f::g),h=>by
  have h':Ut (.agg (a::b::c::d::e::f::g))=false:=by cases e <;> kernel_rfl
  rw[h']at h;cases h
 | .agg [_,_,_,_,.bool _],h | .agg [_,_,_,_,.int _ _],h | .agg [_,_,_,_,.str _],h | .agg [_,_,_,_,.agg _],h | .agg [_,_,_,_,.tup _],h | .agg [_,_,_,_,.nilp],h | .agg [_,_,_,_,.nilmap],h | .agg [_,_,_,_,.nilfn],h | .agg [_,_,_,_,.nili],h | .agg [_,_,_,_,.ifc],h | .agg [_,_,_,_,.fn _],h | .agg [_,_,_,_,.rptr _],h=>by simp[Ut]at h
theorem Tg: ∀ ps:List PV,UJ ps=true->ps.length=(XM (WR ps)).length∧ ∀ (j:Nat) x y,ps[j]? = some x->(XM (WR ps))[j]? = some y->UM x y
 | [],_=>⟨by simp[WR,XM],fun j x y h=>by simp at h⟩
 | p::ps,h=>by
  simp only[UJ,Bool.and_eq_true]at h
  have h1:=NY p h.1
  have h2:=Tg ps h.2
  refine⟨by simp[WR,XM,<- h2.1],fun j x y hx hy=> ?_⟩
  simp only[WR,XM]at hy
  cases j with
  | zero=>simp at hx hy;subst hx hy;exact h1
  | succ j=>exact h2.2 j x y (by simpa using hx) (by simpa using hy)
end
instance:Enc Cert where
 sz:=5
 enc:=Q0
 dec:=J2
 is:=Ut
 is_enc:=Eg
 dec_enc:=O1
 sub:=NY
abbrev Cert.kind:Cert->Int | .mk k _ _ _=>k
abbrev Cert.mults:Cert->List Int | .mk _ m _ _=>m
abbrev Cert.lin:Cert->Lin | .mk _ _ l _=>l
abbrev Cert.kids:Cert->List Cert | .mk _ _ _ k=>k
theorem Vz(k:Int)(m:List Int)(l:Lin)(ks:List Cert):(enc (Cert.mk k m l ks):PV) = .agg [enc k,enc m,enc l.k,enc l.t,enc ks]:=by
 show Q0 _=_
 rw[Q0,LB]
 rfl
@[simp] theorem c2t (a b c d e : PV) : is Cert (.agg [a, b, c, d, e]) = (is Int a && is (List Int) b && is Int c && is (List Coef) d && is (List Cert) e) := by
 show Ut _=_
 cases e <;> simp only[Ut] <;> try (simp[is];done)
 rename_i s t ks
 rw[LM]
 show _=(_&&((ks.isEmpty||s==5)&&ks.all Ut))
 rw[Bool.and_assoc]
@[simp] theorem c2b (a b c d e : PV) (h : is (List Cert) e = true) : (dec (.agg [a, b, c, d, e]) : Cert) = .mk (dec a) (dec b) ⟨dec c, dec d⟩ (dec e) := by
 show J2 _=_
 cases e <;> try (cases h;done)
 rw[J2,L9]
 rfl
end Go.Pl

namespace Go.Pl
open Enc (enc dec is)
structure Er where
 b:Bool
 deriving DecidableEq
instance:Enc Er where
 sz:=1
 enc x:=if x.b then .ifc else .nili
 dec | .ifc=>⟨true⟩|_=>⟨false⟩
 is | .ifc=>true | .nili=>true|_=>false
 is_enc v:=by obtain⟨b⟩:=v;cases b <;> rfl
 dec_enc v:=by obtain⟨b⟩:=v;cases b <;> rfl
 sub p h:=by cases p <;> first|exact .refl _|cases h
def Z6(s:Str):Int×Er:=match Lib.atoiAll s.s with
 | .ok v=>(v,⟨false⟩)
 | .range=>(Lib.atoiSat s.s,⟨true⟩)
 | _=>(0,⟨true⟩)
def Xr(n:Int):Str:=⟨Lib.itoa n⟩
def C8(l:Lin)(n:Int):Bool:=l.t.all (fun t=>decide (t.v.s.length<=40))&&decide ((l.t.length:Int)<=n)
abbrev Xe(n:Int):Int:=IntKind.i64.wrap n
def U5(s:Str)(c:Int):Bool->List Coef->List Coef
 | put,[]=>if put then []else [⟨s,c⟩]
 | put,t::r=>(if !put&&decide (s.s<t.v.s)then [⟨s,c⟩]else [])++(if t.v=s then⟨t.v,Xe (t.c+c)⟩::U5 s c true r else t::U5 s c (put||decide (s.s<t.v.s)) r)
def BO(l:Lin)(s:Str)(c:Int):Lin:=⟨l.k,(U5 s c false l.t).filter fun t=>decide (t.c≠0)⟩
def Kg(l x:Lin)(k:Int):Lin:=x.t.foldl (fun o t=>BO o t.v (Xe (k*t.c))) ⟨Xe (l.k+Xe (k*x.k)),l.t⟩
def QY(a b:Int):Int:=if a<b then -1 else if a>b then 1 else 0
def JR:List Coef->List Coef->Int
 | [],[]=>0
 | [],_::_=> -1
 | _::_,[]=>1
 | x::l,y::m=>if x.v.s<y.v.s∨x.v.s=y.v.s∧x.c<y.c then -1 else if x=y then JR l m else 1
def Qe(a b:Lin):Int:=if JR a.t b.t≠0 then JR a.t b.t else QY a.k b.k
mutual
def Ak:Cert->Int
 | .mk _ _ _ ks=>Db 1 ks
def Db(n:Int):List Cert->Int
 | []=>n
 | c::cs=>Db (Xe (n+Ak c)) cs
end
def ZL(l:Lin):Bool:=decide (l.t.length<=9223372036854775807)
def ZJ(l:Lin):Bool:=ZL l&&l.t.all fun t=>decide (t.v.s.length<=1000000)
mutual
def cOk:Cert->Bool
 | .mk _ m l ks=>decide (m.length<=9223372036854775807)&&ZL l&&decide (ks.length<=9223372036854775807)&&a2l ks
def a2l:List Cert->Bool
 | []=>true
 | c::cs=>cOk c&&a2l cs
end
mutual
def c0i:Cert->Nat
 | .mk _ _ _ ks=>NU ks+1
def NU:List Cert->Nat
 | []=>0
 | c::cs=>max (c0i c) (NU cs)
end
end Go.Pl

namespace Go.Pl
open Go.RowKit
open Enc (enc dec is)
open EncL (encL decL isL)
theorem Ux{α:Type}[Enc α]{l:List α}{i:Nat}(h:i<l.length){P:α->Prop}(k:P l[i]):
  ∃ y:α,AV.pv (PV.rptr (PV.cells (List.getD (List.map enc l) (Int.toNat (i:Int)) default)))=AV.pv (PV.rptr (PV.cells (enc y)))∧P y:=⟨l[i],by rw[a6b enc h],k⟩
theorem WS{α:Type}[Enc α]{l:List α}{i n:Nat}(h:i<l.length)(hn:Enc.sz α=n):(decide (0<=(i:Int))&&decide (Int.toNat (i:Int)<List.length (List.map (enc:α->PV) l))&&Enc.sz α==n)=true:=by simp[hn,h]
theorem O9{α:Type}[Enc α]{l:List α}{i:Nat}(h:i<l.length):decide ((i:Int)<(List.length (List.map (enc:α->PV) l):Int))=true:=by simp;omega
theorem OZ{α:Type}[Enc α]{l:List α}{i:Nat}(h : ¬ i<l.length): ¬ decide ((i:Int)<(List.length (List.map (enc:α->PV) l):Int))=true:=by simp;omega
theorem QQ{n i:Nat}(h:i<n):decide ((i:Int)<(n:Int))=true:=by simp;omega
theorem Kb{n i:Nat}(h : ¬ i<n): ¬ decide ((i:Int)<(n:Int))=true:=by simp;omega
theorem b7p{P Q:Prop}:(if (!false)=true then P else Q)=P:=rfl
theorem c2n{P Q:Prop}:(if (!true)=true then P else Q)=Q:=rfl
theorem Zx{c:Prop}[Decidable c]{P Q:Prop}(h:c)(k:P):if c then P else Q:=by rw[if_pos h];exact k
theorem Zy{c:Prop}[Decidable c]{P Q:Prop}(h : ¬ c)(k:Q):if c then P else Q:=by rw[if_neg h];exact k
theorem a0c{c:Prop}[Decidable c]{P Q:Prop}(h1:c->P)(h2 : ¬ c->Q):if c then P else Q:=by split;exact h1 ‹_›;exact h2 ‹_›
theorem U3{b:Bool}{P Q:Prop}(h1:b=false->P)(h2:b=true->Q):if (!b)=true then P else Q:=by cases b;exact h1 rfl;exact h2 rfl
theorem K4{b:Bool}{P Q:Prop}(h1:b=true->P)(h2:b=false->Q):if b=true then P else Q:=by cases b;exact h2 rfl;exact h1 rfl
theorem UT{c:Prop}[Decidable c]{P Q:Prop}(h1:c->P)(h2 : ¬ c->Q):if decide c=true then P else Q:=by by_cases h:c;rw[if_pos (by simpa using h)];exact h1 h;rw[if_neg (by simpa using h)];exact h2 h
theorem Gf{α:Type}[BEq α][LawfulBEq α]{x y:α}{P Q:Prop}(h1:x=y->P)(h2:x≠y->Q):if (x==y)=true then P else Q:=by by_cases h:x=y;rw[if_pos (by simpa using h)];exact h1 h;rw[if_neg (by simpa using h)];exact h2 h
theorem Y7{β:Type}[Enc β]{x y:β}(h:x=y):ZB y (enc x):=⟨Enc.is_enc x,by rw[Enc.dec_enc,h]⟩
theorem YI{x y:Bool}(h:x=y):ZB y (.bool x):=⟨rfl,h⟩
theorem Ur{x y:Int}(h:x=y):ZB y (.int .i64 x):=⟨rfl,h⟩
section
variable (x:Coef) (f:Fact)
theorem co1:PV.asStr (List.getD (PV.cells (enc x)) 0 default)=x.v.s:=rfl
theorem co2:PV.asInt (List.getD (PV.cells (enc x)) (0+1) default)=x.c:=rfl
theorem co3:PV.asStr (List.getD (List.drop 0 (PV.cells (enc x))) 0 default)=x.v.s:=rfl
theorem co4:PV.asInt (List.getD (List.drop 1 (PV.cells (enc x))) 0 default)=x.c:=rfl
end
theorem b7q{c:UInt8}(n:Nat)(h:c≠UInt8.ofNat n)(hn:n<256): ¬ ((c.toNat:Int)==(n:Int))=true:=by
 intro e
 have e:(c.toNat:Int)=n:=by simpa using e
 have e:c.toNat=n:=by omega
 exact h (UInt8.toNat_inj.1 (by rw[e,UInt8.toNat_ofNat'];omega))
theorem WL: ∀ a b:List UInt8,Op.bytesLess a b=decide (a<b)
 | [],[]=>by simp[Op.bytesLess]
 | _::_,[]=>by simp[Op.bytesLess]
 | [],_::_=>by simp[Op.bytesLess]
 | x::a,y::b=>by
  rw[Op.bytesLess,WL a b]
  simp only[List.cons_lt_cons_iff]
  by_cases h1:x<y
  ·simp[h1]
  ·by_cases h2:x=y
   ·subst h2;simp
   ·simp[h1,h2]
theorem ZC.fuel{P:Program}{f:Nat}{α β:Type}[EncL α][Enc β]{pre:α->Bool}{F:α->β}(μ:α->Nat)(h : ∀ N,ZC P f (fun a=>pre a&&decide (μ a<N)) F):ZC P f pre F:=fun ps hps=>by
 refine h (μ (decL ps)+1) ps ?_
 simp only[preT,Bool.and_eq_true,decide_eq_true_eq]at hps ⊢
 exact⟨hps.1,hps.2,by omega⟩
theorem ZC.void{P:Program}{f:Nat}{α β:Type}[EncL α][Enc β]{pre:α->Bool}{F:α->β}(h : ∀ a,pre a=false):ZC P f pre F:=fun ps hps=>by simp[preT,h]at hps
theorem ZC.rec{P:Program}{f:Nat}{α β:Type}[EncL α][Enc β]{pre:α->Bool}{F:α->β}(μ:α->Nat)(h : ∀ N,ZC P f (fun a=>pre a&&decide (μ a<N)) F->ZC P f (fun a=>pre a&&decide (μ a<N+1)) F):ZC P f pre F:=by
 refine ZC.fuel μ fun N=> ?_
 induction N with
 | zero=>exact ZC.void fun a=>by simp
 | succ N ih=>exact h N ih
theorem ZC.or{P:Program}{f:Nat}{α β:Type}[EncL α][Enc β]{pre:α->Bool}{F:α->β}(c:α->Bool)(h1:ZC P f (fun a=>pre a&&c a) F)(h2:ZC P f (fun a=>pre a&& !c a) F):ZC P f pre F:=fun ps hps=>by
 have hps':=hps
 simp only[preT,Bool.and_eq_true]at hps'
 cases hc:c (decL ps)
 ·exact h2 ps (by simp only[preT,hps'.1,hps'.2,hc];rfl)
 ·exact h1 ps (by simp only[preT,hps'.1,hps'.2,hc];rfl)
mutual
def AY:PV->PV->Bool
 | .bool a,.bool b=>a==b
 | .int k a,.int l b=>K8 k l&&a==b
 | .str a,.str b=>a==b
 | .sl s t xs,.sl s' t' ys=>s==s'&&t==t'&&DD xs ys
 | .agg xs,.agg ys=>DD xs ys
 | .tup xs,.tup ys=>DD xs ys
 | .nilp,.nilp=>true
 | .nilmap,.nilmap=>true
 | .nilfn,.nilfn=>true
 | .nili,.nili=>true
 | .ifc,.ifc=>true
 | .fn a,.fn b=>a==b
 | .rptr xs,.rptr ys=>DD xs ys
 | _,_=>false
def DD:List PV->List PV->Bool
 | [],[]=>true
 | x::xs,y::ys=>AY x y&&DD xs ys
 | _,_=>false
end
theorem NK(k:IntKind):K8 k k=true:=by cases k <;> rfl
mutual
theorem a7x: ∀ (p q:PV),AY p q=true->p=q
 | .bool a,q,h=>by cases q <;> simp[AY]at h;rw[h]
 | .int k a,q,h=>by cases q <;> simp[AY]at h;rw[Kn h.1,h.2]
 | .str a,q,h=>by cases q <;> simp[AY]at h;rw[h]
 | .sl s t xs,q,h=>by cases q <;> simp[AY]at h;rw[h.1.1,h.1.2,JS xs _ h.2]
 | .agg xs,q,h=>by cases q <;> simp[AY]at h;rw[JS xs _ h]
 | .tup xs,q,h=>by cases q <;> simp[AY]at h;rw[JS xs _ h]
 | .nilp,q,h=>by cases q <;> simp[AY]at h;rfl
 | .nilmap,q,h=>by cases q <;> simp[AY]at h;rfl
 | .nilfn,q,h=>by cases q <;> simp[AY]at h;rfl
 | .nili,q,h=>by cases q <;> simp[AY]at h;rfl
 | .ifc,q,h=>by cases q <;> simp[AY]at h;rfl
 | .fn a,q,h=>by cases q <;> simp[AY]at h;rw[h]
 | .rptr xs,q,h=>by cases q <;> simp[AY]at h;rw[JS xs _ h]
theorem JS: ∀ (xs ys:List PV),DD xs ys=true->xs=ys
 | [],ys,h=>by cases ys <;> simp[DD]at h;rfl
 | x::xs,ys,h=>by
  cases ys with
  | nil=>simp[DD]at h
  | cons y ys=>simp[DD]at h;rw[a7x x y h.1,JS xs ys h.2]
end
mutual
theorem PH: ∀ (p:PV),AY p p=true
 | .bool a | .str a | .fn a=>by simp[AY]
 | .int k a=>by simp[AY,NK]
 | .sl s t xs=>by simp[AY,GN xs]
 | .agg xs | .tup xs | .rptr xs=>by simp[AY,GN xs]
 | .nilp | .nilmap | .nilfn | .nili | .ifc=>by simp[AY]
theorem GN: ∀ (xs:List PV),DD xs xs=true
 | []=>by simp[DD]
 | x::xs=>by simp[DD,PH x,GN xs]
end
def Jk(α:Type)[Enc α](p:PV):Bool:=AY p (enc (dec p:α))
@[simp] theorem Xk {α : Type} [Enc α] (a : α) : Jk α (enc a) = true := by unfold Jk; rw [Enc.dec_enc]; exact PH _
theorem Vk{α:Type}[Enc α]{p:PV}(h:Jk α p=true): ∃ a:α,p=enc a:=⟨_,a7x _ _ h⟩
end Go.Pl

namespace Go.Pl
open Enc (enc dec is)
@[irreducible] def Jp (a : Nat) (r : List UInt8) : Nat := r.foldl (fun a c => a * 10 + (c.toNat - 48)) a
theorem Hu(a:Nat):Jp a []=a:=by unfold Jp;rfl
theorem UR(a:Nat)(c:UInt8)(r:List UInt8):Jp a (c::r)=Jp (a*10+(c.toNat - 48)) r:=by unfold Jp;rfl
theorem Vx{c:UInt8}:digB c=true ↔ 48<=c.toNat∧c.toNat<=57:=by
 simp only[digB,Bool.and_eq_true,decide_eq_true_eq,UInt8.le_iff_toNat_le]
 have e1:(48:UInt8).toNat=48:=rfl
 have e2:(57:UInt8).toNat=57:=rfl
 rw[e1,e2]
theorem Oe: ∀ (r:List UInt8) (a:Nat),r.all digB=true->Jp a r<(a+1)*10 ^ r.length
 | [],a,_=>by simp[Hu]
 | c::r,a,h=>by
  simp only[List.all_cons,Bool.and_eq_true,Vx]at h
  have:=Oe r (a*10+(c.toNat - 48)) h.2
  rw[UR,List.length_cons,Nat.pow_succ]
  refine Nat.lt_of_lt_of_le this ?_
  rw[Nat.mul_comm (10 ^ r.length) 10,<- Nat.mul_assoc]
  exact Nat.mul_le_mul_right _ (by omega)
theorem TY: ∀ (r:List UInt8) (a:Nat),a<=Jp a r
 | [],a=>by rw[Hu];exact Nat.le_refl _
 | c::r,a=>by
  have:=TY r (a*10+(c.toNat - 48))
  rw[UR]
  omega
theorem Sr: ∀ (r:List UInt8) (a:Nat),r.all digB=true->Jp a r<1000000000000000000->Lib.parseUint10 a r = .ok (Jp a r)
 | [],a,_,_=>by rw[Hu,Lib.parseUint10]
 | c::r,a,h,hv=>by
  simp only[List.all_cons,Bool.and_eq_true,Vx]at h
  rw[UR]at hv ⊢
  have hge:=TY r (a*10+(c.toNat - 48))
  rw[Lib.parseUint10,if_pos h.1,if_neg (by omega),if_neg (by omega)]
  exact Sr r _ h.2 hv
theorem a9z{a d:Nat}(ha:1<=a)(hd:d<=9):Lib.decDigits (a*10+d)=Lib.decDigits a++[UInt8.ofNat (48+d)]:=by
 rw[Lib.decDigits,dif_neg (by omega),show(a*10+d) / 10=a by omega,show(a*10+d) % 10=d by omega]
theorem El: ∀ (r:List UInt8) (a:Nat),1<=a->r.all digB=true->Lib.decDigits (Jp a r)=Lib.decDigits a++r
 | [],a,_,_=>by simp[Hu]
 | c::r,a,ha,h=>by
  simp only[List.all_cons,Bool.and_eq_true,Vx]at h
  rw[UR,El r _ (by omega) h.2,a9z ha (by omega)]
  have:UInt8.ofNat (48+(c.toNat - 48))=c:=by
   rw[show 48+(c.toNat - 48)=c.toNat by omega]
   exact UInt8.ofNat_toNat
  rw[this]
  simp
theorem a9i{n:Nat}(h:n<256):(UInt8.ofNat n).toNat=n:=by rw[UInt8.toNat_ofNat'];omega
theorem Lh: ∀ (u:Nat),1<=u->(Lib.decDigits u).all digB=true∧(Lib.decDigits u).head? ≠ some 48∧Lib.decDigits u≠[]:=by
 intro u
 induction u using Nat.strongRecOn with
 | _ u ih=>
  intro h1
  rw[Lib.decDigits]
  by_cases h:u<10
  ·rw[dif_pos h]
   refine⟨?_,?_,by simp⟩
   ·simp only[List.all_cons,List.all_nil,Bool.and_true]
    rw[Vx,a9i (by omega)]
    omega
   ·simp only[List.head?_cons,ne_eq,Option.some.injEq]
    intro e
    have:=congrArg UInt8.toNat e
    rw[a9i (by omega)]at this
    have e48:(48:UInt8).toNat=48:=rfl
    rw[e48]at this
    omega
  ·rw[dif_neg h]
   obtain⟨i1,i2,i3⟩:=ih (u / 10) (by omega) (by omega)
   refine⟨?_,?_,by simp⟩
   ·rw[List.all_append,i1]
    simp only[List.all_cons,List.all_nil,Bool.and_true,Bool.true_and]
    rw[Vx,a9i (by omega)]
    omega
   ·cases hd:Lib.decDigits (u / 10)with
    | nil=>exact absurd hd i3
    | cons c r=>rw[hd]at i2;simpa using i2
def P9(r:List UInt8):Bool:=r.all digB&& !r.isEmpty&&decide (r.head? ≠ some 48)
theorem c0t(b:Bool):VK (enc (⟨b⟩:Er)) = !b:=by cases b <;> rfl
theorem c1k(e:Er):Dt (enc e)=true:=by obtain⟨b⟩:=e;cases b <;> rfl
theorem b4y(r:List UInt8)(hr:r.length<=9):(VK (enc (Z6 ⟨r⟩).2)&&decide ((Z6 ⟨r⟩).1>0)&&(Lib.itoa (Z6 ⟨r⟩).1==r))=P9 r:=by
 by_cases hn:P9 r=true
 ·rw[hn]
  simp only[P9,Bool.and_eq_true,Bool.not_eq_true',decide_eq_true_eq]at hn
  obtain⟨⟨h1,h2⟩,h3⟩:=hn
  cases r with
  | nil=>simp at h2
  | cons c r=>
   have h1':=h1
   simp only[List.all_cons,Bool.and_eq_true,Vx]at h1
   have hc:c≠48:=by simpa using h3
   have hc':c.toNat≠48:=fun e=>hc (UInt8.toNat_inj.1 (by rw[e];rfl))
   have hv:=Oe (c::r) 0 h1'
   have hp:10 ^ (c::r).length<=10 ^ 9:=Nat.pow_le_pow_right (by omega) hr
   have hpm:=Sr (c::r) 0 h1' (by omega)
   have hat:Lib.atoiAll (c::r) = .ok (Jp 0 (c::r):Int):=by
    have e1 : ¬ (c.toNat=43∨c.toNat=45):=by omega
    have e2 : ¬ c.toNat=45:=by omega
    simp only[Lib.atoiAll,if_neg e1,Lib.parseMag,if_neg (show ¬ (c::r=[]) by simp),hpm]
    rw[if_neg (by omega),if_neg (fun e=>e2 e.1),if_neg e2]
   have ha:Z6 ⟨c::r⟩=((Jp 0 (c::r):Int),⟨false⟩):=by simp only[Z6,hat]
   have hvd:Jp 0 (c::r)=Jp (c.toNat - 48) r:=by rw[UR];congr 1;omega
   have hpos:=TY r (c.toNat - 48)
   rw[ha]
   have h4:Lib.itoa (Jp 0 (c::r):Int)=c::r:=by
    rw[Lib.itoa,if_neg (by omega),Int.toNat_natCast,hvd,El r _ (by omega) h1.2,Lib.decDigits,dif_pos (by omega)]
    have:UInt8.ofNat (48+(c.toNat - 48))=c:=by
     rw[show 48+(c.toNat - 48)=c.toNat by omega]
     exact UInt8.ofNat_toNat
    rw[this];rfl
   simp only[c0t,h4,beq_self_eq_true,Bool.and_true,Bool.not_false,Bool.true_and]
   exact decide_eq_true (by omega)
 ·have hn:P9 r=false:=by simpa using hn
  rw[hn]
  by_cases h1:decide ((Z6 ⟨r⟩).1>0)=true
  ·by_cases h2:(Lib.itoa (Z6 ⟨r⟩).1==r)=true
   ·exfalso
    have h1:(Z6 ⟨r⟩).1>0:=by simpa using h1
    have h2:Lib.itoa (Z6 ⟨r⟩).1=r:=by simpa using h2
    rw[Lib.itoa,if_neg (by omega)]at h2
    obtain⟨d1,d2,d3⟩:=Lh (Z6 ⟨r⟩).1.toNat (by omega)
    rw[h2]at d1 d2 d3
    have:P9 r=true:=by simp only[P9,d1,decide_eq_true d2,Bool.true_and,Bool.and_true];cases r <;> simp at d3 ⊢
    rw[this]at hn;cases hn
   ·simp[h2]
  ·simp[h1]
theorem a6y(r:List UInt8):Yc ⟨95::r⟩=(P9 r&&decide (r.length<=9)):=by simp[Yc,P9]
end Go.Pl

namespace Go.Pl
open Go.RowKit
open Enc (enc dec is)
open EncL (encL decL isL)
theorem CQ(s:List UInt8): ∀ m:List (Str×Int),Sa (.str s) (Zj m)=some ((m.find? fun p=>p.1.s==s).map fun p=>.int .i64 p.2)
 | []=>rfl
 | p::m=>by
  simp only[Zj,List.map_cons,Sa,PS,List.find?_cons]
  by_cases h:s=p.1.s
  ·subst h
   simp
  ·have h1:(s==p.1.s)=false:=by simpa using h
   have h2:(p.1.s==s)=false:=by simpa using fun e:p.1.s=s=>h e.symm
   simp only[h1,h2]
   exact CQ s m
theorem Vj(s:List UInt8)(m:List (Str×Int)):Va (.str s) (Zj m)=true:=by simp[Va,CQ]
theorem Vl(s:List UInt8)(m:List (Str×Int)):ZP (.str s) (.int .i64 0) (Zj m) = .int .i64 (Um m s):=by
 simp only[ZP,CQ,Um]
 cases m.find? fun p=>p.1.s==s <;> rfl
def VP(s:Str)(c:Int):List (Str×Int)->List (Str×Int)
 | []=>[(s,c)]
 | p::m=>if s.s=p.1.s then(s,c)::m else p::VP s c m
theorem Cc(s:Str)(c:Int): ∀ m:List (Str×Int),upd (.str s.s) (.int .i64 c) (Zj m)=some (Zj (VP s c m))
 | []=>rfl
 | p::m=>by
  have ih:=Cc s c m
  simp only[Zj]at ih
  simp only[Zj,List.map_cons,upd,PS,VP]
  by_cases h:s.s=p.1.s
  ·simp[h]
  ·have h1:(s.s==p.1.s)=false:=by simpa using h
   simp[h1,h,ih]
def Xj(k:Int):List Coef->List (Str×Int)->List (Str×Int)
 | [],m=>m
 | t::l,m=>Xj k l (VP t.v (IntKind.i64.wrap (Um m t.v.s+IntKind.i64.wrap (k*t.c))) m)
def Ya(m:List (Str×Int)):List (List UInt8):=m.map (·.1.s)
theorem U7(s:Str)(c:Int): ∀ m:List (Str×Int),(Ya (VP s c m)=Ya m)∨(s.s ∉ Ya m∧Ya (VP s c m)=Ya m++[s.s])
 | []=>.inr ⟨by simp[Ya],rfl⟩
 | p::m=>by
  rw[VP]
  split
  ·rename_i h
   exact .inl (by simp[Ya,h])
  ·rename_i h
   rcases U7 s c m with e|⟨e1,e2⟩
   ·exact .inl (by simp only[Ya,List.map_cons]at e ⊢;rw[e])
   ·refine .inr ⟨?_,?_⟩
    ·simp only[Ya,List.map_cons,List.mem_cons,not_or]at e1 ⊢
     exact⟨h,e1⟩
    ·simp only[Ya,List.map_cons]at e2 ⊢
     rw[e2];rfl
theorem a1x{s:Str}{c:Int}{m:List (Str×Int)}(h:(Ya m).Nodup):(Ya (VP s c m)).Nodup:=by
 rcases U7 s c m with e|⟨e1,e2⟩
 ·rw[e];exact h
 ·rw[e2,List.nodup_append]
  exact⟨h,by simp,fun a ha b hb e=>by simp at hb;subst hb;subst e;exact e1 ha⟩
theorem Jd(k:Int): ∀ (l:List Coef) (m:List (Str×Int)),(Ya m).Nodup->(Ya (Xj k l m)).Nodup
 | [],m,h=>h
 | t::l,m,h=>Jd k l _ (a1x h)
theorem Ri(s:Str)(c:Int)(m:List (Str×Int)):(VP s c m).length<=m.length+1:=by
 have h:(VP s c m).length=(Ya (VP s c m)).length:=by simp[Ya]
 have h2:m.length=(Ya m).length:=by simp[Ya]
 rcases U7 s c m with e|⟨_,e⟩
 ·rw[h,e,<- h2];omega
 ·rw[h,e];simp;omega
theorem HV(k:Int): ∀ (l:List Coef) (m:List (Str×Int)),(Xj k l m).length<=m.length+l.length
 | [],m=>Nat.le_refl _
 | t::l,m=>by
  have h1:=HV k l (VP t.v (IntKind.i64.wrap (Um m t.v.s+IntKind.i64.wrap (k*t.c))) m)
  have h2:=Ri t.v (IntKind.i64.wrap (Um m t.v.s+IntKind.i64.wrap (k*t.c))) m
  rw[Xj,List.length_cons];omega
def nzM(m:List (Str×Int)):List (Str×Int):=m.filter fun p=>decide (p.2≠0)
def Uy:AV×List AObj×List AObj:=(.tup [.pv (.int .i64 0),.pv .nilmap,.pv (.bool false)],[],[])
theorem NG{a b:List (List UInt8)}(h:a.Perm b):YQ a=YQ b:=by
 have tr : ∀ x y z:List UInt8,decide (x<=y)=true->decide (y<=z)=true->decide (x<=z)=true:=fun x y z h k=>by simp only[decide_eq_true_eq]at *;exact List.le_trans h k
 have to : ∀ x y:List UInt8,(decide (x<=y)||decide (y<=x))=true:=fun x y=>by simp only[Bool.or_eq_true,decide_eq_true_eq];exact List.le_total x y
 refine List.Perm.eq_of_pairwise (le:=fun x y=>decide (x<=y)=true) (fun x y _ _ h1 h2=> ?_) (List.pairwise_mergeSort tr to a) (List.pairwise_mergeSort tr to b) (((List.mergeSort_perm a _).trans h).trans (List.mergeSort_perm b _).symm)
 simp only[decide_eq_true_eq]at h1 h2
 exact List.le_antisymm h1 h2
structure FnV (n:Nat) where
 u:Unit:=()
instance (n:Nat):Enc (FnV n) where
  sz:=1
  enc _:=.fn n
  dec _:={}
  is | .fn m=>m==n|_=>false
  is_enc _:=by simp
  dec_enc _:=rfl
  sub p h:=by
    cases p with
    | fn m => have : m = n := by simpa using h
              subst this;exact .refl _
    | _=>cases h
def X8{α:Type}(p:α->Bool)(l:List α):Int:=match l.findIdx? p with|some i=>i|none=> -1
theorem b6g{α:Type}(p:α->Bool)(l:List α)(i:Nat)(hlt:i<l.length)(hno : ∀ j (h:j<l.length),j<i->p l[j]=false)(hp:p l[i]=true):X8 p l=i:=by
 unfold X8
 have:l.findIdx? p=some i:=by
  rw[List.findIdx?_eq_some_iff_getElem]
  exact⟨hlt,hp,fun j hj=>by simp[hno j (by omega) hj]⟩
 rw[this]
theorem b6b{α:Type}(p:α->Bool)(l:List α)(hno : ∀ j (h:j<l.length),p l[j]=false):X8 p l = -1:=by
 unfold X8
 have:l.findIdx? p=none:=by
  rw[List.findIdx?_eq_none_iff]
  intro x hx
  obtain⟨j,hj,rfl⟩:=List.getElem_of_mem hx
  exact hno j hj
 rw[this]
end Go.Pl

namespace Go.Pl
open Go.RowKit
open Enc (enc dec is)
open EncL (encL decL isL)
set_option maxRecDepth 100000
def Us:IC:=(.seq (.reg [⟨(some 4),(.box 2 (.t 1)),0,none⟩] none) (.seq (.reg [⟨(some 8),(.mv (.t 0)),0,none⟩,⟨(some 9),(.nilchk (.t 8)),0,none⟩,⟨(some 10),(.faddr 0 (.t 9)),0,none⟩,⟨(some 11),(.load false [(.int .i64)] (.t 10)),0,none⟩,⟨(some 12),(.mv (.t 2)),0,none⟩,⟨(some 13),(.faddr 0 (.t 4)),0,none⟩,⟨(some 14),(.load false [(.int .i64)] (.t 13)),0,none⟩,⟨(some 15),(.bin .num .mul (.t 12) (.t 14)),0,none⟩,⟨(some 16),(.bin .num .add (.t 11) (.t 15)),0,none⟩,⟨(some 17),(.nilchk (.t 8)),0,none⟩,⟨(some 18),(.faddr 0 (.t 17)),0,none⟩,⟨none,(.store 1 (.t 18) (.t 16)),0,none⟩] (some [[],[0],[1,0],[2,1,0],[],[],[5],[4,6,5],[3,7,2,1,0,4,6,5],[0,1,2,3,4,5,6,7,8],[9,0,1,2,3,4,5,6,7,8],[10,8,0,1,2,3,4,5,6,7,9]])) (.seq (.reg [⟨(some 19),(.faddr 1 (.t 4)),0,none⟩,⟨(some 20),(.load false [(.sl 2)] (.t 19)),0,none⟩,⟨(some 21),(.len 1 (.t 20)),0,none⟩,⟨(some 22),(.mv (.c (.int .i64 0))),0,none⟩] none) (.block 0 (.loop [22,21,20,0,2] (.seq (.reg [⟨(some 23),(.bin .num .lss (.t 22) (.t 21)),0,none⟩] none) (.seq (.cond (.t 23) .skip (.exit 0)) (.seq (.block 1 (.seq (.reg [⟨(some 24),(.iaddr 2 (.t 20) (.t 22)),0,none⟩,⟨(some 25),(.load true [.str,(.int .i64)] (.t 24)),0,none⟩,⟨(some 7),(.alloc (.agg [(.str []),(.int .i64 0)])),0,none⟩,⟨none,(.store 2 (.t 7) (.t 25)),1,none⟩] none) (.reg [⟨(some 26),(.mv (.t 0)),0,none⟩,⟨(some 27),(.nilchk (.t 26)),0,none⟩,⟨(some 28),(.faddr 1 (.t 27)),0,none⟩,⟨(some 29),(.load false [.any] (.t 28)),0,none⟩,⟨(some 30),(.faddr 0 (.t 7)),0,none⟩,⟨(some 31),(.load false [.str] (.t 30)),0,none⟩,⟨(some 32),(.lookup true (.int .i64) (.int .i64 0) false (.t 29) (.t 31)),0,none⟩,⟨(some 33),(.mv (.t 2)),0,none⟩,⟨(some 34),(.faddr 1 (.t 7)),0,none⟩,⟨(some 35),(.load false [(.int .i64)] (.t 34)),0,none⟩,⟨(some 36),(.bin .num .mul (.t 33) (.t 35)),0,none⟩,⟨(some 37),(.bin .num .add (.t 32) (.t 36)),0,none⟩,⟨none,(.mapupd true (.t 29) (.t 31) (.t 37)),0,none⟩] (some [[],[0],[1,0],[2,1,0],[],[4],[3,5,2,1,0,4],[],[],[8],[7,9,8],[6,10,3,5,2,1,0,4,7,9,8],[3,5,11,0,1,2,4,6,7,8,9,10]])))) (.reg [⟨(some 38),(.bin .num .add (.t 22) (.c (.int .i64 1))),0,none⟩,⟨(some 22),(.mv (.t 38)),0,none⟩] none)))))))))
def Uu:List IRes:=[]
abbrev b6l:Nat:=39
def QZ:ZG:=Xo []
theorem b9g{G:AV×List AObj×List AObj->Prop}(n:Int)(m:List (Str×Int))(l:Lin)(k:Int)(h:At QZ 2 (Zk 2 Uu G) Us 0 39 [(0,(.ptr 0 0)),(2,(.pv (.int .i64 k))),(20,(.pv (.sl 2 false (List.map enc l.t)))),(21,(.pv (.int .i64 (↑(List.length (List.map enc l.t)):Int)))),(22,(.pv (.int .i64 0)))] [(.obj (.box [(.pv (.int .i64 (IntKind.wrap IntKind.i64 (n+IntKind.wrap IntKind.i64 (k*l.k))))),(.map 1)])),(.obj (.map (Zj m)))]):Ze QZ 2 (Zk 2 Uu G) Us [] (ZK 39 [.ptr 0 0,.pv (enc l),.pv (.int .i64 k)] [.box [.pv (.int .i64 n),.map 1],.map (Zj m)]):=Ze.to (.lit (.lit (.nil))) h (by kernel_rfl)
theorem OW{G:AV×List AObj×List AObj->Prop}(n:Int)(m:List (Str×Int))(l:Lin)(k:Int)(i:Int)(h:if (decide (i<(↑(List.length l.t):Int)))=true then(decide (0<=i)&&decide (Int.toNat i<List.length (List.map enc l.t))&&Enc.sz Coef==2)=true∧(∃ y0:Coef,AV.pv (PV.rptr (PV.cells (List.getD (List.map enc l.t) (Int.toNat i) default)))=AV.pv (PV.rptr (PV.cells ((enc) y0)))∧((Va (Sh.co Sh.str (List.getD (PV.cells (enc y0)) 0 default)) (Zj m)&&Sh.fit (Sh.int .i64) (ZP (Sh.co Sh.str (List.getD (PV.cells (enc y0)) 0 default)) (PV.int .i64 0) (Zj m)))=true∧((Dl (Sh.co Sh.str (List.getD (PV.cells (enc y0)) 0 default)) (PV.int .i64 (IntKind.wrap IntKind.i64 (PV.asInt (ZP (Sh.co Sh.str (List.getD (PV.cells (enc y0)) 0 default)) (PV.int .i64 0) (Zj m))+IntKind.wrap IntKind.i64 (k*PV.asInt (List.getD (PV.cells (enc y0)) (0+1) default))))) (Zj m))=true∧(At QZ 2 (Zk 2 Uu G) Us 0 39 [(0,(.ptr 0 0)),(2,(.pv (.int .i64 k))),(20,(.pv (.sl 2 false (List.map enc l.t)))),(21,(.pv (.int .i64 (↑(List.length l.t):Int)))),(22,(.pv (.int .i64 (IntKind.wrap IntKind.i64 (i+1)))))] [(.obj (.box [(.pv (.int .i64 n)),(.map 1)])),(.obj (.map (DL (Sh.co Sh.str (List.getD (PV.cells (enc y0)) 0 default)) (PV.int .i64 (IntKind.wrap IntKind.i64 (PV.asInt (ZP (Sh.co Sh.str (List.getD (PV.cells (enc y0)) 0 default)) (PV.int .i64 0) (Zj m))+IntKind.wrap IntKind.i64 (k*PV.asInt (List.getD (PV.cells (enc y0)) (0+1) default))))) (Zj m))))]))))else(G (((.tup []),([(.box [(.pv (.int .i64 n)),(.map 1)]),(.map (Zj m))],[]))))):At QZ 2 (Zk 2 Uu G) Us 0 39 [(0,.ptr 0 0),(2,.pv (.int .i64 k)),(20,.pv (enc l.t)),(21,.pv (.int .i64 l.t.length)),(22,.pv (.int .i64 i))] [.obj (.box [.pv (.int .i64 n),.map 1]),.obj (.map (Zj m))]:=At.to (.lit (.ask (.req (.abs (Coef) (fun YY=>AV.pv (PV.rptr (PV.cells ((enc) YY)))) (.lit (.req (.keep (.lit (.lit (.req (.lit (.nil)))))))))) (.nil))) h (by kernel_rfl)
end Go.Pl

namespace Go.Pl
open Go.RowKit
open Enc (enc dec is)
open EncL (encL decL isL)
set_option maxRecDepth 100000
def WX:IC:=(.seq (.reg [⟨(some 25),(.mv (.t 7)),0,none⟩,⟨(some 26),(.bin .num .neq (.t 25) (.c (.int .i64 0))),0,none⟩] none) (.cond (.t 26) (.reg [⟨(some 27),(.mv (.t 5)),0,none⟩,⟨(some 28),(.mv (.t 6)),0,none⟩,⟨(some 29),(.bslice 9 1 1 (.str []) [(0,(.t 28))]),0,none⟩,⟨(some 30),(.append 9 1 16 (.t 27) (.t 29)),1,none⟩,⟨(some 5),(.mv (.t 30)),2,none⟩] none) .skip))
def Ui:List IRes:=[]
def Kh:ZG:=Xo [(56,.own Y8 WB),(41,.pure (preT (fun x:Lin×Unit=>ZJ x.1)) (Zo (fun x:Lin×Unit=>Zm x.1)))]
theorem a5s{G:AV×List AObj×List AObj->Prop}(E:Xt)(n:Int)(s:List UInt8)(c:Int)(h:if (c != 0)=true then E 99 ⟨Ws 58 0 [(0,(.ptr 0 0)),(2,(.ptr 2 0)),(4,(.ptr 3 0)),(5,(.row 5 1 0 1)),(18,(.map 1)),(19,(.ptr 4 0))],[(.obj (.box [(.pv (.int .i64 n)),(.map 1)])),.dead,(.obj (.box [(.pv (.int .i64 0)),(.pv (.sl 0 true []))])),(.obj (.box [(.pv (.int .i64 n)),(.pv (.sl 0 true []))])),.dead,(.obj (.row false 9 1 [(.str s)]))]⟩ (fun x S'=>OH Kh E 5 (Zk 5 Ui G) WX 99 x S')else(E 99 ⟨Ws 58 0 [(0,(.ptr 0 0)),(2,(.ptr 2 0)),(4,(.ptr 3 0)),(5,(.pv (.sl 0 true []))),(18,(.map 1)),(19,(.ptr 4 0))],[(.obj (.box [(.pv (.int .i64 n)),(.map 1)])),.dead,(.obj (.box [(.pv (.int .i64 0)),(.pv (.sl 0 true []))])),(.obj (.box [(.pv (.int .i64 n)),(.pv (.sl 0 true []))])),.dead]⟩ (fun x S'=>OH Kh E 5 (Zk 5 Ui G) WX 99 x S'))):Yk Kh E 5 (Zk 5 Ui G) (.inl WX) [.blk 1,.seq (.ext 99 [0,2,4,5,18,19])] ⟨Ws 58 0 [(0,.ptr 0 0),(2,.ptr 2 0),(4,.ptr 3 0),(5,.pv (.sl 0 true [])),(6,.pv (.str s)),(7,.pv (.int .i64 c)),(18,.map 1),(19,.ptr 4 0),(22,.pv (.tup [.str s,.int .i64 c])),(23,.pv (.str s)),(24,.pv (.int .i64 c))],[.obj (.box [.pv (.int .i64 n),.map 1]),.dead,.obj (.box [.pv (.int .i64 0),.pv (.sl 0 true [])]),.obj (.box [.pv (.int .i64 n),.pv (.sl 0 true [])]),.dead]⟩:=Yk.mo (.lit (.ask (.lit (.lit (.lit (.lit (.lit (.nil)))))) (.nil))) h (by kernel_rfl)
theorem a7u{G:AV×List AObj×List AObj->Prop}(E:Xt)(n:Int)(s:List UInt8)(c:Int)(l:Nat)(xs:List (List UInt8))(h:if (c != 0)=true then(List.length (List.map PV.str xs)==l&&l==l&&decide ((l+List.length (List.drop 0 (List.take 1 [PV.str s])))*16<=1099511627776)&&decide (l+List.length (List.drop 0 (List.take 1 [PV.str s]))<=1099511627776))=true∧(E 99 ⟨Ws 58 0 [(0,(.ptr 0 0)),(2,(.ptr 2 0)),(4,(.ptr 3 0)),(5,(.row 5 (l+List.length (List.drop 0 (List.take 1 [PV.str s]))) 0 (l+List.length (List.drop 0 (List.take 1 [PV.str s]))))),(18,(.map 1)),(19,(.ptr 4 0))],[(.obj (.box [(.pv (.int .i64 n)),(.map 1)])),.dead,(.obj (.box [(.pv (.int .i64 0)),(.pv (.sl 0 true []))])),(.obj (.box [(.pv (.int .i64 n)),(.pv (.sl 0 true []))])),.dead,(.obj (.row false 9 1 (List.map PV.str xs++List.drop 0 (List.take 1 [PV.str s]))))]⟩ (fun x S'=>OH Kh E 6 (Zk 6 Ui G) WX 99 x S'))else(E 99 ⟨Ws 58 0 [(0,(.ptr 0 0)),(2,(.ptr 2 0)),(4,(.ptr 3 0)),(5,(.row 5 l 0 l)),(18,(.map 1)),(19,(.ptr 4 0))],[(.obj (.box [(.pv (.int .i64 n)),(.map 1)])),.dead,(.obj (.box [(.pv (.int .i64 0)),(.pv (.sl 0 true []))])),(.obj (.box [(.pv (.int .i64 n)),(.pv (.sl 0 true []))])),.dead,(.obj (.row false 9 1 (List.map PV.str xs)))]⟩ (fun x S'=>OH Kh E 6 (Zk 6 Ui G) WX 99 x S'))):Yk Kh E 6 (Zk 6 Ui G) (.inl WX) [.blk 1,.seq (.ext 99 [0,2,4,5,18,19])] ⟨Ws 58 0 [(0,.ptr 0 0),(2,.ptr 2 0),(4,.ptr 3 0),(5,.row 5 l 0 l),(6,.pv (.str s)),(7,.pv (.int .i64 c)),(18,.map 1),(19,.ptr 4 0),(22,.pv (.tup [.str s,.int .i64 c])),(23,.pv (.str s)),(24,.pv (.int .i64 c))],[.obj (.box [.pv (.int .i64 n),.map 1]),.dead,.obj (.box [.pv (.int .i64 0),.pv (.sl 0 true [])]),.obj (.box [.pv (.int .i64 n),.pv (.sl 0 true [])]),.dead,.obj (.row false 9 1 (xs.map .str))]⟩:=Yk.mo (.lit (.ask (.lit (.lit (.req (.nil)))) (.nil))) h (by kernel_rfl)
def YV:IC:=(.seq (.reg [⟨(some 2),(.alloc (.agg [(.int .i64 0),(.sl 0 true [])])),0,none⟩,⟨(some 3),(.mv (.c (.int .i64 0))),1,none⟩] none) (.seq (.reg [⟨(some 10),(.mv (.t 0)),0,none⟩,⟨(some 11),(.nilchk (.t 10)),0,none⟩,⟨(some 12),(.faddr 0 (.t 11)),0,none⟩,⟨(some 13),(.load false [(.int .i64)] (.t 12)),0,none⟩,⟨(some 14),(.build [(.int .i64 0),(.sl 0 true [])] [(0,(1,(.t 13)))]),0,none⟩,⟨(some 4),(.alloc (.agg [(.int .i64 0),(.sl 0 true [])])),0,none⟩,⟨none,(.store 2 (.t 4) (.t 14)),1,none⟩] none) (.seq (.reg [⟨(some 5),(.mv (.c (.sl 0 true []))),0,none⟩] none) (.seq (.ext 0 [0,15,16,17,18,19,20,21,22,23,24,7,25,26,5,6,28,27,29,30,4,2]) (.seq (.reg [⟨(some 31),(.mv (.t 5)),0,none⟩,⟨(some 32),(.call (.c (.fn 56)) [(.t 31)]),0,none⟩] none) (.seq (.seq (.reg [⟨(some 33),(.mv (.t 5)),0,none⟩,⟨(some 34),(.len 1 (.t 33)),0,none⟩,⟨(some 35),(.mv (.c (.int .i64 0))),0,none⟩] none) (.block 2 (.loop [35,34,33,4,0,2] (.seq (.reg [⟨(some 36),(.bin .num .lss (.t 35) (.t 34)),0,none⟩] none) (.seq (.cond (.t 36) .skip (.exit 2)) (.seq (.block 3 (.seq (.reg [⟨(some 37),(.iaddr 1 (.t 33) (.t 35)),0,none⟩,⟨(some 38),(.load false [.str] (.t 37)),0,none⟩,⟨(some 9),(.mv (.t 38)),0,none⟩] none) (.reg [⟨(some 39),(.faddr 1 (.t 4)),0,none⟩,⟨(some 40),(.load false [(.sl 2)] (.t 39)),0,none⟩,⟨(some 41),(.mv (.t 9)),0,none⟩,⟨(some 42),(.mv (.t 0)),0,none⟩,⟨(some 43),(.nilchk (.t 42)),0,none⟩,⟨(some 44),(.faddr 1 (.t 43)),0,none⟩,⟨(some 45),(.load false [.any] (.t 44)),0,none⟩,⟨(some 46),(.mv (.t 9)),0,none⟩,⟨(some 47),(.lookup true (.int .i64) (.int .i64 0) false (.t 45) (.t 46)),0,none⟩,⟨(some 48),(.build [(.str []),(.int .i64 0)] [(0,(1,(.t 41))),(1,(1,(.t 47)))]),0,none⟩,⟨(some 49),(.bslice 80 2 1 (.agg [(.str []),(.int .i64 0)]) [(0,(.t 48))]),0,none⟩,⟨(some 50),(.append 80 2 24 (.t 40) (.t 49)),1,none⟩,⟨(some 51),(.faddr 1 (.t 4)),2,none⟩,⟨none,(.store 1 (.t 51) (.t 50)),2,none⟩] (some [[],[0],[],[],[3],[4,3],[5,4,3],[],[6,7,5,4,3],[2,8,6,7,5,4,3],[9,2,8,6,7,5,4,3],[1,10,0,9,2,8,6,7,5,4,3],[0,1,2,3,4,5,6,7,8,9,10,11],[12,11,0,1,2,3,4,5,6,7,8,9,10]])))) (.reg [⟨(some 52),(.bin .num .add (.t 35) (.c (.int .i64 1))),0,none⟩,⟨(some 35),(.mv (.t 52)),0,none⟩] none))))))) (.seq (.seq (.reg [⟨(some 53),(.load true [(.int .i64),(.sl 2)] (.t 4)),0,none⟩,⟨(some 54),(.call (.c (.fn 41)) [(.t 53)]),0,none⟩,⟨(some 55),(.un .not (.t 54)),2,none⟩] none) (.cond (.t 55) (.seq (.reg [⟨(some 56),(.build [(.int .i64 0),(.sl 0 true [])] []),0,none⟩,⟨none,(.store 2 (.t 2) (.t 56)),0,none⟩,⟨(some 3),(.mv (.c (.int .i64 3))),0,none⟩] none) .ret) .skip)) (.seq (.reg [⟨(some 57),(.load true [(.int .i64),(.sl 2)] (.t 4)),0,none⟩,⟨none,(.store 2 (.t 2) (.t 57)),0,none⟩,⟨(some 3),(.mv (.c (.int .i64 0))),0,none⟩] none) .ret))))))))
def Y0:List IRes:=[(.cell true 2 2),(.tmp 3)]
abbrev b2h:Nat:=58
def Xa:ZG:=Xo [(56,.own Y8 WB),(41,.pure (preT (fun x:Lin×Unit=>ZJ x.1)) (Zo (fun x:Lin×Unit=>Zm x.1)))]
theorem c0p{G:AV×List AObj×List AObj->Prop}(E:Xt)(n:Int)(m:List (Str×Int))(h:E 0 ⟨Ws 58 0 [(0,(.ptr 0 0)),(2,(.ptr 2 0)),(4,(.ptr 3 0)),(5,(.pv (.sl 0 true []))),(6,.undef),(7,.undef),(15,.undef),(16,.undef),(17,.undef),(18,.undef),(19,.undef),(20,.undef),(21,.undef),(22,.undef),(23,.undef),(24,.undef),(25,.undef),(26,.undef),(27,.undef),(28,.undef),(29,.undef),(30,.undef)],[(.obj (.box [(.pv (.int .i64 n)),(.map 1)])),(.obj (.map (Zj m))),(.obj (.box [(.pv (.int .i64 0)),(.pv (.sl 0 true []))])),(.obj (.box [(.pv (.int .i64 n)),(.pv (.sl 0 true []))]))]⟩ (fun x S'=>OH Xa E 2 (Zk 2 Y0 G) YV 0 x S')):Yk Xa E 2 (Zk 2 Y0 G) (.inl YV) [] (ZK 58 [.ptr 0 0] [.box [.pv (.int .i64 n),.map 1],.map (Zj m)]):=Yk.mo (.nil) h (by kernel_rfl)
-- IMPOSSIBLE
theorem a5r{G:AV×List AObj×List AObj->Prop}(E:Xt)(n:Int)(m:List (Str×Int))(i:Int)(h:if (decide (i<0))=true then(decide (0<=i)&&decide (Int.toNat i<List.length ([]:List PV))&&0==1)=true∧(False)else(∃ y0:Bool,AV.pv (Zo (fun(x:Lin×Unit)=>Zm x.1) [(.agg [(.int .i64 n),(.sl 0 true [])])])=AV.pv (enc y0)∧(if (!y0)=true then G (((.tup [(.pv (.agg [(.int .i64 0),(.sl 0 true [])])),(.pv (.int .i64 3))]),([(.box [(.pv (.int .i64 n)),(.map 1)]),(.map (Zj m))],[])))else(G (((.tup [(.pv (.agg [(.int .i64 n),(.sl 0 true [])])),(.pv (.int .i64 0))]),([(.box [(.pv (.int .i64 n)),(.map 1)]),(.map (Zj m))],[]))))))):PG Xa E 2 (Zk 2 Y0 G) YV 0 58 [(0,.ptr 0 0),(2,.ptr 2 0),(4,.ptr 3 0),(33,.pv (.sl 0 true [])),(34,.pv (.int .i64 0)),(35,.pv (.int .i64 i))] [.obj (.box [.pv (.int .i64 n),.map 1]),.obj (.map (Zj m)),.obj (.box [.pv (.int .i64 0),.pv (.sl 0 true [])]),.obj (.box [.pv (.int .i64 n),.pv (.sl 0 true [])])]:=Yk.mo (.lit (.ask (.req (.keep (.lit (.nil)))) (.lit (.abs (Bool) (fun YY=>AV.pv (enc YY)) (.ask (.nil) (.nil)))))) h (by kernel_rfl)
theorem b2c{G:AV×List AObj×List AObj->Prop}(E:Xt)(n:Int)(m:List (Str×Int))(l:Nat)(xs:List (List UInt8))(i:Int)(h:if (decide (i<(↑l:Int)))=true then(decide (0<=i)&&decide (0+Int.toNat i<l)&&List.length (List.map PV.str xs)==l)=true∧((List.length (List.map PV.str xs)==l&&decide (0+Int.toNat i<List.length (List.map PV.str xs)))=true∧((decide (0+List.length [Sh.str]<=List.length (PV.cells (List.getD (List.map PV.str xs) (0+Int.toNat i) default)))&&KR (PV.cells (List.getD (List.map PV.str xs) (0+Int.toNat i) default)) 0 [Sh.str])=true∧((Va (Sh.co Sh.str (List.getD (PV.cells (List.getD (List.map PV.str xs) (0+Int.toNat i) default)) 0 default)) (Zj m)&&Sh.fit (Sh.int .i64) (ZP (Sh.co Sh.str (List.getD (PV.cells (List.getD (List.map PV.str xs) (0+Int.toNat i) default)) 0 default)) (PV.int .i64 0) (Zj m)))=true∧(PG Xa E 2 (Zk 2 Y0 G) YV 0 58 [(0,(.ptr 0 0)),(2,(.ptr 2 0)),(4,(.ptr 3 0)),(33,(.row 4 l 0 l)),(34,(.pv (.int .i64 (↑l:Int)))),(35,(.pv (.int .i64 (IntKind.wrap IntKind.i64 (i+1)))))] [(.obj (.box [(.pv (.int .i64 n)),(.map 1)])),(.obj (.map (Zj m))),(.obj (.box [(.pv (.int .i64 0)),(.pv (.sl 0 true []))])),(.obj (.box [(.pv (.int .i64 n)),(.row 5 1 0 1)])),(.obj (.row false 9 1 (List.map PV.str xs))),(.obj (.row false 80 2 [(.agg [(.str (PV.asStr (List.getD (PV.cells (List.getD (List.map PV.str xs) (0+Int.toNat i) default)) 0 default))),(.int .i64 (PV.asInt (ZP (Sh.co Sh.str (List.getD (PV.cells (List.getD (List.map PV.str xs) (0+Int.toNat i) default)) 0 default)) (PV.int .i64 0) (Zj m))))])]))]))))else(∃ y0:Bool,AV.pv (Zo (fun(x:Lin×Unit)=>Zm x.1) [(.agg [(.int .i64 n),(.sl 0 true [])])])=AV.pv (enc y0)∧(if (!y0)=true then G (((.tup [(.pv (.agg [(.int .i64 0),(.sl 0 true [])])),(.pv (.int .i64 3))]),([(.box [(.pv (.int .i64 n)),(.map 1)]),(.map (Zj m))],[])))else(G (((.tup [(.pv (.agg [(.int .i64 n),(.sl 0 true [])])),(.pv (.int .i64 0))]),([(.box [(.pv (.int .i64 n)),(.map 1)]),(.map (Zj m))],[]))))))):PG Xa E 2 (Zk 2 Y0 G) YV 0 58 [(0,.ptr 0 0),(2,.ptr 2 0),(4,.ptr 3 0),(33,.row 4 l 0 l),(34,.pv (.int .i64 l)),(35,.pv (.int .i64 i))] [.obj (.box [.pv (.int .i64 n),.map 1]),.obj (.map (Zj m)),.obj (.box [.pv (.int .i64 0),.pv (.sl 0 true [])]),.obj (.box [.pv (.int .i64 n),.pv (.sl 0 true [])]),.obj (.row false 9 1 (xs.map .str))]:=Yk.mo (.lit (.ask (.req (.keep (.req (.req (.req (.keep (.lit (.lit (.lit (.lit (.lit (.lit (.nil))))))))))))) (.lit (.abs (Bool) (fun YY=>AV.pv (enc YY)) (.ask (.nil) (.nil)))))) h (by kernel_rfl)
theorem Mt{G:AV×List AObj×List AObj->Prop}(E:Xt)(n:Int)(m:List (Str×Int))(l:Nat)(xs:List (List UInt8))(i:Int)(q:Nat)(ts:List Coef)(h:if (decide (i<(↑l:Int)))=true then(decide (0<=i)&&decide (0+Int.toNat i<l)&&List.length (List.map PV.str xs)==l)=true∧((List.length (List.map PV.str xs)==l&&decide (0+Int.toNat i<List.length (List.map PV.str xs)))=true∧((decide (0+List.length [Sh.str]<=List.length (PV.cells (List.getD (List.map PV.str xs) (0+Int.toNat i) default)))&&KR (PV.cells (List.getD (List.map PV.str xs) (0+Int.toNat i) default)) 0 [Sh.str])=true∧((Va (Sh.co Sh.str (List.getD (PV.cells (List.getD (List.map PV.str xs) (0+Int.toNat i) default)) 0 default)) (Zj m)&&Sh.fit (Sh.int .i64) (ZP (Sh.co Sh.str (List.getD (PV.cells (List.getD (List.map PV.str xs) (0+Int.toNat i) default)) 0 default)) (PV.int .i64 0) (Zj m)))=true∧((List.length (List.map enc ts)==q&&q==q&&decide ((q+List.length (List.drop 0 (List.take 1 [PV.agg [Sh.co Sh.str (List.getD (PV.cells (List.getD (List.map PV.str xs) (0+Int.toNat i) default)) 0 default),if false=true then PV.tup [Sh.co (Sh.int .i64) (ZP (Sh.co Sh.str (List.getD (PV.cells (List.getD (List.map PV.str xs) (0+Int.toNat i) default)) 0 default)) (PV.int .i64 0) (Zj m)),PV.bool (Xm (Sh.co Sh.str (List.getD (PV.cells (List.getD (List.map PV.str xs) (0+Int.toNat i) default)) 0 default)) (Zj m))]else Sh.co (Sh.int .i64) (ZP (Sh.co Sh.str (List.getD (PV.cells (List.getD (List.map PV.str xs) (0+Int.toNat i) default)) 0 default)) (PV.int .i64 0) (Zj m))]])))*24<=1099511627776)&&decide (q+List.length (List.drop 0 (List.take 1 [PV.agg [Sh.co Sh.str (List.getD (PV.cells (List.getD (List.map PV.str xs) (0+Int.toNat i) default)) 0 default),if false=true then PV.tup [Sh.co (Sh.int .i64) (ZP (Sh.co Sh.str (List.getD (PV.cells (List.getD (List.map PV.str xs) (0+Int.toNat i) default)) 0 default)) (PV.int .i64 0) (Zj m)),PV.bool (Xm (Sh.co Sh.str (List.getD (PV.cells (List.getD (List.map PV.str xs) (0+Int.toNat i) default)) 0 default)) (Zj m))]else Sh.co (Sh.int .i64) (ZP (Sh.co Sh.str (List.getD (PV.cells (List.getD (List.map PV.str xs) (0+Int.toNat i) default)) 0 default)) (PV.int .i64 0) (Zj m))]]))<=1099511627776))=true∧(PG Xa E 2 (Zk 2 Y0 G) YV 0 58 [(0,(.ptr 0 0)),(2,(.ptr 2 0)),(4,(.ptr 3 0)),(33,(.row 4 l 0 l)),(34,(.pv (.int .i64 (↑l:Int)))),(35,(.pv (.int .i64 (IntKind.wrap IntKind.i64 (i+1)))))] [(.obj (.box [(.pv (.int .i64 n)),(.map 1)])),(.obj (.map (Zj m))),(.obj (.box [(.pv (.int .i64 0)),(.pv (.sl 0 true []))])),(.obj (.box [(.pv (.int .i64 n)),(.row 5 (q+List.length (List.drop 0 (List.take 1 [PV.agg [Sh.co Sh.str (List.getD (PV.cells (List.getD (List.map PV.str xs) (0+Int.toNat i) default)) 0 default),if false=true then PV.tup [Sh.co (Sh.int .i64) (ZP (Sh.co Sh.str (List.getD (PV.cells (List.getD (List.map PV.str xs) (0+Int.toNat i) default)) 0 default)) (PV.int .i64 0) (Zj m)),PV.bool (Xm (Sh.co Sh.str (List.getD (PV.cells (List.getD (List.map PV.str xs) (0+Int.toNat i) default)) 0 default)) (Zj m))]else Sh.co (Sh.int .i64) (ZP (Sh.co Sh.str (List.getD (PV.cells (List.getD (List.map PV.str xs) (0+Int.toNat i) default)) 0 default)) (PV.int .i64 0) (Zj m))]]))) 0 (q+List.length (List.drop 0 (List.take 1 [PV.agg [Sh.co Sh.str (List.getD (PV.cells (List.getD (List.map PV.str xs) (0+Int.toNat i) default)) 0 default),if false=true then PV.tup [Sh.co (Sh.int .i64) (ZP (Sh.co Sh.str (List.getD (PV.cells (List.getD (List.map PV.str xs) (0+Int.toNat i) default)) 0 default)) (PV.int .i64 0) (Zj m)),PV.bool (Xm (Sh.co Sh.str (List.getD (PV.cells (List.getD (List.map PV.str xs) (0+Int.toNat i) default)) 0 default)) (Zj m))]else Sh.co (Sh.int .i64) (ZP (Sh.co Sh.str (List.getD (PV.cells (List.getD (List.map PV.str xs) (0+Int.toNat i) default)) 0 default)) (PV.int .i64 0) (Zj m))]]))))])),(.obj (.row false 9 1 (List.map PV.str xs))),(.obj (.row false 80 2 (List.map enc ts++List.drop 0 (List.take 1 [PV.agg [Sh.co Sh.str (List.getD (PV.cells (List.getD (List.map PV.str xs) (0+Int.toNat i) default)) 0 default),if false=true then PV.tup [Sh.co (Sh.int .i64) (ZP (Sh.co Sh.str (List.getD (PV.cells (List.getD (List.map PV.str xs) (0+Int.toNat i) default)) 0 default)) (PV.int .i64 0) (Zj m)),PV.bool (Xm (Sh.co Sh.str (List.getD (PV.cells (List.getD (List.map PV.str xs) (0+Int.toNat i) default)) 0 default)) (Zj m))]else Sh.co (Sh.int .i64) (ZP (Sh.co Sh.str (List.getD (PV.cells (List.getD (List.map PV.str xs) (0+Int.toNat i) default)) 0 default)) (PV.int .i64 0) (Zj m))]]))))])))))else((List.length (List.map enc ts)==q)=true∧((Go.Pl.preT (fun(x:Lin×Unit)=>ZJ x.1) [(.agg [(.int .i64 n),(.sl 2 false (List.drop 0 (List.take q (List.map enc ts))))])])=true∧(∃ y0:Bool,AV.pv (Zo (fun(x:Lin×Unit)=>Zm x.1) [(.agg [(.int .i64 n),(.sl 2 false (List.drop 0 (List.take q (List.map enc ts))))])])=AV.pv (enc y0)∧(if (!y0)=true then G (((.tup [(.pv (.agg [(.int .i64 0),(.sl 0 true [])])),(.pv (.int .i64 3))]),([(.box [(.pv (.int .i64 n)),(.map 1)]),(.map (Zj m))],[])))else(G (((.tup [(.agg [(.pv (.int .i64 n)),(.row 2 q 0 q)]),(.pv (.int .i64 0))]),([(.box [(.pv (.int .i64 n)),(.map 1)]),(.map (Zj m))],[(.row true 80 2 (List.map enc ts))]))))))))):PG Xa E 2 (Zk 2 Y0 G) YV 0 58 [(0,.ptr 0 0),(2,.ptr 2 0),(4,.ptr 3 0),(33,.row 4 l 0 l),(34,.pv (.int .i64 l)),(35,.pv (.int .i64 i))] [.obj (.box [.pv (.int .i64 n),.map 1]),.obj (.map (Zj m)),.obj (.box [.pv (.int .i64 0),.pv (.sl 0 true [])]),.obj (.box [.pv (.int .i64 n),.row 5 q 0 q]),.obj (.row false 9 1 (xs.map .str)),.obj (.row false 80 2 (ts.map enc))]:=Yk.mo (.lit (.ask (.req (.keep (.req (.req (.req (.keep (.lit (.lit (.req (.lit (.nil))))))))))) (.req (.req (.abs (Bool) (fun YY=>AV.pv (enc YY)) (.ask (.nil) (.nil))))))) h (by kernel_rfl)
theorem a5y{G:AV×List AObj×List AObj->Prop}(E:Xt)(n:Int)(m:List (Str×Int))(h:PG Xa E 2 (Zk 2 Y0 G) YV 0 58 [(0,(.ptr 0 0)),(2,(.ptr 2 0)),(4,(.ptr 3 0)),(33,(.pv (.sl 0 true []))),(34,(.pv (.int .i64 0))),(35,(.pv (.int .i64 0)))] [(.obj (.box [(.pv (.int .i64 n)),(.map 1)])),(.obj (.map (Zj m))),(.obj (.box [(.pv (.int .i64 0)),(.pv (.sl 0 true []))])),(.obj (.box [(.pv (.int .i64 n)),(.pv (.sl 0 true []))]))]):OH Xa E 2 (Zk 2 Y0 G) YV 0 .normal ⟨Ws 58 0 [(0,.ptr 0 0),(2,.ptr 2 0),(4,.ptr 3 0),(5,.pv (.sl 0 true [])),(18,.map 1),(19,.ptr 4 0)],[.obj (.box [.pv (.int .i64 n),.map 1]),.obj (.map (Zj m)),.obj (.box [.pv (.int .i64 0),.pv (.sl 0 true [])]),.obj (.box [.pv (.int .i64 n),.pv (.sl 0 true [])]),.dead]⟩:=Yk.mo (.lit (.keep (.nil))) h (by kernel_rfl)
theorem b1c{G:AV×List AObj×List AObj->Prop}(E:Xt)(n:Int)(m:List (Str×Int))(l:Nat)(xs:List (List UInt8))(h:(Y8 [(.row 0 l 0 l)] [(.row false 9 1 (List.map PV.str xs))])=true∧(PG Xa E 2 (Zk 2 Y0 G) YV 0 58 [(0,(.ptr 0 0)),(2,(.ptr 2 0)),(4,(.ptr 3 0)),(33,(.row 4 l 0 l)),(34,(.pv (.int .i64 (↑(l - 0):Int)))),(35,(.pv (.int .i64 0)))] [(.obj (.box [(.pv (.int .i64 n)),(.map 1)])),(.obj (.map (Zj m))),(.obj (.box [(.pv (.int .i64 0)),(.pv (.sl 0 true []))])),(.obj (.box [(.pv (.int .i64 n)),(.pv (.sl 0 true []))])),(.obj (.row false 9 1 (List.map PV.str (YQ (List.map Dy (List.map PV.str xs))))))])):OH Xa E 2 (Zk 2 Y0 G) YV 0 .normal ⟨Ws 58 0 [(0,.ptr 0 0),(2,.ptr 2 0),(4,.ptr 3 0),(5,.row 5 l 0 l),(18,.map 1),(19,.ptr 4 0)],[.obj (.box [.pv (.int .i64 n),.map 1]),.obj (.map (Zj m)),.obj (.box [.pv (.int .i64 0),.pv (.sl 0 true [])]),.obj (.box [.pv (.int .i64 n),.pv (.sl 0 true [])]),.dead,.obj (.row false 9 1 (xs.map .str))]⟩:=Yk.mo (.req (.keep (.nil))) h (by kernel_rfl)
end Go.Pl

namespace Go.Pl
open Go.RowKit
open Enc (enc dec is)
open EncL (encL decL isL)
def ZE(m:List (Str×Int))(xs:List (List UInt8)):List Coef:=xs.map fun s=>⟨⟨s⟩,Um m s⟩
def J5(n:Int)(m:List (Str×Int))(l:List Coef):AV×List AObj×List AObj:=
 if Zm ⟨n,l⟩then
  if l.isEmpty then(.tup [.pv (.agg [.int .i64 n,.sl 0 true []]),.pv (.int .i64 0)],[.box [.pv (.int .i64 n),.map 1],.map (Zj m)],[])
  else(.tup [.agg [.pv (.int .i64 n),.row 2 l.length 0 l.length],.pv (.int .i64 0)],[.box [.pv (.int .i64 n),.map 1],.map (Zj m)],[.row true 80 2 (l.map enc)])
 else(.tup [.pv (.agg [.int .i64 0,.sl 0 true []]),.pv (.int .i64 3)],[.box [.pv (.int .i64 n),.map 1],.map (Zj m)],[])
theorem Mg(n:Int)(m:List (Str×Int)){xs:List (List UInt8)}(hx:xs.length<=1000000)(hsx : ∀ x∈xs,x.length<=1000000):ZJ ⟨n,ZE m xs⟩=true:=by
 simp only[ZJ,ZL,ZE,List.length_map,Bool.and_eq_true,decide_eq_true_eq,List.all_eq_true,List.mem_map]
 refine⟨by omega,?_⟩
 rintro t ⟨x,hxm,rfl⟩
 exact hsx x hxm
theorem a8d{E:Xt}(n:Int)(m:List (Str×Int))(xs:List (List UInt8))(hx:xs.length<=1000000)(hsx : ∀ x∈xs,x.length<=1000000): ∀ (j k:Nat),j+k=xs.length->0<k ->
  PG Xa E 2 (Zk 2 Y0 fun r=>r=J5 n m (ZE m xs)) YV 0 58 [(0,.ptr 0 0),(2,.ptr 2 0),(4,.ptr 3 0),(33,.row 4 xs.length 0 xs.length),(34,.pv (.int .i64 xs.length)),(35,.pv (.int .i64 k))]
   [.obj (.box [.pv (.int .i64 n),.map 1]),.obj (.map (Zj m)),.obj (.box [.pv (.int .i64 0),.pv (.sl 0 true [])]),.obj (.box [.pv (.int .i64 n),.row 5 k 0 k]),.obj (.row false 9 1 (xs.map .str)),.obj (.row false 80 2 ((ZE m (xs.take k)).map enc))]:=by
 intro j
 induction j with
 | zero=>
  intro k hk h0
  obtain rfl:k=xs.length:=by omega
  refine Mt E n m xs.length xs xs.length xs.length (ZE m (xs.take xs.length)) ?_
  rw[if_neg (by simp)]
  have e1:ZE m (xs.take xs.length)=ZE m xs:=by rw[List.take_length]
  rw[e1]
  have e2:List.drop 0 (List.take xs.length (List.map (enc:Coef->PV) (ZE m xs)))=(ZE m xs).map enc:=by rw[List.drop_zero,List.take_of_length_le (by simp[ZE])]
  rw[e2]
  refine⟨by simp[ZE],Zt (⟨n,ZE m xs⟩,()) rfl (Mg n m hx hsx),Zz (⟨n,ZE m xs⟩,()) rfl ?_⟩
  have hne:(ZE m xs).isEmpty=false:=by cases xs <;> simp[ZE]at h0 ⊢
  by_cases hv:Zm ⟨n,ZE m xs⟩=true
  ·rw[if_neg (by simp[hv])]
   unfold J5
   rw[if_pos hv,hne]
   simp[ZE]
  ·rw[if_pos (by simpa using hv)]
   simp[J5,hv]
 | succ j ih=>
  intro k hk h0
  have hlt:k<xs.length:=by omega
  refine Mt E n m xs.length xs k k (ZE m (xs.take k)) ?_
  rw[if_pos (by simp;omega)]
  have eg:List.getD (List.map PV.str xs) (0+Int.toNat (k:Int)) default = .str xs[k]:=by simp[List.getD,hlt]
  rw[eg]
  have ec:Sh.co Sh.str (List.getD (PV.cells (.str xs[k])) 0 default) = .str xs[k]:=rfl
  rw[ec,Vl]
  refine⟨by simp;omega,by simp;omega,rfl,by rw[Vj];rfl,?_,?_⟩
  ·simp[ZE];omega
  ·have h:=ih (k+1) (by omega) (by omega)
   have et:xs.take (k+1)=xs.take k++[xs[k]]:=by rw[List.take_add_one,List.getElem?_eq_getElem hlt];rfl
   rw[et]at h
   rw[next (by omega)]
   simp only[ZE,List.map_append,List.map_cons,List.map_nil]at h ⊢
   exact h
def NL:MapParts:=⟨[⟨(some 15),(.mv (.t 0)),0,none⟩,⟨(some 16),(.nilchk (.t 15)),0,none⟩,⟨(some 17),(.faddr 1 (.t 16)),0,none⟩,⟨(some 18),(.load false [.any] (.t 17)),0,none⟩],.t 18,19,20,21,22,1,[⟨(some 23),(.extract (.t 22) 0),0,none⟩,⟨(some 24),(.extract (.t 22) 1),0,none⟩,⟨(some 6),(.mv (.t 23)),0,none⟩,⟨(some 7),(.mv (.t 24)),0,none⟩],WX⟩
def Pb:Xt:=fun nn st q=>nn=0∧b7z Xa 2 NL st q
def kz(vis:List (PV×PV)):List (List UInt8):=vis.filterMap fun p=>match p with|(.str s,.int _ c)=>if c=0 then none else some s|_=>none
def X7(m:List (Str×Int)):List (List UInt8):=YQ (kz (Zj m))
def c0y(n:Int):ZF:=[.obj (.box [.pv (.int .i64 n),.map 1]),.dead,.obj (.box [.pv (.int .i64 0),.pv (.sl 0 true [])]),.obj (.box [.pv (.int .i64 n),.pv (.sl 0 true [])]),.dead]
def RD(x:AV):List AV:=Ws 58 0 [(0,.ptr 0 0),(2,.ptr 2 0),(4,.ptr 3 0),(5,x),(18,.map 1),(19,.ptr 4 0)]
def b8t(n:Int)(vis:List (PV×PV))(s:St):Prop:=
 (kz vis=[]∧s=⟨RD (.pv (.sl 0 true [])),c0y n⟩)∨(kz vis≠[]∧s=⟨RD (.row 5 (kz vis).length 0 (kz vis).length),c0y n++[.obj (.row false 9 1 ((kz vis).map .str))]⟩)
theorem BB{a b:List (List UInt8)}(h:a.Perm b):YQ a=YQ b:=by
 have tr : ∀ x y z:List UInt8,decide (x<=y)=true->decide (y<=z)=true->decide (x<=z)=true:=fun x y z h k=>by simp only[decide_eq_true_eq]at *;exact List.le_trans h k
 have to : ∀ x y:List UInt8,(decide (x<=y)||decide (y<=x))=true:=fun x y=>by simp only[Bool.or_eq_true,decide_eq_true_eq];exact List.le_total x y
 refine List.Perm.eq_of_pairwise (le:=fun x y=>decide (x<=y)=true) (fun x y _ _ h1 h2=> ?_) (List.pairwise_mergeSort tr to a) (List.pairwise_mergeSort tr to b) (((List.mergeSort_perm a _).trans h).trans (List.mergeSort_perm b _).symm)
 simp only[decide_eq_true_eq]at h1 h2
 exact List.le_antisymm h1 h2
theorem EM(n:Int)(vis:List (PV×PV))(s:List UInt8)(c:Int)(st:St)(hl:(kz vis).length<1000000)(h:b8t n vis st):
  ∃ s2,UV Xa st.heap.length NL.psE (grow ⟨((st.env.set 20 .junk).set 21 .junk).set 22 (.pv (.tup [.str s,.int .i64 c])),st.heap⟩ (news NL.psE))=some s2∧ ∃ F',(∀ x,¬ F' x) ∧
   Yk Xa (fun n' S' _=>n'=99∧b8t n (vis++[(.str s,.int .i64 c)]) S') st.heap.length F' (.inl WX) [.blk 1,.seq (.ext 99 [0,2,4,5,18,19])] s2:=by
 have hno : ∀ k,∀ x,¬ Zk k Ui (fun _=>False) x:=by rintro k x ⟨r,_,h⟩;exact h
 have ek:kz (vis++[(.str s,.int .i64 c)])=kz vis++(if c=0 then []else [s]):=by
  unfold kz
  rw[List.filterMap_append]
  by_cases hc:c=0 <;> simp[hc]
 rcases h with ⟨h1,rfl⟩|⟨h1,rfl⟩
 ·refine⟨_,by kernel_rfl,_,hno 5,a5s (G:=fun _=>False) _ n s c ?_⟩
  by_cases hc:c=0
  ·rw[if_neg (by simp[hc])]
   refine⟨rfl,.inl ⟨by rw[ek,h1];simp[hc],rfl⟩⟩
  ·rw[if_pos (by simpa using hc)]
   refine⟨rfl,.inr ⟨by rw[ek,h1];simp[hc],?_⟩⟩
   rw[ek,h1]
   simp[hc]
   exact⟨rfl,rfl⟩
 ·refine⟨_,by kernel_rfl,_,hno 6,a7u (G:=fun _=>False) _ n s c (kz vis).length (kz vis) ?_⟩
  by_cases hc:c=0
  ·rw[if_neg (by simp[hc])]
   refine⟨rfl,.inr ⟨by rw[ek];simp[hc,h1],?_⟩⟩
   rw[ek]
   simp[hc]
   exact⟨rfl,rfl⟩
  ·rw[if_pos (by simpa using hc)]
   refine⟨by simp;omega,rfl,.inr ⟨by rw[ek];simp[hc],?_⟩⟩
   rw[ek]
   simp[hc]
   exact⟨rfl,rfl⟩
theorem a0p{E:Xt}(n:Int)(m:List (Str×Int))(xs:List (List UInt8))(hx:xs.length<=1000000)(hsx : ∀ x∈xs,x.length<=1000000)(h0:0<xs.length):
  PG Xa E 2 (Zk 2 Y0 fun r=>r=J5 n m (ZE m xs)) YV 0 58 [(0,.ptr 0 0),(2,.ptr 2 0),(4,.ptr 3 0),(33,.row 4 xs.length 0 xs.length),(34,.pv (.int .i64 xs.length)),(35,.pv (.int .i64 0))]
   [.obj (.box [.pv (.int .i64 n),.map 1]),.obj (.map (Zj m)),.obj (.box [.pv (.int .i64 0),.pv (.sl 0 true [])]),.obj (.box [.pv (.int .i64 n),.pv (.sl 0 true [])]),.obj (.row false 9 1 (xs.map .str))]:=by
 refine b2c E n m xs.length xs 0 ?_
 rw[if_pos (by simp;omega)]
 have eg:List.getD (List.map PV.str xs) (0+Int.toNat (0:Int)) default = .str xs[0]:=by simp[List.getD,h0]
 rw[eg]
 have ec:Sh.co Sh.str (List.getD (PV.cells (.str xs[0])) 0 default) = .str xs[0]:=rfl
 rw[ec,Vl]
 refine⟨by simp;omega,by simp;omega,rfl,by rw[Vj];rfl,?_⟩
 have h:=a8d (E:=E) n m xs hx hsx (xs.length - 1) 1 (by omega) (by omega)
 have et:xs.take 1=[xs[0]]:=by cases xs <;> simp at h0 ⊢
 rw[et]at h
 exact h
theorem a9l(n:Int)(m:List (Str×Int))(hm:m.length<1000000)(hkm : ∀ x∈X7 m,x.length<=1000000):
  KV Xa Pb 2 (Zk 2 Y0 fun r=>r=J5 n m (ZE m (X7 m))) YV [] (ZK 58 [.ptr 0 0] [.box [.pv (.int .i64 n),.map 1],.map (Zj m)]):=by
 refine c0p Pb n m ?_
 have elen : ∀ x,(RD x).length=58:=fun x=>rfl
 refine⟨rfl,⟨((((Ws 58 0 [(0,.ptr 0 0),(2,.ptr 2 0),(4,.ptr 3 0),(5,.pv (.sl 0 true [])),(6,.undef),(7,.undef),(15,.undef),(16,.undef),(17,.undef),(18,.undef),(19,.undef),(20,.undef),(21,.undef),(22,.undef),(23,.undef),(24,.undef),(25,.undef),(26,.undef),(27,.undef),(28,.undef),(29,.undef),(30,.undef)]).set 15 (.ptr 0 0)).set 16 (.ptr 0 0)).set 17 (.ptr 0 1)).set 18 (.map 1),
   [.obj (.box [.pv (.int .i64 n),.map 1]),.obj (.map (Zj m)),.obj (.box [.pv (.int .i64 0),.pv (.sl 0 true [])]),.obj (.box [.pv (.int .i64 n),.pv (.sl 0 true [])])]⟩,⟨RD (.pv (.sl 0 true [])),c0y n⟩,1,4,18,1,Zj m,[0,2,4,5,18,19],[0,2,4,5,18,19],b8t n,by kernel_rfl,rfl,rfl,by kernel_rfl,rfl,by decide,rfl,.inl ⟨rfl,rfl⟩,?_,?_,?_⟩
 ·intro vis s h
  rcases h with ⟨_,rfl⟩|⟨_,rfl⟩
  ·exact⟨⟨rfl,by show 20<_;rw[elen];omega,by show 21<_;rw[elen];omega,by show 22<_;rw[elen];omega⟩,rfl⟩
  ·exact⟨⟨rfl,by show 20<_;rw[elen];omega,by show 21<_;rw[elen];omega,by show 22<_;rw[elen];omega⟩,rfl⟩
 ·intro vis kv s rest hp hI
  have hin:kv∈Zj m:=hp.mem_iff.2 (by simp)
  obtain⟨p,_,rfl⟩:=List.mem_map.1 hin
  have hl:=hp.length_eq
  simp[Zj]at hl
  have hk:(kz vis).length<=vis.length:=List.length_filterMap_le _ _
  exact EM n vis p.1.s p.2 s (by omega) hI
 ·intro vis s hp hI
  have hpk:(kz vis).Perm (kz (Zj m)):=hp.filterMap _
  have hs:YQ (kz vis)=X7 m:=BB hpk
  have hkl:(kz vis).length<=1000000:=by
   have h1:(kz vis).length<=vis.length:=List.length_filterMap_le _ _
   have h2:=hp.length_eq
   simp[Zj]at h2
   omega
  rcases hI with ⟨h1,rfl⟩|⟨h1,rfl⟩
  ·refine a5y Pb n m ?_
   have hn:X7 m=[]:=by rw[<- hs,h1];simp[YQ]
   rw[hn]
   refine a5r Pb n m 0 ?_
   rw[if_neg (by simp)]
   refine QA (⟨n,[]⟩,()) (by simp) ?_
   by_cases hv:Zm ⟨n,[]⟩=true
   ·rw[if_neg (by simp[hv])]
    simp[J5,ZE,hv]
   ·rw[if_pos (by simpa using hv)]
    simp[J5,ZE,hv]
  ·refine b1c Pb n m (kz vis).length (kz vis) ?_
   have e1:List.map Dy (List.map PV.str (kz vis))=kz vis:=by rw[List.map_map];exact List.map_id _
   rw[e1,hs]
   have e2:(X7 m).length=(kz vis).length:=by rw[<- hs];exact(List.mergeSort_perm _ _).length_eq
   refine⟨?_,?_⟩
   ·simp[Y8,CZ]
    omega
   ·have:=a0p (E:=Pb) n m (X7 m) (by omega) hkm (by rw[e2];exact List.length_pos_iff.2 h1)
    rw[e2]at this
    simpa using this
end Go.Pl

namespace Go.Pl
open Go.RowKit
open Enc (enc dec is)
open EncL (encL decL isL)
def b8q(n:Int)(m:List (Str×Int)):AV×List AObj×List AObj:=(.tup [],[.box [.pv (.int .i64 n),.map 1],.map (Zj m)],[])
theorem a2q(n:Int)(l:Lin)(k:Int)(hl:l.t.length<=1000000): ∀ (j i:Nat) (m:List (Str×Int)),j+i=l.t.length ->
  At QZ 2 (Zk 2 Uu fun r=>r=b8q n (Xj k (l.t.drop i) m)) Us 0 39 [(0,.ptr 0 0),(2,.pv (.int .i64 k)),(20,.pv (enc l.t)),(21,.pv (.int .i64 l.t.length)),(22,.pv (.int .i64 i))] [.obj (.box [.pv (.int .i64 n),.map 1]),.obj (.map (Zj m))]:=by
 intro j
 induction j with
 | zero=>
  intro i m hi
  refine OW n m l k i ?_
  rw[if_neg (by simp;omega),List.drop_of_length_le (by omega)]
  rfl
 | succ j ih=>
  intro i m hi
  have hlt:i<l.t.length:=by omega
  refine OW n m l k i ?_
  rw[if_pos (by simp;omega)]
  refine⟨by simp[Enc.sz];omega,l.t[i],by simp[List.getD,hlt],?_⟩
  have ec:Sh.co Sh.str (List.getD (PV.cells (enc l.t[i])) 0 default) = .str l.t[i].v.s:=rfl
  rw[ec,Vl]
  have ev:PV.asInt (List.getD (PV.cells (enc l.t[i])) (0+1) default)=l.t[i].c:=rfl
  have ea:PV.asInt (.int .i64 (Um m l.t[i].v.s))=Um m l.t[i].v.s:=rfl
  rw[ev,ea]
  have eu:=Cc l.t[i].v (IntKind.i64.wrap (Um m l.t[i].v.s+IntKind.i64.wrap (k*l.t[i].c))) m
  refine⟨by rw[Vj];rfl,?_,?_⟩
  ·show(upd _ _ _).isSome=true
   exact(congrArg Option.isSome eu).trans rfl
  ·have h:=ih (i+1) (VP l.t[i].v (IntKind.i64.wrap (Um m l.t[i].v.s+IntKind.i64.wrap (k*l.t[i].c))) m) (by omega)
   rw[next (by omega)]
   have ed:l.t.drop i=l.t[i]::l.t.drop (i+1):=List.drop_eq_getElem_cons hlt
   rw[ed]
   have e2:DL (.str l.t[i].v.s) (.int .i64 (IntKind.i64.wrap (Um m l.t[i].v.s+IntKind.i64.wrap (k*l.t[i].c)))) (Zj m)=Zj (VP l.t[i].v (IntKind.i64.wrap (Um m l.t[i].v.s+IntKind.i64.wrap (k*l.t[i].c))) m):=by
    unfold DL
    rw[eu]
    rfl
   rw[<- e2]at h
   exact h
theorem b1e(n:Int)(m:List (Str×Int))(l:Lin)(k:Int)(hl:l.t.length<=1000000):
  Ze QZ 2 (Zk 2 Uu fun r=>r=b8q (IntKind.i64.wrap (n+IntKind.i64.wrap (k*l.k))) (Xj k l.t m)) Us [] (ZK 39 [.ptr 0 0,.pv (enc l),.pv (.int .i64 k)] [.box [.pv (.int .i64 n),.map 1],.map (Zj m)]):=by
 refine b9g n m l k ?_
 have h:=a2q (IntKind.i64.wrap (n+IntKind.i64.wrap (k*l.k))) l k hl l.t.length 0 m rfl
 rw[List.drop_zero]at h
 have e:List.length (List.map (enc:Coef->PV) l.t)=l.t.length:=by simp
 rw[e]
 exact h
end Go.Pl

namespace Go.Pl
open Go.RowKit
open Enc (enc dec is)
open EncL (encL decL isL)
set_option maxRecDepth 100000
end Go.Pl

namespace Go.Pl
open Go.RowKit
open Enc (enc dec is)
open EncL (encL decL isL)
end Go.Pl

namespace Go.Pl
open Go.RowKit
open Enc (enc dec is)
open EncL (encL decL isL)
set_option maxRecDepth 100000
end Go.Pl

namespace Go.Pl
open Go.RowKit
open Enc (enc dec is)
open EncL (encL decL isL)
end Go.Pl

namespace Go.Pl
open Go.RowKit
open Enc (enc dec is)
open EncL (encL decL isL)
def Z4(es:List (PV×PV)):List (Str×Int):=es.map fun p=>(⟨Dy p.1⟩,p.2.asInt)
def c3i:PV×PV->Bool
 | (.str _,.int .i64 _)=>true
 | _=>false
def Gq(es:List (PV×PV)):Bool:=es.all c3i
theorem Yt(m:List (Str×Int)):Z4 (Zj m)=m:=by
 simp only[Z4,Zj,List.map_map]
 exact List.map_id _
theorem U1(m:List (Str×Int)):Gq (Zj m)=true:=by
 simp only[Gq,Zj,List.all_map,List.all_eq_true]
 intro p _
 rfl
theorem QD: ∀ {es:List (PV×PV)},Gq es=true-> ∃ m,es=Zj m
 | [],_=>⟨[],rfl⟩
 | (a,b)::es,h=>by
  simp only[Gq,List.all_cons,Bool.and_eq_true]at h
  obtain⟨m,rfl⟩:=QD (es:=es) h.2
  match a,b,h.1 with
  | .str s,.int .i64 n,_=>exact⟨(⟨s⟩,n)::m,rfl⟩
def KX(m:List (Str×Int)):Bool:=decide (m.length<1000000)&&(Ya m).all fun x=>decide (x.length<=1000000)
def Y1:List AV->List AObj->Bool
 | [.ptr 0 0],[.box [.pv (.int .i64 n),.map 1],.map es]=>Gq es&&KX (Z4 es)
 | _,_=>false
def JO:List AV->List AObj->AV×List AObj×List AObj
 | _,[.box [.pv (.int .i64 n),.map 1],.map es]=>(.pv (enc (X9 n (Z4 es))),[.box [.pv (.int .i64 n),.map 1],.map es],[])
 | _,_=>Uy
def Vs:List AV->List AObj->Bool
 | [.ptr 0 0,.pv l,.pv (.int .i64 k)],[.box [.pv (.int .i64 n),.map 1],.map es]=>Gq es&&Jk Lin l&&decide ((dec l:Lin).t.length<=1000000)
 | _,_=>false
def c0s(n:Int)(es:List (PV×PV))(l:Lin)(k:Int):AV×List AObj×List AObj:=(.tup [],[.box [.pv (.int .i64 (Xe (n+Xe (k*l.k)))),.map 1],.map (Zj (Xj k l.t (Z4 es)))],[])
def H6:List AV->List AObj->AV×List AObj×List AObj
 | [_,.pv l,.pv (.int .i64 k)],[.box [.pv (.int .i64 n),.map 1],.map es]=>c0s n es (dec l) k
 | _,_=>Uy
def YP(a b:Lin)(k:Int):Lin×Int:=if Zm a then(if Zm b then X9 (Xe (Xe (0+Xe (1*a.k))+Xe (k*b.k))) (Xj k b.t (Xj 1 a.t []))else(⟨0,[]⟩,1))else(⟨0,[]⟩,1)
mutual
def cSm:Cert->Bool
 | .mk _ m l ks=>decide (m.length<=9223372036854775807)&&ZJ l&&decide (ks.length<=9223372036854775807)&&a0n ks
def a0n:List Cert->Bool
 | []=>true
 | c::cs=>cSm c&&a0n cs
end
mutual
theorem b9o: ∀ {c:Cert},cSm c=true->cOk c=true
 | .mk k m l ks,h=>by
  simp only[cSm,cOk,ZJ,Bool.and_eq_true]at h ⊢
  exact⟨⟨⟨h.1.1.1,h.1.1.2.1⟩,h.1.2⟩,Ob h.2⟩
theorem Ob: ∀ {cs:List Cert},a0n cs=true->a2l cs=true
 | [],_=>rfl
 | c::cs,h=>by
  simp only[a0n,a2l,Bool.and_eq_true]at h ⊢
  exact⟨b9o h.1,Ob h.2⟩
end
theorem QN{s:Str}(h:Yc s=true):s.s.length<=30:=by
 unfold Yc at h
 split at h
 ·cases h
 ·rename_i c r hs
  rw[hs]
  split at h
  ·simp only[Bool.and_eq_true,decide_eq_true_eq]at h
   have:=h.2
   simp only[List.length_cons]
   omega
  ·simp only[Bool.and_eq_true,decide_eq_true_eq]at h
   have:=h.2
   simp only[List.length_cons]
   omega
theorem WF{l:Lin}(h:Zm l=true):l.t.length<=12:=by
 simp only[Zm,Bool.and_eq_true,decide_eq_true_eq]at h
 exact h.2
theorem Wv{l:Lin}(h:Zm l=true){t:Coef}(ht:t∈l.t):Yc t.v=true∧t.c≠0∧ -1000000<=t.c∧t.c<=1000000:=by
 simp only[Zm,Bool.and_eq_true,decide_eq_true_eq,List.all_eq_true]at h
 have:=h.1.1.1 t ht
 simp only[Z8,Bool.and_eq_true,decide_eq_true_eq]at this
 exact⟨this.1.1,this.1.2,this.2⟩
theorem OP{l:Lin}(h:Zm l=true): -1000000<=l.k∧l.k<=1000000:=by
 simp only[Zm,Z8,Bool.and_eq_true,decide_eq_true_eq]at h
 exact h.1.2
theorem KC(k:Int): ∀ (l:List Coef) (m:List (Str×Int)) (x:List UInt8),x∈Ya (Xj k l m)->x∈Ya m ∨ ∃ t∈l,t.v.s=x
 | [],m,x,h=>.inl h
 | t::l,m,x,h=>by
  rw[Xj]at h
  rcases KC k l _ x h with h|⟨u,hu,rfl⟩
  ·rcases U7 t.v (IntKind.i64.wrap (Um m t.v.s+IntKind.i64.wrap (k*t.c))) m with e|⟨_,e⟩
   ·rw[e]at h;exact .inl h
   ·rw[e,List.mem_append]at h
    rcases h with h|h
    ·exact .inl h
    ·exact .inr ⟨t,by simp,(List.mem_singleton.1 h).symm⟩
  ·exact .inr ⟨u,by simp[hu],rfl⟩
end Go.Pl

namespace Go.Pl
open Go.RowKit
open Enc (enc dec is)
open EncL (encL decL isL)
theorem Jc{n:Int}(h1 : -9223372036854775808<=n)(h2:n<=9223372036854775807):Xe n=n:=Yd h1 h2
end Go.Pl

namespace Go.Pl
open Go.RowKit
open Enc (enc dec is)
open EncL (encL decL isL)
theorem b3c: ∀ args os,Vs args os=true->Ze QZ os.length (Zk os.length Uu fun r=>r=H6 args os) Us [] (ZK b6l args os):=by
 intro args os h
 unfold Vs at h
 split at h
 ·rename_i l k n es
  simp only[Bool.and_eq_true,decide_eq_true_eq]at h
  obtain⟨⟨h1,h2⟩,h3⟩:=h
  obtain⟨m,rfl⟩:=QD h1
  obtain⟨l,rfl⟩:=Vk h2
  rw[Enc.dec_enc]at h3
  have hv:H6 [.ptr 0 0,.pv (enc l),.pv (.int .i64 k)] [.box [.pv (.int .i64 n),.map 1],.map (Zj m)]=b8q (IntKind.i64.wrap (n+IntKind.i64.wrap (k*l.k))) (Xj k l.t m):=by
   show c0s n (Zj m) (dec (enc l)) k=_
   rw[Enc.dec_enc,c0s,Yt]
   rfl
  rw[hv]
  exact b1e n m l k h3
 ·cases h
theorem Re: ∀ m:List (Str×Int),kz (Zj m)=Ya (nzM m)
 | []=>rfl
 | (s,c)::m=>by
  have ih:=Re m
  simp only[kz,Zj,Ya,nzM]at ih ⊢
  by_cases h:c=0
  ·subst h
   simp[ih]
  ·simp[h,ih]
theorem Dq(m:List (Str×Int)):ZE m (X7 m)=YX m:=by
 unfold ZE X7 YX
 rw[Re]
 rfl
def U4:List AV->List AObj->AV×List AObj×List AObj
 | _,[.box [.pv (.int .i64 n),.map 1],.map es]=>J5 n (Z4 es) (YX (Z4 es))
 | _,_=>Uy
theorem a7b: ∀ args os,Y1 args os=true->KV Xa Pb os.length (Zk os.length Y0 fun r=>r=U4 args os) YV [] (ZK b2h args os):=by
 intro args os h
 unfold Y1 at h
 split at h
 ·rename_i n es
  simp only[Bool.and_eq_true,KX,decide_eq_true_eq,List.all_eq_true]at h
  obtain⟨h1,h2,h3⟩:=h
  obtain⟨m,rfl⟩:=QD h1
  rw[Yt]at h2 h3
  have hv:U4 [.ptr 0 0] [.box [.pv (.int .i64 n),.map 1],.map (Zj m)]=J5 n m (ZE m (X7 m)):=by
   show J5 n (Z4 (Zj m)) (YX (Z4 (Zj m)))=_
   rw[Yt,Dq]
  rw[hv]
  refine a9l n m h2 fun x hx=>h3 x ?_
  have hx:x∈kz (Zj m):=(List.mergeSort_perm _ _).mem_iff.1 hx
  rw[Re]at hx
  obtain⟨p,hp,rfl⟩:=List.mem_map.1 hx
  exact List.mem_map.2 ⟨p,(List.mem_filter.1 hp).1,rfl⟩
 ·cases h
theorem a9a: ∀ args os,Y1 args os=true->(U4 args os).2.1.length=os.length:=by
 intro args os h
 unfold Y1 at h
 split at h
 ·show(J5 _ _ _).2.1.length=_
  unfold J5
  split
  ·split <;> rfl
  ·rfl
 ·cases h
theorem KP(n c:Int):Sub (.tup [.agg [.int .i64 n,.sl 0 true []],.int .i64 c]) (enc (((⟨n,[]⟩:Lin),c):Lin×Int)):=.pair (.agg_cons (.refl _) (.agg_cons (Sub.sl0 _ _ _) .agg_nil)) (.refl _)
theorem b2x{P:Program}{f:Nat}(h:Zu P f Y1 U4):Zu P f Y1 JO:=by
 refine h.frz fun args os hp=> ?_
 unfold Y1 at hp
 split at hp
 ·rename_i n es
  have hv:U4 [.ptr 0 0] [.box [.pv (.int .i64 n),.map 1],.map es]=J5 n (Z4 es) (YX (Z4 es)):=rfl
  have hv':JO [.ptr 0 0] [.box [.pv (.int .i64 n),.map 1],.map es]=(.pv (enc (X9 n (Z4 es))),[.box [.pv (.int .i64 n),.map 1],.map es],[]):=rfl
  simp only[Bool.and_eq_true]at hp
  obtain⟨m,rfl⟩:=QD hp.1
  rw[hv,hv',Yt]
  unfold J5 X9
  generalize YX m=l
  by_cases hl:Zm ⟨n,l⟩=true
  ·rw[if_pos hl,if_pos hl]
   by_cases hz:l.isEmpty=true
   ·rw[if_pos hz]
    obtain rfl:l=[]:=by simpa using hz
    exact⟨_,_,_,_,_,_,_,_,rfl,rfl,rfl,KP n 0,rfl⟩
   ·rw[if_neg hz]
    refine⟨_,_,_,.tup [.agg [.int .i64 n,.sl 2 false (l.map enc)],.int .i64 0],[.obj (.box [.pv (.int .i64 n),.map 1]),.obj (.map (Zj m)),.obj (.row true 80 2 (l.map enc))],_,_,_,rfl,?_,rfl,.refl _,rfl⟩
    have e:List.drop 0 (List.take l.length (List.map (enc:Coef->PV) l))=l.map enc:=by rw[List.drop_zero,List.take_of_length_le (by simp)]
    simp only[frz,Vf,HM.run_bind,Yb,List.map_cons,List.map_nil,List.cons_append,List.nil_append]
    simp[HM.run,HM.req]
    exact List.take_of_length_le (by simp)
  ·rw[if_neg hl,if_neg hl]
   exact⟨_,_,_,_,_,_,_,_,rfl,rfl,rfl,KP 0 3,rfl⟩
 ·cases hp
end Go.Pl

namespace Go.Pl
open Go.RowKit
open Enc (enc dec is)
open EncL (encL decL isL)
set_option maxRecDepth 100000
end Go.Pl

namespace Go.Pl
open Go.RowKit
open Enc (enc dec is)
open EncL (encL decL isL)
end Go.Pl

namespace Go.Pl
open Go.RowKit
open Enc (enc dec is)
open EncL (encL decL isL)
set_option maxRecDepth 100000
def K7:IC:=(.seq (.reg [⟨(some 3),(.box 2 (.t 0)),0,none⟩,⟨(some 4),(.box 2 (.t 1)),1,none⟩,⟨(some 6),(.alloc (.agg [(.int .i64 0),(.sl 0 true [])])),2,none⟩,⟨(some 7),(.mv (.c (.int .i64 0))),3,none⟩] none) (.seq (.seq (.reg [⟨(some 9),(.load true [(.int .i64),(.sl 2)] (.t 3)),0,none⟩,⟨(some 10),(.call (.c (.fn 41)) [(.t 9)]),0,none⟩,⟨(some 11),(.un .not (.t 10)),2,none⟩,⟨(some 12),(.mv (.t 11)),2,none⟩,⟨(some 13),(.load true [(.int .i64),(.sl 2)] (.t 4)),2,(some (12,false))⟩,⟨(some 14),(.call (.c (.fn 41)) [(.t 13)]),2,(some (12,false))⟩,⟨(some 15),(.un .not (.t 14)),4,(some (12,false))⟩,⟨(some 16),(.pick (.t 12) (.c (.bool true)) (.t 15)),4,none⟩] none) (.cond (.t 16) (.seq (.reg [⟨(some 17),(.build [(.int .i64 0),(.sl 0 true [])] []),0,none⟩,⟨none,(.store 2 (.t 6) (.t 17)),0,none⟩,⟨(some 7),(.mv (.c (.int .i64 1))),0,none⟩] none) .ret) .skip)) (.seq (.reg [⟨(some 18),.mkmap,0,none⟩,⟨(some 19),(.build [(.int .i64 0),.nilmap] [(1,(1,(.t 18)))]),1,none⟩,⟨(some 8),(.alloc (.agg [(.int .i64 0),.nilmap])),1,none⟩,⟨none,(.store 2 (.t 8) (.t 19)),2,none⟩] none) (.seq (.reg [⟨(some 20),(.load true [(.int .i64),(.sl 2)] (.t 3)),0,none⟩,⟨(some 21),(.call (.c (.fn 74)) [(.t 8),(.t 20),(.c (.int .i64 1))]),0,none⟩] none) (.seq (.reg [⟨(some 22),(.load true [(.int .i64),(.sl 2)] (.t 4)),0,none⟩,⟨(some 23),(.mv (.t 2)),0,none⟩,⟨(some 24),(.call (.c (.fn 74)) [(.t 8),(.t 22),(.t 23)]),0,none⟩] none) (.seq (.reg [⟨(some 25),(.call (.c (.fn 70)) [(.t 8)]),0,none⟩,⟨(some 26),(.extract (.t 25) 0),2,none⟩,⟨(some 27),(.extract (.t 25) 1),2,none⟩,⟨none,(.store 2 (.t 6) (.t 26)),2,none⟩,⟨(some 7),(.mv (.t 27)),2,none⟩] none) .ret))))))
def Jb:List IRes:=[(.cell true 2 6),(.tmp 7)]
abbrev LK:Nat:=28
def GZ:ZG:=Xo [(41,.pure (preT (fun x:Lin×Unit=>ZJ x.1)) (Zo (fun x:Lin×Unit=>Zm x.1))),(74,.own Vs H6),(70,.own Y1 JO)]
theorem a3a{G:PV->Prop}(a b:Lin)(k:Int)(h:(Go.Pl.preT (fun(x:Lin×Unit)=>ZJ x.1) [(.agg [(.int .i64 a.k),(.sl 2 false (List.map enc a.t))])])=true∧(∃ y0:Bool,AV.pv (Zo (fun(x:Lin×Unit)=>Zm x.1) [(.agg [(.int .i64 a.k),(.sl 2 false (List.map enc a.t))])])=AV.pv (enc y0)∧(if (!y0)=true then G ((.tup [(.agg [(.int .i64 0),(.sl 0 true [])]),(.int .i64 1)]))else((Go.Pl.preT (fun(x:Lin×Unit)=>ZJ x.1) [(.agg [(.int .i64 b.k),(.sl 2 false (List.map enc b.t))])])=true∧(∃ y1:Bool,AV.pv (Zo (fun(x:Lin×Unit)=>Zm x.1) [(.agg [(.int .i64 b.k),(.sl 2 false (List.map enc b.t))])])=AV.pv (enc y1)∧(if (!y1)=true then G ((.tup [(.agg [(.int .i64 0),(.sl 0 true [])]),(.int .i64 1)]))else((Vs [(.ptr 0 0),(.pv (.agg [(.int .i64 a.k),(.sl 2 false (List.map enc a.t))])),(.pv (.int .i64 1))] [(.box [(.pv (.int .i64 0)),(.map 1)]),(.map [])])=true∧((Vs [(.ptr 0 0),(.pv (.agg [(.int .i64 b.k),(.sl 2 false (List.map enc b.t))])),(.pv (.int .i64 k))] [(.box [(.pv (.int .i64 (Xe (0+Xe (1*Lin.k (dec (PV.agg [enc a.k,enc a.t]))))))),(.map 1)]),(.map (Zj (Xj 1 (Lin.t (dec (PV.agg [enc a.k,enc a.t]))) (Z4 []))))])=true∧((Y1 [(.ptr 0 0)] [(.box [(.pv (.int .i64 (Xe (Xe (0+Xe (1*Lin.k (dec (PV.agg [enc a.k,enc a.t]))))+Xe (k*Lin.k (dec (PV.agg [enc b.k,enc b.t]))))))),(.map 1)]),(.map (Zj (Xj k (Lin.t (dec (PV.agg [enc b.k,enc b.t]))) (Z4 (Zj (Xj 1 (Lin.t (dec (PV.agg [enc a.k,enc a.t]))) (Z4 [])))))))])=true∧(G ((.tup [(.agg [(.int .i64 (Lin.k (Prod.fst (X9 (Xe (Xe (0+Xe (1*Lin.k (dec (PV.agg [enc a.k,enc a.t]))))+Xe (k*Lin.k (dec (PV.agg [enc b.k,enc b.t]))))) (Z4 (Zj (Xj k (Lin.t (dec (PV.agg [enc b.k,enc b.t]))) (Z4 (Zj (Xj 1 (Lin.t (dec (PV.agg [enc a.k,enc a.t]))) (Z4 []))))))))))),(.sl 2 false (List.map enc (Lin.t (Prod.fst (X9 (Xe (Xe (0+Xe (1*Lin.k (dec (PV.agg [enc a.k,enc a.t]))))+Xe (k*Lin.k (dec (PV.agg [enc b.k,enc b.t]))))) (Z4 (Zj (Xj k (Lin.t (dec (PV.agg [enc b.k,enc b.t]))) (Z4 (Zj (Xj 1 (Lin.t (dec (PV.agg [enc a.k,enc a.t]))) (Z4 []))))))))))))]),(.int .i64 (Prod.snd (X9 (Xe (Xe (0+Xe (1*Lin.k (dec (PV.agg [enc a.k,enc a.t]))))+Xe (k*Lin.k (dec (PV.agg [enc b.k,enc b.t]))))) (Z4 (Zj (Xj k (Lin.t (dec (PV.agg [enc b.k,enc b.t]))) (Z4 (Zj (Xj 1 (Lin.t (dec (PV.agg [enc a.k,enc a.t]))) (Z4 []))))))))))])))))))))))):Ze GZ 0 (Zg Jb G) K7 [] (Y2 28 [enc a,enc b,enc k]):=Ze.tp (.req (.abs (Bool) (fun YY=>AV.pv (enc YY)) (.ask (.lit (.lit (.lit (.lit (.nil))))) (.lit (.req (.abs (Bool) (fun YY=>AV.pv (enc YY)) (.lit (.lit (.ask (.nil) (.req (.keep (.req (.keep (.req (.keep (.nil)))))))))))))))) h (by kernel_rfl)
def Be:IC:=(.seq (.reg [⟨(some 2),(.box 2 (.t 0)),0,none⟩,⟨(some 3),(.box 2 (.t 1)),1,none⟩,⟨(some 4),(.alloc (.agg [(.int .i64 0),(.sl 0 true [])])),2,none⟩,⟨(some 5),(.mv (.c (.int .i64 0))),3,none⟩] none) (.seq (.reg [⟨(some 6),(.load true [(.int .i64),(.sl 2)] (.t 2)),0,none⟩,⟨(some 7),(.load true [(.int .i64),(.sl 2)] (.t 3)),0,none⟩,⟨(some 8),(.call (.c (.fn 71)) [(.t 6),(.t 7),(.c (.int .i64 1))]),0,none⟩,⟨(some 9),(.extract (.t 8) 0),2,none⟩,⟨(some 10),(.extract (.t 8) 1),2,none⟩,⟨none,(.store 2 (.t 4) (.t 9)),2,none⟩,⟨(some 5),(.mv (.t 10)),2,none⟩] none) .ret))
def Bi:List IRes:=[(.cell true 2 4),(.tmp 5)]
abbrev b0y:Nat:=11
def RU:ZG:=Xo [(71,.pure (preT (fun x:Lin×Lin×Int×Unit=>ZJ x.1&&ZJ x.2.1)) (Zo (fun x:Lin×Lin×Int×Unit=>YP x.1 x.2.1 x.2.2.1)))]
theorem b2s{G:PV->Prop}(a b:Lin)(h:(Go.Pl.preT (fun(x:Lin×Lin×Int×Unit)=>ZJ x.1&&ZJ x.2.1) [(.agg [(.int .i64 a.k),(.sl 2 false (List.map enc a.t))]),(.agg [(.int .i64 b.k),(.sl 2 false (List.map enc b.t))]),(.int .i64 1)])=true∧(∃ y0:Lin×Int,AV.pv (Zo (fun(x:Lin×Lin×Int×Unit)=>YP x.1 x.2.1 x.2.2.1) [(.agg [(.int .i64 a.k),(.sl 2 false (List.map enc a.t))]),(.agg [(.int .i64 b.k),(.sl 2 false (List.map enc b.t))]),(.int .i64 1)])=AV.pv (enc y0)∧(G ((.tup [(.agg [(.int .i64 y0.1.k),(.sl 2 false (List.map enc y0.1.t))]),(.int .i64 y0.2)]))))):Ze RU 0 (Zg Bi G) Be [] (Y2 11 [enc a,enc b]):=Ze.tp (.req (.abs (Lin×Int) (fun YY=>AV.pv (enc YY)) (.nil))) h (by kernel_rfl)
end Go.Pl

namespace Go.Pl
open Go.RowKit
open Enc (enc dec is)
open EncL (encL decL isL)
theorem b7c(k:Int){a b:Lin}(ha:Zm a=true)(hb:Zm b=true):KX (Xj k b.t (Xj 1 a.t []))=true:=by
 have h1:=WF ha
 have h2:=WF hb
 have h3:=HV k b.t (Xj 1 a.t [])
 have h4:=HV 1 a.t []
 simp only[KX,Bool.and_eq_true,decide_eq_true_eq,List.all_eq_true]
 have hz:([]:List (Str×Int)).length=0:=rfl
 refine⟨by omega,fun x hx=> ?_⟩
 rcases KC _ _ _ _ hx with hx|⟨t,ht,rfl⟩
 ·rcases KC _ _ _ _ hx with hx|⟨t,ht,rfl⟩
  ·cases hx
  ·have:=QN (Wv ha ht).1;omega
 ·have:=QN (Wv hb ht).1;omega
theorem FU(a:Lin):(dec (PV.agg [enc a.k,enc a.t]):Lin)=a:=Enc.dec_enc a
theorem PZ: ∀ a:Lin×Lin×Int×Unit,(ZJ a.1&&ZJ a.2.1)=true->Ze GZ 0 (Zg Jb (ZB (YP a.1 a.2.1 a.2.2.1))) K7 [] (Y2 LK (encL a)):=by
 rintro⟨a,b,k,⟨⟩⟩ h
 simp only[Bool.and_eq_true]at h
 refine a3a a b k ⟨Zt (a,()) rfl h.1,Zz (a,()) rfl (U3 (fun ha=> ?_) fun ha=>⟨Zt (b,()) rfl h.2,Zz (b,()) rfl (U3 (fun hb=> ?_) fun hb=> ?_)⟩)⟩
 ·have ha:Zm a=false:=ha
  simp only[YP,ha]
  exact⟨rfl,rfl⟩
 ·have ha:Zm a=true:=ha
  have hb:Zm b=false:=hb
  simp only[YP,ha,hb]
  exact⟨rfl,rfl⟩
 have ha:Zm a=true:=ha
 have hb:Zm b=true:=hb
 have h1:=WF ha
 have h2:=WF hb
 have e0:Z4 []=[]:=rfl
 simp only[FU,Yt,e0]
 have c1:Jk Lin (PV.agg [PV.int .i64 a.k,PV.sl 2 false (List.map enc a.t)])=true:=Xk a
 have c2:Jk Lin (PV.agg [PV.int .i64 b.k,PV.sl 2 false (List.map enc b.t)])=true:=Xk b
 have d1:(dec (PV.agg [PV.int .i64 a.k,PV.sl 2 false (List.map enc a.t)]):Lin)=a:=Enc.dec_enc a
 have d2:(dec (PV.agg [PV.int .i64 b.k,PV.sl 2 false (List.map enc b.t)]):Lin)=b:=Enc.dec_enc b
 refine⟨?_,?_,?_,?_⟩
 ·simp only[Vs,c1,d1]
  simp[Gq];omega
 ·simp only[Vs,c2,d2,U1]
  simp;omega
 ·simp only[Y1,U1,Yt,b7c k ha hb]
  rfl
 ·simp only[YP,ha,hb,if_true]
  exact Y7 rfl
theorem a2r: ∀ a:Lin×Lin×Unit,(ZJ a.1&&ZJ a.2.1)=true->Ze RU 0 (Zg Bi (ZB (YP a.1 a.2.1 1))) Be [] (Y2 b0y (encL a)):=by
 rintro⟨a,b,⟨⟩⟩ h
 exact b2s a b ⟨Zt (a,b,1,()) rfl h,Zz (a,b,1,()) rfl (Y7 rfl)⟩
end Go.Pl

namespace Go.Pl
open Go.RowKit
open Enc (enc dec is)
open EncL (encL decL isL)
mutual
def LJ:Cert->Int->Bool
 | .mk _ m l ks,n=> !decide ((m.length:Int)>60)&&(C8 l 8&&(!decide (n<1)&&(!decide ((ks.length:Int)>n)&&Cj ks n)))
def Cj:List Cert->Int->Bool
 | [],_=>true
 | c::cs,n=>LJ c (Xe (n - 1))&&Cj cs (Xe (n - Ak c))
end
end Go.Pl

namespace Go.Pl
open Go.RowKit
open Enc (enc dec is)
open EncL (encL decL isL)
set_option maxRecDepth 100000
end Go.Pl

namespace Go.Pl
open Go.RowKit
open Enc (enc dec is)
open EncL (encL decL isL)
set_option maxRecDepth 100000
def D9:IC:=(.seq (.reg [⟨(some 2),(.mv (.c (.bool false))),0,none⟩] none) (.seq (.reg [⟨(some 3),(.mv (.t 0)),0,none⟩,⟨(some 4),(.bin .num .geq (.t 3) (.c (.int .u8 48))),0,none⟩,⟨(some 5),(.mv (.t 4)),0,none⟩,⟨(some 6),(.mv (.t 0)),0,(some (5,true))⟩,⟨(some 7),(.bin .num .leq (.t 6) (.c (.int .u8 57))),0,(some (5,true))⟩,⟨(some 8),(.pick (.t 5) (.t 7) (.c (.bool false))),0,none⟩,⟨(some 2),(.mv (.t 8)),0,none⟩] none) .ret))
def Ro:List IRes:=[(.tmp 2)]
abbrev b6v:Nat:=9
def FW:ZG:=Xo []
theorem b9a{G:PV->Prop}(c:UInt8)(h:if (decide ((↑(UInt8.toNat c):Int) ≥ 48))=true then G ((.bool (decide ((↑(UInt8.toNat c):Int)<=57))))else(G ((.bool false)))):Ze FW 0 (Zg Ro G) D9 [] (Y2 9 [enc c]):=Ze.tp (.lit (.ask (.lit (.lit (.lit (.nil)))) (.lit (.lit (.nil))))) h (by kernel_rfl)
def Rm:IC:=(.seq (.reg [⟨(some 2),(.mv (.c (.bool false))),0,none⟩] none) (.seq (.reg [⟨(some 3),(.mv (.t 0)),0,none⟩,⟨(some 4),(.bin .num .geq (.t 3) (.c (.int .u8 97))),0,none⟩,⟨(some 5),(.mv (.t 4)),0,none⟩,⟨(some 6),(.mv (.t 0)),0,(some (5,true))⟩,⟨(some 7),(.bin .num .leq (.t 6) (.c (.int .u8 122))),0,(some (5,true))⟩,⟨(some 8),(.pick (.t 5) (.t 7) (.c (.bool false))),0,none⟩,⟨(some 2),(.mv (.t 8)),0,none⟩] none) .ret))
def Rq:List IRes:=[(.tmp 2)]
abbrev b2l:Nat:=9
def LX:ZG:=Xo []
theorem b9u{G:PV->Prop}(c:UInt8)(h:if (decide ((↑(UInt8.toNat c):Int) ≥ 97))=true then G ((.bool (decide ((↑(UInt8.toNat c):Int)<=122))))else(G ((.bool false)))):Ze LX 0 (Zg Rq G) Rm [] (Y2 9 [enc c]):=Ze.tp (.lit (.ask (.lit (.lit (.lit (.nil)))) (.lit (.lit (.nil))))) h (by kernel_rfl)
def KE:IC:=(.seq (.reg [⟨(some 2),(.mv (.c (.bool false))),0,none⟩] none) (.seq (.reg [⟨(some 3),(.mv (.t 0)),0,none⟩,⟨(some 4),(.bin .num .geq (.t 3) (.c (.int .i64 (-1000000)))),0,none⟩,⟨(some 5),(.mv (.t 4)),0,none⟩,⟨(some 6),(.mv (.t 0)),0,(some (5,true))⟩,⟨(some 7),(.bin .num .leq (.t 6) (.c (.int .i64 1000000))),0,(some (5,true))⟩,⟨(some 8),(.pick (.t 5) (.t 7) (.c (.bool false))),0,none⟩,⟨(some 2),(.mv (.t 8)),0,none⟩] none) .ret))
def Gs:List IRes:=[(.tmp 2)]
abbrev a1b:Nat:=9
def CU:ZG:=Xo []
theorem a3n{G:PV->Prop}(n:Int)(h:if (decide (n ≥ (-1000000:Int)))=true then G ((.bool (decide (n<=1000000))))else(G ((.bool false)))):Ze CU 0 (Zg Gs G) KE [] (Y2 9 [enc n]):=Ze.tp (.lit (.ask (.lit (.lit (.lit (.nil)))) (.lit (.lit (.nil))))) h (by kernel_rfl)
def Fb:IC:=KE
def FE:List IRes:=[(.tmp 2)]
abbrev b9m:Nat:=9
def a4y:ZG:=Xo []
theorem c2o{G:PV->Prop}(n:Int)(h:if (decide (n ≥ (-1000000:Int)))=true then G ((.bool (decide (n<=1000000))))else(G ((.bool false)))):Ze a4y 0 (Zg FE G) Fb [] (Y2 9 [enc n]):=Ze.tp (.lit (.ask (.lit (.lit (.lit (.nil)))) (.lit (.lit (.nil))))) h (by kernel_rfl)
def T9:IC:=D9
def R9:List IRes:=[(.tmp 2)]
abbrev b3a:Nat:=9
def Fz:ZG:=Xo []
theorem b9q{G:PV->Prop}(c:UInt8)(h:if (decide ((↑(UInt8.toNat c):Int) ≥ 48))=true then G ((.bool (decide ((↑(UInt8.toNat c):Int)<=57))))else(G ((.bool false)))):Ze Fz 0 (Zg R9 G) T9 [] (Y2 9 [enc c]):=Ze.tp (.lit (.ask (.lit (.lit (.lit (.nil)))) (.lit (.lit (.nil))))) h (by kernel_rfl)
def Xy:IC:=(.seq (.reg [⟨(some 2),(.mv (.c (.bool false))),0,none⟩] none) (.seq (.seq (.reg [⟨(some 5),(.mv (.t 0)),0,none⟩,⟨(some 6),(.len 0 (.t 5)),0,none⟩,⟨(some 7),(.bin .num .eql (.t 6) (.c (.int .i64 0))),0,none⟩,⟨(some 8),(.mv (.t 7)),0,none⟩,⟨(some 9),(.mv (.t 0)),0,(some (8,false))⟩,⟨(some 10),(.len 0 (.t 9)),0,(some (8,false))⟩,⟨(some 11),(.bin .num .gtr (.t 10) (.c (.int .i64 30))),0,(some (8,false))⟩,⟨(some 12),(.pick (.t 8) (.c (.bool true)) (.t 11)),0,none⟩] none) (.cond (.t 12) (.seq (.reg [⟨(some 2),(.mv (.c (.bool false))),0,none⟩] none) .ret) .skip)) (.seq (.seq (.reg [⟨(some 13),(.mv (.t 0)),0,none⟩,⟨(some 14),(.index (.t 13) (.c (.int .i64 0))),0,none⟩,⟨(some 15),(.bin .num .eql (.t 14) (.c (.int .u8 95))),0,none⟩] none) (.cond (.t 15) (.seq (.seq (.reg [⟨(some 16),(.mv (.t 0)),0,none⟩,⟨(some 17),(.len 0 (.t 16)),0,none⟩,⟨(some 18),(.bin .num .lss (.t 17) (.c (.int .i64 2))),0,none⟩,⟨(some 19),(.mv (.t 18)),0,none⟩,⟨(some 20),(.mv (.t 0)),0,(some (19,false))⟩,⟨(some 21),(.len 0 (.t 20)),0,(some (19,false))⟩,⟨(some 22),(.bin .num .gtr (.t 21) (.c (.int .i64 10))),0,(some (19,false))⟩,⟨(some 23),(.pick (.t 19) (.c (.bool true)) (.t 22)),0,none⟩,⟨(some 24),(.mv (.t 23)),0,none⟩,⟨(some 25),(.mv (.t 0)),0,(some (24,false))⟩,⟨(some 26),(.index (.t 25) (.c (.int .i64 1))),0,(some (24,false))⟩,⟨(some 27),(.bin .num .eql (.t 26) (.c (.int .u8 48))),0,(some (24,false))⟩,⟨(some 28),(.pick (.t 24) (.c (.bool true)) (.t 27)),0,none⟩] none) (.cond (.t 28) (.seq (.reg [⟨(some 2),(.mv (.c (.bool false))),0,none⟩] none) .ret) .skip)) (.seq (.seq (.reg [⟨(some 3),(.mv (.c (.int .i64 1))),0,none⟩] none) (.block 0 (.loop [3,0] (.seq (.seq (.reg [⟨(some 29),(.mv (.t 3)),0,none⟩,⟨(some 30),(.mv (.t 0)),0,none⟩,⟨(some 31),(.len 0 (.t 30)),0,none⟩,⟨(some 32),(.bin .num .lss (.t 29) (.t 31)),0,none⟩] none) (.cond (.t 32) .skip (.exit 0))) (.seq (.block 1 (.seq (.reg [⟨(some 35),(.mv (.t 0)),0,none⟩,⟨(some 36),(.mv (.t 3)),0,none⟩,⟨(some 37),(.index (.t 35) (.t 36)),0,none⟩,⟨(some 38),(.call (.c (.fn 88)) [(.t 37)]),0,none⟩,⟨(some 39),(.un .not (.t 38)),2,none⟩] none) (.cond (.t 39) (.seq (.reg [⟨(some 2),(.mv (.c (.bool false))),0,none⟩] none) .ret) .skip))) (.reg [⟨(some 33),(.mv (.t 3)),0,none⟩,⟨(some 34),(.bin .num .add (.t 33) (.c (.int .i64 1))),0,none⟩,⟨(some 3),(.mv (.t 34)),0,none⟩] none)))))) (.seq (.reg [⟨(some 2),(.mv (.c (.bool true))),0,none⟩] none) .ret))) .skip)) (.seq (.seq (.reg [⟨(some 4),(.mv (.c (.int .i64 0))),0,none⟩] none) (.block 2 (.loop [4,0] (.seq (.seq (.reg [⟨(some 40),(.mv (.t 4)),0,none⟩,⟨(some 41),(.mv (.t 0)),0,none⟩,⟨(some 42),(.len 0 (.t 41)),0,none⟩,⟨(some 43),(.bin .num .lss (.t 40) (.t 42)),0,none⟩] none) (.cond (.t 43) .skip (.exit 2))) (.seq (.block 3 (.seq (.reg [⟨(some 46),(.mv (.t 0)),0,none⟩,⟨(some 47),(.mv (.t 4)),0,none⟩,⟨(some 48),(.index (.t 46) (.t 47)),0,none⟩,⟨(some 49),(.call (.c (.fn 89)) [(.t 48)]),0,none⟩,⟨(some 50),(.un .not (.t 49)),2,none⟩,⟨(some 51),(.mv (.t 50)),2,none⟩,⟨(some 52),(.mv (.t 4)),2,(some (51,true))⟩,⟨(some 53),(.bin .num .eql (.t 52) (.c (.int .i64 0))),2,(some (51,true))⟩,⟨(some 54),(.mv (.t 53)),2,(some (51,true))⟩,⟨(some 55),(.mv (.t 0)),2,(some (54,false))⟩,⟨(some 56),(.mv (.t 4)),2,(some (54,false))⟩,⟨(some 57),(.index (.t 55) (.t 56)),2,(some (54,false))⟩,⟨(some 58),(.call (.c (.fn 88)) [(.t 57)]),2,(some (54,false))⟩,⟨(some 59),(.un .not (.t 58)),4,(some (54,false))⟩,⟨(some 60),(.pick (.t 54) (.c (.bool true)) (.t 59)),4,(some (51,true))⟩,⟨(some 61),(.pick (.t 51) (.t 60) (.c (.bool false))),4,none⟩] none) (.cond (.t 61) (.seq (.reg [⟨(some 2),(.mv (.c (.bool false))),0,none⟩] none) .ret) .skip))) (.reg [⟨(some 44),(.mv (.t 4)),0,none⟩,⟨(some 45),(.bin .num .add (.t 44) (.c (.int .i64 1))),0,none⟩,⟨(some 4),(.mv (.t 45)),0,none⟩] none)))))) (.seq (.reg [⟨(some 2),(.mv (.c (.bool true))),0,none⟩] none) .ret)))))
def Xp:List IRes:=[(.tmp 2)]
abbrev a7f:Nat:=62
def Wp:ZG:=Xo [(88,.pure (preT (fun _:UInt8×Unit=>true)) (Zo (fun x:UInt8×Unit=>digB x.1))),(89,.pure (preT (fun _:UInt8×Unit=>true)) (Zo (fun x:UInt8×Unit=>Wm x.1)))]
theorem b3z{G:PV->Prop}(s:List UInt8)(h:if ((↑(List.length s):Int)==0)=true then G ((.bool false))else(if (decide ((↑(List.length s):Int)>30))=true then G ((.bool false))else((decide (0<=0)&&decide (Int.toNat 0<List.length s))=true∧(if ((↑(UInt8.toNat (List.getD s (Int.toNat 0) (0:UInt8))):Int)==95)=true then if (decide ((↑(List.length s):Int)<2))=true then G ((.bool false))else(if (decide ((↑(List.length s):Int)>10))=true then G ((.bool false))else((decide (0<=1)&&decide (Int.toNat 1<List.length s))=true∧(if ((↑(UInt8.toNat (List.getD s (Int.toNat 1) (0:UInt8))):Int)==48)=true then G ((.bool false))else(At Wp 0 (Zg Xp G) Xy 0 62 [(0,(.pv (.str s))),(3,(.pv (.int .i64 1)))] []))))else(At Wp 0 (Zg Xp G) Xy 1 62 [(0,(.pv (.str s))),(4,(.pv (.int .i64 0)))] []))))):Ze Wp 0 (Zg Xp G) Xy [] (Y2 62 [.str s]):=Ze.tp (.lit (.ask (.lit (.lit (.lit (.lit (.nil))))) (.lit (.lit (.lit (.lit (.ask (.nil) (.req (.lit (.ask (.lit (.ask (.lit (.lit (.lit (.lit (.lit (.lit (.lit (.lit (.nil))))))))) (.lit (.lit (.lit (.lit (.ask (.lit (.lit (.lit (.lit (.nil))))) (.lit (.req (.lit (.lit (.lit (.ask (.nil) (.nil)))))))))))))) (.nil))))))))))) h (by kernel_rfl)
theorem Mj{G:PV->Prop}(s:List UInt8)(i:Int)(h:if (decide (i<(↑(List.length s):Int)))=true then(decide (0<=i)&&decide (Int.toNat i<List.length s))=true∧((Go.Pl.preT (fun(x:UInt8×Unit)=>true) [(.int IntKind.u8 (↑(UInt8.toNat (List.getD s (Int.toNat i) (0:UInt8))):Int))])=true∧(∃ y0:Bool,AV.pv (Zo (fun(x:UInt8×Unit)=>digB x.1) [(.int IntKind.u8 (↑(UInt8.toNat (List.getD s (Int.toNat i) (0:UInt8))):Int))])=AV.pv (enc y0)∧(if (!y0)=true then G ((.bool false))else(At Wp 0 (Zg Xp G) Xy 0 62 [(0,(.pv (.str s))),(3,(.pv (.int .i64 (IntKind.wrap IntKind.i64 (i+1)))))] []))))else(G ((.bool true)))):At Wp 0 (Zg Xp G) Xy 0 62 [(0,.pv (.str s)),(3,.pv (.int .i64 i))] []:=At.tp (.lit (.ask (.req (.req (.abs (Bool) (fun YY=>AV.pv (enc YY)) (.ask (.nil) (.lit (.nil)))))) (.nil))) h (by kernel_rfl)
theorem Cv{G:PV->Prop}(s:List UInt8)(i:Int)(h:if (decide (i<(↑(List.length s):Int)))=true then(decide (0<=i)&&decide (Int.toNat i<List.length s))=true∧((Go.Pl.preT (fun(x:UInt8×Unit)=>true) [(.int IntKind.u8 (↑(UInt8.toNat (List.getD s (Int.toNat i) (0:UInt8))):Int))])=true∧(∃ y0:Bool,AV.pv (Zo (fun(x:UInt8×Unit)=>Wm x.1) [(.int IntKind.u8 (↑(UInt8.toNat (List.getD s (Int.toNat i) (0:UInt8))):Int))])=AV.pv (enc y0)∧(if (!y0)=true then if (i==0)=true then G ((.bool false))else((decide (0<=i)&&decide (Int.toNat i<List.length s))=true∧((Go.Pl.preT (fun(x:UInt8×Unit)=>true) [(.int IntKind.u8 (↑(UInt8.toNat (List.getD s (Int.toNat i) (0:UInt8))):Int))])=true∧(∃ y1:Bool,AV.pv (Zo (fun(x:UInt8×Unit)=>digB x.1) [(.int IntKind.u8 (↑(UInt8.toNat (List.getD s (Int.toNat i) (0:UInt8))):Int))])=AV.pv (enc y1)∧(if (!y1)=true then G ((.bool false))else(At Wp 0 (Zg Xp G) Xy 1 62 [(0,(.pv (.str s))),(4,(.pv (.int .i64 (IntKind.wrap IntKind.i64 (i+1)))))] [])))))else(At Wp 0 (Zg Xp G) Xy 1 62 [(0,(.pv (.str s))),(4,(.pv (.int .i64 (IntKind.wrap IntKind.i64 (i+1)))))] []))))else(G ((.bool true)))):At Wp 0 (Zg Xp G) Xy 1 62 [(0,.pv (.str s)),(4,.pv (.int .i64 i))] []:=At.tp (.lit (.ask (.req (.req (.abs (Bool) (fun YY=>AV.pv (enc YY)) (.ask (.lit (.lit (.lit (.ask (.lit (.lit (.lit (.lit (.lit (.lit (.lit (.lit (.nil))))))))) (.lit (.lit (.req (.lit (.req (.abs (Bool) (fun YY=>AV.pv (enc YY)) (.lit (.lit (.lit (.lit (.ask (.nil) (.lit (.nil))))))))))))))))) (.lit (.lit (.lit (.lit (.lit (.lit (.nil))))))))))) (.nil))) h (by kernel_rfl)
def X4:IC:=(.seq (.reg [⟨(some 1),(.box 2 (.t 0)),0,none⟩,⟨(some 2),(.mv (.c (.bool false))),1,none⟩] none) (.seq (.seq (.reg [⟨(some 5),(.faddr 0 (.t 1)),0,none⟩,⟨(some 6),(.load false [(.int .i64)] (.t 5)),0,none⟩,⟨(some 7),(.call (.c (.fn 47)) [(.t 6)]),0,none⟩,⟨(some 8),(.un .not (.t 7)),2,none⟩,⟨(some 9),(.mv (.t 8)),2,none⟩,⟨(some 10),(.faddr 1 (.t 1)),2,(some (9,false))⟩,⟨(some 11),(.load false [(.sl 2)] (.t 10)),2,(some (9,false))⟩,⟨(some 12),(.len 1 (.t 11)),2,(some (9,false))⟩,⟨(some 13),(.bin .num .gtr (.t 12) (.c (.int .i64 12))),2,(some (9,false))⟩,⟨(some 14),(.pick (.t 9) (.c (.bool true)) (.t 13)),2,none⟩] none) (.cond (.t 14) (.seq (.reg [⟨(some 2),(.mv (.c (.bool false))),0,none⟩] none) .ret) .skip)) (.seq (.seq (.reg [⟨(some 3),(.mv (.c (.int .i64 0))),0,none⟩] none) (.block 0 (.loop [3,1] (.seq (.seq (.reg [⟨(some 15),(.mv (.t 3)),0,none⟩,⟨(some 16),(.faddr 1 (.t 1)),0,none⟩,⟨(some 17),(.load false [(.sl 2)] (.t 16)),0,none⟩,⟨(some 18),(.len 1 (.t 17)),0,none⟩,⟨(some 19),(.bin .num .lss (.t 15) (.t 18)),0,none⟩] none) (.cond (.t 19) .skip (.exit 0))) (.seq (.block 1 (.seq (.reg [⟨(some 22),(.faddr 1 (.t 1)),0,none⟩,⟨(some 23),(.load false [(.sl 2)] (.t 22)),0,none⟩,⟨(some 24),(.mv (.t 3)),0,none⟩,⟨(some 25),(.iaddr 2 (.t 23) (.t 24)),0,none⟩,⟨(some 26),(.load true [.str,(.int .i64)] (.t 25)),0,none⟩,⟨(some 4),(.alloc (.agg [(.str []),(.int .i64 0)])),0,none⟩,⟨none,(.store 2 (.t 4) (.t 26)),1,none⟩] none) (.seq (.reg [⟨(some 27),(.faddr 0 (.t 4)),0,none⟩,⟨(some 28),(.load false [.str] (.t 27)),0,none⟩,⟨(some 29),(.call (.c (.fn 48)) [(.t 28)]),0,none⟩,⟨(some 30),(.un .not (.t 29)),2,none⟩,⟨(some 31),(.mv (.t 30)),2,none⟩,⟨(some 32),(.faddr 1 (.t 4)),2,(some (31,false))⟩,⟨(some 33),(.load false [(.int .i64)] (.t 32)),2,(some (31,false))⟩,⟨(some 34),(.bin .num .eql (.t 33) (.c (.int .i64 0))),2,(some (31,false))⟩,⟨(some 35),(.pick (.t 31) (.c (.bool true)) (.t 34)),2,none⟩,⟨(some 36),(.mv (.t 35)),2,none⟩,⟨(some 37),(.faddr 1 (.t 4)),2,(some (36,false))⟩,⟨(some 38),(.load false [(.int .i64)] (.t 37)),2,(some (36,false))⟩,⟨(some 39),(.call (.c (.fn 47)) [(.t 38)]),2,(some (36,false))⟩,⟨(some 40),(.un .not (.t 39)),4,(some (36,false))⟩,⟨(some 41),(.pick (.t 36) (.c (.bool true)) (.t 40)),4,none⟩,⟨(some 42),(.mv (.t 41)),4,none⟩,⟨(some 43),(.mv (.t 3)),4,(some (42,false))⟩,⟨(some 44),(.bin .num .gtr (.t 43) (.c (.int .i64 0))),4,(some (42,false))⟩,⟨(some 45),(.mv (.t 44)),4,(some (42,false))⟩,⟨(some 46),(.faddr 1 (.t 1)),4,(some (45,true))⟩,⟨(some 47),(.load false [(.sl 2)] (.t 46)),4,(some (45,true))⟩,⟨(some 48),(.mv (.t 3)),4,(some (45,true))⟩,⟨(some 49),(.bin .num .sub (.t 48) (.c (.int .i64 1))),4,(some (45,true))⟩,⟨(some 50),(.iaddr 2 (.t 47) (.t 49)),4,(some (45,true))⟩,⟨(some 51),(.faddr 0 (.t 50)),4,(some (45,true))⟩,⟨(some 52),(.load false [.str] (.t 51)),4,(some (45,true))⟩,⟨(some 53),(.faddr 0 (.t 4)),4,(some (45,true))⟩,⟨(some 54),(.load false [.str] (.t 53)),4,(some (45,true))⟩,⟨(some 55),(.bin .num .geq (.t 52) (.t 54)),4,(some (45,true))⟩,⟨(some 56),(.pick (.t 45) (.t 55) (.c (.bool false))),4,(some (42,false))⟩,⟨(some 57),(.pick (.t 42) (.c (.bool true)) (.t 56)),4,none⟩] (some [[],[0],[1,0],[2,1,0],[3,2,1,0],[4,3,2,1,0],[5,4,3,2,1,0],[6,4,5,3,2,1,0],[4,7,3,2,1,0,6,5],[8,4,7,3,2,1,0,6,5],[9,8,4,7,3,2,1,0,6,5],[10,9,8,4,7,3,2,1,0,6,5],[11,9,10,8,4,7,3,2,1,0,6,5],[12,9,11,10,8,4,7,3,2,1,0,6,5],[9,13,8,4,7,3,2,1,0,6,5,12,11,10],[14,12,9,13,8,4,7,3,2,1,0,6,5,11,10],[15,14,12,9,13,8,4,7,3,2,1,0,6,5,11,10],[16,15,14,12,9,13,8,4,7,3,2,1,0,6,5,11,10],[17,15,16,14,12,9,13,8,4,7,3,2,1,0,6,5,11,10],[18,17,15,16,14,12,9,13,8,4,7,3,2,1,0,6,5,11,10],[19,18,17,15,16,14,12,9,13,8,4,7,3,2,1,0,6,5,11,10],[18,17,15,16,14,12,9,13,8,4,7,3,2,1,0,6,5,11,10],[21,18,17,15,16,14,12,9,13,8,4,7,3,2,1,0,6,5,11,10],[20,22,18,19,17,15,16,14,12,9,13,8,4,7,3,2,1,0,6,5,11,10,21],[23,18,20,22,19,17,15,16,14,12,9,13,8,4,7,3,2,1,0,6,5,11,10,21],[24,18,23,20,22,19,17,15,16,14,12,9,13,8,4,7,3,2,1,0,6,5,11,10,21],[18,17,15,16,14,12,9,13,8,4,7,3,2,1,0,6,5,11,10],[26,18,17,15,16,14,12,9,13,8,4,7,3,2,1,0,6,5,11,10],[25,27,18,24,23,20,22,19,17,15,16,14,12,9,13,8,4,7,3,2,1,0,6,5,11,10,21,26],[18,28,15,17,16,14,12,9,13,8,4,7,3,2,1,0,6,5,11,10,25,27,24,23,20,22,19,21,26],[15,29,14,12,9,13,8,4,7,3,2,1,0,6,5,11,10,18,28,17,16,25,27,24,23,20,22,19,21,26]])) (.cond (.t 57) (.seq (.reg [⟨(some 2),(.mv (.c (.bool false))),0,none⟩] none) .ret) .skip)))) (.reg [⟨(some 20),(.mv (.t 3)),0,none⟩,⟨(some 21),(.bin .num .add (.t 20) (.c (.int .i64 1))),0,none⟩,⟨(some 3),(.mv (.t 21)),0,none⟩] none)))))) (.seq (.reg [⟨(some 2),(.mv (.c (.bool true))),0,none⟩] none) .ret))))
def X3:List IRes:=[(.tmp 2)]
abbrev a0v:Nat:=58
def WZ:ZG:=Xo [(47,.pure (preT (fun _:Int×Unit=>true)) (Zo (fun x:Int×Unit=>Z8 x.1))),(48,.pure (preT (fun _:Str×Unit=>true)) (Zo (fun x:Str×Unit=>Yc x.1)))]
theorem a7a{G:PV->Prop}(l:Lin)(h : ∃ y0:Bool,AV.pv (Zo (fun(x:Int×Unit)=>Z8 x.1) [(.int .i64 l.k)])=AV.pv (enc y0)∧(if (!y0)=true then G ((.bool false))else(if (decide ((↑(List.length (List.map enc l.t)):Int)>12))=true then G ((.bool false))else(At WZ 0 (Zg X3 G) X4 0 58 [(1,(.ptr 0 0)),(3,(.pv (.int .i64 0)))] [(.obj (.box [(.pv (.int .i64 l.k)),(.pv (.sl 2 false (List.map enc l.t)))]))])))):Ze WZ 0 (Zg X3 G) X4 [] (Y2 58 [enc l]):=Ze.tp (.lit (.abs (Bool) (fun YY=>AV.pv (enc YY)) (.ask (.lit (.lit (.lit (.lit (.lit (.nil)))))) (.lit (.lit (.lit (.lit (.lit (.ask (.nil) (.nil)))))))))) h (by kernel_rfl)
theorem Tc{G:PV->Prop}(l:Lin)(i:Int)(h:if (decide (i<(↑(List.length (List.map enc l.t)):Int)))=true then(decide (0<=i)&&decide (Int.toNat i<List.length (List.map enc l.t))&&Enc.sz Coef==2)=true∧(∃ y0:Coef,AV.pv (PV.rptr (PV.cells (List.getD (List.map enc l.t) (Int.toNat i) default)))=AV.pv (PV.rptr (PV.cells ((enc) y0)))∧(∃ y1:Bool,AV.pv (Zo (fun(x:Str×Unit)=>Yc x.1) [(.str (PV.asStr (List.getD (PV.cells (enc y0)) 0 default)))])=AV.pv (enc y1)∧(if (!y1)=true then G ((.bool false))else(if (PV.asInt (List.getD (PV.cells (enc y0)) (0+1) default)==0)=true then G ((.bool false))else(∃ y2:Bool,AV.pv (Zo (fun(x:Int×Unit)=>Z8 x.1) [(.int .i64 (PV.asInt (List.getD (PV.cells (enc y0)) (0+1) default)))])=AV.pv (enc y2)∧(if (!y2)=true then G ((.bool false))else(if (decide (i>0))=true then(decide (0<=IntKind.wrap IntKind.i64 (i - 1))&&decide (Int.toNat (IntKind.wrap IntKind.i64 (i - 1))<List.length (List.map enc l.t))&&Enc.sz Coef==2)=true∧(∃ y3:Coef,AV.pv (PV.rptr (PV.cells (List.getD (List.map enc l.t) (Int.toNat (IntKind.wrap IntKind.i64 (i - 1))) default)))=AV.pv (PV.rptr (PV.cells ((enc) y3)))∧(if (!Op.bytesLess (PV.asStr (List.getD (List.drop 0 (PV.cells (enc y3))) 0 default)) (PV.asStr (List.getD (PV.cells (enc y0)) 0 default)))=true then G ((.bool false))else(At WZ 0 (Zg X3 G) X4 0 58 [(1,(.ptr 0 0)),(3,(.pv (.int .i64 (IntKind.wrap IntKind.i64 (i+1)))))] [(.obj (.box [(.pv (.int .i64 l.k)),(.pv (.sl 2 false (List.map enc l.t)))]))])))else(At WZ 0 (Zg X3 G) X4 0 58 [(1,(.ptr 0 0)),(3,(.pv (.int .i64 (IntKind.wrap IntKind.i64 (i+1)))))] [(.obj (.box [(.pv (.int .i64 l.k)),(.pv (.sl 2 false (List.map enc l.t)))]))]))))))))else(G ((.bool true)))):At WZ 0 (Zg X3 G) X4 0 58 [(1,.ptr 0 0),(3,.pv (.int .i64 i))] [.obj (.box [.pv (.int .i64 l.k),.pv (enc l.t)])]:=At.tp (.lit (.ask (.req (.abs (Coef) (fun YY=>AV.pv (PV.rptr (PV.cells ((enc) YY)))) (.lit (.lit (.abs (Bool) (fun YY=>AV.pv (enc YY)) (.ask (.lit (.lit (.lit (.lit (.lit (.lit (.lit (.lit (.lit (.lit (.lit (.lit (.lit (.lit (.nil))))))))))))))) (.lit (.lit (.lit (.lit (.ask (.lit (.lit (.lit (.lit (.lit (.lit (.lit (.lit (.lit (.lit (.nil))))))))))) (.lit (.lit (.lit (.abs (Bool) (fun YY=>AV.pv (enc YY)) (.lit (.lit (.ask (.lit (.lit (.lit (.lit (.lit (.nil)))))) (.lit (.lit (.lit (.ask (.lit (.lit (.lit (.lit (.lit (.req (.abs (Coef) (fun YY=>AV.pv (PV.rptr (PV.cells ((enc) YY)))) (.lit (.lit (.lit (.lit (.lit (.lit (.lit (.lit (.lit (.lit (.ask (.nil) (.lit (.nil)))))))))))))))))))) (.lit (.lit (.lit (.lit (.lit (.lit (.lit (.lit (.lit (.lit (.lit (.lit (.lit (.lit (.nil))))))))))))))))))))))))))))))))))))) (.nil))) h (by kernel_rfl)
def Qg:IC:=(.seq (.reg [⟨(some 2),(.box 2 (.t 0)),0,none⟩,⟨(some 4),(.mv (.c (.bool false))),1,none⟩] none) (.seq (.seq (.reg [⟨(some 5),(.mv (.c (.int .i64 0))),0,none⟩] none) (.block 0 (.loop [5,2,1] (.seq (.seq (.reg [⟨(some 6),(.mv (.t 5)),0,none⟩,⟨(some 7),(.faddr 1 (.t 2)),0,none⟩,⟨(some 8),(.load false [(.sl 2)] (.t 7)),0,none⟩,⟨(some 9),(.len 1 (.t 8)),0,none⟩,⟨(some 10),(.bin .num .lss (.t 6) (.t 9)),0,none⟩] none) (.cond (.t 10) .skip (.exit 0))) (.seq (.block 1 (.seq (.reg [⟨(some 13),(.faddr 1 (.t 2)),0,none⟩,⟨(some 14),(.load false [(.sl 2)] (.t 13)),0,none⟩,⟨(some 15),(.mv (.t 5)),0,none⟩,⟨(some 16),(.iaddr 2 (.t 14) (.t 15)),0,none⟩,⟨(some 17),(.faddr 0 (.t 16)),0,none⟩,⟨(some 18),(.load false [.str] (.t 17)),0,none⟩,⟨(some 19),(.len 0 (.t 18)),0,none⟩,⟨(some 20),(.bin .num .gtr (.t 19) (.c (.int .i64 40))),0,none⟩] none) (.cond (.t 20) (.seq (.reg [⟨(some 4),(.mv (.c (.bool false))),0,none⟩] none) .ret) .skip))) (.reg [⟨(some 11),(.mv (.t 5)),0,none⟩,⟨(some 12),(.bin .num .add (.t 11) (.c (.int .i64 1))),0,none⟩,⟨(some 5),(.mv (.t 12)),0,none⟩] none)))))) (.seq (.reg [⟨(some 21),(.faddr 1 (.t 2)),0,none⟩,⟨(some 22),(.load false [(.sl 2)] (.t 21)),0,none⟩,⟨(some 23),(.len 1 (.t 22)),0,none⟩,⟨(some 24),(.mv (.t 1)),0,none⟩,⟨(some 25),(.bin .num .leq (.t 23) (.t 24)),0,none⟩,⟨(some 4),(.mv (.t 25)),0,none⟩] none) .ret)))
def QB:List IRes:=[(.tmp 4)]
abbrev b5q:Nat:=26
def Jo:ZG:=Xo []
theorem c0h{G:PV->Prop}(l:Lin)(n:Int)(h:At Jo 0 (Zg QB G) Qg 0 26 [(1,(.pv (.int .i64 n))),(2,(.ptr 0 0)),(5,(.pv (.int .i64 0)))] [(.obj (.box [(.pv (.int .i64 l.k)),(.pv (.sl 2 false (List.map enc l.t)))]))]):Ze Jo 0 (Zg QB G) Qg [] (Y2 26 [enc l,enc n]):=Ze.tp (.nil) h (by kernel_rfl)
theorem Ed{G:PV->Prop}(l:Lin)(n:Int)(i:Int)(h:if (decide (i<(↑(List.length (List.map enc l.t)):Int)))=true then(decide (0<=i)&&decide (Int.toNat i<List.length (List.map enc l.t))&&Enc.sz Coef==2)=true∧(∃ y0:Coef,AV.pv (PV.rptr (PV.cells (List.getD (List.map enc l.t) (Int.toNat i) default)))=AV.pv (PV.rptr (PV.cells ((enc) y0)))∧(if (decide ((↑(List.length (PV.asStr (List.getD (List.drop 0 (PV.cells (enc y0))) 0 default))):Int)>40))=true then G ((.bool false))else(At Jo 0 (Zg QB G) Qg 0 26 [(1,(.pv (.int .i64 n))),(2,(.ptr 0 0)),(5,(.pv (.int .i64 (IntKind.wrap IntKind.i64 (i+1)))))] [(.obj (.box [(.pv (.int .i64 l.k)),(.pv (.sl 2 false (List.map enc l.t)))]))])))else(G ((.bool (decide ((↑(List.length (List.map enc l.t)):Int)<=n)))))):At Jo 0 (Zg QB G) Qg 0 26 [(1,.pv (.int .i64 n)),(2,.ptr 0 0),(5,.pv (.int .i64 i))] [.obj (.box [.pv (.int .i64 l.k),.pv (enc l.t)])]:=At.tp (.lit (.ask (.req (.abs (Coef) (fun YY=>AV.pv (PV.rptr (PV.cells ((enc) YY)))) (.lit (.lit (.ask (.nil) (.lit (.nil))))))) (.lit (.nil)))) h (by kernel_rfl)
-- IMPOSSIBLE
def UA:IC:=(.seq (.reg [⟨(some 2),(.box 2 (.t 0)),0,none⟩,⟨(some 3),(.box 2 (.t 1)),1,none⟩,⟨(some 4),(.mv (.c (.int .i64 0))),2,none⟩] none) (.seq (.seq (.reg [⟨(some 5),(.mv (.c (.int .i64 0))),0,none⟩] none) (.block 0 (.loop [5,2,3] (.seq (.seq (.reg [⟨(some 8),(.mv (.t 5)),0,none⟩,⟨(some 9),(.faddr 1 (.t 2)),0,none⟩,⟨(some 10),(.load false [(.sl 2)] (.t 9)),0,none⟩,⟨(some 11),(.len 1 (.t 10)),0,none⟩,⟨(some 12),(.bin .num .lss (.t 8) (.t 11)),0,none⟩,⟨(some 13),(.mv (.t 12)),0,none⟩,⟨(some 14),(.mv (.t 5)),0,(some (13,true))⟩,⟨(some 15),(.faddr 1 (.t 3)),0,(some (13,true))⟩,⟨(some 16),(.load false [(.sl 2)] (.t 15)),0,(some (13,true))⟩,⟨(some 17),(.len 1 (.t 16)),0,(some (13,true))⟩,⟨(some 18),(.bin .num .lss (.t 14) (.t 17)),0,(some (13,true))⟩,⟨(some 19),(.pick (.t 13) (.t 18) (.c (.bool false))),0,none⟩] none) (.cond (.t 19) .skip (.exit 0))) (.seq (.block 1 (.seq (.reg [⟨(some 22),(.faddr 1 (.t 2)),0,none⟩,⟨(some 23),(.load false [(.sl 2)] (.t 22)),0,none⟩,⟨(some 24),(.mv (.t 5)),0,none⟩,⟨(some 25),(.iaddr 2 (.t 23) (.t 24)),0,none⟩,⟨(some 26),(.load true [.str,(.int .i64)] (.t 25)),0,none⟩,⟨(some 27),(.faddr 1 (.t 3)),0,none⟩,⟨(some 28),(.load false [(.sl 2)] (.t 27)),0,none⟩,⟨(some 29),(.mv (.t 5)),0,none⟩,⟨(some 30),(.iaddr 2 (.t 28) (.t 29)),0,none⟩,⟨(some 31),(.load true [.str,(.int .i64)] (.t 30)),0,none⟩,⟨(some 6),(.alloc (.agg [(.str []),(.int .i64 0)])),0,none⟩,⟨(some 7),(.alloc (.agg [(.str []),(.int .i64 0)])),1,none⟩,⟨none,(.store 2 (.t 6) (.t 26)),2,none⟩,⟨none,(.store 2 (.t 7) (.t 31)),2,none⟩] (some [[],[0],[],[1,2,0],[3,1,2,0],[],[5],[],[6,7,5],[8,6,7,5],[],[],[10,4,0,1,2,3,11],[11,9,12,0,1,2,3,4,5,6,7,8,10]])) (.block 2 (.seq (.reg [⟨(some 33),(.faddr 0 (.t 6)),0,none⟩,⟨(some 34),(.load false [.str] (.t 33)),0,none⟩,⟨(some 35),(.faddr 0 (.t 7)),0,none⟩,⟨(some 36),(.load false [.str] (.t 35)),0,none⟩,⟨(some 37),(.bin .num .lss (.t 34) (.t 36)),0,none⟩,⟨(some 38),(.mv (.t 37)),0,none⟩,⟨(some 39),(.faddr 0 (.t 6)),0,(some (38,false))⟩,⟨(some 40),(.load false [.str] (.t 39)),0,(some (38,false))⟩,⟨(some 41),(.faddr 0 (.t 7)),0,(some (38,false))⟩,⟨(some 42),(.load false [.str] (.t 41)),0,(some (38,false))⟩,⟨(some 43),(.bin .num .eql (.t 40) (.t 42)),0,(some (38,false))⟩,⟨(some 44),(.mv (.t 43)),0,(some (38,false))⟩,⟨(some 45),(.faddr 1 (.t 6)),0,(some (44,true))⟩,⟨(some 46),(.load false [(.int .i64)] (.t 45)),0,(some (44,true))⟩,⟨(some 47),(.faddr 1 (.t 7)),0,(some (44,true))⟩,⟨(some 48),(.load false [(.int .i64)] (.t 47)),0,(some (44,true))⟩,⟨(some 49),(.bin .num .lss (.t 46) (.t 48)),0,(some (44,true))⟩,⟨(some 50),(.pick (.t 44) (.t 49) (.c (.bool false))),0,(some (38,false))⟩,⟨(some 51),(.pick (.t 38) (.c (.bool true)) (.t 50)),0,none⟩,⟨(some 32),(.mv (.t 51)),0,none⟩] none) (.cond (.t 32) (.seq (.reg [⟨(some 4),(.mv (.c (.int .i64 (-1)))),0,none⟩] none) .ret) (.seq (.reg [⟨(some 53),(.load true [.str,(.int .i64)] (.t 6)),0,none⟩,⟨(some 54),(.load true [.str,(.int .i64)] (.t 7)),0,none⟩,⟨(some 55),(.bin (.agg [1,0]) .neq (.t 53) (.t 54)),0,none⟩,⟨(some 52),(.mv (.t 55)),0,none⟩] none) (.cond (.t 52) (.seq (.reg [⟨(some 4),(.mv (.c (.int .i64 1))),0,none⟩] none) .ret) .skip))))))) (.reg [⟨(some 20),(.mv (.t 5)),0,none⟩,⟨(some 21),(.bin .num .add (.t 20) (.c (.int .i64 1))),0,none⟩,⟨(some 5),(.mv (.t 21)),0,none⟩] none)))))) (.seq (.block 3 (.seq (.reg [⟨(some 57),(.faddr 1 (.t 2)),0,none⟩,⟨(some 58),(.load false [(.sl 2)] (.t 57)),0,none⟩,⟨(some 59),(.len 1 (.t 58)),0,none⟩,⟨(some 60),(.faddr 1 (.t 3)),0,none⟩,⟨(some 61),(.load false [(.sl 2)] (.t 60)),0,none⟩,⟨(some 62),(.len 1 (.t 61)),0,none⟩,⟨(some 63),(.bin .num .lss (.t 59) (.t 62)),0,none⟩,⟨(some 64),(.mv (.t 63)),0,none⟩,⟨(some 65),(.faddr 1 (.t 2)),0,(some (64,false))⟩,⟨(some 66),(.load false [(.sl 2)] (.t 65)),0,(some (64,false))⟩,⟨(some 67),(.len 1 (.t 66)),0,(some (64,false))⟩,⟨(some 68),(.faddr 1 (.t 3)),0,(some (64,false))⟩,⟨(some 69),(.load false [(.sl 2)] (.t 68)),0,(some (64,false))⟩,⟨(some 70),(.len 1 (.t 69)),0,(some (64,false))⟩,⟨(some 71),(.bin .num .eql (.t 67) (.t 70)),0,(some (64,false))⟩,⟨(some 72),(.mv (.t 71)),0,(some (64,false))⟩,⟨(some 73),(.faddr 0 (.t 2)),0,(some (72,true))⟩,⟨(some 74),(.load false [(.int .i64)] (.t 73)),0,(some (72,true))⟩,⟨(some 75),(.faddr 0 (.t 3)),0,(some (72,true))⟩,⟨(some 76),(.load false [(.int .i64)] (.t 75)),0,(some (72,true))⟩,⟨(some 77),(.bin .num .lss (.t 74) (.t 76)),0,(some (72,true))⟩,⟨(some 78),(.pick (.t 72) (.t 77) (.c (.bool false))),0,(some (64,false))⟩,⟨(some 79),(.pick (.t 64) (.c (.bool true)) (.t 78)),0,none⟩,⟨(some 56),(.mv (.t 79)),0,none⟩] none) (.cond (.t 56) (.seq (.reg [⟨(some 4),(.mv (.c (.int .i64 (-1)))),0,none⟩] none) .ret) (.seq (.reg [⟨(some 81),(.faddr 1 (.t 2)),0,none⟩,⟨(some 82),(.load false [(.sl 2)] (.t 81)),0,none⟩,⟨(some 83),(.len 1 (.t 82)),0,none⟩,⟨(some 84),(.faddr 1 (.t 3)),0,none⟩,⟨(some 85),(.load false [(.sl 2)] (.t 84)),0,none⟩,⟨(some 86),(.len 1 (.t 85)),0,none⟩,⟨(some 87),(.bin .num .gtr (.t 83) (.t 86)),0,none⟩,⟨(some 88),(.mv (.t 87)),0,none⟩,⟨(some 89),(.faddr 0 (.t 2)),0,(some (88,false))⟩,⟨(some 90),(.load false [(.int .i64)] (.t 89)),0,(some (88,false))⟩,⟨(some 91),(.faddr 0 (.t 3)),0,(some (88,false))⟩,⟨(some 92),(.load false [(.int .i64)] (.t 91)),0,(some (88,false))⟩,⟨(some 93),(.bin .num .gtr (.t 90) (.t 92)),0,(some (88,false))⟩,⟨(some 94),(.pick (.t 88) (.c (.bool true)) (.t 93)),0,none⟩,⟨(some 80),(.mv (.t 94)),0,none⟩] none) (.cond (.t 80) (.seq (.reg [⟨(some 4),(.mv (.c (.int .i64 1))),0,none⟩] none) .ret) .skip))))) (.seq (.reg [⟨(some 4),(.mv (.c (.int .i64 0))),0,none⟩] none) .ret))))
def UB:List IRes:=[(.tmp 4)]
abbrev b4s:Nat:=95
def Q8:ZG:=Xo []
theorem c0n{G:PV->Prop}(a b:Lin)(h:At Q8 0 (Zg UB G) UA 0 95 [(2,(.ptr 0 0)),(3,(.ptr 1 0)),(5,(.pv (.int .i64 0)))] [(.obj (.box [(.pv (.int .i64 a.k)),(.pv (.sl 2 false (List.map enc a.t)))])),(.obj (.box [(.pv (.int .i64 b.k)),(.pv (.sl 2 false (List.map enc b.t)))]))]):Ze Q8 0 (Zg UB G) UA [] (Y2 95 [enc a,enc b]):=Ze.tp (.nil) h (by kernel_rfl)
theorem OJ{G:PV->Prop}(a b:Lin)(i:Int)(h:if (decide (i<(↑(List.length (List.map enc a.t)):Int)))=true then if (decide (i<(↑(List.length (List.map enc b.t)):Int)))=true then(decide (0<=i)&&decide (Int.toNat i<List.length (List.map enc a.t))&&Enc.sz Coef==2)=true∧(∃ y0:Coef,AV.pv (PV.rptr (PV.cells (List.getD (List.map enc a.t) (Int.toNat i) default)))=AV.pv (PV.rptr (PV.cells ((enc) y0)))∧((decide (0<=i)&&decide (Int.toNat i<List.length (List.map enc b.t))&&Enc.sz Coef==2)=true∧(∃ y1:Coef,AV.pv (PV.rptr (PV.cells (List.getD (List.map enc b.t) (Int.toNat i) default)))=AV.pv (PV.rptr (PV.cells ((enc) y1)))∧(if (Op.bytesLess (PV.asStr (List.getD (PV.cells (enc y0)) 0 default)) (PV.asStr (List.getD (PV.cells (enc y1)) 0 default)))=true then G ((.int .i64 (-1)))else(if (PV.asStr (List.getD (PV.cells (enc y0)) 0 default)==PV.asStr (List.getD (PV.cells (enc y1)) 0 default))=true then if (decide (PV.asInt (List.getD (PV.cells (enc y0)) (0+1) default)<PV.asInt (List.getD (PV.cells (enc y1)) (0+1) default)))=true then G ((.int .i64 (-1)))else(if (!(PV.asStr (List.getD (PV.cells (enc y0)) 0 default)==PV.asStr (List.getD (PV.cells (enc y1)) 0 default)&&(PV.asInt (List.getD (PV.cells (enc y0)) (0+1) default)==PV.asInt (List.getD (PV.cells (enc y1)) (0+1) default)&&true)))=true then G ((.int .i64 1))else(At Q8 0 (Zg UB G) UA 0 95 [(2,(.ptr 0 0)),(3,(.ptr 1 0)),(5,(.pv (.int .i64 (IntKind.wrap IntKind.i64 (i+1)))))] [(.obj (.box [(.pv (.int .i64 a.k)),(.pv (.sl 2 false (List.map enc a.t)))])),(.obj (.box [(.pv (.int .i64 b.k)),(.pv (.sl 2 false (List.map enc b.t)))]))]))else(if (!(PV.asStr (List.getD (PV.cells (enc y0)) 0 default)==PV.asStr (List.getD (PV.cells (enc y1)) 0 default)&&(PV.asInt (List.getD (PV.cells (enc y0)) (0+1) default)==PV.asInt (List.getD (PV.cells (enc y1)) (0+1) default)&&true)))=true then G ((.int .i64 1))else(At Q8 0 (Zg UB G) UA 0 95 [(2,(.ptr 0 0)),(3,(.ptr 1 0)),(5,(.pv (.int .i64 (IntKind.wrap IntKind.i64 (i+1)))))] [(.obj (.box [(.pv (.int .i64 a.k)),(.pv (.sl 2 false (List.map enc a.t)))])),(.obj (.box [(.pv (.int .i64 b.k)),(.pv (.sl 2 false (List.map enc b.t)))]))])))))))else(if (decide ((↑(List.length (List.map enc a.t)):Int)<(↑(List.length (List.map enc b.t)):Int)))=true then G ((.int .i64 (-1)))else(if ((↑(List.length (List.map enc a.t)):Int)==(↑(List.length (List.map enc b.t)):Int))=true then if (decide (a.k<b.k))=true then G ((.int .i64 (-1)))else(if (decide ((↑(List.length (List.map enc a.t)):Int)>(↑(List.length (List.map enc b.t)):Int)))=true then G ((.int .i64 1))else(if (decide (a.k>b.k))=true then G ((.int .i64 1))else(G ((.int .i64 0)))))else(if (decide ((↑(List.length (List.map enc a.t)):Int)>(↑(List.length (List.map enc b.t)):Int)))=true then G ((.int .i64 1))else(if (decide (a.k>b.k))=true then G ((.int .i64 1))else(G ((.int .i64 0)))))))else(if (decide ((↑(List.length (List.map enc a.t)):Int)<(↑(List.length (List.map enc b.t)):Int)))=true then G ((.int .i64 (-1)))else(if ((↑(List.length (List.map enc a.t)):Int)==(↑(List.length (List.map enc b.t)):Int))=true then if (decide (a.k<b.k))=true then G ((.int .i64 (-1)))else(if (decide ((↑(List.length (List.map enc a.t)):Int)>(↑(List.length (List.map enc b.t)):Int)))=true then G ((.int .i64 1))else(if (decide (a.k>b.k))=true then G ((.int .i64 1))else(G ((.int .i64 0)))))else(if (decide ((↑(List.length (List.map enc a.t)):Int)>(↑(List.length (List.map enc b.t)):Int)))=true then G ((.int .i64 1))else(if (decide (a.k>b.k))=true then G ((.int .i64 1))else(G ((.int .i64 0)))))))):At Q8 0 (Zg UB G) UA 0 95 [(2,.ptr 0 0),(3,.ptr 1 0),(5,.pv (.int .i64 i))] [.obj (.box [.pv (.int .i64 a.k),.pv (enc a.t)]),.obj (.box [.pv (.int .i64 b.k),.pv (enc b.t)])]:=At.tp (.lit (.ask (.lit (.lit (.lit (.lit (.lit (.lit (.ask (.req (.abs (Coef) (fun YY=>AV.pv (PV.rptr (PV.cells ((enc) YY)))) (.lit (.req (.abs (Coef) (fun YY=>AV.pv (PV.rptr (PV.cells ((enc) YY)))) (.lit (.lit (.ask (.lit (.lit (.lit (.lit (.lit (.lit (.lit (.lit (.nil))))))))) (.lit (.lit (.lit (.lit (.lit (.lit (.ask (.lit (.lit (.lit (.lit (.lit (.lit (.lit (.lit (.ask (.nil) (.lit (.ask (.nil) (.lit (.nil))))))))))))) (.lit (.lit (.lit (.lit (.lit (.lit (.lit (.lit (.lit (.ask (.nil) (.lit (.nil))))))))))))))))))))))))))) (.lit (.ask (.lit (.lit (.lit (.lit (.lit (.lit (.lit (.lit (.lit (.lit (.nil))))))))))) (.lit (.lit (.lit (.lit (.lit (.lit (.lit (.lit (.ask (.lit (.lit (.lit (.lit (.lit (.lit (.lit (.lit (.ask (.nil) (.lit (.ask (.lit (.lit (.lit (.lit (.lit (.lit (.nil))))))) (.lit (.lit (.lit (.lit (.lit (.lit (.ask (.nil) (.nil))))))))))))))))))) (.lit (.lit (.lit (.lit (.lit (.lit (.lit (.lit (.lit (.ask (.lit (.lit (.lit (.lit (.lit (.lit (.nil))))))) (.lit (.lit (.lit (.lit (.lit (.lit (.ask (.nil) (.nil)))))))))))))))))))))))))))))))))))) (.lit (.lit (.lit (.lit (.lit (.lit (.lit (.ask (.lit (.lit (.lit (.lit (.lit (.lit (.lit (.lit (.lit (.lit (.nil))))))))))) (.lit (.lit (.lit (.lit (.lit (.lit (.lit (.lit (.ask (.lit (.lit (.lit (.lit (.lit (.lit (.lit (.lit (.ask (.nil) (.lit (.ask (.lit (.lit (.lit (.lit (.lit (.lit (.nil))))))) (.lit (.lit (.lit (.lit (.lit (.lit (.ask (.nil) (.nil))))))))))))))))))) (.lit (.lit (.lit (.lit (.lit (.lit (.lit (.lit (.lit (.ask (.lit (.lit (.lit (.lit (.lit (.lit (.nil))))))) (.lit (.lit (.lit (.lit (.lit (.lit (.ask (.nil) (.nil))))))))))))))))))))))))))))))))))))) h (by kernel_rfl)
def Lv:IC:=(.seq (.reg [⟨(some 2),(.box 2 (.t 0)),0,none⟩,⟨(some 3),(.box 2 (.t 1)),1,none⟩,⟨(some 4),(.mv (.c (.bool false))),2,none⟩] none) (.seq (.reg [⟨(some 5),(.load true [(.int .i64),(.sl 2)] (.t 2)),0,none⟩,⟨(some 6),(.load true [(.int .i64),(.sl 2)] (.t 3)),0,none⟩,⟨(some 7),(.call (.c (.fn 49)) [(.t 5),(.t 6)]),0,none⟩,⟨(some 8),(.bin .num .eql (.t 7) (.c (.int .i64 0))),2,none⟩,⟨(some 4),(.mv (.t 8)),2,none⟩] none) .ret))
def LA:List IRes:=[(.tmp 4)]
abbrev b8a:Nat:=9
def a9c:ZG:=Xo [(49,.pure (preT (fun x:Lin×Lin×Unit=>ZL x.1)) (Zo (fun x:Lin×Lin×Unit=>Qe x.1 x.2.1)))]
theorem c1r{G:PV->Prop}(a b:Lin)(h:(Go.Pl.preT (fun(x:Lin×Lin×Unit)=>ZL x.1) [(.agg [(.int .i64 a.k),(.sl 2 false (List.map enc a.t))]),(.agg [(.int .i64 b.k),(.sl 2 false (List.map enc b.t))])])=true∧(∃ y0:Int,AV.pv (Zo (fun(x:Lin×Lin×Unit)=>Qe x.1 x.2.1) [(.agg [(.int .i64 a.k),(.sl 2 false (List.map enc a.t))]),(.agg [(.int .i64 b.k),(.sl 2 false (List.map enc b.t))])])=AV.pv (enc y0)∧(G ((.bool (y0==0)))))):Ze a9c 0 (Zg LA G) Lv [] (Y2 9 [enc a,enc b]):=Ze.tp (.req (.abs (Int) (fun YY=>AV.pv (enc YY)) (.lit (.nil)))) h (by kernel_rfl)
end Go.Pl

namespace Go.Pl
open Go.RowKit
open Enc (enc dec is)
open EncL (encL decL isL)
theorem a6f(c:UInt8):digB c=(decide ((c.toNat:Int) ≥ 48)&&decide ((c.toNat:Int)<=57)):=by
 simp only[digB,UInt8.le_iff_toNat_le,ge_iff_le]
 have e1:(48:UInt8).toNat=48:=rfl
 have e2:(57:UInt8).toNat=57:=rfl
 rw[e1,e2]
 congr 1 <;> exact decide_eq_decide.2 (by omega)
theorem b1i(c:UInt8):Wm c=(decide ((c.toNat:Int) ≥ 97)&&decide ((c.toNat:Int)<=122)):=by
 simp only[Wm,UInt8.le_iff_toNat_le,ge_iff_le]
 have e1:(97:UInt8).toNat=97:=rfl
 have e2:(122:UInt8).toNat=122:=rfl
 rw[e1,e2]
 congr 1 <;> exact decide_eq_decide.2 (by omega)
theorem Cu{a b:Bool}{G:PV->Prop}(h:G (.bool (a&&b))):if a=true then G (.bool b)else G (.bool false):=by cases a <;> simpa using h
theorem a6d: ∀ a:UInt8×Unit,true=true->Ze FW 0 (Zg Ro (ZB (digB a.1))) D9 [] (Y2 b6v (encL a)):=by
 rintro⟨c,⟨⟩⟩ -
 exact b9a c (Cu (YI (a6f c).symm))
theorem a9n: ∀ a:UInt8×Unit,true=true->Ze Fz 0 (Zg R9 (ZB (digB a.1))) T9 [] (Y2 b3a (encL a)):=by
 rintro⟨c,⟨⟩⟩ -
 exact b9q c (Cu (YI (a6f c).symm))
theorem b1m: ∀ a:UInt8×Unit,true=true->Ze LX 0 (Zg Rq (ZB (Wm a.1))) Rm [] (Y2 b2l (encL a)):=by
 rintro⟨c,⟨⟩⟩ -
 exact b9u c (Cu (YI (b1i c).symm))
theorem FX: ∀ a:Int×Unit,true=true->Ze CU 0 (Zg Gs (ZB (Z8 a.1))) KE [] (Y2 a1b (encL a)):=by
 rintro⟨n,⟨⟩⟩ -
 exact a3n n (Cu (YI rfl))
theorem b3x: ∀ a:Int×Unit,true=true->Ze a4y 0 (Zg FE (ZB (Z8 a.1))) Fb [] (Y2 b9m (encL a)):=by
 rintro⟨n,⟨⟩⟩ -
 exact c2o n (Cu (YI rfl))
theorem a4l(s:List UInt8)(hs:s.length<=30): ∀ (j i:Nat),j+i=s.length->At Wp 0 (Zg Xp (ZB ((s.drop i).all digB))) Xy 0 62 [(0,.pv (.str s)),(3,.pv (.int .i64 i))] []:=by
 intro j
 induction j with
 | zero=>
  intro i hi
  refine Mj s i ?_
  rw[if_neg (Kb (by omega))]
  exact YI (by rw[List.drop_of_length_le (by omega)];rfl)
 | succ j ih=>
  intro i hi
  have hlt:i<s.length:=by omega
  refine Mj s i ?_
  rw[if_pos (QQ hlt)]
  have eg:List.getD s (Int.toNat (i:Int)) 0=s[i]:=by simp[List.getD,hlt]
  rw[eg,next (by omega)]
  refine⟨by simp[hlt],Zt (s[i],()) rfl rfl,Zz (s[i],()) rfl ?_⟩
  rw[List.drop_eq_getElem_cons hlt,List.all_cons]
  show if (!digB s[i])=true then _ else _
  cases hd:digB s[i]
  ·exact YI rfl
  ·rw[if_neg (by simp)]
   simpa using ih (i+1) (by omega)
theorem b0i(s:List UInt8)(hs:s.length<=30): ∀ (j i:Nat),j+i=s.length->0<i->At Wp 0 (Zg Xp (ZB ((s.drop i).all fun c=>Wm c||digB c))) Xy 1 62 [(0,.pv (.str s)),(4,.pv (.int .i64 i))] []:=by
 intro j
 induction j with
 | zero=>
  intro i hi _
  refine Cv s i ?_
  rw[if_neg (Kb (by omega))]
  exact YI (by rw[List.drop_of_length_le (by omega)];rfl)
 | succ j ih=>
  intro i hi h0
  have hlt:i<s.length:=by omega
  refine Cv s i ?_
  rw[if_pos (QQ hlt)]
  have eg:List.getD s (Int.toNat (i:Int)) 0=s[i]:=by simp[List.getD,hlt]
  rw[eg,next (by omega)]
  refine⟨by simp[hlt],Zt (s[i],()) rfl rfl,Zz (s[i],()) rfl ?_⟩
  rw[List.drop_eq_getElem_cons hlt,List.all_cons]
  show if (!Wm s[i])=true then _ else _
  cases hd:Wm s[i]
  ·rw[b7p,if_neg (by simp;omega)]
   refine⟨by simp[hlt],Zt (s[i],()) rfl rfl,Zz (s[i],()) rfl ?_⟩
   show if (!digB s[i])=true then _ else _
   cases hd:digB s[i]
   ·exact YI rfl
   ·rw[if_neg (by simp)]
    simpa using ih (i+1) (by omega) (by omega)
  ·rw[if_neg (by simp)]
   simpa using ih (i+1) (by omega) (by omega)
theorem a1k: ∀ a:Str×Unit,true=true->Ze Wp 0 (Zg Xp (ZB (Yc a.1))) Xy [] (Y2 a7f (encL a)):=by
 rintro⟨⟨s⟩,⟨⟩⟩ -
 refine b3z s ?_
 cases s with
 | nil=>exact YI rfl
 | cons c r=>
  rw[if_neg (by simp;omega)]
  by_cases h30:((c::r).length:Int)>30
  ·rw[if_pos (by simpa using h30)]
   refine YI ?_
   have : ¬ r.length<=29:=by simp at h30;omega
   have h9 : ¬ r.length<=9:=by omega
   simp[Yc,this,h9]
  ·rw[if_neg (by simpa using h30)]
   have hl:(c::r).length<=30:=by omega
   refine⟨by simp,?_⟩
   show if ((c.toNat:Int)==95)=true then _ else _
   by_cases hc:c=95
   ·subst hc
    rw[if_pos (by rfl)]
    simp only[Yc,if_true]
    cases r with
    | nil=>exact YI rfl
    | cons d r=>
     rw[if_neg (by simp;omega)]
     by_cases h10:((95::d::r:List UInt8).length:Int)>10
     ·rw[if_pos (by simpa using h10)]
      refine YI ?_
      have:decide ((d::r).length<=9)=false:=decide_eq_false (by simp at h10 ⊢;omega)
      rw[this,Bool.and_false]
     ·rw[if_neg (by simpa using h10)]
      refine⟨by simp,?_⟩
      show if ((d.toNat:Int)==48)=true then _ else _
      by_cases hd:d=48
      ·subst hd
       rw[if_pos (by rfl)]
       exact YI (by simp)
      ·rw[if_neg (by exact b7q 48 hd (by omega))]
       have h:=a4l (95::d::r) hl (d::r).length 1 (by simp)
       have e:(d::r).length<=9:=by simp at h10 ⊢;omega
       have e2:((d::r).all digB&& !(d::r).isEmpty&&decide ((d::r).head? ≠ some 48)&&decide ((d::r).length<=9))=(d::r).all digB:=by rw[decide_eq_true e,show decide ((d::r).head? ≠ some (48:UInt8))=true by simpa using hd];simp
       rw[e2]
       exact h
   ·rw[if_neg (by exact b7q 95 hc (by omega))]
    refine Cv (c::r) 0 ?_
    rw[if_pos (by simp)]
    refine⟨by simp,Zt (c,()) rfl rfl,Zz (c,()) rfl ?_⟩
    show if (!Wm c)=true then _ else _
    have en:Yc ⟨c::r⟩=(Wm c&&r.all (fun c=>Wm c||digB c)):=by
     have:r.length<=29:=by simp at hl;omega
     simp[Yc,hc,this]
    rw[en]
    cases hlow:Wm c
    ·rw[b7p,if_pos (by rfl)]
     exact YI rfl
    ·rw[if_neg (by simp)]
     exact b0i (c::r) hl r.length 1 (by simp) (by omega)
end Go.Pl

namespace Go.Pl
open Go.RowKit
open Enc (enc dec is)
open EncL (encL decL isL)
def Cr(prev:Option (List UInt8)):List Coef->Bool
 | []=>true
 | t::r=>Yc t.v&&decide (t.c≠0)&&Z8 t.c&&(match prev with|none=>true|some p=>decide (p<t.v.s))&&Cr (some t.v.s) r
theorem J3(p:Option (List UInt8))(t:Coef)(r:List Coef):Cr p (t::r)=(Yc t.v&&decide (t.c≠0)&&Z8 t.c&&(match p with|none=>true|some p=>decide (p<t.v.s))&&Cr (some t.v.s) r):=by cases p <;> rfl
theorem NB: ∀ (l:List Coef) (p:List UInt8),Cr (some p) l=(l.all (fun t=>Yc t.v&&decide (t.c≠0)&&Z8 t.c)&&(match l with|[]=>true|t::_=>decide (p<t.v.s))&&DI l)
 | [],p=>by simp[Cr,DI]
 | t::r,p=>by
  rw[J3,NB r]
  cases r with
  | nil=>simp[DI]
  | cons u r=>
   simp only[List.all_cons,DI]
   ac_rfl
theorem b2b(l:List Coef):Cr none l=(l.all (fun t=>Yc t.v&&decide (t.c≠0)&&Z8 t.c)&&DI l):=by
 cases l with
 | nil=>simp[Cr,DI]
 | cons t r=>
  rw[J3,NB r]
  cases r with
  | nil=>simp[DI]
  | cons u r=>
   simp only[List.all_cons,DI,Bool.and_true]
   ac_rfl
theorem Mf(l:Lin):Zm l=(Z8 l.k&&decide (l.t.length<=12)&&Cr none l.t):=by
 rw[b2b,Zm]
 ac_rfl
def pvS(ts:List Coef):Nat->Option (List UInt8)
 | 0=>none
 | i+1=>(ts[i]?).map (·.v.s)
theorem Ei{k:Nat}(h:k<9223372036854775807):IntKind.i64.wrap (((k+1:Nat):Int) - 1)=(k:Int):=by rw[Yd (by omega) (by omega)];omega
theorem Nk(l:Lin)(hl:l.t.length<=9223372036854775807): ∀ (j i:Nat),j+i=l.t.length->At WZ 0 (Zg X3 (ZB (Cr (pvS l.t i) (l.t.drop i)))) X4 0 58 [(1,.ptr 0 0),(3,.pv (.int .i64 i))] [.obj (.box [.pv (.int .i64 l.k),.pv (enc l.t)])]:=by
 intro j
 induction j with
 | zero=>
  intro i hi
  refine Tc l i ?_
  rw[if_neg (OZ (by omega))]
  exact YI (by rw[List.drop_of_length_le (by omega)];rfl)
 | succ j ih=>
  intro i hi
  have hlt:i<l.t.length:=by omega
  have h:=ih (i+1) (by omega)
  refine Tc l i ?_
  simp only[co1,co2,co3,co4]
  refine Zx (O9 hlt) ⟨WS hlt rfl,Ux hlt (Zz (l.t[i].v,()) rfl (U3 (fun hn=> ?_) fun hn=>Gf (fun hc=> ?_) fun hc=>Zz (l.t[i].c,()) rfl (U3 (fun hk=> ?_) fun hk=> ?_)))⟩
  all_goals rw[List.drop_eq_getElem_cons hlt,J3]
  ·have hn:Yc l.t[i].v=false:=hn
   exact YI (by simp[hn])
  ·exact YI (by simp[hc])
  ·have hk:Z8 l.t[i].c=false:=hk
   exact YI (by simp[hk])
  have hn:Yc l.t[i].v=true:=hn
  have hk:Z8 l.t[i].c=true:=hk
  rw[next (by omega),hn,hk,decide_eq_true hc]
  have ep:pvS l.t (i+1)=some l.t[i].v.s:=by simp[pvS,hlt]
  rw[ep]at h
  cases i with
  | zero=>exact Zy (by simp) h
  | succ i=>
   refine Zx (by simp) ?_
   rw[Ei (by omega)]
   refine⟨WS (by omega) rfl,Ux (by omega) ?_⟩
   have e2:pvS l.t (i+1)=some l.t[i].v.s:=by simp[pvS,show i<l.t.length by omega]
   rw[e2]
   refine U3 (fun hb=> ?_) fun hb=> ?_
   all_goals
    have hb':=(WL l.t[i].v.s l.t[i+1].v.s).symm.trans hb
    simp only[hb',Bool.and_true,Bool.true_and,Bool.and_false,Bool.false_and]
   ·exact YI rfl
   ·exact h
theorem Fp: ∀ a:Lin×Unit,ZL a.1=true->Ze WZ 0 (Zg X3 (ZB (Zm a.1))) X4 [] (Y2 a0v (encL a)):=by
 rintro⟨l,⟨⟩⟩ hl
 have hl:l.t.length<=9223372036854775807:=by simpa [ZL]using hl
 refine a7a l (Zz (l.k,()) rfl ?_)
 show if (!Z8 l.k)=true then _ else _
 show if (!Z8 l.k)=true then ZB (Zm l) _ else if _ then ZB (Zm l) _ else At WZ 0 (Zg X3 (ZB (Zm l))) X4 0 58 _ _
 rw[Mf]
 cases hk:Z8 l.k
 ·exact YI rfl
 rw[c2n]
 by_cases h12:l.t.length<=12
 ·rw[if_neg (by simp;omega)]
  have h:=Nk l hl l.t.length 0 (by omega)
  simp only[h12,decide_true,Bool.true_and]
  exact h
 ·rw[if_pos (by simp;omega)]
  exact YI (by simp[h12])
theorem a0o(l:Lin)(n:Int)(hl:l.t.length<=9223372036854775807): ∀ (j i:Nat),j+i=l.t.length->At Jo 0 (Zg QB (ZB ((l.t.drop i).all (fun t=>decide (t.v.s.length<=40))&&decide ((l.t.length:Int)<=n)))) Qg 0 26 [(1,.pv (.int .i64 n)),(2,.ptr 0 0),(5,.pv (.int .i64 i))] [.obj (.box [.pv (.int .i64 l.k),.pv (enc l.t)])]:=by
 intro j
 induction j with
 | zero=>
  intro i hi
  exact Ed l n i (Zy (OZ (by omega)) (YI (by rw[List.drop_of_length_le (by omega),List.length_map];rfl)))
 | succ j ih=>
  intro i hi
  have hlt:i<l.t.length:=by omega
  have h:=ih (i+1) (by omega)
  refine Ed l n i (Zx (O9 hlt) ⟨WS hlt rfl,Ux hlt ?_⟩)
  rw[List.drop_eq_getElem_cons hlt,List.all_cons,next (by omega)]
  refine UT (fun h40=> ?_) fun h40=> ?_
  ·have h40:(l.t[i].v.s.length:Int)>40:=h40
   exact YI (by rw[decide_eq_false (show ¬ l.t[i].v.s.length<=40 by omega)];rfl)
  ·have h40 : ¬ (l.t[i].v.s.length:Int)>40:=h40
   rw[decide_eq_true (show l.t[i].v.s.length<=40 by omega),Bool.true_and]
   exact h
theorem b0n: ∀ a:Lin×Int×Unit,ZL a.1=true->Ze Jo 0 (Zg QB (ZB (C8 a.1 a.2.1))) Qg [] (Y2 b5q (encL a)):=by
 rintro⟨l,n,⟨⟩⟩ hl
 exact c0h l n (a0o l n (by simpa [ZL]using hl) l.t.length 0 (by omega))
end Go.Pl

namespace Go.Pl
open Go.RowKit
open Enc (enc dec is)
open EncL (encL decL isL)
end Go.Pl

namespace Go.Pl
open Go.RowKit
open Enc (enc dec is)
open EncL (encL decL isL)
def nS:Str:=⟨[110]⟩
theorem a2y(x:List UInt8):YQ [x]=[x]:=by simp[YQ]
end Go.Pl

namespace Go.Pl
open Go.RowKit
open Enc (enc dec is)
open EncL (encL decL isL)
def Ad(x y:List Coef)(a b:Int):Int:=if JR x y≠0 then JR x y else QY a b
theorem a2o(a b:Lin)(hl:a.t.length<=9223372036854775807): ∀ (m i:Nat),m+i=a.t.length->i<=b.t.length->At Q8 0 (Zg UB (ZB (Ad (a.t.drop i) (b.t.drop i) a.k b.k))) UA 0 95 [(2,.ptr 0 0),(3,.ptr 1 0),(5,.pv (.int .i64 i))] [.obj (.box [.pv (.int .i64 a.k),.pv (enc a.t)]),.obj (.box [.pv (.int .i64 b.k),.pv (enc b.t)])]:=by
 intro m
 induction m with
 | zero=>
  intro i hi hb
  refine OJ a b i (Zy (OZ (by omega)) ?_)
  rw[List.drop_of_length_le (show a.t.length<=i by omega)]
  refine UT (fun h1=> ?_) fun h1=> ?_
  ·simp only[List.length_map]at h1
   refine Ur ?_
   obtain⟨t,r,e⟩ : ∃ t r,b.t.drop i=t::r:=by
    cases e:b.t.drop i with
    | nil=>have:=List.length_drop (l:=b.t) (i:=i);rw[e]at this;simp at this;omega
    | cons t r=>exact⟨t,r,rfl⟩
   rw[e];rfl
  ·simp only[List.length_map]at h1
   have e:b.t.drop i=[]:=List.drop_of_length_le (by omega)
   rw[e]
   have hlen:(List.length (List.map (enc:Coef->PV) a.t):Int)=(List.length (List.map (enc:Coef->PV) b.t):Int):=by simp;omega
   refine Gf (fun _=> ?_) fun h=>absurd hlen h
   have ec:Ad [] [] a.k b.k=QY a.k b.k:=by simp[Ad,JR]
   rw[ec]
   unfold QY
   refine UT (fun h2=>Ur (by rw[if_pos h2])) fun h2=>UT (fun h3=>by simp only[List.length_map]at h3;omega) fun h3=>UT (fun h4=>Ur (by rw[if_neg h2,if_pos h4])) fun h4=>Ur (by rw[if_neg h2,if_neg h4])
 | succ m ih=>
  intro i hi hb
  have hlt:i<a.t.length:=by omega
  refine OJ a b i (Zx (O9 hlt) ?_)
  by_cases hlb:i<b.t.length
  ·have h:=ih (i+1) (by omega) (by omega)
   refine Zx (O9 hlb) ⟨WS hlt rfl,Ux hlt ⟨WS hlb rfl,Ux hlb ?_⟩⟩
   rw[List.drop_eq_getElem_cons hlt,List.drop_eq_getElem_cons hlb,next (by omega)]
   generalize a.t[i]=x at h ⊢
   generalize b.t[i]=y at h ⊢
   obtain⟨⟨xv⟩,xc⟩:=x
   obtain⟨⟨yv⟩,yc⟩:=y
   refine K4 (fun h1=> ?_) fun h1=> ?_
   ·have h1:xv<yv:=by have:=(WL xv yv).symm.trans h1;simpa using this
    exact Ur (by simp[Ad,JR,h1])
   have h1 : ¬ xv<yv:=by have:=(WL xv yv).symm.trans h1;simpa using this
   refine Gf (fun h2=> ?_) fun h2=> ?_
   ·have h2:xv=yv:=h2
    subst h2
    refine UT (fun h3=> ?_) fun h3=> ?_
    ·have h3:xc<yc:=h3
     exact Ur (by simp[Ad,JR,h1,h3])
    have h3 : ¬ xc<yc:=h3
    refine U3 (fun h4=> ?_) fun h4=> ?_
    ·have h4:(xv==xv&&(xc==yc&&true))=false:=h4
     have h4:xc≠yc:=by simpa using h4
     exact Ur (by simp[Ad,JR,h1,h3,h4])
    ·have h4:(xv==xv&&(xc==yc&&true))=true:=h4
     have h4:xc=yc:=by simpa using h4
     subst h4
     have e:Ad (⟨⟨xv⟩,xc⟩::a.t.drop (i+1)) (⟨⟨xv⟩,xc⟩::b.t.drop (i+1)) a.k b.k=Ad (a.t.drop (i+1)) (b.t.drop (i+1)) a.k b.k:=by simp[Ad,JR,List.lt_irrefl xv]
     rw[e]
     exact h
   ·have h2 : ¬ xv=yv:=h2
    refine U3 (fun h4=>Ur (by simp[Ad,JR,h1,h2])) fun h4=> ?_
    have h4:(xv==yv&&(xc==yc&&true))=true:=h4
    simp[h2]at h4
  ·refine Zy (OZ hlb) ?_
   obtain⟨t,r,e⟩ : ∃ t r,a.t.drop i=t::r:=⟨_,_,List.drop_eq_getElem_cons hlt⟩
   rw[e,List.drop_of_length_le (show b.t.length<=i by omega)]
   refine UT (fun h1=>by simp only[List.length_map]at h1;omega) fun h1=>Gf (fun h2=>by simp only[List.length_map]at h2;omega) fun h2=>UT (fun h3=>Ur (by simp[Ad,JR])) fun h3=>by simp only[List.length_map]at h3;omega
theorem a9m: ∀ a:Lin×Lin×Unit,ZL a.1=true->Ze Q8 0 (Zg UB (ZB (Qe a.1 a.2.1))) UA [] (Y2 b4s (encL a)):=by
 rintro⟨a,b,⟨⟩⟩ hl
 exact c0n a b (a2o a b (by simpa [ZL]using hl) a.t.length 0 (by omega) (by omega))
def c3d(a b:Lin):Bool:=Qe a b==0
theorem b5s: ∀ a:Lin×Lin×Unit,ZL a.1=true->Ze a9c 0 (Zg LA (ZB (c3d a.1 a.2.1))) Lv [] (Y2 b8a (encL a)):=by
 rintro⟨a,b,⟨⟩⟩ hl
 exact c1r a b ⟨Zt (a,b,()) rfl hl,Zz (a,b,()) rfl (YI rfl)⟩
end Go.Pl

namespace Go.Pl
open Go.RowKit
open Enc (enc dec is)
open EncL (encL decL isL)
theorem tri{x y:List UInt8}(h1 : ¬ x<y)(h2:x≠y):y<x:=Decidable.byContradiction fun h=>h2 (List.le_antisymm (List.not_lt.1 h) (List.not_lt.1 h1))
theorem c1g(s:Str)(c:Int)(t:Coef)(r:List Coef):U5 s c true (t::r)=(if t.v=s then⟨t.v,Xe (t.c+c)⟩else t)::U5 s c true r:=by
 rw[U5];simp only[Bool.not_true,Bool.false_and,Bool.false_eq_true,if_false,Bool.true_or,List.nil_append];split <;> rfl
theorem a8n(s:Str)(c:Int)(t:Coef)(r:List Coef):U5 s c false (t::r)=if s.s<t.v.s then⟨s,c⟩::t::U5 s c true r else if t.v=s then⟨t.v,Xe (t.c+c)⟩::U5 s c true r else t::U5 s c false r:=by
 rw[U5]
 by_cases h:s.s<t.v.s
 ·have : ¬ t.v=s:=fun e=>by rw[e]at h;exact List.lt_irrefl _ h
  simp[h,this]
 ·simp[h]
theorem Rw{a b:Str}:a=b ↔ a.s=b.s:=⟨fun h=>by rw[h],fun h=>by cases a;cases b;cases h;rfl⟩
end Go.Pl

namespace Go.Pl
open Go.RowKit
open Enc (enc dec is)
open EncL (encL decL isL)
set_option maxRecDepth 100000
end Go.Pl

namespace Go.Pl
open Go.RowKit
open Enc (enc dec is)
open EncL (encL decL isL)
end Go.Pl

namespace Go.Pl
open Go.RowKit
open Enc (enc dec is)
open EncL (encL decL isL)
set_option maxRecDepth 100000
def Xq:IC:=(.seq (.reg [⟨(some 2),(.mv (.c (.bool false))),0,none⟩] none) (.seq (.seq (.reg [⟨(some 7),(.mv (.t 0)),0,none⟩,⟨(some 8),(.call (.c (.fn 114)) [(.t 7),(.c (.str [95]))]),0,none⟩] none) (.cond (.t 8) (.seq (.reg [⟨(some 10),(.mv (.t 0)),0,none⟩,⟨(some 11),(.strslc (.t 10) (some (.c (.int .i64 1))) none),0,none⟩,⟨(some 12),(.call (.c (.fn 118)) [(.t 11)]),0,none⟩,⟨(some 9),(.mv (.t 12)),2,none⟩,⟨(some 13),(.extract (.t 9) 0),2,none⟩,⟨(some 14),(.extract (.t 9) 1),2,none⟩,⟨(some 3),(.mv (.t 13)),2,none⟩,⟨(some 4),(.mv (.t 14)),2,none⟩] none) (.seq (.reg [⟨(some 15),(.mv (.t 4)),0,none⟩,⟨(some 16),(.bin .ifc .eql (.t 15) (.c .nili)),0,none⟩,⟨(some 17),(.mv (.t 16)),0,none⟩,⟨(some 18),(.mv (.t 3)),0,(some (17,true))⟩,⟨(some 19),(.bin .num .gtr (.t 18) (.c (.int .i64 0))),0,(some (17,true))⟩,⟨(some 20),(.pick (.t 17) (.t 19) (.c (.bool false))),0,none⟩,⟨(some 21),(.mv (.t 20)),0,none⟩,⟨(some 22),(.mv (.t 0)),0,(some (21,true))⟩,⟨(some 23),(.len 0 (.t 22)),0,(some (21,true))⟩,⟨(some 24),(.bin .num .leq (.t 23) (.c (.int .i64 10))),0,(some (21,true))⟩,⟨(some 25),(.pick (.t 21) (.t 24) (.c (.bool false))),0,none⟩,⟨(some 26),(.mv (.t 25)),0,none⟩,⟨(some 27),(.mv (.t 3)),0,(some (26,true))⟩,⟨(some 28),(.call (.c (.fn 76)) [(.t 27)]),0,(some (26,true))⟩,⟨(some 29),(.mv (.t 0)),2,(some (26,true))⟩,⟨(some 30),(.strslc (.t 29) (some (.c (.int .i64 1))) none),2,(some (26,true))⟩,⟨(some 31),(.bin .num .eql (.t 28) (.t 30)),2,(some (26,true))⟩,⟨(some 32),(.pick (.t 26) (.t 31) (.c (.bool false))),2,none⟩,⟨(some 2),(.mv (.t 32)),2,none⟩] (some [[],[0],[1,0],[2,1,0],[3,2,1,0],[2,4,1,0,3],[5,2,4,1,0,3],[6,5,2,4,1,0,3],[7,6,5,2,4,1,0,3],[8,6,7,5,2,4,1,0,3],[6,9,5,2,4,1,0,3,8,7],[10,6,9,5,2,4,1,0,3,8,7],[11,10,6,9,5,2,4,1,0,3,8,7],[12,11,10,6,9,5,2,4,1,0,3,8,7],[11,10,6,9,5,2,4,1,0,3,8,7],[14,11,10,6,9,5,2,4,1,0,3,8,7],[13,15,11,12,10,6,9,5,2,4,1,0,3,8,7,14],[11,16,10,6,9,5,2,4,1,0,3,8,7,13,15,12,14],[17,13,0,1,2,3,4,5,6,7,8,9,10,11,12,14,15,16]])) .ret)) .skip)) (.seq (.seq (.reg [⟨(some 33),(.mv (.t 0)),0,none⟩,⟨(some 34),(.sbytes (.t 33)),0,none⟩,⟨(some 35),(.len 1 (.t 34)),0,none⟩,⟨(some 36),(.mv (.c (.int .i64 0))),0,none⟩] none) (.block 0 (.loop [36,35,34,0] (.seq (.reg [⟨(some 37),(.bin .num .lss (.t 36) (.t 35)),0,none⟩] none) (.seq (.cond (.t 37) .skip (.exit 0)) (.seq (.block 1 (.seq (.reg [⟨(some 38),(.mv (.t 36)),0,none⟩,⟨(some 39),(.iaddr 1 (.t 34) (.t 36)),0,none⟩,⟨(some 40),(.load false [(.int .u8)] (.t 39)),0,none⟩,⟨(some 5),(.mv (.t 38)),0,none⟩,⟨(some 6),(.mv (.t 40)),0,none⟩] none) (.seq (.reg [⟨(some 41),(.mv (.t 6)),0,none⟩,⟨(some 42),(.bin .num .lss (.t 41) (.c (.int .u8 97))),0,none⟩,⟨(some 43),(.mv (.t 42)),0,none⟩,⟨(some 44),(.mv (.t 6)),0,(some (43,false))⟩,⟨(some 45),(.bin .num .gtr (.t 44) (.c (.int .u8 122))),0,(some (43,false))⟩,⟨(some 46),(.pick (.t 43) (.c (.bool true)) (.t 45)),0,none⟩,⟨(some 47),(.mv (.t 46)),0,none⟩,⟨(some 48),(.mv (.t 5)),0,(some (47,true))⟩,⟨(some 49),(.bin .num .eql (.t 48) (.c (.int .i64 0))),0,(some (47,true))⟩,⟨(some 50),(.mv (.t 49)),0,(some (47,true))⟩,⟨(some 51),(.mv (.t 6)),0,(some (50,false))⟩,⟨(some 52),(.bin .num .lss (.t 51) (.c (.int .u8 48))),0,(some (50,false))⟩,⟨(some 53),(.pick (.t 50) (.c (.bool true)) (.t 52)),0,(some (47,true))⟩,⟨(some 54),(.mv (.t 53)),0,(some (47,true))⟩,⟨(some 55),(.mv (.t 6)),0,(some (54,false))⟩,⟨(some 56),(.bin .num .gtr (.t 55) (.c (.int .u8 57))),0,(some (54,false))⟩,⟨(some 57),(.pick (.t 54) (.c (.bool true)) (.t 56)),0,(some (47,true))⟩,⟨(some 58),(.pick (.t 47) (.t 57) (.c (.bool false))),0,none⟩] none) (.cond (.t 58) (.seq (.reg [⟨(some 2),(.mv (.c (.bool false))),0,none⟩] none) .ret) .skip)))) (.reg [⟨(some 59),(.bin .num .add (.t 36) (.c (.int .i64 1))),0,none⟩,⟨(some 36),(.mv (.t 59)),0,none⟩] none))))))) (.seq (.reg [⟨(some 60),(.mv (.t 0)),0,none⟩,⟨(some 61),(.bin .num .neq (.t 60) (.c (.str []))),0,none⟩,⟨(some 62),(.mv (.t 61)),0,none⟩,⟨(some 63),(.mv (.t 0)),0,(some (62,true))⟩,⟨(some 64),(.len 0 (.t 63)),0,(some (62,true))⟩,⟨(some 65),(.bin .num .leq (.t 64) (.c (.int .i64 30))),0,(some (62,true))⟩,⟨(some 66),(.pick (.t 62) (.t 65) (.c (.bool false))),0,none⟩,⟨(some 2),(.mv (.t 66)),0,none⟩] none) .ret))))
def Xu:List IRes:=[(.tmp 2)]
abbrev a7d:Nat:=67
def Wo:ZG:=Xo [(114,.pure (preT (fun _:Str×Str×Unit=>true)) (Zo (fun x:Str×Str×Unit=>x.2.1.s.isPrefixOf x.1.s))),(118,.pure (preT (fun x:Str×Unit=>decide (x.1.s.length<=1000000))) (Zo (fun x:Str×Unit=>Z6 x.1))),(76,.pure (preT (fun x:Int×Unit=>decide (-9223372036854775808<=x.1)&&decide (x.1<=9223372036854775807))) (Zo (fun x:Int×Unit=>Xr x.1)))]
theorem b6p{G:PV->Prop}(s:List UInt8)(h : ∃ y0:Bool,AV.pv (Zo (fun(x:Str×Str×Unit)=>List.isPrefixOf (Str.s x.2.1) (Str.s x.1)) [(.str s),(.str [(95:UInt8)])])=AV.pv (enc y0)∧(if (y0)=true then(decide (0<=1)&&true&&decide (Int.toNat 1<=List.length s)&&decide (List.length s<=List.length s))=true∧((Go.Pl.preT (fun(x:Str×Unit)=>decide (List.length (Str.s x.1)<=1000000)) [(.str (List.drop (Int.toNat 1) (List.take (List.length s) s)))])=true∧(∃ y1:Int×Er,AV.pv (Zo (fun(x:Str×Unit)=>Z6 x.1) [(.str (List.drop (Int.toNat 1) (List.take (List.length s) s)))])=AV.pv (enc y1)∧((Dt (enc y1.2)&&Prod.fst (true,PV.bool (VK (enc y1.2))))=true∧(if (VK (enc y1.2))=true then if (decide (y1.1>0))=true then if (decide ((↑(List.length s):Int)<=10))=true then(Go.Pl.preT (fun(x:Int×Unit)=>decide ((-9223372036854775808:Int)<=x.1)&&decide (x.1<=9223372036854775807)) [(.int .i64 y1.1)])=true∧(∃ y2:Str,AV.pv (Zo (fun(x:Int×Unit)=>Xr x.1) [(.int .i64 y1.1)])=AV.pv (enc y2)∧((decide (0<=1)&&true&&decide (Int.toNat 1<=List.length s)&&decide (List.length s<=List.length s))=true∧(G ((.bool (Str.s y2==List.drop (Int.toNat 1) (List.take (List.length s) s)))))))else(G ((.bool false)))else(G ((.bool false)))else(G ((.bool false)))))))else(At Wo 0 (Zg Xu G) Xq 0 67 [(0,(.pv (.str s))),(34,(.pv (.sl 1 false (Zr s)))),(35,(.pv (.int .i64 (↑(List.length (Zr s)):Int)))),(36,(.pv (.int .i64 0)))] []))):Ze Wo 0 (Zg Xu G) Xq [] (Y2 67 [.str s]):=Ze.tp (.lit (.abs (Bool) (fun YY=>AV.pv (enc YY)) (.ask (.req (.req (.abs (Int×Er) (fun YY=>AV.pv (enc YY)) (.req (.ask (.lit (.lit (.lit (.ask (.lit (.lit (.lit (.lit (.ask (.lit (.req (.abs (Str) (fun YY=>AV.pv (enc YY)) (.lit (.lit (.req (.lit (.lit (.lit (.nil)))))))))) (.lit (.lit (.lit (.lit (.lit (.nil))))))))))) (.lit (.lit (.lit (.lit (.lit (.lit (.lit (.lit (.lit (.nil)))))))))))))) (.lit (.lit (.lit (.lit (.lit (.lit (.lit (.lit (.lit (.lit (.lit (.lit (.nil)))))))))))))))))) (.nil)))) h (by kernel_rfl)
theorem PR{G:PV->Prop}(s:List UInt8)(i:Int)(h:if (decide (i<(↑(List.length (Zr s)):Int)))=true then(decide (0<=i)&&decide (Int.toNat i<List.length (Zr s))&&1==1)=true∧((decide (0+List.length [Sh.int IntKind.u8]<=List.length (PV.cells (List.getD (Zr s) (Int.toNat i) default)))&&KR (PV.cells (List.getD (Zr s) (Int.toNat i) default)) 0 [Sh.int IntKind.u8])=true∧(if (decide (PV.asInt (List.getD (PV.cells (List.getD (Zr s) (Int.toNat i) default)) 0 default)<97))=true then if (i==0)=true then G ((.bool false))else(if (decide (PV.asInt (List.getD (PV.cells (List.getD (Zr s) (Int.toNat i) default)) 0 default)<48))=true then G ((.bool false))else(if (decide (PV.asInt (List.getD (PV.cells (List.getD (Zr s) (Int.toNat i) default)) 0 default)>57))=true then G ((.bool false))else(At Wo 0 (Zg Xu G) Xq 0 67 [(0,(.pv (.str s))),(34,(.pv (.sl 1 false (Zr s)))),(35,(.pv (.int .i64 (↑(List.length (Zr s)):Int)))),(36,(.pv (.int .i64 (IntKind.wrap IntKind.i64 (i+1)))))] [])))else(if (decide (PV.asInt (List.getD (PV.cells (List.getD (Zr s) (Int.toNat i) default)) 0 default)>122))=true then if (i==0)=true then G ((.bool false))else(if (decide (PV.asInt (List.getD (PV.cells (List.getD (Zr s) (Int.toNat i) default)) 0 default)<48))=true then G ((.bool false))else(if (decide (PV.asInt (List.getD (PV.cells (List.getD (Zr s) (Int.toNat i) default)) 0 default)>57))=true then G ((.bool false))else(At Wo 0 (Zg Xu G) Xq 0 67 [(0,(.pv (.str s))),(34,(.pv (.sl 1 false (Zr s)))),(35,(.pv (.int .i64 (↑(List.length (Zr s)):Int)))),(36,(.pv (.int .i64 (IntKind.wrap IntKind.i64 (i+1)))))] [])))else(At Wo 0 (Zg Xu G) Xq 0 67 [(0,(.pv (.str s))),(34,(.pv (.sl 1 false (Zr s)))),(35,(.pv (.int .i64 (↑(List.length (Zr s)):Int)))),(36,(.pv (.int .i64 (IntKind.wrap IntKind.i64 (i+1)))))] []))))else(if (!s==[])=true then G ((.bool (decide ((↑(List.length s):Int)<=30))))else(G ((.bool false))))):At Wo 0 (Zg Xu G) Xq 0 67 [(0,.pv (.str s)),(34,.pv (.sl 1 false (Zr s))),(35,.pv (.int .i64 (Zr s).length)),(36,.pv (.int .i64 i))] []:=At.tp (.lit (.ask (.req (.keep (.req (.lit (.ask (.lit (.lit (.lit (.lit (.lit (.lit (.ask (.lit (.lit (.lit (.lit (.lit (.lit (.lit (.lit (.lit (.lit (.nil))))))))))) (.lit (.lit (.lit (.lit (.lit (.ask (.lit (.lit (.lit (.lit (.lit (.nil)))))) (.lit (.lit (.lit (.lit (.lit (.ask (.nil) (.lit (.nil))))))))))))))))))))) (.lit (.lit (.lit (.ask (.lit (.lit (.lit (.ask (.lit (.lit (.lit (.lit (.lit (.lit (.lit (.lit (.lit (.lit (.nil))))))))))) (.lit (.lit (.lit (.lit (.lit (.ask (.lit (.lit (.lit (.lit (.lit (.nil)))))) (.lit (.lit (.lit (.lit (.lit (.ask (.nil) (.lit (.nil)))))))))))))))))) (.lit (.lit (.lit (.lit (.lit (.lit (.lit (.lit (.nil)))))))))))))))))) (.lit (.ask (.lit (.lit (.lit (.lit (.nil))))) (.lit (.lit (.lit (.nil)))))))) h (by kernel_rfl)
def XZ:IC:=(.seq (.reg [⟨(some 1),(.box 2 (.t 0)),0,none⟩,⟨(some 2),(.mv (.c (.bool false))),1,none⟩] none) (.seq (.seq (.reg [⟨(some 5),(.faddr 1 (.t 1)),0,none⟩,⟨(some 6),(.load false [(.sl 2)] (.t 5)),0,none⟩,⟨(some 7),(.len 1 (.t 6)),0,none⟩,⟨(some 8),(.mv (.c (.int .i64 0))),0,none⟩] none) (.block 0 (.loop [8,7,6,1] (.seq (.reg [⟨(some 9),(.bin .num .lss (.t 8) (.t 7)),0,none⟩] none) (.seq (.cond (.t 9) .skip (.exit 0)) (.seq (.block 1 (.seq (.reg [⟨(some 10),(.mv (.t 8)),0,none⟩,⟨(some 11),(.iaddr 2 (.t 6) (.t 8)),0,none⟩,⟨(some 12),(.load true [.str,(.int .i64)] (.t 11)),0,none⟩,⟨(some 4),(.alloc (.agg [(.str []),(.int .i64 0)])),0,none⟩,⟨(some 3),(.mv (.t 10)),1,none⟩,⟨none,(.store 2 (.t 4) (.t 12)),1,none⟩] none) (.seq (.reg [⟨(some 13),(.faddr 0 (.t 4)),0,none⟩,⟨(some 14),(.load false [.str] (.t 13)),0,none⟩,⟨(some 15),(.call (.c (.fn 78)) [(.t 14)]),0,none⟩,⟨(some 16),(.un .not (.t 15)),2,none⟩,⟨(some 17),(.mv (.t 16)),2,none⟩,⟨(some 18),(.faddr 1 (.t 4)),2,(some (17,false))⟩,⟨(some 19),(.load false [(.int .i64)] (.t 18)),2,(some (17,false))⟩,⟨(some 20),(.bin .num .eql (.t 19) (.c (.int .i64 0))),2,(some (17,false))⟩,⟨(some 21),(.pick (.t 17) (.c (.bool true)) (.t 20)),2,none⟩,⟨(some 22),(.mv (.t 21)),2,none⟩,⟨(some 23),(.faddr 1 (.t 4)),2,(some (22,false))⟩,⟨(some 24),(.load false [(.int .i64)] (.t 23)),2,(some (22,false))⟩,⟨(some 25),(.call (.c (.fn 79)) [(.t 24)]),2,(some (22,false))⟩,⟨(some 26),(.un .not (.t 25)),4,(some (22,false))⟩,⟨(some 27),(.pick (.t 22) (.c (.bool true)) (.t 26)),4,none⟩,⟨(some 28),(.mv (.t 27)),4,none⟩,⟨(some 29),(.mv (.t 3)),4,(some (28,false))⟩,⟨(some 30),(.bin .num .gtr (.t 29) (.c (.int .i64 0))),4,(some (28,false))⟩,⟨(some 31),(.mv (.t 30)),4,(some (28,false))⟩,⟨(some 32),(.faddr 1 (.t 1)),4,(some (31,true))⟩,⟨(some 33),(.load false [(.sl 2)] (.t 32)),4,(some (31,true))⟩,⟨(some 34),(.mv (.t 3)),4,(some (31,true))⟩,⟨(some 35),(.bin .num .sub (.t 34) (.c (.int .i64 1))),4,(some (31,true))⟩,⟨(some 36),(.iaddr 2 (.t 33) (.t 35)),4,(some (31,true))⟩,⟨(some 37),(.faddr 0 (.t 36)),4,(some (31,true))⟩,⟨(some 38),(.load false [.str] (.t 37)),4,(some (31,true))⟩,⟨(some 39),(.faddr 0 (.t 4)),4,(some (31,true))⟩,⟨(some 40),(.load false [.str] (.t 39)),4,(some (31,true))⟩,⟨(some 41),(.bin .num .geq (.t 38) (.t 40)),4,(some (31,true))⟩,⟨(some 42),(.pick (.t 31) (.t 41) (.c (.bool false))),4,(some (28,false))⟩,⟨(some 43),(.pick (.t 28) (.c (.bool true)) (.t 42)),4,none⟩] (some [[],[0],[1,0],[2,1,0],[3,2,1,0],[4,3,2,1,0],[5,4,3,2,1,0],[6,4,5,3,2,1,0],[4,7,3,2,1,0,6,5],[8,4,7,3,2,1,0,6,5],[9,8,4,7,3,2,1,0,6,5],[10,9,8,4,7,3,2,1,0,6,5],[11,9,10,8,4,7,3,2,1,0,6,5],[12,9,11,10,8,4,7,3,2,1,0,6,5],[9,13,8,4,7,3,2,1,0,6,5,12,11,10],[14,12,9,13,8,4,7,3,2,1,0,6,5,11,10],[15,14,12,9,13,8,4,7,3,2,1,0,6,5,11,10],[16,15,14,12,9,13,8,4,7,3,2,1,0,6,5,11,10],[17,15,16,14,12,9,13,8,4,7,3,2,1,0,6,5,11,10],[18,17,15,16,14,12,9,13,8,4,7,3,2,1,0,6,5,11,10],[19,18,17,15,16,14,12,9,13,8,4,7,3,2,1,0,6,5,11,10],[18,17,15,16,14,12,9,13,8,4,7,3,2,1,0,6,5,11,10],[21,18,17,15,16,14,12,9,13,8,4,7,3,2,1,0,6,5,11,10],[20,22,18,19,17,15,16,14,12,9,13,8,4,7,3,2,1,0,6,5,11,10,21],[23,18,20,22,19,17,15,16,14,12,9,13,8,4,7,3,2,1,0,6,5,11,10,21],[24,18,23,20,22,19,17,15,16,14,12,9,13,8,4,7,3,2,1,0,6,5,11,10,21],[18,17,15,16,14,12,9,13,8,4,7,3,2,1,0,6,5,11,10],[26,18,17,15,16,14,12,9,13,8,4,7,3,2,1,0,6,5,11,10],[25,27,18,24,23,20,22,19,17,15,16,14,12,9,13,8,4,7,3,2,1,0,6,5,11,10,21,26],[18,28,15,17,16,14,12,9,13,8,4,7,3,2,1,0,6,5,11,10,25,27,24,23,20,22,19,21,26],[15,29,14,12,9,13,8,4,7,3,2,1,0,6,5,11,10,18,28,17,16,25,27,24,23,20,22,19,21,26]])) (.cond (.t 43) (.seq (.reg [⟨(some 2),(.mv (.c (.bool false))),0,none⟩] none) .ret) .skip)))) (.reg [⟨(some 44),(.bin .num .add (.t 8) (.c (.int .i64 1))),0,none⟩,⟨(some 8),(.mv (.t 44)),0,none⟩] none))))))) (.seq (.reg [⟨(some 45),(.faddr 0 (.t 1)),0,none⟩,⟨(some 46),(.load false [(.int .i64)] (.t 45)),0,none⟩,⟨(some 47),(.call (.c (.fn 79)) [(.t 46)]),0,none⟩,⟨(some 48),(.mv (.t 47)),2,none⟩,⟨(some 49),(.faddr 1 (.t 1)),2,(some (48,true))⟩,⟨(some 50),(.load false [(.sl 2)] (.t 49)),2,(some (48,true))⟩,⟨(some 51),(.len 1 (.t 50)),2,(some (48,true))⟩,⟨(some 52),(.bin .num .leq (.t 51) (.c (.int .i64 12))),2,(some (48,true))⟩,⟨(some 53),(.pick (.t 48) (.t 52) (.c (.bool false))),2,none⟩,⟨(some 2),(.mv (.t 53)),2,none⟩] none) .ret)))
def XW:List IRes:=[(.tmp 2)]
abbrev a1m:Nat:=54
def WT:ZG:=Xo [(79,.pure (preT (fun _:Int×Unit=>true)) (Zo (fun x:Int×Unit=>Z8 x.1))),(78,.pure (preT (fun x:Str×Unit=>decide (x.1.s.length<=1000000))) (Zo (fun x:Str×Unit=>Yc x.1)))]
theorem a8h{G:PV->Prop}(l:Lin)(h:At WT 0 (Zg XW G) XZ 0 54 [(1,(.ptr 0 0)),(6,(.pv (.sl 2 false (List.map enc l.t)))),(7,(.pv (.int .i64 (↑(List.length (List.map enc l.t)):Int)))),(8,(.pv (.int .i64 0)))] [(.obj (.box [(.pv (.int .i64 l.k)),(.pv (.sl 2 false (List.map enc l.t)))]))]):Ze WT 0 (Zg XW G) XZ [] (Y2 54 [enc l]):=Ze.tp (.nil) h (by kernel_rfl)
theorem SG{G:PV->Prop}(l:Lin)(i:Int)(h:if (decide (i<(↑(List.length l.t):Int)))=true then(decide (0<=i)&&decide (Int.toNat i<List.length (List.map enc l.t))&&Enc.sz Coef==2)=true∧(∃ y0:Coef,AV.pv (PV.rptr (PV.cells (List.getD (List.map enc l.t) (Int.toNat i) default)))=AV.pv (PV.rptr (PV.cells ((enc) y0)))∧((Go.Pl.preT (fun(x:Str×Unit)=>decide (List.length (Str.s x.1)<=1000000)) [(.str (PV.asStr (List.getD (PV.cells (enc y0)) 0 default)))])=true∧(∃ y1:Bool,AV.pv (Zo (fun(x:Str×Unit)=>Yc x.1) [(.str (PV.asStr (List.getD (PV.cells (enc y0)) 0 default)))])=AV.pv (enc y1)∧(if (!y1)=true then G ((.bool false))else(if (PV.asInt (List.getD (PV.cells (enc y0)) (0+1) default)==0)=true then G ((.bool false))else(∃ y2:Bool,AV.pv (Zo (fun(x:Int×Unit)=>Z8 x.1) [(.int .i64 (PV.asInt (List.getD (PV.cells (enc y0)) (0+1) default)))])=AV.pv (enc y2)∧(if (!y2)=true then G ((.bool false))else(if (decide (i>0))=true then(decide (0<=IntKind.wrap IntKind.i64 (i - 1))&&decide (Int.toNat (IntKind.wrap IntKind.i64 (i - 1))<List.length (List.map enc l.t))&&Enc.sz Coef==2)=true∧(∃ y3:Coef,AV.pv (PV.rptr (PV.cells (List.getD (List.map enc l.t) (Int.toNat (IntKind.wrap IntKind.i64 (i - 1))) default)))=AV.pv (PV.rptr (PV.cells ((enc) y3)))∧(if (!Op.bytesLess (PV.asStr (List.getD (List.drop 0 (PV.cells (enc y3))) 0 default)) (PV.asStr (List.getD (PV.cells (enc y0)) 0 default)))=true then G ((.bool false))else(At WT 0 (Zg XW G) XZ 0 54 [(1,(.ptr 0 0)),(6,(.pv (.sl 2 false (List.map enc l.t)))),(7,(.pv (.int .i64 (↑(List.length l.t):Int)))),(8,(.pv (.int .i64 (IntKind.wrap IntKind.i64 (i+1)))))] [(.obj (.box [(.pv (.int .i64 l.k)),(.pv (.sl 2 false (List.map enc l.t)))]))])))else(At WT 0 (Zg XW G) XZ 0 54 [(1,(.ptr 0 0)),(6,(.pv (.sl 2 false (List.map enc l.t)))),(7,(.pv (.int .i64 (↑(List.length l.t):Int)))),(8,(.pv (.int .i64 (IntKind.wrap IntKind.i64 (i+1)))))] [(.obj (.box [(.pv (.int .i64 l.k)),(.pv (.sl 2 false (List.map enc l.t)))]))])))))))))else(∃ y4:Bool,AV.pv (Zo (fun(x:Int×Unit)=>Z8 x.1) [(.int .i64 l.k)])=AV.pv (enc y4)∧(if (y4)=true then G ((.bool (decide ((↑(List.length (List.map enc l.t)):Int)<=12))))else(G ((.bool false)))))):At WT 0 (Zg XW G) XZ 0 54 [(1,.ptr 0 0),(6,.pv (enc l.t)),(7,.pv (.int .i64 l.t.length)),(8,.pv (.int .i64 i))] [.obj (.box [.pv (.int .i64 l.k),.pv (enc l.t)])]:=At.tp (.lit (.ask (.req (.abs (Coef) (fun YY=>AV.pv (PV.rptr (PV.cells ((enc) YY)))) (.lit (.req (.abs (Bool) (fun YY=>AV.pv (enc YY)) (.ask (.lit (.lit (.lit (.lit (.lit (.lit (.lit (.lit (.lit (.lit (.lit (.lit (.lit (.lit (.nil))))))))))))))) (.lit (.lit (.lit (.lit (.ask (.lit (.lit (.lit (.lit (.lit (.lit (.lit (.lit (.lit (.lit (.nil))))))))))) (.lit (.lit (.lit (.abs (Bool) (fun YY=>AV.pv (enc YY)) (.lit (.lit (.ask (.lit (.lit (.lit (.lit (.lit (.nil)))))) (.lit (.lit (.lit (.ask (.lit (.lit (.lit (.lit (.lit (.req (.abs (Coef) (fun YY=>AV.pv (PV.rptr (PV.cells ((enc) YY)))) (.lit (.lit (.lit (.lit (.lit (.lit (.lit (.lit (.lit (.lit (.ask (.nil) (.lit (.nil)))))))))))))))))))) (.lit (.lit (.lit (.lit (.lit (.lit (.lit (.lit (.lit (.lit (.lit (.lit (.lit (.lit (.nil))))))))))))))))))))))))))))))))))))) (.lit (.abs (Bool) (fun YY=>AV.pv (enc YY)) (.ask (.lit (.lit (.lit (.lit (.lit (.nil)))))) (.lit (.lit (.lit (.lit (.nil)))))))))) h (by kernel_rfl)
end Go.Pl

namespace Go.Pl
open Go.RowKit
open Enc (enc dec is)
open EncL (encL decL isL)
theorem a4d{s:List UInt8}{i:Nat}(h:i<s.length):List.getD (Zr s) (Int.toNat (i:Int)) default = .int .u8 (s[i].toNat:Int):=by
 simp[Zr,List.getD,h]
theorem Gi(s:List UInt8):(Zr s).length=s.length:=by simp[Zr]
def N7(c:UInt8):Bool:=Wm c||digB c
theorem OE{c:UInt8}:Wm c=true ↔ 97<=c.toNat∧c.toNat<=122:=by
 simp only[Wm,Bool.and_eq_true,decide_eq_true_eq,UInt8.le_iff_toNat_le]
 have e1:(97:UInt8).toNat=97:=rfl
 have e2:(122:UInt8).toNat=122:=rfl
 rw[e1,e2]
theorem Sv{c:UInt8}(h : ¬ (97<=c.toNat∧c.toNat<=122)):Wm c=false:=by
 cases e:Wm c
 ·rfl
 ·exact absurd (OE.1 e) h
theorem SS{c:UInt8}(h : ¬ (48<=c.toNat∧c.toNat<=57)):digB c=false:=by
 cases e:digB c
 ·rfl
 ·exact absurd (Vx.1 e) h
def Vg(s:List UInt8)(i:Nat):Bool:=(match i with|0=>(match s with|[]=>true|c::r=>Wm c&&r.all N7)|i+1=>(s.drop (i+1)).all N7)&&(!(s==[]))&&decide (s.length<=30)
theorem a2b{s:List UInt8}{i:Nat}(h:i<s.length)(hb:Wm s[i]=true∨(i≠0∧digB s[i]=true)):Vg s i=Vg s (i+1):=by
 cases i with
 | zero=>
  cases s with
  | nil=>simp at h
  | cons c r=>
   rcases hb with hb|hb
   ·have hb:Wm c=true:=hb
    simp[Vg,hb]
   ·exact absurd rfl hb.1
 | succ i=>
  unfold Vg
  simp only
  rw[List.drop_eq_getElem_cons h,List.all_cons]
  have:N7 s[i+1]=true:=by
   rcases hb with hb|hb
   ·simp[N7,hb]
   ·simp[N7,hb.2]
  rw[this,Bool.true_and]
theorem a2s{s:List UInt8}{i:Nat}(h:i<s.length)(hb:Wm s[i]=false∧(i=0∨digB s[i]=false)):Vg s i=false:=by
 cases i with
 | zero=>
  cases s with
  | nil=>simp at h
  | cons c r=>
   have hb:Wm c=false:=hb.1
   simp[Vg,hb]
 | succ i=>
  unfold Vg
  simp only
  rw[List.drop_eq_getElem_cons h,List.all_cons]
  have:N7 s[i+1]=false:=by
   rcases hb.2 with h0|h0
   ·cases h0
   ·simp[N7,hb.1,h0]
  rw[this];simp
theorem La(s:List UInt8)(hs:s.length<=1000000): ∀ (m i:Nat),m+i=s.length->At Wo 0 (Zg Xu (ZB (Vg s i))) Xq 0 67 [(0,.pv (.str s)),(34,.pv (.sl 1 false (Zr s))),(35,.pv (.int .i64 (Zr s).length)),(36,.pv (.int .i64 i))] []:=by
 intro m
 induction m with
 | zero=>
  intro i hi
  have e:Vg s i=(!(s==[])&&decide (s.length<=30)):=by
   unfold Vg
   cases i with
   | zero=>cases s with
    | nil=>rfl
    | cons c r=>simp at hi
   | succ i=>simp only;rw[List.drop_of_length_le (show s.length<=i+1 by omega)];simp
  rw[e]
  refine PR s i (Zy (Kb (by rw[Gi];omega)) (K4 (fun h=>YI ?_) fun h=>YI ?_))
  ·rw[h,Bool.true_and];exact decide_eq_decide.2 (by omega)
  ·rw[h,Bool.false_and]
 | succ m ih=>
  intro i hi
  have hlt:i<s.length:=by omega
  have h:=ih (i+1) (by omega)
  refine PR s i ?_
  rw[a4d hlt,next (by omega)]
  have stop:(Wm s[i]=false∧(i=0∨digB s[i]=false))->ZB (Vg s i) (.bool false):=fun hb=>YI (a2s hlt hb).symm
  have go:(Wm s[i]=true∨(i≠0∧digB s[i]=true))->At Wo 0 (Zg Xu (ZB (Vg s i))) Xq 0 67 [(0,.pv (.str s)),(34,.pv (.sl 1 false (Zr s))),(35,.pv (.int .i64 (Zr s).length)),(36,.pv (.int .i64 ((i+1:Nat):Int)))] []:=fun hb=>by rw[a2b hlt hb];exact h
  have rest:Wm s[i]=false->(if ((i:Int)==0)=true then ZB (Vg s i) (.bool false)else if decide ((s[i].toNat:Int)<48)=true then ZB (Vg s i) (.bool false)else if decide ((s[i].toNat:Int)>57)=true then ZB (Vg s i) (.bool false)else At Wo 0 (Zg Xu (ZB (Vg s i))) Xq 0 67 [(0,.pv (.str s)),(34,.pv (.sl 1 false (Zr s))),(35,.pv (.int .i64 (Zr s).length)),(36,.pv (.int .i64 ((i+1:Nat):Int)))] []):=by
   intro hl
   refine Gf (fun h0=>stop ⟨hl,.inl (by omega)⟩) fun h0=>UT (fun h1=>stop ⟨hl,.inr (SS (by omega))⟩) fun h1=>UT (fun h2=>stop ⟨hl,.inr (SS (by omega))⟩) fun h2=>go (.inr ⟨by omega,Vx.2 (by omega)⟩)
  refine Zx (QQ (by rw[Gi];exact hlt)) ⟨by rw[Gi];simp[hlt],by rfl,?_⟩
  refine UT (fun h1=>rest (Sv ?_)) fun h1=>UT (fun h2=>rest (Sv ?_)) fun h2=>go (.inl (OE.2 ?_))
  ·have h1:(s[i].toNat:Int)<97:=h1
   omega
  ·have h2:(s[i].toNat:Int)>122:=h2
   omega
  ·have h1 : ¬ (s[i].toNat:Int)<97:=h1
   have h2 : ¬ (s[i].toNat:Int)>122:=h2
   omega
theorem a0i{s:List UInt8}(h:[95].isPrefixOf s=false):Yc ⟨s⟩=Vg s 0:=by
 cases s with
 | nil=>rfl
 | cons c r=>
  have hc : ¬ c=95:=by intro e;subst e;simp at h
  have e:decide ((c::r).length<=30)=decide (r.length<=29):=decide_eq_decide.2 (by simp)
  unfold Vg
  rw[e]
  simp only[Yc,if_neg hc]
  show _=(Wm c&&r.all N7&& !((c::r)==[])&&_)
  have e2:((c::r)==[])=false:=rfl
  rw[e2]
  simp only[Bool.not_false,Bool.and_true]
  rfl
theorem FZ(s:Str): -9223372036854775808<=(Z6 s).1∧((Z6 s).1<=9223372036854775807):=by
 unfold Z6
 split
 ·rename_i v hv;exact Lib.atoiAll_bounds hv
 ·have:=Lib.atoiSat_bounds s.s
  exact⟨by show _<=Lib.atoiSat s.s;omega,by show Lib.atoiSat s.s<=_;omega⟩
 ·exact⟨by show(-9223372036854775808:Int)<=0;omega,by show(0:Int)<=_;omega⟩
theorem a1r: ∀ a:Str×Unit,decide (a.1.s.length<=1000000)=true->Ze Wo 0 (Zg Xu (ZB (Yc a.1))) Xq [] (Y2 a7d (encL a)):=by
 rintro⟨⟨s⟩,⟨⟩⟩ hl
 have hl:s.length<=1000000:=by simpa using hl
 refine b6p s (Zz (⟨s⟩,⟨[95]⟩,()) rfl (K4 (fun h=> ?_) fun h=> ?_))
 ·have h:[95].isPrefixOf s=true:=h
  obtain⟨r,rfl⟩ : ∃ r,s=95::r:=by
   cases s with
   | nil=>simp at h
   | cons c r=>
    have:95=c:=by simpa using h
    exact⟨r,by rw[this]⟩
  have e1:List.drop (Int.toNat 1) (List.take (List.length (95::r)) (95::r))=r:=by rw[List.take_of_length_le (Nat.le_refl _)];rfl
  simp only[e1]
  refine⟨by simp,Zt (⟨r⟩,()) rfl (by simp at hl ⊢;omega),Zz (⟨r⟩,()) rfl ⟨by show(Dt (enc (Z6 ⟨r⟩).2)&&true)=true;rw[c1k];rfl,?_⟩⟩
  show if VK (enc (Z6 ⟨r⟩).2)=true then(if decide ((Z6 ⟨r⟩).1>0)=true then(if _ then _ else ZB (Yc ⟨95::r⟩) _)else ZB (Yc ⟨95::r⟩) _)else ZB (Yc ⟨95::r⟩) _
  rw[a6y]
  by_cases h9:r.length<=9
  ·rw[<- b4y r h9,decide_eq_true h9,Bool.and_true]
   refine K4 (fun h1=>K4 (fun h2=>Zx (by simp;omega) ⟨Zt ((Z6 ⟨r⟩).1,()) rfl (by have:=FZ ⟨r⟩;simp;omega),Zz ((Z6 ⟨r⟩).1,()) rfl ⟨by simp,YI ?_⟩⟩) fun h2=>YI ?_) fun h1=>YI ?_
   ·rw[h1,h2];simp only[Bool.true_and,Bool.and_true];rfl
   ·rw[h2];simp
   ·rw[h1];simp
  ·rw[decide_eq_false h9,Bool.and_false]
   refine K4 (fun h1=>K4 (fun h2=>Zy (by simp;omega) (YI rfl)) fun h2=>YI rfl) fun h1=>YI rfl
 ·have h:[95].isPrefixOf s=false:=h
  show At Wo 0 (Zg Xu (ZB (Yc ⟨s⟩))) Xq 0 67 _ _
  rw[a0i h]
  exact La s hl s.length 0 (by omega)
theorem MI(l:Lin)(hl:l.t.length<=9223372036854775807)(hs:l.t.all (fun t=>decide (t.v.s.length<=1000000))=true): ∀ (j i:Nat),j+i=l.t.length->At WT 0 (Zg XW (ZB (Cr (pvS l.t i) (l.t.drop i)&&(Z8 l.k&&decide (l.t.length<=12))))) XZ 0 54 [(1,.ptr 0 0),(6,.pv (enc l.t)),(7,.pv (.int .i64 l.t.length)),(8,.pv (.int .i64 i))] [.obj (.box [.pv (.int .i64 l.k),.pv (enc l.t)])]:=by
 intro j
 induction j with
 | zero=>
  intro i hi
  refine SG l i (Zy (Kb (by omega)) (Zz (l.k,()) rfl ?_))
  rw[List.drop_of_length_le (show l.t.length<=i by omega)]
  refine K4 (fun h=>YI ?_) fun h=>YI ?_
  ·have h:Z8 l.k=true:=h
   rw[h]
   show _=(true&&(true&&_))
   rw[Bool.true_and,Bool.true_and]
   exact decide_eq_decide.2 (by simp;omega)
  ·have h:Z8 l.k=false:=h
   rw[h];simp
 | succ j ih=>
  intro i hi
  have hlt:i<l.t.length:=by omega
  have h:=ih (i+1) (by omega)
  have hsi:l.t[i].v.s.length<=1000000:=by rw[List.all_eq_true]at hs;simpa using hs _ (List.getElem_mem hlt)
  refine SG l i ?_
  refine Zx (QQ hlt) ⟨WS hlt rfl,Ux hlt ⟨Zt (l.t[i].v,()) rfl (by simpa using hsi),Zz (l.t[i].v,()) rfl (U3 (fun hn=> ?_) fun hn=>Gf (fun hc=> ?_) fun hc=>Zz (l.t[i].c,()) rfl (U3 (fun hk=> ?_) fun hk=> ?_))⟩⟩
  all_goals rw[List.drop_eq_getElem_cons hlt,J3]
  ·have hn:Yc l.t[i].v=false:=hn
   exact YI (by simp[hn])
  ·have hc:l.t[i].c=0:=hc
   exact YI (by simp[hc])
  ·have hk:Z8 l.t[i].c=false:=hk
   exact YI (by simp[hk])
  have hn:Yc l.t[i].v=true:=hn
  have hk:Z8 l.t[i].c=true:=hk
  have hc:l.t[i].c≠0:=hc
  rw[next (by omega),hn,hk,decide_eq_true hc]
  have ep:pvS l.t (i+1)=some l.t[i].v.s:=by simp[pvS,hlt]
  rw[ep]at h
  cases i with
  | zero=>exact Zy (by simp) h
  | succ i=>
   refine Zx (by simp) ?_
   rw[Ei (by omega)]
   refine⟨WS (by omega) rfl,Ux (by omega) ?_⟩
   have e2:pvS l.t (i+1)=some l.t[i].v.s:=by simp[pvS,show i<l.t.length by omega]
   rw[e2]
   refine U3 (fun hb=> ?_) fun hb=> ?_
   all_goals
    have hb':=(WL l.t[i].v.s l.t[i+1].v.s).symm.trans hb
    simp only[hb',Bool.and_true,Bool.true_and,Bool.and_false,Bool.false_and]
   ·exact YI rfl
   ·exact h
theorem FV: ∀ a:Lin×Unit,ZJ a.1=true->Ze WT 0 (Zg XW (ZB (Zm a.1))) XZ [] (Y2 a1m (encL a)):=by
 rintro⟨l,⟨⟩⟩ hl
 simp only[ZJ,ZL,Bool.and_eq_true,decide_eq_true_eq]at hl
 refine a8h l ?_
 show At WT 0 (Zg XW (ZB (Zm l))) XZ 0 54 _ _
 have e:Zm l=(Cr (pvS l.t 0) (l.t.drop 0)&&(Z8 l.k&&decide (l.t.length<=12))):=by rw[Mf,Bool.and_comm];rfl
 rw[e,List.length_map]
 exact MI l hl.1 hl.2 l.t.length 0 (by omega)
end Go.Pl

namespace Go.Pl
open Go.RowKit
open Enc (enc dec is)
open EncL (encL decL isL)
structure LR where
 k:Int
 w:Nat
 ts:List Coef
def LR.ob(r:LR):AObj:=.row false 80 2 (r.ts.map enc)
def c1v:PV:=.agg [.int .i64 0,.sl 0 true []]
end Go.Pl

namespace Go.Pl
open Go.RowKit
open Enc (enc dec is)
open EncL (encL decL isL)
set_option maxRecDepth 100000
end Go.Pl

namespace Go.Pl
open Go.RowKit
open Enc (enc dec is)
open EncL (encL decL isL)
end Go.Pl

namespace Go.Pl
open Go.RowKit
open Enc (enc dec is)
open EncL (encL decL isL)
theorem VG.rfl(ps:List PV):VG ps ps:=⟨Eq.refl _,fun j x y hx hy Φ v h=>by rw[hx]at hy;cases hy;exact h⟩
end Go.Pl

namespace Go.Pl
open Go.RowKit
open Enc (enc dec is)
open EncL (encL decL isL)
end Go.Pl

namespace Go.Pl
open Go.RowKit
open Enc (enc dec is)
open EncL (encL decL isL)
set_option maxRecDepth 100000
-- IMPOSSIBLE
end Go.Pl

namespace Go.Pl
open Go.RowKit
open Enc (enc dec is)
open EncL (encL decL isL)
end Go.Pl

namespace Go.Pl
open Go.RowKit
open Enc (enc dec is)
open EncL (encL decL isL)
end Go.Pl

namespace Go.Pl
open Go.RowKit
open Enc (enc dec is)
open EncL (encL decL isL)
set_option maxRecDepth 100000
end Go.Pl

namespace Go.Pl
open Go.RowKit
open Enc (enc dec is)
open EncL (encL decL isL)
set_option maxRecDepth 100000
end Go.Pl

namespace Go.Pl
open Go.RowKit
open Enc (enc dec is)
open EncL (encL decL isL)
structure Cert2 where
 a:Cert
 b:Cert
instance:Enc Cert2 where
 sz:=10
 enc x:=.agg (PV.cells (enc x.a)++PV.cells (enc x.b))
 dec | .agg [a,b,c,d,e,f,g,h,i,j]=>⟨dec (.agg [a,b,c,d,e]),dec (.agg [f,g,h,i,j])⟩|_=>⟨.mk 0 [] ⟨0,[]⟩ [],.mk 0 [] ⟨0,[]⟩ []⟩
 is | .agg [a,b,c,d,e,f,g,h,i,j]=>is Cert (.agg [a,b,c,d,e])&&is Cert (.agg [f,g,h,i,j])|_=>false
 is_enc v:=by
  obtain⟨⟨k,m,l,ks⟩,⟨k',m',l',ks'⟩⟩:=v
  rw[Vz,Vz]
  show(is Cert (.agg [enc k,enc m,enc l.k,enc l.t,enc ks])&&is Cert (.agg [enc k',enc m',enc l'.k,enc l'.t,enc ks']))=true
  rw[<- Vz,<- Vz,Enc.is_enc,Enc.is_enc];rfl
 dec_enc v:=by
  obtain⟨⟨k,m,l,ks⟩,⟨k',m',l',ks'⟩⟩:=v
  rw[Vz,Vz]
  show(⟨dec (.agg [enc k,enc m,enc l.k,enc l.t,enc ks]),dec (.agg [enc k',enc m',enc l'.k,enc l'.t,enc ks'])⟩:Cert2)=_
  rw[<- Vz,<- Vz,Enc.dec_enc,Enc.dec_enc]
 sub p h:=by
  cases p with
  | agg xs=>
   match xs,h with
   | [a,b,c,d,e,f,g,h',i,j],h=>
    simp only[Bool.and_eq_true]at h
    have h1:=Enc.sub (α:=Cert) _ h.1
    have h2:=Enc.sub (α:=Cert) _ h.2
    exact UM.agg (h1.1.append h2.1)
  | _=>cases h
theorem b9x{l:Lin}{n:Int}(h:C8 l n=true)(hl:ZL l=true):ZJ l=true:=by
 simp only[C8,Bool.and_eq_true,List.all_eq_true,decide_eq_true_eq]at h
 simp only[ZJ,hl,Bool.true_and,List.all_eq_true,decide_eq_true_eq]
 intro t ht
 have:=h.1 t ht
 omega
mutual
theorem b4x: ∀ (c:Cert) (n:Int),n<=12->LJ c n=true->cOk c=true->1<=n∧(c0i c:Int)<=n∧1<=Ak c∧Ak c<=n∧cSm c=true
 | .mk k m l ks,n,hn,h,ho=>by
  simp only[LJ,Bool.and_eq_true,Bool.not_eq_true',decide_eq_false_iff_not]at h
  obtain⟨h1,h2,h3,h4,h5⟩:=h
  simp only[cOk,Bool.and_eq_true,decide_eq_true_eq]at ho
  obtain⟨⟨⟨o1,o2⟩,o3⟩,o4⟩:=ho
  obtain⟨a1,a2,a3,a4⟩:=MF ks n 1 (by omega) hn (by omega) (by omega) h5 o4
  rw[c0i,Ak]
  refine⟨by omega,by omega,by omega,by omega,?_⟩
  simp only[cSm,b9x h2 o2,a4,decide_eq_true o1,decide_eq_true o3]
  rfl
theorem MF: ∀ (cs:List Cert) (n s:Int),1<=n->n<=12->1<=s->s<=100 - n->Cj cs n=true->a2l cs=true->(NU cs:Int)<=n - 1∧s<=Db s cs∧Db s cs<=s+n - 1∧a0n cs=true
 | [],n,s,h1,h2,h3,h4,_,_=>by
  rw[NU,Db]
  exact⟨by omega,by omega,by omega,rfl⟩
 | c::cs,n,s,h1,h2,h3,h4,h,ho=>by
  simp only[Cj,Bool.and_eq_true]at h
  simp only[a2l,Bool.and_eq_true]at ho
  rw[Jc (by omega) (by omega)]at h
  obtain⟨b1,b2,b3,b4,b5⟩:=b4x c (n - 1) (by omega) h.1 ho.1
  have h':=h.2
  rw[Jc (by omega) (by omega)]at h'
  obtain⟨a1,a2,a3,a4⟩:=MF cs (n - Ak c) (s+Ak c) (by omega) (by omega) (by omega) (by omega) h' ho.2
  rw[NU,Db,Jc (by omega) (by omega)]
  refine⟨by omega,by omega,by omega,?_⟩
  simp only[a0n,b5,a4]
  rfl
end
end Go.Pl

namespace Go.Pl
open Go.RowKit
open Enc (enc dec is)
open EncL (encL decL isL)
set_option maxRecDepth 100000
end Go.Pl

namespace Go.Pl
open Go.RowKit
open Enc (enc dec is)
open EncL (encL decL isL)
theorem Ph: ∀ {m:List (Str×Int)},(Ya m).Nodup-> ∀ p∈m,Um m p.1.s=p.2
 | q::m,h,p,hp=>by
  simp only[Ya,List.map_cons,List.nodup_cons]at h
  rcases List.mem_cons.1 hp with rfl|hp
  ·simp[Um]
  ·have:(q.1.s==p.1.s)=false:=by
    simp only[beq_eq_false_iff_ne,ne_eq]
    intro e
    exact h.1 (e▸List.mem_map.2 ⟨p,hp,rfl⟩)
   have ih:=Ph (m:=m) h.2 p hp
   simp only[Um,List.find?_cons,this]at ih ⊢
   exact ih
end Go.Pl

namespace Go.Pl
open Go.RowKit
open Enc (enc dec is)
open EncL (encL decL isL)
end Go.Pl

namespace Go.Pl
open Go.RowKit
open Enc (enc dec is)
open EncL (encL decL isL)
end Go.Pl

namespace Go.Pl
open Go.RowKit
def YR(ts:List Coef)(s:List UInt8):Int:=((ts.find? fun t=>t.v.s==s).map (·.c)).getD 0
def QG(ts:List Coef):Prop:=ts.Pairwise fun a b=>a.v.s<b.v.s
def nzP(ts:List Coef):Prop:= ∀ t∈ts,t.c≠0
theorem Kr(s:List UInt8):YR [] s=0:=rfl
theorem ZM(t:Coef)(ts:List Coef)(s:List UInt8):YR (t::ts) s=if t.v.s=s then t.c else YR ts s:=by
 simp only[YR,List.find?_cons]
 by_cases h:t.v.s=s
 ·simp[h]
 ·have:(t.v.s==s)=false:=by simpa using h
  simp[this,h]
theorem V3{s:List UInt8}: ∀ {ts:List Coef},(∀ t∈ts,s<t.v.s)->YR ts s=0
 | [],_=>rfl
 | t::ts,h=>by
  have h1:=h t (by simp)
  rw[ZM,if_neg (fun e=>by rw[e]at h1;exact List.lt_irrefl _ h1)]
  exact V3 fun u hu=>h u (by simp[hu])
theorem XP{t:Coef}{ts:List Coef}:QG (t::ts) ↔ (∀ u∈ts,t.v.s<u.v.s)∧QG ts:=List.pairwise_cons
theorem Te: ∀ {a b:List Coef},QG a->nzP a->QG b->nzP b->(∀ s,YR a s=YR b s)->a=b
 | [],[],_,_,_,_,_=>rfl
 | [],y::ys,_,_,_,hn,h=>by
  have:=h y.v.s
  rw[Kr,ZM,if_pos rfl]at this
  exact absurd this.symm (hn y (by simp))
 | x::xs,[],_,hn,_,_,h=>by
  have:=h x.v.s
  rw[Kr,ZM,if_pos rfl]at this
  exact absurd this (hn x (by simp))
 | x::xs,y::ys,ha,hna,hb,hnb,h=>by
  obtain⟨ha1,ha2⟩:=XP.1 ha
  obtain⟨hb1,hb2⟩:=XP.1 hb
  have hxy:x.v.s=y.v.s:=by
   by_cases h1:x.v.s<y.v.s
   ·have e:=h x.v.s
    rw[ZM,if_pos rfl,V3 (ts:=y::ys) (fun t ht=>by
     rcases List.mem_cons.1 ht with rfl|ht
     ·exact h1
     ·exact List.lt_trans h1 (hb1 t ht))]at e
    exact absurd e (hna x (by simp))
   ·by_cases h2:x.v.s=y.v.s
    ·exact h2
    ·have h3:=tri h1 h2
     have e:=h y.v.s
     rw[ZM (t:=y),if_pos rfl,V3 (ts:=x::xs) (fun t ht=>by
      rcases List.mem_cons.1 ht with rfl|ht
      ·exact h3
      ·exact List.lt_trans h3 (ha1 t ht))]at e
     exact absurd e.symm (hnb y (by simp))
  have hc:x.c=y.c:=by
   have e:=h x.v.s
   rwa [ZM,if_pos rfl,ZM,if_pos hxy.symm]at e
  have hxe:x=y:=by
   have hv:x.v=y.v:=Rw.2 hxy
   cases x;cases y;simp only at hv hc;rw[hv,hc]
  have ht:xs=ys:=Te ha2 (fun t ht=>hna t (by simp[ht])) hb2 (fun t ht=>hnb t (by simp[ht])) fun s=>by
   by_cases hs:x.v.s=s
   ·rw[V3 (ts:=xs) (fun t ht=>hs▸ha1 t ht),V3 (ts:=ys) (fun t ht=>hs▸hxy▸hb1 t ht)]
   ·have e:=h s
    rwa [ZM,if_neg hs,ZM,if_neg (fun e=>hs (hxy.trans e))]at e
  rw[hxe,ht]
theorem Uj(s:Str)(c:Int): ∀ {ts:List Coef},(∀ t∈ts,s.s<t.v.s)->U5 s c true ts=ts
 | [],_=>by simp[U5]
 | t::ts,h=>by
  have h1:=h t (by simp)
  rw[c1g,if_neg (fun e=>by rw[e]at h1;exact List.lt_irrefl _ h1),Uj s c fun u hu=>h u (by simp[hu])]
theorem Eb(s:Str)(c:Int): ∀ {ts:List Coef},QG ts-> ∀ u∈U5 s c false ts,u.v.s=s.s ∨ ∃ t∈ts,t.v.s=u.v.s
 | [],_,u,hu=>by
  simp only[U5,Bool.false_eq_true,if_false,List.mem_singleton]at hu
  exact .inl (by rw[hu])
 | t::ts,h,u,hu=>by
  obtain⟨h1,h2⟩:=XP.1 h
  rw[a8n]at hu
  split at hu
  ·rename_i hlt
   rw[Uj s c (fun u hu=>List.lt_trans hlt (h1 u hu))]at hu
   rcases List.mem_cons.1 hu with rfl|hu
   ·exact .inl rfl
   ·exact .inr ⟨u,hu,rfl⟩
  ·split at hu
   ·rename_i he
    rw[Uj s c (fun u hu=>he▸h1 u hu)]at hu
    rcases List.mem_cons.1 hu with rfl|hu
    ·exact .inr ⟨t,by simp,rfl⟩
    ·exact .inr ⟨u,by simp[hu],rfl⟩
   ·rcases List.mem_cons.1 hu with rfl|hu
    ·exact .inr ⟨u,by simp,rfl⟩
    ·rcases Eb s c h2 u hu with h|⟨w,hw,e⟩
     ·exact .inl h
     ·exact .inr ⟨w,by simp[hw],e⟩
theorem RO(s:Str)(c:Int): ∀ {ts:List Coef},QG ts->QG (U5 s c false ts)
 | [],_=>by simp[U5,QG]
 | t::ts,h=>by
  obtain⟨h1,h2⟩:=XP.1 h
  rw[a8n]
  split
  ·rename_i hlt
   rw[Uj s c (fun u hu=>List.lt_trans hlt (h1 u hu))]
   exact XP.2 ⟨fun u hu=>by
    rcases List.mem_cons.1 hu with rfl|hu
    ·exact hlt
    ·exact List.lt_trans hlt (h1 u hu),h⟩
  ·rename_i hlt
   split
   ·rename_i he
    rw[Uj s c (fun u hu=>he▸h1 u hu)]
    exact XP.2 ⟨h1,h2⟩
   ·rename_i he
    have hts:t.v.s<s.s:=tri hlt (fun e=>he (Rw.2 e.symm))
    refine XP.2 ⟨fun u hu=> ?_,RO s c h2⟩
    rcases Eb s c h2 u hu with e|⟨w,hw,e⟩
    ·rw[e];exact hts
    ·rw[<- e];exact h1 w hw
theorem Mv(s:Str)(c:Int)(hc:Xe c=c): ∀ {ts:List Coef},QG ts-> ∀ x,YR (U5 s c false ts) x=if s.s=x then Xe (YR ts s.s+c)else YR ts x
 | [],_,x=>by
  have e:U5 s c false []=[⟨s,c⟩]:=by simp[U5]
  rw[e,ZM,Kr,Kr,Int.zero_add,hc]
 | t::ts,h,x=>by
  obtain⟨h1,h2⟩:=XP.1 h
  rw[a8n]
  split
  ·rename_i hlt
   rw[Uj s c (fun u hu=>List.lt_trans hlt (h1 u hu)),ZM,V3 (ts:=t::ts) (s:=s.s) (fun u hu=>by
    rcases List.mem_cons.1 hu with rfl|hu
    ·exact hlt
    ·exact List.lt_trans hlt (h1 u hu)),Int.zero_add,hc]
  ·rename_i hlt
   split
   ·rename_i he
    have he':t.v.s=s.s:=by rw[he]
    have e1:YR (t::ts) s.s=t.c:=by rw[ZM,if_pos he']
    have e2:YR (t::ts) x=if s.s=x then t.c else YR ts x:=by rw[ZM,he']
    rw[Uj s c (fun u hu=>he▸h1 u hu),ZM,e1,e2]
    show(if t.v.s=x then Xe (t.c+c)else YR ts x)=_
    rw[he']
    by_cases hx:s.s=x
    ·rw[if_pos hx,if_pos hx]
    ·rw[if_neg hx,if_neg hx,if_neg hx]
   ·rename_i he
    have he' : ¬ t.v.s=s.s:=fun e=>he (Rw.2 e)
    rw[ZM,Mv s c hc h2 x,ZM (s:=s.s),if_neg he',ZM (s:=x)]
    by_cases hx:s.s=x
    ·rw[if_pos hx,if_pos hx,if_neg (fun e=>he' (e.trans hx.symm))]
    ·rw[if_neg hx,if_neg hx]
theorem Gu: ∀ {ts:List Coef},QG ts-> ∀ x,YR (ts.filter fun t=>decide (t.c≠0)) x=YR ts x
 | [],_,x=>rfl
 | t::ts,h,x=>by
  obtain⟨h1,h2⟩:=XP.1 h
  rw[List.filter_cons]
  split
  ·rw[ZM,ZM,Gu h2 x]
  ·rename_i hz
   have hz0:t.c=0:=by simpa using hz
   rw[ZM,Gu h2 x]
   by_cases hx:t.v.s=x
   ·rw[if_pos hx,hz0,V3 fun u hu=>hx▸h1 u hu]
   ·rw[if_neg hx]
theorem a4a{l:Lin}(s:Str)(c:Int)(h:QG l.t):QG (BO l s c).t:=(RO s c h).sublist List.filter_sublist
theorem b3m(l:Lin)(s:Str)(c:Int):nzP (BO l s c).t:=fun t ht=>by simpa using (List.mem_filter.1 ht).2
theorem a2f{l:Lin}(s:Str){c:Int}(hc:Xe c=c)(h:QG l.t)(x:List UInt8):YR (BO l s c).t x=if s.s=x then Xe (YR l.t s.s+c)else YR l.t x:=by
 show YR (List.filter _ _) x=_
 rw[Gu (RO s c h),Mv s c hc h]
theorem Ow(n:Int): -9223372036854775808<=Xe n∧Xe n<=9223372036854775807:=by
 unfold Xe IntKind.wrap
 simp only[IntKind.bits,IntKind.signed]
 simp
 split <;> omega
theorem a0u(n:Int):Xe (Xe n)=Xe n:=Jc (by have:=Ow n;omega) (by have:=Ow n;omega)
theorem Pt(s:Str)(c:Int)(x:List UInt8): ∀ m:List (Str×Int),Um (VP s c m) x=if s.s=x then c else Um m x
 | []=>by
  rw[VP]
  simp only[Um,List.find?_cons]
  by_cases h:s.s=x
  ·simp[h]
  ·have:(s.s==x)=false:=by simpa using h
   simp[this,h]
 | p::m=>by
  have ih:=Pt s c x m
  rw[VP]
  split
  ·rename_i he
   simp only[Um,List.find?_cons]
   by_cases h:s.s=x
   ·simp[h]
   ·have h1:(s.s==x)=false:=by simpa using h
    have h2:(p.1.s==x)=false:=by rw[<- he];exact h1
    simp[h1,h2,h]
  ·rename_i he
   simp only[Um,List.find?_cons]at ih ⊢
   by_cases h:p.1.s=x
   ·have h2 : ¬ s.s=x:=fun e=>he (e.trans h.symm)
    simp[h,h2]
   ·have h2:(p.1.s==x)=false:=by simpa using h
    rw[h2]
    exact ih
def b0s(ts:List Coef)(m:List (Str×Int)):Prop:=QG ts∧ ∀ s,YR ts s=Um m s
theorem Tv(k:Int): ∀ (x:List Coef) (l:Lin) (m:List (Str×Int)),b0s l.t m->b0s (x.foldl (fun o t=>BO o t.v (Xe (k*t.c))) l).t (Xj k x m)
 | [],l,m,h=>h
 | t::x,l,m,h=>by
  rw[List.foldl_cons,Xj]
  refine Tv k x _ _ ⟨a4a _ _ h.1,fun s=> ?_⟩
  rw[a2f _ (a0u _) h.1,Pt,h.2,h.2]
theorem Oo(k:Int): ∀ (x:List Coef) (l:Lin),nzP l.t->nzP (x.foldl (fun o t=>BO o t.v (Xe (k*t.c))) l).t
 | [],l,h=>h
 | t::x,l,h=>Oo k x _ (b3m _ _ _)
theorem a5f(k:Int): ∀ (x:List Coef) (l:Lin),(x.foldl (fun o t=>BO o t.v (Xe (k*t.c))) l).k=l.k
 | [],l=>rfl
 | t::x,l=>a5f k x _
theorem b0a{l x:Lin}{k:Int}(h:nzP l.t):nzP (Kg l x k).t:=Oo k x.t _ h
theorem b4m(l x:Lin)(k:Int):(Kg l x k).k=Xe (l.k+Xe (k*x.k)):=a5f k x.t _
theorem a8z{m:List (Str×Int)}{s:List UInt8}(h:s ∉ Ya m):Um m s=0:=by
 have:(m.find? fun p=>p.1.s==s)=none:=by
  rw[List.find?_eq_none]
  intro p hp e
  exact h (List.mem_map.2 ⟨p,hp,by simpa using e⟩)
 simp[Um,this]
theorem Q9(m:List (Str×Int))(x:List UInt8): ∀ l:List (List UInt8),YR (l.map fun s=>(⟨⟨s⟩,Um m s⟩:Coef)) x=if x∈l then Um m x else 0
 | []=>by simp[YR]
 | s::l=>by
  rw[List.map_cons,ZM,Q9 m x l]
  by_cases h:s=x
  ·subst h;simp
  ·have : ¬ x=s:=fun e=>h e.symm
   simp[h,this]
theorem b1k{l:List (List UInt8)}(h:l.Nodup):(YQ l).Pairwise (· < ·):=by
 have tr : ∀ x y z:List UInt8,decide (x<=y)=true->decide (y<=z)=true->decide (x<=z)=true:=fun x y z h k=>by simp only[decide_eq_true_eq]at *;exact List.le_trans h k
 have to : ∀ x y:List UInt8,(decide (x<=y)||decide (y<=x))=true:=fun x y=>by simp only[Bool.or_eq_true,decide_eq_true_eq];exact List.le_total x y
 have h1:=List.pairwise_mergeSort tr to l
 have h2:(YQ l).Nodup:=(List.mergeSort_perm l _).nodup_iff.2 h
 refine(h1.and h2).imp fun {a b} hab=> ?_
 have h3:a<=b:=by simpa using hab.1
 exact Decidable.byContradiction fun hn=>hab.2 (List.le_antisymm h3 (List.not_lt.1 hn))
theorem a2v(m:List (Str×Int)){l:List (List UInt8)}(h:l.Nodup):QG ((YQ l).map fun s=>(⟨⟨s⟩,Um m s⟩:Coef)):=List.Pairwise.map _ (fun a b hab=>hab) (b1k h)
theorem Gt{m:List (Str×Int)}(hd:(Ya m).Nodup):b0s (YX m) m∧nzP (YX m):=by
 have hd2:((m.filter fun p=>decide (p.2≠0)).map (·.1.s)).Nodup:=hd.sublist (List.filter_sublist.map _)
 refine⟨⟨a2v m hd2,fun s=> ?_⟩,fun t ht=> ?_⟩
 ·rw[YX,Q9]
  split
  ·rfl
  ·rename_i hn
   refine(Decidable.byContradiction fun h0=>hn ?_)
   have hk:s∈Ya m:=Decidable.byContradiction fun hk=>h0 (a8z hk).symm
   obtain⟨p,hp,rfl⟩:=List.mem_map.1 hk
   have e:=Ph hd p hp
   refine((List.mergeSort_perm _ _).mem_iff).2 (List.mem_map.2 ⟨p,List.mem_filter.2 ⟨hp,?_⟩,rfl⟩)
   rw[<- e]
   simpa using fun e=>h0 e.symm
 ·obtain⟨s,hs,rfl⟩:=List.mem_map.1 ht
  have hs:=((List.mergeSort_perm _ _).mem_iff).1 hs
  obtain⟨p,hp,rfl⟩:=List.mem_map.1 hs
  obtain⟨hp1,hp2⟩:=List.mem_filter.1 hp
  show Um m p.1.s≠0
  rw[Ph hd p hp1]
  simpa using hp2
theorem ET{ts:List Coef}{m:List (Str×Int)}(h:b0s ts m)(hn:nzP ts)(hd:(Ya m).Nodup):ts=YX m:=
 Te h.1 hn (Gt hd).1.1 (Gt hd).2 fun s=>(h.2 s).trans ((Gt hd).1.2 s).symm
theorem N8: ∀ {l:List Coef},DI l=true->QG l
 | [],_=>List.Pairwise.nil
 | [a],_=>by simp[QG]
 | a::b::l,h=>by
  simp only[DI,Bool.and_eq_true,decide_eq_true_eq]at h
  have ih:=N8 (l:=b::l) h.2
  refine XP.2 ⟨fun u hu=> ?_,ih⟩
  rcases List.mem_cons.1 hu with rfl|hu
  ·exact h.1
  ·exact List.lt_trans h.1 ((XP.1 ih).1 u hu)
theorem Tz{l:Lin}(h:Zm l=true):QG l.t:=by
 simp only[Zm,Bool.and_eq_true]at h
 exact N8 h.1.1.2
theorem a4p{l:Lin}(h:Zm l=true):nzP l.t:=fun t ht=>(Wv h ht).2.1
theorem OG: ∀ (x pre:List Coef) (m:List (Str×Int)),QG (pre++x)->(∀ t∈x,Xe t.c=t.c)->(∀ s,YR pre s=Um m s)-> ∀ s,YR (pre++x) s=Um (Xj 1 x m) s
 | [],pre,m,_,_,h,s=>by rw[List.append_nil];exact h s
 | t::x,pre,m,ha,hw,h,s=>by
  have e:pre++t::x=(pre++[t])++x:=by simp
  rw[Xj,e]
  refine OG x (pre++[t]) _ (e▸ha) (fun u hu=>hw u (by simp[hu])) (fun y=> ?_) s
  have hp : ∀ u∈pre,u.v.s<t.v.s:=fun u hu=>(List.pairwise_append.1 ha).2.2 u hu t (by simp)
  have hnone:YR pre t.v.s=0:=by
   have:(pre.find? fun u=>u.v.s==t.v.s)=none:=by
    rw[List.find?_eq_none]
    intro u hu e
    have e:u.v.s=t.v.s:=by simpa using e
    have:=hp u hu
    rw[e]at this
    exact List.lt_irrefl _ this
   simp[YR,this]
  have hw1:IntKind.i64.wrap t.c=t.c:=hw t (by simp)
  rw[Pt,<- h,<- h,hnone,Int.one_mul,hw1,Int.zero_add,hw1]
  by_cases hy:t.v.s=y
  ·have hn:(pre.find? fun u=>u.v.s==y)=none:=by
    rw[List.find?_eq_none]
    intro u hu e
    have e:u.v.s=y:=by simpa using e
    have:=hp u hu
    rw[e,hy]at this
    exact List.lt_irrefl _ this
   rw[if_pos hy]
   simp[YR,List.find?_append,hn,hy]
  ·have hn:([t].find? fun u=>u.v.s==y)=none:=by simp[hy]
   rw[if_neg hy]
   simp only[YR,List.find?_append,hn,Option.or_none]
theorem c0u{l:Lin}(h:Zm l=true): ∀ t∈l.t,Xe t.c=t.c:=fun t ht=>by
 have:=(Wv h ht).2.2
 exact Jc (by omega) (by omega)
theorem a4v{l:Lin}(h:Zm l=true):b0s l.t (Xj 1 l.t []):=⟨Tz h,fun s=>by
 have:=OG l.t [] [] (by simpa using Tz h) (c0u h) (fun s=>rfl) s
 simpa using this⟩
def EI(l:Lin):Lin×Int:=if Zm l then(l,0)else(⟨0,[]⟩,3)
theorem Sb{a b:Lin}(k:Int)(ha:Zm a=true)(hb:Zm b=true):YP a b k=EI (Kg a b k):=by
 have hk:=OP ha
 have hr:=Tv k b.t ⟨Xe (a.k+Xe (k*b.k)),a.t⟩ _ (a4v (l:=a) ha)
 have hd:(Ya (Xj k b.t (Xj 1 a.t []))).Nodup:=Jd _ _ _ (Jd _ _ _ (by simp[Ya]))
 have e1:(Kg a b k).t=YX (Xj k b.t (Xj 1 a.t [])):=ET hr (b0a (a4p ha)) hd
 have e2:Xe (Xe (0+Xe (1*a.k))+Xe (k*b.k))=(Kg a b k).k:=by
  rw[b4m,Int.one_mul,Jc (n:=a.k) (by omega) (by omega),Int.zero_add,Jc (n:=a.k) (by omega) (by omega)]
 have e3:(⟨(Kg a b k).k,(Kg a b k).t⟩:Lin)=Kg a b k:=rfl
 unfold YP
 rw[ha,hb,if_pos rfl,if_pos rfl,e2,X9,<- e1,e3,EI]
end Go.Pl

namespace Go.Pl
open Go.RowKit
def wM(m:List (Str×Int)):Prop:= ∀ s,Xe (Um m s)=Um m s
theorem add_zero: ∀ (x:List Coef) (m:List (Str×Int)),wM m-> ∀ s,Um (Xj 0 x m) s=Um m s
 | [],m,h,s=>rfl
 | t::x,m,h,s=>by
  have e : ∀ y,Um (VP t.v (IntKind.i64.wrap (Um m t.v.s+IntKind.i64.wrap (0*t.c))) m) y=Um m y:=fun y=>by
   rw[Pt]
   split
   ·rename_i hy
    have:IntKind.i64.wrap (0*t.c)=0:=by rw[Int.zero_mul];rfl
    rw[this,Int.add_zero,<- hy]
    exact h t.v.s
   ·rfl
  rw[Xj,add_zero x _ (fun y=>by rw[e];exact h y),e]
end Go.Pl

namespace Go.Pl
open Go.RowKit
end Go.Pl

namespace Go.Pl
open Go.RowKit
open Enc (enc dec is)
open EncL (encL decL isL)
end Go.Pl

namespace Go.Pl
open Go.RowKit
open Enc (enc dec is)
open EncL (encL decL isL)
set_option maxRecDepth 100000
end Go.Pl

namespace Go.Pl
open Go.RowKit
open Enc (enc dec is)
open EncL (encL decL isL)
set_option maxRecDepth 100000
end Go.Pl

namespace Go.Pl
open Go.RowKit
open Enc (enc dec is)
open EncL (encL decL isL)
end Go.Pl

namespace Go.Pl
open Go.RowKit
open Enc (enc dec is)
open EncL (encL decL isL)
end Go.Pl

namespace Go.Pl
open Go.RowKit
open Enc (enc dec is)
open EncL (encL decL isL)
end Go.Pl

namespace Go.Pl
open Go.RowKit
open Enc (enc dec is)
open EncL (encL decL isL)
theorem one_of{α:Type}: ∀ {ks:List α},ks.length=1-> ∃ a,ks=[a]
 | [a],_=>⟨a,rfl⟩
end Go.Pl

namespace Go.Pl
open Go.RowKit
open Enc (enc dec is)
open EncL (encL decL isL)
set_option maxRecDepth 100000
end Go.Pl

namespace Go.Pl
open Go.RowKit
open Enc (enc dec is)
open EncL (encL decL isL)
end Go.Pl

namespace Go.Pl
open Go.RowKit
open Enc (enc dec is)
open EncL (encL decL isL)
theorem sub_zero(b:Bool):Sub (.tup [c1v,.bool b]) (enc (((⟨0,[]⟩:Lin),b):Lin×Bool)):=Sub.pair (Sub.agg_cons (.refl _) (Sub.agg_cons (.sl0 _ _ _) Sub.agg_nil)) (.refl _)
end Go.Pl

namespace Go.Pl
open Go.RowKit
open Enc (enc dec is)
open EncL (encL decL isL)
def ZW(c:UInt8):Bool:=Wm c||c==95||digB c
def Zh(s:List UInt8):List UInt8:=s.dropWhile fun c=>c==32
def rdV(s:List UInt8)(n:Int)(es:List (PV×PV)):List AObj:=[.box [.pv (.str s),.pv (.int .i64 n),.map 1],.map es]
def ZU:List AV->List AObj->Bool
 | [.ptr 0 0],[.box [.pv (.str s),.pv (.int .i64 n),.map 1],.map es]=>decide (s.length<=1000000)
 | _,_=>false
def XB(g:Nat):List AV->List AObj->Bool
 | [.ptr 0 0,.pv (.fn g')],[.box [.pv (.str s),.pv (.int .i64 n),.map 1],.map es]=>g'==g&&decide (s.length<=1000000)
 | _,_=>false
def Qy:List AV->List AObj->AV×List AObj×List AObj
 | _,[.box [.pv (.str s),.pv (.int .i64 n),.map 1],.map es]=>(.tup [],rdV (Zh s) n es,[])
 | _,_=>Uy
def Tp(p:UInt8->Bool):List AV->List AObj->AV×List AObj×List AObj
 | _,[.box [.pv (.str s),.pv (.int .i64 n),.map 1],.map es]=>(.pv (.str (s.takeWhile p)),rdV (s.dropWhile p) n es,[])
 | _,_=>Uy
def Nu(d:List UInt8):Bool:= !(Z6 ⟨d⟩).2.b&&decide (d.length<=7)&&(decide (d.head? ≠ some 48)||decide (d=[48]))
def Qu:List AV->List AObj->AV×List AObj×List AObj
 | _,[.box [.pv (.str s),.pv (.int .i64 n),.map 1],.map es]=>(.tup [.pv (.int .i64 (Z6 ⟨s.takeWhile digB⟩).1),.pv (.bool (Nu (s.takeWhile digB)))],rdV (s.dropWhile digB) n es,[])
 | _,_=>Uy
def Qw:List AV->List AObj->AV×List AObj×List AObj
 | _,[.box [.pv (.str s),.pv (.int .i64 n),.map 1],.map es]=>(.tup [.pv (.str (s.takeWhile ZW)),.pv (.bool (Yc ⟨s.takeWhile ZW⟩))],rdV (s.dropWhile ZW) n es,[])
 | _,_=>Uy
def Yu:List UInt8->(Int×Bool)×List UInt8
 | []=>((1,false),[])
 | c::r=>if c=43 then((1,true),r)else if c=45 then((-1,true),r)else((1,false),c::r)
def JV:List AV->List AObj->AV×List AObj×List AObj
 | _,[.box [.pv (.str s),.pv (.int .i64 n),.map 1],.map es]=>(.tup [.pv (.int .i64 (Yu s).1.1),.pv (.bool (Yu s).1.2)],rdV (Yu s).2 n es,[])
 | _,_=>Uy
end Go.Pl

namespace Go.Pl
open Go.RowKit
open Enc (enc dec is)
open EncL (encL decL isL)
structure RdS where
 s:List UInt8
 n:Int
 m:List (Str×Int)
def RdS.os(r:RdS):List AObj:=rdV r.s r.n (Zj r.m)
def L8(s:List UInt8)(n:Int)(m:List (Str×Int))(k:Int):Bool×RdS:=
 (Yc ⟨s.takeWhile ZW⟩,⟨s.dropWhile ZW,n,VP ⟨s.takeWhile ZW⟩ (Xe (Um m (s.takeWhile ZW)+k)) m⟩)
def Jl(s:List UInt8)(n:Int)(m:List (Str×Int))(k:Int):Bool×RdS:=
 if ([42]:List UInt8).isPrefixOf (Zh s)then L8 (Zh ((Zh s).drop 1)) n m k
 else if s=[]∨ZW (s.headD 0)=false then(true,⟨s,Xe (n+k),m⟩)
 else L8 s n m k
def ZY(r:RdS)(g:Int):Bool×RdS:=
 if r.s=[]then(false,r)
 else if digB (r.s.headD 0)=false then L8 r.s r.n r.m g
 else if Nu (r.s.takeWhile digB)=false then(false,⟨r.s.dropWhile digB,r.n,r.m⟩)
 else Jl (r.s.dropWhile digB) r.n r.m (Xe (g*(Z6 ⟨r.s.takeWhile digB⟩).1))
def Ki:List AV->List AObj->Bool
 | [.ptr 0 0,.pv (.int .i64 g)],[.box [.pv (.str s),.pv (.int .i64 n),.map 1],.map es]=>Gq es&&decide (s.length<=1000000)
 | _,_=>false
def Mw(z:Bool×RdS):AV×List AObj×List AObj:=(.pv (.bool z.1),z.2.os,[])
def Ho:List AV->List AObj->AV×List AObj×List AObj
 | [_,.pv (.int .i64 g)],[.box [.pv (.str s),.pv (.int .i64 n),.map 1],.map es]=>Mw (ZY ⟨s,n,Z4 es⟩ g)
 | _,_=>Uy
end Go.Pl

namespace Go.Pl
open Go.RowKit
def Bo:Nat->List UInt8->Int->List (Str×Int)->Int->Lin×Int
 | 0,_,_,_,_=>(⟨0,[]⟩,6)
 | f+1,t,n,m,g=>
  if (ZY ⟨Zh t,n,m⟩ g).1=false then(⟨0,[]⟩,6)
  else if Zh (ZY ⟨Zh t,n,m⟩ g).2.s=[]then X9 (ZY ⟨Zh t,n,m⟩ g).2.n (ZY ⟨Zh t,n,m⟩ g).2.m
  else if (Yu (Zh (ZY ⟨Zh t,n,m⟩ g).2.s)).1.2=false then(⟨0,[]⟩,6)
  else Bo f (Yu (Zh (ZY ⟨Zh t,n,m⟩ g).2.s)).2 (ZY ⟨Zh t,n,m⟩ g).2.n (ZY ⟨Zh t,n,m⟩ g).2.m (Yu (Zh (ZY ⟨Zh t,n,m⟩ g).2.s)).1.1
def XH(s:List UInt8):Lin×Int:=Bo (s.length+1) (Yu (Zh s)).2 0 [] (Yu (Zh s)).1.1
end Go.Pl

namespace Go.Pl
open Go.RowKit
open Enc (enc dec is)
open EncL (encL decL isL)
def Sc(x y:Coef):Int:=if Lib.compareBytes x.v.s y.v.s≠0 then Lib.compareBytes x.v.s y.v.s else QY x.c y.c
def VC:List Coef->List Coef->Int
 | [],[]=>0
 | [],_::_=> -1
 | _::_,[]=>1
 | x::l,y::m=>if Sc x y≠0 then Sc x y else VC l m
def V8(a b:Lin):Int:=if VC a.t b.t≠0 then VC a.t b.t else QY a.k b.k
def Yr(o:List UInt8)(n:Int)(s:List UInt8):List UInt8:=
 (if decide (n ≥ 0)&&decide (o≠[])then o++[43]else o)++((if decide (s≠[])&&(decide (n=1)||decide (n = -1))then Lib.trimSuffix (Xr n).s [49]else(Xr n).s)++s)
def Gw(ts:List Coef):List UInt8:=ts.foldl (fun o t=>Yr o t.c t.v.s) []
def Wt(l:Lin):List UInt8:=if Zm l then(if decide (l.k≠0)||decide (Gw l.t=[])then Yr (Gw l.t) l.k []else Gw l.t)else []
def XR:List AV->List AObj->Bool
 | [.pv (.int .i64 n),.pv (.str s),.ptr 0 0],[.box [.pv (.str o)]]=>decide (-9223372036854775808<=n)&&decide (n<=9223372036854775807)&&decide (s.length<=1000000)&&decide (o.length<=1000000)
 | _,_=>false
def Hd:List AV->List AObj->AV×List AObj×List AObj
 | [.pv (.int .i64 n),.pv (.str s),.ptr 0 0],[.box [.pv (.str o)]]=>(.tup [],[.box [.pv (.str (Yr o n s))]],[])
 | _,_=>Uy
end Go.Pl

namespace Go.Pl
open Go.RowKit
open Enc (enc dec is)
open EncL (encL decL isL)
def KQ(v:List UInt8)(b:Bnd):Bool:=decide (b.kind=1)&&b.v.s==v
def Cq:List AV->List AObj->Bool
 | [.pv x,.ptr 0 0],[.box [.pv (.str v),.pv (.int .i64 c)]]=>Jk Bnd x
 | _,_=>false
def TF:List AV->List AObj->AV×List AObj×List AObj
 | [.pv x,_],[.box [.pv (.str v),.pv (.int .i64 c)]]=>(.pv (.bool (KQ v (dec x))),[.box [.pv (.str v),.pv (.int .i64 c)]],[])
 | _,_=>Uy
def Kz(g:Nat):List AV->List AObj->Bool
 | [.pv l,.fn g' [] [.ptr 0 0]],[.box [.pv (.str v),.pv (.int .i64 c)]]=>g'==g&&Jk (List Bnd) l&&decide ((dec l:List Bnd).length<=9223372036854775807)
 | _,_=>false
def DU:List AV->List AObj->AV×List AObj×List AObj
 | [.pv l,_],[.box [.pv (.str v),.pv (.int .i64 c)]]=>(.pv (.int .i64 (X8 (KQ v) (dec l))),[.box [.pv (.str v),.pv (.int .i64 c)]],[])
 | _,_=>Uy
def M0(bs:List Bnd)(s:Int×List (Str×Int))(t:Coef):Option (Int×List (Str×Int)):=match bs.find? (KQ t.v.s)with
 | none=>some (s.1,VP t.v (Xe (Um s.2 t.v.s+t.c)) s.2)
 | some b=>if Zm b.dim then some (Xe (s.1+Xe (t.c*b.dim.k)),Xj t.c b.dim.t s.2)else none
def QL(bs:List Bnd):List Coef->Int×List (Str×Int)->Option (Int×List (Str×Int))
 | [],s=>some s
 | t::ts,s=>match M0 bs s t with|none=>none|some s'=>QL bs ts s'
def Qj(l:Lin)(bs:List Bnd):Lin×Int:=if Zm l then(match QL bs l.t (l.k,[])with|none=>(⟨0,[]⟩,1)|some s=>X9 s.1 s.2)else(⟨0,[]⟩,1)
def Gz(bs:List Bnd):Bool:=decide (bs.length<=9223372036854775807)&&bs.all fun b=>ZJ b.dim
end Go.Pl

namespace Go.Pl
open Go.RowKit
open Enc (enc dec is)
open EncL (encL decL isL)
set_option maxRecDepth 100000
def GI:IC:=(.seq (.reg [⟨(some 0),(.mv (.c (.bool false))),0,none⟩] none) (.seq (.reg [⟨(some 16),(.call (.c (.fn 37)) [(.c (.str [50,110]))]),0,none⟩,⟨(some 15),(.mv (.t 16)),2,none⟩,⟨(some 17),(.extract (.t 15) 0),2,none⟩,⟨(some 18),(.extract (.t 15) 1),2,none⟩,⟨(some 1),(.alloc (.agg [(.int .i64 0),(.sl 0 true [])])),2,none⟩,⟨none,(.store 2 (.t 1) (.t 17)),3,none⟩,⟨(some 2),(.mv (.t 18)),3,none⟩] none) (.seq (.reg [⟨(some 20),(.call (.c (.fn 37)) [(.c (.str [109,32,45,32,49]))]),0,none⟩,⟨(some 19),(.mv (.t 20)),2,none⟩,⟨(some 21),(.extract (.t 19) 0),2,none⟩,⟨(some 22),(.extract (.t 19) 1),2,none⟩,⟨(some 3),(.alloc (.agg [(.int .i64 0),(.sl 0 true [])])),2,none⟩,⟨none,(.store 2 (.t 3) (.t 21)),3,none⟩,⟨(some 4),(.mv (.t 22)),3,none⟩] none) (.seq (.reg [⟨(some 24),(.load true [(.int .i64),(.sl 2)] (.t 1)),0,none⟩,⟨(some 25),(.load true [(.int .i64),(.sl 2)] (.t 3)),0,none⟩,⟨(some 26),(.call (.c (.fn 38)) [(.t 24),(.t 25)]),0,none⟩,⟨(some 23),(.mv (.t 26)),2,none⟩,⟨(some 27),(.extract (.t 23) 0),2,none⟩,⟨(some 28),(.extract (.t 23) 1),2,none⟩,⟨(some 5),(.alloc (.agg [(.int .i64 0),(.sl 0 true [])])),2,none⟩,⟨none,(.store 2 (.t 5) (.t 27)),3,none⟩,⟨(some 6),(.mv (.t 28)),3,none⟩] none) (.seq (.reg [⟨(some 30),(.call (.c (.fn 37)) [(.c (.str [51,32,42,32,110,32,45,32,110,43,32,50]))]),0,none⟩,⟨(some 29),(.mv (.t 30)),2,none⟩,⟨(some 31),(.extract (.t 29) 0),2,none⟩,⟨(some 32),(.extract (.t 29) 1),2,none⟩,⟨(some 7),(.alloc (.agg [(.int .i64 0),(.sl 0 true [])])),2,none⟩,⟨none,(.store 2 (.t 7) (.t 31)),3,none⟩,⟨(some 8),(.mv (.t 32)),3,none⟩] none) (.seq (.reg [⟨(some 34),(.call (.c (.fn 37)) [(.c (.str [110,43,109]))]),0,none⟩,⟨(some 33),(.mv (.t 34)),2,none⟩,⟨(some 35),(.extract (.t 33) 0),2,none⟩,⟨(some 36),(.extract (.t 33) 1),2,none⟩,⟨(some 9),(.alloc (.agg [(.int .i64 0),(.sl 0 true [])])),2,none⟩,⟨none,(.store 2 (.t 9) (.t 35)),3,none⟩,⟨(some 10),(.mv (.t 36)),3,none⟩] none) (.seq (.reg [⟨(some 38),(.call (.c (.fn 37)) [(.c (.str [109,43,49]))]),0,none⟩,⟨(some 37),(.mv (.t 38)),2,none⟩,⟨(some 39),(.extract (.t 37) 0),2,none⟩,⟨(some 40),(.extract (.t 37) 1),2,none⟩,⟨(some 11),(.alloc (.agg [(.int .i64 0),(.sl 0 true [])])),2,none⟩,⟨none,(.store 2 (.t 11) (.t 39)),3,none⟩,⟨(some 12),(.mv (.t 40)),3,none⟩] none) (.seq (.reg [⟨(some 42),(.load true [(.int .i64),(.sl 2)] (.t 9)),0,none⟩,⟨(some 43),(.load true [(.int .i64),(.sl 2)] (.t 11)),0,none⟩,⟨(some 44),(.build [(.int .i64 0),(.str []),(.int .i64 0),(.sl 0 true []),(.str []),(.sl 0 true []),(.str [])] [(0,(1,(.c (.int .i64 1)))),(1,(1,(.c (.str [110])))),(2,(2,(.t 43)))]),0,none⟩,⟨(some 45),(.bslice 77 7 1 (.agg [(.int .i64 0),(.str []),(.int .i64 0),(.sl 0 true []),(.str []),(.sl 0 true []),(.str [])]) [(0,(.t 44))]),0,none⟩,⟨(some 46),(.call (.c (.fn 39)) [(.t 42),(.t 45)]),1,none⟩,⟨(some 41),(.mv (.t 46)),3,none⟩,⟨(some 47),(.extract (.t 41) 0),3,none⟩,⟨(some 48),(.extract (.t 41) 1),3,none⟩,⟨(some 13),(.alloc (.agg [(.int .i64 0),(.sl 0 true [])])),3,none⟩,⟨none,(.store 2 (.t 13) (.t 47)),4,none⟩,⟨(some 14),(.mv (.t 48)),4,none⟩] none) (.seq (.reg [⟨(some 49),(.mv (.t 2)),0,none⟩,⟨(some 50),(.bin .num .eql (.t 49) (.c (.int .i64 0))),0,none⟩,⟨(some 51),(.mv (.t 50)),0,none⟩,⟨(some 52),(.mv (.t 4)),0,(some (51,true))⟩,⟨(some 53),(.bin .num .eql (.t 52) (.c (.int .i64 0))),0,(some (51,true))⟩,⟨(some 54),(.pick (.t 51) (.t 53) (.c (.bool false))),0,none⟩,⟨(some 55),(.mv (.t 54)),0,none⟩,⟨(some 56),(.mv (.t 6)),0,(some (55,true))⟩,⟨(some 57),(.bin .num .eql (.t 56) (.c (.int .i64 0))),0,(some (55,true))⟩,⟨(some 58),(.pick (.t 55) (.t 57) (.c (.bool false))),0,none⟩,⟨(some 59),(.mv (.t 58)),0,none⟩,⟨(some 60),(.mv (.t 8)),0,(some (59,true))⟩,⟨(some 61),(.bin .num .eql (.t 60) (.c (.int .i64 0))),0,(some (59,true))⟩,⟨(some 62),(.pick (.t 59) (.t 61) (.c (.bool false))),0,none⟩,⟨(some 63),(.mv (.t 62)),0,none⟩,⟨(some 64),(.mv (.t 10)),0,(some (63,true))⟩,⟨(some 65),(.bin .num .eql (.t 64) (.c (.int .i64 0))),0,(some (63,true))⟩,⟨(some 66),(.pick (.t 63) (.t 65) (.c (.bool false))),0,none⟩,⟨(some 67),(.mv (.t 66)),0,none⟩,⟨(some 68),(.mv (.t 12)),0,(some (67,true))⟩,⟨(some 69),(.bin .num .eql (.t 68) (.c (.int .i64 0))),0,(some (67,true))⟩,⟨(some 70),(.pick (.t 67) (.t 69) (.c (.bool false))),0,none⟩,⟨(some 71),(.mv (.t 70)),0,none⟩,⟨(some 72),(.mv (.t 14)),0,(some (71,true))⟩,⟨(some 73),(.bin .num .eql (.t 72) (.c (.int .i64 0))),0,(some (71,true))⟩,⟨(some 74),(.pick (.t 71) (.t 73) (.c (.bool false))),0,none⟩,⟨(some 75),(.mv (.t 74)),0,none⟩,⟨(some 76),(.load true [(.int .i64),(.sl 2)] (.t 5)),0,(some (75,true))⟩,⟨(some 77),(.call (.c (.fn 40)) [(.t 76)]),0,(some (75,true))⟩,⟨(some 78),(.bin .num .eql (.t 77) (.c (.str [109,43,50,110,45,49]))),2,(some (75,true))⟩,⟨(some 79),(.pick (.t 75) (.t 78) (.c (.bool false))),2,none⟩,⟨(some 80),(.mv (.t 79)),2,none⟩,⟨(some 81),(.load true [(.int .i64),(.sl 2)] (.t 7)),2,(some (80,true))⟩,⟨(some 82),(.call (.c (.fn 40)) [(.t 81)]),2,(some (80,true))⟩,⟨(some 83),(.bin .num .eql (.t 82) (.c (.str [50,110,43,50]))),4,(some (80,true))⟩,⟨(some 84),(.pick (.t 80) (.t 83) (.c (.bool false))),4,none⟩,⟨(some 85),(.mv (.t 84)),4,none⟩,⟨(some 86),(.load true [(.int .i64),(.sl 2)] (.t 13)),4,(some (85,true))⟩,⟨(some 87),(.call (.c (.fn 40)) [(.t 86)]),4,(some (85,true))⟩,⟨(some 88),(.bin .num .eql (.t 87) (.c (.str [50,109,43,49]))),6,(some (85,true))⟩,⟨(some 89),(.pick (.t 85) (.t 88) (.c (.bool false))),6,none⟩,⟨(some 90),(.mv (.t 89)),6,none⟩,⟨(some 91),(.load true [(.int .i64),(.sl 2)] (.t 5)),6,(some (90,true))⟩,⟨(some 92),(.call (.c (.fn 41)) [(.t 91)]),6,(some (90,true))⟩,⟨(some 93),(.pick (.t 90) (.t 92) (.c (.bool false))),8,none⟩,⟨(some 94),(.mv (.t 93)),8,none⟩,⟨(some 95),(.load true [(.int .i64),(.sl 2)] (.t 5)),8,(some (94,true))⟩,⟨(some 96),(.load true [(.int .i64),(.sl 2)] (.t 5)),8,(some (94,true))⟩,⟨(some 97),(.call (.c (.fn 42)) [(.t 95),(.t 96)]),8,(some (94,true))⟩,⟨(some 98),(.pick (.t 94) (.t 97) (.c (.bool false))),10,none⟩,⟨(some 0),(.mv (.t 98)),10,none⟩] none) .ret)))))))))
def Gn:List IRes:=[(.tmp 0)]
abbrev a2k:Nat:=99
def CK:ZG:=Xo [(37,.pure (preT (fun x:Str×Unit=>decide (x.1.s.length<=400000))) (Zo (fun x:Str×Unit=>XH x.1.s))),(38,.pure (preT (fun x:Lin×Lin×Unit=>ZJ x.1&&ZJ x.2.1)) (Zo (fun x:Lin×Lin×Unit=>YP x.1 x.2.1 1))),(39,.pure (preT (fun x:Lin×List Bnd×Unit=>ZJ x.1&&Gz x.2.1)) (Zo (fun x:Lin×List Bnd×Unit=>Qj x.1 x.2.1))),(40,.pure (preT (fun x:Lin×Unit=>ZJ x.1)) (Zo (fun x:Lin×Unit=>(⟨Wt x.1⟩:Str)))),(41,.pure (preT (fun x:Lin×Unit=>ZJ x.1)) (Zo (fun x:Lin×Unit=>Zm x.1))),(42,.pure (preT (fun x:Lin×Lin×Unit=>ZL x.1&&ZL x.2.1)) (Zo (fun x:Lin×Lin×Unit=>V8 x.1 x.2.1==0)))]
theorem b1j{G:PV->Prop}(h : ∃ y0:Lin×Int,AV.pv (Zo (fun(x:Str×Unit)=>XH (Str.s x.1)) [(.str [(50:UInt8),(110:UInt8)])])=AV.pv (enc y0)∧(∃ y1:Lin×Int,AV.pv (Zo (fun(x:Str×Unit)=>XH (Str.s x.1)) [(.str [(109:UInt8),(32:UInt8),(45:UInt8),(32:UInt8),(49:UInt8)])])=AV.pv (enc y1)∧((Go.Pl.preT (fun(x:Lin×Lin×Unit)=>ZJ x.1&&ZJ x.2.1) [(.agg [(.int .i64 y0.1.k),(.sl 2 false (List.map enc y0.1.t))]),(.agg [(.int .i64 y1.1.k),(.sl 2 false (List.map enc y1.1.t))])])=true∧(∃ y2:Lin×Int,AV.pv (Zo (fun(x:Lin×Lin×Unit)=>YP x.1 x.2.1 1) [(.agg [(.int .i64 y0.1.k),(.sl 2 false (List.map enc y0.1.t))]),(.agg [(.int .i64 y1.1.k),(.sl 2 false (List.map enc y1.1.t))])])=AV.pv (enc y2)∧(∃ y3:Lin×Int,AV.pv (Zo (fun(x:Str×Unit)=>XH (Str.s x.1)) [(.str [(51:UInt8),(32:UInt8),(42:UInt8),(32:UInt8),(110:UInt8),(32:UInt8),(45:UInt8),(32:UInt8),(110:UInt8),(43:UInt8),(32:UInt8),(50:UInt8)])])=AV.pv (enc y3)∧(∃ y4:Lin×Int,AV.pv (Zo (fun(x:Str×Unit)=>XH (Str.s x.1)) [(.str [(110:UInt8),(43:UInt8),(109:UInt8)])])=AV.pv (enc y4)∧(∃ y5:Lin×Int,AV.pv (Zo (fun(x:Str×Unit)=>XH (Str.s x.1)) [(.str [(109:UInt8),(43:UInt8),(49:UInt8)])])=AV.pv (enc y5)∧((Go.Pl.preT (fun(x:Lin×List Bnd×Unit)=>ZJ x.1&&Gz x.2.1) [(.agg [(.int .i64 y4.1.k),(.sl 2 false (List.map enc y4.1.t))]),(.sl 7 false [(.agg [(.int .i64 1),(.str [(110:UInt8)]),(.int .i64 y5.1.k),(.sl 2 false (List.map enc y5.1.t)),(.str []),(.sl 0 true []),(.str [])])])])=true∧(∃ y6:Lin×Int,AV.pv (Zo (fun(x:Lin×List Bnd×Unit)=>Qj x.1 x.2.1) [(.agg [(.int .i64 y4.1.k),(.sl 2 false (List.map enc y4.1.t))]),(.sl 7 false [(.agg [(.int .i64 1),(.str [(110:UInt8)]),(.int .i64 y5.1.k),(.sl 2 false (List.map enc y5.1.t)),(.str []),(.sl 0 true []),(.str [])])])])=AV.pv (enc y6)∧(if (y0.2==0)=true then if (y1.2==0)=true then if (y2.2==0)=true then if (y3.2==0)=true then if (y4.2==0)=true then if (y5.2==0)=true then if (y6.2==0)=true then(Go.Pl.preT (fun(x:Lin×Unit)=>ZJ x.1) [(.agg [(.int .i64 y2.1.k),(.sl 2 false (List.map enc y2.1.t))])])=true∧(∃ y7:Str,AV.pv (Zo (fun(x:Lin×Unit)=>Str.mk (Wt x.1)) [(.agg [(.int .i64 y2.1.k),(.sl 2 false (List.map enc y2.1.t))])])=AV.pv (enc y7)∧(if (Str.s y7==[(109:UInt8),(43:UInt8),(50:UInt8),(110:UInt8),(45:UInt8),(49:UInt8)])=true then(Go.Pl.preT (fun(x:Lin×Unit)=>ZJ x.1) [(.agg [(.int .i64 y3.1.k),(.sl 2 false (List.map enc y3.1.t))])])=true∧(∃ y8:Str,AV.pv (Zo (fun(x:Lin×Unit)=>Str.mk (Wt x.1)) [(.agg [(.int .i64 y3.1.k),(.sl 2 false (List.map enc y3.1.t))])])=AV.pv (enc y8)∧(if (Str.s y8==[(50:UInt8),(110:UInt8),(43:UInt8),(50:UInt8)])=true then(Go.Pl.preT (fun(x:Lin×Unit)=>ZJ x.1) [(.agg [(.int .i64 y6.1.k),(.sl 2 false (List.map enc y6.1.t))])])=true∧(∃ y9:Str,AV.pv (Zo (fun(x:Lin×Unit)=>Str.mk (Wt x.1)) [(.agg [(.int .i64 y6.1.k),(.sl 2 false (List.map enc y6.1.t))])])=AV.pv (enc y9)∧(if (Str.s y9==[(50:UInt8),(109:UInt8),(43:UInt8),(49:UInt8)])=true then(Go.Pl.preT (fun(x:Lin×Unit)=>ZJ x.1) [(.agg [(.int .i64 y2.1.k),(.sl 2 false (List.map enc y2.1.t))])])=true∧(∃ y10:Bool,AV.pv (Zo (fun(x:Lin×Unit)=>Zm x.1) [(.agg [(.int .i64 y2.1.k),(.sl 2 false (List.map enc y2.1.t))])])=AV.pv (enc y10)∧(if (y10)=true then(Go.Pl.preT (fun(x:Lin×Lin×Unit)=>ZL x.1&&ZL x.2.1) [(.agg [(.int .i64 y2.1.k),(.sl 2 false (List.map enc y2.1.t))]),(.agg [(.int .i64 y2.1.k),(.sl 2 false (List.map enc y2.1.t))])])=true∧(∃ y11:Bool,AV.pv (Zo (fun(x:Lin×Lin×Unit)=>V8 x.1 x.2.1==0) [(.agg [(.int .i64 y2.1.k),(.sl 2 false (List.map enc y2.1.t))]),(.agg [(.int .i64 y2.1.k),(.sl 2 false (List.map enc y2.1.t))])])=AV.pv (enc y11)∧(G ((.bool y11))))else(G ((.bool false)))))else(G ((.bool false)))))else(G ((.bool false)))))else(G ((.bool false)))))else(G ((.bool false)))else(G ((.bool false)))else(G ((.bool false)))else(G ((.bool false)))else(G ((.bool false)))else(G ((.bool false)))else(G ((.bool false))))))))))))):Ze CK 0 (Zg Gn G) GI [] (Y2 99 []):=Ze.tp (.lit (.abs (Lin×Int) (fun YY=>AV.pv (enc YY)) (.lit (.abs (Lin×Int) (fun YY=>AV.pv (enc YY)) (.req (.abs (Lin×Int) (fun YY=>AV.pv (enc YY)) (.lit (.abs (Lin×Int) (fun YY=>AV.pv (enc YY)) (.lit (.abs (Lin×Int) (fun YY=>AV.pv (enc YY)) (.lit (.abs (Lin×Int) (fun YY=>AV.pv (enc YY)) (.lit (.lit (.req (.abs (Lin×Int) (fun YY=>AV.pv (enc YY)) (.lit (.ask (.lit (.lit (.lit (.ask (.lit (.lit (.lit (.ask (.lit (.lit (.lit (.ask (.lit (.lit (.lit (.ask (.lit (.lit (.lit (.ask (.lit (.lit (.lit (.ask (.lit (.req (.abs (Str) (fun YY=>AV.pv (enc YY)) (.lit (.lit (.lit (.ask (.lit (.req (.abs (Str) (fun YY=>AV.pv (enc YY)) (.lit (.lit (.lit (.ask (.lit (.req (.abs (Str) (fun YY=>AV.pv (enc YY)) (.lit (.lit (.lit (.ask (.lit (.req (.abs (Bool) (fun YY=>AV.pv (enc YY)) (.lit (.ask (.lit (.lit (.req (.abs (Bool) (fun YY=>AV.pv (enc YY)) (.lit (.nil)))))) (.lit (.lit (.lit (.nil))))))))) (.lit (.lit (.lit (.lit (.lit (.lit (.nil)))))))))))))) (.lit (.lit (.lit (.lit (.lit (.lit (.lit (.lit (.lit (.lit (.nil)))))))))))))))))) (.lit (.lit (.lit (.lit (.lit (.lit (.lit (.lit (.lit (.lit (.lit (.lit (.lit (.lit (.nil)))))))))))))))))))))) (.lit (.lit (.lit (.lit (.lit (.lit (.lit (.lit (.lit (.lit (.lit (.lit (.lit (.lit (.lit (.lit (.lit (.lit (.nil))))))))))))))))))))))) (.lit (.lit (.lit (.lit (.lit (.lit (.lit (.lit (.lit (.lit (.lit (.lit (.lit (.lit (.lit (.lit (.lit (.lit (.lit (.lit (.lit (.nil)))))))))))))))))))))))))) (.lit (.lit (.lit (.lit (.lit (.lit (.lit (.lit (.lit (.lit (.lit (.lit (.lit (.lit (.lit (.lit (.lit (.lit (.lit (.lit (.lit (.lit (.lit (.lit (.nil))))))))))))))))))))))))))))) (.lit (.lit (.lit (.lit (.lit (.lit (.lit (.lit (.lit (.lit (.lit (.lit (.lit (.lit (.lit (.lit (.lit (.lit (.lit (.lit (.lit (.lit (.lit (.lit (.lit (.lit (.lit (.nil)))))))))))))))))))))))))))))))) (.lit (.lit (.lit (.lit (.lit (.lit (.lit (.lit (.lit (.lit (.lit (.lit (.lit (.lit (.lit (.lit (.lit (.lit (.lit (.lit (.lit (.lit (.lit (.lit (.lit (.lit (.lit (.lit (.lit (.lit (.nil))))))))))))))))))))))))))))))))))) (.lit (.lit (.lit (.lit (.lit (.lit (.lit (.lit (.lit (.lit (.lit (.lit (.lit (.lit (.lit (.lit (.lit (.lit (.lit (.lit (.lit (.lit (.lit (.lit (.lit (.lit (.lit (.lit (.lit (.lit (.lit (.lit (.lit (.nil)))))))))))))))))))))))))))))))))))))) (.lit (.lit (.lit (.lit (.lit (.lit (.lit (.lit (.lit (.lit (.lit (.lit (.lit (.lit (.lit (.lit (.lit (.lit (.lit (.lit (.lit (.lit (.lit (.lit (.lit (.lit (.lit (.lit (.lit (.lit (.lit (.lit (.lit (.lit (.lit (.lit (.nil))))))))))))))))))))))))))))))))))))))))))))))))))))))) h (by kernel_rfl)
end Go.Pl

namespace Go.Pl
open Go.RowKit
open Enc (enc dec is)
open EncL (encL decL isL)
set_option maxRecDepth 100000
def Ul:IC:=WX
def Ue:List IRes:=[]
def Ko:ZG:=Xo [(56,.own Y8 WB),(41,.pure (preT (fun x:Lin×Unit=>ZJ x.1)) (Zo (fun x:Lin×Unit=>Zm x.1)))]
theorem a4k{G:AV×List AObj×List AObj->Prop}(E:Xt)(r:List UInt8)(n:Int)(s:List UInt8)(c:Int)(h:if (c != 0)=true then E 99 ⟨Ws 58 0 [(0,(.ptr 0 1)),(2,(.ptr 2 0)),(4,(.ptr 3 0)),(5,(.row 5 1 0 1)),(18,(.map 1)),(19,(.ptr 4 0))],[(.obj (.box [(.pv (.str r)),(.pv (.int .i64 n)),(.map 1)])),.dead,(.obj (.box [(.pv (.int .i64 0)),(.pv (.sl 0 true []))])),(.obj (.box [(.pv (.int .i64 n)),(.pv (.sl 0 true []))])),.dead,(.obj (.row false 9 1 [(.str s)]))]⟩ (fun x S'=>OH Ko E 5 (Zk 5 Ue G) Ul 99 x S')else(E 99 ⟨Ws 58 0 [(0,(.ptr 0 1)),(2,(.ptr 2 0)),(4,(.ptr 3 0)),(5,(.pv (.sl 0 true []))),(18,(.map 1)),(19,(.ptr 4 0))],[(.obj (.box [(.pv (.str r)),(.pv (.int .i64 n)),(.map 1)])),.dead,(.obj (.box [(.pv (.int .i64 0)),(.pv (.sl 0 true []))])),(.obj (.box [(.pv (.int .i64 n)),(.pv (.sl 0 true []))])),.dead]⟩ (fun x S'=>OH Ko E 5 (Zk 5 Ue G) Ul 99 x S'))):Yk Ko E 5 (Zk 5 Ue G) (.inl Ul) [.blk 1,.seq (.ext 99 [0,2,4,5,18,19])] ⟨Ws 58 0 [(0,.ptr 0 1),(2,.ptr 2 0),(4,.ptr 3 0),(5,.pv (.sl 0 true [])),(6,.pv (.str s)),(7,.pv (.int .i64 c)),(18,.map 1),(19,.ptr 4 0),(22,.pv (.tup [.str s,.int .i64 c])),(23,.pv (.str s)),(24,.pv (.int .i64 c))],[.obj (.box [.pv (.str r),.pv (.int .i64 n),.map 1]),.dead,.obj (.box [.pv (.int .i64 0),.pv (.sl 0 true [])]),.obj (.box [.pv (.int .i64 n),.pv (.sl 0 true [])]),.dead]⟩:=Yk.mo (.lit (.ask (.lit (.lit (.lit (.lit (.lit (.nil)))))) (.nil))) h (by kernel_rfl)
theorem b1u{G:AV×List AObj×List AObj->Prop}(E:Xt)(r:List UInt8)(n:Int)(s:List UInt8)(c:Int)(l:Nat)(xs:List (List UInt8))(h:if (c != 0)=true then(List.length (List.map PV.str xs)==l&&l==l&&decide ((l+List.length (List.drop 0 (List.take 1 [PV.str s])))*16<=1099511627776)&&decide (l+List.length (List.drop 0 (List.take 1 [PV.str s]))<=1099511627776))=true∧(E 99 ⟨Ws 58 0 [(0,(.ptr 0 1)),(2,(.ptr 2 0)),(4,(.ptr 3 0)),(5,(.row 5 (l+List.length (List.drop 0 (List.take 1 [PV.str s]))) 0 (l+List.length (List.drop 0 (List.take 1 [PV.str s]))))),(18,(.map 1)),(19,(.ptr 4 0))],[(.obj (.box [(.pv (.str r)),(.pv (.int .i64 n)),(.map 1)])),.dead,(.obj (.box [(.pv (.int .i64 0)),(.pv (.sl 0 true []))])),(.obj (.box [(.pv (.int .i64 n)),(.pv (.sl 0 true []))])),.dead,(.obj (.row false 9 1 (List.map PV.str xs++List.drop 0 (List.take 1 [PV.str s]))))]⟩ (fun x S'=>OH Ko E 6 (Zk 6 Ue G) Ul 99 x S'))else(E 99 ⟨Ws 58 0 [(0,(.ptr 0 1)),(2,(.ptr 2 0)),(4,(.ptr 3 0)),(5,(.row 5 l 0 l)),(18,(.map 1)),(19,(.ptr 4 0))],[(.obj (.box [(.pv (.str r)),(.pv (.int .i64 n)),(.map 1)])),.dead,(.obj (.box [(.pv (.int .i64 0)),(.pv (.sl 0 true []))])),(.obj (.box [(.pv (.int .i64 n)),(.pv (.sl 0 true []))])),.dead,(.obj (.row false 9 1 (List.map PV.str xs)))]⟩ (fun x S'=>OH Ko E 6 (Zk 6 Ue G) Ul 99 x S'))):Yk Ko E 6 (Zk 6 Ue G) (.inl Ul) [.blk 1,.seq (.ext 99 [0,2,4,5,18,19])] ⟨Ws 58 0 [(0,.ptr 0 1),(2,.ptr 2 0),(4,.ptr 3 0),(5,.row 5 l 0 l),(6,.pv (.str s)),(7,.pv (.int .i64 c)),(18,.map 1),(19,.ptr 4 0),(22,.pv (.tup [.str s,.int .i64 c])),(23,.pv (.str s)),(24,.pv (.int .i64 c))],[.obj (.box [.pv (.str r),.pv (.int .i64 n),.map 1]),.dead,.obj (.box [.pv (.int .i64 0),.pv (.sl 0 true [])]),.obj (.box [.pv (.int .i64 n),.pv (.sl 0 true [])]),.dead,.obj (.row false 9 1 (xs.map .str))]⟩:=Yk.mo (.lit (.ask (.lit (.lit (.req (.nil)))) (.nil))) h (by kernel_rfl)
def Y4:IC:=YV
def Y5:List IRes:=[(.cell true 2 2),(.tmp 3)]
abbrev b7b:Nat:=58
def Xb:ZG:=Xo [(56,.own Y8 WB),(41,.pure (preT (fun x:Lin×Unit=>ZJ x.1)) (Zo (fun x:Lin×Unit=>Zm x.1)))]
theorem b8g{G:AV×List AObj×List AObj->Prop}(E:Xt)(r:List UInt8)(n:Int)(m:List (Str×Int))(h:E 0 ⟨Ws 58 0 [(0,(.ptr 0 1)),(2,(.ptr 2 0)),(4,(.ptr 3 0)),(5,(.pv (.sl 0 true []))),(6,.undef),(7,.undef),(15,.undef),(16,.undef),(17,.undef),(18,.undef),(19,.undef),(20,.undef),(21,.undef),(22,.undef),(23,.undef),(24,.undef),(25,.undef),(26,.undef),(27,.undef),(28,.undef),(29,.undef),(30,.undef)],[(.obj (.box [(.pv (.str r)),(.pv (.int .i64 n)),(.map 1)])),(.obj (.map (Zj m))),(.obj (.box [(.pv (.int .i64 0)),(.pv (.sl 0 true []))])),(.obj (.box [(.pv (.int .i64 n)),(.pv (.sl 0 true []))]))]⟩ (fun x S'=>OH Xb E 2 (Zk 2 Y5 G) Y4 0 x S')):Yk Xb E 2 (Zk 2 Y5 G) (.inl Y4) [] (ZK 58 [.ptr 0 1] [.box [.pv (.str r),.pv (.int .i64 n),.map 1],.map (Zj m)]):=Yk.mo (.nil) h (by kernel_rfl)
-- IMPOSSIBLE
theorem a7g{G:AV×List AObj×List AObj->Prop}(E:Xt)(r:List UInt8)(n:Int)(m:List (Str×Int))(i:Int)(h:if (decide (i<0))=true then(decide (0<=i)&&decide (Int.toNat i<List.length ([]:List PV))&&0==1)=true∧(False)else(∃ y0:Bool,AV.pv (Zo (fun(x:Lin×Unit)=>Zm x.1) [(.agg [(.int .i64 n),(.sl 0 true [])])])=AV.pv (enc y0)∧(if (!y0)=true then G (((.tup [(.pv (.agg [(.int .i64 0),(.sl 0 true [])])),(.pv (.int .i64 3))]),([(.box [(.pv (.str r)),(.pv (.int .i64 n)),(.map 1)]),(.map (Zj m))],[])))else(G (((.tup [(.pv (.agg [(.int .i64 n),(.sl 0 true [])])),(.pv (.int .i64 0))]),([(.box [(.pv (.str r)),(.pv (.int .i64 n)),(.map 1)]),(.map (Zj m))],[]))))))):PG Xb E 2 (Zk 2 Y5 G) Y4 0 58 [(0,.ptr 0 1),(2,.ptr 2 0),(4,.ptr 3 0),(33,.pv (.sl 0 true [])),(34,.pv (.int .i64 0)),(35,.pv (.int .i64 i))] [.obj (.box [.pv (.str r),.pv (.int .i64 n),.map 1]),.obj (.map (Zj m)),.obj (.box [.pv (.int .i64 0),.pv (.sl 0 true [])]),.obj (.box [.pv (.int .i64 n),.pv (.sl 0 true [])])]:=Yk.mo (.lit (.ask (.req (.keep (.lit (.nil)))) (.lit (.abs (Bool) (fun YY=>AV.pv (enc YY)) (.ask (.nil) (.nil)))))) h (by kernel_rfl)
theorem a5q{G:AV×List AObj×List AObj->Prop}(E:Xt)(r:List UInt8)(n:Int)(m:List (Str×Int))(l:Nat)(xs:List (List UInt8))(i:Int)(h:if (decide (i<(↑l:Int)))=true then(decide (0<=i)&&decide (0+Int.toNat i<l)&&List.length (List.map PV.str xs)==l)=true∧((List.length (List.map PV.str xs)==l&&decide (0+Int.toNat i<List.length (List.map PV.str xs)))=true∧((decide (0+List.length [Sh.str]<=List.length (PV.cells (List.getD (List.map PV.str xs) (0+Int.toNat i) default)))&&KR (PV.cells (List.getD (List.map PV.str xs) (0+Int.toNat i) default)) 0 [Sh.str])=true∧((Va (Sh.co Sh.str (List.getD (PV.cells (List.getD (List.map PV.str xs) (0+Int.toNat i) default)) 0 default)) (Zj m)&&Sh.fit (Sh.int .i64) (ZP (Sh.co Sh.str (List.getD (PV.cells (List.getD (List.map PV.str xs) (0+Int.toNat i) default)) 0 default)) (PV.int .i64 0) (Zj m)))=true∧(PG Xb E 2 (Zk 2 Y5 G) Y4 0 58 [(0,(.ptr 0 1)),(2,(.ptr 2 0)),(4,(.ptr 3 0)),(33,(.row 4 l 0 l)),(34,(.pv (.int .i64 (↑l:Int)))),(35,(.pv (.int .i64 (IntKind.wrap IntKind.i64 (i+1)))))] [(.obj (.box [(.pv (.str r)),(.pv (.int .i64 n)),(.map 1)])),(.obj (.map (Zj m))),(.obj (.box [(.pv (.int .i64 0)),(.pv (.sl 0 true []))])),(.obj (.box [(.pv (.int .i64 n)),(.row 5 1 0 1)])),(.obj (.row false 9 1 (List.map PV.str xs))),(.obj (.row false 80 2 [(.agg [(.str (PV.asStr (List.getD (PV.cells (List.getD (List.map PV.str xs) (0+Int.toNat i) default)) 0 default))),(.int .i64 (PV.asInt (ZP (Sh.co Sh.str (List.getD (PV.cells (List.getD (List.map PV.str xs) (0+Int.toNat i) default)) 0 default)) (PV.int .i64 0) (Zj m))))])]))]))))else(∃ y0:Bool,AV.pv (Zo (fun(x:Lin×Unit)=>Zm x.1) [(.agg [(.int .i64 n),(.sl 0 true [])])])=AV.pv (enc y0)∧(if (!y0)=true then G (((.tup [(.pv (.agg [(.int .i64 0),(.sl 0 true [])])),(.pv (.int .i64 3))]),([(.box [(.pv (.str r)),(.pv (.int .i64 n)),(.map 1)]),(.map (Zj m))],[])))else(G (((.tup [(.pv (.agg [(.int .i64 n),(.sl 0 true [])])),(.pv (.int .i64 0))]),([(.box [(.pv (.str r)),(.pv (.int .i64 n)),(.map 1)]),(.map (Zj m))],[]))))))):PG Xb E 2 (Zk 2 Y5 G) Y4 0 58 [(0,.ptr 0 1),(2,.ptr 2 0),(4,.ptr 3 0),(33,.row 4 l 0 l),(34,.pv (.int .i64 l)),(35,.pv (.int .i64 i))] [.obj (.box [.pv (.str r),.pv (.int .i64 n),.map 1]),.obj (.map (Zj m)),.obj (.box [.pv (.int .i64 0),.pv (.sl 0 true [])]),.obj (.box [.pv (.int .i64 n),.pv (.sl 0 true [])]),.obj (.row false 9 1 (xs.map .str))]:=Yk.mo (.lit (.ask (.req (.keep (.req (.req (.req (.keep (.lit (.lit (.lit (.lit (.lit (.lit (.nil))))))))))))) (.lit (.abs (Bool) (fun YY=>AV.pv (enc YY)) (.ask (.nil) (.nil)))))) h (by kernel_rfl)
theorem P7{G:AV×List AObj×List AObj->Prop}(E:Xt)(r:List UInt8)(n:Int)(m:List (Str×Int))(l:Nat)(xs:List (List UInt8))(i:Int)(q:Nat)(ts:List Coef)(h:if (decide (i<(↑l:Int)))=true then(decide (0<=i)&&decide (0+Int.toNat i<l)&&List.length (List.map PV.str xs)==l)=true∧((List.length (List.map PV.str xs)==l&&decide (0+Int.toNat i<List.length (List.map PV.str xs)))=true∧((decide (0+List.length [Sh.str]<=List.length (PV.cells (List.getD (List.map PV.str xs) (0+Int.toNat i) default)))&&KR (PV.cells (List.getD (List.map PV.str xs) (0+Int.toNat i) default)) 0 [Sh.str])=true∧((Va (Sh.co Sh.str (List.getD (PV.cells (List.getD (List.map PV.str xs) (0+Int.toNat i) default)) 0 default)) (Zj m)&&Sh.fit (Sh.int .i64) (ZP (Sh.co Sh.str (List.getD (PV.cells (List.getD (List.map PV.str xs) (0+Int.toNat i) default)) 0 default)) (PV.int .i64 0) (Zj m)))=true∧((List.length (List.map enc ts)==q&&q==q&&decide ((q+List.length (List.drop 0 (List.take 1 [PV.agg [Sh.co Sh.str (List.getD (PV.cells (List.getD (List.map PV.str xs) (0+Int.toNat i) default)) 0 default),if false=true then PV.tup [Sh.co (Sh.int .i64) (ZP (Sh.co Sh.str (List.getD (PV.cells (List.getD (List.map PV.str xs) (0+Int.toNat i) default)) 0 default)) (PV.int .i64 0) (Zj m)),PV.bool (Xm (Sh.co Sh.str (List.getD (PV.cells (List.getD (List.map PV.str xs) (0+Int.toNat i) default)) 0 default)) (Zj m))]else Sh.co (Sh.int .i64) (ZP (Sh.co Sh.str (List.getD (PV.cells (List.getD (List.map PV.str xs) (0+Int.toNat i) default)) 0 default)) (PV.int .i64 0) (Zj m))]])))*24<=1099511627776)&&decide (q+List.length (List.drop 0 (List.take 1 [PV.agg [Sh.co Sh.str (List.getD (PV.cells (List.getD (List.map PV.str xs) (0+Int.toNat i) default)) 0 default),if false=true then PV.tup [Sh.co (Sh.int .i64) (ZP (Sh.co Sh.str (List.getD (PV.cells (List.getD (List.map PV.str xs) (0+Int.toNat i) default)) 0 default)) (PV.int .i64 0) (Zj m)),PV.bool (Xm (Sh.co Sh.str (List.getD (PV.cells (List.getD (List.map PV.str xs) (0+Int.toNat i) default)) 0 default)) (Zj m))]else Sh.co (Sh.int .i64) (ZP (Sh.co Sh.str (List.getD (PV.cells (List.getD (List.map PV.str xs) (0+Int.toNat i) default)) 0 default)) (PV.int .i64 0) (Zj m))]]))<=1099511627776))=true∧(PG Xb E 2 (Zk 2 Y5 G) Y4 0 58 [(0,(.ptr 0 1)),(2,(.ptr 2 0)),(4,(.ptr 3 0)),(33,(.row 4 l 0 l)),(34,(.pv (.int .i64 (↑l:Int)))),(35,(.pv (.int .i64 (IntKind.wrap IntKind.i64 (i+1)))))] [(.obj (.box [(.pv (.str r)),(.pv (.int .i64 n)),(.map 1)])),(.obj (.map (Zj m))),(.obj (.box [(.pv (.int .i64 0)),(.pv (.sl 0 true []))])),(.obj (.box [(.pv (.int .i64 n)),(.row 5 (q+List.length (List.drop 0 (List.take 1 [PV.agg [Sh.co Sh.str (List.getD (PV.cells (List.getD (List.map PV.str xs) (0+Int.toNat i) default)) 0 default),if false=true then PV.tup [Sh.co (Sh.int .i64) (ZP (Sh.co Sh.str (List.getD (PV.cells (List.getD (List.map PV.str xs) (0+Int.toNat i) default)) 0 default)) (PV.int .i64 0) (Zj m)),PV.bool (Xm (Sh.co Sh.str (List.getD (PV.cells (List.getD (List.map PV.str xs) (0+Int.toNat i) default)) 0 default)) (Zj m))]else Sh.co (Sh.int .i64) (ZP (Sh.co Sh.str (List.getD (PV.cells (List.getD (List.map PV.str xs) (0+Int.toNat i) default)) 0 default)) (PV.int .i64 0) (Zj m))]]))) 0 (q+List.length (List.drop 0 (List.take 1 [PV.agg [Sh.co Sh.str (List.getD (PV.cells (List.getD (List.map PV.str xs) (0+Int.toNat i) default)) 0 default),if false=true then PV.tup [Sh.co (Sh.int .i64) (ZP (Sh.co Sh.str (List.getD (PV.cells (List.getD (List.map PV.str xs) (0+Int.toNat i) default)) 0 default)) (PV.int .i64 0) (Zj m)),PV.bool (Xm (Sh.co Sh.str (List.getD (PV.cells (List.getD (List.map PV.str xs) (0+Int.toNat i) default)) 0 default)) (Zj m))]else Sh.co (Sh.int .i64) (ZP (Sh.co Sh.str (List.getD (PV.cells (List.getD (List.map PV.str xs) (0+Int.toNat i) default)) 0 default)) (PV.int .i64 0) (Zj m))]]))))])),(.obj (.row false 9 1 (List.map PV.str xs))),(.obj (.row false 80 2 (List.map enc ts++List.drop 0 (List.take 1 [PV.agg [Sh.co Sh.str (List.getD (PV.cells (List.getD (List.map PV.str xs) (0+Int.toNat i) default)) 0 default),if false=true then PV.tup [Sh.co (Sh.int .i64) (ZP (Sh.co Sh.str (List.getD (PV.cells (List.getD (List.map PV.str xs) (0+Int.toNat i) default)) 0 default)) (PV.int .i64 0) (Zj m)),PV.bool (Xm (Sh.co Sh.str (List.getD (PV.cells (List.getD (List.map PV.str xs) (0+Int.toNat i) default)) 0 default)) (Zj m))]else Sh.co (Sh.int .i64) (ZP (Sh.co Sh.str (List.getD (PV.cells (List.getD (List.map PV.str xs) (0+Int.toNat i) default)) 0 default)) (PV.int .i64 0) (Zj m))]]))))])))))else((List.length (List.map enc ts)==q)=true∧((Go.Pl.preT (fun(x:Lin×Unit)=>ZJ x.1) [(.agg [(.int .i64 n),(.sl 2 false (List.drop 0 (List.take q (List.map enc ts))))])])=true∧(∃ y0:Bool,AV.pv (Zo (fun(x:Lin×Unit)=>Zm x.1) [(.agg [(.int .i64 n),(.sl 2 false (List.drop 0 (List.take q (List.map enc ts))))])])=AV.pv (enc y0)∧(if (!y0)=true then G (((.tup [(.pv (.agg [(.int .i64 0),(.sl 0 true [])])),(.pv (.int .i64 3))]),([(.box [(.pv (.str r)),(.pv (.int .i64 n)),(.map 1)]),(.map (Zj m))],[])))else(G (((.tup [(.agg [(.pv (.int .i64 n)),(.row 2 q 0 q)]),(.pv (.int .i64 0))]),([(.box [(.pv (.str r)),(.pv (.int .i64 n)),(.map 1)]),(.map (Zj m))],[(.row true 80 2 (List.map enc ts))]))))))))):PG Xb E 2 (Zk 2 Y5 G) Y4 0 58 [(0,.ptr 0 1),(2,.ptr 2 0),(4,.ptr 3 0),(33,.row 4 l 0 l),(34,.pv (.int .i64 l)),(35,.pv (.int .i64 i))] [.obj (.box [.pv (.str r),.pv (.int .i64 n),.map 1]),.obj (.map (Zj m)),.obj (.box [.pv (.int .i64 0),.pv (.sl 0 true [])]),.obj (.box [.pv (.int .i64 n),.row 5 q 0 q]),.obj (.row false 9 1 (xs.map .str)),.obj (.row false 80 2 (ts.map enc))]:=Yk.mo (.lit (.ask (.req (.keep (.req (.req (.req (.keep (.lit (.lit (.req (.lit (.nil))))))))))) (.req (.req (.abs (Bool) (fun YY=>AV.pv (enc YY)) (.ask (.nil) (.nil))))))) h (by kernel_rfl)
theorem a9k{G:AV×List AObj×List AObj->Prop}(E:Xt)(r:List UInt8)(n:Int)(m:List (Str×Int))(h:PG Xb E 2 (Zk 2 Y5 G) Y4 0 58 [(0,(.ptr 0 1)),(2,(.ptr 2 0)),(4,(.ptr 3 0)),(33,(.pv (.sl 0 true []))),(34,(.pv (.int .i64 0))),(35,(.pv (.int .i64 0)))] [(.obj (.box [(.pv (.str r)),(.pv (.int .i64 n)),(.map 1)])),(.obj (.map (Zj m))),(.obj (.box [(.pv (.int .i64 0)),(.pv (.sl 0 true []))])),(.obj (.box [(.pv (.int .i64 n)),(.pv (.sl 0 true []))]))]):OH Xb E 2 (Zk 2 Y5 G) Y4 0 .normal ⟨Ws 58 0 [(0,.ptr 0 1),(2,.ptr 2 0),(4,.ptr 3 0),(5,.pv (.sl 0 true [])),(18,.map 1),(19,.ptr 4 0)],[.obj (.box [.pv (.str r),.pv (.int .i64 n),.map 1]),.obj (.map (Zj m)),.obj (.box [.pv (.int .i64 0),.pv (.sl 0 true [])]),.obj (.box [.pv (.int .i64 n),.pv (.sl 0 true [])]),.dead]⟩:=Yk.mo (.lit (.keep (.nil))) h (by kernel_rfl)
theorem b1g{G:AV×List AObj×List AObj->Prop}(E:Xt)(r:List UInt8)(n:Int)(m:List (Str×Int))(l:Nat)(xs:List (List UInt8))(h:(Y8 [(.row 0 l 0 l)] [(.row false 9 1 (List.map PV.str xs))])=true∧(PG Xb E 2 (Zk 2 Y5 G) Y4 0 58 [(0,(.ptr 0 1)),(2,(.ptr 2 0)),(4,(.ptr 3 0)),(33,(.row 4 l 0 l)),(34,(.pv (.int .i64 (↑(l - 0):Int)))),(35,(.pv (.int .i64 0)))] [(.obj (.box [(.pv (.str r)),(.pv (.int .i64 n)),(.map 1)])),(.obj (.map (Zj m))),(.obj (.box [(.pv (.int .i64 0)),(.pv (.sl 0 true []))])),(.obj (.box [(.pv (.int .i64 n)),(.pv (.sl 0 true []))])),(.obj (.row false 9 1 (List.map PV.str (YQ (List.map Dy (List.map PV.str xs))))))])):OH Xb E 2 (Zk 2 Y5 G) Y4 0 .normal ⟨Ws 58 0 [(0,.ptr 0 1),(2,.ptr 2 0),(4,.ptr 3 0),(5,.row 5 l 0 l),(18,.map 1),(19,.ptr 4 0)],[.obj (.box [.pv (.str r),.pv (.int .i64 n),.map 1]),.obj (.map (Zj m)),.obj (.box [.pv (.int .i64 0),.pv (.sl 0 true [])]),.obj (.box [.pv (.int .i64 n),.pv (.sl 0 true [])]),.dead,.obj (.row false 9 1 (xs.map .str))]⟩:=Yk.mo (.req (.keep (.nil))) h (by kernel_rfl)
end Go.Pl

namespace Go.Pl
open Go.RowKit
open Enc (enc dec is)
open EncL (encL decL isL)
def JK(r:List UInt8)(n:Int)(m:List (Str×Int))(l:List Coef):AV×List AObj×List AObj:=
 if Zm ⟨n,l⟩then
  if l.isEmpty then(.tup [.pv (.agg [.int .i64 n,.sl 0 true []]),.pv (.int .i64 0)],[.box [.pv (.str r),.pv (.int .i64 n),.map 1],.map (Zj m)],[])
  else(.tup [.agg [.pv (.int .i64 n),.row 2 l.length 0 l.length],.pv (.int .i64 0)],[.box [.pv (.str r),.pv (.int .i64 n),.map 1],.map (Zj m)],[.row true 80 2 (l.map enc)])
 else(.tup [.pv (.agg [.int .i64 0,.sl 0 true []]),.pv (.int .i64 3)],[.box [.pv (.str r),.pv (.int .i64 n),.map 1],.map (Zj m)],[])
theorem a2t{E:Xt}(r:List UInt8)(n:Int)(m:List (Str×Int))(xs:List (List UInt8))(hx:xs.length<=1000000)(hsx : ∀ x∈xs,x.length<=1000000): ∀ (j k:Nat),j+k=xs.length->0<k ->
  PG Xb E 2 (Zk 2 Y5 fun z=>z=JK r n m (ZE m xs)) Y4 0 58 [(0,.ptr 0 1),(2,.ptr 2 0),(4,.ptr 3 0),(33,.row 4 xs.length 0 xs.length),(34,.pv (.int .i64 xs.length)),(35,.pv (.int .i64 k))]
   [.obj (.box [.pv (.str r),.pv (.int .i64 n),.map 1]),.obj (.map (Zj m)),.obj (.box [.pv (.int .i64 0),.pv (.sl 0 true [])]),.obj (.box [.pv (.int .i64 n),.row 5 k 0 k]),.obj (.row false 9 1 (xs.map .str)),.obj (.row false 80 2 ((ZE m (xs.take k)).map enc))]:=by
 intro j
 induction j with
 | zero=>
  intro k hk h0
  obtain rfl:k=xs.length:=by omega
  refine P7 E r n m xs.length xs xs.length xs.length (ZE m (xs.take xs.length)) ?_
  rw[if_neg (by simp)]
  have e1:ZE m (xs.take xs.length)=ZE m xs:=by rw[List.take_length]
  rw[e1]
  have e2:List.drop 0 (List.take xs.length (List.map (enc:Coef->PV) (ZE m xs)))=(ZE m xs).map enc:=by rw[List.drop_zero,List.take_of_length_le (by simp[ZE])]
  rw[e2]
  refine⟨by simp[ZE],Zt (⟨n,ZE m xs⟩,()) rfl (Mg n m hx hsx),Zz (⟨n,ZE m xs⟩,()) rfl ?_⟩
  have hne:(ZE m xs).isEmpty=false:=by cases xs <;> simp[ZE]at h0 ⊢
  by_cases hv:Zm ⟨n,ZE m xs⟩=true
  ·rw[if_neg (by simp[hv])]
   unfold JK
   rw[if_pos hv,hne]
   simp[ZE]
  ·rw[if_pos (by simpa using hv)]
   simp[JK,hv]
 | succ j ih=>
  intro k hk h0
  have hlt:k<xs.length:=by omega
  refine P7 E r n m xs.length xs k k (ZE m (xs.take k)) ?_
  rw[if_pos (by simp;omega)]
  have eg:List.getD (List.map PV.str xs) (0+Int.toNat (k:Int)) default = .str xs[k]:=by simp[List.getD,hlt]
  rw[eg]
  have ec:Sh.co Sh.str (List.getD (PV.cells (.str xs[k])) 0 default) = .str xs[k]:=rfl
  rw[ec,Vl]
  refine⟨by simp;omega,by simp;omega,rfl,by rw[Vj];rfl,?_,?_⟩
  ·simp[ZE];omega
  ·have h:=ih (k+1) (by omega) (by omega)
   have et:xs.take (k+1)=xs.take k++[xs[k]]:=by rw[List.take_add_one,List.getElem?_eq_getElem hlt];rfl
   rw[et]at h
   rw[next (by omega)]
   simp only[ZE,List.map_append,List.map_cons,List.map_nil]at h ⊢
   exact h
def JN:Xt:=fun nn st q=>nn=0∧b7z Xb 2 NL st q
def a6w(r:List UInt8)(n:Int):ZF:=[.obj (.box [.pv (.str r),.pv (.int .i64 n),.map 1]),.dead,.obj (.box [.pv (.int .i64 0),.pv (.sl 0 true [])]),.obj (.box [.pv (.int .i64 n),.pv (.sl 0 true [])]),.dead]
def Ci(x:AV):List AV:=Ws 58 0 [(0,.ptr 0 1),(2,.ptr 2 0),(4,.ptr 3 0),(5,x),(18,.map 1),(19,.ptr 4 0)]
def a4u(r:List UInt8)(n:Int)(vis:List (PV×PV))(s:St):Prop:=
 (kz vis=[]∧s=⟨Ci (.pv (.sl 0 true [])),a6w r n⟩)∨(kz vis≠[]∧s=⟨Ci (.row 5 (kz vis).length 0 (kz vis).length),a6w r n++[.obj (.row false 9 1 ((kz vis).map .str))]⟩)
theorem Ld(r:List UInt8)(n:Int)(vis:List (PV×PV))(s:List UInt8)(c:Int)(st:St)(hl:(kz vis).length<1000000)(h:a4u r n vis st):
  ∃ s2,UV Xb st.heap.length NL.psE (grow ⟨((st.env.set 20 .junk).set 21 .junk).set 22 (.pv (.tup [.str s,.int .i64 c])),st.heap⟩ (news NL.psE))=some s2∧ ∃ F',(∀ x,¬ F' x) ∧
   Yk Xb (fun n' S' _=>n'=99∧a4u r n (vis++[(.str s,.int .i64 c)]) S') st.heap.length F' (.inl Ul) [.blk 1,.seq (.ext 99 [0,2,4,5,18,19])] s2:=by
 have hno : ∀ k,∀ x,¬ Zk k Ue (fun _=>False) x:=by rintro k x ⟨r,_,h⟩;exact h
 have ek:kz (vis++[(.str s,.int .i64 c)])=kz vis++(if c=0 then []else [s]):=by
  unfold kz
  rw[List.filterMap_append]
  by_cases hc:c=0 <;> simp[hc]
 rcases h with ⟨h1,rfl⟩|⟨h1,rfl⟩
 ·refine⟨_,by kernel_rfl,_,hno 5,a4k (G:=fun _=>False) _ r n s c ?_⟩
  by_cases hc:c=0
  ·rw[if_neg (by simp[hc])]
   refine⟨rfl,.inl ⟨by rw[ek,h1];simp[hc],rfl⟩⟩
  ·rw[if_pos (by simpa using hc)]
   refine⟨rfl,.inr ⟨by rw[ek,h1];simp[hc],?_⟩⟩
   rw[ek,h1]
   simp[hc]
   exact⟨rfl,rfl⟩
 ·refine⟨_,by kernel_rfl,_,hno 6,b1u (G:=fun _=>False) _ r n s c (kz vis).length (kz vis) ?_⟩
  by_cases hc:c=0
  ·rw[if_neg (by simp[hc])]
   refine⟨rfl,.inr ⟨by rw[ek];simp[hc,h1],?_⟩⟩
   rw[ek]
   simp[hc]
   exact⟨rfl,rfl⟩
  ·rw[if_pos (by simpa using hc)]
   refine⟨by simp;omega,rfl,.inr ⟨by rw[ek];simp[hc],?_⟩⟩
   rw[ek]
   simp[hc]
   exact⟨rfl,rfl⟩
theorem FH{E:Xt}(r:List UInt8)(n:Int)(m:List (Str×Int))(xs:List (List UInt8))(hx:xs.length<=1000000)(hsx : ∀ x∈xs,x.length<=1000000)(h0:0<xs.length):
  PG Xb E 2 (Zk 2 Y5 fun z=>z=JK r n m (ZE m xs)) Y4 0 58 [(0,.ptr 0 1),(2,.ptr 2 0),(4,.ptr 3 0),(33,.row 4 xs.length 0 xs.length),(34,.pv (.int .i64 xs.length)),(35,.pv (.int .i64 0))]
   [.obj (.box [.pv (.str r),.pv (.int .i64 n),.map 1]),.obj (.map (Zj m)),.obj (.box [.pv (.int .i64 0),.pv (.sl 0 true [])]),.obj (.box [.pv (.int .i64 n),.pv (.sl 0 true [])]),.obj (.row false 9 1 (xs.map .str))]:=by
 refine a5q E r n m xs.length xs 0 ?_
 rw[if_pos (by simp;omega)]
 have eg:List.getD (List.map PV.str xs) (0+Int.toNat (0:Int)) default = .str xs[0]:=by simp[List.getD,h0]
 rw[eg]
 have ec:Sh.co Sh.str (List.getD (PV.cells (.str xs[0])) 0 default) = .str xs[0]:=rfl
 rw[ec,Vl]
 refine⟨by simp;omega,by simp;omega,rfl,by rw[Vj];rfl,?_⟩
 have h:=a2t (E:=E) r n m xs hx hsx (xs.length - 1) 1 (by omega) (by omega)
 have et:xs.take 1=[xs[0]]:=by cases xs <;> simp at h0 ⊢
 rw[et]at h
 exact h
theorem a7y(r:List UInt8)(n:Int)(m:List (Str×Int))(hm:m.length<1000000)(hkm : ∀ x∈X7 m,x.length<=1000000):
  KV Xb JN 2 (Zk 2 Y5 fun z=>z=JK r n m (ZE m (X7 m))) Y4 [] (ZK 58 [.ptr 0 1] [.box [.pv (.str r),.pv (.int .i64 n),.map 1],.map (Zj m)]):=by
 refine b8g JN r n m ?_
 have elen : ∀ x,(Ci x).length=58:=fun x=>rfl
 refine⟨rfl,⟨((((Ws 58 0 [(0,.ptr 0 1),(2,.ptr 2 0),(4,.ptr 3 0),(5,.pv (.sl 0 true [])),(6,.undef),(7,.undef),(15,.undef),(16,.undef),(17,.undef),(18,.undef),(19,.undef),(20,.undef),(21,.undef),(22,.undef),(23,.undef),(24,.undef),(25,.undef),(26,.undef),(27,.undef),(28,.undef),(29,.undef),(30,.undef)]).set 15 (.ptr 0 1)).set 16 (.ptr 0 1)).set 17 (.ptr 0 2)).set 18 (.map 1),
   [.obj (.box [.pv (.str r),.pv (.int .i64 n),.map 1]),.obj (.map (Zj m)),.obj (.box [.pv (.int .i64 0),.pv (.sl 0 true [])]),.obj (.box [.pv (.int .i64 n),.pv (.sl 0 true [])])]⟩,⟨Ci (.pv (.sl 0 true [])),a6w r n⟩,1,4,18,1,Zj m,[0,2,4,5,18,19],[0,2,4,5,18,19],a4u r n,by kernel_rfl,rfl,rfl,by kernel_rfl,rfl,by decide,rfl,.inl ⟨rfl,rfl⟩,?_,?_,?_⟩
 ·intro vis s h
  rcases h with ⟨_,rfl⟩|⟨_,rfl⟩
  ·exact⟨⟨rfl,by show 20<_;rw[elen];omega,by show 21<_;rw[elen];omega,by show 22<_;rw[elen];omega⟩,rfl⟩
  ·exact⟨⟨rfl,by show 20<_;rw[elen];omega,by show 21<_;rw[elen];omega,by show 22<_;rw[elen];omega⟩,rfl⟩
 ·intro vis kv s rest hp hI
  have hin:kv∈Zj m:=hp.mem_iff.2 (by simp)
  obtain⟨p,_,rfl⟩:=List.mem_map.1 hin
  have hl:=hp.length_eq
  simp[Zj]at hl
  have hk:(kz vis).length<=vis.length:=List.length_filterMap_le _ _
  exact Ld r n vis p.1.s p.2 s (by omega) hI
 ·intro vis s hp hI
  have hpk:(kz vis).Perm (kz (Zj m)):=hp.filterMap _
  have hs:YQ (kz vis)=X7 m:=BB hpk
  have hkl:(kz vis).length<=1000000:=by
   have h1:(kz vis).length<=vis.length:=List.length_filterMap_le _ _
   have h2:=hp.length_eq
   simp[Zj]at h2
   omega
  rcases hI with ⟨h1,rfl⟩|⟨h1,rfl⟩
  ·refine a9k JN r n m ?_
   have hn:X7 m=[]:=by rw[<- hs,h1];simp[YQ]
   rw[hn]
   refine a7g JN r n m 0 ?_
   rw[if_neg (by simp)]
   refine QA (⟨n,[]⟩,()) (by simp) ?_
   by_cases hv:Zm ⟨n,[]⟩=true
   ·rw[if_neg (by simp[hv])]
    simp[JK,ZE,hv]
   ·rw[if_pos (by simpa using hv)]
    simp[JK,ZE,hv]
  ·refine b1g JN r n m (kz vis).length (kz vis) ?_
   have e1:List.map Dy (List.map PV.str (kz vis))=kz vis:=by rw[List.map_map];exact List.map_id _
   rw[e1,hs]
   have e2:(X7 m).length=(kz vis).length:=by rw[<- hs];exact(List.mergeSort_perm _ _).length_eq
   refine⟨?_,?_⟩
   ·simp[Y8,CZ]
    omega
   ·have:=FH (E:=JN) r n m (X7 m) (by omega) hkm (by rw[e2];exact List.length_pos_iff.2 h1)
    rw[e2]at this
    simpa using this
def Xd:List AV->List AObj->Bool
 | [.ptr 0 1],[.box [.pv (.str r),.pv (.int .i64 n),.map 1],.map es]=>Gq es&&KX (Z4 es)
 | _,_=>false
def JE:List AV->List AObj->AV×List AObj×List AObj
 | _,[.box [.pv (.str r),.pv (.int .i64 n),.map 1],.map es]=>(.pv (enc (X9 n (Z4 es))),[.box [.pv (.str r),.pv (.int .i64 n),.map 1],.map es],[])
 | _,_=>Uy
def U0:List AV->List AObj->AV×List AObj×List AObj
 | _,[.box [.pv (.str r),.pv (.int .i64 n),.map 1],.map es]=>JK r n (Z4 es) (YX (Z4 es))
 | _,_=>Uy
theorem a6h: ∀ args os,Xd args os=true->KV Xb JN os.length (Zk os.length Y5 fun z=>z=U0 args os) Y4 [] (ZK b7b args os):=by
 intro args os h
 unfold Xd at h
 split at h
 ·rename_i r n es
  simp only[Bool.and_eq_true,KX,decide_eq_true_eq,List.all_eq_true]at h
  obtain⟨h1,h2,h3⟩:=h
  obtain⟨m,rfl⟩:=QD h1
  rw[Yt]at h2 h3
  have hv:U0 [.ptr 0 1] [.box [.pv (.str r),.pv (.int .i64 n),.map 1],.map (Zj m)]=JK r n m (ZE m (X7 m)):=by
   show JK r n (Z4 (Zj m)) (YX (Z4 (Zj m)))=_
   rw[Yt,Dq]
  rw[hv]
  refine a7y r n m h2 fun x hx=>h3 x ?_
  have hx:x∈kz (Zj m):=(List.mergeSort_perm _ _).mem_iff.1 hx
  rw[Re]at hx
  obtain⟨p,hp,rfl⟩:=List.mem_map.1 hx
  exact List.mem_map.2 ⟨p,(List.mem_filter.1 hp).1,rfl⟩
 ·cases h
theorem a9x: ∀ args os,Xd args os=true->(U0 args os).2.1.length=os.length:=by
 intro args os h
 unfold Xd at h
 split at h
 ·show(JK _ _ _ _).2.1.length=_
  unfold JK
  split
  ·split <;> rfl
  ·rfl
 ·cases h
theorem a9h{P:Program}{f:Nat}(h:Zu P f Xd U0):Zu P f Xd JE:=by
 refine h.frz fun args os hp=> ?_
 unfold Xd at hp
 split at hp
 ·rename_i r n es
  have hv:U0 [.ptr 0 1] [.box [.pv (.str r),.pv (.int .i64 n),.map 1],.map es]=JK r n (Z4 es) (YX (Z4 es)):=rfl
  have hv':JE [.ptr 0 1] [.box [.pv (.str r),.pv (.int .i64 n),.map 1],.map es]=(.pv (enc (X9 n (Z4 es))),[.box [.pv (.str r),.pv (.int .i64 n),.map 1],.map es],[]):=rfl
  simp only[Bool.and_eq_true]at hp
  obtain⟨m,rfl⟩:=QD hp.1
  rw[hv,hv',Yt]
  unfold JK X9
  generalize YX m=l
  by_cases hl:Zm ⟨n,l⟩=true
  ·rw[if_pos hl,if_pos hl]
   by_cases hz:l.isEmpty=true
   ·rw[if_pos hz]
    obtain rfl:l=[]:=by simpa using hz
    exact⟨_,_,_,_,_,_,_,_,rfl,rfl,rfl,KP n 0,rfl⟩
   ·rw[if_neg hz]
    refine⟨_,_,_,.tup [.agg [.int .i64 n,.sl 2 false (l.map enc)],.int .i64 0],[.obj (.box [.pv (.str r),.pv (.int .i64 n),.map 1]),.obj (.map (Zj m)),.obj (.row true 80 2 (l.map enc))],_,_,_,rfl,?_,rfl,.refl _,rfl⟩
    have e:List.drop 0 (List.take l.length (List.map (enc:Coef->PV) l))=l.map enc:=by rw[List.drop_zero,List.take_of_length_le (by simp)]
    simp only[frz,Vf,HM.run_bind,Yb,List.map_cons,List.map_nil,List.cons_append,List.nil_append]
    simp[HM.run,HM.req]
    exact List.take_of_length_le (by simp)
  ·rw[if_neg hl,if_neg hl]
   exact⟨_,_,_,_,_,_,_,_,rfl,rfl,rfl,KP 0 3,rfl⟩
 ·cases hp
end Go.Pl

namespace Go.Pl
open Go.RowKit
open Enc (enc dec is)
open EncL (encL decL isL)
set_option maxRecDepth 100000
def VX:IC:=(.seq (.reg [⟨(some 2),(.alloc (.agg [(.int .i64 0),(.sl 0 true [])])),0,none⟩,⟨(some 3),(.mv (.c (.int .i64 0))),1,none⟩] none) (.seq (.reg [⟨(some 9),(.mv (.t 0)),0,none⟩,⟨(some 10),.mkmap,0,none⟩,⟨(some 11),(.build [(.int .i64 0),.nilmap] [(1,(1,(.t 10)))]),1,none⟩,⟨(some 12),(.build [(.str []),(.int .i64 0),.nilmap] [(0,(1,(.t 9))),(1,(2,(.t 11)))]),1,none⟩,⟨(some 13),(.box 3 (.t 12)),1,none⟩,⟨(some 4),(.mv (.t 13)),2,none⟩] none) (.seq (.reg [⟨(some 14),(.mv (.t 4)),0,none⟩,⟨(some 15),(.mkfn 67 [(.t 14)] []),0,none⟩,⟨(some 5),(.mv (.t 15)),0,none⟩] none) (.seq (.reg [⟨(some 16),(.mv (.t 4)),0,none⟩,⟨(some 17),(.call (.c (.fn 68)) [(.t 16)]),0,none⟩] none) (.seq (.reg [⟨(some 19),(.mv (.t 4)),0,none⟩,⟨(some 20),(.call (.c (.fn 69)) [(.t 19)]),0,none⟩,⟨(some 18),(.mv (.t 20)),2,none⟩,⟨(some 21),(.extract (.t 18) 0),2,none⟩,⟨(some 22),(.extract (.t 18) 1),2,none⟩,⟨(some 6),(.mv (.t 21)),2,none⟩,⟨(some 7),(.mv (.t 22)),2,none⟩] none) (.block 0 (.loop [4,5,6,2] (.block 1 (.seq (.reg [⟨(some 23),(.mv (.t 4)),0,none⟩,⟨(some 24),(.call (.c (.fn 68)) [(.t 23)]),0,none⟩] none) (.seq (.seq (.reg [⟨(some 25),(.mv (.t 5)),0,none⟩,⟨(some 26),(.mv (.t 6)),0,none⟩,⟨(some 27),(.call (.t 25) [(.t 26)]),0,none⟩,⟨(some 28),(.un .not (.t 27)),2,none⟩] none) (.cond (.t 28) (.seq (.reg [⟨(some 29),(.build [(.int .i64 0),(.sl 0 true [])] []),0,none⟩,⟨none,(.store 2 (.t 2) (.t 29)),0,none⟩,⟨(some 3),(.mv (.c (.int .i64 6))),0,none⟩] none) .ret) .skip)) (.seq (.reg [⟨(some 30),(.mv (.t 4)),0,none⟩,⟨(some 31),(.call (.c (.fn 68)) [(.t 30)]),0,none⟩] none) (.seq (.seq (.reg [⟨(some 32),(.mv (.t 4)),0,none⟩,⟨(some 33),(.nilchk (.t 32)),0,none⟩,⟨(some 34),(.faddr 0 (.t 33)),0,none⟩,⟨(some 35),(.load false [.str] (.t 34)),0,none⟩,⟨(some 36),(.bin .num .eql (.t 35) (.c (.str []))),0,none⟩] none) (.cond (.t 36) (.seq (.reg [⟨(some 37),(.mv (.t 4)),0,none⟩,⟨(some 38),(.nilchk (.t 37)),0,none⟩,⟨(some 39),(.faddr 1 (.t 38)),0,none⟩,⟨(some 40),(.call (.c (.fn 70)) [(.t 39)]),0,none⟩,⟨(some 41),(.extract (.t 40) 0),2,none⟩,⟨(some 42),(.extract (.t 40) 1),2,none⟩,⟨none,(.store 2 (.t 2) (.t 41)),2,none⟩,⟨(some 3),(.mv (.t 42)),2,none⟩] none) .ret) .skip)) (.seq (.reg [⟨(some 8),(.mv (.c (.bool false))),0,none⟩] none) (.seq (.reg [⟨(some 44),(.mv (.t 4)),0,none⟩,⟨(some 45),(.call (.c (.fn 69)) [(.t 44)]),0,none⟩,⟨(some 43),(.mv (.t 45)),2,none⟩,⟨(some 46),(.extract (.t 43) 0),2,none⟩,⟨(some 47),(.extract (.t 43) 1),2,none⟩,⟨(some 6),(.mv (.t 46)),2,none⟩,⟨(some 8),(.mv (.t 47)),2,none⟩] none) (.seq (.reg [⟨(some 48),(.mv (.t 8)),0,none⟩,⟨(some 49),(.un .not (.t 48)),0,none⟩] none) (.cond (.t 49) (.seq (.reg [⟨(some 50),(.build [(.int .i64 0),(.sl 0 true [])] []),0,none⟩,⟨none,(.store 2 (.t 2) (.t 50)),0,none⟩,⟨(some 3),(.mv (.c (.int .i64 6))),0,none⟩] none) .ret) .skip))))))))))))))))
def Uc:List IRes:=[(.cell true 2 2),(.tmp 3)]
abbrev a7n:Nat:=51
def Qm:ZG:=Xo [(68,.own ZU Qy),(69,.own ZU JV),(67,.own Ki Ho),(70,.own Xd JE)]
theorem b6e{G:PV->Prop}(s:List UInt8)(h:(ZU [(.ptr 0 0)] [(.box [(.pv (.str s)),(.pv (.int .i64 0)),(.map 1)]),(.map [])])=true∧((ZU [(.ptr 0 0)] [(.box [(.pv (.str (Zh s))),(.pv (.int .i64 0)),(.map 1)]),(.map [])])=true∧(At Qm 0 (Zg Uc G) VX 0 51 [(2,(.ptr 0 0)),(4,(.ptr 1 0)),(5,(.fn 67 [(.ptr 1 0)] [])),(6,(.pv (.int .i64 (Prod.fst (Prod.fst (Yu (Zh s)))))))] [(.obj (.box [(.pv (.int .i64 0)),(.pv (.sl 0 true []))])),(.obj (.box [(.pv (.str (Prod.snd (Yu (Zh s))))),(.pv (.int .i64 0)),(.map 2)])),(.obj (.map []))]))):Ze Qm 0 (Zg Uc G) VX [] (Y2 51 [.str s]):=Ze.tp (.req (.keep (.req (.keep (.nil))))) h (by kernel_rfl)
theorem b1w{G:PV->Prop}(s:List UInt8)(t:List UInt8)(n:Int)(m:List (Str×Int))(g:Int)(h:(ZU [(.ptr 0 0)] [(.box [(.pv (.str t)),(.pv (.int .i64 n)),(.map 1)]),(.map (Zj m))])=true∧((Ki [(.ptr 0 0),(.pv (.int .i64 g))] [(.box [(.pv (.str (Zh t))),(.pv (.int .i64 n)),(.map 1)]),(.map (Zj m))])=true∧(if (!Prod.fst (ZY (RdS.mk (Zh t) n (Z4 (Zj m))) g))=true then G ((.tup [(.agg [(.int .i64 0),(.sl 0 true [])]),(.int .i64 6)]))else((ZU [(.ptr 0 0)] [(.box [(.pv (.str (RdS.s (Prod.snd (ZY (RdS.mk (Zh t) n (Z4 (Zj m))) g))))),(.pv (.int .i64 (RdS.n (Prod.snd (ZY (RdS.mk (Zh t) n (Z4 (Zj m))) g))))),(.map 1)]),(.map (Zj (RdS.m (Prod.snd (ZY (RdS.mk (Zh t) n (Z4 (Zj m))) g)))))])=true∧(if (Zh (RdS.s (Prod.snd (ZY (RdS.mk (Zh t) n (Z4 (Zj m))) g)))==[])=true then(Xd [(.ptr 0 1)] [(.box [(.pv (.str (Zh (RdS.s (Prod.snd (ZY (RdS.mk (Zh t) n (Z4 (Zj m))) g)))))),(.pv (.int .i64 (RdS.n (Prod.snd (ZY (RdS.mk (Zh t) n (Z4 (Zj m))) g))))),(.map 1)]),(.map (Zj (RdS.m (Prod.snd (ZY (RdS.mk (Zh t) n (Z4 (Zj m))) g)))))])=true∧(G ((.tup [(.agg [(.int .i64 (Lin.k (Prod.fst (X9 (RdS.n (Prod.snd (ZY (RdS.mk (Zh t) n (Z4 (Zj m))) g))) (Z4 (Zj (RdS.m (Prod.snd (ZY (RdS.mk (Zh t) n (Z4 (Zj m))) g))))))))),(.sl 2 false (List.map enc (Lin.t (Prod.fst (X9 (RdS.n (Prod.snd (ZY (RdS.mk (Zh t) n (Z4 (Zj m))) g))) (Z4 (Zj (RdS.m (Prod.snd (ZY (RdS.mk (Zh t) n (Z4 (Zj m))) g))))))))))]),(.int .i64 (Prod.snd (X9 (RdS.n (Prod.snd (ZY (RdS.mk (Zh t) n (Z4 (Zj m))) g))) (Z4 (Zj (RdS.m (Prod.snd (ZY (RdS.mk (Zh t) n (Z4 (Zj m))) g))))))))])))else((ZU [(.ptr 0 0)] [(.box [(.pv (.str (Zh (RdS.s (Prod.snd (ZY (RdS.mk (Zh t) n (Z4 (Zj m))) g)))))),(.pv (.int .i64 (RdS.n (Prod.snd (ZY (RdS.mk (Zh t) n (Z4 (Zj m))) g))))),(.map 1)]),(.map (Zj (RdS.m (Prod.snd (ZY (RdS.mk (Zh t) n (Z4 (Zj m))) g)))))])=true∧(if (!Prod.snd (Prod.fst (Yu (Zh (RdS.s (Prod.snd (ZY (RdS.mk (Zh t) n (Z4 (Zj m))) g)))))))=true then G ((.tup [(.agg [(.int .i64 0),(.sl 0 true [])]),(.int .i64 6)]))else(At Qm 0 (Zg Uc G) VX 0 51 [(2,(.ptr 0 0)),(4,(.ptr 1 0)),(5,(.fn 67 [(.ptr 1 0)] [])),(6,(.pv (.int .i64 (Prod.fst (Prod.fst (Yu (Zh (RdS.s (Prod.snd (ZY (RdS.mk (Zh t) n (Z4 (Zj m))) g))))))))))] [(.obj (.box [(.pv (.int .i64 0)),(.pv (.sl 0 true []))])),(.obj (.box [(.pv (.str (Prod.snd (Yu (Zh (RdS.s (Prod.snd (ZY (RdS.mk (Zh t) n (Z4 (Zj m))) g)))))))),(.pv (.int .i64 (RdS.n (Prod.snd (ZY (RdS.mk (Zh t) n (Z4 (Zj m))) g))))),(.map 2)])),(.obj (.map (Zj (RdS.m (Prod.snd (ZY (RdS.mk (Zh t) n (Z4 (Zj m))) g))))))])))))))):At Qm 0 (Zg Uc G) VX 0 51 [(2,.ptr 0 0),(4,.ptr 1 0),(5,.fn 67 [.ptr 1 0] []),(6,.pv (.int .i64 g))] [.obj (.box [.pv (.int .i64 0),.pv (.sl 0 true [])]),.obj (.box [.pv (.str t),.pv (.int .i64 n),.map 2]),.obj (.map (Zj m))]:=At.tp (.req (.keep (.req (.keep (.ask (.nil) (.req (.keep (.lit (.ask (.req (.keep (.nil))) (.req (.keep (.ask (.nil) (.nil))))))))))))) h (by kernel_rfl)
end Go.Pl

namespace Go.Pl
open Go.RowKit
open Enc (enc dec is)
open EncL (encL decL isL)
set_option maxRecDepth 100000
def DZ:IC:=(.seq (.reg [⟨(some 4),(.mv (.c (.bool false))),0,none⟩] none) (.seq (.seq (.reg [⟨(some 11),(.mv (.t 0)),0,none⟩,⟨(some 12),(.nilchk (.t 11)),0,none⟩,⟨(some 13),(.faddr 0 (.t 12)),0,none⟩,⟨(some 14),(.load false [.str] (.t 13)),0,none⟩,⟨(some 15),(.bin .num .eql (.t 14) (.c (.str []))),0,none⟩] none) (.cond (.t 15) (.seq (.reg [⟨(some 4),(.mv (.c (.bool false))),0,none⟩] none) .ret) .skip)) (.seq (.seq (.reg [⟨(some 16),(.mv (.t 0)),0,none⟩,⟨(some 17),(.nilchk (.t 16)),0,none⟩,⟨(some 18),(.faddr 0 (.t 17)),0,none⟩,⟨(some 19),(.load false [.str] (.t 18)),0,none⟩,⟨(some 20),(.index (.t 19) (.c (.int .i64 0))),0,none⟩,⟨(some 21),(.call (.c (.fn 110)) [(.t 20)]),0,none⟩,⟨(some 22),(.un .not (.t 21)),2,none⟩] none) (.cond (.t 22) (.seq (.reg [⟨(some 24),(.mv (.t 0)),0,none⟩,⟨(some 25),(.call (.c (.fn 111)) [(.t 24)]),0,none⟩,⟨(some 23),(.mv (.t 25)),2,none⟩,⟨(some 26),(.extract (.t 23) 0),2,none⟩,⟨(some 27),(.extract (.t 23) 1),2,none⟩,⟨(some 5),(.mv (.t 26)),2,none⟩,⟨(some 6),(.mv (.t 27)),2,none⟩] none) (.seq (.reg [⟨(some 28),(.mv (.t 0)),0,none⟩,⟨(some 29),(.nilchk (.t 28)),0,none⟩,⟨(some 30),(.faddr 1 (.t 29)),0,none⟩,⟨(some 31),(.faddr 1 (.t 30)),0,none⟩,⟨(some 32),(.load false [.any] (.t 31)),0,none⟩,⟨(some 33),(.mv (.t 5)),0,none⟩,⟨(some 34),(.lookup true (.int .i64) (.int .i64 0) false (.t 32) (.t 33)),0,none⟩,⟨(some 35),(.mv (.t 1)),0,none⟩,⟨(some 36),(.bin .num .add (.t 34) (.t 35)),0,none⟩,⟨none,(.mapupd true (.t 32) (.t 33) (.t 36)),0,none⟩] none) (.seq (.reg [⟨(some 37),(.mv (.t 6)),0,none⟩,⟨(some 4),(.mv (.t 37)),0,none⟩] none) .ret))) .skip)) (.seq (.reg [⟨(some 39),(.mv (.t 0)),0,none⟩,⟨(some 40),(.call (.c (.fn 112)) [(.t 39)]),0,none⟩,⟨(some 38),(.mv (.t 40)),2,none⟩,⟨(some 41),(.extract (.t 38) 0),2,none⟩,⟨(some 42),(.extract (.t 38) 1),2,none⟩,⟨(some 7),(.mv (.t 41)),2,none⟩,⟨(some 8),(.mv (.t 42)),2,none⟩] none) (.seq (.seq (.reg [⟨(some 43),(.mv (.t 8)),0,none⟩,⟨(some 44),(.un .not (.t 43)),0,none⟩] none) (.cond (.t 44) (.seq (.reg [⟨(some 4),(.mv (.c (.bool false))),0,none⟩] none) .ret) .skip)) (.seq (.reg [⟨(some 45),(.mv (.t 0)),0,none⟩,⟨(some 46),(.nilchk (.t 45)),0,none⟩,⟨(some 47),(.faddr 0 (.t 46)),0,none⟩,⟨(some 48),(.load false [.str] (.t 47)),0,none⟩,⟨(some 49),(.call (.c (.fn 113)) [(.t 48),(.c (.str [32]))]),0,none⟩,⟨(some 9),(.mv (.t 49)),2,none⟩] none) (.seq (.block 0 (.seq (.reg [⟨(some 51),(.mv (.t 9)),0,none⟩,⟨(some 52),(.call (.c (.fn 114)) [(.t 51),(.c (.str [42]))]),0,none⟩,⟨(some 50),(.mv (.t 52)),2,none⟩] none) (.cond (.t 50) (.seq (.reg [⟨(some 53),(.mv (.t 0)),0,none⟩,⟨(some 54),(.mv (.t 9)),0,none⟩,⟨(some 55),(.strslc (.t 54) (some (.c (.int .i64 1))) none),0,none⟩,⟨(some 56),(.nilchk (.t 53)),0,none⟩,⟨(some 57),(.faddr 0 (.t 56)),0,none⟩,⟨none,(.store 1 (.t 57) (.t 55)),0,none⟩] none) (.reg [⟨(some 58),(.mv (.t 0)),0,none⟩,⟨(some 59),(.call (.c (.fn 68)) [(.t 58)]),0,none⟩] none)) (.seq (.reg [⟨(some 61),(.mv (.t 0)),0,none⟩,⟨(some 62),(.nilchk (.t 61)),0,none⟩,⟨(some 63),(.faddr 0 (.t 62)),0,none⟩,⟨(some 64),(.load false [.str] (.t 63)),0,none⟩,⟨(some 65),(.bin .num .eql (.t 64) (.c (.str []))),0,none⟩,⟨(some 66),(.mv (.t 65)),0,none⟩,⟨(some 67),(.mv (.t 0)),0,(some (66,false))⟩,⟨(some 68),(.nilchk (.t 67)),0,(some (66,false))⟩,⟨(some 69),(.faddr 0 (.t 68)),0,(some (66,false))⟩,⟨(some 70),(.load false [.str] (.t 69)),0,(some (66,false))⟩,⟨(some 71),(.index (.t 70) (.c (.int .i64 0))),0,(some (66,false))⟩,⟨(some 72),(.call (.c (.fn 115)) [(.t 71)]),0,(some (66,false))⟩,⟨(some 73),(.un .not (.t 72)),2,(some (66,false))⟩,⟨(some 74),(.pick (.t 66) (.c (.bool true)) (.t 73)),2,none⟩,⟨(some 60),(.mv (.t 74)),2,none⟩] none) (.cond (.t 60) (.seq (.reg [⟨(some 75),(.mv (.t 0)),0,none⟩,⟨(some 76),(.nilchk (.t 75)),0,none⟩,⟨(some 77),(.faddr 1 (.t 76)),0,none⟩,⟨(some 78),(.faddr 0 (.t 77)),0,none⟩,⟨(some 79),(.load false [(.int .i64)] (.t 78)),0,none⟩,⟨(some 80),(.mv (.t 1)),0,none⟩,⟨(some 81),(.mv (.t 7)),0,none⟩,⟨(some 82),(.bin .num .mul (.t 80) (.t 81)),0,none⟩,⟨(some 83),(.bin .num .add (.t 79) (.t 82)),0,none⟩,⟨(some 84),(.nilchk (.t 75)),0,none⟩,⟨(some 85),(.faddr 1 (.t 84)),0,none⟩,⟨(some 86),(.faddr 0 (.t 85)),0,none⟩,⟨none,(.store 1 (.t 86) (.t 83)),0,none⟩] none) (.seq (.reg [⟨(some 4),(.mv (.c (.bool true))),0,none⟩] none) .ret)) .skip))))) (.seq (.reg [⟨(some 88),(.mv (.t 0)),0,none⟩,⟨(some 89),(.call (.c (.fn 111)) [(.t 88)]),0,none⟩,⟨(some 87),(.mv (.t 89)),2,none⟩,⟨(some 90),(.extract (.t 87) 0),2,none⟩,⟨(some 91),(.extract (.t 87) 1),2,none⟩,⟨(some 10),(.mv (.t 90)),2,none⟩,⟨(some 8),(.mv (.t 91)),2,none⟩] none) (.seq (.reg [⟨(some 92),(.mv (.t 0)),0,none⟩,⟨(some 93),(.nilchk (.t 92)),0,none⟩,⟨(some 94),(.faddr 1 (.t 93)),0,none⟩,⟨(some 95),(.faddr 1 (.t 94)),0,none⟩,⟨(some 96),(.load false [.any] (.t 95)),0,none⟩,⟨(some 97),(.mv (.t 10)),0,none⟩,⟨(some 98),(.lookup true (.int .i64) (.int .i64 0) false (.t 96) (.t 97)),0,none⟩,⟨(some 99),(.mv (.t 1)),0,none⟩,⟨(some 100),(.mv (.t 7)),0,none⟩,⟨(some 101),(.bin .num .mul (.t 99) (.t 100)),0,none⟩,⟨(some 102),(.bin .num .add (.t 98) (.t 101)),0,none⟩,⟨none,(.mapupd true (.t 96) (.t 97) (.t 102)),0,none⟩] none) (.seq (.reg [⟨(some 103),(.mv (.t 8)),0,none⟩,⟨(some 4),(.mv (.t 103)),0,none⟩] none) .ret))))))))))
def Hl:List IRes:=[(.tmp 4)]
abbrev Ee:Nat:=104
def BN:ZG:=Xo [(110,.pure (preT (fun _:UInt8×Unit=>true)) (Zo (fun x:UInt8×Unit=>digB x.1))),(111,.own ZU Qw),(112,.own ZU Qu),(113,.pure (preT (fun x:Str×Str×Unit=>decide (x.2.1=⟨[32]⟩))) (Zo (fun x:Str×Str×Unit=>(⟨Zh x.1.s⟩:Str)))),(114,.pure (preT (fun _:Str×Str×Unit=>true)) (Zo (fun x:Str×Str×Unit=>x.2.1.s.isPrefixOf x.1.s))),(68,.own ZU Qy),(115,.pure (preT (fun _:UInt8×Unit=>true)) (Zo (fun x:UInt8×Unit=>ZW x.1)))]
theorem c0k{G:AV×List AObj×List AObj->Prop}(s:List UInt8)(n:Int)(m:List (Str×Int))(g:Int)(h:if (s==[])=true then G (((.pv (.bool false)),([(.box [(.pv (.str s)),(.pv (.int .i64 n)),(.map 1)]),(.map (Zj m))],[])))else((decide (0<=0)&&decide (Int.toNat 0<List.length s))=true∧((Go.Pl.preT (fun(x:UInt8×Unit)=>true) [(.int IntKind.u8 (↑(UInt8.toNat (List.getD s (Int.toNat 0) (0:UInt8))):Int))])=true∧(∃ y0:Bool,AV.pv (Zo (fun(x:UInt8×Unit)=>digB x.1) [(.int IntKind.u8 (↑(UInt8.toNat (List.getD s (Int.toNat 0) (0:UInt8))):Int))])=AV.pv (enc y0)∧(if (!y0)=true then(ZU [(.ptr 0 0)] [(.box [(.pv (.str s)),(.pv (.int .i64 n)),(.map 1)]),(.map (Zj m))])=true∧((Va (PV.str (List.takeWhile ZW s)) (Zj m)&&Sh.fit (Sh.int .i64) (ZP (PV.str (List.takeWhile ZW s)) (PV.int .i64 0) (Zj m)))=true∧((Dl (PV.str (List.takeWhile ZW s)) (PV.int .i64 (IntKind.wrap IntKind.i64 (PV.asInt (ZP (PV.str (List.takeWhile ZW s)) (PV.int .i64 0) (Zj m))+g))) (Zj m))=true∧(G (((.pv (.bool (Yc (Str.mk (List.takeWhile ZW s))))),([(.box [(.pv (.str (List.dropWhile ZW s))),(.pv (.int .i64 n)),(.map 1)]),(.map (DL (PV.str (List.takeWhile ZW s)) (PV.int .i64 (IntKind.wrap IntKind.i64 (PV.asInt (ZP (PV.str (List.takeWhile ZW s)) (PV.int .i64 0) (Zj m))+g))) (Zj m)))],[]))))))else((ZU [(.ptr 0 0)] [(.box [(.pv (.str s)),(.pv (.int .i64 n)),(.map 1)]),(.map (Zj m))])=true∧(if (!Nu (List.takeWhile digB s))=true then G (((.pv (.bool false)),([(.box [(.pv (.str (List.dropWhile digB s))),(.pv (.int .i64 n)),(.map 1)]),(.map (Zj m))],[])))else(∃ y1:Str,AV.pv (Zo (fun(x:Str×Str×Unit)=>Str.mk (Zh (Str.s x.1))) [(.str (List.dropWhile digB s)),(.str [(32:UInt8)])])=AV.pv (enc y1)∧(∃ y2:Bool,AV.pv (Zo (fun(x:Str×Str×Unit)=>List.isPrefixOf (Str.s x.2.1) (Str.s x.1)) [(.str (Str.s y1)),(.str [(42:UInt8)])])=AV.pv (enc y2)∧(if (y2)=true then(decide (0<=1)&&true&&decide (Int.toNat 1<=List.length (Str.s y1))&&decide (List.length (Str.s y1)<=List.length (Str.s y1)))=true∧((ZU [(.ptr 0 0)] [(.box [(.pv (.str (List.drop (Int.toNat 1) (List.take (List.length (Str.s y1)) (Str.s y1))))),(.pv (.int .i64 n)),(.map 1)]),(.map (Zj m))])=true∧((ZU [(.ptr 0 0)] [(.box [(.pv (.str (Zh (List.drop (Int.toNat 1) (List.take (List.length (Str.s y1)) (Str.s y1)))))),(.pv (.int .i64 n)),(.map 1)]),(.map (Zj m))])=true∧((Va (PV.str (List.takeWhile ZW (Zh (List.drop (Int.toNat 1) (List.take (List.length (Str.s y1)) (Str.s y1)))))) (Zj m)&&Sh.fit (Sh.int .i64) (ZP (PV.str (List.takeWhile ZW (Zh (List.drop (Int.toNat 1) (List.take (List.length (Str.s y1)) (Str.s y1)))))) (PV.int .i64 0) (Zj m)))=true∧((Dl (PV.str (List.takeWhile ZW (Zh (List.drop (Int.toNat 1) (List.take (List.length (Str.s y1)) (Str.s y1)))))) (PV.int .i64 (IntKind.wrap IntKind.i64 (PV.asInt (ZP (PV.str (List.takeWhile ZW (Zh (List.drop (Int.toNat 1) (List.take (List.length (Str.s y1)) (Str.s y1)))))) (PV.int .i64 0) (Zj m))+IntKind.wrap IntKind.i64 (g*Prod.fst (Z6 (Str.mk (List.takeWhile digB s))))))) (Zj m))=true∧(G (((.pv (.bool (Yc (Str.mk (List.takeWhile ZW (Zh (List.drop (Int.toNat 1) (List.take (List.length (Str.s y1)) (Str.s y1))))))))),([(.box [(.pv (.str (List.dropWhile ZW (Zh (List.drop (Int.toNat 1) (List.take (List.length (Str.s y1)) (Str.s y1))))))),(.pv (.int .i64 n)),(.map 1)]),(.map (DL (PV.str (List.takeWhile ZW (Zh (List.drop (Int.toNat 1) (List.take (List.length (Str.s y1)) (Str.s y1)))))) (PV.int .i64 (IntKind.wrap IntKind.i64 (PV.asInt (ZP (PV.str (List.takeWhile ZW (Zh (List.drop (Int.toNat 1) (List.take (List.length (Str.s y1)) (Str.s y1)))))) (PV.int .i64 0) (Zj m))+IntKind.wrap IntKind.i64 (g*Prod.fst (Z6 (Str.mk (List.takeWhile digB s))))))) (Zj m)))],[]))))))))else(if (List.dropWhile digB s==[])=true then G (((.pv (.bool true)),([(.box [(.pv (.str (List.dropWhile digB s))),(.pv (.int .i64 (IntKind.wrap IntKind.i64 (n+IntKind.wrap IntKind.i64 (g*Prod.fst (Z6 (Str.mk (List.takeWhile digB s)))))))),(.map 1)]),(.map (Zj m))],[])))else((decide (0<=0)&&decide (Int.toNat 0<List.length (List.dropWhile digB s)))=true∧((Go.Pl.preT (fun(x:UInt8×Unit)=>true) [(.int IntKind.u8 (↑(UInt8.toNat (List.getD (List.dropWhile digB s) (Int.toNat 0) (0:UInt8))):Int))])=true∧(∃ y3:Bool,AV.pv (Zo (fun(x:UInt8×Unit)=>ZW x.1) [(.int IntKind.u8 (↑(UInt8.toNat (List.getD (List.dropWhile digB s) (Int.toNat 0) (0:UInt8))):Int))])=AV.pv (enc y3)∧(if (!y3)=true then G (((.pv (.bool true)),([(.box [(.pv (.str (List.dropWhile digB s))),(.pv (.int .i64 (IntKind.wrap IntKind.i64 (n+IntKind.wrap IntKind.i64 (g*Prod.fst (Z6 (Str.mk (List.takeWhile digB s)))))))),(.map 1)]),(.map (Zj m))],[])))else((ZU [(.ptr 0 0)] [(.box [(.pv (.str (List.dropWhile digB s))),(.pv (.int .i64 n)),(.map 1)]),(.map (Zj m))])=true∧((Va (PV.str (List.takeWhile ZW (List.dropWhile digB s))) (Zj m)&&Sh.fit (Sh.int .i64) (ZP (PV.str (List.takeWhile ZW (List.dropWhile digB s))) (PV.int .i64 0) (Zj m)))=true∧((Dl (PV.str (List.takeWhile ZW (List.dropWhile digB s))) (PV.int .i64 (IntKind.wrap IntKind.i64 (PV.asInt (ZP (PV.str (List.takeWhile ZW (List.dropWhile digB s))) (PV.int .i64 0) (Zj m))+IntKind.wrap IntKind.i64 (g*Prod.fst (Z6 (Str.mk (List.takeWhile digB s))))))) (Zj m))=true∧(G (((.pv (.bool (Yc (Str.mk (List.takeWhile ZW (List.dropWhile digB s)))))),([(.box [(.pv (.str (List.dropWhile ZW (List.dropWhile digB s)))),(.pv (.int .i64 n)),(.map 1)]),(.map (DL (PV.str (List.takeWhile ZW (List.dropWhile digB s))) (PV.int .i64 (IntKind.wrap IntKind.i64 (PV.asInt (ZP (PV.str (List.takeWhile ZW (List.dropWhile digB s))) (PV.int .i64 0) (Zj m))+IntKind.wrap IntKind.i64 (g*Prod.fst (Z6 (Str.mk (List.takeWhile digB s))))))) (Zj m)))],[])))))))))))))))))))))):Ze BN 2 (Zk 2 Hl G) DZ [] (ZK 104 [.ptr 0 0,.pv (.int .i64 g)] [.box [.pv (.str s),.pv (.int .i64 n),.map 1],.map (Zj m)]):=Ze.to (.lit (.ask (.nil) (.req (.req (.abs (Bool) (fun YY=>AV.pv (enc YY)) (.ask (.req (.keep (.req (.keep (.lit (.req (.nil))))))) (.req (.keep (.ask (.nil) (.lit (.abs (Str) (fun YY=>AV.pv (enc YY)) (.lit (.abs (Bool) (fun YY=>AV.pv (enc YY)) (.ask (.req (.req (.keep (.req (.keep (.req (.keep (.lit (.lit (.req (.nil))))))))))) (.lit (.ask (.lit (.lit (.lit (.lit (.lit (.lit (.lit (.lit (.lit (.lit (.nil))))))))))) (.lit (.lit (.lit (.lit (.req (.lit (.req (.abs (Bool) (fun YY=>AV.pv (enc YY)) (.lit (.lit (.ask (.lit (.lit (.nil))) (.req (.keep (.req (.keep (.lit (.lit (.req (.nil))))))))))))))))))))))))))))))))))) h (by kernel_rfl)
end Go.Pl

namespace Go.Pl
open Go.RowKit
open Enc (enc dec is)
open EncL (encL decL isL)
set_option maxRecDepth 100000
def GK:IC:=(.seq (.reg [⟨(some 2),(.mv (.c (.bool false))),0,none⟩] none) (.seq (.reg [⟨(some 3),(.mv (.t 0)),0,none⟩,⟨(some 4),(.bin .num .geq (.t 3) (.c (.int .u8 97))),0,none⟩,⟨(some 5),(.mv (.t 4)),0,none⟩,⟨(some 6),(.mv (.t 0)),0,(some (5,true))⟩,⟨(some 7),(.bin .num .leq (.t 6) (.c (.int .u8 122))),0,(some (5,true))⟩,⟨(some 8),(.pick (.t 5) (.t 7) (.c (.bool false))),0,none⟩,⟨(some 9),(.mv (.t 8)),0,none⟩,⟨(some 10),(.mv (.t 0)),0,(some (9,false))⟩,⟨(some 11),(.bin .num .eql (.t 10) (.c (.int .u8 95))),0,(some (9,false))⟩,⟨(some 12),(.pick (.t 9) (.c (.bool true)) (.t 11)),0,none⟩,⟨(some 13),(.mv (.t 12)),0,none⟩,⟨(some 14),(.mv (.t 0)),0,(some (13,false))⟩,⟨(some 15),(.call (.c (.fn 110)) [(.t 14)]),0,(some (13,false))⟩,⟨(some 16),(.pick (.t 13) (.c (.bool true)) (.t 15)),2,none⟩,⟨(some 2),(.mv (.t 16)),2,none⟩] none) .ret))
def Gr:List IRes:=[(.tmp 2)]
abbrev a0w:Nat:=17
def CB:ZG:=Xo [(110,.pure (preT (fun _:UInt8×Unit=>true)) (Zo (fun x:UInt8×Unit=>digB x.1)))]
theorem b1p{G:PV->Prop}(c:UInt8)(h:if (decide ((↑(UInt8.toNat c):Int) ≥ 97))=true then if (decide ((↑(UInt8.toNat c):Int)<=122))=true then G ((.bool true))else(if ((↑(UInt8.toNat c):Int)==95)=true then G ((.bool true))else((Go.Pl.preT (fun(x:UInt8×Unit)=>true) [(.int IntKind.u8 (↑(UInt8.toNat c):Int))])=true∧(∃ y0:Bool,AV.pv (Zo (fun(x:UInt8×Unit)=>digB x.1) [(.int IntKind.u8 (↑(UInt8.toNat c):Int))])=AV.pv (enc y0)∧(G ((.bool y0))))))else(if ((↑(UInt8.toNat c):Int)==95)=true then G ((.bool true))else((Go.Pl.preT (fun(x:UInt8×Unit)=>true) [(.int IntKind.u8 (↑(UInt8.toNat c):Int))])=true∧(∃ y1:Bool,AV.pv (Zo (fun(x:UInt8×Unit)=>digB x.1) [(.int IntKind.u8 (↑(UInt8.toNat c):Int))])=AV.pv (enc y1)∧(G ((.bool y1))))))):Ze CB 0 (Zg Gr G) GK [] (Y2 17 [enc c]):=Ze.tp (.lit (.ask (.lit (.lit (.lit (.ask (.lit (.lit (.lit (.lit (.lit (.nil)))))) (.lit (.lit (.lit (.ask (.lit (.lit (.nil))) (.lit (.req (.abs (Bool) (fun YY=>AV.pv (enc YY)) (.lit (.nil))))))))))))) (.lit (.lit (.lit (.lit (.lit (.lit (.ask (.lit (.lit (.nil))) (.lit (.req (.abs (Bool) (fun YY=>AV.pv (enc YY)) (.lit (.nil)))))))))))))) h (by kernel_rfl)
def GX:IC:=(.reg [⟨(some 2),(.mv (.t 0)),0,none⟩,⟨(some 3),(.mv (.t 0)),0,none⟩,⟨(some 4),(.nilchk (.t 3)),0,none⟩,⟨(some 5),(.faddr 0 (.t 4)),0,none⟩,⟨(some 6),(.load false [.str] (.t 5)),0,none⟩,⟨(some 7),(.call (.c (.fn 113)) [(.t 6),(.c (.str [32]))]),0,none⟩,⟨(some 8),(.nilchk (.t 2)),2,none⟩,⟨(some 9),(.faddr 0 (.t 8)),2,none⟩,⟨none,(.store 1 (.t 9) (.t 7)),2,none⟩] none)
def GA:List IRes:=[]
abbrev Ez:Nat:=10
def Ae:ZG:=Xo [(113,.pure (preT (fun x:Str×Str×Unit=>decide (x.2.1=⟨[32]⟩))) (Zo (fun x:Str×Str×Unit=>(⟨Zh x.1.s⟩:Str))))]
theorem a7l{G:AV×List AObj×List AObj->Prop}(s:List UInt8)(n:Int)(es:List (PV×PV))(h : ∃ y0:Str,AV.pv (Zo (fun(x:Str×Str×Unit)=>Str.mk (Zh (Str.s x.1))) [(.str s),(.str [(32:UInt8)])])=AV.pv (enc y0)∧(G (((.tup []),([(.box [(.pv (.str (Str.s y0))),(.pv (.int .i64 n)),(.map 1)]),(.map es)],[]))))):Ze Ae 2 (Zk 2 GA G) GX [] (ZK 10 [.ptr 0 0] [.box [.pv (.str s),.pv (.int .i64 n),.map 1],.map es]):=Ze.to (.lit (.abs (Str) (fun YY=>AV.pv (enc YY)) (.nil))) h (by kernel_rfl)
def VB:IC:=(.seq (.reg [⟨(some 4),(.mv (.c (.str []))),0,none⟩] none) (.seq (.reg [⟨(some 5),(.mv (.c (.int .i64 0))),0,none⟩] none) (.seq (.block 0 (.loop [5,0,1] (.seq (.seq (.reg [⟨(some 7),(.mv (.t 5)),0,none⟩,⟨(some 8),(.mv (.t 0)),0,none⟩,⟨(some 9),(.nilchk (.t 8)),0,none⟩,⟨(some 10),(.faddr 0 (.t 9)),0,none⟩,⟨(some 11),(.load false [.str] (.t 10)),0,none⟩,⟨(some 12),(.len 0 (.t 11)),0,none⟩,⟨(some 13),(.bin .num .lss (.t 7) (.t 12)),0,none⟩,⟨(some 14),(.mv (.t 13)),0,none⟩,⟨(some 15),(.mv (.t 1)),0,(some (14,true))⟩,⟨(some 16),(.mv (.t 0)),0,(some (14,true))⟩,⟨(some 17),(.nilchk (.t 16)),0,(some (14,true))⟩,⟨(some 18),(.faddr 0 (.t 17)),0,(some (14,true))⟩,⟨(some 19),(.load false [.str] (.t 18)),0,(some (14,true))⟩,⟨(some 20),(.mv (.t 5)),0,(some (14,true))⟩,⟨(some 21),(.index (.t 19) (.t 20)),0,(some (14,true))⟩,⟨(some 22),(.call (.t 15) [(.t 21)]),0,(some (14,true))⟩,⟨(some 23),(.pick (.t 14) (.t 22) (.c (.bool false))),2,none⟩] none) (.cond (.t 23) .skip (.exit 0))) (.block 1 (.reg [⟨(some 24),(.mv (.t 5)),0,none⟩,⟨(some 25),(.bin .num .add (.t 24) (.c (.int .i64 1))),0,none⟩,⟨(some 5),(.mv (.t 25)),0,none⟩] none))))) (.seq (.reg [⟨(some 26),(.mv (.t 0)),0,none⟩,⟨(some 27),(.nilchk (.t 26)),0,none⟩,⟨(some 28),(.faddr 0 (.t 27)),0,none⟩,⟨(some 29),(.load false [.str] (.t 28)),0,none⟩,⟨(some 30),(.mv (.t 5)),0,none⟩,⟨(some 31),(.strslc (.t 29) none (some (.t 30))),0,none⟩,⟨(some 6),(.mv (.t 31)),0,none⟩] none) (.seq (.reg [⟨(some 32),(.mv (.t 0)),0,none⟩,⟨(some 33),(.mv (.t 0)),0,none⟩,⟨(some 34),(.nilchk (.t 33)),0,none⟩,⟨(some 35),(.faddr 0 (.t 34)),0,none⟩,⟨(some 36),(.load false [.str] (.t 35)),0,none⟩,⟨(some 37),(.mv (.t 5)),0,none⟩,⟨(some 38),(.strslc (.t 36) (some (.t 37)) none),0,none⟩,⟨(some 39),(.nilchk (.t 32)),0,none⟩,⟨(some 40),(.faddr 0 (.t 39)),0,none⟩,⟨none,(.store 1 (.t 40) (.t 38)),0,none⟩] none) (.seq (.reg [⟨(some 41),(.mv (.t 6)),0,none⟩,⟨(some 4),(.mv (.t 41)),0,none⟩] none) .ret))))))
def V6:List IRes:=[(.tmp 4)]
abbrev a5z:Nat:=42
def QF:ZG:=Xo [(110,.pure (preT (fun _:UInt8×Unit=>true)) (Zo (fun x:UInt8×Unit=>digB x.1)))]
theorem b6d{G:AV×List AObj×List AObj->Prop}(s:List UInt8)(n:Int)(es:List (PV×PV))(h:At QF 2 (Zk 2 V6 G) VB 0 42 [(0,(.ptr 0 0)),(1,(.pv (.fn 110))),(5,(.pv (.int .i64 0)))] [(.obj (.box [(.pv (.str s)),(.pv (.int .i64 n)),(.map 1)])),(.obj (.map es))]):Ze QF 2 (Zk 2 V6 G) VB [] (ZK 42 [.ptr 0 0,.pv (.fn 110)] [.box [.pv (.str s),.pv (.int .i64 n),.map 1],.map es]):=Ze.to (.nil) h (by kernel_rfl)
theorem Ml{G:AV×List AObj×List AObj->Prop}(s:List UInt8)(n:Int)(es:List (PV×PV))(i:Int)(h:if (decide (i<(↑(List.length s):Int)))=true then(decide (0<=i)&&decide (Int.toNat i<List.length s))=true∧((Go.Pl.preT (fun(x:UInt8×Unit)=>true) [(.int IntKind.u8 (↑(UInt8.toNat (List.getD s (Int.toNat i) (0:UInt8))):Int))])=true∧(∃ y0:Bool,AV.pv (Zo (fun(x:UInt8×Unit)=>digB x.1) [(.int IntKind.u8 (↑(UInt8.toNat (List.getD s (Int.toNat i) (0:UInt8))):Int))])=AV.pv (enc y0)∧(if (y0)=true then At QF 2 (Zk 2 V6 G) VB 0 42 [(0,(.ptr 0 0)),(1,(.pv (.fn 110))),(5,(.pv (.int .i64 (IntKind.wrap IntKind.i64 (i+1)))))] [(.obj (.box [(.pv (.str s)),(.pv (.int .i64 n)),(.map 1)])),(.obj (.map es))]else((true&&decide (0<=i)&&decide (0<=Int.toNat i)&&decide (Int.toNat i<=List.length s))=true∧((decide (0<=i)&&true&&decide (Int.toNat i<=List.length s)&&decide (List.length s<=List.length s))=true∧(G (((.pv (.str (List.drop 0 (List.take (Int.toNat i) s)))),([(.box [(.pv (.str (List.drop (Int.toNat i) (List.take (List.length s) s)))),(.pv (.int .i64 n)),(.map 1)]),(.map es)],[])))))))))else((true&&decide (0<=i)&&decide (0<=Int.toNat i)&&decide (Int.toNat i<=List.length s))=true∧((decide (0<=i)&&true&&decide (Int.toNat i<=List.length s)&&decide (List.length s<=List.length s))=true∧(G (((.pv (.str (List.drop 0 (List.take (Int.toNat i) s)))),([(.box [(.pv (.str (List.drop (Int.toNat i) (List.take (List.length s) s)))),(.pv (.int .i64 n)),(.map 1)]),(.map es)],[]))))))):At QF 2 (Zk 2 V6 G) VB 0 42 [(0,.ptr 0 0),(1,.pv (.fn 110)),(5,.pv (.int .i64 i))] [.obj (.box [.pv (.str s),.pv (.int .i64 n),.map 1]),.obj (.map es)]:=At.to (.lit (.ask (.lit (.lit (.lit (.lit (.lit (.lit (.req (.lit (.req (.abs (Bool) (fun YY=>AV.pv (enc YY)) (.lit (.ask (.lit (.nil)) (.req (.req (.nil))))))))))))))) (.lit (.lit (.lit (.lit (.lit (.lit (.lit (.lit (.lit (.req (.req (.nil)))))))))))))) h (by kernel_rfl)
def Ug:IC:=VB
def V9:List IRes:=[(.tmp 4)]
abbrev a7e:Nat:=42
def Qi:ZG:=Xo [(115,.pure (preT (fun _:UInt8×Unit=>true)) (Zo (fun x:UInt8×Unit=>ZW x.1)))]
theorem b2e{G:AV×List AObj×List AObj->Prop}(s:List UInt8)(n:Int)(es:List (PV×PV))(h:At Qi 2 (Zk 2 V9 G) Ug 0 42 [(0,(.ptr 0 0)),(1,(.pv (.fn 115))),(5,(.pv (.int .i64 0)))] [(.obj (.box [(.pv (.str s)),(.pv (.int .i64 n)),(.map 1)])),(.obj (.map es))]):Ze Qi 2 (Zk 2 V9 G) Ug [] (ZK 42 [.ptr 0 0,.pv (.fn 115)] [.box [.pv (.str s),.pv (.int .i64 n),.map 1],.map es]):=Ze.to (.nil) h (by kernel_rfl)
theorem NW{G:AV×List AObj×List AObj->Prop}(s:List UInt8)(n:Int)(es:List (PV×PV))(i:Int)(h:if (decide (i<(↑(List.length s):Int)))=true then(decide (0<=i)&&decide (Int.toNat i<List.length s))=true∧((Go.Pl.preT (fun(x:UInt8×Unit)=>true) [(.int IntKind.u8 (↑(UInt8.toNat (List.getD s (Int.toNat i) (0:UInt8))):Int))])=true∧(∃ y0:Bool,AV.pv (Zo (fun(x:UInt8×Unit)=>ZW x.1) [(.int IntKind.u8 (↑(UInt8.toNat (List.getD s (Int.toNat i) (0:UInt8))):Int))])=AV.pv (enc y0)∧(if (y0)=true then At Qi 2 (Zk 2 V9 G) Ug 0 42 [(0,(.ptr 0 0)),(1,(.pv (.fn 115))),(5,(.pv (.int .i64 (IntKind.wrap IntKind.i64 (i+1)))))] [(.obj (.box [(.pv (.str s)),(.pv (.int .i64 n)),(.map 1)])),(.obj (.map es))]else((true&&decide (0<=i)&&decide (0<=Int.toNat i)&&decide (Int.toNat i<=List.length s))=true∧((decide (0<=i)&&true&&decide (Int.toNat i<=List.length s)&&decide (List.length s<=List.length s))=true∧(G (((.pv (.str (List.drop 0 (List.take (Int.toNat i) s)))),([(.box [(.pv (.str (List.drop (Int.toNat i) (List.take (List.length s) s)))),(.pv (.int .i64 n)),(.map 1)]),(.map es)],[])))))))))else((true&&decide (0<=i)&&decide (0<=Int.toNat i)&&decide (Int.toNat i<=List.length s))=true∧((decide (0<=i)&&true&&decide (Int.toNat i<=List.length s)&&decide (List.length s<=List.length s))=true∧(G (((.pv (.str (List.drop 0 (List.take (Int.toNat i) s)))),([(.box [(.pv (.str (List.drop (Int.toNat i) (List.take (List.length s) s)))),(.pv (.int .i64 n)),(.map 1)]),(.map es)],[]))))))):At Qi 2 (Zk 2 V9 G) Ug 0 42 [(0,.ptr 0 0),(1,.pv (.fn 115)),(5,.pv (.int .i64 i))] [.obj (.box [.pv (.str s),.pv (.int .i64 n),.map 1]),.obj (.map es)]:=At.to (.lit (.ask (.lit (.lit (.lit (.lit (.lit (.lit (.req (.lit (.req (.abs (Bool) (fun YY=>AV.pv (enc YY)) (.lit (.ask (.lit (.nil)) (.req (.req (.nil))))))))))))))) (.lit (.lit (.lit (.lit (.lit (.lit (.lit (.lit (.lit (.req (.req (.nil)))))))))))))) h (by kernel_rfl)
def G8:IC:=(.seq (.reg [⟨(some 2),(.mv (.c (.int .i64 0))),0,none⟩,⟨(some 3),(.mv (.c (.bool false))),0,none⟩] none) (.seq (.reg [⟨(some 7),(.mv (.t 0)),0,none⟩,⟨(some 8),(.call (.c (.fn 140)) [(.t 7),(.c (.fn 110))]),0,none⟩,⟨(some 4),(.mv (.t 8)),2,none⟩] none) (.seq (.reg [⟨(some 10),(.mv (.t 4)),0,none⟩,⟨(some 11),(.call (.c (.fn 118)) [(.t 10)]),0,none⟩,⟨(some 9),(.mv (.t 11)),2,none⟩,⟨(some 12),(.extract (.t 9) 0),2,none⟩,⟨(some 13),(.extract (.t 9) 1),2,none⟩,⟨(some 5),(.mv (.t 12)),2,none⟩,⟨(some 6),(.mv (.t 13)),2,none⟩] none) (.seq (.reg [⟨(some 14),(.mv (.t 5)),0,none⟩,⟨(some 15),(.mv (.t 6)),0,none⟩,⟨(some 16),(.bin .ifc .eql (.t 15) (.c .nili)),0,none⟩,⟨(some 17),(.mv (.t 16)),0,none⟩,⟨(some 18),(.mv (.t 4)),0,(some (17,true))⟩,⟨(some 19),(.len 0 (.t 18)),0,(some (17,true))⟩,⟨(some 20),(.bin .num .leq (.t 19) (.c (.int .i64 7))),0,(some (17,true))⟩,⟨(some 21),(.pick (.t 17) (.t 20) (.c (.bool false))),0,none⟩,⟨(some 22),(.mv (.t 21)),0,none⟩,⟨(some 23),(.mv (.t 4)),0,(some (22,true))⟩,⟨(some 24),(.index (.t 23) (.c (.int .i64 0))),0,(some (22,true))⟩,⟨(some 25),(.bin .num .neq (.t 24) (.c (.int .u8 48))),0,(some (22,true))⟩,⟨(some 26),(.mv (.t 25)),0,(some (22,true))⟩,⟨(some 27),(.mv (.t 4)),0,(some (26,false))⟩,⟨(some 28),(.bin .num .eql (.t 27) (.c (.str [48]))),0,(some (26,false))⟩,⟨(some 29),(.pick (.t 26) (.c (.bool true)) (.t 28)),0,(some (22,true))⟩,⟨(some 30),(.pick (.t 22) (.t 29) (.c (.bool false))),0,none⟩,⟨(some 2),(.mv (.t 14)),0,none⟩,⟨(some 3),(.mv (.t 30)),0,none⟩] none) .ret))))
def Gx:List IRes:=[(.tmp 2),(.tmp 3)]
abbrev a1l:Nat:=31
def CP:ZG:=Xo [(140,.own (XB 110) (Tp digB)),(118,.pure (preT (fun x:Str×Unit=>decide (x.1.s.length<=1000000))) (Zo (fun x:Str×Unit=>Z6 x.1)))]
theorem a6k{G:AV×List AObj×List AObj->Prop}(s:List UInt8)(n:Int)(es:List (PV×PV))(h:(XB 110 [(.ptr 0 0),(.pv (.fn 110))] [(.box [(.pv (.str s)),(.pv (.int .i64 n)),(.map 1)]),(.map es)])=true∧((Go.Pl.preT (fun(x:Str×Unit)=>decide (List.length (Str.s x.1)<=1000000)) [(.str (List.takeWhile digB s))])=true∧(∃ y0:Int×Er,AV.pv (Zo (fun(x:Str×Unit)=>Z6 x.1) [(.str (List.takeWhile digB s))])=AV.pv (enc y0)∧((Dt (enc y0.2)&&Prod.fst (true,PV.bool (VK (enc y0.2))))=true∧(if (VK (enc y0.2))=true then if (decide ((↑(List.length (List.takeWhile digB s)):Int)<=7))=true then(decide (0<=0)&&decide (Int.toNat 0<List.length (List.takeWhile digB s)))=true∧(if ((↑(UInt8.toNat (List.getD (List.takeWhile digB s) (Int.toNat 0) (0:UInt8))):Int) != 48)=true then G (((.tup [(.pv (.int .i64 y0.1)),(.pv (.bool true))]),([(.box [(.pv (.str (List.dropWhile digB s))),(.pv (.int .i64 n)),(.map 1)]),(.map es)],[])))else(G (((.tup [(.pv (.int .i64 y0.1)),(.pv (.bool (List.takeWhile digB s==[(48:UInt8)])))]),([(.box [(.pv (.str (List.dropWhile digB s))),(.pv (.int .i64 n)),(.map 1)]),(.map es)],[])))))else(G (((.tup [(.pv (.int .i64 y0.1)),(.pv (.bool false))]),([(.box [(.pv (.str (List.dropWhile digB s))),(.pv (.int .i64 n)),(.map 1)]),(.map es)],[]))))else(G (((.tup [(.pv (.int .i64 y0.1)),(.pv (.bool false))]),([(.box [(.pv (.str (List.dropWhile digB s))),(.pv (.int .i64 n)),(.map 1)]),(.map es)],[]))))))))):Ze CP 2 (Zk 2 Gx G) G8 [] (ZK 31 [.ptr 0 0] [.box [.pv (.str s),.pv (.int .i64 n),.map 1],.map es]):=Ze.to (.req (.keep (.req (.abs (Int×Er) (fun YY=>AV.pv (enc YY)) (.req (.ask (.lit (.lit (.lit (.lit (.ask (.lit (.req (.lit (.lit (.lit (.ask (.lit (.lit (.lit (.lit (.nil))))) (.lit (.lit (.lit (.lit (.lit (.nil)))))))))))) (.lit (.lit (.lit (.lit (.lit (.nil))))))))))) (.lit (.lit (.lit (.lit (.lit (.lit (.lit (.lit (.lit (.nil)))))))))))))))) h (by kernel_rfl)
def QP:IC:=(.seq (.reg [⟨(some 2),(.mv (.c (.str []))),0,none⟩,⟨(some 3),(.mv (.c (.bool false))),0,none⟩] none) (.seq (.reg [⟨(some 5),(.mv (.t 0)),0,none⟩,⟨(some 6),(.call (.c (.fn 140)) [(.t 5),(.c (.fn 115))]),0,none⟩,⟨(some 4),(.mv (.t 6)),2,none⟩] none) (.seq (.reg [⟨(some 7),(.mv (.t 4)),0,none⟩,⟨(some 8),(.mv (.t 4)),0,none⟩,⟨(some 9),(.call (.c (.fn 78)) [(.t 8)]),0,none⟩,⟨(some 2),(.mv (.t 7)),2,none⟩,⟨(some 3),(.mv (.t 9)),2,none⟩] none) .ret)))
def QT:List IRes:=[(.tmp 2),(.tmp 3)]
abbrev NT:Nat:=10
def K6:ZG:=Xo [(140,.own (XB 115) (Tp ZW)),(78,.pure (preT (fun x:Str×Unit=>decide (x.1.s.length<=1000000))) (Zo (fun x:Str×Unit=>Yc x.1)))]
theorem Lb{G:AV×List AObj×List AObj->Prop}(s:List UInt8)(n:Int)(es:List (PV×PV))(h:(XB 115 [(.ptr 0 0),(.pv (.fn 115))] [(.box [(.pv (.str s)),(.pv (.int .i64 n)),(.map 1)]),(.map es)])=true∧((Go.Pl.preT (fun(x:Str×Unit)=>decide (List.length (Str.s x.1)<=1000000)) [(.str (List.takeWhile ZW s))])=true∧(∃ y0:Bool,AV.pv (Zo (fun(x:Str×Unit)=>Yc x.1) [(.str (List.takeWhile ZW s))])=AV.pv (enc y0)∧(G (((.tup [(.pv (.str (List.takeWhile ZW s))),(.pv (.bool y0))]),([(.box [(.pv (.str (List.dropWhile ZW s))),(.pv (.int .i64 n)),(.map 1)]),(.map es)],[]))))))):Ze K6 2 (Zk 2 QT G) QP [] (ZK 10 [.ptr 0 0] [.box [.pv (.str s),.pv (.int .i64 n),.map 1],.map es]):=Ze.to (.req (.keep (.req (.abs (Bool) (fun YY=>AV.pv (enc YY)) (.nil))))) h (by kernel_rfl)
def VT:IC:=(.seq (.reg [⟨(some 2),(.mv (.c (.int .i64 0))),0,none⟩,⟨(some 3),(.mv (.c (.bool false))),0,none⟩] none) (.seq (.seq (.reg [⟨(some 6),(.build [(.str []),(.str [])] [(0,(1,(.c (.str [43])))),(1,(1,(.c (.str [45]))))]),0,none⟩,⟨(some 7),(.mv (.c (.int .i64 0))),0,none⟩] none) (.block 0 (.loop [7,6,0] (.seq (.reg [⟨(some 8),(.bin .num .lss (.t 7) (.c (.int .i64 2))),0,none⟩] none) (.seq (.cond (.t 8) .skip (.exit 0)) (.seq (.block 1 (.seq (.reg [⟨(some 9),(.mv (.t 7)),0,none⟩,⟨(some 10),(.indexA 2 1 (.t 6) (.t 7)),0,none⟩,⟨(some 4),(.mv (.t 9)),0,none⟩,⟨(some 5),(.mv (.t 10)),0,none⟩] none) (.seq (.reg [⟨(some 11),(.mv (.t 0)),0,none⟩,⟨(some 12),(.nilchk (.t 11)),0,none⟩,⟨(some 13),(.faddr 0 (.t 12)),0,none⟩,⟨(some 14),(.load false [.str] (.t 13)),0,none⟩,⟨(some 15),(.mv (.t 5)),0,none⟩,⟨(some 16),(.call (.c (.fn 114)) [(.t 14),(.t 15)]),0,none⟩] none) (.cond (.t 16) (.seq (.reg [⟨(some 17),(.mv (.t 0)),0,none⟩,⟨(some 18),(.mv (.t 0)),0,none⟩,⟨(some 19),(.nilchk (.t 18)),0,none⟩,⟨(some 20),(.faddr 0 (.t 19)),0,none⟩,⟨(some 21),(.load false [.str] (.t 20)),0,none⟩,⟨(some 22),(.strslc (.t 21) (some (.c (.int .i64 1))) none),0,none⟩,⟨(some 23),(.nilchk (.t 17)),0,none⟩,⟨(some 24),(.faddr 0 (.t 23)),0,none⟩,⟨none,(.store 1 (.t 24) (.t 22)),0,none⟩] none) (.seq (.reg [⟨(some 25),(.mv (.t 4)),0,none⟩,⟨(some 26),(.bin .num .mul (.c (.int .i64 2)) (.t 25)),0,none⟩,⟨(some 27),(.bin .num .sub (.c (.int .i64 1)) (.t 26)),0,none⟩,⟨(some 2),(.mv (.t 27)),0,none⟩,⟨(some 3),(.mv (.c (.bool true))),0,none⟩] none) .ret)) .skip)))) (.reg [⟨(some 28),(.bin .num .add (.t 7) (.c (.int .i64 1))),0,none⟩,⟨(some 7),(.mv (.t 28)),0,none⟩] none))))))) (.seq (.reg [⟨(some 2),(.mv (.c (.int .i64 1))),0,none⟩,⟨(some 3),(.mv (.c (.bool false))),0,none⟩] none) .ret)))
def VL:List IRes:=[(.tmp 2),(.tmp 3)]
abbrev b3y:Nat:=29
def QK:ZG:=Xo [(114,.pure (preT (fun _:Str×Str×Unit=>true)) (Zo (fun x:Str×Str×Unit=>x.2.1.s.isPrefixOf x.1.s)))]
theorem c0d{G:AV×List AObj×List AObj->Prop}(s:List UInt8)(n:Int)(es:List (PV×PV))(h:At QK 2 (Zk 2 VL G) VT 0 29 [(0,(.ptr 0 0)),(6,(.pv (.agg [(.str [(43:UInt8)]),(.str [(45:UInt8)])]))),(7,(.pv (.int .i64 0)))] [(.obj (.box [(.pv (.str s)),(.pv (.int .i64 n)),(.map 1)])),(.obj (.map es))]):Ze QK 2 (Zk 2 VL G) VT [] (ZK 29 [.ptr 0 0] [.box [.pv (.str s),.pv (.int .i64 n),.map 1],.map es]):=Ze.to (.nil) h (by kernel_rfl)
theorem b0o{G:AV×List AObj×List AObj->Prop}(s:List UInt8)(n:Int)(es:List (PV×PV))(h : ∃ y0:Bool,AV.pv (Zo (fun(x:Str×Str×Unit)=>List.isPrefixOf (Str.s x.2.1) (Str.s x.1)) [(.str s),(.str [(43:UInt8)])])=AV.pv (enc y0)∧(if (y0)=true then(decide (0<=1)&&true&&decide (Int.toNat 1<=List.length s)&&decide (List.length s<=List.length s))=true∧(G (((.tup [(.pv (.int .i64 1)),(.pv (.bool true))]),([(.box [(.pv (.str (List.drop (Int.toNat 1) (List.take (List.length s) s)))),(.pv (.int .i64 n)),(.map 1)]),(.map es)],[]))))else(At QK 2 (Zk 2 VL G) VT 0 29 [(0,(.ptr 0 0)),(6,(.pv (.agg [(.str [(43:UInt8)]),(.str [(45:UInt8)])]))),(7,(.pv (.int .i64 1)))] [(.obj (.box [(.pv (.str s)),(.pv (.int .i64 n)),(.map 1)])),(.obj (.map es))]))):At QK 2 (Zk 2 VL G) VT 0 29 [(0,.ptr 0 0),(6,.pv (.agg [(.str [(43:UInt8)]),(.str [(45:UInt8)])])),(7,.pv (.int .i64 0))] [.obj (.box [.pv (.str s),.pv (.int .i64 n),.map 1]),.obj (.map es)]:=At.to (.lit (.lit (.lit (.lit (.abs (Bool) (fun YY=>AV.pv (enc YY)) (.ask (.req (.lit (.lit (.nil)))) (.lit (.nil)))))))) h (by kernel_rfl)
theorem a7h{G:AV×List AObj×List AObj->Prop}(s:List UInt8)(n:Int)(es:List (PV×PV))(h : ∃ y0:Bool,AV.pv (Zo (fun(x:Str×Str×Unit)=>List.isPrefixOf (Str.s x.2.1) (Str.s x.1)) [(.str s),(.str [(45:UInt8)])])=AV.pv (enc y0)∧(if (y0)=true then(decide (0<=1)&&true&&decide (Int.toNat 1<=List.length s)&&decide (List.length s<=List.length s))=true∧(G (((.tup [(.pv (.int .i64 (-1))),(.pv (.bool true))]),([(.box [(.pv (.str (List.drop (Int.toNat 1) (List.take (List.length s) s)))),(.pv (.int .i64 n)),(.map 1)]),(.map es)],[]))))else(At QK 2 (Zk 2 VL G) VT 0 29 [(0,(.ptr 0 0)),(6,(.pv (.agg [(.str [(43:UInt8)]),(.str [(45:UInt8)])]))),(7,(.pv (.int .i64 2)))] [(.obj (.box [(.pv (.str s)),(.pv (.int .i64 n)),(.map 1)])),(.obj (.map es))]))):At QK 2 (Zk 2 VL G) VT 0 29 [(0,.ptr 0 0),(6,.pv (.agg [(.str [(43:UInt8)]),(.str [(45:UInt8)])])),(7,.pv (.int .i64 1))] [.obj (.box [.pv (.str s),.pv (.int .i64 n),.map 1]),.obj (.map es)]:=At.to (.lit (.lit (.lit (.lit (.abs (Bool) (fun YY=>AV.pv (enc YY)) (.ask (.req (.lit (.lit (.nil)))) (.lit (.nil)))))))) h (by kernel_rfl)
theorem a5l{G:AV×List AObj×List AObj->Prop}(s:List UInt8)(n:Int)(es:List (PV×PV))(h:G (((.tup [(.pv (.int .i64 1)),(.pv (.bool false))]),([(.box [(.pv (.str s)),(.pv (.int .i64 n)),(.map 1)]),(.map es)],[])))):At QK 2 (Zk 2 VL G) VT 0 29 [(0,.ptr 0 0),(6,.pv (.agg [(.str [(43:UInt8)]),(.str [(45:UInt8)])])),(7,.pv (.int .i64 2))] [.obj (.box [.pv (.str s),.pv (.int .i64 n),.map 1]),.obj (.map es)]:=At.to (.lit (.lit (.nil))) h (by kernel_rfl)
end Go.Pl

namespace Go.Pl
open Go.RowKit
open Enc (enc dec is)
open EncL (encL decL isL)
theorem b7k(c:UInt8)(k:Nat)(hk:k<256):(((c.toNat:Int))==(k:Int))=(c==UInt8.ofNat k):=by
 rw[Bool.eq_iff_iff,beq_iff_eq,beq_iff_eq]
 constructor
 ·intro h
  have h:c.toNat=k:=by omega
  rw[<- h,UInt8.ofNat_toNat]
 ·intro h
  rw[h,UInt8.toNat_ofNat_of_lt' (by show k<2 ^ 8;omega)]
theorem LW: ∀ a:UInt8×Unit,true=true->Ze CB 0 (Zg Gr (ZB (ZW a.1))) GK [] (Y2 a0w (encL a)):=by
 rintro⟨c,⟨⟩⟩ -
 have e95:(((c.toNat:Int))==95)=(c==95):=b7k c 95 (by omega)
 have el:=b1i c
 refine b1p c ?_
 show if decide ((c.toNat:Int) ≥ 97)=true then(if decide ((c.toNat:Int)<=122)=true then ZB (ZW c) (.bool true)else if ((c.toNat:Int)==95)=true then ZB (ZW c) (.bool true)else _)else if ((c.toNat:Int)==95)=true then ZB (ZW c) (.bool true)else _
 rw[e95]
 have rest:Wm c=false->(if (c==95)=true then ZB (ZW c) (.bool true)else preT (fun _:UInt8×Unit=>true) [enc c]=true∧ ∃ y0:Bool,AV.pv (Zo (fun x:UInt8×Unit=>digB x.1) [enc c])=AV.pv (enc y0)∧ZB (ZW c) (.bool y0)):=by
  intro hl
  refine K4 (fun h=>YI ?_) fun h=>⟨Zt (c,()) rfl rfl,Zz (c,()) rfl (YI ?_)⟩
  ·unfold ZW;rw[h];simp
  ·unfold ZW;rw[hl,h];rfl
 refine UT (fun h1=>UT (fun h2=>YI ?_) fun h2=>rest ?_) fun h1=>rest ?_
 ·have:Wm c=true:=by rw[el];simp[h1,h2]
  unfold ZW;rw[this];rfl
 ·rw[el];simp[h2]
 ·rw[el];simp[h1]
theorem Ll: ∀ args os,ZU args os=true->Ze Ae os.length (Zk os.length GA fun r=>r=Qy args os) GX [] (ZK Ez args os):=by
 intro args os h
 unfold ZU at h
 split at h
 ·rename_i s n es
  exact a7l s n es (Zz ((⟨s⟩:Str),(⟨[32]⟩:Str),()) rfl rfl)
 ·cases h
theorem Js(p:UInt8->Bool): ∀ (s:List UInt8) (i:Nat),i<=s.length->(∀ j (h:j<s.length),j<i->p s[j]=true)->(∀ h:i<s.length,p s[i]=false)->s.takeWhile p=s.take i∧s.dropWhile p=s.drop i
 | [],i,hi,h1,h2=>by
  have:i=0:=by simpa using hi
  subst this
  exact⟨rfl,rfl⟩
 | c::s,0,hi,h1,h2=>by
  have:=h2 (by simp)
  simp only[List.getElem_cons_zero]at this
  simp[List.takeWhile_cons,List.dropWhile_cons,this]
 | c::s,i+1,hi,h1,h2=>by
  have hc:p c=true:=h1 0 (by simp) (by omega)
  have ih:=Js p s i (by simpa using hi) (fun j h hj=>h1 (j+1) (by simp;omega) (by omega)) fun h=>h2 (by simp;omega)
  simp[List.takeWhile_cons,List.dropWhile_cons,hc,ih.1,ih.2]
theorem c2g{s:List UInt8}{i:Nat}(h:i<s.length):((UInt8.toNat (List.getD s (Int.toNat (i:Int)) (0:UInt8)):Nat):Int)=((s[i].toNat:Nat):Int):=by simp[List.getD,h]
theorem F3(s:List UInt8)(n:Int)(es:List (PV×PV))(hs:s.length<=1000000): ∀ (m i:Nat),m+i=s.length->(∀ j (h:j<s.length),j<i->digB s[j]=true) ->
  At QF 2 (Zk 2 V6 fun r=>r=(.pv (.str (s.takeWhile digB)),rdV (s.dropWhile digB) n es,[])) VB 0 42 [(0,.ptr 0 0),(1,.pv (.fn 110)),(5,.pv (.int .i64 i))] [.obj (.box [.pv (.str s),.pv (.int .i64 n),.map 1]),.obj (.map es)]:=by
 intro m
 induction m with
 | zero=>
  intro i hi h
  obtain⟨e1,e2⟩:=Js digB s i (by omega) h (fun hlt=>by omega)
  refine Ml s n es i (Zy (by simp;omega) ⟨by simp;omega,by simp;omega,?_⟩)
  rw[e1,e2,Int.toNat_natCast,List.drop_zero,List.take_length];rfl
 | succ m ih=>
  intro i hi h
  have hlt:i<s.length:=by omega
  refine Ml s n es i ?_
  rw[c2g hlt]
  refine Zx (by simp;omega) ⟨by simp;omega,Zt (s[i],()) rfl rfl,Zz (s[i],()) rfl (K4 (fun hc=> ?_) fun hc=>⟨by simp;omega,by simp;omega,?_⟩)⟩
  ·rw[next (by omega)]
   exact ih (i+1) (by omega) fun j hj hji=>if e:j=i then by subst e;exact hc else h j hj (by omega)
  ·obtain⟨e1,e2⟩:=Js digB s i (by omega) h (fun _=>hc)
   rw[e1,e2,Int.toNat_natCast,List.drop_zero,List.take_length];rfl
theorem FM(s:List UInt8)(n:Int)(es:List (PV×PV))(hs:s.length<=1000000): ∀ (m i:Nat),m+i=s.length->(∀ j (h:j<s.length),j<i->ZW s[j]=true) ->
  At Qi 2 (Zk 2 V9 fun r=>r=(.pv (.str (s.takeWhile ZW)),rdV (s.dropWhile ZW) n es,[])) Ug 0 42 [(0,.ptr 0 0),(1,.pv (.fn 115)),(5,.pv (.int .i64 i))] [.obj (.box [.pv (.str s),.pv (.int .i64 n),.map 1]),.obj (.map es)]:=by
 intro m
 induction m with
 | zero=>
  intro i hi h
  obtain⟨e1,e2⟩:=Js ZW s i (by omega) h (fun hlt=>by omega)
  refine NW s n es i (Zy (by simp;omega) ⟨by simp;omega,by simp;omega,?_⟩)
  rw[e1,e2,Int.toNat_natCast,List.drop_zero,List.take_length];rfl
 | succ m ih=>
  intro i hi h
  have hlt:i<s.length:=by omega
  refine NW s n es i ?_
  rw[c2g hlt]
  refine Zx (by simp;omega) ⟨by simp;omega,Zt (s[i],()) rfl rfl,Zz (s[i],()) rfl (K4 (fun hc=> ?_) fun hc=>⟨by simp;omega,by simp;omega,?_⟩)⟩
  ·rw[next (by omega)]
   exact ih (i+1) (by omega) fun j hj hji=>if e:j=i then by subst e;exact hc else h j hj (by omega)
  ·obtain⟨e1,e2⟩:=Js ZW s i (by omega) h (fun _=>hc)
   rw[e1,e2,Int.toNat_natCast,List.drop_zero,List.take_length];rfl
theorem a2p: ∀ args os,XB 110 args os=true->Ze QF os.length (Zk os.length V6 fun r=>r=Tp digB args os) VB [] (ZK a5z args os):=by
 intro args os h
 unfold XB at h
 split at h
 ·rename_i g s n es
  simp only[Bool.and_eq_true,beq_iff_eq,decide_eq_true_eq]at h
  obtain⟨rfl,h⟩:=h
  exact b6d s n es (F3 s n es h s.length 0 (by omega) fun j _ hj=>by omega)
 ·cases h
theorem Ev: ∀ args os,XB 115 args os=true->Ze Qi os.length (Zk os.length V9 fun r=>r=Tp ZW args os) Ug [] (ZK a7e args os):=by
 intro args os h
 unfold XB at h
 split at h
 ·rename_i g s n es
  simp only[Bool.and_eq_true,beq_iff_eq,decide_eq_true_eq]at h
  obtain⟨rfl,h⟩:=h
  exact b2e s n es (FM s n es h s.length 0 (by omega) fun j _ hj=>by omega)
 ·cases h
theorem CJ(p:UInt8->Bool)(s:List UInt8):(s.takeWhile p).length<=s.length:=(List.takeWhile_sublist p).length_le
theorem a4z{d:List UInt8}(h:(Z6 ⟨d⟩).2.b=false):0<d.length:=by
 cases d with
 | nil=>exact absurd h (by decide)
 | cons c d=>simp
theorem b8l(e:Er):VK (enc e) = !e.b:=by obtain⟨b⟩:=e;cases b <;> rfl
theorem c0c(e:Er):Dt (enc e)=true:=by obtain⟨b⟩:=e;cases b <;> rfl
theorem Lc: ∀ args os,ZU args os=true->Ze CP os.length (Zk os.length Gx fun r=>r=Qu args os) G8 [] (ZK a1l args os):=by
 intro args os h
 unfold ZU at h
 split at h
 ·rename_i s n es
  have h:s.length<=1000000:=by simpa using h
  have hl:=CJ digB s
  refine a6k s n es ⟨by simp[XB,h],?_⟩
  have ev:Qu [.ptr 0 0] [.box [.pv (.str s),.pv (.int .i64 n),.map 1],.map es]=(.tup [.pv (.int .i64 (Z6 ⟨s.takeWhile digB⟩).1),.pv (.bool (Nu (s.takeWhile digB)))],rdV (s.dropWhile digB) n es,[]):=rfl
  rw[ev]
  generalize s.takeWhile digB=d at hl ⊢
  refine⟨Zt ((⟨d⟩:Str),()) rfl (decide_eq_true (by show d.length<=_;omega)),Zz ((⟨d⟩:Str),()) rfl ⟨?_,?_⟩⟩
  ·show(Dt (enc (Z6 ⟨d⟩).2)&&true)=true
   rw[c0c];rfl
  show if VK (enc (Z6 ⟨d⟩).2)=true then _ else _
  rw[b8l]
  unfold Nu
  refine U3 (fun hb=> ?_) fun hb=> ?_
  ·have hp:=a4z hb
   rw[hb]
   refine UT (fun h7=> ?_) fun h7=> ?_
   ·have h7:d.length<=7:=by omega
    cases d with
    | nil=>simp at hp
    | cons c r=>
     refine⟨by simp,?_⟩
     rw[decide_eq_true h7]
     have e:((UInt8.toNat (List.getD (c::r) (Int.toNat 0) (0:UInt8)):Int) != 48) = !(c==48):=by
      show(!((c.toNat:Int)==((48:Nat):Int)))=_
      rw[b7k c 48 (by omega)];rfl
     rw[e]
     refine U3 (fun hc=> ?_) fun hc=> ?_
     ·have hc:c≠48:=by simpa using hc
      simp[hc];rfl
     ·have hc:c=48:=by simpa using hc
      subst hc
      have e:((48::r:List UInt8)==[48])=(!false&&true&&(decide (((48:UInt8)::r).head? ≠ some 48)||decide ((48::r:List UInt8)=[48]))):=by cases r <;> simp
      rw[<- e];rfl
   ·have h7 : ¬ d.length<=7:=by omega
    simp[h7];rfl
  ·rw[hb];rfl
 ·cases h
theorem Pv: ∀ args os,ZU args os=true->Ze K6 os.length (Zk os.length QT fun r=>r=Qw args os) QP [] (ZK NT args os):=by
 intro args os h
 unfold ZU at h
 split at h
 ·rename_i s n es
  have h:s.length<=1000000:=by simpa using h
  have hl:=CJ ZW s
  exact Lb s n es ⟨by simp[XB,h],Zt ((⟨s.takeWhile ZW⟩:Str),()) rfl (decide_eq_true (by show(s.takeWhile ZW).length<=_;omega)),Zz ((⟨s.takeWhile ZW⟩:Str),()) rfl rfl⟩
 ·cases h
theorem a5o: ∀ args os,ZU args os=true->Ze QK os.length (Zk os.length VL fun r=>r=JV args os) VT [] (ZK b3y args os):=by
 intro args os h
 unfold ZU at h
 split at h
 ·rename_i s n es
  have h:s.length<=1000000:=by simpa using h
  have ev:JV [.ptr 0 0] [.box [.pv (.str s),.pv (.int .i64 n),.map 1],.map es]=(.tup [.pv (.int .i64 (Yu s).1.1),.pv (.bool (Yu s).1.2)],rdV (Yu s).2 n es,[]):=rfl
  rw[ev]
  refine c0d s n es (b0o s n es (Zz ((⟨s⟩:Str),(⟨[43]⟩:Str),()) rfl (K4 (fun h1=> ?_) fun h1=>a7h s n es (Zz ((⟨s⟩:Str),(⟨[45]⟩:Str),()) rfl (K4 (fun h2=> ?_) fun h2=>a5l s n es ?_)))))
  ·cases s with
   | nil=>cases h1
   | cons c r=>
    have hc:c=43:=by
     have:([43]:List UInt8).isPrefixOf (c::r)=true:=h1
     exact(by simpa [List.isPrefixOf]using this:43=c).symm
    subst hc
    refine⟨by simp,?_⟩
    simp[Yu,rdV]
  ·cases s with
   | nil=>cases h2
   | cons c r=>
    have hc:c=45:=by
     have:([45]:List UInt8).isPrefixOf (c::r)=true:=h2
     exact(by simpa [List.isPrefixOf]using this:45=c).symm
    subst hc
    refine⟨by simp,?_⟩
    simp[Yu,rdV]
  ·cases s with
   | nil=>rfl
   | cons c r=>
    have hc1:c≠43:=by
     intro e;subst e
     have:([43]:List UInt8).isPrefixOf (43::r)=false:=h1
     simp[List.isPrefixOf]at this
    have hc2:c≠45:=by
     intro e;subst e
     have:([45]:List UInt8).isPrefixOf (45::r)=false:=h2
     simp[List.isPrefixOf]at this
    simp[Yu,hc1,hc2,rdV]
 ·cases h
end Go.Pl

namespace Go.Pl
open Go.RowKit
open Enc (enc dec is)
open EncL (encL decL isL)
theorem Cf(v:List UInt8)(m:List (Str×Int)):(Va (PV.str v) (Zj m)&&Sh.fit (Sh.int .i64) (ZP (PV.str v) (PV.int .i64 0) (Zj m)))=true:=by rw[Vj,Vl];rfl
theorem Ca(v:List UInt8)(c:Int)(m:List (Str×Int)):Dl (PV.str v) (PV.int .i64 c) (Zj m)=true:=by
 unfold Dl
 rw[Cc ⟨v⟩ c m];rfl
theorem DW(v:List UInt8)(k:Int)(m:List (Str×Int)):DL (PV.str v) (PV.int .i64 (IntKind.i64.wrap (PV.asInt (ZP (PV.str v) (PV.int .i64 0) (Zj m))+k))) (Zj m)=Zj (VP ⟨v⟩ (Xe (Um m v+k)) m):=by
 rw[Vl]
 unfold DL
 rw[Cc ⟨v⟩ _ m];rfl
theorem UG(s:List UInt8)(n:Int)(m:List (Str×Int))(h:s.length<=1000000):ZU [.ptr 0 0] [.box [.pv (.str s),.pv (.int .i64 n),.map 1],.map (Zj m)]=true:=decide_eq_true h
theorem U9(p:UInt8->Bool)(s:List UInt8):(s.dropWhile p).length<=s.length:=(List.dropWhile_sublist p).length_le
theorem a8l(r:RdS)(g:Int)(hs:r.s.length<=1000000):Ze BN 2 (Zk 2 Hl fun z=>z=Mw (ZY r g)) DZ [] (ZK Ee [.ptr 0 0,.pv (.int .i64 g)] [.box [.pv (.str r.s),.pv (.int .i64 r.n),.map 1],.map (Zj r.m)]):=by
 obtain⟨s,n,m⟩:=r
 have hs:s.length<=1000000:=hs
 show Ze BN 2 (Zk 2 Hl fun z=>z=Mw (ZY ⟨s,n,m⟩ g)) _ _ _
 refine c0k s n m g (Gf (fun h0=> ?_) fun h0=> ?_)
 ·have h0:s=[]:=h0
  subst h0
  rfl
 have h0:s≠[]:=h0
 have hp:0<s.length:=List.length_pos_iff.2 h0
 have hg:((UInt8.toNat (List.getD s (Int.toNat 0) (0:UInt8)):Nat):Int)=(((s.headD 0).toNat:Nat):Int):=by
  cases s with
  | nil=>exact absurd rfl h0
  | cons c s=>rfl
 rw[hg]
 refine⟨by simp;omega,Zt (s.headD 0,()) rfl rfl,Zz (s.headD 0,()) rfl (U3 (fun hd=> ?_) fun hd=> ?_)⟩
 ·have hd:digB (s.headD 0)=false:=hd
  have e:ZY ⟨s,n,m⟩ g=L8 s n m g:=by
   unfold ZY
   rw[if_neg h0,if_pos hd]
  rw[e]
  refine⟨UG s n m hs,Cf _ _,Ca _ _ _,?_⟩
  rw[DW];rfl
 have hd:digB (s.headD 0)=true:=hd
 refine⟨UG s n m hs,U3 (fun hn=> ?_) fun hn=> ?_⟩
 ·have e:ZY ⟨s,n,m⟩ g=(false,⟨s.dropWhile digB,n,m⟩):=by
   unfold ZY
   rw[if_neg h0,if_neg (by rw[hd];simp),if_pos hn]
  rw[e];rfl
 have e:ZY ⟨s,n,m⟩ g=Jl (s.dropWhile digB) n m (Xe (g*(Z6 ⟨s.takeWhile digB⟩).1)):=by
  unfold ZY
  rw[if_neg h0,if_neg (by rw[hd];simp),if_neg (by rw[hn];simp)]
 rw[e]
 have hl:=U9 digB s
 generalize (Z6 ⟨s.takeWhile digB⟩).1=k
 generalize s.dropWhile digB=t at hl ⊢
 have hb:=U9 (fun c=>c==32) t
 have hb:(Zh t).length<=t.length:=hb
 refine Zz ((⟨t⟩:Str),(⟨[32]⟩:Str),()) rfl (Zz ((⟨Zh t⟩:Str),(⟨[42]⟩:Str),()) rfl (K4 (fun hx=> ?_) fun hx=> ?_))
 ·have hx:([42]:List UInt8).isPrefixOf (Zh t)=true:=hx
  have ed:List.drop (Int.toNat 1) (List.take (List.length (Zh t)) (Zh t))=(Zh t).drop 1:=by rw[List.take_length];rfl
  have hpos:1<=(Zh t).length:=by
   cases h:Zh t with
   | nil=>rw[h]at hx;cases hx
   | cons c r=>simp
  have e2:Jl t n m (Xe (g*k))=L8 (Zh ((Zh t).drop 1)) n m (Xe (g*k)):=by unfold Jl;rw[if_pos hx]
  rw[e2]
  show _∧_
  refine⟨by simp;omega,?_⟩
  show ZU [.ptr 0 0] [.box [.pv (.str (List.drop (Int.toNat 1) (List.take (List.length (Zh t)) (Zh t)))),.pv (.int .i64 n),.map 1],.map (Zj m)]=true∧_
  rw[ed]
  have hl2:((Zh t).drop 1).length<=1000000:=by simp;omega
  generalize (Zh t).drop 1=u at hl2 ⊢
  have hl3:(Zh u).length<=u.length:=U9 (fun c=>c==32) u
  refine⟨UG u n m hl2,UG (Zh u) n m (by omega),Cf _ _,Ca _ _ _,?_⟩
  rw[DW];rfl
 ·have hx:([42]:List UInt8).isPrefixOf (Zh t)=false:=hx
  have e2:Jl t n m (Xe (g*k))=if t=[]∨ZW (t.headD 0)=false then(true,⟨t,Xe (n+Xe (g*k)),m⟩)else L8 t n m (Xe (g*k)):=by unfold Jl;rw[if_neg (by rw[hx];simp)]
  rw[e2]
  refine Gf (fun ht=> ?_) fun ht=> ?_
  ·have ht:t=[]:=ht
   rw[if_pos (.inl ht)];rfl
  have ht:t≠[]:=ht
  have htp:0<t.length:=List.length_pos_iff.2 ht
  have hg2:((UInt8.toNat (List.getD t (Int.toNat 0) (0:UInt8)):Nat):Int)=(((t.headD 0).toNat:Nat):Int):=by
   cases t with
   | nil=>exact absurd rfl ht
   | cons c s=>rfl
  rw[hg2]
  refine⟨by simp;omega,Zt (t.headD 0,()) rfl rfl,Zz (t.headD 0,()) rfl (U3 (fun hc=> ?_) fun hc=> ?_)⟩
  ·have hc:ZW (t.headD 0)=false:=hc
   rw[if_pos (.inr hc)];rfl
  ·have hc:ZW (t.headD 0)=true:=hc
   rw[if_neg (by rintro(h|h);exact ht h;rw[hc]at h;cases h)]
   refine⟨UG t n m (by omega),Cf _ _,Ca _ _ _,?_⟩
   rw[DW];rfl
theorem a6o: ∀ args os,Ki args os=true->Ze BN os.length (Zk os.length Hl fun r=>r=Ho args os) DZ [] (ZK Ee args os):=by
 intro args os h
 unfold Ki at h
 split at h
 ·rename_i g s n es
  simp only[Bool.and_eq_true,decide_eq_true_eq]at h
  obtain⟨h1,h2⟩:=h
  obtain⟨m,rfl⟩:=QD h1
  have ev:Ho [.ptr 0 0,.pv (.int .i64 g)] [.box [.pv (.str s),.pv (.int .i64 n),.map 1],.map (Zj m)]=Mw (ZY ⟨s,n,m⟩ g):=by
   show Mw (ZY ⟨s,n,Z4 (Zj m)⟩ g)=_
   rw[Yt]
  rw[ev]
  exact a8l ⟨s,n,m⟩ g h2
 ·cases h
end Go.Pl

namespace Go.Pl
open Go.RowKit
open Enc (enc dec is)
open EncL (encL decL isL)
theorem Mm(u:List UInt8):(Yu u).2.length<=u.length∧((Yu u).1.2=true->(Yu u).2.length<u.length):=by
 cases u with
 | nil=>exact⟨Nat.le_refl _,fun h=>by cases h⟩
 | cons c r=>
  have e:Yu (c::r)=if c=43 then((1,true),r)else if c=45 then((-1,true),r)else((1,false),c::r):=rfl
  rw[e]
  by_cases h1:c=43
  ·rw[if_pos h1];exact⟨by simp,fun _=>by simp⟩
  ·rw[if_neg h1]
   by_cases h2:c=45
   ·rw[if_pos h2];exact⟨by simp,fun _=>by simp⟩
   ·rw[if_neg h2];exact⟨Nat.le_refl _,fun h=>by cases h⟩
theorem V7(s:List UInt8):(Zh s).length<=s.length:=U9 _ s
theorem a1v(s:Str)(c:Int)(m:List (Str×Int))(x:List UInt8)(h:x∈Ya (VP s c m)):x∈Ya m∨x=s.s:=by
 rcases U7 s c m with e|⟨_,e⟩
 ·rw[e]at h;exact .inl h
 ·rw[e,List.mem_append]at h
  rcases h with h|h
  ·exact .inl h
  ·exact .inr (List.mem_singleton.1 h)
def okR(r:RdS)(z:Bool×RdS):Prop:=z.2.s.length<=r.s.length∧z.2.m.length<=r.m.length+1∧ ∀ x∈Ya z.2.m,x∈Ya r.m∨x.length<=r.s.length
theorem RV(s:List UInt8)(n n':Int)(m:List (Str×Int))(k:Int)(t:List UInt8)(h:s.length<=t.length):okR ⟨t,n',m⟩ (L8 s n m k):=by
 have h1:=U9 ZW s
 have h2:=CJ ZW s
 refine⟨by show(s.dropWhile ZW).length<=t.length;omega,Ri _ _ _,fun x hx=> ?_⟩
 rcases a1v _ _ _ x hx with h|rfl
 ·exact .inl h
 ·exact .inr (by show(s.takeWhile ZW).length<=t.length;omega)
theorem a5w(r:RdS)(g:Int):okR r (ZY r g):=by
 obtain⟨s,n,m⟩:=r
 have self : ∀ (b:Bool) (t:List UInt8) (n':Int),t.length<=s.length->okR ⟨s,n,m⟩ (b,⟨t,n',m⟩):=fun b t n' h=>⟨h,Nat.le_succ _,fun x hx=>.inl hx⟩
 have h1:=U9 digB s
 unfold ZY
 split
 ·exact self _ _ _ (Nat.le_refl _)
 ·split
  ·exact RV _ _ _ _ _ _ (Nat.le_refl _)
  ·split
   ·exact self _ _ _ h1
   ·simp only
    generalize s.dropWhile digB=t at h1 ⊢
    have hb:=V7 t
    unfold Jl
    split
    ·have hc:=V7 ((Zh t).drop 1)
     have hd:((Zh t).drop 1).length<=(Zh t).length:=by rw[List.length_drop];omega
     exact RV _ _ _ _ _ _ (by omega)
    ·split
     ·exact self _ _ _ h1
     ·exact RV _ _ _ _ _ _ h1
theorem b9l(s:List UInt8)(n:Int)(m:List (Str×Int))(g:Int)(h:s.length<=1000000):Ki [.ptr 0 0,.pv (.int .i64 g)] [.box [.pv (.str s),.pv (.int .i64 n),.map 1],.map (Zj m)]=true:=by
 show(Gq (Zj m)&&decide (s.length<=1000000))=true
 rw[U1,decide_eq_true h];rfl
theorem Lx(s:List UInt8): ∀ (f:Nat) (t:List UInt8) (n:Int) (m:List (Str×Int)) (g:Int),t.length<f->t.length+m.length<=500000->(∀ x∈Ya m,x.length<=500000) ->
  At Qm 0 (Zg Uc (ZB (Bo f t n m g))) VX 0 51 [(2,.ptr 0 0),(4,.ptr 1 0),(5,.fn 67 [.ptr 1 0] []),(6,.pv (.int .i64 g))] [.obj (.box [.pv (.int .i64 0),.pv (.sl 0 true [])]),.obj (.box [.pv (.str t),.pv (.int .i64 n),.map 2]),.obj (.map (Zj m))]:=by
 intro f
 induction f with
 | zero=>intro t n m g h;omega
 | succ f ih=>
  intro t n m g hf hl hk
  have hbl:=V7 t
  refine b1w s t n m g ⟨UG t n m (by omega),b9l _ n m g (by omega),?_⟩
  rw[Yt]
  have ho:=a5w ⟨Zh t,n,m⟩ g
  unfold Bo
  generalize ZY ⟨Zh t,n,m⟩ g=z at ho ⊢
  obtain⟨b,u,n',m'⟩:=z
  obtain⟨o1,o2,o3⟩:=ho
  have o1:u.length<=(Zh t).length:=o1
  have o2:m'.length<=m.length+1:=o2
  have o3 : ∀ x∈Ya m',x∈Ya m∨x.length<=(Zh t).length:=o3
  have hk' : ∀ x∈Ya m',x.length<=500000:=fun x hx=>(o3 x hx).elim (hk x) fun h=>by omega
  have hub:=V7 u
  simp only
  generalize hV:(if b=false then((⟨0,[]⟩,6):Lin×Int)else if Zh u=[]then X9 n' m' else if (Yu (Zh u)).1.2=false then(⟨0,[]⟩,6)else Bo f (Yu (Zh u)).2 n' m' (Yu (Zh u)).1.1)=V
  refine U3 (fun hb=> ?_) fun hb=> ?_
  ·have hv:V=(⟨0,[]⟩,6):=by rw[<- hV,if_pos hb]
   rw[hv]
   exact⟨rfl,rfl⟩
  have hb' : ¬ b=false:=by
   have:b=true:=hb
   rw[this];simp
  rw[if_neg hb']at hV
  refine⟨UG u n' m' (by omega),Gf (fun he=> ?_) fun he=> ?_⟩
  ·have hv:V=X9 n' m':=by rw[<- hV,if_pos he]
   rw[hv,Yt]
   refine⟨?_,Y7 (x:=X9 n' m') rfl⟩
   show(Gq (Zj m')&&KX (Z4 (Zj m')))=true
   rw[U1,Yt]
   simp only[KX,Bool.true_and,Bool.and_eq_true,decide_eq_true_eq,List.all_eq_true]
   exact⟨by omega,fun x hx=>by have:=hk' x hx;omega⟩
  ·rw[if_neg he]at hV
   obtain⟨s1,s2⟩:=Mm (Zh u)
   refine⟨UG (Zh u) n' m' (by omega),U3 (fun hs=> ?_) fun hs=> ?_⟩
   ·have hv:V=(⟨0,[]⟩,6):=by rw[<- hV,if_pos hs]
    rw[hv]
    exact⟨rfl,rfl⟩
   ·have hs' : ¬ (Yu (Zh u)).1.2=false:=by
     have:(Yu (Zh u)).1.2=true:=hs
     rw[this];simp
    rw[if_neg hs']at hV
    have:=s2 hs
    rw[<- hV]
    exact ih (Yu (Zh u)).2 n' m' (Yu (Zh u)).1.1 (by omega) (by omega) hk'
theorem Et: ∀ a:Str×Unit,decide (a.1.s.length<=400000)=true->Ze Qm 0 (Zg Uc (ZB (XH a.1.s))) VX [] (Y2 a7n (encL a)):=by
 rintro⟨⟨s⟩,⟨⟩⟩ h
 have h:s.length<=400000:=by simpa using h
 have h1:=V7 s
 have h2:=(Mm (Zh s)).1
 refine b6e s ⟨UG s 0 [] (by omega),UG (Zh s) 0 [] (by omega),?_⟩
 exact Lx s (s.length+1) (Yu (Zh s)).2 0 [] (Yu (Zh s)).1.1 (by omega) (by simp;omega) (fun x hx=>by cases hx)
end Go.Pl

