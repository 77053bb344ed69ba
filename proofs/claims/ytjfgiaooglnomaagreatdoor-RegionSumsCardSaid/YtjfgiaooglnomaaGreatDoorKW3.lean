/-
  Texts of mine that belong together (packed by pack.py), for every input: TyL, TyM, TyN, TyT, TyO, TyS, GLb, GLa, QLa, QLb, GLc, QLc, GLd, QLd, TyU, QLh, QLm, GLe, QLe, GLg, QLg, QLf, GLi, GL1, QL1, QL2, QLi, QLj, QL3, QL4, GL5, QL5, GL7, QL7, TyR, GLr, QRp, QRq, TyRa, GRa, QGa, GRb, TyP, GLo, QLq, QGb, QGc, GRp.
-/
import Derived.Test.YtjfgiaooglnomaaGreatDoorKW2
import Derived.KernelRfl
import Derived.Lib.AtoiAllMem
import Derived.Lib.AtoiAllCases
import Derived.Lib.ItoaNum
set_option linter.unusedVariables false
set_option linter.unusedSimpArgs false
namespace Go.Pl
open Go.RowKit
open Enc (enc dec is)
open EncL (encL decL isL)
structure Coef where
 v:Str
 c:Int
 deriving DecidableEq
instance:Enc Coef where
 sz:=2
 enc x:=.agg [enc x.v,enc x.c]
 dec | .agg [a,b]=>⟨dec a,dec b⟩|_=>⟨⟨[]⟩,0⟩
 is | .agg [a,b]=>is Str a&&is Int b|_=>false
 is_enc v:=by simp
 dec_enc v:=by simp
 sub p h:=by
  cases p with
  | agg xs=>
   match xs,h with
   | [a,b],h=>
    simp only[Bool.and_eq_true]at h
    exact .agg (.cons (Enc.sub a h.1).2 (.cons (Enc.sub b h.2).2 .nil))
  | _=>cases h
structure Lin where
 k:Int
 t:List Coef
 deriving DecidableEq
instance:Enc Lin where
 sz:=2
 enc x:=.agg [enc x.k,enc x.t]
 dec | .agg [a,b]=>⟨dec a,dec b⟩|_=>⟨0,[]⟩
 is | .agg [a,b]=>is Int a&&is (List Coef) b|_=>false
 is_enc v:=by simp
 dec_enc v:=by simp
 sub p h:=by
  cases p with
  | agg xs=>
   match xs,h with
   | [a,b],h=>
    simp only[Bool.and_eq_true]at h
    exact .agg (.cons (Enc.sub a h.1).2 (.cons (Enc.sub b h.2).2 .nil))
  | _=>cases h
@[simp] theorem c9w (a b : PV) : is Coef (.agg [a, b]) = (is Str a && is Int b) := rfl
@[simp] theorem c9k (a b : PV) : (dec (.agg [a, b]) : Coef) = ⟨dec a, dec b⟩ := rfl
@[simp] theorem d0m (a b : PV) : is Lin (.agg [a, b]) = (is Int a && is (List Coef) b) := rfl
@[simp] theorem d0d (a b : PV) : (dec (.agg [a, b]) : Lin) = ⟨dec a, dec b⟩ := rfl
def digB(c:UInt8):Bool:=decide (48<=c)&&decide (c<=57)
def Wz(c:UInt8):Bool:=decide (97<=c)&&decide (c<=122)
def ZB(s:Str):Bool:=match s.s with
 | []=>false
 | c::r=>if c=95 then r.all digB&& !r.isEmpty&&decide (r.head? ≠ some 48)&&decide (r.length<=9)else Wz c&&r.all (fun c=>Wz c||digB c)&&decide (r.length<=29)
def YF(n:Int):Bool:=decide (-1000000<=n)&&decide (n<=1000000)
def SH:List Coef->Bool
 | a::b::l=>decide (a.v.s<b.v.s)&&SH (b::l)
 | _=>true
def Zz(l:Lin):Bool:=l.t.all (fun t=>ZB t.v&&decide (t.c≠0)&&YF t.c)&&SH l.t&&YF l.k&&decide (l.t.length<=12)
def atM(m:List (Str×Int))(s:List UInt8):Int:=((m.find? fun p=>p.1.s==s).map (·.2)).getD 0
end Go.Pl

namespace Go.Pl
open Go.RowKit
open Enc (enc dec is)
open EncL (encL decL isL)
structure Fact where
 eq:Bool
 l:Lin
 deriving DecidableEq
instance:Enc Fact where
 sz:=3
 enc x:=.agg [enc x.eq,enc x.l.k,enc x.l.t]
 dec | .agg [a,b,c]=>⟨dec a,⟨dec b,dec c⟩⟩|_=>⟨false,⟨0,[]⟩⟩
 is | .agg [a,b,c]=>is Bool a&&is Int b&&is (List Coef) c|_=>false
 is_enc v:=by simp
 dec_enc v:=by simp
 sub p h:=by
  cases p with
  | agg xs=>
   match xs,h with
   | [a,b,c],h=>
    simp only[Bool.and_eq_true]at h
    exact .agg (.cons (Enc.sub a h.1.1).2 (.cons (Enc.sub b h.1.2).2 (.cons (Enc.sub c h.2).2 .nil)))
  | _=>cases h
@[simp] theorem d0c (a b c : PV) : is Fact (.agg [a, b, c]) = (is Bool a && is Int b && is (List Coef) c) := rfl
@[simp] theorem c8g (a b c : PV) : (dec (.agg [a, b, c]) : Fact) = ⟨dec a, ⟨dec b, dec c⟩⟩ := rfl
structure Bnd where
 kind:Int
 v:Str
 dim:Lin
 row:Str
 dims:List Lin
 elem:Str
 deriving DecidableEq
instance:Enc Bnd where
 sz:=7
 enc x:=.agg [enc x.kind,enc x.v,enc x.dim.k,enc x.dim.t,enc x.row,enc x.dims,enc x.elem]
 dec | .agg [a,b,c,d,e,f,g]=>⟨dec a,dec b,⟨dec c,dec d⟩,dec e,dec f,dec g⟩|_=>⟨0,⟨[]⟩,⟨0,[]⟩,⟨[]⟩,[],⟨[]⟩⟩
 is | .agg [a,b,c,d,e,f,g]=>is Int a&&is Str b&&is Int c&&is (List Coef) d&&is Str e&&is (List Lin) f&&is Str g|_=>false
 is_enc v:=by simp
 dec_enc v:=by simp
 sub p h:=by
  cases p with
  | agg xs=>
   match xs,h with
   | [a,b,c,d,e,f,g],h=>
    simp only[Bool.and_eq_true]at h
    exact .agg (.cons (Enc.sub a h.1.1.1.1.1.1).2 (.cons (Enc.sub b h.1.1.1.1.1.2).2 (.cons (Enc.sub c h.1.1.1.1.2).2 (.cons (Enc.sub d h.1.1.1.2).2 (.cons (Enc.sub e h.1.1.2).2 (.cons (Enc.sub f h.1.2).2 (.cons (Enc.sub g h.2).2 .nil)))))))
  | _=>cases h
@[simp] theorem d0v (a b c d e f g : PV) : is Bnd (.agg [a, b, c, d, e, f, g]) = (is Int a && is Str b && is Int c && is (List Coef) d && is Str e && is (List Lin) f && is Str g) := rfl
@[simp] theorem c9u (a b c d e f g : PV) : (dec (.agg [a, b, c, d, e, f, g]) : Bnd) = ⟨dec a, dec b, ⟨dec c, dec d⟩, dec e, dec f, dec g⟩ := rfl
inductive Cert where
 | mk (kind:Int) (mults:List Int) (lin:Lin) (kids:List Cert)
mutual
def KH:Cert->PV
 | .mk k m l ks=>.agg [enc k,enc m,enc l.k,enc l.t,.sl 5 false (X5 ks)]
def X5:List Cert->List PV
 | []=>[]
 | c::cs=>KH c::X5 cs
end
mutual
def Ho:PV->Cert
 | .agg [a,b,c,d,.sl _ _ ks]=>.mk (dec a) (dec b) ⟨dec c,dec d⟩ (Vf ks)
 | _=>.mk 0 [] ⟨0,[]⟩ []
def Vf:List PV->List Cert
 | []=>[]
 | p::ps=>Ho p::Vf ps
end
mutual
def U4:PV->Bool
 | .agg [a,b,c,d,.sl s _ ks]=>is Int a&&is (List Int) b&&is Int c&&is (List Coef) d&&(ks.isEmpty||s==5)&&Qf ks
 | _=>false
def Qf:List PV->Bool
 | []=>true
 | p::ps=>U4 p&&Qf ps
end
theorem F9(cs:List Cert):X5 cs=cs.map KH:=by
 induction cs with
 | nil=>simp[X5]
 | cons c cs ih=>simp[X5,ih]
theorem EJ(cs:List PV):Vf cs=cs.map Ho:=by
 induction cs with
 | nil=>simp[Vf]
 | cons c cs ih=>simp[Vf,ih]
theorem Eb(cs:List PV):Qf cs=cs.all U4:=by
 induction cs with
 | nil=>simp[Qf]
 | cons c cs ih=>simp[Qf,ih]
mutual
theorem a1k: ∀ c:Cert,U4 (KH c)=true
 | .mk k m l ks=>by
  have h:=Me ks
  simp only[KH,U4,Enc.is_enc,Bool.true_and,Bool.and_eq_true,h,and_true]
  simp
theorem Me: ∀ cs:List Cert,Qf (X5 cs)=true
 | []=>by simp[X5,Qf]
 | c::cs=>by simp[X5,Qf,a1k c,Me cs]
end
mutual
theorem a0t: ∀ c:Cert,Ho (KH c)=c
 | .mk k m l ks=>by
  have h:=Lm ks
  simp only[KH,Ho,Enc.dec_enc,h]
theorem Lm: ∀ cs:List Cert,Vf (X5 cs)=cs
 | []=>by simp[X5,Vf]
 | c::cs=>by simp[X5,Vf,a0t c,Lm cs]
end
mutual
theorem Fj: ∀ p:PV,U4 p=true->Qd p (KH (Ho p))
 | .agg [a,b,c,d,.sl s t ks],h=>by
  simp only[U4,Bool.and_eq_true]at h
  obtain⟨⟨⟨⟨⟨h1,h2⟩,h3⟩,h4⟩,h5⟩,h6⟩:=h
  have hk:=TK ks h6
  simp only[Ho,KH]
  refine .agg (.cons (Enc.sub a h1).2 (.cons (Enc.sub b h2).2 (.cons (Enc.sub c h3).2 (.cons (Enc.sub d h4).2 (.cons ?_ .nil)))))
  simp only[Bool.or_eq_true,List.isEmpty_iff,beq_iff_eq]at h5
  rcases h5 with rfl|rfl
  ·simp only[Vf,X5]
   exact(Qd.sl0 _ _ _).2
  ·exact(Qd.sl hk.1 hk.2).2
 | .bool _,h | .int _ _,h | .str _,h | .sl _ _ _,h | .tup _,h | .nilp,h | .nilmap,h | .nilfn,h | .nili,h | .ifc,h | .fn _,h | .rptr _,h=>by simp[U4]at h
 | .agg [],h | .agg [_],h | .agg [_,_],h | .agg [_,_,_],h | .agg [_,_,_,_],h=>by simp[U4]at h
 | .agg (a::b::c::d::e::f::g),h=>by
  have h':U4 (.agg (a::b::c::d::e::f::g))=false:=by cases e <;> kernel_rfl
  rw[h']at h;cases h
 | .agg [_,_,_,_,.bool _],h | .agg [_,_,_,_,.int _ _],h | .agg [_,_,_,_,.str _],h | .agg [_,_,_,_,.agg _],h | .agg [_,_,_,_,.tup _],h | .agg [_,_,_,_,.nilp],h | .agg [_,_,_,_,.nilmap],h | .agg [_,_,_,_,.nilfn],h | .agg [_,_,_,_,.nili],h | .agg [_,_,_,_,.ifc],h | .agg [_,_,_,_,.fn _],h | .agg [_,_,_,_,.rptr _],h=>by simp[U4]at h
theorem TK: ∀ ps:List PV,Qf ps=true->ps.length=(X5 (Vf ps)).length∧ ∀ (j:Nat) x y,ps[j]? = some x->(X5 (Vf ps))[j]? = some y->Qd x y
 | [],_=>⟨by simp[Vf,X5],fun j x y h=>by simp at h⟩
 | p::ps,h=>by
  simp only[Qf,Bool.and_eq_true]at h
  have h1:=Fj p h.1
  have h2:=TK ps h.2
  refine⟨by simp[Vf,X5,<- h2.1],fun j x y hx hy=> ?_⟩
  simp only[Vf,X5]at hy
  cases j with
  | zero=>simp at hx hy;subst hx hy;exact h1
  | succ j=>exact h2.2 j x y (by simpa using hx) (by simpa using hy)
end
instance:Enc Cert where
 sz:=5
 enc:=KH
 dec:=Ho
 is:=U4
 is_enc:=a1k
 dec_enc:=a0t
 sub:=Fj
abbrev Cert.kind:Cert->Int | .mk k _ _ _=>k
abbrev Cert.mults:Cert->List Int | .mk _ m _ _=>m
abbrev Cert.lin:Cert->Lin | .mk _ _ l _=>l
abbrev Cert.kids:Cert->List Cert | .mk _ _ _ k=>k
theorem V5(k:Int)(m:List Int)(l:Lin)(ks:List Cert):(enc (Cert.mk k m l ks):PV) = .agg [enc k,enc m,enc l.k,enc l.t,enc ks]:=by
 show KH _=_
 rw[KH,F9]
 rfl
@[simp] theorem c9x (a b c d e : PV) : is Cert (.agg [a, b, c, d, e]) = (is Int a && is (List Int) b && is Int c && is (List Coef) d && is (List Cert) e) := by
 show U4 _=_
 cases e <;> simp only[U4] <;> try (simp[is];done)
 rename_i s t ks
 rw[Eb]
 show _=(_&&((ks.isEmpty||s==5)&&ks.all U4))
 rw[Bool.and_assoc]
@[simp] theorem c8x (a b c d e : PV) (h : is (List Cert) e = true) : (dec (.agg [a, b, c, d, e]) : Cert) = .mk (dec a) (dec b) ⟨dec c, dec d⟩ (dec e) := by
 show Ho _=_
 cases e <;> try (cases h;done)
 rw[Ho,EJ]
 rfl
end Go.Pl

namespace Go.Pl
open Enc (enc dec is)
structure Er where
 b:Bool
 deriving DecidableEq
instance:Enc Er where
 sz:=1
 enc x:=if x.b then .ifc else .nili
 dec | .ifc=>⟨true⟩|_=>⟨false⟩
 is | .ifc=>true | .nili=>true|_=>false
 is_enc v:=by obtain⟨b⟩:=v;cases b <;> rfl
 dec_enc v:=by obtain⟨b⟩:=v;cases b <;> rfl
 sub p h:=by cases p <;> first|exact .refl _|cases h
def Yy(s:Str):Int×Er:=match Lib.atoiAll s.s with
 | .ok v=>(v,⟨false⟩)
 | .range=>(Lib.atoiSat s.s,⟨true⟩)
 | _=>(0,⟨true⟩)
def Mh(n:Int):Str:=⟨Lib.itoa n⟩
def QR(l:Lin)(n:Int):Bool:=l.t.all (fun t=>decide (t.v.s.length<=40))&&decide ((l.t.length:Int)<=n)
abbrev V8(n:Int):Int:=IntKind.i64.wrap n
def Vd(s:Str)(c:Int):Bool->List Coef->List Coef
 | put,[]=>if put then []else [⟨s,c⟩]
 | put,t::r=>(if !put&&decide (s.s<t.v.s)then [⟨s,c⟩]else [])++(if t.v=s then⟨t.v,V8 (t.c+c)⟩::Vd s c true r else t::Vd s c (put||decide (s.s<t.v.s)) r)
def Kt(l:Lin)(s:Str)(c:Int):Lin:=⟨l.k,(Vd s c false l.t).filter fun t=>decide (t.c≠0)⟩
def Y6(v:List Coef)(s:Str):Option Int:=(v.find? fun t=>decide (t.v=s)).map (·.c)
def Jl(v:List Coef):Int->List Coef->Int×Int
 | n,[]=>(n,0)
 | n,t::r=>match Y6 v t.v with
  | none=>(0,7)
  | some x=>if x < -1000000000 then(0,2)else if x>1000000000 then(0,2)else Jl v (V8 (n+V8 (t.c*x))) r
def YP(l:Lin)(v:List Coef):Int×Int:=if Zz l then Jl v l.k l.t else(0,1)
def VT(n:Int):Bool:=decide (-4611686018427387904<=n)&&decide (n<=4611686018427387904)
mutual
def CX:Cert->Int
 | .mk _ _ _ ks=>Df 1 ks
def Df(n:Int):List Cert->Int
 | []=>n
 | c::cs=>Df (V8 (n+CX c)) cs
end
def Xq(l:Lin):Bool:=decide (l.t.length<=9223372036854775807)
def Z6(l:Lin):Bool:=Xq l&&l.t.all fun t=>decide (t.v.s.length<=1000000)
mutual
def cOk:Cert->Bool
 | .mk _ m l ks=>decide (m.length<=9223372036854775807)&&Xq l&&decide (ks.length<=9223372036854775807)&&a4n ks
def a4n:List Cert->Bool
 | []=>true
 | c::cs=>cOk c&&a4n cs
end
mutual
def c3v:Cert->Nat
 | .mk _ _ _ ks=>Mx ks+1
def Mx:List Cert->Nat
 | []=>0
 | c::cs=>max (c3v c) (Mx cs)
end
end Go.Pl

namespace Go.Pl
open Go.RowKit
open Enc (enc dec is)
open EncL (encL decL isL)
theorem ZF{α:Type}[Enc α]{l:List α}{i:Nat}(h:i<l.length){P:α->Prop}(k:P l[i]):
  ∃ y:α,AV.pv (PV.rptr (PV.cells (List.getD (List.map enc l) (Int.toNat (i:Int)) default)))=AV.pv (PV.rptr (PV.cells (enc y)))∧P y:=⟨l[i],by rw[Hu enc h],k⟩
theorem Zq{α:Type}[Enc α]{l:List α}{i n:Nat}(h:i<l.length)(hn:Enc.sz α=n):(decide (0<=(i:Int))&&decide (Int.toNat (i:Int)<List.length (List.map (enc:α->PV) l))&&Enc.sz α==n)=true:=by simp[hn,h]
theorem WW{α:Type}[Enc α]{l:List α}{i:Nat}(h:i<l.length):decide ((i:Int)<(List.length (List.map (enc:α->PV) l):Int))=true:=by simp;omega
theorem Ud{α:Type}[Enc α]{l:List α}{i:Nat}(h : ¬ i<l.length): ¬ decide ((i:Int)<(List.length (List.map (enc:α->PV) l):Int))=true:=by simp;omega
theorem Z9{n i:Nat}(h:i<n):decide ((i:Int)<(n:Int))=true:=by simp;omega
theorem Ye{n i:Nat}(h : ¬ i<n): ¬ decide ((i:Int)<(n:Int))=true:=by simp;omega
theorem c2n{P Q:Prop}:(if (!false)=true then P else Q)=P:=rfl
theorem c8p{P Q:Prop}:(if (!true)=true then P else Q)=Q:=rfl
theorem ZU{c:Prop}[Decidable c]{P Q:Prop}(h:c)(k:P):if c then P else Q:=by rw[if_pos h];exact k
theorem ZN{c:Prop}[Decidable c]{P Q:Prop}(h : ¬ c)(k:Q):if c then P else Q:=by rw[if_neg h];exact k
theorem Jk{c:Prop}[Decidable c]{P Q:Prop}(h1:c->P)(h2 : ¬ c->Q):if c then P else Q:=by split;exact h1 ‹_›;exact h2 ‹_›
theorem XX{b:Bool}{P Q:Prop}(h1:b=false->P)(h2:b=true->Q):if (!b)=true then P else Q:=by cases b;exact h1 rfl;exact h2 rfl
theorem Wx{b:Bool}{P Q:Prop}(h1:b=true->P)(h2:b=false->Q):if b=true then P else Q:=by cases b;exact h2 rfl;exact h1 rfl
theorem Xy{c:Prop}[Decidable c]{P Q:Prop}(h1:c->P)(h2 : ¬ c->Q):if decide c=true then P else Q:=by by_cases h:c;rw[if_pos (by simpa using h)];exact h1 h;rw[if_neg (by simpa using h)];exact h2 h
theorem KE{α:Type}[BEq α][LawfulBEq α]{x y:α}{P Q:Prop}(h1:x=y->P)(h2:x≠y->Q):if (x==y)=true then P else Q:=by by_cases h:x=y;rw[if_pos (by simpa using h)];exact h1 h;rw[if_neg (by simpa using h)];exact h2 h
theorem ZP{β:Type}[Enc β]{x y:β}(h:x=y):Zj y (enc x):=⟨Enc.is_enc x,by rw[Enc.dec_enc,h]⟩
theorem ZM{x y:Bool}(h:x=y):Zj y (.bool x):=⟨rfl,h⟩
theorem Uv{x y:Int}(h:x=y):Zj y (.int .i64 x):=⟨rfl,h⟩
section
variable (x:Coef) (f:Fact)
theorem co1:PV.asStr (List.getD (PV.cells (enc x)) 0 default)=x.v.s:=rfl
theorem co2:PV.asInt (List.getD (PV.cells (enc x)) (0+1) default)=x.c:=rfl
theorem co3:PV.asStr (List.getD (List.drop 0 (PV.cells (enc x))) 0 default)=x.v.s:=rfl
theorem co4:PV.asInt (List.getD (List.drop 1 (PV.cells (enc x))) 0 default)=x.c:=rfl
end
theorem c3a{c:UInt8}(n:Nat)(h:c≠UInt8.ofNat n)(hn:n<256): ¬ ((c.toNat:Int)==(n:Int))=true:=by
 intro e
 have e:(c.toNat:Int)=n:=by simpa using e
 have e:c.toNat=n:=by omega
 exact h (UInt8.toNat_inj.1 (by rw[e,UInt8.toNat_ofNat'];omega))
theorem Yq: ∀ a b:List UInt8,Op.bytesLess a b=decide (a<b)
 | [],[]=>by simp[Op.bytesLess]
 | _::_,[]=>by simp[Op.bytesLess]
 | [],_::_=>by simp[Op.bytesLess]
 | x::a,y::b=>by
  rw[Op.bytesLess,Yq a b]
  simp only[List.cons_lt_cons_iff]
  by_cases h1:x<y
  ·simp[h1]
  ·by_cases h2:x=y
   ·subst h2;simp
   ·simp[h1,h2]
theorem Zr.fuel{P:Program}{f:Nat}{α β:Type}[EncL α][Enc β]{pre:α->Bool}{F:α->β}(μ:α->Nat)(h : ∀ N,Zr P f (fun a=>pre a&&decide (μ a<N)) F):Zr P f pre F:=fun ps hps=>by
 refine h (μ (decL ps)+1) ps ?_
 simp only[preT,Bool.and_eq_true,decide_eq_true_eq]at hps ⊢
 exact⟨hps.1,hps.2,by omega⟩
theorem Zr.void{P:Program}{f:Nat}{α β:Type}[EncL α][Enc β]{pre:α->Bool}{F:α->β}(h : ∀ a,pre a=false):Zr P f pre F:=fun ps hps=>by simp[preT,h]at hps
theorem Zr.rec{P:Program}{f:Nat}{α β:Type}[EncL α][Enc β]{pre:α->Bool}{F:α->β}(μ:α->Nat)(h : ∀ N,Zr P f (fun a=>pre a&&decide (μ a<N)) F->Zr P f (fun a=>pre a&&decide (μ a<N+1)) F):Zr P f pre F:=by
 refine Zr.fuel μ fun N=> ?_
 induction N with
 | zero=>exact Zr.void fun a=>by simp
 | succ N ih=>exact h N ih
theorem Zr.or{P:Program}{f:Nat}{α β:Type}[EncL α][Enc β]{pre:α->Bool}{F:α->β}(c:α->Bool)(h1:Zr P f (fun a=>pre a&&c a) F)(h2:Zr P f (fun a=>pre a&& !c a) F):Zr P f pre F:=fun ps hps=>by
 have hps':=hps
 simp only[preT,Bool.and_eq_true]at hps'
 cases hc:c (decL ps)
 ·exact h2 ps (by simp only[preT,hps'.1,hps'.2,hc];rfl)
 ·exact h1 ps (by simp only[preT,hps'.1,hps'.2,hc];rfl)
mutual
def SC:PV->PV->Bool
 | .bool a,.bool b=>a==b
 | .int k a,.int l b=>JH k l&&a==b
 | .str a,.str b=>a==b
 | .sl s t xs,.sl s' t' ys=>s==s'&&t==t'&&D6 xs ys
 | .agg xs,.agg ys=>D6 xs ys
 | .tup xs,.tup ys=>D6 xs ys
 | .nilp,.nilp=>true
 | .nilmap,.nilmap=>true
 | .nilfn,.nilfn=>true
 | .nili,.nili=>true
 | .ifc,.ifc=>true
 | .fn a,.fn b=>a==b
 | .rptr xs,.rptr ys=>D6 xs ys
 | _,_=>false
def D6:List PV->List PV->Bool
 | [],[]=>true
 | x::xs,y::ys=>SC x y&&D6 xs ys
 | _,_=>false
end
theorem Fp(k:IntKind):JH k k=true:=by cases k <;> rfl
mutual
theorem b3g: ∀ (p q:PV),SC p q=true->p=q
 | .bool a,q,h=>by cases q <;> simp[SC]at h;rw[h]
 | .int k a,q,h=>by cases q <;> simp[SC]at h;rw[Jh h.1,h.2]
 | .str a,q,h=>by cases q <;> simp[SC]at h;rw[h]
 | .sl s t xs,q,h=>by cases q <;> simp[SC]at h;rw[h.1.1,h.1.2,He xs _ h.2]
 | .agg xs,q,h=>by cases q <;> simp[SC]at h;rw[He xs _ h]
 | .tup xs,q,h=>by cases q <;> simp[SC]at h;rw[He xs _ h]
 | .nilp,q,h=>by cases q <;> simp[SC]at h;rfl
 | .nilmap,q,h=>by cases q <;> simp[SC]at h;rfl
 | .nilfn,q,h=>by cases q <;> simp[SC]at h;rfl
 | .nili,q,h=>by cases q <;> simp[SC]at h;rfl
 | .ifc,q,h=>by cases q <;> simp[SC]at h;rfl
 | .fn a,q,h=>by cases q <;> simp[SC]at h;rw[h]
 | .rptr xs,q,h=>by cases q <;> simp[SC]at h;rw[He xs _ h]
theorem He: ∀ (xs ys:List PV),D6 xs ys=true->xs=ys
 | [],ys,h=>by cases ys <;> simp[D6]at h;rfl
 | x::xs,ys,h=>by
  cases ys with
  | nil=>simp[D6]at h
  | cons y ys=>simp[D6]at h;rw[b3g x y h.1,He xs ys h.2]
end
mutual
theorem LB: ∀ (p:PV),SC p p=true
 | .bool a | .str a | .fn a=>by simp[SC]
 | .int k a=>by simp[SC,Fp]
 | .sl s t xs=>by simp[SC,Da xs]
 | .agg xs | .tup xs | .rptr xs=>by simp[SC,Da xs]
 | .nilp | .nilmap | .nilfn | .nili | .ifc=>by simp[SC]
theorem Da: ∀ (xs:List PV),D6 xs xs=true
 | []=>by simp[D6]
 | x::xs=>by simp[D6,LB x,Da xs]
end
def Vz(α:Type)[Enc α](p:PV):Bool:=SC p (enc (dec p:α))
@[simp] theorem Ya {α : Type} [Enc α] (a : α) : Vz α (enc a) = true := by unfold Vz; rw [Enc.dec_enc]; exact LB _
theorem YC{α:Type}[Enc α]{p:PV}(h:Vz α p=true): ∃ a:α,p=enc a:=⟨_,b3g _ _ h⟩
end Go.Pl

namespace Go.Pl
open Enc (enc dec is)
@[irreducible] def JY (a : Nat) (r : List UInt8) : Nat := r.foldl (fun a c => a * 10 + (c.toNat - 48)) a
theorem Gj(a:Nat):JY a []=a:=by unfold JY;rfl
theorem QE(a:Nat)(c:UInt8)(r:List UInt8):JY a (c::r)=JY (a*10+(c.toNat - 48)) r:=by unfold JY;rfl
theorem Vg{c:UInt8}:digB c=true ↔ 48<=c.toNat∧c.toNat<=57:=by
 simp only[digB,Bool.and_eq_true,decide_eq_true_eq,UInt8.le_iff_toNat_le]
 have e1:(48:UInt8).toNat=48:=rfl
 have e2:(57:UInt8).toNat=57:=rfl
 rw[e1,e2]
theorem a0c: ∀ (r:List UInt8) (a:Nat),r.all digB=true->JY a r<(a+1)*10 ^ r.length
 | [],a,_=>by simp[Gj]
 | c::r,a,h=>by
  simp only[List.all_cons,Bool.and_eq_true,Vg]at h
  have:=a0c r (a*10+(c.toNat - 48)) h.2
  rw[QE,List.length_cons,Nat.pow_succ]
  refine Nat.lt_of_lt_of_le this ?_
  rw[Nat.mul_comm (10 ^ r.length) 10,<- Nat.mul_assoc]
  exact Nat.mul_le_mul_right _ (by omega)
theorem Nv: ∀ (r:List UInt8) (a:Nat),a<=JY a r
 | [],a=>by rw[Gj];exact Nat.le_refl _
 | c::r,a=>by
  have:=Nv r (a*10+(c.toNat - 48))
  rw[QE]
  omega
theorem RU: ∀ (r:List UInt8) (a:Nat),r.all digB=true->JY a r<1000000000000000000->Lib.parseUint10 a r = .ok (JY a r)
 | [],a,_,_=>by rw[Gj,Lib.parseUint10]
 | c::r,a,h,hv=>by
  simp only[List.all_cons,Bool.and_eq_true,Vg]at h
  rw[QE]at hv ⊢
  have hge:=Nv r (a*10+(c.toNat - 48))
  rw[Lib.parseUint10,if_pos h.1,if_neg (by omega),if_neg (by omega)]
  exact RU r _ h.2 hv
theorem b4b{a d:Nat}(ha:1<=a)(hd:d<=9):Lib.decDigits (a*10+d)=Lib.decDigits a++[UInt8.ofNat (48+d)]:=by
 rw[Lib.decDigits,dif_neg (by omega),show(a*10+d) / 10=a by omega,show(a*10+d) % 10=d by omega]
theorem a2k: ∀ (r:List UInt8) (a:Nat),1<=a->r.all digB=true->Lib.decDigits (JY a r)=Lib.decDigits a++r
 | [],a,_,_=>by simp[Gj]
 | c::r,a,ha,h=>by
  simp only[List.all_cons,Bool.and_eq_true,Vg]at h
  rw[QE,a2k r _ (by omega) h.2,b4b ha (by omega)]
  have:UInt8.ofNat (48+(c.toNat - 48))=c:=by
   rw[show 48+(c.toNat - 48)=c.toNat by omega]
   exact UInt8.ofNat_toNat
  rw[this]
  simp
theorem a7z{n:Nat}(h:n<256):(UInt8.ofNat n).toNat=n:=by rw[UInt8.toNat_ofNat'];omega
theorem O8: ∀ (u:Nat),1<=u->(Lib.decDigits u).all digB=true∧(Lib.decDigits u).head? ≠ some 48∧Lib.decDigits u≠[]:=by
 intro u
 induction u using Nat.strongRecOn with
 | _ u ih=>
  intro h1
  rw[Lib.decDigits]
  by_cases h:u<10
  ·rw[dif_pos h]
   refine⟨?_,?_,by simp⟩
   ·simp only[List.all_cons,List.all_nil,Bool.and_true]
    rw[Vg,a7z (by omega)]
    omega
   ·simp only[List.head?_cons,ne_eq,Option.some.injEq]
    intro e
    have:=congrArg UInt8.toNat e
    rw[a7z (by omega)]at this
    have e48:(48:UInt8).toNat=48:=rfl
    rw[e48]at this
    omega
  ·rw[dif_neg h]
   obtain⟨i1,i2,i3⟩:=ih (u / 10) (by omega) (by omega)
   refine⟨?_,?_,by simp⟩
   ·rw[List.all_append,i1]
    simp only[List.all_cons,List.all_nil,Bool.and_true,Bool.true_and]
    rw[Vg,a7z (by omega)]
    omega
   ·cases hd:Lib.decDigits (u / 10)with
    | nil=>exact absurd hd i3
    | cons c r=>rw[hd]at i2;simpa using i2
def Li(r:List UInt8):Bool:=r.all digB&& !r.isEmpty&&decide (r.head? ≠ some 48)
theorem c5a(b:Bool):UF (enc (⟨b⟩:Er)) = !b:=by cases b <;> rfl
theorem c2w(e:Er):A9 (enc e)=true:=by obtain⟨b⟩:=e;cases b <;> rfl
theorem a0w(r:List UInt8)(hr:r.length<=9):(UF (enc (Yy ⟨r⟩).2)&&decide ((Yy ⟨r⟩).1>0)&&(Lib.itoa (Yy ⟨r⟩).1==r))=Li r:=by
 by_cases hn:Li r=true
 ·rw[hn]
  simp only[Li,Bool.and_eq_true,Bool.not_eq_true',decide_eq_true_eq]at hn
  obtain⟨⟨h1,h2⟩,h3⟩:=hn
  cases r with
  | nil=>simp at h2
  | cons c r=>
   have h1':=h1
   simp only[List.all_cons,Bool.and_eq_true,Vg]at h1
   have hc:c≠48:=by simpa using h3
   have hc':c.toNat≠48:=fun e=>hc (UInt8.toNat_inj.1 (by rw[e];rfl))
   have hv:=a0c (c::r) 0 h1'
   have hp:10 ^ (c::r).length<=10 ^ 9:=Nat.pow_le_pow_right (by omega) hr
   have hpm:=RU (c::r) 0 h1' (by omega)
   have hat:Lib.atoiAll (c::r) = .ok (JY 0 (c::r):Int):=by
    have e1 : ¬ (c.toNat=43∨c.toNat=45):=by omega
    have e2 : ¬ c.toNat=45:=by omega
    simp only[Lib.atoiAll,if_neg e1,Lib.parseMag,if_neg (show ¬ (c::r=[]) by simp),hpm]
    rw[if_neg (by omega),if_neg (fun e=>e2 e.1),if_neg e2]
   have ha:Yy ⟨c::r⟩=((JY 0 (c::r):Int),⟨false⟩):=by simp only[Yy,hat]
   have hvd:JY 0 (c::r)=JY (c.toNat - 48) r:=by rw[QE];congr 1;omega
   have hpos:=Nv r (c.toNat - 48)
   rw[ha]
   have h4:Lib.itoa (JY 0 (c::r):Int)=c::r:=by
    rw[Lib.itoa,if_neg (by omega),Int.toNat_natCast,hvd,a2k r _ (by omega) h1.2,Lib.decDigits,dif_pos (by omega)]
    have:UInt8.ofNat (48+(c.toNat - 48))=c:=by
     rw[show 48+(c.toNat - 48)=c.toNat by omega]
     exact UInt8.ofNat_toNat
    rw[this];rfl
   simp only[c5a,h4,beq_self_eq_true,Bool.and_true,Bool.not_false,Bool.true_and]
   exact decide_eq_true (by omega)
 ·have hn:Li r=false:=by simpa using hn
  rw[hn]
  by_cases h1:decide ((Yy ⟨r⟩).1>0)=true
  ·by_cases h2:(Lib.itoa (Yy ⟨r⟩).1==r)=true
   ·exfalso
    have h1:(Yy ⟨r⟩).1>0:=by simpa using h1
    have h2:Lib.itoa (Yy ⟨r⟩).1=r:=by simpa using h2
    rw[Lib.itoa,if_neg (by omega)]at h2
    obtain⟨d1,d2,d3⟩:=O8 (Yy ⟨r⟩).1.toNat (by omega)
    rw[h2]at d1 d2 d3
    have:Li r=true:=by simp only[Li,d1,decide_eq_true d2,Bool.true_and,Bool.and_true];cases r <;> simp at d3 ⊢
    rw[this]at hn;cases hn
   ·simp[h2]
  ·simp[h1]
theorem Lb(r:List UInt8):ZB ⟨95::r⟩=(Li r&&decide (r.length<=9)):=by simp[ZB,Li]
end Go.Pl

namespace Go.Pl
open Go.RowKit
open Enc (enc dec is)
open EncL (encL decL isL)
def a6s(s:Str)(c:Int):List (Str×Int)->List (Str×Int)
 | []=>[(s,c)]
 | p::m=>if s.s=p.1.s then(s,c)::m else p::a6s s c m
def c7b(k:Int):List Coef->List (Str×Int)->List (Str×Int)
 | [],m=>m
 | t::l,m=>c7b k l (a6s t.v (IntKind.i64.wrap (atM m t.v.s+IntKind.i64.wrap (k*t.c))) m)
def Zo(l:List Fact):Bool:=decide (l.length<=9223372036854775807)&&l.all fun f=>Z6 f.l
def XQ(l:List Fact):Bool:=l.all fun f=>Zz f.l
def Vu:AV×List AObj×List AObj:=(.tup [.pv (.int .i64 0),.pv .nilmap,.pv (.bool false)],[],[])
structure FnV (n:Nat) where
 u:Unit:=()
instance (n:Nat):Enc (FnV n) where
  sz:=1
  enc _:=.fn n
  dec _:={}
  is | .fn m=>m==n|_=>false
  is_enc _:=by simp
  dec_enc _:=rfl
  sub p h:=by
    cases p with
    | fn m => have : m = n := by simpa using h
              subst this;exact .refl _
    | _=>cases h
def ZE{α:Type}(p:α->Bool)(l:List α):Int:=match l.findIdx? p with|some i=>i|none=> -1
theorem XN{α:Type}(p:α->Bool)(l:List α):decide (ZE p l ≥ 0)=l.any p:=by
 unfold ZE
 cases h:l.findIdx? p with
 | none=>
  rw[List.findIdx?_eq_none_iff]at h
  have:l.any p=false:=by rw[List.any_eq_false];intro x hx;simp[h x hx]
  rw[this];rfl
 | some i=>
  have:l.any p=true:=by
   rw[List.findIdx?_eq_some_iff_getElem]at h
   obtain⟨hi,hp,_⟩:=h
   rw[List.any_eq_true]
   exact⟨_,List.getElem_mem hi,hp⟩
  rw[this]
  exact decide_eq_true (by show(i:Int) ≥ 0;omega)
theorem U3{α:Type}(p:α->Bool)(l:List α)(i:Nat)(hlt:i<l.length)(hno : ∀ j (h:j<l.length),j<i->p l[j]=false)(hp:p l[i]=true):ZE p l=i:=by
 unfold ZE
 have:l.findIdx? p=some i:=by
  rw[List.findIdx?_eq_some_iff_getElem]
  exact⟨hlt,hp,fun j hj=>by simp[hno j (by omega) hj]⟩
 rw[this]
theorem U2{α:Type}(p:α->Bool)(l:List α)(hno : ∀ j (h:j<l.length),p l[j]=false):ZE p l = -1:=by
 unfold ZE
 have:l.findIdx? p=none:=by
  rw[List.findIdx?_eq_none_iff]
  intro x hx
  obtain⟨j,hj,rfl⟩:=List.getElem_of_mem hx
  exact hno j hj
 rw[this]
def YI(f:Fact)(v:List Coef):Bool:=decide ((YP f.l v).2=0)&& !decide ((YP f.l v).1<0)&&(!f.eq||decide ((YP f.l v).1=0))
def J3:List AV->List AObj->Bool
 | [.pv f,.ptr 0 0],[.box [.pv v]]=>Vz Fact f&&Vz (List Coef) v&&Z6 (dec f:Fact).l&&decide ((dec v:List Coef).length<=9223372036854775807)
 | _,_=>false
def Dh:List AV->List AObj->AV×List AObj×List AObj
 | [.pv f,_],[.box [.pv v]]=>(.pv (.bool (!YI (dec f) (dec v))),[.box [.pv v]],[])
 | _,_=>Vu
def WK(g:Nat):List AV->List AObj->Bool
 | [.pv l,.fn g' [] [.ptr 0 0]],[.box [.pv v]]=>g'==g&&Vz (List Fact) l&&Vz (List Coef) v&&Zo (dec l)&&decide ((dec v:List Coef).length<=9223372036854775807)
 | _,_=>false
def CJ:List AV->List AObj->AV×List AObj×List AObj
 | [.pv l,_],[.box [.pv v]]=>(.pv (.int .i64 (ZE (fun f=> !YI f (dec v)) (dec l))),[.box [.pv v]],[])
 | _,_=>Vu
def Cz:List AV->List AObj->AV×List AObj×List AObj
 | [.pv l,_],[.box [.pv v]]=>(.pv (.bool ((dec l:List Fact).any (fun f=> !YI f (dec v)))),[.box [.pv v]],[])
 | _,_=>Vu
def BK:List AV->List AObj->Bool
 | [.pv x,.ptr 0 0],[.box [.pv (.str v),.pv (.int .i64 c)]]=>Vz Coef x
 | _,_=>false
def NK:List AV->List AObj->AV×List AObj×List AObj
 | [.pv x,_],[.box [.pv (.str v),.pv (.int .i64 c)]]=>(.pv (.bool ((dec x:Coef).v.s==v)),[.box [.pv (.str v),.pv (.int .i64 c)]],[])
 | _,_=>Vu
def Q4(g:Nat):List AV->List AObj->Bool
 | [.pv l,.fn g' [] [.ptr 0 0]],[.box [.pv (.str v),.pv (.int .i64 c)]]=>g'==g&&Vz (List Coef) l&&decide ((dec l:List Coef).length<=9223372036854775807)
 | _,_=>false
def CL:List AV->List AObj->AV×List AObj×List AObj
 | [.pv l,_],[.box [.pv (.str v),.pv (.int .i64 c)]]=>(.pv (.int .i64 (ZE (fun t:Coef=>t.v.s==v) (dec l))),[.box [.pv (.str v),.pv (.int .i64 c)]],[])
 | _,_=>Vu
end Go.Pl

namespace Go.Pl
open Go.RowKit
open Enc (enc dec is)
open EncL (encL decL isL)
set_option maxRecDepth 100000
end Go.Pl

namespace Go.Pl
open Go.RowKit
open Enc (enc dec is)
open EncL (encL decL isL)
set_option maxRecDepth 100000
-- IMPOSSIBLE
end Go.Pl

namespace Go.Pl
open Go.RowKit
open Enc (enc dec is)
open EncL (encL decL isL)
end Go.Pl

namespace Go.Pl
open Go.RowKit
open Enc (enc dec is)
open EncL (encL decL isL)
end Go.Pl

namespace Go.Pl
open Go.RowKit
open Enc (enc dec is)
open EncL (encL decL isL)
set_option maxRecDepth 100000
end Go.Pl

namespace Go.Pl
open Go.RowKit
open Enc (enc dec is)
open EncL (encL decL isL)
end Go.Pl

namespace Go.Pl
open Go.RowKit
open Enc (enc dec is)
open EncL (encL decL isL)
set_option maxRecDepth 100000
end Go.Pl

namespace Go.Pl
open Go.RowKit
open Enc (enc dec is)
open EncL (encL decL isL)
end Go.Pl

namespace Go.Pl
open Go.RowKit
open Enc (enc dec is)
open EncL (encL decL isL)
mutual
def cSm:Cert->Bool
 | .mk _ m l ks=>decide (m.length<=9223372036854775807)&&Z6 l&&decide (ks.length<=9223372036854775807)&&a4v ks
def a4v:List Cert->Bool
 | []=>true
 | c::cs=>cSm c&&a4v cs
end
mutual
theorem c7h: ∀ {c:Cert},cSm c=true->cOk c=true
 | .mk k m l ks,h=>by
  simp only[cSm,cOk,Z6,Bool.and_eq_true]at h ⊢
  exact⟨⟨⟨h.1.1.1,h.1.1.2.1⟩,h.1.2⟩,a2p h.2⟩
theorem a2p: ∀ {cs:List Cert},a4v cs=true->a4n cs=true
 | [],_=>rfl
 | c::cs,h=>by
  simp only[a4v,a4n,Bool.and_eq_true]at h ⊢
  exact⟨c7h h.1,a2p h.2⟩
end
theorem RH{l:Lin}(h:Zz l=true):l.t.length<=12:=by
 simp only[Zz,Bool.and_eq_true,decide_eq_true_eq]at h
 exact h.2
end Go.Pl

namespace Go.Pl
open Go.RowKit
open Enc (enc dec is)
open EncL (encL decL isL)
theorem X8{n:Int}(h1 : -9223372036854775808<=n)(h2:n<=9223372036854775807):V8 n=n:=WN h1 h2
end Go.Pl

namespace Go.Pl
open Go.RowKit
open Enc (enc dec is)
open EncL (encL decL isL)
end Go.Pl

namespace Go.Pl
open Go.RowKit
open Enc (enc dec is)
open EncL (encL decL isL)
set_option maxRecDepth 100000
def EF:IC:=(.seq (.reg [⟨(some 1),(.box 3 (.t 0)),0,none⟩,⟨(some 2),(.mv (.c (.bool false))),1,none⟩] none) (.seq (.reg [⟨(some 3),(.faddr 1 (.t 1)),0,none⟩,⟨(some 4),(.load true [(.int .i64),(.sl 2)] (.t 3)),0,none⟩,⟨(some 5),(.call (.c (.fn 73)) [(.t 4)]),0,none⟩,⟨(some 6),(.un .not (.t 5)),2,none⟩,⟨(some 2),(.mv (.t 6)),2,none⟩] none) .ret))
def Og:List IRes:=[(.tmp 2)]
abbrev c4h:Nat:=7
def a9p:ZK:=Xp [(73,.pure (preT (fun x:Lin×Unit=>Z6 x.1)) (Zf (fun x:Lin×Unit=>Zz x.1)))]
theorem c8y{G:PV->Prop}(f:Fact)(h:(Go.Pl.preT (fun(x:Lin×Unit)=>Z6 x.1) [(.agg [(.int .i64 (Lin.k f.l)),(.sl 2 false (List.map enc (Lin.t f.l)))])])=true∧(∃ y0:Bool,AV.pv (Zf (fun(x:Lin×Unit)=>Zz x.1) [(.agg [(.int .i64 (Lin.k f.l)),(.sl 2 false (List.map enc (Lin.t f.l)))])])=AV.pv (enc y0)∧(G ((.bool !y0))))):Zc a9p 0 (Za Og G) EF [] (Yr 7 [enc f]):=Zc.tp (.req (.abs (Bool) (fun YY=>AV.pv (enc YY)) (.nil))) h (by kernel_rfl)
def Kv:IC:=(.seq (.reg [⟨(some 4),(.mv (.c (.int .i64 0))),0,none⟩] none) (.seq (.seq (.reg [⟨(some 6),(.mv (.t 0)),0,none⟩,⟨(some 7),(.len 1 (.t 6)),0,none⟩,⟨(some 8),(.mv (.c (.int .i64 0))),0,none⟩] none) (.block 0 (.loop [8,7,1,0] (.seq (.reg [⟨(some 9),(.bin .num .lss (.t 8) (.t 7)),0,none⟩] none) (.seq (.cond (.t 9) .skip (.exit 0)) (.seq (.block 1 (.seq (.reg [⟨(some 10),(.mv (.t 8)),0,none⟩,⟨(some 5),(.mv (.t 10)),0,none⟩] none) (.seq (.reg [⟨(some 11),(.mv (.t 1)),0,none⟩,⟨(some 12),(.mv (.t 0)),0,none⟩,⟨(some 13),(.mv (.t 5)),0,none⟩,⟨(some 14),(.iaddr 3 (.t 12) (.t 13)),0,none⟩,⟨(some 15),(.load true [.bool,(.int .i64),(.sl 2)] (.t 14)),0,none⟩,⟨(some 16),(.call (.t 11) [(.t 15)]),0,none⟩] none) (.cond (.t 16) (.seq (.reg [⟨(some 17),(.mv (.t 5)),0,none⟩,⟨(some 4),(.mv (.t 17)),0,none⟩] none) .ret) .skip)))) (.reg [⟨(some 18),(.bin .num .add (.t 8) (.c (.int .i64 1))),0,none⟩,⟨(some 8),(.mv (.t 18)),0,none⟩] none))))))) (.seq (.reg [⟨(some 4),(.mv (.c (.int .i64 (-1)))),0,none⟩] none) .ret)))
def J6:List IRes:=[(.tmp 4)]
abbrev c6o:Nat:=19
def AR:ZK:=Xp [(162,.pure (preT (fun x:Fact×Unit=>Z6 x.1.l)) (Zf (fun x:Fact×Unit=> !(Zz x.1.l))))]
theorem c8w{G:PV->Prop}(l:List Fact)(h:At AR 0 (Za J6 G) Kv 0 19 [(0,(.pv (.sl 3 false (List.map enc l)))),(1,(.pv (.fn 162))),(7,(.pv (.int .i64 (↑(List.length (List.map enc l)):Int)))),(8,(.pv (.int .i64 0)))] []):Zc AR 0 (Za J6 G) Kv [] (Yr 19 [enc l,.fn 162]):=Zc.tp (.nil) h (by kernel_rfl)
theorem a9w{G:PV->Prop}(l:List Fact)(i:Int)(h:if (decide (i<(↑(List.length l):Int)))=true then(decide (0<=i)&&decide (Int.toNat i<List.length (List.map enc l))&&Enc.sz Fact==3)=true∧(∃ y0:Fact,AV.pv (PV.rptr (PV.cells (List.getD (List.map enc l) (Int.toNat i) default)))=AV.pv (PV.rptr (PV.cells ((enc) y0)))∧((Go.Pl.preT (fun(x:Fact×Unit)=>Z6 x.1.l) [(.agg [(.bool (PV.asBool (List.getD (PV.cells (enc y0)) 0 default))),(.int .i64 (PV.asInt (List.getD (PV.cells (enc y0)) (0+1) default))),(.sl 2 false (PV.asXs (List.getD (PV.cells (enc y0)) (0+1+1) default)))])])=true∧(∃ y1:Bool,AV.pv (Zf (fun(x:Fact×Unit)=> !Zz x.1.l) [(.agg [(.bool (PV.asBool (List.getD (PV.cells (enc y0)) 0 default))),(.int .i64 (PV.asInt (List.getD (PV.cells (enc y0)) (0+1) default))),(.sl 2 false (PV.asXs (List.getD (PV.cells (enc y0)) (0+1+1) default)))])])=AV.pv (enc y1)∧(if (y1)=true then G ((.int .i64 i))else(At AR 0 (Za J6 G) Kv 0 19 [(0,(.pv (.sl 3 false (List.map enc l)))),(1,(.pv (.fn 162))),(7,(.pv (.int .i64 (↑(List.length l):Int)))),(8,(.pv (.int .i64 (IntKind.wrap IntKind.i64 (i+1)))))] [])))))else(G ((.int .i64 (-1))))):At AR 0 (Za J6 G) Kv 0 19 [(0,.pv (enc l)),(1,.pv (.fn 162)),(7,.pv (.int .i64 l.length)),(8,.pv (.int .i64 i))] []:=At.tp (.lit (.ask (.req (.abs (Fact) (fun YY=>AV.pv (PV.rptr (PV.cells ((enc) YY)))) (.lit (.req (.abs (Bool) (fun YY=>AV.pv (enc YY)) (.ask (.nil) (.lit (.nil)))))))) (.nil))) h (by kernel_rfl)
def PW:IC:=(.seq (.reg [⟨(some 4),(.mv (.c (.bool false))),0,none⟩] none) (.seq (.reg [⟨(some 5),(.mv (.t 0)),0,none⟩,⟨(some 6),(.mv (.t 1)),0,none⟩,⟨(some 7),(.call (.c (.fn 227)) [(.t 5),(.t 6)]),0,none⟩,⟨(some 8),(.bin .num .geq (.t 7) (.c (.int .i64 0))),2,none⟩,⟨(some 4),(.mv (.t 8)),2,none⟩] none) .ret))
def EL:List IRes:=[(.tmp 4)]
abbrev c4o:Nat:=9
def b0b:ZK:=Xp [(227,.pure (preT (fun x:List Fact×FnV 162×Unit=>Zo x.1)) (Zf (fun x:List Fact×FnV 162×Unit=>ZE (fun f:Fact=> !(Zz f.l)) x.1)))]
theorem c8d{G:PV->Prop}(l:List Fact)(h:(Go.Pl.preT (fun(x:List Fact×FnV 162×Unit)=>Zo x.1) [(.sl 3 false (List.map enc l)),(.fn 162)])=true∧(∃ y0:Int,AV.pv (Zf (fun(x:List Fact×FnV 162×Unit)=>ZE (fun(f:Fact)=> !Zz f.l) x.1) [(.sl 3 false (List.map enc l)),(.fn 162)])=AV.pv (enc y0)∧(G ((.bool (decide (y0 ≥ 0))))))):Zc b0b 0 (Za EL G) PW [] (Yr 9 [enc l,.fn 162]):=Zc.tp (.req (.abs (Int) (fun YY=>AV.pv (enc YY)) (.lit (.nil)))) h (by kernel_rfl)
def GG:IC:=(.seq (.reg [⟨(some 2),(.mv (.c (.bool false))),0,none⟩] none) (.seq (.reg [⟨(some 3),(.mv (.t 0)),0,none⟩,⟨(some 4),(.call (.c (.fn 161)) [(.t 3),(.c (.fn 162))]),0,none⟩,⟨(some 5),(.un .not (.t 4)),2,none⟩,⟨(some 2),(.mv (.t 5)),2,none⟩] none) .ret))
def G6:List IRes:=[(.tmp 2)]
abbrev a4a:Nat:=6
def AB:ZK:=Xp [(161,.pure (preT (fun x:List Fact×FnV 162×Unit=>Zo x.1)) (Zf (fun x:List Fact×FnV 162×Unit=>x.1.any fun f:Fact=> !(Zz f.l))))]
theorem b2i{G:PV->Prop}(l:List Fact)(h:(Go.Pl.preT (fun(x:List Fact×FnV 162×Unit)=>Zo x.1) [(.sl 3 false (List.map enc l)),(.fn 162)])=true∧(∃ y0:Bool,AV.pv (Zf (fun(x:List Fact×FnV 162×Unit)=>List.any x.1 fun(f:Fact)=> !Zz f.l) [(.sl 3 false (List.map enc l)),(.fn 162)])=AV.pv (enc y0)∧(G ((.bool !y0))))):Zc AB 0 (Za G6 G) GG [] (Yr 6 [enc l]):=Zc.tp (.req (.abs (Bool) (fun YY=>AV.pv (enc YY)) (.nil))) h (by kernel_rfl)
def Ob:IC:=(.seq (.reg [⟨(some 2),(.box 2 (.t 0)),0,none⟩,⟨(some 3),(.mv (.c (.bool false))),1,none⟩] none) (.seq (.reg [⟨(some 4),(.faddr 0 (.t 2)),0,none⟩,⟨(some 5),(.load false [.str] (.t 4)),0,none⟩,⟨(some 6),(.faddr 0 (.t 1)),0,none⟩,⟨(some 7),(.load false [.str] (.t 6)),0,none⟩,⟨(some 8),(.bin .num .eql (.t 5) (.t 7)),0,none⟩,⟨(some 3),(.mv (.t 8)),0,none⟩] none) .ret))
def FN:List IRes:=[(.tmp 3)]
abbrev c4n:Nat:=9
def b0c:ZK:=Xp []
theorem c8t{G:AV×List AObj×List AObj->Prop}(x:Coef)(v:List UInt8)(c:Int)(h:G (((.pv (.bool (Str.s x.v==v))),([(.box [(.pv (.str v)),(.pv (.int .i64 c))])],[])))):Zc b0c 1 (Zl 1 FN G) Ob [] (YR 9 [.pv (enc x),.ptr 0 0] [.box [.pv (.str v),.pv (.int .i64 c)]]):=Zc.to (.lit (.nil)) h (by kernel_rfl)
def Kw:IC:=(.seq (.reg [⟨(some 4),(.mv (.c (.int .i64 0))),0,none⟩] none) (.seq (.seq (.reg [⟨(some 6),(.mv (.t 0)),0,none⟩,⟨(some 7),(.len 1 (.t 6)),0,none⟩,⟨(some 8),(.mv (.c (.int .i64 0))),0,none⟩] none) (.block 0 (.loop [8,7,1,0] (.seq (.reg [⟨(some 9),(.bin .num .lss (.t 8) (.t 7)),0,none⟩] none) (.seq (.cond (.t 9) .skip (.exit 0)) (.seq (.block 1 (.seq (.reg [⟨(some 10),(.mv (.t 8)),0,none⟩,⟨(some 5),(.mv (.t 10)),0,none⟩] none) (.seq (.reg [⟨(some 11),(.mv (.t 1)),0,none⟩,⟨(some 12),(.mv (.t 0)),0,none⟩,⟨(some 13),(.mv (.t 5)),0,none⟩,⟨(some 14),(.iaddr 2 (.t 12) (.t 13)),0,none⟩,⟨(some 15),(.load true [.str,(.int .i64)] (.t 14)),0,none⟩,⟨(some 16),(.call (.t 11) [(.t 15)]),0,none⟩] none) (.cond (.t 16) (.seq (.reg [⟨(some 17),(.mv (.t 5)),0,none⟩,⟨(some 4),(.mv (.t 17)),0,none⟩] none) .ret) .skip)))) (.reg [⟨(some 18),(.bin .num .add (.t 8) (.c (.int .i64 1))),0,none⟩,⟨(some 8),(.mv (.t 18)),0,none⟩] none))))))) (.seq (.reg [⟨(some 4),(.mv (.c (.int .i64 (-1)))),0,none⟩] none) .ret)))
def JN:List IRes:=[(.tmp 4)]
abbrev c3k:Nat:=19
def Bv:ZK:=Xp [(110,.own BK NK)]
theorem c7x{G:AV×List AObj×List AObj->Prop}(l:List Coef)(v:List UInt8)(c:Int)(h:At Bv 1 (Zl 1 JN G) Kw 0 19 [(0,(.pv (.sl 2 false (List.map enc l)))),(1,(.fn 110 [] [(.ptr 0 0)])),(7,(.pv (.int .i64 (↑(List.length (List.map enc l)):Int)))),(8,(.pv (.int .i64 0)))] [(.obj (.box [(.pv (.str v)),(.pv (.int .i64 c))]))]):Zc Bv 1 (Zl 1 JN G) Kw [] (YR 19 [.pv (enc l),.fn 110 [] [.ptr 0 0]] [.box [.pv (.str v),.pv (.int .i64 c)]]):=Zc.to (.nil) h (by kernel_rfl)
theorem a8b{G:AV×List AObj×List AObj->Prop}(l:List Coef)(v:List UInt8)(c:Int)(i:Int)(h:if (decide (i<(↑(List.length l):Int)))=true then(decide (0<=i)&&decide (Int.toNat i<List.length (List.map enc l))&&Enc.sz Coef==2)=true∧(∃ y0:Coef,AV.pv (PV.rptr (PV.cells (List.getD (List.map enc l) (Int.toNat i) default)))=AV.pv (PV.rptr (PV.cells ((enc) y0)))∧((BK [(.pv (.agg [(.str (PV.asStr (List.getD (PV.cells (enc y0)) 0 default))),(.int .i64 (PV.asInt (List.getD (PV.cells (enc y0)) (0+1) default)))])),(.ptr 0 0)] [(.box [(.pv (.str v)),(.pv (.int .i64 c))])])=true∧(if (Str.s (Coef.v (dec (PV.agg (QF (PV.cells (enc y0)) 0 [Sh.str,Sh.int .i64]))))==v)=true then G (((.pv (.int .i64 i)),([(.box [(.pv (.str v)),(.pv (.int .i64 c))])],[])))else(At Bv 1 (Zl 1 JN G) Kw 0 19 [(0,(.pv (.sl 2 false (List.map enc l)))),(1,(.fn 110 [] [(.ptr 0 0)])),(7,(.pv (.int .i64 (↑(List.length l):Int)))),(8,(.pv (.int .i64 (IntKind.wrap IntKind.i64 (i+1)))))] [(.obj (.box [(.pv (.str v)),(.pv (.int .i64 c))]))]))))else(G (((.pv (.int .i64 (-1))),([(.box [(.pv (.str v)),(.pv (.int .i64 c))])],[]))))):At Bv 1 (Zl 1 JN G) Kw 0 19 [(0,.pv (enc l)),(1,.fn 110 [] [.ptr 0 0]),(7,.pv (.int .i64 l.length)),(8,.pv (.int .i64 i))] [.obj (.box [.pv (.str v),.pv (.int .i64 c)])]:=At.to (.lit (.ask (.req (.abs (Coef) (fun YY=>AV.pv (PV.rptr (PV.cells ((enc) YY)))) (.lit (.req (.keep (.ask (.nil) (.lit (.nil)))))))) (.nil))) h (by kernel_rfl)
def Ky:IC:=(.seq (.reg [⟨(some 2),(.box 2 (.t 0)),0,none⟩,⟨(some 4),(.mv (.c (.int .i64 0))),1,none⟩,⟨(some 5),(.mv (.c (.int .i64 0))),1,none⟩] none) (.seq (.seq (.reg [⟨(some 11),(.load true [(.int .i64),(.sl 2)] (.t 2)),0,none⟩,⟨(some 12),(.call (.c (.fn 73)) [(.t 11)]),0,none⟩,⟨(some 13),(.un .not (.t 12)),2,none⟩] none) (.cond (.t 13) (.seq (.reg [⟨(some 4),(.mv (.c (.int .i64 0))),0,none⟩,⟨(some 5),(.mv (.c (.int .i64 1))),0,none⟩] none) .ret) .skip)) (.seq (.reg [⟨(some 14),(.faddr 0 (.t 2)),0,none⟩,⟨(some 15),(.load false [(.int .i64)] (.t 14)),0,none⟩,⟨(some 6),(.mv (.t 15)),0,none⟩] none) (.seq (.seq (.reg [⟨(some 16),(.faddr 1 (.t 2)),0,none⟩,⟨(some 17),(.load false [(.sl 2)] (.t 16)),0,none⟩,⟨(some 18),(.len 1 (.t 17)),0,none⟩,⟨(some 19),(.mv (.c (.int .i64 0))),0,none⟩] none) (.block 0 (.loop [19,18,17,1,6] (.seq (.reg [⟨(some 20),(.bin .num .lss (.t 19) (.t 18)),0,none⟩] none) (.seq (.cond (.t 20) .skip (.exit 0)) (.seq (.block 1 (.seq (.reg [⟨(some 21),(.iaddr 2 (.t 17) (.t 19)),0,none⟩,⟨(some 22),(.load true [.str,(.int .i64)] (.t 21)),0,none⟩,⟨(some 8),(.alloc (.agg [(.str []),(.int .i64 0)])),0,none⟩,⟨none,(.store 2 (.t 8) (.t 22)),1,none⟩] none) (.seq (.reg [⟨(some 23),(.mv (.t 1)),0,none⟩,⟨(some 24),(.mkfn 110 [] [(.t 8)]),0,none⟩,⟨(some 25),(.call (.c (.fn 109)) [(.t 23),(.t 24)]),0,none⟩,⟨(some 9),(.mv (.t 25)),2,none⟩] none) (.seq (.seq (.reg [⟨(some 26),(.mv (.t 9)),0,none⟩,⟨(some 27),(.bin .num .lss (.t 26) (.c (.int .i64 0))),0,none⟩] none) (.cond (.t 27) (.seq (.reg [⟨(some 4),(.mv (.c (.int .i64 0))),0,none⟩,⟨(some 5),(.mv (.c (.int .i64 7))),0,none⟩] none) .ret) .skip)) (.seq (.seq (.reg [⟨(some 28),(.mv (.t 1)),0,none⟩,⟨(some 29),(.mv (.t 9)),0,none⟩,⟨(some 30),(.iaddr 2 (.t 28) (.t 29)),0,none⟩,⟨(some 31),(.faddr 1 (.t 30)),0,none⟩,⟨(some 32),(.load false [(.int .i64)] (.t 31)),0,none⟩,⟨(some 10),(.mv (.t 32)),0,none⟩] none) (.seq (.reg [⟨(some 33),(.mv (.t 10)),0,none⟩,⟨(some 34),(.bin .num .lss (.t 33) (.c (.int .i64 (-1000000000)))),0,none⟩,⟨(some 35),(.mv (.t 34)),0,none⟩,⟨(some 36),(.mv (.t 10)),0,(some (35,false))⟩,⟨(some 37),(.bin .num .gtr (.t 36) (.c (.int .i64 1000000000))),0,(some (35,false))⟩,⟨(some 38),(.pick (.t 35) (.c (.bool true)) (.t 37)),0,none⟩] none) (.cond (.t 38) (.seq (.reg [⟨(some 4),(.mv (.c (.int .i64 0))),0,none⟩,⟨(some 5),(.mv (.c (.int .i64 2))),0,none⟩] none) .ret) .skip))) (.reg [⟨(some 39),(.mv (.t 6)),0,none⟩,⟨(some 40),(.faddr 1 (.t 8)),0,none⟩,⟨(some 41),(.load false [(.int .i64)] (.t 40)),0,none⟩,⟨(some 42),(.mv (.t 1)),0,none⟩,⟨(some 43),(.mv (.t 9)),0,none⟩,⟨(some 44),(.iaddr 2 (.t 42) (.t 43)),0,none⟩,⟨(some 45),(.faddr 1 (.t 44)),0,none⟩,⟨(some 46),(.load false [(.int .i64)] (.t 45)),0,none⟩,⟨(some 47),(.bin .num .mul (.t 41) (.t 46)),0,none⟩,⟨(some 48),(.bin .num .add (.t 39) (.t 47)),0,none⟩,⟨(some 6),(.mv (.t 48)),0,none⟩] (some [[],[],[1],[],[],[3,4],[5,3,4],[6,5,3,4],[2,7,1,6,5,3,4],[0,8,2,7,1,6,5,3,4],[9,0,1,2,3,4,5,6,7,8]]))))))) (.reg [⟨(some 49),(.bin .num .add (.t 19) (.c (.int .i64 1))),0,none⟩,⟨(some 19),(.mv (.t 49)),0,none⟩] none))))))) (.seq (.reg [⟨(some 50),(.mv (.t 6)),0,none⟩,⟨(some 4),(.mv (.t 50)),0,none⟩,⟨(some 5),(.mv (.c (.int .i64 0))),0,none⟩] none) .ret)))))
def Kl:List IRes:=[(.tmp 4),(.tmp 5)]
abbrev c7d:Nat:=51
def DN:ZK:=Xp [(73,.pure (preT (fun x:Lin×Unit=>Z6 x.1)) (Zf (fun x:Lin×Unit=>Zz x.1))),(109,.own (Q4 110) CL)]
theorem c8o{G:PV->Prop}(l:Lin)(v:List Coef)(h:(Go.Pl.preT (fun(x:Lin×Unit)=>Z6 x.1) [(.agg [(.int .i64 l.k),(.sl 2 false (List.map enc l.t))])])=true∧(∃ y0:Bool,AV.pv (Zf (fun(x:Lin×Unit)=>Zz x.1) [(.agg [(.int .i64 l.k),(.sl 2 false (List.map enc l.t))])])=AV.pv (enc y0)∧(if (!y0)=true then G ((.tup [(.int .i64 0),(.int .i64 1)]))else(At DN 0 (Za Kl G) Ky 0 51 [(1,(.pv (.sl 2 false (List.map enc v)))),(6,(.pv (.int .i64 l.k))),(17,(.pv (.sl 2 false (List.map enc l.t)))),(18,(.pv (.int .i64 (↑(List.length (List.map enc l.t)):Int)))),(19,(.pv (.int .i64 0)))] [])))):Zc DN 0 (Za Kl G) Ky [] (Yr 51 [enc l,enc v]):=Zc.tp (.req (.abs (Bool) (fun YY=>AV.pv (enc YY)) (.ask (.nil) (.nil)))) h (by kernel_rfl)
theorem b4y{G:PV->Prop}(l:Lin)(v:List Coef)(n i:Int)(h:if (decide (i<(↑(List.length l.t):Int)))=true then(decide (0<=i)&&decide (Int.toNat i<List.length (List.map enc l.t))&&Enc.sz Coef==2)=true∧(∃ y0:Coef,AV.pv (PV.rptr (PV.cells (List.getD (List.map enc l.t) (Int.toNat i) default)))=AV.pv (PV.rptr (PV.cells ((enc) y0)))∧((Q4 110 [(.pv (.sl 2 false (List.map enc v))),(.fn 110 [] [(.ptr 0 0)])] [(.box [(.pv (.str (PV.asStr (List.getD (PV.cells (enc y0)) 0 default)))),(.pv (.int .i64 (PV.asInt (List.getD (PV.cells (enc y0)) (0+1) default))))])])=true∧(if (decide (ZE (fun(t:Coef)=>Str.s t.v==PV.asStr (List.getD (PV.cells (enc y0)) 0 default)) (dec (enc v))<0))=true then G ((.tup [(.int .i64 0),(.int .i64 7)]))else((decide (0<=ZE (fun(t:Coef)=>Str.s t.v==PV.asStr (List.getD (PV.cells (enc y0)) 0 default)) (dec (enc v)))&&decide (Int.toNat (ZE (fun(t:Coef)=>Str.s t.v==PV.asStr (List.getD (PV.cells (enc y0)) 0 default)) (dec (enc v)))<List.length (List.map enc v))&&Enc.sz Coef==2)=true∧(∃ y1:Coef,AV.pv (PV.rptr (PV.cells (List.getD (List.map enc v) (Int.toNat (ZE (fun(t:Coef)=>Str.s t.v==PV.asStr (List.getD (PV.cells (enc y0)) 0 default)) (dec (enc v)))) default)))=AV.pv (PV.rptr (PV.cells ((enc) y1)))∧(if (decide (PV.asInt (List.getD (List.drop 1 (PV.cells (enc y1))) 0 default)<(-1000000000:Int)))=true then G ((.tup [(.int .i64 0),(.int .i64 2)]))else(if (decide (PV.asInt (List.getD (List.drop 1 (PV.cells (enc y1))) 0 default)>1000000000))=true then G ((.tup [(.int .i64 0),(.int .i64 2)]))else((decide (0<=ZE (fun(t:Coef)=>Str.s t.v==PV.asStr (List.getD (PV.cells (enc y0)) 0 default)) (dec (enc v)))&&decide (Int.toNat (ZE (fun(t:Coef)=>Str.s t.v==PV.asStr (List.getD (PV.cells (enc y0)) 0 default)) (dec (enc v)))<List.length (List.map enc v))&&Enc.sz Coef==2)=true∧(∃ y2:Coef,AV.pv (PV.rptr (PV.cells (List.getD (List.map enc v) (Int.toNat (ZE (fun(t:Coef)=>Str.s t.v==PV.asStr (List.getD (PV.cells (enc y0)) 0 default)) (dec (enc v)))) default)))=AV.pv (PV.rptr (PV.cells ((enc) y2)))∧(At DN 0 (Za Kl G) Ky 0 51 [(1,(.pv (.sl 2 false (List.map enc v)))),(6,(.pv (.int .i64 (IntKind.wrap IntKind.i64 (n+IntKind.wrap IntKind.i64 (PV.asInt (List.getD (PV.cells (enc y0)) (0+1) default)*PV.asInt (List.getD (List.drop 1 (PV.cells (enc y2))) 0 default))))))),(17,(.pv (.sl 2 false (List.map enc l.t)))),(18,(.pv (.int .i64 (↑(List.length l.t):Int)))),(19,(.pv (.int .i64 (IntKind.wrap IntKind.i64 (i+1)))))] []))))))))))else(G ((.tup [(.int .i64 n),(.int .i64 0)])))):At DN 0 (Za Kl G) Ky 0 51 [(1,.pv (enc v)),(6,.pv (.int .i64 n)),(17,.pv (enc l.t)),(18,.pv (.int .i64 l.t.length)),(19,.pv (.int .i64 i))] []:=At.tp (.lit (.ask (.req (.abs (Coef) (fun YY=>AV.pv (PV.rptr (PV.cells ((enc) YY)))) (.lit (.req (.keep (.lit (.ask (.nil) (.req (.abs (Coef) (fun YY=>AV.pv (PV.rptr (PV.cells ((enc) YY)))) (.lit (.lit (.ask (.lit (.lit (.lit (.nil)))) (.lit (.lit (.lit (.ask (.nil) (.req (.abs (Coef) (fun YY=>AV.pv (PV.rptr (PV.cells ((enc) YY)))) (.lit (.lit (.lit (.lit (.nil))))))))))))))))))))))) (.nil))) h (by kernel_rfl)
def b3n:IC:=(.seq (.reg [⟨(some 2),(.box 3 (.t 0)),0,none⟩,⟨(some 3),(.mv (.c (.bool false))),1,none⟩] none) (.seq (.reg [⟨(some 7),(.faddr 1 (.t 2)),0,none⟩,⟨(some 8),(.load true [(.int .i64),(.sl 2)] (.t 7)),0,none⟩,⟨(some 9),(.load false [(.sl 2)] (.t 1)),0,none⟩,⟨(some 10),(.call (.c (.fn 38)) [(.t 8),(.t 9)]),0,none⟩,⟨(some 6),(.mv (.t 10)),2,none⟩,⟨(some 11),(.extract (.t 6) 0),2,none⟩,⟨(some 12),(.extract (.t 6) 1),2,none⟩,⟨(some 4),(.mv (.t 11)),2,none⟩,⟨(some 5),(.mv (.t 12)),2,none⟩] none) (.seq (.reg [⟨(some 13),(.mv (.t 5)),0,none⟩,⟨(some 14),(.bin .num .neq (.t 13) (.c (.int .i64 0))),0,none⟩,⟨(some 15),(.mv (.t 14)),0,none⟩,⟨(some 16),(.mv (.t 4)),0,(some (15,false))⟩,⟨(some 17),(.bin .num .lss (.t 16) (.c (.int .i64 0))),0,(some (15,false))⟩,⟨(some 18),(.pick (.t 15) (.c (.bool true)) (.t 17)),0,none⟩,⟨(some 19),(.mv (.t 18)),0,none⟩,⟨(some 20),(.faddr 0 (.t 2)),0,(some (19,false))⟩,⟨(some 21),(.load false [.bool] (.t 20)),0,(some (19,false))⟩,⟨(some 22),(.mv (.t 21)),0,(some (19,false))⟩,⟨(some 23),(.mv (.t 4)),0,(some (22,true))⟩,⟨(some 24),(.bin .num .neq (.t 23) (.c (.int .i64 0))),0,(some (22,true))⟩,⟨(some 25),(.pick (.t 22) (.t 24) (.c (.bool false))),0,(some (19,false))⟩,⟨(some 26),(.pick (.t 19) (.c (.bool true)) (.t 25)),0,none⟩,⟨(some 3),(.mv (.t 26)),0,none⟩] none) .ret)))
def a8d:List IRes:=[(.tmp 3)]
abbrev c8a:Nat:=27
def c4q:ZK:=Xp [(38,.pure (preT (fun x:Lin×List Coef×Unit=>Z6 x.1&&decide (x.2.1.length<=9223372036854775807))) (Zf (fun x:Lin×List Coef×Unit=>YP x.1 x.2.1)))]
theorem d0x{G:AV×List AObj×List AObj->Prop}(f:Fact)(v:List Coef)(h:(Go.Pl.preT (fun(x:Lin×List Coef×Unit)=>Z6 x.1&&decide (List.length x.2.1<=9223372036854775807)) [(.agg [(.int .i64 (Lin.k f.l)),(.sl 2 false (List.map enc (Lin.t f.l)))]),(.sl 2 false (List.map enc v))])=true∧(∃ y0:Int×Int,AV.pv (Zf (fun(x:Lin×List Coef×Unit)=>YP x.1 x.2.1) [(.agg [(.int .i64 (Lin.k f.l)),(.sl 2 false (List.map enc (Lin.t f.l)))]),(.sl 2 false (List.map enc v))])=AV.pv (enc y0)∧(if (y0.2 != 0)=true then G (((.pv (.bool true)),([(.box [(.pv (.sl 2 false (List.map enc v)))])],[])))else(if (decide (y0.1<0))=true then G (((.pv (.bool true)),([(.box [(.pv (.sl 2 false (List.map enc v)))])],[])))else(if f.eq=true then G (((.pv (.bool (y0.1 != 0))),([(.box [(.pv (.sl 2 false (List.map enc v)))])],[])))else(G (((.pv (.bool false)),([(.box [(.pv (.sl 2 false (List.map enc v)))])],[]))))))))):Zc c4q 1 (Zl 1 a8d G) b3n [] (YR 27 [.pv (enc f),.ptr 0 0] [.box [.pv (enc v)]]):=Zc.to (.req (.abs (Int×Int) (fun YY=>AV.pv (enc YY)) (.lit (.ask (.lit (.lit (.lit (.lit (.lit (.lit (.lit (.nil)))))))) (.lit (.lit (.lit (.ask (.lit (.lit (.lit (.lit (.nil))))) (.lit (.lit (.ask (.lit (.lit (.lit (.lit (.lit (.nil)))))) (.lit (.lit (.lit (.lit (.nil)))))))))))))))) h (by kernel_rfl)
def JQ:IC:=Kv
def Jw:List IRes:=[(.tmp 4)]
abbrev c6g:Nat:=19
def AO:ZK:=Xp [(239,.own J3 Dh)]
theorem c8h{G:AV×List AObj×List AObj->Prop}(l:List Fact)(v:List Coef)(h:At AO 1 (Zl 1 Jw G) JQ 0 19 [(0,(.pv (.sl 3 false (List.map enc l)))),(1,(.fn 239 [] [(.ptr 0 0)])),(7,(.pv (.int .i64 (↑(List.length (List.map enc l)):Int)))),(8,(.pv (.int .i64 0)))] [(.obj (.box [(.pv (.sl 2 false (List.map enc v)))]))]):Zc AO 1 (Zl 1 Jw G) JQ [] (YR 19 [.pv (enc l),.fn 239 [] [.ptr 0 0]] [.box [.pv (enc v)]]):=Zc.to (.nil) h (by kernel_rfl)
theorem b0l{G:AV×List AObj×List AObj->Prop}(l:List Fact)(v:List Coef)(i:Int)(h:if (decide (i<(↑(List.length l):Int)))=true then(decide (0<=i)&&decide (Int.toNat i<List.length (List.map enc l))&&Enc.sz Fact==3)=true∧(∃ y0:Fact,AV.pv (PV.rptr (PV.cells (List.getD (List.map enc l) (Int.toNat i) default)))=AV.pv (PV.rptr (PV.cells ((enc) y0)))∧((J3 [(.pv (.agg [(.bool (PV.asBool (List.getD (PV.cells (enc y0)) 0 default))),(.int .i64 (PV.asInt (List.getD (PV.cells (enc y0)) (0+1) default))),(.sl 2 false (PV.asXs (List.getD (PV.cells (enc y0)) (0+1+1) default)))])),(.ptr 0 0)] [(.box [(.pv (.sl 2 false (List.map enc v)))])])=true∧(if (!YI (dec (PV.agg (QF (PV.cells (enc y0)) 0 [Sh.bool,Sh.int .i64,Sh.sl 2]))) (dec (enc v)))=true then G (((.pv (.int .i64 i)),([(.box [(.pv (.sl 2 false (List.map enc v)))])],[])))else(At AO 1 (Zl 1 Jw G) JQ 0 19 [(0,(.pv (.sl 3 false (List.map enc l)))),(1,(.fn 239 [] [(.ptr 0 0)])),(7,(.pv (.int .i64 (↑(List.length l):Int)))),(8,(.pv (.int .i64 (IntKind.wrap IntKind.i64 (i+1)))))] [(.obj (.box [(.pv (.sl 2 false (List.map enc v)))]))]))))else(G (((.pv (.int .i64 (-1))),([(.box [(.pv (.sl 2 false (List.map enc v)))])],[]))))):At AO 1 (Zl 1 Jw G) JQ 0 19 [(0,.pv (enc l)),(1,.fn 239 [] [.ptr 0 0]),(7,.pv (.int .i64 l.length)),(8,.pv (.int .i64 i))] [.obj (.box [.pv (enc v)])]:=At.to (.lit (.ask (.req (.abs (Fact) (fun YY=>AV.pv (PV.rptr (PV.cells ((enc) YY)))) (.lit (.req (.keep (.ask (.nil) (.lit (.nil)))))))) (.nil))) h (by kernel_rfl)
def OP:IC:=PW
def O5:List IRes:=[(.tmp 4)]
abbrev c6i:Nat:=9
def b2x:ZK:=Xp [(227,.own (WK 239) CJ)]
theorem c8v{G:AV×List AObj×List AObj->Prop}(l:List Fact)(v:List Coef)(h:(WK 239 [(.pv (.sl 3 false (List.map enc l))),(.fn 239 [] [(.ptr 0 0)])] [(.box [(.pv (.sl 2 false (List.map enc v)))])])=true∧(G (((.pv (.bool (decide (ZE (fun(f:Fact)=> !YI f (dec (enc v))) (dec (enc l)) ≥ 0)))),([(.box [(.pv (.sl 2 false (List.map enc v)))])],[]))))):Zc b2x 1 (Zl 1 O5 G) OP [] (YR 9 [.pv (enc l),.fn 239 [] [.ptr 0 0]] [.box [.pv (enc v)]]):=Zc.to (.req (.keep (.lit (.nil)))) h (by kernel_rfl)
def GD:IC:=(.seq (.reg [⟨(some 3),(.box 1 (.t 1)),0,none⟩,⟨(some 4),(.mv (.c (.bool false))),1,none⟩] none) (.seq (.reg [⟨(some 5),(.mv (.t 0)),0,none⟩,⟨(some 6),(.mkfn 239 [] [(.t 3)]),0,none⟩,⟨(some 7),(.call (.c (.fn 161)) [(.t 5),(.t 6)]),0,none⟩,⟨(some 8),(.un .not (.t 7)),2,none⟩,⟨(some 4),(.mv (.t 8)),2,none⟩] none) .ret))
def Gu:List IRes:=[(.tmp 4)]
abbrev a7s:Nat:=9
def Sq:ZK:=Xp [(161,.own (WK 239) Cz)]
theorem b5l{G:PV->Prop}(l:List Fact)(v:List Coef)(h:(WK 239 [(.pv (.sl 3 false (List.map enc l))),(.fn 239 [] [(.ptr 0 0)])] [(.box [(.pv (.sl 2 false (List.map enc v)))])])=true∧(G ((.bool (!List.any (dec (enc l)) fun(f:Fact)=> !YI f (dec (enc v))))))):Zc Sq 0 (Za Gu G) GD [] (Yr 9 [enc l,enc v]):=Zc.tp (.req (.keep (.nil))) h (by kernel_rfl)
end Go.Pl

namespace Go.Pl
open Go.RowKit
open Enc (enc dec is)
open EncL (encL decL isL)
theorem b7o: ∀ a:Fact×Unit,Z6 a.1.l=true->Zc a9p 0 (Za Og (Zj (!(Zz a.1.l)))) EF [] (Yr c4h (encL a)):=by
 rintro⟨f,⟨⟩⟩ h
 exact c8y f ⟨Ze (f.l,()) rfl h,Zd (f.l,()) rfl (ZM rfl)⟩
theorem DC{l:List Fact}(h:Zo l=true):l.length<=9223372036854775807∧ ∀ f∈l,Z6 f.l=true:=by
 simp only[Zo,Bool.and_eq_true,decide_eq_true_eq,List.all_eq_true]at h
 exact h
theorem b5j(l:List Fact)(h:Zo l=true): ∀ (m i:Nat),m+i=l.length->(∀ j (hj:j<l.length),j<i->(!(Zz l[j].l))=false) ->
  At AR 0 (Za J6 (Zj (ZE (fun f:Fact=> !(Zz f.l)) l))) Kv 0 19 [(0,.pv (enc l)),(1,.pv (.fn 162)),(7,.pv (.int .i64 l.length)),(8,.pv (.int .i64 i))] []:=by
 obtain⟨hl,hs⟩:=DC h
 intro m
 induction m with
 | zero=>
  intro i hi hno
  refine a9w l i (ZN (Ye (by omega)) (Uv ?_))
  rw[U2 _ _ (fun j hj=>hno j hj (by omega))]
 | succ m ih=>
  intro i hi hno
  have hlt:i<l.length:=by omega
  refine a9w l i (ZU (Z9 hlt) ⟨Zq hlt rfl,ZF hlt ⟨Ze (l[i],()) rfl (hs _ (List.getElem_mem hlt)),Zd (l[i],()) rfl (Wx (fun hb=> ?_) fun hb=> ?_)⟩⟩)
  ·exact Uv (U3 (fun f:Fact=> !(Zz f.l)) l i hlt hno hb).symm
  ·rw[next (by omega)]
   refine ih (i+1) (by omega) fun j hj hji=> ?_
   by_cases e:j=i
   ·subst e;exact hb
   ·exact hno j hj (by omega)
theorem c1r: ∀ a:List Fact×FnV 162×Unit,Zo a.1=true->Zc AR 0 (Za J6 (Zj (ZE (fun f:Fact=> !(Zz f.l)) a.1))) Kv [] (Yr c6o (encL a)):=by
 rintro⟨l,g,⟨⟩⟩ h
 refine c8w l ?_
 rw[List.length_map]
 exact b5j l h l.length 0 (by omega) (fun j hj h=>by omega)
theorem c2i: ∀ a:List Fact×FnV 162×Unit,Zo a.1=true->Zc b0b 0 (Za EL (Zj (a.1.any fun f:Fact=> !(Zz f.l)))) PW [] (Yr c4o (encL a)):=by
 rintro⟨l,g,⟨⟩⟩ h
 exact c8d l ⟨Ze (l,{},()) rfl h,Zd (l,{},()) rfl (ZM (XN _ _))⟩
theorem a0y(l:List Fact)(p:Fact->Bool):(!(l.any fun f=> !(p f)))=l.all p:=by
 induction l with
 | nil=>rfl
 | cons x l ih=>simp only[List.any_cons,List.all_cons,Bool.not_or,Bool.not_not,ih]
theorem ER: ∀ a:List Fact×Unit,Zo a.1=true->Zc AB 0 (Za G6 (Zj (XQ a.1))) GG [] (Yr a4a (encL a)):=by
 rintro⟨l,⟨⟩⟩ h
 exact b2i l ⟨Ze (l,{},()) rfl h,Zd (l,{},()) rfl (ZM (a0y l _))⟩
theorem c2h: ∀ args os,BK args os=true->Zc b0c os.length (Zl os.length FN fun r=>r=NK args os) Ob [] (YR c4n args os):=by
 intro args os h
 unfold BK at h
 split at h
 ·rename_i x v c
  obtain⟨x,rfl⟩:=YC h
  exact c8t x v c (by simp only[NK,Enc.dec_enc])
 ·cases h
theorem b4u(l:List Coef)(v:List UInt8)(c:Int)(hl:l.length<=9223372036854775807)(H:AV×List AObj×List AObj)(hH:H=(.pv (.int .i64 (ZE (fun t:Coef=>t.v.s==v) l)),[.box [.pv (.str v),.pv (.int .i64 c)]],[])): ∀ (m i:Nat),m+i=l.length->(∀ j (hj:j<l.length),j<i->(l[j].v.s==v)=false) ->
  At Bv 1 (Zl 1 JN fun r=>r=H) Kw 0 19 [(0,.pv (enc l)),(1,.fn 110 [] [.ptr 0 0]),(7,.pv (.int .i64 l.length)),(8,.pv (.int .i64 i))] [.obj (.box [.pv (.str v),.pv (.int .i64 c)])]:=by
 subst hH
 intro m
 induction m with
 | zero=>
  intro i hi hno
  refine a8b l v c i (ZN (Ye (by omega)) ?_)
  rw[U2 _ _ (fun j hj=>hno j hj (by omega))]
 | succ m ih=>
  intro i hi hno
  have hlt:i<l.length:=by omega
  refine a8b l v c i (ZU (Z9 hlt) ⟨Zq hlt rfl,ZF hlt ⟨Ya l[i],Wx (fun hb=> ?_) fun hb=> ?_⟩⟩)
  ·rw[U3 (fun t:Coef=>t.v.s==v) l i hlt hno hb]
  ·rw[next (by omega)]
   refine ih (i+1) (by omega) fun j hj hji=> ?_
   by_cases e:j=i
   ·subst e;exact hb
   ·exact hno j hj (by omega)
theorem b7v: ∀ args os,Q4 110 args os=true->Zc Bv os.length (Zl os.length JN fun r=>r=CL args os) Kw [] (YR c3k args os):=by
 intro args os h
 unfold Q4 at h
 split at h
 ·rename_i l g v c
  simp only[Bool.and_eq_true,beq_iff_eq,decide_eq_true_eq]at h
  obtain⟨⟨rfl,hl⟩,h2⟩:=h
  obtain⟨l,rfl⟩:=YC hl
  rw[Enc.dec_enc]at h2
  refine c7x l v c ?_
  rw[List.length_map]
  exact b4u l v c h2 _ (by simp only[CL,Enc.dec_enc]) l.length 0 (by omega) (fun j hj h=>by omega)
 ·cases h
theorem Na(v:List Coef)(s:Str):(ZE (fun t:Coef=>t.v.s==s.s) v<0∧Y6 v s=none) ∨ ∃ (i:Nat) (hi:i<v.length),ZE (fun t:Coef=>t.v.s==s.s) v=i∧Y6 v s=some v[i].c:=by
 unfold ZE Y6
 have hp:(fun t:Coef=>decide (t.v=s))=fun t:Coef=>t.v.s==s.s:=by
  funext t
  by_cases h:t.v=s
  ·simp[h]
  ·have : ¬ t.v.s=s.s:=fun e=>h (by cases hv:t.v;cases s;rw[hv]at e;cases e;rfl)
   simp[h,this]
 rw[hp]
 cases h:v.findIdx? (fun t:Coef=>t.v.s==s.s)with
 | none=>
  left
  refine⟨by show(-1:Int)<0;omega,?_⟩
  rw[List.findIdx?_eq_none_iff]at h
  have:v.find? (fun t:Coef=>t.v.s==s.s)=none:=List.find?_eq_none.2 fun x hx=>by simp[h x hx]
  rw[this];rfl
 | some i=>
  right
  have h':=h
  rw[List.findIdx?_eq_some_iff_getElem]at h
  obtain⟨hi,h1,h2⟩:=h
  refine⟨i,hi,rfl,?_⟩
  have:v.find? (fun t:Coef=>t.v.s==s.s)=some v[i]:=by
   rw[List.find?_eq_some_iff_getElem]
   exact⟨h1,i,hi,rfl,fun j hj=>by simpa using h2 j hj⟩
  rw[this];rfl
theorem b2l(l:Lin)(v:List Coef)(hl:l.t.length<=9223372036854775807)(hv:v.length<=9223372036854775807): ∀ (m i:Nat) (n:Int),m+i=l.t.length ->
  At DN 0 (Za Kl (Zj (Jl v n (l.t.drop i)))) Ky 0 51 [(1,.pv (enc v)),(6,.pv (.int .i64 n)),(17,.pv (enc l.t)),(18,.pv (.int .i64 l.t.length)),(19,.pv (.int .i64 i))] []:=by
 intro m
 induction m with
 | zero=>
  intro i n hi
  refine b4y l v n i (ZN (Ye (by omega)) ?_)
  rw[List.drop_of_length_le (show l.t.length<=i by omega)]
  exact⟨rfl,rfl⟩
 | succ m ih=>
  intro i n hi
  have hlt:i<l.t.length:=by omega
  refine b4y l v n i (ZU (Z9 hlt) ⟨Zq hlt rfl,ZF hlt ?_⟩)
  rw[List.drop_eq_getElem_cons hlt,Jl,next (by omega)]
  have e0:PV.asStr (List.getD (PV.cells (enc l.t[i])) 0 default)=l.t[i].v.s:=rfl
  simp only[e0,Enc.dec_enc]
  refine⟨by show Q4 _ [.pv (enc v),_] _=true;simp[Q4,hv],?_⟩
  rcases Na v l.t[i].v with ⟨h1,h2⟩|⟨k,hk,h1,h2⟩
  ·rw[h2]
   exact ZU (by simpa using h1) ⟨rfl,rfl⟩
  ·rw[h2]
   simp only[h1]
   refine ZN (by simp) ⟨Zq hk rfl,ZF hk ?_⟩
   refine Xy (fun h3=> ?_) fun h3=>Xy (fun h4=> ?_) fun h4=>⟨Zq hk rfl,ZF hk ?_⟩
   ·have h3:v[k].c < -1000000000:=h3
    rw[if_pos h3];exact⟨rfl,rfl⟩
   ·have h3 : ¬ v[k].c < -1000000000:=h3
    have h4:v[k].c>1000000000:=h4
    rw[if_neg h3,if_pos h4];exact⟨rfl,rfl⟩
   ·have h3 : ¬ v[k].c < -1000000000:=h3
    have h4 : ¬ v[k].c>1000000000:=h4
    rw[if_neg h3,if_neg h4]
    exact ih (i+1) _ (by omega)
theorem b8j: ∀ a:Lin×List Coef×Unit,(Z6 a.1&&decide (a.2.1.length<=9223372036854775807))=true->Zc DN 0 (Za Kl (Zj (YP a.1 a.2.1))) Ky [] (Yr c7d (encL a)):=by
 rintro⟨l,v,⟨⟩⟩ h
 simp only[Bool.and_eq_true,decide_eq_true_eq]at h
 have hl:l.t.length<=9223372036854775807:=by
  have:=h.1
  simp only[Z6,Xq,Bool.and_eq_true,decide_eq_true_eq]at this
  exact this.1
 refine c8o l v ⟨Ze (l,()) rfl h.1,Zd (l,()) rfl ?_⟩
 show if (!Zz l)=true then Zj (YP l v) _ else At DN 0 (Za Kl (Zj (YP l v))) Ky 0 51 _ _
 unfold YP
 refine XX (fun hv=> ?_) fun hv=> ?_
 ·rw[if_neg (by rw[hv];simp)]
  exact⟨rfl,rfl⟩
 ·rw[if_pos hv,List.length_map]
  exact b2l l v hl h.2 l.t.length 0 l.k (by omega)
theorem c4l: ∀ args os,J3 args os=true->Zc c4q os.length (Zl os.length a8d fun r=>r=Dh args os) b3n [] (YR c8a args os):=by
 intro args os h
 unfold J3 at h
 split at h
 ·rename_i f v
  simp only[Bool.and_eq_true,decide_eq_true_eq]at h
  obtain⟨⟨⟨hf,hv⟩,h1⟩,h2⟩:=h
  obtain⟨f,rfl⟩:=YC hf
  obtain⟨v,rfl⟩:=YC hv
  rw[Enc.dec_enc]at h1 h2
  refine d0x f v ⟨Ze (f.l,v,()) rfl (by simp only[h1,Bool.true_and];exact decide_eq_true h2),Zd (f.l,v,()) rfl ?_⟩
  show if ((YP f.l v).2 != 0)=true then(_:AV×List AObj×List AObj)=Dh _ _ else _
  have hval:Dh [.pv (enc f),.ptr 0 0] [.box [.pv (enc v)]]=(.pv (.bool (!YI f v)),[.box [.pv (enc v)]],[]):=by simp only[Dh,Enc.dec_enc]
  rw[hval]
  unfold YI
  by_cases a1:(YP f.l v).2=0
  ·refine ZN (by simp[a1]) (Xy (fun a2=> ?_) fun a2=>Wx (fun a3=> ?_) fun a3=> ?_)
   ·have a2:(YP f.l v).1<0:=a2
    simp[a2];rfl
   ·have a2 : ¬ (YP f.l v).1<0:=a2
    rw[decide_eq_true a1,decide_eq_false a2,a3]
    simp only[Bool.not_false,Bool.true_and,Bool.not_true,Bool.false_or]
    rfl
   ·have a2 : ¬ (YP f.l v).1<0:=a2
    rw[decide_eq_true a1,decide_eq_false a2,a3]
    rfl
  ·refine ZU (by simpa using a1) ?_
   rw[decide_eq_false a1]
   rfl
 ·cases h
theorem b4r(l:List Fact)(v:List Coef)(hl:Zo l=true)(hv:v.length<=9223372036854775807)(H:AV×List AObj×List AObj)(hH:H=(.pv (.int .i64 (ZE (fun f=> !YI f v) l)),[.box [.pv (enc v)]],[])): ∀ (m i:Nat),m+i=l.length->(∀ j (hj:j<l.length),j<i->(!YI l[j] v)=false) ->
  At AO 1 (Zl 1 Jw fun r=>r=H) JQ 0 19 [(0,.pv (enc l)),(1,.fn 239 [] [.ptr 0 0]),(7,.pv (.int .i64 l.length)),(8,.pv (.int .i64 i))] [.obj (.box [.pv (enc v)])]:=by
 subst hH
 obtain⟨hl,hs⟩:=DC hl
 intro m
 induction m with
 | zero=>
  intro i hi hno
  refine b0l l v i (ZN (Ye (by omega)) ?_)
  rw[U2 _ _ (fun j hj=>hno j hj (by omega))]
  rfl
 | succ m ih=>
  intro i hi hno
  have hlt:i<l.length:=by omega
  have hsi:=hs _ (List.getElem_mem hlt)
  refine b0l l v i (ZU (Z9 hlt) ⟨Zq hlt rfl,ZF hlt ⟨?_,?_⟩⟩)
  ·show J3 [.pv (enc l[i]),.ptr 0 0] [.box [.pv (enc v)]]=true
   simp[J3,hsi,hv]
  ·have e:YI (dec (enc l[i]:PV)) (dec (enc v:PV))=YI l[i] v:=by rw[Enc.dec_enc,Enc.dec_enc]
   show if (!YI (dec (enc l[i]:PV)) (dec (enc v:PV)))=true then _ else _
   rw[e]
   refine Wx (fun hb=> ?_) fun hb=> ?_
   ·rw[U3 (fun f=> !YI f v) l i hlt hno hb]
    rfl
   ·rw[next (by omega)]
    refine ih (i+1) (by omega) fun j hj hji=> ?_
    by_cases e:j=i
    ·subst e;exact hb
    ·exact hno j hj (by omega)
theorem c1g: ∀ args os,WK 239 args os=true->Zc AO os.length (Zl os.length Jw fun r=>r=CJ args os) JQ [] (YR c6g args os):=by
 intro args os h
 unfold WK at h
 split at h
 ·rename_i l g v
  simp only[Bool.and_eq_true,beq_iff_eq,decide_eq_true_eq]at h
  obtain⟨⟨⟨⟨rfl,hl⟩,hv⟩,h1⟩,h2⟩:=h
  obtain⟨l,rfl⟩:=YC hl
  obtain⟨v,rfl⟩:=YC hv
  rw[Enc.dec_enc]at h1 h2
  refine c8h l v ?_
  rw[List.length_map]
  exact b4r l v h1 h2 _ (by simp only[CJ,Enc.dec_enc]) l.length 0 (by omega) (fun j hj h=>by omega)
 ·cases h
theorem c0g: ∀ args os,WK 239 args os=true->Zc b2x os.length (Zl os.length O5 fun r=>r=Cz args os) OP [] (YR c6i args os):=by
 intro args os h
 have h':=h
 unfold WK at h
 split at h
 ·rename_i l g v
  simp only[Bool.and_eq_true,beq_iff_eq,decide_eq_true_eq]at h
  obtain⟨⟨⟨⟨rfl,hl⟩,hv⟩,h1⟩,h2⟩:=h
  obtain⟨l,rfl⟩:=YC hl
  obtain⟨v,rfl⟩:=YC hv
  refine c8v l v ⟨h',?_⟩
  simp only[Cz,Enc.dec_enc,XN]
  rfl
 ·cases h
theorem Ei: ∀ a:List Fact×List Coef×Unit,(Zo a.1&&decide (a.2.1.length<=9223372036854775807))=true->Zc Sq 0 (Za Gu (Zj (a.1.all fun f=>YI f a.2.1))) GD [] (Yr a7s (encL a)):=by
 rintro⟨l,v,⟨⟩⟩ h
 refine b5l l v ⟨?_,?_⟩
 ·show WK _ [.pv (enc l),_] [.box [.pv (enc v)]]=true
  simpa [WK]using h
 ·rw[Enc.dec_enc,Enc.dec_enc]
  exact ZM (a0y l _)
end Go.Pl

namespace Go.Pl
open Go.RowKit
open Enc (enc dec is)
open EncL (encL decL isL)
set_option maxRecDepth 100000
end Go.Pl

namespace Go.Pl
open Go.RowKit
open Enc (enc dec is)
open EncL (encL decL isL)
end Go.Pl

namespace Go.Pl
open Go.RowKit
open Enc (enc dec is)
open EncL (encL decL isL)
mutual
def OJ:Cert->Int->Bool
 | .mk _ m l ks,n=> !decide ((m.length:Int)>60)&&(QR l 8&&(!decide (n<1)&&(!decide ((ks.length:Int)>n)&&Ci ks n)))
def Ci:List Cert->Int->Bool
 | [],_=>true
 | c::cs,n=>OJ c (V8 (n - 1))&&Ci cs (V8 (n - CX c))
end
end Go.Pl

namespace Go.Pl
open Go.RowKit
open Enc (enc dec is)
open EncL (encL decL isL)
set_option maxRecDepth 100000
end Go.Pl

namespace Go.Pl
open Go.RowKit
open Enc (enc dec is)
open EncL (encL decL isL)
set_option maxRecDepth 100000
def PH:IC:=(.seq (.reg [⟨(some 2),(.mv (.c (.bool false))),0,none⟩] none) (.seq (.reg [⟨(some 3),(.mv (.t 0)),0,none⟩,⟨(some 4),(.bin .num .geq (.t 3) (.c (.int .u8 48))),0,none⟩,⟨(some 5),(.mv (.t 4)),0,none⟩,⟨(some 6),(.mv (.t 0)),0,(some (5,true))⟩,⟨(some 7),(.bin .num .leq (.t 6) (.c (.int .u8 57))),0,(some (5,true))⟩,⟨(some 8),(.pick (.t 5) (.t 7) (.c (.bool false))),0,none⟩,⟨(some 2),(.mv (.t 8)),0,none⟩] none) .ret))
def Nl:List IRes:=[(.tmp 2)]
abbrev b8b:Nat:=9
def FM:ZK:=Xp []
theorem c4t{G:PV->Prop}(c:UInt8)(h:if (decide ((↑(UInt8.toNat c):Int) ≥ 48))=true then G ((.bool (decide ((↑(UInt8.toNat c):Int)<=57))))else(G ((.bool false)))):Zc FM 0 (Za Nl G) PH [] (Yr 9 [enc c]):=Zc.tp (.lit (.ask (.lit (.lit (.lit (.nil)))) (.lit (.lit (.nil))))) h (by kernel_rfl)
def Pf:IC:=(.seq (.reg [⟨(some 2),(.mv (.c (.bool false))),0,none⟩] none) (.seq (.reg [⟨(some 3),(.mv (.t 0)),0,none⟩,⟨(some 4),(.bin .num .geq (.t 3) (.c (.int .u8 97))),0,none⟩,⟨(some 5),(.mv (.t 4)),0,none⟩,⟨(some 6),(.mv (.t 0)),0,(some (5,true))⟩,⟨(some 7),(.bin .num .leq (.t 6) (.c (.int .u8 122))),0,(some (5,true))⟩,⟨(some 8),(.pick (.t 5) (.t 7) (.c (.bool false))),0,none⟩,⟨(some 2),(.mv (.t 8)),0,none⟩] none) .ret))
def Px:List IRes:=[(.tmp 2)]
abbrev b8e:Nat:=9
def FU:ZK:=Xp []
theorem c4g{G:PV->Prop}(c:UInt8)(h:if (decide ((↑(UInt8.toNat c):Int) ≥ 97))=true then G ((.bool (decide ((↑(UInt8.toNat c):Int)<=122))))else(G ((.bool false)))):Zc FU 0 (Za Px G) Pf [] (Yr 9 [enc c]):=Zc.tp (.lit (.ask (.lit (.lit (.lit (.nil)))) (.lit (.lit (.nil))))) h (by kernel_rfl)
def Jd:IC:=(.seq (.reg [⟨(some 2),(.mv (.c (.bool false))),0,none⟩] none) (.seq (.reg [⟨(some 3),(.mv (.t 0)),0,none⟩,⟨(some 4),(.bin .num .geq (.t 3) (.c (.int .i64 (-1000000)))),0,none⟩,⟨(some 5),(.mv (.t 4)),0,none⟩,⟨(some 6),(.mv (.t 0)),0,(some (5,true))⟩,⟨(some 7),(.bin .num .leq (.t 6) (.c (.int .i64 1000000))),0,(some (5,true))⟩,⟨(some 8),(.pick (.t 5) (.t 7) (.c (.bool false))),0,none⟩,⟨(some 2),(.mv (.t 8)),0,none⟩] none) .ret))
def Gy:List IRes:=[(.tmp 2)]
abbrev a2w:Nat:=9
def Be:ZK:=Xp []
theorem b1a{G:PV->Prop}(n:Int)(h:if (decide (n ≥ (-1000000:Int)))=true then G ((.bool (decide (n<=1000000))))else(G ((.bool false)))):Zc Be 0 (Za Gy G) Jd [] (Yr 9 [enc n]):=Zc.tp (.lit (.ask (.lit (.lit (.lit (.nil)))) (.lit (.lit (.nil))))) h (by kernel_rfl)
def F7:IC:=Jd
def OW:List IRes:=[(.tmp 2)]
abbrev c3u:Nat:=9
def b1n:ZK:=Xp []
theorem c7y{G:PV->Prop}(n:Int)(h:if (decide (n ≥ (-1000000:Int)))=true then G ((.bool (decide (n<=1000000))))else(G ((.bool false)))):Zc b1n 0 (Za OW G) F7 [] (Yr 9 [enc n]):=Zc.tp (.lit (.ask (.lit (.lit (.lit (.nil)))) (.lit (.lit (.nil))))) h (by kernel_rfl)
def XG:IC:=(.seq (.reg [⟨(some 2),(.mv (.c (.bool false))),0,none⟩] none) (.seq (.seq (.reg [⟨(some 5),(.mv (.t 0)),0,none⟩,⟨(some 6),(.len 0 (.t 5)),0,none⟩,⟨(some 7),(.bin .num .eql (.t 6) (.c (.int .i64 0))),0,none⟩,⟨(some 8),(.mv (.t 7)),0,none⟩,⟨(some 9),(.mv (.t 0)),0,(some (8,false))⟩,⟨(some 10),(.len 0 (.t 9)),0,(some (8,false))⟩,⟨(some 11),(.bin .num .gtr (.t 10) (.c (.int .i64 30))),0,(some (8,false))⟩,⟨(some 12),(.pick (.t 8) (.c (.bool true)) (.t 11)),0,none⟩] none) (.cond (.t 12) (.seq (.reg [⟨(some 2),(.mv (.c (.bool false))),0,none⟩] none) .ret) .skip)) (.seq (.seq (.reg [⟨(some 13),(.mv (.t 0)),0,none⟩,⟨(some 14),(.index (.t 13) (.c (.int .i64 0))),0,none⟩,⟨(some 15),(.bin .num .eql (.t 14) (.c (.int .u8 95))),0,none⟩] none) (.cond (.t 15) (.seq (.seq (.reg [⟨(some 16),(.mv (.t 0)),0,none⟩,⟨(some 17),(.len 0 (.t 16)),0,none⟩,⟨(some 18),(.bin .num .lss (.t 17) (.c (.int .i64 2))),0,none⟩,⟨(some 19),(.mv (.t 18)),0,none⟩,⟨(some 20),(.mv (.t 0)),0,(some (19,false))⟩,⟨(some 21),(.len 0 (.t 20)),0,(some (19,false))⟩,⟨(some 22),(.bin .num .gtr (.t 21) (.c (.int .i64 10))),0,(some (19,false))⟩,⟨(some 23),(.pick (.t 19) (.c (.bool true)) (.t 22)),0,none⟩,⟨(some 24),(.mv (.t 23)),0,none⟩,⟨(some 25),(.mv (.t 0)),0,(some (24,false))⟩,⟨(some 26),(.index (.t 25) (.c (.int .i64 1))),0,(some (24,false))⟩,⟨(some 27),(.bin .num .eql (.t 26) (.c (.int .u8 48))),0,(some (24,false))⟩,⟨(some 28),(.pick (.t 24) (.c (.bool true)) (.t 27)),0,none⟩] none) (.cond (.t 28) (.seq (.reg [⟨(some 2),(.mv (.c (.bool false))),0,none⟩] none) .ret) .skip)) (.seq (.seq (.reg [⟨(some 3),(.mv (.c (.int .i64 1))),0,none⟩] none) (.block 0 (.loop [3,0] (.seq (.seq (.reg [⟨(some 29),(.mv (.t 3)),0,none⟩,⟨(some 30),(.mv (.t 0)),0,none⟩,⟨(some 31),(.len 0 (.t 30)),0,none⟩,⟨(some 32),(.bin .num .lss (.t 29) (.t 31)),0,none⟩] none) (.cond (.t 32) .skip (.exit 0))) (.seq (.block 1 (.seq (.reg [⟨(some 35),(.mv (.t 0)),0,none⟩,⟨(some 36),(.mv (.t 3)),0,none⟩,⟨(some 37),(.index (.t 35) (.t 36)),0,none⟩,⟨(some 38),(.call (.c (.fn 155)) [(.t 37)]),0,none⟩,⟨(some 39),(.un .not (.t 38)),2,none⟩] none) (.cond (.t 39) (.seq (.reg [⟨(some 2),(.mv (.c (.bool false))),0,none⟩] none) .ret) .skip))) (.reg [⟨(some 33),(.mv (.t 3)),0,none⟩,⟨(some 34),(.bin .num .add (.t 33) (.c (.int .i64 1))),0,none⟩,⟨(some 3),(.mv (.t 34)),0,none⟩] none)))))) (.seq (.reg [⟨(some 2),(.mv (.c (.bool true))),0,none⟩] none) .ret))) .skip)) (.seq (.seq (.reg [⟨(some 4),(.mv (.c (.int .i64 0))),0,none⟩] none) (.block 2 (.loop [4,0] (.seq (.seq (.reg [⟨(some 40),(.mv (.t 4)),0,none⟩,⟨(some 41),(.mv (.t 0)),0,none⟩,⟨(some 42),(.len 0 (.t 41)),0,none⟩,⟨(some 43),(.bin .num .lss (.t 40) (.t 42)),0,none⟩] none) (.cond (.t 43) .skip (.exit 2))) (.seq (.block 3 (.seq (.reg [⟨(some 46),(.mv (.t 0)),0,none⟩,⟨(some 47),(.mv (.t 4)),0,none⟩,⟨(some 48),(.index (.t 46) (.t 47)),0,none⟩,⟨(some 49),(.call (.c (.fn 156)) [(.t 48)]),0,none⟩,⟨(some 50),(.un .not (.t 49)),2,none⟩,⟨(some 51),(.mv (.t 50)),2,none⟩,⟨(some 52),(.mv (.t 4)),2,(some (51,true))⟩,⟨(some 53),(.bin .num .eql (.t 52) (.c (.int .i64 0))),2,(some (51,true))⟩,⟨(some 54),(.mv (.t 53)),2,(some (51,true))⟩,⟨(some 55),(.mv (.t 0)),2,(some (54,false))⟩,⟨(some 56),(.mv (.t 4)),2,(some (54,false))⟩,⟨(some 57),(.index (.t 55) (.t 56)),2,(some (54,false))⟩,⟨(some 58),(.call (.c (.fn 155)) [(.t 57)]),2,(some (54,false))⟩,⟨(some 59),(.un .not (.t 58)),4,(some (54,false))⟩,⟨(some 60),(.pick (.t 54) (.c (.bool true)) (.t 59)),4,(some (51,true))⟩,⟨(some 61),(.pick (.t 51) (.t 60) (.c (.bool false))),4,none⟩] none) (.cond (.t 61) (.seq (.reg [⟨(some 2),(.mv (.c (.bool false))),0,none⟩] none) .ret) .skip))) (.reg [⟨(some 44),(.mv (.t 4)),0,none⟩,⟨(some 45),(.bin .num .add (.t 44) (.c (.int .i64 1))),0,none⟩,⟨(some 4),(.mv (.t 45)),0,none⟩] none)))))) (.seq (.reg [⟨(some 2),(.mv (.c (.bool true))),0,none⟩] none) .ret)))))
def XJ:List IRes:=[(.tmp 2)]
abbrev a7v:Nat:=62
def WJ:ZK:=Xp [(155,.pure (preT (fun _:UInt8×Unit=>true)) (Zf (fun x:UInt8×Unit=>digB x.1))),(156,.pure (preT (fun _:UInt8×Unit=>true)) (Zf (fun x:UInt8×Unit=>Wz x.1)))]
theorem b9w{G:PV->Prop}(s:List UInt8)(h:if ((↑(List.length s):Int)==0)=true then G ((.bool false))else(if (decide ((↑(List.length s):Int)>30))=true then G ((.bool false))else((decide (0<=0)&&decide (Int.toNat 0<List.length s))=true∧(if ((↑(UInt8.toNat (List.getD s (Int.toNat 0) (0:UInt8))):Int)==95)=true then if (decide ((↑(List.length s):Int)<2))=true then G ((.bool false))else(if (decide ((↑(List.length s):Int)>10))=true then G ((.bool false))else((decide (0<=1)&&decide (Int.toNat 1<List.length s))=true∧(if ((↑(UInt8.toNat (List.getD s (Int.toNat 1) (0:UInt8))):Int)==48)=true then G ((.bool false))else(At WJ 0 (Za XJ G) XG 0 62 [(0,(.pv (.str s))),(3,(.pv (.int .i64 1)))] []))))else(At WJ 0 (Za XJ G) XG 1 62 [(0,(.pv (.str s))),(4,(.pv (.int .i64 0)))] []))))):Zc WJ 0 (Za XJ G) XG [] (Yr 62 [.str s]):=Zc.tp (.lit (.ask (.lit (.lit (.lit (.lit (.nil))))) (.lit (.lit (.lit (.lit (.ask (.nil) (.req (.lit (.ask (.lit (.ask (.lit (.lit (.lit (.lit (.lit (.lit (.lit (.lit (.nil))))))))) (.lit (.lit (.lit (.lit (.ask (.lit (.lit (.lit (.lit (.nil))))) (.lit (.req (.lit (.lit (.lit (.ask (.nil) (.nil)))))))))))))) (.nil))))))))))) h (by kernel_rfl)
theorem Ma{G:PV->Prop}(s:List UInt8)(i:Int)(h:if (decide (i<(↑(List.length s):Int)))=true then(decide (0<=i)&&decide (Int.toNat i<List.length s))=true∧((Go.Pl.preT (fun(x:UInt8×Unit)=>true) [(.int IntKind.u8 (↑(UInt8.toNat (List.getD s (Int.toNat i) (0:UInt8))):Int))])=true∧(∃ y0:Bool,AV.pv (Zf (fun(x:UInt8×Unit)=>digB x.1) [(.int IntKind.u8 (↑(UInt8.toNat (List.getD s (Int.toNat i) (0:UInt8))):Int))])=AV.pv (enc y0)∧(if (!y0)=true then G ((.bool false))else(At WJ 0 (Za XJ G) XG 0 62 [(0,(.pv (.str s))),(3,(.pv (.int .i64 (IntKind.wrap IntKind.i64 (i+1)))))] []))))else(G ((.bool true)))):At WJ 0 (Za XJ G) XG 0 62 [(0,.pv (.str s)),(3,.pv (.int .i64 i))] []:=At.tp (.lit (.ask (.req (.req (.abs (Bool) (fun YY=>AV.pv (enc YY)) (.ask (.nil) (.lit (.nil)))))) (.nil))) h (by kernel_rfl)
theorem BQ{G:PV->Prop}(s:List UInt8)(i:Int)(h:if (decide (i<(↑(List.length s):Int)))=true then(decide (0<=i)&&decide (Int.toNat i<List.length s))=true∧((Go.Pl.preT (fun(x:UInt8×Unit)=>true) [(.int IntKind.u8 (↑(UInt8.toNat (List.getD s (Int.toNat i) (0:UInt8))):Int))])=true∧(∃ y0:Bool,AV.pv (Zf (fun(x:UInt8×Unit)=>Wz x.1) [(.int IntKind.u8 (↑(UInt8.toNat (List.getD s (Int.toNat i) (0:UInt8))):Int))])=AV.pv (enc y0)∧(if (!y0)=true then if (i==0)=true then G ((.bool false))else((decide (0<=i)&&decide (Int.toNat i<List.length s))=true∧((Go.Pl.preT (fun(x:UInt8×Unit)=>true) [(.int IntKind.u8 (↑(UInt8.toNat (List.getD s (Int.toNat i) (0:UInt8))):Int))])=true∧(∃ y1:Bool,AV.pv (Zf (fun(x:UInt8×Unit)=>digB x.1) [(.int IntKind.u8 (↑(UInt8.toNat (List.getD s (Int.toNat i) (0:UInt8))):Int))])=AV.pv (enc y1)∧(if (!y1)=true then G ((.bool false))else(At WJ 0 (Za XJ G) XG 1 62 [(0,(.pv (.str s))),(4,(.pv (.int .i64 (IntKind.wrap IntKind.i64 (i+1)))))] [])))))else(At WJ 0 (Za XJ G) XG 1 62 [(0,(.pv (.str s))),(4,(.pv (.int .i64 (IntKind.wrap IntKind.i64 (i+1)))))] []))))else(G ((.bool true)))):At WJ 0 (Za XJ G) XG 1 62 [(0,.pv (.str s)),(4,.pv (.int .i64 i))] []:=At.tp (.lit (.ask (.req (.req (.abs (Bool) (fun YY=>AV.pv (enc YY)) (.ask (.lit (.lit (.lit (.ask (.lit (.lit (.lit (.lit (.lit (.lit (.lit (.lit (.nil))))))))) (.lit (.lit (.req (.lit (.req (.abs (Bool) (fun YY=>AV.pv (enc YY)) (.lit (.lit (.lit (.lit (.ask (.nil) (.lit (.nil))))))))))))))))) (.lit (.lit (.lit (.lit (.lit (.lit (.nil))))))))))) (.nil))) h (by kernel_rfl)
def Wl:IC:=(.seq (.reg [⟨(some 1),(.box 2 (.t 0)),0,none⟩,⟨(some 2),(.mv (.c (.bool false))),1,none⟩] none) (.seq (.seq (.reg [⟨(some 5),(.faddr 0 (.t 1)),0,none⟩,⟨(some 6),(.load false [(.int .i64)] (.t 5)),0,none⟩,⟨(some 7),(.call (.c (.fn 83)) [(.t 6)]),0,none⟩,⟨(some 8),(.un .not (.t 7)),2,none⟩,⟨(some 9),(.mv (.t 8)),2,none⟩,⟨(some 10),(.faddr 1 (.t 1)),2,(some (9,false))⟩,⟨(some 11),(.load false [(.sl 2)] (.t 10)),2,(some (9,false))⟩,⟨(some 12),(.len 1 (.t 11)),2,(some (9,false))⟩,⟨(some 13),(.bin .num .gtr (.t 12) (.c (.int .i64 12))),2,(some (9,false))⟩,⟨(some 14),(.pick (.t 9) (.c (.bool true)) (.t 13)),2,none⟩] none) (.cond (.t 14) (.seq (.reg [⟨(some 2),(.mv (.c (.bool false))),0,none⟩] none) .ret) .skip)) (.seq (.seq (.reg [⟨(some 3),(.mv (.c (.int .i64 0))),0,none⟩] none) (.block 0 (.loop [3,1] (.seq (.seq (.reg [⟨(some 15),(.mv (.t 3)),0,none⟩,⟨(some 16),(.faddr 1 (.t 1)),0,none⟩,⟨(some 17),(.load false [(.sl 2)] (.t 16)),0,none⟩,⟨(some 18),(.len 1 (.t 17)),0,none⟩,⟨(some 19),(.bin .num .lss (.t 15) (.t 18)),0,none⟩] none) (.cond (.t 19) .skip (.exit 0))) (.seq (.block 1 (.seq (.reg [⟨(some 22),(.faddr 1 (.t 1)),0,none⟩,⟨(some 23),(.load false [(.sl 2)] (.t 22)),0,none⟩,⟨(some 24),(.mv (.t 3)),0,none⟩,⟨(some 25),(.iaddr 2 (.t 23) (.t 24)),0,none⟩,⟨(some 26),(.load true [.str,(.int .i64)] (.t 25)),0,none⟩,⟨(some 4),(.alloc (.agg [(.str []),(.int .i64 0)])),0,none⟩,⟨none,(.store 2 (.t 4) (.t 26)),1,none⟩] none) (.seq (.reg [⟨(some 27),(.faddr 0 (.t 4)),0,none⟩,⟨(some 28),(.load false [.str] (.t 27)),0,none⟩,⟨(some 29),(.call (.c (.fn 84)) [(.t 28)]),0,none⟩,⟨(some 30),(.un .not (.t 29)),2,none⟩,⟨(some 31),(.mv (.t 30)),2,none⟩,⟨(some 32),(.faddr 1 (.t 4)),2,(some (31,false))⟩,⟨(some 33),(.load false [(.int .i64)] (.t 32)),2,(some (31,false))⟩,⟨(some 34),(.bin .num .eql (.t 33) (.c (.int .i64 0))),2,(some (31,false))⟩,⟨(some 35),(.pick (.t 31) (.c (.bool true)) (.t 34)),2,none⟩,⟨(some 36),(.mv (.t 35)),2,none⟩,⟨(some 37),(.faddr 1 (.t 4)),2,(some (36,false))⟩,⟨(some 38),(.load false [(.int .i64)] (.t 37)),2,(some (36,false))⟩,⟨(some 39),(.call (.c (.fn 83)) [(.t 38)]),2,(some (36,false))⟩,⟨(some 40),(.un .not (.t 39)),4,(some (36,false))⟩,⟨(some 41),(.pick (.t 36) (.c (.bool true)) (.t 40)),4,none⟩,⟨(some 42),(.mv (.t 41)),4,none⟩,⟨(some 43),(.mv (.t 3)),4,(some (42,false))⟩,⟨(some 44),(.bin .num .gtr (.t 43) (.c (.int .i64 0))),4,(some (42,false))⟩,⟨(some 45),(.mv (.t 44)),4,(some (42,false))⟩,⟨(some 46),(.faddr 1 (.t 1)),4,(some (45,true))⟩,⟨(some 47),(.load false [(.sl 2)] (.t 46)),4,(some (45,true))⟩,⟨(some 48),(.mv (.t 3)),4,(some (45,true))⟩,⟨(some 49),(.bin .num .sub (.t 48) (.c (.int .i64 1))),4,(some (45,true))⟩,⟨(some 50),(.iaddr 2 (.t 47) (.t 49)),4,(some (45,true))⟩,⟨(some 51),(.faddr 0 (.t 50)),4,(some (45,true))⟩,⟨(some 52),(.load false [.str] (.t 51)),4,(some (45,true))⟩,⟨(some 53),(.faddr 0 (.t 4)),4,(some (45,true))⟩,⟨(some 54),(.load false [.str] (.t 53)),4,(some (45,true))⟩,⟨(some 55),(.bin .num .geq (.t 52) (.t 54)),4,(some (45,true))⟩,⟨(some 56),(.pick (.t 45) (.t 55) (.c (.bool false))),4,(some (42,false))⟩,⟨(some 57),(.pick (.t 42) (.c (.bool true)) (.t 56)),4,none⟩] (some [[],[0],[1,0],[2,1,0],[3,2,1,0],[4,3,2,1,0],[5,4,3,2,1,0],[6,4,5,3,2,1,0],[4,7,3,2,1,0,6,5],[8,4,7,3,2,1,0,6,5],[9,8,4,7,3,2,1,0,6,5],[10,9,8,4,7,3,2,1,0,6,5],[11,9,10,8,4,7,3,2,1,0,6,5],[12,9,11,10,8,4,7,3,2,1,0,6,5],[9,13,8,4,7,3,2,1,0,6,5,12,11,10],[14,12,9,13,8,4,7,3,2,1,0,6,5,11,10],[15,14,12,9,13,8,4,7,3,2,1,0,6,5,11,10],[16,15,14,12,9,13,8,4,7,3,2,1,0,6,5,11,10],[17,15,16,14,12,9,13,8,4,7,3,2,1,0,6,5,11,10],[18,17,15,16,14,12,9,13,8,4,7,3,2,1,0,6,5,11,10],[19,18,17,15,16,14,12,9,13,8,4,7,3,2,1,0,6,5,11,10],[18,17,15,16,14,12,9,13,8,4,7,3,2,1,0,6,5,11,10],[21,18,17,15,16,14,12,9,13,8,4,7,3,2,1,0,6,5,11,10],[20,22,18,19,17,15,16,14,12,9,13,8,4,7,3,2,1,0,6,5,11,10,21],[23,18,20,22,19,17,15,16,14,12,9,13,8,4,7,3,2,1,0,6,5,11,10,21],[24,18,23,20,22,19,17,15,16,14,12,9,13,8,4,7,3,2,1,0,6,5,11,10,21],[18,17,15,16,14,12,9,13,8,4,7,3,2,1,0,6,5,11,10],[26,18,17,15,16,14,12,9,13,8,4,7,3,2,1,0,6,5,11,10],[25,27,18,24,23,20,22,19,17,15,16,14,12,9,13,8,4,7,3,2,1,0,6,5,11,10,21,26],[18,28,15,17,16,14,12,9,13,8,4,7,3,2,1,0,6,5,11,10,25,27,24,23,20,22,19,21,26],[15,29,14,12,9,13,8,4,7,3,2,1,0,6,5,11,10,18,28,17,16,25,27,24,23,20,22,19,21,26]])) (.cond (.t 57) (.seq (.reg [⟨(some 2),(.mv (.c (.bool false))),0,none⟩] none) .ret) .skip)))) (.reg [⟨(some 20),(.mv (.t 3)),0,none⟩,⟨(some 21),(.bin .num .add (.t 20) (.c (.int .i64 1))),0,none⟩,⟨(some 3),(.mv (.t 21)),0,none⟩] none)))))) (.seq (.reg [⟨(some 2),(.mv (.c (.bool true))),0,none⟩] none) .ret))))
def Wd:List IRes:=[(.tmp 2)]
abbrev a2z:Nat:=58
def Vk:ZK:=Xp [(83,.pure (preT (fun _:Int×Unit=>true)) (Zf (fun x:Int×Unit=>YF x.1))),(84,.pure (preT (fun _:Str×Unit=>true)) (Zf (fun x:Str×Unit=>ZB x.1)))]
theorem a9m{G:PV->Prop}(l:Lin)(h : ∃ y0:Bool,AV.pv (Zf (fun(x:Int×Unit)=>YF x.1) [(.int .i64 l.k)])=AV.pv (enc y0)∧(if (!y0)=true then G ((.bool false))else(if (decide ((↑(List.length (List.map enc l.t)):Int)>12))=true then G ((.bool false))else(At Vk 0 (Za Wd G) Wl 0 58 [(1,(.ptr 0 0)),(3,(.pv (.int .i64 0)))] [(.obj (.box [(.pv (.int .i64 l.k)),(.pv (.sl 2 false (List.map enc l.t)))]))])))):Zc Vk 0 (Za Wd G) Wl [] (Yr 58 [enc l]):=Zc.tp (.lit (.abs (Bool) (fun YY=>AV.pv (enc YY)) (.ask (.lit (.lit (.lit (.lit (.lit (.nil)))))) (.lit (.lit (.lit (.lit (.lit (.ask (.nil) (.nil)))))))))) h (by kernel_rfl)
theorem TR{G:PV->Prop}(l:Lin)(i:Int)(h:if (decide (i<(↑(List.length (List.map enc l.t)):Int)))=true then(decide (0<=i)&&decide (Int.toNat i<List.length (List.map enc l.t))&&Enc.sz Coef==2)=true∧(∃ y0:Coef,AV.pv (PV.rptr (PV.cells (List.getD (List.map enc l.t) (Int.toNat i) default)))=AV.pv (PV.rptr (PV.cells ((enc) y0)))∧(∃ y1:Bool,AV.pv (Zf (fun(x:Str×Unit)=>ZB x.1) [(.str (PV.asStr (List.getD (PV.cells (enc y0)) 0 default)))])=AV.pv (enc y1)∧(if (!y1)=true then G ((.bool false))else(if (PV.asInt (List.getD (PV.cells (enc y0)) (0+1) default)==0)=true then G ((.bool false))else(∃ y2:Bool,AV.pv (Zf (fun(x:Int×Unit)=>YF x.1) [(.int .i64 (PV.asInt (List.getD (PV.cells (enc y0)) (0+1) default)))])=AV.pv (enc y2)∧(if (!y2)=true then G ((.bool false))else(if (decide (i>0))=true then(decide (0<=IntKind.wrap IntKind.i64 (i - 1))&&decide (Int.toNat (IntKind.wrap IntKind.i64 (i - 1))<List.length (List.map enc l.t))&&Enc.sz Coef==2)=true∧(∃ y3:Coef,AV.pv (PV.rptr (PV.cells (List.getD (List.map enc l.t) (Int.toNat (IntKind.wrap IntKind.i64 (i - 1))) default)))=AV.pv (PV.rptr (PV.cells ((enc) y3)))∧(if (!Op.bytesLess (PV.asStr (List.getD (List.drop 0 (PV.cells (enc y3))) 0 default)) (PV.asStr (List.getD (PV.cells (enc y0)) 0 default)))=true then G ((.bool false))else(At Vk 0 (Za Wd G) Wl 0 58 [(1,(.ptr 0 0)),(3,(.pv (.int .i64 (IntKind.wrap IntKind.i64 (i+1)))))] [(.obj (.box [(.pv (.int .i64 l.k)),(.pv (.sl 2 false (List.map enc l.t)))]))])))else(At Vk 0 (Za Wd G) Wl 0 58 [(1,(.ptr 0 0)),(3,(.pv (.int .i64 (IntKind.wrap IntKind.i64 (i+1)))))] [(.obj (.box [(.pv (.int .i64 l.k)),(.pv (.sl 2 false (List.map enc l.t)))]))]))))))))else(G ((.bool true)))):At Vk 0 (Za Wd G) Wl 0 58 [(1,.ptr 0 0),(3,.pv (.int .i64 i))] [.obj (.box [.pv (.int .i64 l.k),.pv (enc l.t)])]:=At.tp (.lit (.ask (.req (.abs (Coef) (fun YY=>AV.pv (PV.rptr (PV.cells ((enc) YY)))) (.lit (.lit (.abs (Bool) (fun YY=>AV.pv (enc YY)) (.ask (.lit (.lit (.lit (.lit (.lit (.lit (.lit (.lit (.lit (.lit (.lit (.lit (.lit (.lit (.nil))))))))))))))) (.lit (.lit (.lit (.lit (.ask (.lit (.lit (.lit (.lit (.lit (.lit (.lit (.lit (.lit (.lit (.nil))))))))))) (.lit (.lit (.lit (.abs (Bool) (fun YY=>AV.pv (enc YY)) (.lit (.lit (.ask (.lit (.lit (.lit (.lit (.lit (.nil)))))) (.lit (.lit (.lit (.ask (.lit (.lit (.lit (.lit (.lit (.req (.abs (Coef) (fun YY=>AV.pv (PV.rptr (PV.cells ((enc) YY)))) (.lit (.lit (.lit (.lit (.lit (.lit (.lit (.lit (.lit (.lit (.ask (.nil) (.lit (.nil)))))))))))))))))))) (.lit (.lit (.lit (.lit (.lit (.lit (.lit (.lit (.lit (.lit (.lit (.lit (.lit (.lit (.nil))))))))))))))))))))))))))))))))))))) (.nil))) h (by kernel_rfl)
def QU:IC:=(.seq (.reg [⟨(some 2),(.box 2 (.t 0)),0,none⟩,⟨(some 4),(.mv (.c (.bool false))),1,none⟩] none) (.seq (.seq (.reg [⟨(some 5),(.mv (.c (.int .i64 0))),0,none⟩] none) (.block 0 (.loop [5,2,1] (.seq (.seq (.reg [⟨(some 6),(.mv (.t 5)),0,none⟩,⟨(some 7),(.faddr 1 (.t 2)),0,none⟩,⟨(some 8),(.load false [(.sl 2)] (.t 7)),0,none⟩,⟨(some 9),(.len 1 (.t 8)),0,none⟩,⟨(some 10),(.bin .num .lss (.t 6) (.t 9)),0,none⟩] none) (.cond (.t 10) .skip (.exit 0))) (.seq (.block 1 (.seq (.reg [⟨(some 13),(.faddr 1 (.t 2)),0,none⟩,⟨(some 14),(.load false [(.sl 2)] (.t 13)),0,none⟩,⟨(some 15),(.mv (.t 5)),0,none⟩,⟨(some 16),(.iaddr 2 (.t 14) (.t 15)),0,none⟩,⟨(some 17),(.faddr 0 (.t 16)),0,none⟩,⟨(some 18),(.load false [.str] (.t 17)),0,none⟩,⟨(some 19),(.len 0 (.t 18)),0,none⟩,⟨(some 20),(.bin .num .gtr (.t 19) (.c (.int .i64 40))),0,none⟩] none) (.cond (.t 20) (.seq (.reg [⟨(some 4),(.mv (.c (.bool false))),0,none⟩] none) .ret) .skip))) (.reg [⟨(some 11),(.mv (.t 5)),0,none⟩,⟨(some 12),(.bin .num .add (.t 11) (.c (.int .i64 1))),0,none⟩,⟨(some 5),(.mv (.t 12)),0,none⟩] none)))))) (.seq (.reg [⟨(some 21),(.faddr 1 (.t 2)),0,none⟩,⟨(some 22),(.load false [(.sl 2)] (.t 21)),0,none⟩,⟨(some 23),(.len 1 (.t 22)),0,none⟩,⟨(some 24),(.mv (.t 1)),0,none⟩,⟨(some 25),(.bin .num .leq (.t 23) (.t 24)),0,none⟩,⟨(some 4),(.mv (.t 25)),0,none⟩] none) .ret)))
def QZ:List IRes:=[(.tmp 4)]
abbrev c0k:Nat:=26
def JE:ZK:=Xp []
theorem c4v{G:PV->Prop}(l:Lin)(n:Int)(h:At JE 0 (Za QZ G) QU 0 26 [(1,(.pv (.int .i64 n))),(2,(.ptr 0 0)),(5,(.pv (.int .i64 0)))] [(.obj (.box [(.pv (.int .i64 l.k)),(.pv (.sl 2 false (List.map enc l.t)))]))]):Zc JE 0 (Za QZ G) QU [] (Yr 26 [enc l,enc n]):=Zc.tp (.nil) h (by kernel_rfl)
theorem a1y{G:PV->Prop}(l:Lin)(n:Int)(i:Int)(h:if (decide (i<(↑(List.length (List.map enc l.t)):Int)))=true then(decide (0<=i)&&decide (Int.toNat i<List.length (List.map enc l.t))&&Enc.sz Coef==2)=true∧(∃ y0:Coef,AV.pv (PV.rptr (PV.cells (List.getD (List.map enc l.t) (Int.toNat i) default)))=AV.pv (PV.rptr (PV.cells ((enc) y0)))∧(if (decide ((↑(List.length (PV.asStr (List.getD (List.drop 0 (PV.cells (enc y0))) 0 default))):Int)>40))=true then G ((.bool false))else(At JE 0 (Za QZ G) QU 0 26 [(1,(.pv (.int .i64 n))),(2,(.ptr 0 0)),(5,(.pv (.int .i64 (IntKind.wrap IntKind.i64 (i+1)))))] [(.obj (.box [(.pv (.int .i64 l.k)),(.pv (.sl 2 false (List.map enc l.t)))]))])))else(G ((.bool (decide ((↑(List.length (List.map enc l.t)):Int)<=n)))))):At JE 0 (Za QZ G) QU 0 26 [(1,.pv (.int .i64 n)),(2,.ptr 0 0),(5,.pv (.int .i64 i))] [.obj (.box [.pv (.int .i64 l.k),.pv (enc l.t)])]:=At.tp (.lit (.ask (.req (.abs (Coef) (fun YY=>AV.pv (PV.rptr (PV.cells ((enc) YY)))) (.lit (.lit (.ask (.nil) (.lit (.nil))))))) (.lit (.nil)))) h (by kernel_rfl)
def UA:IC:=(.seq (.reg [⟨(some 4),(.mv (.c (.bool false))),0,none⟩] none) (.seq (.seq (.reg [⟨(some 5),(.mv (.c (.int .i64 0))),0,none⟩] none) (.block 0 (.loop [5,0,1] (.seq (.seq (.reg [⟨(some 6),(.mv (.t 5)),0,none⟩,⟨(some 7),(.mv (.t 0)),0,none⟩,⟨(some 8),(.len 1 (.t 7)),0,none⟩,⟨(some 9),(.bin .num .lss (.t 6) (.t 8)),0,none⟩] none) (.cond (.t 9) .skip (.exit 0))) (.seq (.block 1 (.seq (.reg [⟨(some 12),(.mv (.t 0)),0,none⟩,⟨(some 13),(.mv (.t 5)),0,none⟩,⟨(some 14),(.iaddr 3 (.t 12) (.t 13)),0,none⟩,⟨(some 15),(.faddr 1 (.t 14)),0,none⟩,⟨(some 16),(.load true [(.int .i64),(.sl 2)] (.t 15)),0,none⟩,⟨(some 17),(.call (.c (.fn 16)) [(.t 16),(.c (.int .i64 8))]),0,none⟩,⟨(some 18),(.un .not (.t 17)),2,none⟩] none) (.cond (.t 18) (.seq (.reg [⟨(some 4),(.mv (.c (.bool false))),0,none⟩] none) .ret) .skip))) (.reg [⟨(some 10),(.mv (.t 5)),0,none⟩,⟨(some 11),(.bin .num .add (.t 10) (.c (.int .i64 1))),0,none⟩,⟨(some 5),(.mv (.t 11)),0,none⟩] none)))))) (.seq (.reg [⟨(some 19),(.mv (.t 0)),0,none⟩,⟨(some 20),(.len 1 (.t 19)),0,none⟩,⟨(some 21),(.mv (.t 1)),0,none⟩,⟨(some 22),(.bin .num .leq (.t 20) (.t 21)),0,none⟩,⟨(some 4),(.mv (.t 22)),0,none⟩] none) .ret)))
def UM:List IRes:=[(.tmp 4)]
abbrev b1b:Nat:=23
def Q6:ZK:=Xp [(16,.pure (preT (fun x:Lin×Int×Unit=>Xq x.1)) (Zf (fun x:Lin×Int×Unit=>QR x.1 x.2.1)))]
theorem b9s{G:PV->Prop}(l:List Fact)(n:Int)(h:At Q6 0 (Za UM G) UA 0 23 [(0,(.pv (.sl 3 false (List.map enc l)))),(1,(.pv (.int .i64 n))),(5,(.pv (.int .i64 0)))] []):Zc Q6 0 (Za UM G) UA [] (Yr 23 [enc l,enc n]):=Zc.tp (.nil) h (by kernel_rfl)
theorem M4{G:PV->Prop}(l:List Fact)(n:Int)(i:Int)(h:if (decide (i<(↑(List.length (List.map enc l)):Int)))=true then(decide (0<=i)&&decide (Int.toNat i<List.length (List.map enc l))&&Enc.sz Fact==3)=true∧(∃ y0:Fact,AV.pv (PV.rptr (PV.cells (List.getD (List.map enc l) (Int.toNat i) default)))=AV.pv (PV.rptr (PV.cells ((enc) y0)))∧((Go.Pl.preT (fun(x:Lin×Int×Unit)=>Xq x.1) [(.agg [(.int .i64 (PV.asInt (List.getD (List.drop 1 (PV.cells (enc y0))) 0 default))),(.sl 2 false (PV.asXs (List.getD (List.drop 1 (PV.cells (enc y0))) (0+1) default)))]),(.int .i64 8)])=true∧(∃ y1:Bool,AV.pv (Zf (fun(x:Lin×Int×Unit)=>QR x.1 x.2.1) [(.agg [(.int .i64 (PV.asInt (List.getD (List.drop 1 (PV.cells (enc y0))) 0 default))),(.sl 2 false (PV.asXs (List.getD (List.drop 1 (PV.cells (enc y0))) (0+1) default)))]),(.int .i64 8)])=AV.pv (enc y1)∧(if (!y1)=true then G ((.bool false))else(At Q6 0 (Za UM G) UA 0 23 [(0,(.pv (.sl 3 false (List.map enc l)))),(1,(.pv (.int .i64 n))),(5,(.pv (.int .i64 (IntKind.wrap IntKind.i64 (i+1)))))] [])))))else(G ((.bool (decide ((↑(List.length (List.map enc l)):Int)<=n)))))):At Q6 0 (Za UM G) UA 0 23 [(0,.pv (enc l)),(1,.pv (.int .i64 n)),(5,.pv (.int .i64 i))] []:=At.tp (.lit (.ask (.req (.abs (Fact) (fun YY=>AV.pv (PV.rptr (PV.cells ((enc) YY)))) (.lit (.req (.abs (Bool) (fun YY=>AV.pv (enc YY)) (.ask (.nil) (.lit (.nil)))))))) (.lit (.nil)))) h (by kernel_rfl)
-- IMPOSSIBLE
def OX:IC:=(.seq (.reg [⟨(some 2),(.alloc (.agg [(.int .i64 0),(.sl 0 true [])])),0,none⟩] none) (.seq (.reg [⟨(some 3),(.mv (.t 0)),0,none⟩,⟨(some 4),(.build [(.int .i64 0),(.sl 0 true [])] [(0,(1,(.t 3)))]),0,none⟩,⟨none,(.store 2 (.t 2) (.t 4)),0,none⟩] none) .ret))
def Oo:List IRes:=[(.cell true 2 2)]
abbrev c4i:Nat:=5
def b0v:ZK:=Xp []
theorem c8n{G:PV->Prop}(n:Int)(h:G ((.agg [(.int .i64 n),(.sl 0 true [])]))):Zc b0v 0 (Za Oo G) OX [] (Yr 5 [enc n]):=Zc.tp (.nil) h (by kernel_rfl)
end Go.Pl

namespace Go.Pl
open Go.RowKit
open Enc (enc dec is)
open EncL (encL decL isL)
theorem c5u(c:UInt8):digB c=(decide ((c.toNat:Int) ≥ 48)&&decide ((c.toNat:Int)<=57)):=by
 simp only[digB,UInt8.le_iff_toNat_le,ge_iff_le]
 have e1:(48:UInt8).toNat=48:=rfl
 have e2:(57:UInt8).toNat=57:=rfl
 rw[e1,e2]
 congr 1 <;> exact decide_eq_decide.2 (by omega)
theorem c7j(c:UInt8):Wz c=(decide ((c.toNat:Int) ≥ 97)&&decide ((c.toNat:Int)<=122)):=by
 simp only[Wz,UInt8.le_iff_toNat_le,ge_iff_le]
 have e1:(97:UInt8).toNat=97:=rfl
 have e2:(122:UInt8).toNat=122:=rfl
 rw[e1,e2]
 congr 1 <;> exact decide_eq_decide.2 (by omega)
theorem Py{a b:Bool}{G:PV->Prop}(h:G (.bool (a&&b))):if a=true then G (.bool b)else G (.bool false):=by cases a <;> simpa using h
theorem a8j: ∀ a:UInt8×Unit,true=true->Zc FM 0 (Za Nl (Zj (digB a.1))) PH [] (Yr b8b (encL a)):=by
 rintro⟨c,⟨⟩⟩ -
 exact c4t c (Py (ZM (c5u c).symm))
theorem b3f: ∀ a:UInt8×Unit,true=true->Zc FU 0 (Za Px (Zj (Wz a.1))) Pf [] (Yr b8e (encL a)):=by
 rintro⟨c,⟨⟩⟩ -
 exact c4g c (Py (ZM (c7j c).symm))
theorem Ou: ∀ a:Int×Unit,true=true->Zc Be 0 (Za Gy (Zj (YF a.1))) Jd [] (Yr a2w (encL a)):=by
 rintro⟨n,⟨⟩⟩ -
 exact b1a n (Py (ZM rfl))
theorem c1s: ∀ a:Int×Unit,true=true->Zc b1n 0 (Za OW (Zj (YF a.1))) F7 [] (Yr c3u (encL a)):=by
 rintro⟨n,⟨⟩⟩ -
 exact c7y n (Py (ZM rfl))
theorem b0u(s:List UInt8)(hs:s.length<=30): ∀ (j i:Nat),j+i=s.length->At WJ 0 (Za XJ (Zj ((s.drop i).all digB))) XG 0 62 [(0,.pv (.str s)),(3,.pv (.int .i64 i))] []:=by
 intro j
 induction j with
 | zero=>
  intro i hi
  refine Ma s i ?_
  rw[if_neg (Ye (by omega))]
  exact ZM (by rw[List.drop_of_length_le (by omega)];rfl)
 | succ j ih=>
  intro i hi
  have hlt:i<s.length:=by omega
  refine Ma s i ?_
  rw[if_pos (Z9 hlt)]
  have eg:List.getD s (Int.toNat (i:Int)) 0=s[i]:=by simp[List.getD,hlt]
  rw[eg,next (by omega)]
  refine⟨by simp[hlt],Ze (s[i],()) rfl rfl,Zd (s[i],()) rfl ?_⟩
  rw[List.drop_eq_getElem_cons hlt,List.all_cons]
  show if (!digB s[i])=true then _ else _
  cases hd:digB s[i]
  ·exact ZM rfl
  ·rw[if_neg (by simp)]
   simpa using ih (i+1) (by omega)
theorem b2j(s:List UInt8)(hs:s.length<=30): ∀ (j i:Nat),j+i=s.length->0<i->At WJ 0 (Za XJ (Zj ((s.drop i).all fun c=>Wz c||digB c))) XG 1 62 [(0,.pv (.str s)),(4,.pv (.int .i64 i))] []:=by
 intro j
 induction j with
 | zero=>
  intro i hi _
  refine BQ s i ?_
  rw[if_neg (Ye (by omega))]
  exact ZM (by rw[List.drop_of_length_le (by omega)];rfl)
 | succ j ih=>
  intro i hi h0
  have hlt:i<s.length:=by omega
  refine BQ s i ?_
  rw[if_pos (Z9 hlt)]
  have eg:List.getD s (Int.toNat (i:Int)) 0=s[i]:=by simp[List.getD,hlt]
  rw[eg,next (by omega)]
  refine⟨by simp[hlt],Ze (s[i],()) rfl rfl,Zd (s[i],()) rfl ?_⟩
  rw[List.drop_eq_getElem_cons hlt,List.all_cons]
  show if (!Wz s[i])=true then _ else _
  cases hd:Wz s[i]
  ·rw[c2n,if_neg (by simp;omega)]
   refine⟨by simp[hlt],Ze (s[i],()) rfl rfl,Zd (s[i],()) rfl ?_⟩
   show if (!digB s[i])=true then _ else _
   cases hd:digB s[i]
   ·exact ZM rfl
   ·rw[if_neg (by simp)]
    simpa using ih (i+1) (by omega) (by omega)
  ·rw[if_neg (by simp)]
   simpa using ih (i+1) (by omega) (by omega)
theorem a4c: ∀ a:Str×Unit,true=true->Zc WJ 0 (Za XJ (Zj (ZB a.1))) XG [] (Yr a7v (encL a)):=by
 rintro⟨⟨s⟩,⟨⟩⟩ -
 refine b9w s ?_
 cases s with
 | nil=>exact ZM rfl
 | cons c r=>
  rw[if_neg (by simp;omega)]
  by_cases h30:((c::r).length:Int)>30
  ·rw[if_pos (by simpa using h30)]
   refine ZM ?_
   have : ¬ r.length<=29:=by simp at h30;omega
   have h9 : ¬ r.length<=9:=by omega
   simp[ZB,this,h9]
  ·rw[if_neg (by simpa using h30)]
   have hl:(c::r).length<=30:=by omega
   refine⟨by simp,?_⟩
   show if ((c.toNat:Int)==95)=true then _ else _
   by_cases hc:c=95
   ·subst hc
    rw[if_pos (by rfl)]
    simp only[ZB,if_true]
    cases r with
    | nil=>exact ZM rfl
    | cons d r=>
     rw[if_neg (by simp;omega)]
     by_cases h10:((95::d::r:List UInt8).length:Int)>10
     ·rw[if_pos (by simpa using h10)]
      refine ZM ?_
      have:decide ((d::r).length<=9)=false:=decide_eq_false (by simp at h10 ⊢;omega)
      rw[this,Bool.and_false]
     ·rw[if_neg (by simpa using h10)]
      refine⟨by simp,?_⟩
      show if ((d.toNat:Int)==48)=true then _ else _
      by_cases hd:d=48
      ·subst hd
       rw[if_pos (by rfl)]
       exact ZM (by simp)
      ·rw[if_neg (by exact c3a 48 hd (by omega))]
       have h:=b0u (95::d::r) hl (d::r).length 1 (by simp)
       have e:(d::r).length<=9:=by simp at h10 ⊢;omega
       have e2:((d::r).all digB&& !(d::r).isEmpty&&decide ((d::r).head? ≠ some 48)&&decide ((d::r).length<=9))=(d::r).all digB:=by rw[decide_eq_true e,show decide ((d::r).head? ≠ some (48:UInt8))=true by simpa using hd];simp
       rw[e2]
       exact h
   ·rw[if_neg (by exact c3a 95 hc (by omega))]
    refine BQ (c::r) 0 ?_
    rw[if_pos (by simp)]
    refine⟨by simp,Ze (c,()) rfl rfl,Zd (c,()) rfl ?_⟩
    show if (!Wz c)=true then _ else _
    have en:ZB ⟨c::r⟩=(Wz c&&r.all (fun c=>Wz c||digB c)):=by
     have:r.length<=29:=by simp at hl;omega
     simp[ZB,hc,this]
    rw[en]
    cases hlow:Wz c
    ·rw[c2n,if_pos (by rfl)]
     exact ZM rfl
    ·rw[if_neg (by simp)]
     exact b2j (c::r) hl r.length 1 (by simp) (by omega)
end Go.Pl

namespace Go.Pl
open Go.RowKit
open Enc (enc dec is)
open EncL (encL decL isL)
def AJ(prev:Option (List UInt8)):List Coef->Bool
 | []=>true
 | t::r=>ZB t.v&&decide (t.c≠0)&&YF t.c&&(match prev with|none=>true|some p=>decide (p<t.v.s))&&AJ (some t.v.s) r
theorem Gl(p:Option (List UInt8))(t:Coef)(r:List Coef):AJ p (t::r)=(ZB t.v&&decide (t.c≠0)&&YF t.c&&(match p with|none=>true|some p=>decide (p<t.v.s))&&AJ (some t.v.s) r):=by cases p <;> rfl
theorem ME: ∀ (l:List Coef) (p:List UInt8),AJ (some p) l=(l.all (fun t=>ZB t.v&&decide (t.c≠0)&&YF t.c)&&(match l with|[]=>true|t::_=>decide (p<t.v.s))&&SH l)
 | [],p=>by simp[AJ,SH]
 | t::r,p=>by
  rw[Gl,ME r]
  cases r with
  | nil=>simp[SH]
  | cons u r=>
   simp only[List.all_cons,SH]
   ac_rfl
theorem b5q(l:List Coef):AJ none l=(l.all (fun t=>ZB t.v&&decide (t.c≠0)&&YF t.c)&&SH l):=by
 cases l with
 | nil=>simp[AJ,SH]
 | cons t r=>
  rw[Gl,ME r]
  cases r with
  | nil=>simp[SH]
  | cons u r=>
   simp only[List.all_cons,SH,Bool.and_true]
   ac_rfl
theorem La(l:Lin):Zz l=(YF l.k&&decide (l.t.length<=12)&&AJ none l.t):=by
 rw[b5q,Zz]
 ac_rfl
def pvS(ts:List Coef):Nat->Option (List UInt8)
 | 0=>none
 | i+1=>(ts[i]?).map (·.v.s)
theorem a2n{k:Nat}(h:k<9223372036854775807):IntKind.i64.wrap (((k+1:Nat):Int) - 1)=(k:Int):=by rw[WN (by omega) (by omega)];omega
theorem MU(l:Lin)(hl:l.t.length<=9223372036854775807): ∀ (j i:Nat),j+i=l.t.length->At Vk 0 (Za Wd (Zj (AJ (pvS l.t i) (l.t.drop i)))) Wl 0 58 [(1,.ptr 0 0),(3,.pv (.int .i64 i))] [.obj (.box [.pv (.int .i64 l.k),.pv (enc l.t)])]:=by
 intro j
 induction j with
 | zero=>
  intro i hi
  refine TR l i ?_
  rw[if_neg (Ud (by omega))]
  exact ZM (by rw[List.drop_of_length_le (by omega)];rfl)
 | succ j ih=>
  intro i hi
  have hlt:i<l.t.length:=by omega
  have h:=ih (i+1) (by omega)
  refine TR l i ?_
  simp only[co1,co2,co3,co4]
  refine ZU (WW hlt) ⟨Zq hlt rfl,ZF hlt (Zd (l.t[i].v,()) rfl (XX (fun hn=> ?_) fun hn=>KE (fun hc=> ?_) fun hc=>Zd (l.t[i].c,()) rfl (XX (fun hk=> ?_) fun hk=> ?_)))⟩
  all_goals rw[List.drop_eq_getElem_cons hlt,Gl]
  ·have hn:ZB l.t[i].v=false:=hn
   exact ZM (by simp[hn])
  ·exact ZM (by simp[hc])
  ·have hk:YF l.t[i].c=false:=hk
   exact ZM (by simp[hk])
  have hn:ZB l.t[i].v=true:=hn
  have hk:YF l.t[i].c=true:=hk
  rw[next (by omega),hn,hk,decide_eq_true hc]
  have ep:pvS l.t (i+1)=some l.t[i].v.s:=by simp[pvS,hlt]
  rw[ep]at h
  cases i with
  | zero=>exact ZN (by simp) h
  | succ i=>
   refine ZU (by simp) ?_
   rw[a2n (by omega)]
   refine⟨Zq (by omega) rfl,ZF (by omega) ?_⟩
   have e2:pvS l.t (i+1)=some l.t[i].v.s:=by simp[pvS,show i<l.t.length by omega]
   rw[e2]
   refine XX (fun hb=> ?_) fun hb=> ?_
   all_goals
    have hb':=(Yq l.t[i].v.s l.t[i+1].v.s).symm.trans hb
    simp only[hb',Bool.and_true,Bool.true_and,Bool.and_false,Bool.false_and]
   ·exact ZM rfl
   ·exact h
theorem EB: ∀ a:Lin×Unit,Xq a.1=true->Zc Vk 0 (Za Wd (Zj (Zz a.1))) Wl [] (Yr a2z (encL a)):=by
 rintro⟨l,⟨⟩⟩ hl
 have hl:l.t.length<=9223372036854775807:=by simpa [Xq]using hl
 refine a9m l (Zd (l.k,()) rfl ?_)
 show if (!YF l.k)=true then _ else _
 show if (!YF l.k)=true then Zj (Zz l) _ else if _ then Zj (Zz l) _ else At Vk 0 (Za Wd (Zj (Zz l))) Wl 0 58 _ _
 rw[La]
 cases hk:YF l.k
 ·exact ZM rfl
 rw[c8p]
 by_cases h12:l.t.length<=12
 ·rw[if_neg (by simp;omega)]
  have h:=MU l hl l.t.length 0 (by omega)
  simp only[h12,decide_true,Bool.true_and]
  exact h
 ·rw[if_pos (by simp;omega)]
  exact ZM (by simp[h12])
theorem a4x(l:Lin)(n:Int)(hl:l.t.length<=9223372036854775807): ∀ (j i:Nat),j+i=l.t.length->At JE 0 (Za QZ (Zj ((l.t.drop i).all (fun t=>decide (t.v.s.length<=40))&&decide ((l.t.length:Int)<=n)))) QU 0 26 [(1,.pv (.int .i64 n)),(2,.ptr 0 0),(5,.pv (.int .i64 i))] [.obj (.box [.pv (.int .i64 l.k),.pv (enc l.t)])]:=by
 intro j
 induction j with
 | zero=>
  intro i hi
  exact a1y l n i (ZN (Ud (by omega)) (ZM (by rw[List.drop_of_length_le (by omega),List.length_map];rfl)))
 | succ j ih=>
  intro i hi
  have hlt:i<l.t.length:=by omega
  have h:=ih (i+1) (by omega)
  refine a1y l n i (ZU (WW hlt) ⟨Zq hlt rfl,ZF hlt ?_⟩)
  rw[List.drop_eq_getElem_cons hlt,List.all_cons,next (by omega)]
  refine Xy (fun h40=> ?_) fun h40=> ?_
  ·have h40:(l.t[i].v.s.length:Int)>40:=h40
   exact ZM (by rw[decide_eq_false (show ¬ l.t[i].v.s.length<=40 by omega)];rfl)
  ·have h40 : ¬ (l.t[i].v.s.length:Int)>40:=h40
   rw[decide_eq_true (show l.t[i].v.s.length<=40 by omega),Bool.true_and]
   exact h
theorem b4d: ∀ a:Lin×Int×Unit,Xq a.1=true->Zc JE 0 (Za QZ (Zj (QR a.1 a.2.1))) QU [] (Yr c0k (encL a)):=by
 rintro⟨l,n,⟨⟩⟩ hl
 exact c4v l n (a4x l n (by simpa [Xq]using hl) l.t.length 0 (by omega))
theorem OD(l:List Fact)(n:Int)(hl:l.length<=9223372036854775807)(hk:l.all (fun f=>Xq f.l)=true): ∀ (j i:Nat),j+i=l.length->At Q6 0 (Za UM (Zj ((l.drop i).all (fun f=>QR f.l 8)&&decide ((l.length:Int)<=n)))) UA 0 23 [(0,.pv (enc l)),(1,.pv (.int .i64 n)),(5,.pv (.int .i64 i))] []:=by
 intro j
 induction j with
 | zero=>
  intro i hi
  exact M4 l n i (ZN (Ud (by omega)) (ZM (by rw[List.drop_of_length_le (by omega),List.length_map];rfl)))
 | succ j ih=>
  intro i hi
  have hlt:i<l.length:=by omega
  have h:=ih (i+1) (by omega)
  have ho:Xq l[i].l=true:=by rw[List.all_eq_true]at hk;exact hk _ (List.getElem_mem hlt)
  refine M4 l n i (ZU (WW hlt) ⟨Zq hlt rfl,ZF hlt ⟨Ze (l[i].l,8,()) rfl ho,Zd (l[i].l,8,()) rfl ?_⟩⟩)
  rw[List.drop_eq_getElem_cons hlt,List.all_cons,next (by omega)]
  refine XX (fun hf=> ?_) fun hf=> ?_
  ·have hf:QR l[i].l 8=false:=hf
   exact ZM (by rw[hf];rfl)
  ·have hf:QR l[i].l 8=true:=hf
   rw[hf,Bool.true_and]
   exact h
def Cb(l:List Fact)(n:Int):Bool:=l.all (fun f=>QR f.l 8)&&decide ((l.length:Int)<=n)
def YX(l:List Fact):Bool:=decide (l.length<=9223372036854775807)&&l.all fun f=>Xq f.l
theorem a2y: ∀ a:List Fact×Int×Unit,YX a.1=true->Zc Q6 0 (Za UM (Zj (Cb a.1 a.2.1))) UA [] (Yr b1b (encL a)):=by
 rintro⟨l,n,⟨⟩⟩ hl
 simp only[YX,Bool.and_eq_true,decide_eq_true_eq]at hl
 exact b9s l n (OD l n hl.1 hl.2 l.length 0 (by omega))
end Go.Pl

namespace Go.Pl
open Go.RowKit
open Enc (enc dec is)
open EncL (encL decL isL)
end Go.Pl

namespace Go.Pl
open Go.RowKit
open Enc (enc dec is)
open EncL (encL decL isL)
end Go.Pl

namespace Go.Pl
open Go.RowKit
open Enc (enc dec is)
open EncL (encL decL isL)
end Go.Pl

namespace Go.Pl
open Go.RowKit
open Enc (enc dec is)
open EncL (encL decL isL)
theorem b4p(ts:List Coef)(j:Nat)(x y:Coef):List.set (List.map enc ts) j (PV.withCells (enc y) (splice (PV.cells (enc y)) 0 (PV.cells (PV.agg (QF (PV.cells (enc x)) 0 [Sh.str,Sh.int .i64])))))=List.map enc (ts.set j x):=by
 rw[List.map_set]
 rfl
theorem a7y{α:Type}(f:α->PV){l:List α}{k:Nat}(h:k<l.length):(l.map f).getD (0+(k:Int).toNat) default=f l[k]:=by rw[Nat.zero_add];exact Hu f h
theorem tri{x y:List UInt8}(h1 : ¬ x<y)(h2:x≠y):y<x:=Decidable.byContradiction fun h=>h2 (List.le_antisymm (List.not_lt.1 h) (List.not_lt.1 h1))
theorem a7x(s:Str)(c:Int)(t:Coef)(r:List Coef):Vd s c true (t::r)=(if t.v=s then⟨t.v,V8 (t.c+c)⟩else t)::Vd s c true r:=by
 rw[Vd];simp only[Bool.not_true,Bool.false_and,Bool.false_eq_true,if_false,Bool.true_or,List.nil_append];split <;> rfl
theorem Sy(s:Str)(c:Int)(t:Coef)(r:List Coef):Vd s c false (t::r)=if s.s<t.v.s then⟨s,c⟩::t::Vd s c true r else if t.v=s then⟨t.v,V8 (t.c+c)⟩::Vd s c true r else t::Vd s c false r:=by
 rw[Vd]
 by_cases h:s.s<t.v.s
 ·have : ¬ t.v=s:=fun e=>by rw[e]at h;exact List.lt_irrefl _ h
  simp[h,this]
 ·simp[h]
theorem RB(s:Str)(c:Int): ∀ (l:List Coef),(Vd s c true l).length=l.length
 | []=>by simp[Vd]
 | t::l=>by rw[a7x];simp[RB s c l]
theorem Tj(s:Str)(c:Int): ∀ (l:List Coef),(Vd s c false l).length<=l.length+1
 | []=>by simp[Vd]
 | t::l=>by
  have h1:=RB s c l
  have h2:=Tj s c l
  rw[Sy]
  split
  ·simp[h1]
  ·split <;> simp[h1] <;> omega
theorem a8z(l:Lin)(s:Str)(c:Int):(Kt l s c).t.length<=l.t.length+1:=Nat.le_trans (List.length_filter_le _ _) (Tj s c l.t)
theorem NR{a b:Str}:a=b ↔ a.s=b.s:=⟨fun h=>by rw[h],fun h=>by cases a;cases b;cases h;rfl⟩
theorem b9a: ∀ a:Int×Unit,true=true->Zc b0v 0 (Za Oo (Zj (⟨a.1,[]⟩:Lin))) OX [] (Yr c4i (encL a)):=by
 rintro⟨n,⟨⟩⟩ -
 exact c8n n ⟨by simp,by simp⟩
end Go.Pl

namespace Go.Pl
open Go.RowKit
open Enc (enc dec is)
open EncL (encL decL isL)
set_option maxRecDepth 100000
end Go.Pl

namespace Go.Pl
open Go.RowKit
open Enc (enc dec is)
open EncL (encL decL isL)
end Go.Pl

namespace Go.Pl
open Go.RowKit
open Enc (enc dec is)
open EncL (encL decL isL)
set_option maxRecDepth 100000
def Xx:IC:=(.seq (.reg [⟨(some 2),(.mv (.c (.bool false))),0,none⟩] none) (.seq (.seq (.reg [⟨(some 7),(.mv (.t 0)),0,none⟩,⟨(some 8),(.call (.c (.fn 152)) [(.t 7),(.c (.str [95]))]),0,none⟩] none) (.cond (.t 8) (.seq (.reg [⟨(some 10),(.mv (.t 0)),0,none⟩,⟨(some 11),(.strslc (.t 10) (some (.c (.int .i64 1))) none),0,none⟩,⟨(some 12),(.call (.c (.fn 182)) [(.t 11)]),0,none⟩,⟨(some 9),(.mv (.t 12)),2,none⟩,⟨(some 13),(.extract (.t 9) 0),2,none⟩,⟨(some 14),(.extract (.t 9) 1),2,none⟩,⟨(some 3),(.mv (.t 13)),2,none⟩,⟨(some 4),(.mv (.t 14)),2,none⟩] none) (.seq (.reg [⟨(some 15),(.mv (.t 4)),0,none⟩,⟨(some 16),(.bin .ifc .eql (.t 15) (.c .nili)),0,none⟩,⟨(some 17),(.mv (.t 16)),0,none⟩,⟨(some 18),(.mv (.t 3)),0,(some (17,true))⟩,⟨(some 19),(.bin .num .gtr (.t 18) (.c (.int .i64 0))),0,(some (17,true))⟩,⟨(some 20),(.pick (.t 17) (.t 19) (.c (.bool false))),0,none⟩,⟨(some 21),(.mv (.t 20)),0,none⟩,⟨(some 22),(.mv (.t 0)),0,(some (21,true))⟩,⟨(some 23),(.len 0 (.t 22)),0,(some (21,true))⟩,⟨(some 24),(.bin .num .leq (.t 23) (.c (.int .i64 10))),0,(some (21,true))⟩,⟨(some 25),(.pick (.t 21) (.t 24) (.c (.bool false))),0,none⟩,⟨(some 26),(.mv (.t 25)),0,none⟩,⟨(some 27),(.mv (.t 3)),0,(some (26,true))⟩,⟨(some 28),(.call (.c (.fn 76)) [(.t 27)]),0,(some (26,true))⟩,⟨(some 29),(.mv (.t 0)),2,(some (26,true))⟩,⟨(some 30),(.strslc (.t 29) (some (.c (.int .i64 1))) none),2,(some (26,true))⟩,⟨(some 31),(.bin .num .eql (.t 28) (.t 30)),2,(some (26,true))⟩,⟨(some 32),(.pick (.t 26) (.t 31) (.c (.bool false))),2,none⟩,⟨(some 2),(.mv (.t 32)),2,none⟩] (some [[],[0],[1,0],[2,1,0],[3,2,1,0],[2,4,1,0,3],[5,2,4,1,0,3],[6,5,2,4,1,0,3],[7,6,5,2,4,1,0,3],[8,6,7,5,2,4,1,0,3],[6,9,5,2,4,1,0,3,8,7],[10,6,9,5,2,4,1,0,3,8,7],[11,10,6,9,5,2,4,1,0,3,8,7],[12,11,10,6,9,5,2,4,1,0,3,8,7],[11,10,6,9,5,2,4,1,0,3,8,7],[14,11,10,6,9,5,2,4,1,0,3,8,7],[13,15,11,12,10,6,9,5,2,4,1,0,3,8,7,14],[11,16,10,6,9,5,2,4,1,0,3,8,7,13,15,12,14],[17,13,0,1,2,3,4,5,6,7,8,9,10,11,12,14,15,16]])) .ret)) .skip)) (.seq (.seq (.reg [⟨(some 33),(.mv (.t 0)),0,none⟩,⟨(some 34),(.sbytes (.t 33)),0,none⟩,⟨(some 35),(.len 1 (.t 34)),0,none⟩,⟨(some 36),(.mv (.c (.int .i64 0))),0,none⟩] none) (.block 0 (.loop [36,35,34,0] (.seq (.reg [⟨(some 37),(.bin .num .lss (.t 36) (.t 35)),0,none⟩] none) (.seq (.cond (.t 37) .skip (.exit 0)) (.seq (.block 1 (.seq (.reg [⟨(some 38),(.mv (.t 36)),0,none⟩,⟨(some 39),(.iaddr 1 (.t 34) (.t 36)),0,none⟩,⟨(some 40),(.load false [(.int .u8)] (.t 39)),0,none⟩,⟨(some 5),(.mv (.t 38)),0,none⟩,⟨(some 6),(.mv (.t 40)),0,none⟩] none) (.seq (.reg [⟨(some 41),(.mv (.t 6)),0,none⟩,⟨(some 42),(.bin .num .lss (.t 41) (.c (.int .u8 97))),0,none⟩,⟨(some 43),(.mv (.t 42)),0,none⟩,⟨(some 44),(.mv (.t 6)),0,(some (43,false))⟩,⟨(some 45),(.bin .num .gtr (.t 44) (.c (.int .u8 122))),0,(some (43,false))⟩,⟨(some 46),(.pick (.t 43) (.c (.bool true)) (.t 45)),0,none⟩,⟨(some 47),(.mv (.t 46)),0,none⟩,⟨(some 48),(.mv (.t 5)),0,(some (47,true))⟩,⟨(some 49),(.bin .num .eql (.t 48) (.c (.int .i64 0))),0,(some (47,true))⟩,⟨(some 50),(.mv (.t 49)),0,(some (47,true))⟩,⟨(some 51),(.mv (.t 6)),0,(some (50,false))⟩,⟨(some 52),(.bin .num .lss (.t 51) (.c (.int .u8 48))),0,(some (50,false))⟩,⟨(some 53),(.pick (.t 50) (.c (.bool true)) (.t 52)),0,(some (47,true))⟩,⟨(some 54),(.mv (.t 53)),0,(some (47,true))⟩,⟨(some 55),(.mv (.t 6)),0,(some (54,false))⟩,⟨(some 56),(.bin .num .gtr (.t 55) (.c (.int .u8 57))),0,(some (54,false))⟩,⟨(some 57),(.pick (.t 54) (.c (.bool true)) (.t 56)),0,(some (47,true))⟩,⟨(some 58),(.pick (.t 47) (.t 57) (.c (.bool false))),0,none⟩] none) (.cond (.t 58) (.seq (.reg [⟨(some 2),(.mv (.c (.bool false))),0,none⟩] none) .ret) .skip)))) (.reg [⟨(some 59),(.bin .num .add (.t 36) (.c (.int .i64 1))),0,none⟩,⟨(some 36),(.mv (.t 59)),0,none⟩] none))))))) (.seq (.reg [⟨(some 60),(.mv (.t 0)),0,none⟩,⟨(some 61),(.bin .num .neq (.t 60) (.c (.str []))),0,none⟩,⟨(some 62),(.mv (.t 61)),0,none⟩,⟨(some 63),(.mv (.t 0)),0,(some (62,true))⟩,⟨(some 64),(.len 0 (.t 63)),0,(some (62,true))⟩,⟨(some 65),(.bin .num .leq (.t 64) (.c (.int .i64 30))),0,(some (62,true))⟩,⟨(some 66),(.pick (.t 62) (.t 65) (.c (.bool false))),0,none⟩,⟨(some 2),(.mv (.t 66)),0,none⟩] none) .ret))))
def XL:List IRes:=[(.tmp 2)]
abbrev b1l:Nat:=67
def WF:ZK:=Xp [(152,.pure (preT (fun _:Str×Str×Unit=>true)) (Zf (fun x:Str×Str×Unit=>x.2.1.s.isPrefixOf x.1.s))),(182,.pure (preT (fun x:Str×Unit=>decide (x.1.s.length<=1000000))) (Zf (fun x:Str×Unit=>Yy x.1))),(76,.pure (preT (fun x:Int×Unit=>decide (-9223372036854775808<=x.1)&&decide (x.1<=9223372036854775807))) (Zf (fun x:Int×Unit=>Mh x.1)))]
theorem b9t{G:PV->Prop}(s:List UInt8)(h : ∃ y0:Bool,AV.pv (Zf (fun(x:Str×Str×Unit)=>List.isPrefixOf (Str.s x.2.1) (Str.s x.1)) [(.str s),(.str [(95:UInt8)])])=AV.pv (enc y0)∧(if (y0)=true then(decide (0<=1)&&true&&decide (Int.toNat 1<=List.length s)&&decide (List.length s<=List.length s))=true∧((Go.Pl.preT (fun(x:Str×Unit)=>decide (List.length (Str.s x.1)<=1000000)) [(.str (List.drop (Int.toNat 1) (List.take (List.length s) s)))])=true∧(∃ y1:Int×Er,AV.pv (Zf (fun(x:Str×Unit)=>Yy x.1) [(.str (List.drop (Int.toNat 1) (List.take (List.length s) s)))])=AV.pv (enc y1)∧((A9 (enc y1.2)&&Prod.fst (true,PV.bool (UF (enc y1.2))))=true∧(if (UF (enc y1.2))=true then if (decide (y1.1>0))=true then if (decide ((↑(List.length s):Int)<=10))=true then(Go.Pl.preT (fun(x:Int×Unit)=>decide ((-9223372036854775808:Int)<=x.1)&&decide (x.1<=9223372036854775807)) [(.int .i64 y1.1)])=true∧(∃ y2:Str,AV.pv (Zf (fun(x:Int×Unit)=>Mh x.1) [(.int .i64 y1.1)])=AV.pv (enc y2)∧((decide (0<=1)&&true&&decide (Int.toNat 1<=List.length s)&&decide (List.length s<=List.length s))=true∧(G ((.bool (Str.s y2==List.drop (Int.toNat 1) (List.take (List.length s) s)))))))else(G ((.bool false)))else(G ((.bool false)))else(G ((.bool false)))))))else(At WF 0 (Za XL G) Xx 0 67 [(0,(.pv (.str s))),(34,(.pv (.sl 1 false (ZA s)))),(35,(.pv (.int .i64 (↑(List.length (ZA s)):Int)))),(36,(.pv (.int .i64 0)))] []))):Zc WF 0 (Za XL G) Xx [] (Yr 67 [.str s]):=Zc.tp (.lit (.abs (Bool) (fun YY=>AV.pv (enc YY)) (.ask (.req (.req (.abs (Int×Er) (fun YY=>AV.pv (enc YY)) (.req (.ask (.lit (.lit (.lit (.ask (.lit (.lit (.lit (.lit (.ask (.lit (.req (.abs (Str) (fun YY=>AV.pv (enc YY)) (.lit (.lit (.req (.lit (.lit (.lit (.nil)))))))))) (.lit (.lit (.lit (.lit (.lit (.nil))))))))))) (.lit (.lit (.lit (.lit (.lit (.lit (.lit (.lit (.lit (.nil)))))))))))))) (.lit (.lit (.lit (.lit (.lit (.lit (.lit (.lit (.lit (.lit (.lit (.lit (.nil)))))))))))))))))) (.nil)))) h (by kernel_rfl)
theorem Fg{G:PV->Prop}(s:List UInt8)(i:Int)(h:if (decide (i<(↑(List.length (ZA s)):Int)))=true then(decide (0<=i)&&decide (Int.toNat i<List.length (ZA s))&&1==1)=true∧((decide (0+List.length [Sh.int IntKind.u8]<=List.length (PV.cells (List.getD (ZA s) (Int.toNat i) default)))&&XW (PV.cells (List.getD (ZA s) (Int.toNat i) default)) 0 [Sh.int IntKind.u8])=true∧(if (decide (PV.asInt (List.getD (PV.cells (List.getD (ZA s) (Int.toNat i) default)) 0 default)<97))=true then if (i==0)=true then G ((.bool false))else(if (decide (PV.asInt (List.getD (PV.cells (List.getD (ZA s) (Int.toNat i) default)) 0 default)<48))=true then G ((.bool false))else(if (decide (PV.asInt (List.getD (PV.cells (List.getD (ZA s) (Int.toNat i) default)) 0 default)>57))=true then G ((.bool false))else(At WF 0 (Za XL G) Xx 0 67 [(0,(.pv (.str s))),(34,(.pv (.sl 1 false (ZA s)))),(35,(.pv (.int .i64 (↑(List.length (ZA s)):Int)))),(36,(.pv (.int .i64 (IntKind.wrap IntKind.i64 (i+1)))))] [])))else(if (decide (PV.asInt (List.getD (PV.cells (List.getD (ZA s) (Int.toNat i) default)) 0 default)>122))=true then if (i==0)=true then G ((.bool false))else(if (decide (PV.asInt (List.getD (PV.cells (List.getD (ZA s) (Int.toNat i) default)) 0 default)<48))=true then G ((.bool false))else(if (decide (PV.asInt (List.getD (PV.cells (List.getD (ZA s) (Int.toNat i) default)) 0 default)>57))=true then G ((.bool false))else(At WF 0 (Za XL G) Xx 0 67 [(0,(.pv (.str s))),(34,(.pv (.sl 1 false (ZA s)))),(35,(.pv (.int .i64 (↑(List.length (ZA s)):Int)))),(36,(.pv (.int .i64 (IntKind.wrap IntKind.i64 (i+1)))))] [])))else(At WF 0 (Za XL G) Xx 0 67 [(0,(.pv (.str s))),(34,(.pv (.sl 1 false (ZA s)))),(35,(.pv (.int .i64 (↑(List.length (ZA s)):Int)))),(36,(.pv (.int .i64 (IntKind.wrap IntKind.i64 (i+1)))))] []))))else(if (!s==[])=true then G ((.bool (decide ((↑(List.length s):Int)<=30))))else(G ((.bool false))))):At WF 0 (Za XL G) Xx 0 67 [(0,.pv (.str s)),(34,.pv (.sl 1 false (ZA s))),(35,.pv (.int .i64 (ZA s).length)),(36,.pv (.int .i64 i))] []:=At.tp (.lit (.ask (.req (.keep (.req (.lit (.ask (.lit (.lit (.lit (.lit (.lit (.lit (.ask (.lit (.lit (.lit (.lit (.lit (.lit (.lit (.lit (.lit (.lit (.nil))))))))))) (.lit (.lit (.lit (.lit (.lit (.ask (.lit (.lit (.lit (.lit (.lit (.nil)))))) (.lit (.lit (.lit (.lit (.lit (.ask (.nil) (.lit (.nil))))))))))))))))))))) (.lit (.lit (.lit (.ask (.lit (.lit (.lit (.ask (.lit (.lit (.lit (.lit (.lit (.lit (.lit (.lit (.lit (.lit (.nil))))))))))) (.lit (.lit (.lit (.lit (.lit (.ask (.lit (.lit (.lit (.lit (.lit (.nil)))))) (.lit (.lit (.lit (.lit (.lit (.ask (.nil) (.lit (.nil)))))))))))))))))) (.lit (.lit (.lit (.lit (.lit (.lit (.lit (.lit (.nil)))))))))))))))))) (.lit (.ask (.lit (.lit (.lit (.lit (.nil))))) (.lit (.lit (.lit (.nil)))))))) h (by kernel_rfl)
def Wo:IC:=(.seq (.reg [⟨(some 1),(.box 2 (.t 0)),0,none⟩,⟨(some 2),(.mv (.c (.bool false))),1,none⟩] none) (.seq (.seq (.reg [⟨(some 5),(.faddr 1 (.t 1)),0,none⟩,⟨(some 6),(.load false [(.sl 2)] (.t 5)),0,none⟩,⟨(some 7),(.len 1 (.t 6)),0,none⟩,⟨(some 8),(.mv (.c (.int .i64 0))),0,none⟩] none) (.block 0 (.loop [8,7,6,1] (.seq (.reg [⟨(some 9),(.bin .num .lss (.t 8) (.t 7)),0,none⟩] none) (.seq (.cond (.t 9) .skip (.exit 0)) (.seq (.block 1 (.seq (.reg [⟨(some 10),(.mv (.t 8)),0,none⟩,⟨(some 11),(.iaddr 2 (.t 6) (.t 8)),0,none⟩,⟨(some 12),(.load true [.str,(.int .i64)] (.t 11)),0,none⟩,⟨(some 4),(.alloc (.agg [(.str []),(.int .i64 0)])),0,none⟩,⟨(some 3),(.mv (.t 10)),1,none⟩,⟨none,(.store 2 (.t 4) (.t 12)),1,none⟩] none) (.seq (.reg [⟨(some 13),(.faddr 0 (.t 4)),0,none⟩,⟨(some 14),(.load false [.str] (.t 13)),0,none⟩,⟨(some 15),(.call (.c (.fn 119)) [(.t 14)]),0,none⟩,⟨(some 16),(.un .not (.t 15)),2,none⟩,⟨(some 17),(.mv (.t 16)),2,none⟩,⟨(some 18),(.faddr 1 (.t 4)),2,(some (17,false))⟩,⟨(some 19),(.load false [(.int .i64)] (.t 18)),2,(some (17,false))⟩,⟨(some 20),(.bin .num .eql (.t 19) (.c (.int .i64 0))),2,(some (17,false))⟩,⟨(some 21),(.pick (.t 17) (.c (.bool true)) (.t 20)),2,none⟩,⟨(some 22),(.mv (.t 21)),2,none⟩,⟨(some 23),(.faddr 1 (.t 4)),2,(some (22,false))⟩,⟨(some 24),(.load false [(.int .i64)] (.t 23)),2,(some (22,false))⟩,⟨(some 25),(.call (.c (.fn 144)) [(.t 24)]),2,(some (22,false))⟩,⟨(some 26),(.un .not (.t 25)),4,(some (22,false))⟩,⟨(some 27),(.pick (.t 22) (.c (.bool true)) (.t 26)),4,none⟩,⟨(some 28),(.mv (.t 27)),4,none⟩,⟨(some 29),(.mv (.t 3)),4,(some (28,false))⟩,⟨(some 30),(.bin .num .gtr (.t 29) (.c (.int .i64 0))),4,(some (28,false))⟩,⟨(some 31),(.mv (.t 30)),4,(some (28,false))⟩,⟨(some 32),(.faddr 1 (.t 1)),4,(some (31,true))⟩,⟨(some 33),(.load false [(.sl 2)] (.t 32)),4,(some (31,true))⟩,⟨(some 34),(.mv (.t 3)),4,(some (31,true))⟩,⟨(some 35),(.bin .num .sub (.t 34) (.c (.int .i64 1))),4,(some (31,true))⟩,⟨(some 36),(.iaddr 2 (.t 33) (.t 35)),4,(some (31,true))⟩,⟨(some 37),(.faddr 0 (.t 36)),4,(some (31,true))⟩,⟨(some 38),(.load false [.str] (.t 37)),4,(some (31,true))⟩,⟨(some 39),(.faddr 0 (.t 4)),4,(some (31,true))⟩,⟨(some 40),(.load false [.str] (.t 39)),4,(some (31,true))⟩,⟨(some 41),(.bin .num .geq (.t 38) (.t 40)),4,(some (31,true))⟩,⟨(some 42),(.pick (.t 31) (.t 41) (.c (.bool false))),4,(some (28,false))⟩,⟨(some 43),(.pick (.t 28) (.c (.bool true)) (.t 42)),4,none⟩] (some [[],[0],[1,0],[2,1,0],[3,2,1,0],[4,3,2,1,0],[5,4,3,2,1,0],[6,4,5,3,2,1,0],[4,7,3,2,1,0,6,5],[8,4,7,3,2,1,0,6,5],[9,8,4,7,3,2,1,0,6,5],[10,9,8,4,7,3,2,1,0,6,5],[11,9,10,8,4,7,3,2,1,0,6,5],[12,9,11,10,8,4,7,3,2,1,0,6,5],[9,13,8,4,7,3,2,1,0,6,5,12,11,10],[14,12,9,13,8,4,7,3,2,1,0,6,5,11,10],[15,14,12,9,13,8,4,7,3,2,1,0,6,5,11,10],[16,15,14,12,9,13,8,4,7,3,2,1,0,6,5,11,10],[17,15,16,14,12,9,13,8,4,7,3,2,1,0,6,5,11,10],[18,17,15,16,14,12,9,13,8,4,7,3,2,1,0,6,5,11,10],[19,18,17,15,16,14,12,9,13,8,4,7,3,2,1,0,6,5,11,10],[18,17,15,16,14,12,9,13,8,4,7,3,2,1,0,6,5,11,10],[21,18,17,15,16,14,12,9,13,8,4,7,3,2,1,0,6,5,11,10],[20,22,18,19,17,15,16,14,12,9,13,8,4,7,3,2,1,0,6,5,11,10,21],[23,18,20,22,19,17,15,16,14,12,9,13,8,4,7,3,2,1,0,6,5,11,10,21],[24,18,23,20,22,19,17,15,16,14,12,9,13,8,4,7,3,2,1,0,6,5,11,10,21],[18,17,15,16,14,12,9,13,8,4,7,3,2,1,0,6,5,11,10],[26,18,17,15,16,14,12,9,13,8,4,7,3,2,1,0,6,5,11,10],[25,27,18,24,23,20,22,19,17,15,16,14,12,9,13,8,4,7,3,2,1,0,6,5,11,10,21,26],[18,28,15,17,16,14,12,9,13,8,4,7,3,2,1,0,6,5,11,10,25,27,24,23,20,22,19,21,26],[15,29,14,12,9,13,8,4,7,3,2,1,0,6,5,11,10,18,28,17,16,25,27,24,23,20,22,19,21,26]])) (.cond (.t 43) (.seq (.reg [⟨(some 2),(.mv (.c (.bool false))),0,none⟩] none) .ret) .skip)))) (.reg [⟨(some 44),(.bin .num .add (.t 8) (.c (.int .i64 1))),0,none⟩,⟨(some 8),(.mv (.t 44)),0,none⟩] none))))))) (.seq (.reg [⟨(some 45),(.faddr 0 (.t 1)),0,none⟩,⟨(some 46),(.load false [(.int .i64)] (.t 45)),0,none⟩,⟨(some 47),(.call (.c (.fn 144)) [(.t 46)]),0,none⟩,⟨(some 48),(.mv (.t 47)),2,none⟩,⟨(some 49),(.faddr 1 (.t 1)),2,(some (48,true))⟩,⟨(some 50),(.load false [(.sl 2)] (.t 49)),2,(some (48,true))⟩,⟨(some 51),(.len 1 (.t 50)),2,(some (48,true))⟩,⟨(some 52),(.bin .num .leq (.t 51) (.c (.int .i64 12))),2,(some (48,true))⟩,⟨(some 53),(.pick (.t 48) (.t 52) (.c (.bool false))),2,none⟩,⟨(some 2),(.mv (.t 53)),2,none⟩] none) .ret)))
def Wn:List IRes:=[(.tmp 2)]
abbrev a7o:Nat:=54
def Vt:ZK:=Xp [(144,.pure (preT (fun _:Int×Unit=>true)) (Zf (fun x:Int×Unit=>YF x.1))),(119,.pure (preT (fun x:Str×Unit=>decide (x.1.s.length<=1000000))) (Zf (fun x:Str×Unit=>ZB x.1)))]
theorem b2w{G:PV->Prop}(l:Lin)(h:At Vt 0 (Za Wn G) Wo 0 54 [(1,(.ptr 0 0)),(6,(.pv (.sl 2 false (List.map enc l.t)))),(7,(.pv (.int .i64 (↑(List.length (List.map enc l.t)):Int)))),(8,(.pv (.int .i64 0)))] [(.obj (.box [(.pv (.int .i64 l.k)),(.pv (.sl 2 false (List.map enc l.t)))]))]):Zc Vt 0 (Za Wn G) Wo [] (Yr 54 [enc l]):=Zc.tp (.nil) h (by kernel_rfl)
theorem T9{G:PV->Prop}(l:Lin)(i:Int)(h:if (decide (i<(↑(List.length l.t):Int)))=true then(decide (0<=i)&&decide (Int.toNat i<List.length (List.map enc l.t))&&Enc.sz Coef==2)=true∧(∃ y0:Coef,AV.pv (PV.rptr (PV.cells (List.getD (List.map enc l.t) (Int.toNat i) default)))=AV.pv (PV.rptr (PV.cells ((enc) y0)))∧((Go.Pl.preT (fun(x:Str×Unit)=>decide (List.length (Str.s x.1)<=1000000)) [(.str (PV.asStr (List.getD (PV.cells (enc y0)) 0 default)))])=true∧(∃ y1:Bool,AV.pv (Zf (fun(x:Str×Unit)=>ZB x.1) [(.str (PV.asStr (List.getD (PV.cells (enc y0)) 0 default)))])=AV.pv (enc y1)∧(if (!y1)=true then G ((.bool false))else(if (PV.asInt (List.getD (PV.cells (enc y0)) (0+1) default)==0)=true then G ((.bool false))else(∃ y2:Bool,AV.pv (Zf (fun(x:Int×Unit)=>YF x.1) [(.int .i64 (PV.asInt (List.getD (PV.cells (enc y0)) (0+1) default)))])=AV.pv (enc y2)∧(if (!y2)=true then G ((.bool false))else(if (decide (i>0))=true then(decide (0<=IntKind.wrap IntKind.i64 (i - 1))&&decide (Int.toNat (IntKind.wrap IntKind.i64 (i - 1))<List.length (List.map enc l.t))&&Enc.sz Coef==2)=true∧(∃ y3:Coef,AV.pv (PV.rptr (PV.cells (List.getD (List.map enc l.t) (Int.toNat (IntKind.wrap IntKind.i64 (i - 1))) default)))=AV.pv (PV.rptr (PV.cells ((enc) y3)))∧(if (!Op.bytesLess (PV.asStr (List.getD (List.drop 0 (PV.cells (enc y3))) 0 default)) (PV.asStr (List.getD (PV.cells (enc y0)) 0 default)))=true then G ((.bool false))else(At Vt 0 (Za Wn G) Wo 0 54 [(1,(.ptr 0 0)),(6,(.pv (.sl 2 false (List.map enc l.t)))),(7,(.pv (.int .i64 (↑(List.length l.t):Int)))),(8,(.pv (.int .i64 (IntKind.wrap IntKind.i64 (i+1)))))] [(.obj (.box [(.pv (.int .i64 l.k)),(.pv (.sl 2 false (List.map enc l.t)))]))])))else(At Vt 0 (Za Wn G) Wo 0 54 [(1,(.ptr 0 0)),(6,(.pv (.sl 2 false (List.map enc l.t)))),(7,(.pv (.int .i64 (↑(List.length l.t):Int)))),(8,(.pv (.int .i64 (IntKind.wrap IntKind.i64 (i+1)))))] [(.obj (.box [(.pv (.int .i64 l.k)),(.pv (.sl 2 false (List.map enc l.t)))]))])))))))))else(∃ y4:Bool,AV.pv (Zf (fun(x:Int×Unit)=>YF x.1) [(.int .i64 l.k)])=AV.pv (enc y4)∧(if (y4)=true then G ((.bool (decide ((↑(List.length (List.map enc l.t)):Int)<=12))))else(G ((.bool false)))))):At Vt 0 (Za Wn G) Wo 0 54 [(1,.ptr 0 0),(6,.pv (enc l.t)),(7,.pv (.int .i64 l.t.length)),(8,.pv (.int .i64 i))] [.obj (.box [.pv (.int .i64 l.k),.pv (enc l.t)])]:=At.tp (.lit (.ask (.req (.abs (Coef) (fun YY=>AV.pv (PV.rptr (PV.cells ((enc) YY)))) (.lit (.req (.abs (Bool) (fun YY=>AV.pv (enc YY)) (.ask (.lit (.lit (.lit (.lit (.lit (.lit (.lit (.lit (.lit (.lit (.lit (.lit (.lit (.lit (.nil))))))))))))))) (.lit (.lit (.lit (.lit (.ask (.lit (.lit (.lit (.lit (.lit (.lit (.lit (.lit (.lit (.lit (.nil))))))))))) (.lit (.lit (.lit (.abs (Bool) (fun YY=>AV.pv (enc YY)) (.lit (.lit (.ask (.lit (.lit (.lit (.lit (.lit (.nil)))))) (.lit (.lit (.lit (.ask (.lit (.lit (.lit (.lit (.lit (.req (.abs (Coef) (fun YY=>AV.pv (PV.rptr (PV.cells ((enc) YY)))) (.lit (.lit (.lit (.lit (.lit (.lit (.lit (.lit (.lit (.lit (.ask (.nil) (.lit (.nil)))))))))))))))))))) (.lit (.lit (.lit (.lit (.lit (.lit (.lit (.lit (.lit (.lit (.lit (.lit (.lit (.lit (.nil))))))))))))))))))))))))))))))))))))) (.lit (.abs (Bool) (fun YY=>AV.pv (enc YY)) (.ask (.lit (.lit (.lit (.lit (.lit (.nil)))))) (.lit (.lit (.lit (.lit (.nil)))))))))) h (by kernel_rfl)
end Go.Pl

namespace Go.Pl
open Go.RowKit
open Enc (enc dec is)
open EncL (encL decL isL)
theorem Ff{s:List UInt8}{i:Nat}(h:i<s.length):List.getD (ZA s) (Int.toNat (i:Int)) default = .int .u8 (s[i].toNat:Int):=by
 simp[ZA,List.getD,h]
theorem Un(s:List UInt8):(ZA s).length=s.length:=by simp[ZA]
def Mi(c:UInt8):Bool:=Wz c||digB c
theorem P7{c:UInt8}:Wz c=true ↔ 97<=c.toNat∧c.toNat<=122:=by
 simp only[Wz,Bool.and_eq_true,decide_eq_true_eq,UInt8.le_iff_toNat_le]
 have e1:(97:UInt8).toNat=97:=rfl
 have e2:(122:UInt8).toNat=122:=rfl
 rw[e1,e2]
theorem KY{c:UInt8}(h : ¬ (97<=c.toNat∧c.toNat<=122)):Wz c=false:=by
 cases e:Wz c
 ·rfl
 ·exact absurd (P7.1 e) h
theorem K3{c:UInt8}(h : ¬ (48<=c.toNat∧c.toNat<=57)):digB c=false:=by
 cases e:digB c
 ·rfl
 ·exact absurd (Vg.1 e) h
def Xv(s:List UInt8)(i:Nat):Bool:=(match i with|0=>(match s with|[]=>true|c::r=>Wz c&&r.all Mi)|i+1=>(s.drop (i+1)).all Mi)&&(!(s==[]))&&decide (s.length<=30)
theorem Ro{s:List UInt8}{i:Nat}(h:i<s.length)(hb:Wz s[i]=true∨(i≠0∧digB s[i]=true)):Xv s i=Xv s (i+1):=by
 cases i with
 | zero=>
  cases s with
  | nil=>simp at h
  | cons c r=>
   rcases hb with hb|hb
   ·have hb:Wz c=true:=hb
    simp[Xv,hb]
   ·exact absurd rfl hb.1
 | succ i=>
  unfold Xv
  simp only
  rw[List.drop_eq_getElem_cons h,List.all_cons]
  have:Mi s[i+1]=true:=by
   rcases hb with hb|hb
   ·simp[Mi,hb]
   ·simp[Mi,hb.2]
  rw[this,Bool.true_and]
theorem Rt{s:List UInt8}{i:Nat}(h:i<s.length)(hb:Wz s[i]=false∧(i=0∨digB s[i]=false)):Xv s i=false:=by
 cases i with
 | zero=>
  cases s with
  | nil=>simp at h
  | cons c r=>
   have hb:Wz c=false:=hb.1
   simp[Xv,hb]
 | succ i=>
  unfold Xv
  simp only
  rw[List.drop_eq_getElem_cons h,List.all_cons]
  have:Mi s[i+1]=false:=by
   rcases hb.2 with h0|h0
   ·cases h0
   ·simp[Mi,hb.1,h0]
  rw[this];simp
theorem Om(s:List UInt8)(hs:s.length<=1000000): ∀ (m i:Nat),m+i=s.length->At WF 0 (Za XL (Zj (Xv s i))) Xx 0 67 [(0,.pv (.str s)),(34,.pv (.sl 1 false (ZA s))),(35,.pv (.int .i64 (ZA s).length)),(36,.pv (.int .i64 i))] []:=by
 intro m
 induction m with
 | zero=>
  intro i hi
  have e:Xv s i=(!(s==[])&&decide (s.length<=30)):=by
   unfold Xv
   cases i with
   | zero=>cases s with
    | nil=>rfl
    | cons c r=>simp at hi
   | succ i=>simp only;rw[List.drop_of_length_le (show s.length<=i+1 by omega)];simp
  rw[e]
  refine Fg s i (ZN (Ye (by rw[Un];omega)) (Wx (fun h=>ZM ?_) fun h=>ZM ?_))
  ·rw[h,Bool.true_and];exact decide_eq_decide.2 (by omega)
  ·rw[h,Bool.false_and]
 | succ m ih=>
  intro i hi
  have hlt:i<s.length:=by omega
  have h:=ih (i+1) (by omega)
  refine Fg s i ?_
  rw[Ff hlt,next (by omega)]
  have stop:(Wz s[i]=false∧(i=0∨digB s[i]=false))->Zj (Xv s i) (.bool false):=fun hb=>ZM (Rt hlt hb).symm
  have go:(Wz s[i]=true∨(i≠0∧digB s[i]=true))->At WF 0 (Za XL (Zj (Xv s i))) Xx 0 67 [(0,.pv (.str s)),(34,.pv (.sl 1 false (ZA s))),(35,.pv (.int .i64 (ZA s).length)),(36,.pv (.int .i64 ((i+1:Nat):Int)))] []:=fun hb=>by rw[Ro hlt hb];exact h
  have rest:Wz s[i]=false->(if ((i:Int)==0)=true then Zj (Xv s i) (.bool false)else if decide ((s[i].toNat:Int)<48)=true then Zj (Xv s i) (.bool false)else if decide ((s[i].toNat:Int)>57)=true then Zj (Xv s i) (.bool false)else At WF 0 (Za XL (Zj (Xv s i))) Xx 0 67 [(0,.pv (.str s)),(34,.pv (.sl 1 false (ZA s))),(35,.pv (.int .i64 (ZA s).length)),(36,.pv (.int .i64 ((i+1:Nat):Int)))] []):=by
   intro hl
   refine KE (fun h0=>stop ⟨hl,.inl (by omega)⟩) fun h0=>Xy (fun h1=>stop ⟨hl,.inr (K3 (by omega))⟩) fun h1=>Xy (fun h2=>stop ⟨hl,.inr (K3 (by omega))⟩) fun h2=>go (.inr ⟨by omega,Vg.2 (by omega)⟩)
  refine ZU (Z9 (by rw[Un];exact hlt)) ⟨by rw[Un];simp[hlt],by rfl,?_⟩
  refine Xy (fun h1=>rest (KY ?_)) fun h1=>Xy (fun h2=>rest (KY ?_)) fun h2=>go (.inl (P7.2 ?_))
  ·have h1:(s[i].toNat:Int)<97:=h1
   omega
  ·have h2:(s[i].toNat:Int)>122:=h2
   omega
  ·have h1 : ¬ (s[i].toNat:Int)<97:=h1
   have h2 : ¬ (s[i].toNat:Int)>122:=h2
   omega
theorem Ti{s:List UInt8}(h:[95].isPrefixOf s=false):ZB ⟨s⟩=Xv s 0:=by
 cases s with
 | nil=>rfl
 | cons c r=>
  have hc : ¬ c=95:=by intro e;subst e;simp at h
  have e:decide ((c::r).length<=30)=decide (r.length<=29):=decide_eq_decide.2 (by simp)
  unfold Xv
  rw[e]
  simp only[ZB,if_neg hc]
  show _=(Wz c&&r.all Mi&& !((c::r)==[])&&_)
  have e2:((c::r)==[])=false:=rfl
  rw[e2]
  simp only[Bool.not_false,Bool.and_true]
  rfl
theorem BB(s:Str): -9223372036854775808<=(Yy s).1∧((Yy s).1<=9223372036854775807):=by
 unfold Yy
 split
 ·rename_i v hv;exact Lib.atoiAll_bounds hv
 ·have:=Lib.atoiSat_bounds s.s
  exact⟨by show _<=Lib.atoiSat s.s;omega,by show Lib.atoiSat s.s<=_;omega⟩
 ·exact⟨by show(-9223372036854775808:Int)<=0;omega,by show(0:Int)<=_;omega⟩
theorem a7f: ∀ a:Str×Unit,decide (a.1.s.length<=1000000)=true->Zc WF 0 (Za XL (Zj (ZB a.1))) Xx [] (Yr b1l (encL a)):=by
 rintro⟨⟨s⟩,⟨⟩⟩ hl
 have hl:s.length<=1000000:=by simpa using hl
 refine b9t s (Zd (⟨s⟩,⟨[95]⟩,()) rfl (Wx (fun h=> ?_) fun h=> ?_))
 ·have h:[95].isPrefixOf s=true:=h
  obtain⟨r,rfl⟩ : ∃ r,s=95::r:=by
   cases s with
   | nil=>simp at h
   | cons c r=>
    have:95=c:=by simpa using h
    exact⟨r,by rw[this]⟩
  have e1:List.drop (Int.toNat 1) (List.take (List.length (95::r)) (95::r))=r:=by rw[List.take_of_length_le (Nat.le_refl _)];rfl
  simp only[e1]
  refine⟨by simp,Ze (⟨r⟩,()) rfl (by simp at hl ⊢;omega),Zd (⟨r⟩,()) rfl ⟨by show(A9 (enc (Yy ⟨r⟩).2)&&true)=true;rw[c2w];rfl,?_⟩⟩
  show if UF (enc (Yy ⟨r⟩).2)=true then(if decide ((Yy ⟨r⟩).1>0)=true then(if _ then _ else Zj (ZB ⟨95::r⟩) _)else Zj (ZB ⟨95::r⟩) _)else Zj (ZB ⟨95::r⟩) _
  rw[Lb]
  by_cases h9:r.length<=9
  ·rw[<- a0w r h9,decide_eq_true h9,Bool.and_true]
   refine Wx (fun h1=>Wx (fun h2=>ZU (by simp;omega) ⟨Ze ((Yy ⟨r⟩).1,()) rfl (by have:=BB ⟨r⟩;simp;omega),Zd ((Yy ⟨r⟩).1,()) rfl ⟨by simp,ZM ?_⟩⟩) fun h2=>ZM ?_) fun h1=>ZM ?_
   ·rw[h1,h2];simp only[Bool.true_and,Bool.and_true];rfl
   ·rw[h2];simp
   ·rw[h1];simp
  ·rw[decide_eq_false h9,Bool.and_false]
   refine Wx (fun h1=>Wx (fun h2=>ZN (by simp;omega) (ZM rfl)) fun h2=>ZM rfl) fun h1=>ZM rfl
 ·have h:[95].isPrefixOf s=false:=h
  show At WF 0 (Za XL (Zj (ZB ⟨s⟩))) Xx 0 67 _ _
  rw[Ti h]
  exact Om s hl s.length 0 (by omega)
theorem FD(l:Lin)(hl:l.t.length<=9223372036854775807)(hs:l.t.all (fun t=>decide (t.v.s.length<=1000000))=true): ∀ (j i:Nat),j+i=l.t.length->At Vt 0 (Za Wn (Zj (AJ (pvS l.t i) (l.t.drop i)&&(YF l.k&&decide (l.t.length<=12))))) Wo 0 54 [(1,.ptr 0 0),(6,.pv (enc l.t)),(7,.pv (.int .i64 l.t.length)),(8,.pv (.int .i64 i))] [.obj (.box [.pv (.int .i64 l.k),.pv (enc l.t)])]:=by
 intro j
 induction j with
 | zero=>
  intro i hi
  refine T9 l i (ZN (Ye (by omega)) (Zd (l.k,()) rfl ?_))
  rw[List.drop_of_length_le (show l.t.length<=i by omega)]
  refine Wx (fun h=>ZM ?_) fun h=>ZM ?_
  ·have h:YF l.k=true:=h
   rw[h]
   show _=(true&&(true&&_))
   rw[Bool.true_and,Bool.true_and]
   exact decide_eq_decide.2 (by simp;omega)
  ·have h:YF l.k=false:=h
   rw[h];simp
 | succ j ih=>
  intro i hi
  have hlt:i<l.t.length:=by omega
  have h:=ih (i+1) (by omega)
  have hsi:l.t[i].v.s.length<=1000000:=by rw[List.all_eq_true]at hs;simpa using hs _ (List.getElem_mem hlt)
  refine T9 l i ?_
  refine ZU (Z9 hlt) ⟨Zq hlt rfl,ZF hlt ⟨Ze (l.t[i].v,()) rfl (by simpa using hsi),Zd (l.t[i].v,()) rfl (XX (fun hn=> ?_) fun hn=>KE (fun hc=> ?_) fun hc=>Zd (l.t[i].c,()) rfl (XX (fun hk=> ?_) fun hk=> ?_))⟩⟩
  all_goals rw[List.drop_eq_getElem_cons hlt,Gl]
  ·have hn:ZB l.t[i].v=false:=hn
   exact ZM (by simp[hn])
  ·have hc:l.t[i].c=0:=hc
   exact ZM (by simp[hc])
  ·have hk:YF l.t[i].c=false:=hk
   exact ZM (by simp[hk])
  have hn:ZB l.t[i].v=true:=hn
  have hk:YF l.t[i].c=true:=hk
  have hc:l.t[i].c≠0:=hc
  rw[next (by omega),hn,hk,decide_eq_true hc]
  have ep:pvS l.t (i+1)=some l.t[i].v.s:=by simp[pvS,hlt]
  rw[ep]at h
  cases i with
  | zero=>exact ZN (by simp) h
  | succ i=>
   refine ZU (by simp) ?_
   rw[a2n (by omega)]
   refine⟨Zq (by omega) rfl,ZF (by omega) ?_⟩
   have e2:pvS l.t (i+1)=some l.t[i].v.s:=by simp[pvS,show i<l.t.length by omega]
   rw[e2]
   refine XX (fun hb=> ?_) fun hb=> ?_
   all_goals
    have hb':=(Yq l.t[i].v.s l.t[i+1].v.s).symm.trans hb
    simp only[hb',Bool.and_true,Bool.true_and,Bool.and_false,Bool.false_and]
   ·exact ZM rfl
   ·exact h
theorem Ec: ∀ a:Lin×Unit,Z6 a.1=true->Zc Vt 0 (Za Wn (Zj (Zz a.1))) Wo [] (Yr a7o (encL a)):=by
 rintro⟨l,⟨⟩⟩ hl
 simp only[Z6,Xq,Bool.and_eq_true,decide_eq_true_eq]at hl
 refine b2w l ?_
 show At Vt 0 (Za Wn (Zj (Zz l))) Wo 0 54 _ _
 have e:Zz l=(AJ (pvS l.t 0) (l.t.drop 0)&&(YF l.k&&decide (l.t.length<=12))):=by rw[La,Bool.and_comm];rfl
 rw[e,List.length_map]
 exact FD l hl.1 hl.2 l.t.length 0 (by omega)
end Go.Pl

namespace Go.Pl
open Go.RowKit
open Enc (enc dec is)
open EncL (encL decL isL)
structure LR where
 k:Int
 w:Nat
 ts:List Coef
def LR.view(r:LR):Lin:=⟨r.k,r.ts.take r.w⟩
def LR.av(r:LR)(l:Nat):AV:=.agg [.pv (.int .i64 r.k),.row l r.ts.length 0 r.w]
def LR.ob(r:LR):AObj:=.row false 61 2 (r.ts.map enc)
def KJ:Nat->Nat->Nat->List Coef->List Coef×Nat
 | 0,_,j,ts=>(ts,j)
 | m+1,i,j,ts=>if (ts.getD i ⟨⟨[]⟩,0⟩).c=0 then KJ m (i+1) j ts else KJ m (i+1) (j+1) (ts.set j (ts.getD i ⟨⟨[]⟩,0⟩))
def RQ(k:Int)(o:List Coef):LR:=⟨k,(KJ o.length 0 0 o).2,(KJ o.length 0 0 o).1⟩
def Dk(l:Lin)(s:Str)(c:Int):LR:=RQ l.k (Vd s c false l.t)
theorem GL(o:List Coef): ∀ (m i j:Nat) (ts:List Coef),m+i=o.length->ts.length=o.length->j<=i->ts.take j=(o.take i).filter (fun t=>decide (t.c≠0))->ts.drop i=o.drop i->(KJ m i j ts).1.take (KJ m i j ts).2=o.filter fun t=>decide (t.c≠0)
 | 0,i,j,ts,hm,hts,hji,h1,h2=>by
  rw[KJ]
  show ts.take j=_
  rw[h1,List.take_of_length_le (by omega)]
 | m+1,i,j,ts,hm,hts,hji,h1,h2=>by
  have hlt:i<o.length:=by omega
  have hi':i<ts.length:=by omega
  have hj':j<ts.length:=by omega
  have ei:ts[i]=o[i]:=by
   have:(ts.drop i)[0]? = (o.drop i)[0]? :=by rw[h2]
   simpa [hi',hlt]using this
  have htk:(o.take (i+1))=o.take i++[o[i]]:=by rw[List.take_add_one,List.getElem?_eq_getElem hlt];rfl
  have eg:ts.getD i ⟨⟨[]⟩,0⟩=ts[i]:=by simp[List.getD,hi']
  rw[KJ,eg]
  split
  ·rename_i hz
   refine GL o m (i+1) j ts (by omega) hts (by omega) ?_ ?_
   ·rw[h1,htk,List.filter_append]
    have:o[i].c=0:=by rw[<- ei];exact hz
    simp[this]
   ·have:=congrArg (List.drop 1) h2
    simpa [List.drop_drop,Nat.add_comm]using this
  ·rename_i hz
   refine GL o m (i+1) (j+1) (ts.set j ts[i]) (by omega) (by simp[hts]) (by omega) ?_ ?_
   ·rw[htk,List.filter_append,<- h1]
    have:decide (o[i].c≠0)=true:=by rw[<- ei];exact decide_eq_true hz
    simp only[List.filter_cons,this,if_true,List.filter_nil]
    rw[List.take_add_one,List.getElem?_set_self hj',List.take_set_of_le (Nat.le_refl j),ei]
    rfl
   ·rw[List.drop_set_of_lt (by omega)]
    have:=congrArg (List.drop 1) h2
    simpa [List.drop_drop,Nat.add_comm]using this
theorem Od(l:Lin)(s:Str)(c:Int):(Dk l s c).view=Kt l s c:=by
 show(⟨_,_⟩:Lin)=⟨_,_⟩
 congr 1
 exact GL _ _ 0 0 _ (by omega) rfl (by omega) (by simp) rfl
def Ji:List AV->List AObj->Bool
 | [.pv l,.pv (.str s),.pv (.int .i64 c)],[]=>Vz Lin l&&decide ((dec l:Lin).t.length<=1000000)
 | _,_=>false
def BL(r:LR)(l:Nat)(os:List AObj):AV×List AObj×List AObj:=(r.av l,os,[r.ob])
def Je:List AV->List AObj->AV×List AObj×List AObj
 | [.pv l,.pv (.str s),.pv (.int .i64 c)],_=>BL (Dk (dec l) ⟨s⟩ c) 0 []
 | _,_=>Vu
def c9i:PV:=.agg [.int .i64 0,.sl 0 true []]
end Go.Pl

namespace Go.Pl
open Go.RowKit
open Enc (enc dec is)
open EncL (encL decL isL)
set_option maxRecDepth 100000
def ZR:IC:=(.seq (.reg [⟨(some 3),(.box 2 (.t 0)),0,none⟩,⟨(some 6),(.alloc (.agg [(.int .i64 0),(.sl 0 true [])])),1,none⟩] none) (.seq (.reg [⟨(some 13),(.faddr 0 (.t 3)),0,none⟩,⟨(some 14),(.load false [(.int .i64)] (.t 13)),0,none⟩,⟨(some 15),(.build [(.int .i64 0),(.sl 0 true [])] [(0,(1,(.t 14)))]),0,none⟩,⟨(some 7),(.alloc (.agg [(.int .i64 0),(.sl 0 true [])])),0,none⟩,⟨none,(.store 2 (.t 7) (.t 15)),1,none⟩] none) (.seq (.reg [⟨(some 8),(.mv (.c (.bool false))),0,none⟩] none) (.seq (.seq (.reg [⟨(some 9),(.mv (.c (.int .i64 0))),0,none⟩] none) (.block 0 (.loop [9,3,8,1,7,2,6] (.seq (.seq (.reg [⟨(some 16),(.mv (.t 9)),0,none⟩,⟨(some 17),(.faddr 1 (.t 3)),0,none⟩,⟨(some 18),(.load false [(.sl 2)] (.t 17)),0,none⟩,⟨(some 19),(.len 1 (.t 18)),0,none⟩,⟨(some 20),(.bin .num .lss (.t 16) (.t 19)),0,none⟩] none) (.cond (.t 20) .skip (.exit 0))) (.seq (.block 1 (.seq (.reg [⟨(some 23),(.faddr 1 (.t 3)),0,none⟩,⟨(some 24),(.load false [(.sl 2)] (.t 23)),0,none⟩,⟨(some 25),(.mv (.t 9)),0,none⟩,⟨(some 26),(.iaddr 2 (.t 24) (.t 25)),0,none⟩,⟨(some 27),(.load true [.str,(.int .i64)] (.t 26)),0,none⟩,⟨(some 10),(.alloc (.agg [(.str []),(.int .i64 0)])),0,none⟩,⟨none,(.store 2 (.t 10) (.t 27)),1,none⟩] none) (.seq (.seq (.reg [⟨(some 28),(.mv (.t 8)),0,none⟩,⟨(some 29),(.un .not (.t 28)),0,none⟩,⟨(some 30),(.mv (.t 29)),0,none⟩,⟨(some 31),(.faddr 0 (.t 10)),0,(some (30,true))⟩,⟨(some 32),(.load false [.str] (.t 31)),0,(some (30,true))⟩,⟨(some 33),(.mv (.t 1)),0,(some (30,true))⟩,⟨(some 34),(.bin .num .gtr (.t 32) (.t 33)),0,(some (30,true))⟩,⟨(some 35),(.pick (.t 30) (.t 34) (.c (.bool false))),0,none⟩] none) (.cond (.t 35) (.seq (.reg [⟨(some 36),(.faddr 1 (.t 7)),0,none⟩,⟨(some 37),(.load false [(.sl 2)] (.t 36)),0,none⟩,⟨(some 38),(.mv (.t 1)),0,none⟩,⟨(some 39),(.mv (.t 2)),0,none⟩,⟨(some 40),(.build [(.str []),(.int .i64 0)] [(0,(1,(.t 38))),(1,(1,(.t 39)))]),0,none⟩,⟨(some 41),(.bslice 61 2 1 (.agg [(.str []),(.int .i64 0)]) [(0,(.t 40))]),0,none⟩,⟨(some 42),(.append 61 2 24 (.t 37) (.t 41)),1,none⟩,⟨(some 43),(.faddr 1 (.t 7)),2,none⟩,⟨none,(.store 1 (.t 43) (.t 42)),2,none⟩] none) (.reg [⟨(some 8),(.mv (.c (.bool true))),0,none⟩] none)) .skip)) (.seq (.seq (.reg [⟨(some 44),(.faddr 0 (.t 10)),0,none⟩,⟨(some 45),(.load false [.str] (.t 44)),0,none⟩,⟨(some 46),(.mv (.t 1)),0,none⟩,⟨(some 47),(.bin .num .eql (.t 45) (.t 46)),0,none⟩] none) (.cond (.t 47) (.seq (.reg [⟨(some 48),(.faddr 1 (.t 10)),0,none⟩,⟨(some 49),(.load false [(.int .i64)] (.t 48)),0,none⟩,⟨(some 50),(.mv (.t 2)),0,none⟩,⟨(some 51),(.bin .num .add (.t 49) (.t 50)),0,none⟩,⟨(some 52),(.faddr 1 (.t 10)),0,none⟩,⟨none,(.store 1 (.t 52) (.t 51)),0,none⟩] none) (.reg [⟨(some 8),(.mv (.c (.bool true))),0,none⟩] none)) .skip)) (.reg [⟨(some 53),(.faddr 1 (.t 7)),0,none⟩,⟨(some 54),(.load false [(.sl 2)] (.t 53)),0,none⟩,⟨(some 55),(.load true [.str,(.int .i64)] (.t 10)),0,none⟩,⟨(some 56),(.bslice 61 2 1 (.agg [(.str []),(.int .i64 0)]) [(0,(.t 55))]),0,none⟩,⟨(some 57),(.append 61 2 24 (.t 54) (.t 56)),1,none⟩,⟨(some 58),(.faddr 1 (.t 7)),2,none⟩,⟨none,(.store 1 (.t 58) (.t 57)),2,none⟩] none))))) (.reg [⟨(some 21),(.mv (.t 9)),0,none⟩,⟨(some 22),(.bin .num .add (.t 21) (.c (.int .i64 1))),0,none⟩,⟨(some 9),(.mv (.t 22)),0,none⟩] none)))))) (.seq (.seq (.reg [⟨(some 59),(.mv (.t 8)),0,none⟩,⟨(some 60),(.un .not (.t 59)),0,none⟩] none) (.cond (.t 60) (.reg [⟨(some 61),(.faddr 1 (.t 7)),0,none⟩,⟨(some 62),(.load false [(.sl 2)] (.t 61)),0,none⟩,⟨(some 63),(.mv (.t 1)),0,none⟩,⟨(some 64),(.mv (.t 2)),0,none⟩,⟨(some 65),(.build [(.str []),(.int .i64 0)] [(0,(1,(.t 63))),(1,(1,(.t 64)))]),0,none⟩,⟨(some 66),(.bslice 61 2 1 (.agg [(.str []),(.int .i64 0)]) [(0,(.t 65))]),0,none⟩,⟨(some 67),(.append 61 2 24 (.t 62) (.t 66)),1,none⟩,⟨(some 68),(.faddr 1 (.t 7)),2,none⟩,⟨none,(.store 1 (.t 68) (.t 67)),2,none⟩] none) .skip)) (.seq (.reg [⟨(some 11),(.mv (.c (.int .i64 0))),0,none⟩] none) (.seq (.seq (.reg [⟨(some 12),(.mv (.c (.int .i64 0))),0,none⟩] none) (.block 2 (.loop [12,7,11,6] (.seq (.seq (.reg [⟨(some 69),(.mv (.t 12)),0,none⟩,⟨(some 70),(.faddr 1 (.t 7)),0,none⟩,⟨(some 71),(.load false [(.sl 2)] (.t 70)),0,none⟩,⟨(some 72),(.len 1 (.t 71)),0,none⟩,⟨(some 73),(.bin .num .lss (.t 69) (.t 72)),0,none⟩] none) (.cond (.t 73) .skip (.exit 2))) (.seq (.block 3 (.seq (.reg [⟨(some 76),(.faddr 1 (.t 7)),0,none⟩,⟨(some 77),(.load false [(.sl 2)] (.t 76)),0,none⟩,⟨(some 78),(.mv (.t 12)),0,none⟩,⟨(some 79),(.iaddr 2 (.t 77) (.t 78)),0,none⟩,⟨(some 80),(.faddr 1 (.t 79)),0,none⟩,⟨(some 81),(.load false [(.int .i64)] (.t 80)),0,none⟩,⟨(some 82),(.bin .num .neq (.t 81) (.c (.int .i64 0))),0,none⟩] none) (.cond (.t 82) (.seq (.reg [⟨(some 83),(.faddr 1 (.t 7)),0,none⟩,⟨(some 84),(.load false [(.sl 2)] (.t 83)),0,none⟩,⟨(some 85),(.mv (.t 11)),0,none⟩,⟨(some 86),(.faddr 1 (.t 7)),0,none⟩,⟨(some 87),(.load false [(.sl 2)] (.t 86)),0,none⟩,⟨(some 88),(.mv (.t 12)),0,none⟩,⟨(some 89),(.iaddr 2 (.t 87) (.t 88)),0,none⟩,⟨(some 90),(.load true [.str,(.int .i64)] (.t 89)),0,none⟩,⟨(some 91),(.iaddr 2 (.t 84) (.t 85)),0,none⟩,⟨none,(.store 2 (.t 91) (.t 90)),0,none⟩] (some [[],[0],[],[],[3],[],[4,5,3],[6,4,5,3],[1,2,0,3,4,5,6,7],[8,7,0,1,2,3,4,5,6]])) (.reg [⟨(some 92),(.mv (.t 11)),0,none⟩,⟨(some 93),(.bin .num .add (.t 92) (.c (.int .i64 1))),0,none⟩,⟨(some 11),(.mv (.t 93)),0,none⟩] none)) .skip))) (.reg [⟨(some 74),(.mv (.t 12)),0,none⟩,⟨(some 75),(.bin .num .add (.t 74) (.c (.int .i64 1))),0,none⟩,⟨(some 12),(.mv (.t 75)),0,none⟩] none)))))) (.seq (.reg [⟨(some 94),(.faddr 1 (.t 7)),0,none⟩,⟨(some 95),(.load false [(.sl 2)] (.t 94)),0,none⟩,⟨(some 96),(.mv (.t 11)),0,none⟩,⟨(some 97),(.slc 2 (.t 95) none (some (.t 96)) none),0,none⟩,⟨(some 98),(.faddr 1 (.t 7)),0,none⟩,⟨none,(.store 1 (.t 98) (.t 97)),0,none⟩] none) (.seq (.reg [⟨(some 99),(.load true [(.int .i64),(.sl 2)] (.t 7)),0,none⟩,⟨none,(.store 2 (.t 6) (.t 99)),0,none⟩] none) .ret)))))))))
def ZQ:List IRes:=[(.cell true 2 6)]
abbrev LZ:Nat:=100
def Z4:ZK:=Xp []
theorem b8p{G:AV×List AObj×List AObj->Prop}(l:Lin)(s:List UInt8)(c:Int)(h:At Z4 0 (Zl 0 ZQ G) ZR 0 100 [(1,(.pv (.str s))),(2,(.pv (.int .i64 c))),(3,(.ptr 0 0)),(6,(.ptr 1 0)),(7,(.ptr 2 0)),(8,(.pv (.bool false))),(9,(.pv (.int .i64 0)))] [(.obj (.box [(.pv (.int .i64 l.k)),(.pv (.sl 2 false (List.map enc l.t)))])),(.obj (.box [(.pv (.int .i64 0)),(.pv (.sl 0 true []))])),(.obj (.box [(.pv (.int .i64 l.k)),(.pv (.sl 0 true []))]))]):Zc Z4 0 (Zl 0 ZQ G) ZR [] (YR 100 [.pv (enc l),.pv (.str s),.pv (enc c)] []):=Zc.to (.nil) h (by kernel_rfl)
theorem a7q{G:AV×List AObj×List AObj->Prop}(l:Lin)(s:List UInt8)(c:Int)(p:Bool)(i:Int)(h:if (decide (i<(↑(List.length (List.map enc l.t)):Int)))=true then(decide (0<=i)&&decide (Int.toNat i<List.length (List.map enc l.t))&&Enc.sz Coef==2)=true∧(∃ y0:Coef,AV.pv (PV.rptr (PV.cells (List.getD (List.map enc l.t) (Int.toNat i) default)))=AV.pv (PV.rptr (PV.cells ((enc) y0)))∧(if (!p)=true then if (!(Op.bytesLess (PV.asStr (List.getD (PV.cells (enc y0)) 0 default)) s||PV.asStr (List.getD (PV.cells (enc y0)) 0 default)==s))=true then if (PV.asStr (List.getD (PV.cells (enc y0)) 0 default)==s)=true then At Z4 0 (Zl 0 ZQ G) ZR 0 100 [(1,(.pv (.str s))),(2,(.pv (.int .i64 c))),(3,(.ptr 0 0)),(6,(.ptr 1 0)),(7,(.ptr 2 0)),(8,(.pv (.bool true))),(9,(.pv (.int .i64 (IntKind.wrap IntKind.i64 (i+1)))))] [(.obj (.box [(.pv (.int .i64 l.k)),(.pv (.sl 2 false (List.map enc l.t)))])),(.obj (.box [(.pv (.int .i64 0)),(.pv (.sl 0 true []))])),(.obj (.box [(.pv (.int .i64 l.k)),(.row 3 2 0 2)])),(.obj (.row false 61 2 [(.agg [(.str s),(.int .i64 c)]),(.agg [(.str (PV.asStr (List.getD (PV.cells (enc y0)) 0 default))),(.int .i64 (IntKind.wrap IntKind.i64 (PV.asInt (List.getD (PV.cells (enc y0)) (0+1) default)+c)))])]))]else(At Z4 0 (Zl 0 ZQ G) ZR 0 100 [(1,(.pv (.str s))),(2,(.pv (.int .i64 c))),(3,(.ptr 0 0)),(6,(.ptr 1 0)),(7,(.ptr 2 0)),(8,(.pv (.bool true))),(9,(.pv (.int .i64 (IntKind.wrap IntKind.i64 (i+1)))))] [(.obj (.box [(.pv (.int .i64 l.k)),(.pv (.sl 2 false (List.map enc l.t)))])),(.obj (.box [(.pv (.int .i64 0)),(.pv (.sl 0 true []))])),(.obj (.box [(.pv (.int .i64 l.k)),(.row 3 2 0 2)])),(.obj (.row false 61 2 [(.agg [(.str s),(.int .i64 c)]),(.agg [(.str (PV.asStr (List.getD (PV.cells (enc y0)) 0 default))),(.int .i64 (PV.asInt (List.getD (PV.cells (enc y0)) (0+1) default)))])]))])else(if (PV.asStr (List.getD (PV.cells (enc y0)) 0 default)==s)=true then At Z4 0 (Zl 0 ZQ G) ZR 0 100 [(1,(.pv (.str s))),(2,(.pv (.int .i64 c))),(3,(.ptr 0 0)),(6,(.ptr 1 0)),(7,(.ptr 2 0)),(8,(.pv (.bool true))),(9,(.pv (.int .i64 (IntKind.wrap IntKind.i64 (i+1)))))] [(.obj (.box [(.pv (.int .i64 l.k)),(.pv (.sl 2 false (List.map enc l.t)))])),(.obj (.box [(.pv (.int .i64 0)),(.pv (.sl 0 true []))])),(.obj (.box [(.pv (.int .i64 l.k)),(.row 3 1 0 1)])),(.obj (.row false 61 2 [(.agg [(.str (PV.asStr (List.getD (PV.cells (enc y0)) 0 default))),(.int .i64 (IntKind.wrap IntKind.i64 (PV.asInt (List.getD (PV.cells (enc y0)) (0+1) default)+c)))])]))]else(At Z4 0 (Zl 0 ZQ G) ZR 0 100 [(1,(.pv (.str s))),(2,(.pv (.int .i64 c))),(3,(.ptr 0 0)),(6,(.ptr 1 0)),(7,(.ptr 2 0)),(8,(.pv (.bool p))),(9,(.pv (.int .i64 (IntKind.wrap IntKind.i64 (i+1)))))] [(.obj (.box [(.pv (.int .i64 l.k)),(.pv (.sl 2 false (List.map enc l.t)))])),(.obj (.box [(.pv (.int .i64 0)),(.pv (.sl 0 true []))])),(.obj (.box [(.pv (.int .i64 l.k)),(.row 3 1 0 1)])),(.obj (.row false 61 2 [(.agg [(.str (PV.asStr (List.getD (PV.cells (enc y0)) 0 default))),(.int .i64 (PV.asInt (List.getD (PV.cells (enc y0)) (0+1) default)))])]))]))else(if (PV.asStr (List.getD (PV.cells (enc y0)) 0 default)==s)=true then At Z4 0 (Zl 0 ZQ G) ZR 0 100 [(1,(.pv (.str s))),(2,(.pv (.int .i64 c))),(3,(.ptr 0 0)),(6,(.ptr 1 0)),(7,(.ptr 2 0)),(8,(.pv (.bool true))),(9,(.pv (.int .i64 (IntKind.wrap IntKind.i64 (i+1)))))] [(.obj (.box [(.pv (.int .i64 l.k)),(.pv (.sl 2 false (List.map enc l.t)))])),(.obj (.box [(.pv (.int .i64 0)),(.pv (.sl 0 true []))])),(.obj (.box [(.pv (.int .i64 l.k)),(.row 3 1 0 1)])),(.obj (.row false 61 2 [(.agg [(.str (PV.asStr (List.getD (PV.cells (enc y0)) 0 default))),(.int .i64 (IntKind.wrap IntKind.i64 (PV.asInt (List.getD (PV.cells (enc y0)) (0+1) default)+c)))])]))]else(At Z4 0 (Zl 0 ZQ G) ZR 0 100 [(1,(.pv (.str s))),(2,(.pv (.int .i64 c))),(3,(.ptr 0 0)),(6,(.ptr 1 0)),(7,(.ptr 2 0)),(8,(.pv (.bool p))),(9,(.pv (.int .i64 (IntKind.wrap IntKind.i64 (i+1)))))] [(.obj (.box [(.pv (.int .i64 l.k)),(.pv (.sl 2 false (List.map enc l.t)))])),(.obj (.box [(.pv (.int .i64 0)),(.pv (.sl 0 true []))])),(.obj (.box [(.pv (.int .i64 l.k)),(.row 3 1 0 1)])),(.obj (.row false 61 2 [(.agg [(.str (PV.asStr (List.getD (PV.cells (enc y0)) 0 default))),(.int .i64 (PV.asInt (List.getD (PV.cells (enc y0)) (0+1) default)))])]))]))))else(if (!p)=true then At Z4 0 (Zl 0 ZQ G) ZR 1 100 [(6,(.ptr 0 0)),(7,(.ptr 1 0)),(11,(.pv (.int .i64 0))),(12,(.pv (.int .i64 0)))] [(.obj (.box [(.pv (.int .i64 0)),(.pv (.sl 0 true []))])),(.obj (.box [(.pv (.int .i64 l.k)),(.row 2 1 0 1)])),(.obj (.row false 61 2 [(.agg [(.str s),(.int .i64 c)])]))]else(At Z4 0 (Zl 0 ZQ G) ZR 1 100 [(6,(.ptr 0 0)),(7,(.ptr 1 0)),(11,(.pv (.int .i64 0))),(12,(.pv (.int .i64 0)))] [(.obj (.box [(.pv (.int .i64 0)),(.pv (.sl 0 true []))])),(.obj (.box [(.pv (.int .i64 l.k)),(.pv (.sl 0 true []))]))]))):At Z4 0 (Zl 0 ZQ G) ZR 0 100 [(1,.pv (.str s)),(2,.pv (.int .i64 c)),(3,.ptr 0 0),(6,.ptr 1 0),(7,.ptr 2 0),(8,.pv (.bool p)),(9,.pv (.int .i64 i))] [.obj (.box [.pv (.int .i64 l.k),.pv (enc l.t)]),.obj (.box [.pv (.int .i64 0),.pv (.sl 0 true [])]),.obj (.box [.pv (.int .i64 l.k),.pv (.sl 0 true [])])]:=At.to (.lit (.ask (.req (.abs (Coef) (fun YY=>AV.pv (PV.rptr (PV.cells ((enc) YY)))) (.lit (.ask (.lit (.lit (.lit (.lit (.lit (.ask (.lit (.lit (.lit (.lit (.lit (.lit (.ask (.lit (.lit (.lit (.lit (.lit (.nil)))))) (.lit (.lit (.lit (.lit (.nil)))))))))))) (.lit (.ask (.lit (.lit (.lit (.lit (.lit (.lit (.lit (.nil)))))))) (.lit (.lit (.lit (.lit (.lit (.lit (.nil))))))))))))))) (.lit (.lit (.lit (.lit (.lit (.lit (.ask (.lit (.lit (.lit (.lit (.lit (.lit (.lit (.nil)))))))) (.lit (.lit (.lit (.lit (.lit (.lit (.nil)))))))))))))))))) (.ask (.lit (.lit (.lit (.lit (.lit (.nil)))))) (.nil)))) h (by kernel_rfl)
theorem TP{G:AV×List AObj×List AObj->Prop}(l:Lin)(s:List UInt8)(c:Int)(j i:Int)(q:Nat)(ts:List Coef)(h:if (decide (i<(↑(q - 0):Int)))=true then(decide (0<=i)&&decide (0+Int.toNat i<q)&&List.length (List.map enc ts)==q)=true∧((List.length (List.map enc ts)==q&&decide (0+Int.toNat i<List.length (List.map enc ts)))=true∧((decide (0+1+List.length [Sh.int .i64]<=List.length (PV.cells (List.getD (List.map enc ts) (0+Int.toNat i) default)))&&XW (PV.cells (List.getD (List.map enc ts) (0+Int.toNat i) default)) (0+1) [Sh.int .i64])=true∧(if (PV.asInt (List.getD (PV.cells (List.getD (List.map enc ts) (0+Int.toNat i) default)) (0+1) default) != 0)=true then(decide (0<=i)&&decide (0+Int.toNat i<q)&&List.length (List.map enc ts)==q)=true∧((List.length (List.map enc ts)==q&&decide (0+Int.toNat i<List.length (List.map enc ts)))=true∧((decide (0+List.length [Sh.str,Sh.int .i64]<=List.length (PV.cells (List.getD (List.map enc ts) (0+Int.toNat i) default)))&&XW (PV.cells (List.getD (List.map enc ts) (0+Int.toNat i) default)) 0 [Sh.str,Sh.int .i64])=true∧((decide (0<=j)&&decide (0+Int.toNat j<q)&&List.length (List.map enc ts)==q)=true∧((List.length (List.map enc ts)==q&&decide (0+Int.toNat j<List.length (List.map enc ts))&&List.length (PV.cells (PV.agg (QF (PV.cells (List.getD (List.map enc ts) (0+Int.toNat i) default)) 0 [Sh.str,Sh.int .i64])))==2&&decide (0+2<=List.length (PV.cells (List.getD (List.map enc ts) (0+Int.toNat j) default)))&&PV.cellsOk (PV.agg (QF (PV.cells (List.getD (List.map enc ts) (0+Int.toNat i) default)) 0 [Sh.str,Sh.int .i64])))=true∧(At Z4 0 (Zl 0 ZQ G) ZR 1 100 [(6,(.ptr 0 0)),(7,(.ptr 1 0)),(11,(.pv (.int .i64 (IntKind.wrap IntKind.i64 (j+1))))),(12,(.pv (.int .i64 (IntKind.wrap IntKind.i64 (i+1)))))] [(.obj (.box [(.pv (.int .i64 0)),(.pv (.sl 0 true []))])),(.obj (.box [(.pv (.int .i64 l.k)),(.row 2 q 0 q)])),(.obj (.row false 61 2 (List.set (List.map enc ts) (0+Int.toNat j) (PV.withCells (List.getD (List.map enc ts) (0+Int.toNat j) default) (splice (PV.cells (List.getD (List.map enc ts) (0+Int.toNat j) default)) 0 (PV.cells (PV.agg (QF (PV.cells (List.getD (List.map enc ts) (0+Int.toNat i) default)) 0 [Sh.str,Sh.int .i64]))))))))])))))else(At Z4 0 (Zl 0 ZQ G) ZR 1 100 [(6,(.ptr 0 0)),(7,(.ptr 1 0)),(11,(.pv (.int .i64 j))),(12,(.pv (.int .i64 (IntKind.wrap IntKind.i64 (i+1)))))] [(.obj (.box [(.pv (.int .i64 0)),(.pv (.sl 0 true []))])),(.obj (.box [(.pv (.int .i64 l.k)),(.row 2 q 0 q)])),(.obj (.row false 61 2 (List.map enc ts)))]))))else((true&&decide (0<=j)&&decide (0<=Int.toNat j)&&decide (0+Int.toNat j<=q)&&List.length (List.map enc ts)==q)=true∧(G (((.agg [(.pv (.int .i64 l.k)),(.row 0 q 0 (0+Int.toNat j))]),([],[(.row false 61 2 (List.map enc ts))])))))):At Z4 0 (Zl 0 ZQ G) ZR 1 100 [(6,.ptr 0 0),(7,.ptr 1 0),(11,.pv (.int .i64 j)),(12,.pv (.int .i64 i))] [.obj (.box [.pv (.int .i64 0),.pv (.sl 0 true [])]),.obj (.box [.pv (.int .i64 l.k),.row 2 q 0 q]),.obj (.row false 61 2 (ts.map enc))]:=At.to (.lit (.ask (.req (.keep (.req (.req (.lit (.ask (.req (.keep (.req (.req (.req (.keep (.req (.lit (.lit (.nil)))))))))) (.lit (.nil)))))))) (.req (.nil)))) h (by kernel_rfl)
theorem RG{G:AV×List AObj×List AObj->Prop}(l:Lin)(s:List UInt8)(c:Int)(p:Bool)(i:Int)(q:Nat)(ts:List Coef)(h:if (decide (i<(↑(List.length (List.map enc l.t)):Int)))=true then(decide (0<=i)&&decide (Int.toNat i<List.length (List.map enc l.t))&&Enc.sz Coef==2)=true∧(∃ y0:Coef,AV.pv (PV.rptr (PV.cells (List.getD (List.map enc l.t) (Int.toNat i) default)))=AV.pv (PV.rptr (PV.cells ((enc) y0)))∧(if (!p)=true then if (!(Op.bytesLess (PV.asStr (List.getD (PV.cells (enc y0)) 0 default)) s||PV.asStr (List.getD (PV.cells (enc y0)) 0 default)==s))=true then(List.length (List.map enc ts)==q&&q==q&&decide ((q+List.length (List.drop 0 (List.take 1 [PV.agg [PV.str s,PV.int .i64 c]])))*24<=1099511627776)&&decide (q+List.length (List.drop 0 (List.take 1 [PV.agg [PV.str s,PV.int .i64 c]]))<=1099511627776))=true∧(if (PV.asStr (List.getD (PV.cells (enc y0)) 0 default)==s)=true then(List.length (List.map enc ts++List.drop 0 (List.take 1 [PV.agg [PV.str s,PV.int .i64 c]]))==q+List.length (List.drop 0 (List.take 1 [PV.agg [PV.str s,PV.int .i64 c]]))&&q+List.length (List.drop 0 (List.take 1 [PV.agg [PV.str s,PV.int .i64 c]]))==q+List.length (List.drop 0 (List.take 1 [PV.agg [PV.str s,PV.int .i64 c]]))&&decide ((q+List.length (List.drop 0 (List.take 1 [PV.agg [PV.str s,PV.int .i64 c]]))+List.length (List.drop 0 (List.take 1 [PV.agg [Sh.co Sh.str (List.getD (PV.cells (enc y0)) 0 default),PV.int .i64 (IntKind.wrap IntKind.i64 (PV.asInt (List.getD (PV.cells (enc y0)) (0+1) default)+c))]])))*24<=1099511627776)&&decide (q+List.length (List.drop 0 (List.take 1 [PV.agg [PV.str s,PV.int .i64 c]]))+List.length (List.drop 0 (List.take 1 [PV.agg [Sh.co Sh.str (List.getD (PV.cells (enc y0)) 0 default),PV.int .i64 (IntKind.wrap IntKind.i64 (PV.asInt (List.getD (PV.cells (enc y0)) (0+1) default)+c))]]))<=1099511627776))=true∧(At Z4 0 (Zl 0 ZQ G) ZR 0 100 [(1,(.pv (.str s))),(2,(.pv (.int .i64 c))),(3,(.ptr 0 0)),(6,(.ptr 1 0)),(7,(.ptr 2 0)),(8,(.pv (.bool true))),(9,(.pv (.int .i64 (IntKind.wrap IntKind.i64 (i+1)))))] [(.obj (.box [(.pv (.int .i64 l.k)),(.pv (.sl 2 false (List.map enc l.t)))])),(.obj (.box [(.pv (.int .i64 0)),(.pv (.sl 0 true []))])),(.obj (.box [(.pv (.int .i64 l.k)),(.row 3 (q+List.length (List.drop 0 (List.take 1 [PV.agg [PV.str s,PV.int .i64 c]]))+List.length (List.drop 0 (List.take 1 [PV.agg [Sh.co Sh.str (List.getD (PV.cells (enc y0)) 0 default),PV.int .i64 (IntKind.wrap IntKind.i64 (PV.asInt (List.getD (PV.cells (enc y0)) (0+1) default)+c))]]))) 0 (q+List.length (List.drop 0 (List.take 1 [PV.agg [PV.str s,PV.int .i64 c]]))+List.length (List.drop 0 (List.take 1 [PV.agg [Sh.co Sh.str (List.getD (PV.cells (enc y0)) 0 default),PV.int .i64 (IntKind.wrap IntKind.i64 (PV.asInt (List.getD (PV.cells (enc y0)) (0+1) default)+c))]]))))])),(.obj (.row false 61 2 (List.map enc ts++List.drop 0 (List.take 1 [PV.agg [PV.str s,PV.int .i64 c]])++List.drop 0 (List.take 1 [PV.agg [Sh.co Sh.str (List.getD (PV.cells (enc y0)) 0 default),PV.int .i64 (IntKind.wrap IntKind.i64 (PV.asInt (List.getD (PV.cells (enc y0)) (0+1) default)+c))]]))))])else((List.length (List.map enc ts++List.drop 0 (List.take 1 [PV.agg [PV.str s,PV.int .i64 c]]))==q+List.length (List.drop 0 (List.take 1 [PV.agg [PV.str s,PV.int .i64 c]]))&&q+List.length (List.drop 0 (List.take 1 [PV.agg [PV.str s,PV.int .i64 c]]))==q+List.length (List.drop 0 (List.take 1 [PV.agg [PV.str s,PV.int .i64 c]]))&&decide ((q+List.length (List.drop 0 (List.take 1 [PV.agg [PV.str s,PV.int .i64 c]]))+List.length (List.drop 0 (List.take 1 [PV.agg [Sh.co Sh.str (List.getD (PV.cells (enc y0)) 0 default),Sh.co (Sh.int .i64) (List.getD (PV.cells (enc y0)) (0+1) default)]])))*24<=1099511627776)&&decide (q+List.length (List.drop 0 (List.take 1 [PV.agg [PV.str s,PV.int .i64 c]]))+List.length (List.drop 0 (List.take 1 [PV.agg [Sh.co Sh.str (List.getD (PV.cells (enc y0)) 0 default),Sh.co (Sh.int .i64) (List.getD (PV.cells (enc y0)) (0+1) default)]]))<=1099511627776))=true∧(At Z4 0 (Zl 0 ZQ G) ZR 0 100 [(1,(.pv (.str s))),(2,(.pv (.int .i64 c))),(3,(.ptr 0 0)),(6,(.ptr 1 0)),(7,(.ptr 2 0)),(8,(.pv (.bool true))),(9,(.pv (.int .i64 (IntKind.wrap IntKind.i64 (i+1)))))] [(.obj (.box [(.pv (.int .i64 l.k)),(.pv (.sl 2 false (List.map enc l.t)))])),(.obj (.box [(.pv (.int .i64 0)),(.pv (.sl 0 true []))])),(.obj (.box [(.pv (.int .i64 l.k)),(.row 3 (q+List.length (List.drop 0 (List.take 1 [PV.agg [PV.str s,PV.int .i64 c]]))+List.length (List.drop 0 (List.take 1 [PV.agg [Sh.co Sh.str (List.getD (PV.cells (enc y0)) 0 default),Sh.co (Sh.int .i64) (List.getD (PV.cells (enc y0)) (0+1) default)]]))) 0 (q+List.length (List.drop 0 (List.take 1 [PV.agg [PV.str s,PV.int .i64 c]]))+List.length (List.drop 0 (List.take 1 [PV.agg [Sh.co Sh.str (List.getD (PV.cells (enc y0)) 0 default),Sh.co (Sh.int .i64) (List.getD (PV.cells (enc y0)) (0+1) default)]]))))])),(.obj (.row false 61 2 (List.map enc ts++List.drop 0 (List.take 1 [PV.agg [PV.str s,PV.int .i64 c]])++List.drop 0 (List.take 1 [PV.agg [Sh.co Sh.str (List.getD (PV.cells (enc y0)) 0 default),Sh.co (Sh.int .i64) (List.getD (PV.cells (enc y0)) (0+1) default)]]))))])))else(if (PV.asStr (List.getD (PV.cells (enc y0)) 0 default)==s)=true then(List.length (List.map enc ts)==q&&q==q&&decide ((q+List.length (List.drop 0 (List.take 1 [PV.agg [Sh.co Sh.str (List.getD (PV.cells (enc y0)) 0 default),PV.int .i64 (IntKind.wrap IntKind.i64 (PV.asInt (List.getD (PV.cells (enc y0)) (0+1) default)+c))]])))*24<=1099511627776)&&decide (q+List.length (List.drop 0 (List.take 1 [PV.agg [Sh.co Sh.str (List.getD (PV.cells (enc y0)) 0 default),PV.int .i64 (IntKind.wrap IntKind.i64 (PV.asInt (List.getD (PV.cells (enc y0)) (0+1) default)+c))]]))<=1099511627776))=true∧(At Z4 0 (Zl 0 ZQ G) ZR 0 100 [(1,(.pv (.str s))),(2,(.pv (.int .i64 c))),(3,(.ptr 0 0)),(6,(.ptr 1 0)),(7,(.ptr 2 0)),(8,(.pv (.bool true))),(9,(.pv (.int .i64 (IntKind.wrap IntKind.i64 (i+1)))))] [(.obj (.box [(.pv (.int .i64 l.k)),(.pv (.sl 2 false (List.map enc l.t)))])),(.obj (.box [(.pv (.int .i64 0)),(.pv (.sl 0 true []))])),(.obj (.box [(.pv (.int .i64 l.k)),(.row 3 (q+List.length (List.drop 0 (List.take 1 [PV.agg [Sh.co Sh.str (List.getD (PV.cells (enc y0)) 0 default),PV.int .i64 (IntKind.wrap IntKind.i64 (PV.asInt (List.getD (PV.cells (enc y0)) (0+1) default)+c))]]))) 0 (q+List.length (List.drop 0 (List.take 1 [PV.agg [Sh.co Sh.str (List.getD (PV.cells (enc y0)) 0 default),PV.int .i64 (IntKind.wrap IntKind.i64 (PV.asInt (List.getD (PV.cells (enc y0)) (0+1) default)+c))]]))))])),(.obj (.row false 61 2 (List.map enc ts++List.drop 0 (List.take 1 [PV.agg [Sh.co Sh.str (List.getD (PV.cells (enc y0)) 0 default),PV.int .i64 (IntKind.wrap IntKind.i64 (PV.asInt (List.getD (PV.cells (enc y0)) (0+1) default)+c))]]))))])else((List.length (List.map enc ts)==q&&q==q&&decide ((q+List.length (List.drop 0 (List.take 1 [PV.agg [Sh.co Sh.str (List.getD (PV.cells (enc y0)) 0 default),Sh.co (Sh.int .i64) (List.getD (PV.cells (enc y0)) (0+1) default)]])))*24<=1099511627776)&&decide (q+List.length (List.drop 0 (List.take 1 [PV.agg [Sh.co Sh.str (List.getD (PV.cells (enc y0)) 0 default),Sh.co (Sh.int .i64) (List.getD (PV.cells (enc y0)) (0+1) default)]]))<=1099511627776))=true∧(At Z4 0 (Zl 0 ZQ G) ZR 0 100 [(1,(.pv (.str s))),(2,(.pv (.int .i64 c))),(3,(.ptr 0 0)),(6,(.ptr 1 0)),(7,(.ptr 2 0)),(8,(.pv (.bool p))),(9,(.pv (.int .i64 (IntKind.wrap IntKind.i64 (i+1)))))] [(.obj (.box [(.pv (.int .i64 l.k)),(.pv (.sl 2 false (List.map enc l.t)))])),(.obj (.box [(.pv (.int .i64 0)),(.pv (.sl 0 true []))])),(.obj (.box [(.pv (.int .i64 l.k)),(.row 3 (q+List.length (List.drop 0 (List.take 1 [PV.agg [Sh.co Sh.str (List.getD (PV.cells (enc y0)) 0 default),Sh.co (Sh.int .i64) (List.getD (PV.cells (enc y0)) (0+1) default)]]))) 0 (q+List.length (List.drop 0 (List.take 1 [PV.agg [Sh.co Sh.str (List.getD (PV.cells (enc y0)) 0 default),Sh.co (Sh.int .i64) (List.getD (PV.cells (enc y0)) (0+1) default)]]))))])),(.obj (.row false 61 2 (List.map enc ts++List.drop 0 (List.take 1 [PV.agg [Sh.co Sh.str (List.getD (PV.cells (enc y0)) 0 default),Sh.co (Sh.int .i64) (List.getD (PV.cells (enc y0)) (0+1) default)]]))))])))else(if (PV.asStr (List.getD (PV.cells (enc y0)) 0 default)==s)=true then(List.length (List.map enc ts)==q&&q==q&&decide ((q+List.length (List.drop 0 (List.take 1 [PV.agg [Sh.co Sh.str (List.getD (PV.cells (enc y0)) 0 default),PV.int .i64 (IntKind.wrap IntKind.i64 (PV.asInt (List.getD (PV.cells (enc y0)) (0+1) default)+c))]])))*24<=1099511627776)&&decide (q+List.length (List.drop 0 (List.take 1 [PV.agg [Sh.co Sh.str (List.getD (PV.cells (enc y0)) 0 default),PV.int .i64 (IntKind.wrap IntKind.i64 (PV.asInt (List.getD (PV.cells (enc y0)) (0+1) default)+c))]]))<=1099511627776))=true∧(At Z4 0 (Zl 0 ZQ G) ZR 0 100 [(1,(.pv (.str s))),(2,(.pv (.int .i64 c))),(3,(.ptr 0 0)),(6,(.ptr 1 0)),(7,(.ptr 2 0)),(8,(.pv (.bool true))),(9,(.pv (.int .i64 (IntKind.wrap IntKind.i64 (i+1)))))] [(.obj (.box [(.pv (.int .i64 l.k)),(.pv (.sl 2 false (List.map enc l.t)))])),(.obj (.box [(.pv (.int .i64 0)),(.pv (.sl 0 true []))])),(.obj (.box [(.pv (.int .i64 l.k)),(.row 3 (q+List.length (List.drop 0 (List.take 1 [PV.agg [Sh.co Sh.str (List.getD (PV.cells (enc y0)) 0 default),PV.int .i64 (IntKind.wrap IntKind.i64 (PV.asInt (List.getD (PV.cells (enc y0)) (0+1) default)+c))]]))) 0 (q+List.length (List.drop 0 (List.take 1 [PV.agg [Sh.co Sh.str (List.getD (PV.cells (enc y0)) 0 default),PV.int .i64 (IntKind.wrap IntKind.i64 (PV.asInt (List.getD (PV.cells (enc y0)) (0+1) default)+c))]]))))])),(.obj (.row false 61 2 (List.map enc ts++List.drop 0 (List.take 1 [PV.agg [Sh.co Sh.str (List.getD (PV.cells (enc y0)) 0 default),PV.int .i64 (IntKind.wrap IntKind.i64 (PV.asInt (List.getD (PV.cells (enc y0)) (0+1) default)+c))]]))))])else((List.length (List.map enc ts)==q&&q==q&&decide ((q+List.length (List.drop 0 (List.take 1 [PV.agg [Sh.co Sh.str (List.getD (PV.cells (enc y0)) 0 default),Sh.co (Sh.int .i64) (List.getD (PV.cells (enc y0)) (0+1) default)]])))*24<=1099511627776)&&decide (q+List.length (List.drop 0 (List.take 1 [PV.agg [Sh.co Sh.str (List.getD (PV.cells (enc y0)) 0 default),Sh.co (Sh.int .i64) (List.getD (PV.cells (enc y0)) (0+1) default)]]))<=1099511627776))=true∧(At Z4 0 (Zl 0 ZQ G) ZR 0 100 [(1,(.pv (.str s))),(2,(.pv (.int .i64 c))),(3,(.ptr 0 0)),(6,(.ptr 1 0)),(7,(.ptr 2 0)),(8,(.pv (.bool p))),(9,(.pv (.int .i64 (IntKind.wrap IntKind.i64 (i+1)))))] [(.obj (.box [(.pv (.int .i64 l.k)),(.pv (.sl 2 false (List.map enc l.t)))])),(.obj (.box [(.pv (.int .i64 0)),(.pv (.sl 0 true []))])),(.obj (.box [(.pv (.int .i64 l.k)),(.row 3 (q+List.length (List.drop 0 (List.take 1 [PV.agg [Sh.co Sh.str (List.getD (PV.cells (enc y0)) 0 default),Sh.co (Sh.int .i64) (List.getD (PV.cells (enc y0)) (0+1) default)]]))) 0 (q+List.length (List.drop 0 (List.take 1 [PV.agg [Sh.co Sh.str (List.getD (PV.cells (enc y0)) 0 default),Sh.co (Sh.int .i64) (List.getD (PV.cells (enc y0)) (0+1) default)]]))))])),(.obj (.row false 61 2 (List.map enc ts++List.drop 0 (List.take 1 [PV.agg [Sh.co Sh.str (List.getD (PV.cells (enc y0)) 0 default),Sh.co (Sh.int .i64) (List.getD (PV.cells (enc y0)) (0+1) default)]]))))])))))else(if (!p)=true then(List.length (List.map enc ts)==q&&q==q&&decide ((q+List.length (List.drop 0 (List.take 1 [PV.agg [PV.str s,PV.int .i64 c]])))*24<=1099511627776)&&decide (q+List.length (List.drop 0 (List.take 1 [PV.agg [PV.str s,PV.int .i64 c]]))<=1099511627776))=true∧(At Z4 0 (Zl 0 ZQ G) ZR 1 100 [(6,(.ptr 0 0)),(7,(.ptr 1 0)),(11,(.pv (.int .i64 0))),(12,(.pv (.int .i64 0)))] [(.obj (.box [(.pv (.int .i64 0)),(.pv (.sl 0 true []))])),(.obj (.box [(.pv (.int .i64 l.k)),(.row 2 (q+List.length (List.drop 0 (List.take 1 [PV.agg [PV.str s,PV.int .i64 c]]))) 0 (q+List.length (List.drop 0 (List.take 1 [PV.agg [PV.str s,PV.int .i64 c]]))))])),(.obj (.row false 61 2 (List.map enc ts++List.drop 0 (List.take 1 [PV.agg [PV.str s,PV.int .i64 c]]))))])else(At Z4 0 (Zl 0 ZQ G) ZR 1 100 [(6,(.ptr 0 0)),(7,(.ptr 1 0)),(11,(.pv (.int .i64 0))),(12,(.pv (.int .i64 0)))] [(.obj (.box [(.pv (.int .i64 0)),(.pv (.sl 0 true []))])),(.obj (.box [(.pv (.int .i64 l.k)),(.row 2 q 0 q)])),(.obj (.row false 61 2 (List.map enc ts)))]))):At Z4 0 (Zl 0 ZQ G) ZR 0 100 [(1,.pv (.str s)),(2,.pv (.int .i64 c)),(3,.ptr 0 0),(6,.ptr 1 0),(7,.ptr 2 0),(8,.pv (.bool p)),(9,.pv (.int .i64 i))] [.obj (.box [.pv (.int .i64 l.k),.pv (enc l.t)]),.obj (.box [.pv (.int .i64 0),.pv (.sl 0 true [])]),.obj (.box [.pv (.int .i64 l.k),.row 3 q 0 q]),.obj (.row false 61 2 (ts.map enc))]:=At.to (.lit (.ask (.req (.abs (Coef) (fun YY=>AV.pv (PV.rptr (PV.cells ((enc) YY)))) (.lit (.ask (.lit (.lit (.lit (.lit (.lit (.ask (.lit (.lit (.req (.lit (.ask (.lit (.lit (.lit (.req (.lit (.nil)))))) (.lit (.lit (.req (.lit (.nil)))))))))) (.lit (.ask (.lit (.lit (.lit (.req (.lit (.nil)))))) (.lit (.lit (.req (.lit (.nil))))))))))))) (.lit (.lit (.lit (.lit (.lit (.lit (.ask (.lit (.lit (.lit (.req (.lit (.nil)))))) (.lit (.lit (.req (.lit (.nil)))))))))))))))) (.ask (.lit (.lit (.req (.nil)))) (.nil)))) h (by kernel_rfl)
end Go.Pl

namespace Go.Pl
open Go.RowKit
open Enc (enc dec is)
open EncL (encL decL isL)
theorem c0n{ts:List Coef}{i:Nat}(h:i<ts.length):ts.getD i ⟨⟨[]⟩,0⟩=ts[i]:=by simp[List.getD,h]
theorem b6d(l:Lin)(s:List UInt8)(c:Int)(q:Nat)(ho:q<=2000000): ∀ (m i j:Nat) (ts:List Coef),m+i=q->ts.length=q->j<=i ->
  At Z4 0 (Zl 0 ZQ (fun r=>r=BL ⟨l.k,(KJ m i j ts).2,(KJ m i j ts).1⟩ 0 [])) ZR 1 100 [(6,.ptr 0 0),(7,.ptr 1 0),(11,.pv (.int .i64 j)),(12,.pv (.int .i64 i))] [.obj (.box [.pv (.int .i64 0),.pv (.sl 0 true [])]),.obj (.box [.pv (.int .i64 l.k),.row 2 q 0 q]),.obj (.row false 61 2 (ts.map enc))]:=by
 intro m
 induction m with
 | zero=>
  intro i j ts hm hts hji
  refine TP l s c j i q ts (ZN (by simp;omega) ?_)
  refine⟨by simp[hts];omega,?_⟩
  subst hts
  simp only[Int.toNat_natCast,Nat.zero_add]
  rfl
 | succ m ih=>
  intro i j ts hm hts hji
  have hi':i<ts.length:=by omega
  have hj':j<ts.length:=by omega
  refine TP l s c j i q ts ?_
  simp only[a7y enc hi',a7y enc hj']
  refine ZU (by simp;omega) ⟨by simp;omega,by simp;omega,rfl,?_⟩
  rw[KJ,c0n hi']
  by_cases hz:ts[i].c=0
  ·refine ZN (by show ¬ (ts[i].c != 0)=true;simp[hz]) ?_
   rw[next (by omega),if_pos hz]
   exact ih (i+1) j ts (by omega) hts (by omega)
  ·refine ZU (by show(ts[i].c != 0)=true;simp[hz]) ⟨by simp;omega,by simp;omega,rfl,by simp;omega,?_,?_⟩
   ·simp only[List.length_map,hts,beq_self_eq_true,Bool.true_and,Nat.zero_add,Int.toNat_natCast,decide_eq_true (show j<q by omega)]
    rfl
   ·rw[Nat.zero_add,Int.toNat_natCast,b4p,next (by omega),next (by omega),if_neg hz]
    exact ih (i+1) (j+1) (ts.set j ts[i]) (by omega) (by simp[hts]) (by omega)
theorem GK(l:Lin)(s:List UInt8)(c:Int)(o:List Coef)(ho:o.length<=2000000):
  At Z4 0 (Zl 0 ZQ (fun r=>r=BL (RQ l.k o) 0 [])) ZR 1 100 [(6,.ptr 0 0),(7,.ptr 1 0),(11,.pv (.int .i64 0)),(12,.pv (.int .i64 0))] [.obj (.box [.pv (.int .i64 0),.pv (.sl 0 true [])]),.obj (.box [.pv (.int .i64 l.k),.row 2 o.length 0 o.length]),.obj (.row false 61 2 (o.map enc))]:=
 b6d l s c o.length ho o.length 0 0 o (by omega) rfl (by omega)
theorem b2g(l:Lin)(s:List UInt8)(c:Int)(hl:l.t.length<=1000000): ∀ (m i:Nat) (p:Bool) (q:Nat) (ts:List Coef),m+i=l.t.length->q=ts.length->(p=false->ts.length<=i)->ts.length<=i+1 ->
  At Z4 0 (Zl 0 ZQ (fun r=>r=BL (RQ l.k (ts++Vd ⟨s⟩ c p (l.t.drop i))) 0 [])) ZR 0 100 [(1,.pv (.str s)),(2,.pv (.int .i64 c)),(3,.ptr 0 0),(6,.ptr 1 0),(7,.ptr 2 0),(8,.pv (.bool p)),(9,.pv (.int .i64 i))]
   [.obj (.box [.pv (.int .i64 l.k),.pv (enc l.t)]),.obj (.box [.pv (.int .i64 0),.pv (.sl 0 true [])]),.obj (.box [.pv (.int .i64 l.k),.row 3 q 0 q]),.obj (.row false 61 2 (ts.map enc))]:=by
 intro m
 induction m with
 | zero=>
  intro i p q ts hm hq h1 h2
  refine RG l s c p i q ts (ZN (Ud (by omega)) ?_)
  rw[List.drop_of_length_le (show l.t.length<=i by omega)]
  refine XX (fun hp=> ?_) fun hp=> ?_
  ·subst hp
   refine⟨by simp[hq];omega,?_⟩
   have h:=GK l s c (ts++[⟨⟨s⟩,c⟩]) (by simp;omega)
   rw[List.map_append,List.length_append,<- hq]at h
   rw[Vd]
   exact h
  ·subst hp
   have h:=GK l s c ts (by omega)
   rw[<- hq]at h
   rw[Vd,if_pos rfl,List.append_nil]
   exact h
 | succ m ih=>
  intro i p q ts hm hq h1 h2
  have hlt:i<l.t.length:=by omega
  refine RG l s c p i q ts (ZU (WW hlt) ⟨Zq hlt rfl,ZF hlt ?_⟩)
  rw[List.drop_eq_getElem_cons hlt,next (by omega)]
  have key : ∀ (p':Bool) (add:List Coef),add.length<=2->(p'=false->(ts++add).length<=i+1)->(ts++add).length<=i+2->ts++Vd ⟨s⟩ c p (l.t[i]::l.t.drop (i+1))=(ts++add)++Vd ⟨s⟩ c p' (l.t.drop (i+1)) ->
    At Z4 0 (Zl 0 ZQ (fun r=>r=BL (RQ l.k (ts++Vd ⟨s⟩ c p (l.t[i]::l.t.drop (i+1)))) 0 [])) ZR 0 100 [(1,.pv (.str s)),(2,.pv (.int .i64 c)),(3,.ptr 0 0),(6,.ptr 1 0),(7,.ptr 2 0),(8,.pv (.bool p')),(9,.pv (.int .i64 ((i+1:Nat):Int)))]
     [.obj (.box [.pv (.int .i64 l.k),.pv (enc l.t)]),.obj (.box [.pv (.int .i64 0),.pv (.sl 0 true [])]),.obj (.box [.pv (.int .i64 l.k),.row 3 (q+add.length) 0 (q+add.length)]),.obj (.row false 61 2 (ts.map enc++add.map enc))]:=by
   intro p' add h3 h4 h5 h6
   rw[h6,<- List.map_append]
   exact ih (i+1) p' (q+add.length) (ts++add) (by omega) (by simp[hq]) h4 h5
  generalize l.t[i]=y at key ⊢
  obtain⟨⟨yv⟩,yc⟩:=y
  subst hq
  refine XX (fun hp=> ?_) fun hp=> ?_
  ·subst hp
   have hle:=h1 rfl
   refine XX (fun hb=> ?_) fun hb=> ?_
   ·have hb:(Op.bytesLess yv s||yv==s)=false:=hb
    have hlt2:s<yv:=by
     simp only[Yq,Bool.or_eq_false_iff,decide_eq_false_iff_not,beq_eq_false_iff_ne]at hb
     exact tri hb.1 hb.2
    have hne : ¬ yv=s:=fun e=>by rw[e]at hlt2;exact List.lt_irrefl _ hlt2
    refine⟨by simp;omega,KE (fun h=>absurd h hne) fun _=>⟨by simp;omega,?_⟩⟩
    have:=key true [⟨⟨s⟩,c⟩,⟨⟨yv⟩,yc⟩] (by simp) (fun h=>by cases h) (by simp;omega) (by rw[Sy,if_pos hlt2];simp)
    rw[List.append_assoc]
    exact this
   ·have hb:(Op.bytesLess yv s||yv==s)=true:=hb
    have hnl : ¬ s<yv:=by
     simp only[Yq,Bool.or_eq_true,decide_eq_true_eq,beq_iff_eq]at hb
     rcases hb with h|h
     ·exact List.lt_asymm h
     ·rw[h];exact List.lt_irrefl _
    refine KE (fun h=> ?_) fun h=> ?_
    ·have h:yv=s:=h
     subst h
     refine⟨by simp;omega,?_⟩
     exact key true [⟨⟨yv⟩,V8 (yc+c)⟩] (by simp) (fun h=>by cases h) (by simp;omega) (by rw[Sy,if_neg hnl,if_pos rfl];simp)
    ·have h:yv≠s:=h
     refine⟨by simp;omega,?_⟩
     exact key false [⟨⟨yv⟩,yc⟩] (by simp) (fun _=>by simp;omega) (by simp;omega) (by rw[Sy,if_neg hnl,if_neg (by rw[NR];exact h)];simp)
  ·subst hp
   refine KE (fun h=> ?_) fun h=> ?_
   ·have h:yv=s:=h
    subst h
    refine⟨by simp;omega,?_⟩
    exact key true [⟨⟨yv⟩,V8 (yc+c)⟩] (by simp) (fun h=>by cases h) (by simp;omega) (by rw[a7x,if_pos rfl];simp)
   ·have h:yv≠s:=h
    refine⟨by simp;omega,?_⟩
    exact key true [⟨⟨yv⟩,yc⟩] (by simp) (fun h=>by cases h) (by simp;omega) (by rw[a7x,if_neg (by rw[NR];exact h)];simp)
theorem a6k(l:Lin)(s:List UInt8)(c:Int)(hl:l.t.length<=1000000):Zc Z4 0 (Zl 0 ZQ (fun r=>r=BL (Dk l ⟨s⟩ c) 0 [])) ZR [] (YR LZ [.pv (enc l),.pv (.str s),.pv (enc c)] []):=by
 refine b8p l s c (a7q l s c false 0 ?_)
 show if _ then _ else(if _ then At Z4 0 (Zl 0 ZQ (fun r=>r=BL (RQ l.k (Vd ⟨s⟩ c false l.t)) 0 [])) _ _ _ _ _ else _)
 by_cases h0:l.t=[]
 ·refine ZN (by simp[h0]) (ZU rfl ?_)
  have h:=GK l s c [⟨⟨s⟩,c⟩] (by simp)
  rw[h0,Vd]
  exact h
 ·have hlt:0<l.t.length:=List.length_pos_iff.2 h0
  refine ZU (by simp;omega) ⟨by simp[Enc.sz];omega,ZF hlt ?_⟩
  have ed:l.t=l.t[0]::l.t.drop 1:=by
   have:=List.drop_eq_getElem_cons hlt
   rwa [List.drop_zero]at this
  have key : ∀ (p':Bool) (add:List Coef),add.length<=2->(p'=false->add.length<=1)->Vd ⟨s⟩ c false (l.t[0]::l.t.drop 1)=add++Vd ⟨s⟩ c p' (l.t.drop 1) ->
    At Z4 0 (Zl 0 ZQ (fun r=>r=BL (RQ l.k (Vd ⟨s⟩ c false l.t)) 0 [])) ZR 0 100 [(1,.pv (.str s)),(2,.pv (.int .i64 c)),(3,.ptr 0 0),(6,.ptr 1 0),(7,.ptr 2 0),(8,.pv (.bool p')),(9,.pv (.int .i64 ((0+1:Nat):Int)))]
     [.obj (.box [.pv (.int .i64 l.k),.pv (enc l.t)]),.obj (.box [.pv (.int .i64 0),.pv (.sl 0 true [])]),.obj (.box [.pv (.int .i64 l.k),.row 3 add.length 0 add.length]),.obj (.row false 61 2 (add.map enc))]:=by
   intro p' add h3 h4 h6
   have h7:Vd ⟨s⟩ c false l.t=add++Vd ⟨s⟩ c p' (l.t.drop 1):=by rw[<- h6,<- ed]
   rw[h7]
   exact b2g l s c hl (l.t.length - 1) (0+1) p' add.length add (by omega) rfl (fun h=>h4 h) (by omega)
  rw[show IntKind.wrap IntKind.i64 (0+1)=((0+1:Nat):Int)from rfl]
  generalize l.t[0]=y at key ⊢
  obtain⟨⟨yv⟩,yc⟩:=y
  refine ZU rfl ?_
  refine XX (fun hb=> ?_) fun hb=> ?_
  ·have hb:(Op.bytesLess yv s||yv==s)=false:=hb
   have hlt2:s<yv:=by
    simp only[Yq,Bool.or_eq_false_iff,decide_eq_false_iff_not,beq_eq_false_iff_ne]at hb
    exact tri hb.1 hb.2
   have hne : ¬ yv=s:=fun e=>by rw[e]at hlt2;exact List.lt_irrefl _ hlt2
   refine KE (fun h=>absurd h hne) fun _=> ?_
   exact key true [⟨⟨s⟩,c⟩,⟨⟨yv⟩,yc⟩] (by simp) (fun h=>by cases h) (by rw[Sy,if_pos hlt2];simp)
  ·have hb:(Op.bytesLess yv s||yv==s)=true:=hb
   have hnl : ¬ s<yv:=by
    simp only[Yq,Bool.or_eq_true,decide_eq_true_eq,beq_iff_eq]at hb
    rcases hb with h|h
    ·exact List.lt_asymm h
    ·rw[h];exact List.lt_irrefl _
   refine KE (fun h=> ?_) fun h=> ?_
   ·have h:yv=s:=h
    subst h
    exact key true [⟨⟨yv⟩,V8 (yc+c)⟩] (by simp) (fun h=>by cases h) (by rw[Sy,if_neg hnl,if_pos rfl];simp)
   ·have h:yv≠s:=h
    exact key false [⟨⟨yv⟩,yc⟩] (by simp) (fun _=>by simp) (by rw[Sy,if_neg hnl,if_neg (by rw[NR];exact h)];simp)
theorem a6c: ∀ args os,Ji args os=true->Zc Z4 os.length (Zl os.length ZQ fun r=>r=Je args os) ZR [] (YR LZ args os):=by
 intro args os h
 unfold Ji at h
 split at h
 ·rename_i l s c
  simp only[Bool.and_eq_true,decide_eq_true_eq]at h
  obtain⟨hl,h1⟩:=h
  obtain⟨l,rfl⟩:=YC hl
  rw[Enc.dec_enc]at h1
  have ev:Je [.pv (enc l),.pv (.str s),.pv (.int .i64 c)] []=BL (Dk l ⟨s⟩ c) 0 []:=by
   show BL (Dk (dec (enc l:PV)) ⟨s⟩ c) 0 []=_
   rw[Enc.dec_enc]
  rw[ev]
  exact a6k l s c h1
 ·cases h
end Go.Pl

namespace Go.Pl
open Go.RowKit
open Enc (enc dec is)
open EncL (encL decL isL)
theorem U7.rfl(ps:List PV):U7 ps ps:=⟨Eq.refl _,fun j x y hx hy Φ v h=>by rw[hx]at hy;cases hy;exact h⟩
theorem LR.frz_av(r:LR):(frz (r.av 0)).run (YV [r.ob])=some (enc r.view,[.obj (.row true 61 2 (r.ts.map enc))]):=by
 have:(PV.agg [.int .i64 r.k,.sl 2 false (List.drop 0 (List.take r.w (r.ts.map enc)))])=enc r.view:=by
  rw[List.drop_zero,<- List.map_take];rfl
 rw[<- this]
 simp[frz,Ul,HM.bind,HM.run,YV,LR.av,LR.ob]
theorem a3c{P:Program}{f:Nat}(h:Yc P f Ji Je):Zr P f (fun x:Lin×Str×Int×Unit=>decide (x.1.t.length<=1000000)) (fun x:Lin×Str×Int×Unit=>Kt x.1 x.2.1 x.2.2.1):=Zr.of_own h fun a ha=>by
 obtain⟨l,⟨s⟩,c,⟨⟩⟩:=a
 have ha:l.t.length<=1000000:=by simpa using ha
 refine⟨(Dk l ⟨s⟩ c).av 0,[(Dk l ⟨s⟩ c).ob],_,_,?_,?_,LR.frz_av _,?_⟩
 ·show(Vz Lin (enc l)&&decide ((dec (enc l:PV):Lin).t.length<=1000000))=true
  rw[Ya,Enc.dec_enc,decide_eq_true ha];rfl
 ·show BL (Dk (dec (enc l:PV)) ⟨s⟩ c) 0 []=_
  rw[Enc.dec_enc];rfl
 ·rw[Od];exact .refl _
end Go.Pl

namespace Go.Pl
open Go.RowKit
open Enc (enc dec is)
open EncL (encL decL isL)
structure BoxT where
 v:List Str
 m:Int
 deriving DecidableEq
instance:Enc BoxT where
 sz:=2
 enc x:=.agg [enc x.v,enc x.m]
 dec | .agg [a,b]=>⟨dec a,dec b⟩|_=>⟨[],0⟩
 is | .agg [a,b]=>is (List Str) a&&is Int b|_=>false
 is_enc v:=by simp
 dec_enc v:=by simp
 sub p h:=by
  cases p with
  | agg xs=>
   match xs,h with
   | [a,b],h=>
    simp only[Bool.and_eq_true]at h
    exact .agg (.cons (Enc.sub a h.1).2 (.cons (Enc.sub b h.2).2 .nil))
  | _=>cases h
@[simp] theorem c9z (a b : PV) : is BoxT (.agg [a, b]) = (is (List Str) a && is Int b) := rfl
@[simp] theorem c9c (a b : PV) : (dec (.agg [a, b]) : BoxT) = ⟨dec a, dec b⟩ := rfl
structure Mono where
 c:Int
 v:List Str
 deriving DecidableEq
instance:Enc Mono where
 sz:=2
 enc x:=.agg [enc x.c,enc x.v]
 dec | .agg [a,b]=>⟨dec a,dec b⟩|_=>⟨0,[]⟩
 is | .agg [a,b]=>is Int a&&is (List Str) b|_=>false
 is_enc v:=by simp
 dec_enc v:=by simp
 sub p h:=by
  cases p with
  | agg xs=>
   match xs,h with
   | [a,b],h=>
    simp only[Bool.and_eq_true]at h
    exact .agg (.cons (Enc.sub a h.1).2 (.cons (Enc.sub b h.2).2 .nil))
  | _=>cases h
@[simp] theorem d0f (a b : PV) : is Mono (.agg [a, b]) = (is Int a && is (List Str) b) := rfl
@[simp] theorem c9f (a b : PV) : (dec (.agg [a, b]) : Mono) = ⟨dec a, dec b⟩ := rfl
structure NilS where
 deriving DecidableEq
instance:Enc NilS where
 sz:=1
 enc _:=.sl 0 true []
 dec _:=⟨⟩
 is | .sl 0 true []=>true|_=>false
 is_enc _:=rfl
 dec_enc _:=rfl
 sub p h:=by
  cases p with
  | sl s t xs=>
   cases xs with
   | nil=>cases s with
    | zero=>cases t with
     | true=>exact .refl _
     | false=>cases h
    | succ s=>cases h
   | cons x xs=>cases s <;> cases t <;> cases h
  | _=>cases h
def Zn{α:Type}(l:List α):Bool:=decide (l.length<=9223372036854775807)
def YB(l:List Str):Bool:=Zn l&&l.all fun s=>decide (s.s.length<=281474976710656)
def ZW(b:BoxT):Bool:=YB b.v
def QL(m:Int):List Str->Int->Option Int
 | [],n=>some n
 | _::r,n=>if n*(m+1)>20000 then none else QL m r (n*(m+1))
def YZ(b:BoxT):Bool:=b.v.all ZB&&decide b.v.Nodup&&(b.v.isEmpty||decide (b.m<20000))&&decide (0<=b.m)&&(QL b.m b.v 1).isSome
def Zi(vs:List Str)(p:List Int):List Coef:=List.zipWith (fun v n=>⟨v,n⟩) vs p
def Zp(l:Lin):List Str:=l.t.map (·.v)
def Qq(vs:List Str)(ns:List Str):Bool:=ns.all fun s=>vs.contains s
def Zm(b:BoxT)(fs:List Fact)(ok:Bool)(ns:List Str):Int:=
 if !YZ b || !XQ fs || !ok then 1 else if Qq b.v (ns++fs.flatMap fun f=>Zp f.l)then 0 else 7
def Wv(m:Int):Nat->List Int->Option (List Int)
 | 0,_=>none
 | k+1,p=>if p.getD k 0=m then Wv m k (p.set k 0)else some (p.set k (p.getD k 0+1))
def DR(m:Int)(p:List Int):Option (List Int):=Wv m p.length p
def walkP(m:Int):Nat->List Int->List (List Int)
 | 0,_=>[]
 | f+1,p=>p::(match DR m p with|none=>[]|some q=>walkP m f q)
def V6(vs:List Str):List Int:=vs.map fun _=>0
def c3z(b:BoxT):List (List Int):=walkP b.m 20001 (V6 b.v)
def X4(vs:List Str)(fs:List Fact)(p:List Int):Bool:=fs.all fun f=>YI f (Zi vs p)
def Z0(b:BoxT)(fs:List Fact):List (List Int):=(c3z b).filter (X4 b.v fs)
def YG(b:BoxT)(fs:List Fact):List (List Int)×Int:=if Zm b fs true []=0 then(Z0 b fs,0)else([],Zm b fs true [])
def YD(b:BoxT)(fs:List Fact):Int×Int:=(((YG b fs).1.length:Int),(YG b fs).2)
def Jf:List AV->List AObj->Bool
 | [.pv (.str s),.ptr 0 0],[.box [.pv v,.pv (.int .i64 m)]]=>Vz (List Str) v&&Zn (dec v:List Str)
 | _,_=>false
def Co:List AV->List AObj->AV×List AObj×List AObj
 | [.pv (.str s),_],[.box [.pv v,.pv (.int .i64 m)]]=>(.pv (.bool (!((dec v:List Str).contains ⟨s⟩))),[.box [.pv v,.pv (.int .i64 m)]],[])
 | _,_=>Vu
def KM(xs:List PV):List Str:=dec (.sl 1 false xs)
def SS(n m:Nat)(xs:List PV):Bool:=m==n&&xs.length==n&&Vz (List Str) (.sl 1 false xs)&&Zn (KM xs)
def Wm(g:Nat):List AV->List AObj->Bool
 | [.row 0 n 0 m,.fn g' [] [.ptr 1 0]],[.row false ty 1 xs,.box [.pv v,.pv (.int .i64 k)]]=>g'==g&&ty==9&&SS n m xs&&Vz (List Str) v&&Zn (dec v:List Str)
 | [.pv (.sl 0 true []),.fn g' [] [.ptr 0 0]],[.box [.pv v,.pv (.int .i64 k)]]=>g'==g&&Vz (List Str) v&&Zn (dec v:List Str)
 | _,_=>false
def CE:List AV->List AObj->AV×List AObj×List AObj
 | _,[.row fz ty sz xs,.box [.pv v,.pv (.int .i64 k)]]=>(.pv (.int .i64 (ZE (fun s:Str=> !((dec v:List Str).contains s)) (KM xs))),[.row fz ty sz xs,.box [.pv v,.pv (.int .i64 k)]],[])
 | _,[.box [.pv v,.pv (.int .i64 k)]]=>(.pv (.int .i64 (-1)),[.box [.pv v,.pv (.int .i64 k)]],[])
 | _,_=>Vu
def Pj:List AV->List AObj->AV×List AObj×List AObj
 | _,[.row fz ty sz xs,.box [.pv v,.pv (.int .i64 k)]]=>(.pv (.bool ((KM xs).any fun s=> !((dec v:List Str).contains s))),[.row fz ty sz xs,.box [.pv v,.pv (.int .i64 k)]],[])
 | _,[.box [.pv v,.pv (.int .i64 k)]]=>(.pv (.bool false),[.box [.pv v,.pv (.int .i64 k)]],[])
 | _,_=>Vu
def K9:List AV->List AObj->Bool
 | [.pv a],[]=>Vz Lin a&& !(dec a:Lin).t.isEmpty&&decide ((dec a:Lin).t.length<=1000000)
 | _,_=>false
def KL(ns:List Str):AV×List AObj×List AObj:=(.row 0 ns.length 0 ns.length,[],[.row false 9 1 (ns.map enc)])
def EX(p:PV):Lin:=dec p
def Gp:List AV->List AObj->AV×List AObj×List AObj
 | [.pv a],_=>KL (Zp (EX a))
 | _,_=>Vu
def K5:List AV->List AObj->Bool
 | [.pv a],[]=>Vz Lin a&&(dec a:Lin).t.isEmpty
 | _,_=>false
def CB:List AV->List AObj->AV×List AObj×List AObj:=fun _ _=>(.pv (.sl 0 true []),[],[])
def Ug:List AV->List AObj->Bool
 | [.pv b,.pv f,.pv (.bool ok),.row 0 n 0 m],[.row false ty 1 xs]=>Vz BoxT b&&Vz (List Fact) f&&ty==9&&SS n m xs&&decide (n<=1000)&& !xs.isEmpty&&ZW (dec b)&&Zo (dec f)&&decide ((dec f:List Fact).length<=100)&&decide (xs.length<=1000)
 | _,_=>false
def OA(p:PV):BoxT:=dec p
def BS(p:PV):List Fact:=dec p
def ckV(b:BoxT)(fs:List Fact)(ok:Bool)(ns:List Str):List Str:=if !YZ b || !XQ fs || !ok then ns else ns++fs.flatMap fun f=>Zp f.l
def Q9:List AV->List AObj->AV×List AObj×List AObj
 | [.pv b,.pv f,.pv (.bool ok),_],[.row fz ty sz xs]=>(.pv (.int .i64 (Zm (OA b) (BS f) ok (KM xs))),[.row false ty sz ((ckV (OA b) (BS f) ok (KM xs)).map enc)],[])
 | _,_=>Vu
def Y9:List AV->List AObj->Bool
 | [.pv (.agg [v,.int .i64 m]),.pv f],[]=>Vz (List Str) v&&Vz (List Fact) f
 | _,_=>false
def WL:List AV->List AObj->AV×List AObj×List AObj
 | [.pv (.agg [v,.int .i64 m]),.pv f],_=>(.fn 177 [] [.ptr 0 0,.ptr 1 0],[],[.box [.pv v,.pv (.int .i64 m)],.box [.pv f]])
 | _,_=>Vu
def b6f(xs:List PV):List Int:=dec (.sl 1 false xs)
def QQ:List AV->List AObj->Bool
 | [.pv (.agg [v,.int .i64 k]),.row 0 n 0 m],[.row false ty 1 xs]=>m==n&&xs.length==n&&ty==3&&Vz (List Int) (.sl 1 false xs)&&Vz (List Str) v&&decide ((dec v:List Str).length<=1000)&&decide (n<=1000)
 | _,_=>false
def Jc:List AV->List AObj->AV×List AObj×List AObj
 | [.pv (.agg [v,.int .i64 k]),_],[.row fz ty sz xs]=>(.pv (.sl 2 false ((Zi (dec v) (b6f xs)).map enc)),[.row false ty sz xs],[])
 | _,_=>Vu
end Go.Pl

namespace Go.Pl
open Go.RowKit
open Enc (enc dec is)
open EncL (encL decL isL)
set_option maxRecDepth 100000
def VJ:IC:=(.seq (.reg [⟨(some 4),(.mv (.c (.int .i64 0))),0,none⟩] none) (.seq (.seq (.reg [⟨(some 6),(.mv (.t 0)),0,none⟩,⟨(some 7),(.len 1 (.t 6)),0,none⟩,⟨(some 8),(.mv (.c (.int .i64 0))),0,none⟩] none) (.block 0 (.loop [8,7,1,0] (.seq (.reg [⟨(some 9),(.bin .num .lss (.t 8) (.t 7)),0,none⟩] none) (.seq (.cond (.t 9) .skip (.exit 0)) (.seq (.block 1 (.seq (.reg [⟨(some 10),(.mv (.t 8)),0,none⟩,⟨(some 5),(.mv (.t 10)),0,none⟩] none) (.seq (.reg [⟨(some 11),(.mv (.t 1)),0,none⟩,⟨(some 12),(.mv (.t 0)),0,none⟩,⟨(some 13),(.mv (.t 5)),0,none⟩,⟨(some 14),(.iaddr 1 (.t 12) (.t 13)),0,none⟩,⟨(some 15),(.load false [.str] (.t 14)),0,none⟩,⟨(some 16),(.bin .num .eql (.t 11) (.t 15)),0,none⟩] none) (.cond (.t 16) (.seq (.reg [⟨(some 17),(.mv (.t 5)),0,none⟩,⟨(some 4),(.mv (.t 17)),0,none⟩] none) .ret) .skip)))) (.reg [⟨(some 18),(.bin .num .add (.t 8) (.c (.int .i64 1))),0,none⟩,⟨(some 8),(.mv (.t 18)),0,none⟩] none))))))) (.seq (.reg [⟨(some 4),(.mv (.c (.int .i64 (-1)))),0,none⟩] none) .ret)))
def VL:List IRes:=[(.tmp 4)]
abbrev a7m:Nat:=19
def UB:ZK:=Xp []
theorem a9f{G:PV->Prop}(l:List Str)(s:List UInt8)(h:At UB 0 (Za VL G) VJ 0 19 [(0,(.pv (.sl 1 false (List.map enc l)))),(1,(.pv (.str s))),(7,(.pv (.int .i64 (↑(List.length (List.map enc l)):Int)))),(8,(.pv (.int .i64 0)))] []):Zc UB 0 (Za VL G) VJ [] (Yr 19 [enc l,.str s]):=Zc.tp (.nil) h (by kernel_rfl)
theorem Rj{G:PV->Prop}(l:List Str)(s:List UInt8)(i:Int)(h:if (decide (i<(↑(List.length l):Int)))=true then(decide (0<=i)&&decide (Int.toNat i<List.length (List.map enc l))&&Enc.sz Str==1)=true∧(∃ y0:Str,AV.pv (PV.rptr (PV.cells (List.getD (List.map enc l) (Int.toNat i) default)))=AV.pv (PV.rptr (PV.cells ((enc) y0)))∧(if (s==PV.asStr (List.getD (PV.cells (enc y0)) 0 default))=true then G ((.int .i64 i))else(At UB 0 (Za VL G) VJ 0 19 [(0,(.pv (.sl 1 false (List.map enc l)))),(1,(.pv (.str s))),(7,(.pv (.int .i64 (↑(List.length l):Int)))),(8,(.pv (.int .i64 (IntKind.wrap IntKind.i64 (i+1)))))] [])))else(G ((.int .i64 (-1))))):At UB 0 (Za VL G) VJ 0 19 [(0,.pv (enc l)),(1,.pv (.str s)),(7,.pv (.int .i64 l.length)),(8,.pv (.int .i64 i))] []:=At.tp (.lit (.ask (.req (.abs (Str) (fun YY=>AV.pv (PV.rptr (PV.cells ((enc) YY)))) (.lit (.lit (.ask (.nil) (.lit (.nil))))))) (.nil))) h (by kernel_rfl)
def Ai:IC:=(.seq (.reg [⟨(some 4),(.mv (.c (.bool false))),0,none⟩] none) (.seq (.reg [⟨(some 5),(.mv (.t 0)),0,none⟩,⟨(some 6),(.mv (.t 1)),0,none⟩,⟨(some 7),(.call (.c (.fn 183)) [(.t 5),(.t 6)]),0,none⟩,⟨(some 8),(.bin .num .geq (.t 7) (.c (.int .i64 0))),2,none⟩,⟨(some 4),(.mv (.t 8)),2,none⟩] none) .ret))
def AL:List IRes:=[(.tmp 4)]
abbrev b3a:Nat:=9
def Nh:ZK:=Xp [(183,.pure (preT (fun x:List Str×Str×Unit=>Zn x.1)) (Zf (fun x:List Str×Str×Unit=>ZE (fun s:Str=>decide (s=x.2.1)) x.1)))]
theorem b8h{G:PV->Prop}(l:List Str)(s:List UInt8)(h:(Go.Pl.preT (fun(x:List Str×Str×Unit)=>Zn x.1) [(.sl 1 false (List.map enc l)),(.str s)])=true∧(∃ y0:Int,AV.pv (Zf (fun(x:List Str×Str×Unit)=>ZE (fun(s:Str)=>decide (s=x.2.1)) x.1) [(.sl 1 false (List.map enc l)),(.str s)])=AV.pv (enc y0)∧(G ((.bool (decide (y0 ≥ 0))))))):Zc Nh 0 (Za AL G) Ai [] (Yr 9 [enc l,.str s]):=Zc.tp (.req (.abs (Int) (fun YY=>AV.pv (enc YY)) (.lit (.nil)))) h (by kernel_rfl)
def VA:IC:=(.seq (.reg [⟨(some 1),(.box 2 (.t 0)),0,none⟩,⟨(some 2),(.mv (.c (.bool false))),1,none⟩] none) (.seq (.reg [⟨(some 3),(.mv (.c (.int .i64 1))),0,none⟩] none) (.seq (.seq (.reg [⟨(some 6),(.faddr 0 (.t 1)),0,none⟩,⟨(some 7),(.load false [(.sl 1)] (.t 6)),0,none⟩,⟨(some 8),(.len 1 (.t 7)),0,none⟩,⟨(some 9),(.mv (.c (.int .i64 0))),0,none⟩] none) (.block 0 (.loop [9,8,7,1,3] (.seq (.reg [⟨(some 10),(.bin .num .lss (.t 9) (.t 8)),0,none⟩] none) (.seq (.cond (.t 10) .skip (.exit 0)) (.seq (.block 1 (.seq (.reg [⟨(some 11),(.mv (.t 9)),0,none⟩,⟨(some 12),(.iaddr 1 (.t 7) (.t 9)),0,none⟩,⟨(some 13),(.load false [.str] (.t 12)),0,none⟩,⟨(some 4),(.mv (.t 11)),0,none⟩,⟨(some 5),(.mv (.t 13)),0,none⟩] none) (.seq (.seq (.reg [⟨(some 14),(.mv (.t 5)),0,none⟩,⟨(some 15),(.call (.c (.fn 119)) [(.t 14)]),0,none⟩,⟨(some 16),(.un .not (.t 15)),2,none⟩,⟨(some 17),(.mv (.t 16)),2,none⟩,⟨(some 18),(.faddr 0 (.t 1)),2,(some (17,false))⟩,⟨(some 19),(.load false [(.sl 1)] (.t 18)),2,(some (17,false))⟩,⟨(some 20),(.mv (.t 4)),2,(some (17,false))⟩,⟨(some 21),(.slc 1 (.t 19) none (some (.t 20)) none),2,(some (17,false))⟩,⟨(some 22),(.mv (.t 5)),2,(some (17,false))⟩,⟨(some 23),(.call (.c (.fn 120)) [(.t 21),(.t 22)]),2,(some (17,false))⟩,⟨(some 24),(.pick (.t 17) (.c (.bool true)) (.t 23)),4,none⟩,⟨(some 25),(.mv (.t 24)),4,none⟩,⟨(some 26),(.faddr 1 (.t 1)),4,(some (25,false))⟩,⟨(some 27),(.load false [(.int .i64)] (.t 26)),4,(some (25,false))⟩,⟨(some 28),(.bin .num .lss (.t 27) (.c (.int .i64 0))),4,(some (25,false))⟩,⟨(some 29),(.pick (.t 25) (.c (.bool true)) (.t 28)),4,none⟩,⟨(some 30),(.mv (.t 29)),4,none⟩,⟨(some 31),(.faddr 1 (.t 1)),4,(some (30,false))⟩,⟨(some 32),(.load false [(.int .i64)] (.t 31)),4,(some (30,false))⟩,⟨(some 33),(.bin .num .geq (.t 32) (.c (.int .i64 20000))),4,(some (30,false))⟩,⟨(some 34),(.pick (.t 30) (.c (.bool true)) (.t 33)),4,none⟩] none) (.cond (.t 34) (.seq (.reg [⟨(some 2),(.mv (.c (.bool false))),0,none⟩] none) .ret) .skip)) (.seq (.reg [⟨(some 35),(.mv (.t 3)),0,none⟩,⟨(some 36),(.faddr 1 (.t 1)),0,none⟩,⟨(some 37),(.load false [(.int .i64)] (.t 36)),0,none⟩,⟨(some 38),(.bin .num .add (.t 37) (.c (.int .i64 1))),0,none⟩,⟨(some 39),(.bin .num .mul (.t 35) (.t 38)),0,none⟩,⟨(some 3),(.mv (.t 39)),0,none⟩] none) (.seq (.reg [⟨(some 40),(.mv (.t 3)),0,none⟩,⟨(some 41),(.bin .num .gtr (.t 40) (.c (.int .i64 20000))),0,none⟩] none) (.cond (.t 41) (.seq (.reg [⟨(some 2),(.mv (.c (.bool false))),0,none⟩] none) .ret) .skip)))))) (.reg [⟨(some 42),(.bin .num .add (.t 9) (.c (.int .i64 1))),0,none⟩,⟨(some 9),(.mv (.t 42)),0,none⟩] none))))))) (.seq (.reg [⟨(some 43),(.faddr 1 (.t 1)),0,none⟩,⟨(some 44),(.load false [(.int .i64)] (.t 43)),0,none⟩,⟨(some 45),(.bin .num .geq (.t 44) (.c (.int .i64 0))),0,none⟩,⟨(some 2),(.mv (.t 45)),0,none⟩] none) .ret))))
def VC:List IRes:=[(.tmp 2)]
abbrev a7l:Nat:=46
def UG:ZK:=Xp [(119,.pure (preT (fun x:Str×Unit=>decide (x.1.s.length<=281474976710656))) (Zf (fun x:Str×Unit=>ZB x.1))),(120,.pure (preT (fun x:List Str×Str×Unit=>Zn x.1)) (Zf (fun x:List Str×Str×Unit=>x.1.contains x.2.1)))]
theorem b5e{G:PV->Prop}(b:BoxT)(h:At UG 0 (Za VC G) VA 0 46 [(1,(.ptr 0 0)),(3,(.pv (.int .i64 1))),(7,(.pv (.sl 1 false (List.map enc b.v)))),(8,(.pv (.int .i64 (↑(List.length (List.map enc b.v)):Int)))),(9,(.pv (.int .i64 0)))] [(.obj (.box [(.pv (.sl 1 false (List.map enc b.v))),(.pv (.int .i64 b.m))]))]):Zc UG 0 (Za VC G) VA [] (Yr 46 [enc b]):=Zc.tp (.nil) h (by kernel_rfl)
theorem TU{G:PV->Prop}(b:BoxT)(n i:Int)(h:if (decide (i<(↑(List.length b.v):Int)))=true then(decide (0<=i)&&decide (Int.toNat i<List.length (List.map enc b.v))&&Enc.sz Str==1)=true∧(∃ y0:Str,AV.pv (PV.rptr (PV.cells (List.getD (List.map enc b.v) (Int.toNat i) default)))=AV.pv (PV.rptr (PV.cells ((enc) y0)))∧((Go.Pl.preT (fun(x:Str×Unit)=>decide (List.length (Str.s x.1)<=281474976710656)) [(.str (PV.asStr (List.getD (PV.cells (enc y0)) 0 default)))])=true∧(∃ y1:Bool,AV.pv (Zf (fun(x:Str×Unit)=>ZB x.1) [(.str (PV.asStr (List.getD (PV.cells (enc y0)) 0 default)))])=AV.pv (enc y1)∧(if (!y1)=true then G ((.bool false))else((true&&decide (0<=i)&&(List.isEmpty (List.map enc b.v)||Enc.sz Str==1)&&decide (0<=Int.toNat i)&&decide (Int.toNat i<=List.length (List.map enc b.v)))=true∧((Go.Pl.preT (fun(x:List Str×Str×Unit)=>Zn x.1) [(.sl 1 false (List.drop 0 (List.take (Int.toNat i) (List.map enc b.v)))),(.str (PV.asStr (List.getD (PV.cells (enc y0)) 0 default)))])=true∧(∃ y2:Bool,AV.pv (Zf (fun(x:List Str×Str×Unit)=>List.contains x.1 x.2.1) [(.sl 1 false (List.drop 0 (List.take (Int.toNat i) (List.map enc b.v)))),(.str (PV.asStr (List.getD (PV.cells (enc y0)) 0 default)))])=AV.pv (enc y2)∧(if (y2)=true then G ((.bool false))else(if (decide (BoxT.m b<0))=true then G ((.bool false))else(if (decide (BoxT.m b ≥ 20000))=true then G ((.bool false))else(if (decide (IntKind.wrap IntKind.i64 (n*IntKind.wrap IntKind.i64 (BoxT.m b+1))>20000))=true then G ((.bool false))else(At UG 0 (Za VC G) VA 0 46 [(1,(.ptr 0 0)),(3,(.pv (.int .i64 (IntKind.wrap IntKind.i64 (n*IntKind.wrap IntKind.i64 (BoxT.m b+1)))))),(7,(.pv (.sl 1 false (List.map enc b.v)))),(8,(.pv (.int .i64 (↑(List.length b.v):Int)))),(9,(.pv (.int .i64 (IntKind.wrap IntKind.i64 (i+1)))))] [(.obj (.box [(.pv (.sl 1 false (List.map enc b.v))),(.pv (.int .i64 b.m))]))]))))))))))))else(G ((.bool (decide (BoxT.m b ≥ 0)))))):At UG 0 (Za VC G) VA 0 46 [(1,.ptr 0 0),(3,.pv (.int .i64 n)),(7,.pv (enc b.v)),(8,.pv (.int .i64 b.v.length)),(9,.pv (.int .i64 i))] [.obj (.box [.pv (enc b.v),.pv (.int .i64 b.m)])]:=At.tp (.lit (.ask (.req (.abs (Str) (fun YY=>AV.pv (PV.rptr (PV.cells ((enc) YY)))) (.lit (.req (.abs (Bool) (fun YY=>AV.pv (enc YY)) (.ask (.lit (.lit (.lit (.lit (.lit (.lit (.lit (.lit (.lit (.lit (.lit (.lit (.lit (.lit (.lit (.nil)))))))))))))))) (.lit (.lit (.lit (.req (.lit (.lit (.req (.abs (Bool) (fun YY=>AV.pv (enc YY)) (.lit (.ask (.lit (.lit (.lit (.lit (.lit (.lit (.lit (.lit (.nil))))))))) (.lit (.lit (.lit (.lit (.ask (.lit (.lit (.lit (.lit (.nil))))) (.lit (.lit (.lit (.lit (.ask (.nil) (.lit (.lit (.lit (.ask (.nil) (.lit (.nil)))))))))))))))))))))))))))))))) (.lit (.nil)))) h (by kernel_rfl)
def Yw:IC:=(.seq (.reg [⟨(some 1),(.box 2 (.t 0)),0,none⟩,⟨(some 2),(.mv (.c (.sl 0 true []))),1,none⟩] none) (.seq (.reg [⟨(some 3),(.mv (.c (.sl 0 true []))),0,none⟩] none) (.seq (.seq (.reg [⟨(some 6),(.faddr 1 (.t 1)),0,none⟩,⟨(some 7),(.load false [(.sl 2)] (.t 6)),0,none⟩,⟨(some 8),(.len 1 (.t 7)),0,none⟩,⟨(some 9),(.mv (.c (.int .i64 0))),0,none⟩] none) (.block 0 (.loop [9,8,7,3] (.seq (.reg [⟨(some 10),(.bin .num .lss (.t 9) (.t 8)),0,none⟩] none) (.seq (.cond (.t 10) .skip (.exit 0)) (.seq (.block 1 (.seq (.reg [⟨(some 11),(.iaddr 2 (.t 7) (.t 9)),0,none⟩,⟨(some 12),(.load true [.str,(.int .i64)] (.t 11)),0,none⟩,⟨(some 5),(.alloc (.agg [(.str []),(.int .i64 0)])),0,none⟩,⟨none,(.store 2 (.t 5) (.t 12)),1,none⟩] none) (.reg [⟨(some 13),(.mv (.t 3)),0,none⟩,⟨(some 14),(.faddr 0 (.t 5)),0,none⟩,⟨(some 15),(.load false [.str] (.t 14)),0,none⟩,⟨(some 16),(.bslice 9 1 1 (.str []) [(0,(.t 15))]),0,none⟩,⟨(some 17),(.append 9 1 16 (.t 13) (.t 16)),1,none⟩,⟨(some 3),(.mv (.t 17)),2,none⟩] none))) (.reg [⟨(some 18),(.bin .num .add (.t 9) (.c (.int .i64 1))),0,none⟩,⟨(some 9),(.mv (.t 18)),0,none⟩] none))))))) (.seq (.reg [⟨(some 19),(.mv (.t 3)),0,none⟩,⟨(some 2),(.mv (.t 19)),0,none⟩] none) .ret))))
def Yv:List IRes:=[(.tmp 2)]
abbrev Bi:Nat:=20
def YM:ZK:=Xp []
theorem a1r{G:AV×List AObj×List AObj->Prop}(l:Lin)(h:At YM 0 (Zl 0 Yv G) Yw 0 20 [(3,(.pv (.sl 0 true []))),(7,(.pv (.sl 2 false (List.map enc l.t)))),(8,(.pv (.int .i64 (↑(List.length (List.map enc l.t)):Int)))),(9,(.pv (.int .i64 0)))] []):Zc YM 0 (Zl 0 Yv G) Yw [] (YR 20 [.pv (enc l)] []):=Zc.to (.nil) h (by kernel_rfl)
theorem RO{G:AV×List AObj×List AObj->Prop}(l:Lin)(i:Int)(h:if (decide (i<(↑(List.length l.t):Int)))=true then(decide (0<=i)&&decide (Int.toNat i<List.length (List.map enc l.t))&&Enc.sz Coef==2)=true∧(∃ y0:Coef,AV.pv (PV.rptr (PV.cells (List.getD (List.map enc l.t) (Int.toNat i) default)))=AV.pv (PV.rptr (PV.cells ((enc) y0)))∧(At YM 0 (Zl 0 Yv G) Yw 0 20 [(3,(.row 0 1 0 1)),(7,(.pv (.sl 2 false (List.map enc l.t)))),(8,(.pv (.int .i64 (↑(List.length l.t):Int)))),(9,(.pv (.int .i64 (IntKind.wrap IntKind.i64 (i+1)))))] [(.obj (.row false 9 1 [(.str (PV.asStr (List.getD (PV.cells (enc y0)) 0 default)))]))]))else(G (((.pv (.sl 0 true [])),([],[]))))):At YM 0 (Zl 0 Yv G) Yw 0 20 [(3,.pv (.sl 0 true [])),(7,.pv (enc l.t)),(8,.pv (.int .i64 l.t.length)),(9,.pv (.int .i64 i))] []:=At.to (.lit (.ask (.req (.abs (Coef) (fun YY=>AV.pv (PV.rptr (PV.cells ((enc) YY)))) (.lit (.lit (.lit (.lit (.lit (.lit (.lit (.nil)))))))))) (.nil))) h (by kernel_rfl)
theorem Rh{G:AV×List AObj×List AObj->Prop}(l:Lin)(i:Int)(q:Nat)(vs:List Str)(h:if (decide (i<(↑(List.length l.t):Int)))=true then(decide (0<=i)&&decide (Int.toNat i<List.length (List.map enc l.t))&&Enc.sz Coef==2)=true∧(∃ y0:Coef,AV.pv (PV.rptr (PV.cells (List.getD (List.map enc l.t) (Int.toNat i) default)))=AV.pv (PV.rptr (PV.cells ((enc) y0)))∧((List.length (List.map enc vs)==q&&q==q&&decide ((q+List.length (List.drop 0 (List.take 1 [Sh.co Sh.str (List.getD (PV.cells (enc y0)) 0 default)])))*16<=1099511627776)&&decide (q+List.length (List.drop 0 (List.take 1 [Sh.co Sh.str (List.getD (PV.cells (enc y0)) 0 default)]))<=1099511627776))=true∧(At YM 0 (Zl 0 Yv G) Yw 0 20 [(3,(.row 0 (q+List.length (List.drop 0 (List.take 1 [Sh.co Sh.str (List.getD (PV.cells (enc y0)) 0 default)]))) 0 (q+List.length (List.drop 0 (List.take 1 [Sh.co Sh.str (List.getD (PV.cells (enc y0)) 0 default)]))))),(7,(.pv (.sl 2 false (List.map enc l.t)))),(8,(.pv (.int .i64 (↑(List.length l.t):Int)))),(9,(.pv (.int .i64 (IntKind.wrap IntKind.i64 (i+1)))))] [(.obj (.row false 9 1 (List.map enc vs++List.drop 0 (List.take 1 [Sh.co Sh.str (List.getD (PV.cells (enc y0)) 0 default)]))))])))else(G (((.row 0 q 0 q),([],[(.row false 9 1 (List.map enc vs))]))))):At YM 0 (Zl 0 Yv G) Yw 0 20 [(3,.row 0 q 0 q),(7,.pv (enc l.t)),(8,.pv (.int .i64 l.t.length)),(9,.pv (.int .i64 i))] [.obj (.row false 9 1 (vs.map enc))]:=At.to (.lit (.ask (.req (.abs (Coef) (fun YY=>AV.pv (PV.rptr (PV.cells ((enc) YY)))) (.lit (.lit (.lit (.req (.lit (.nil)))))))) (.nil))) h (by kernel_rfl)
def Ng:IC:=(.seq (.reg [⟨(some 3),(.mv (.c (.bool false))),0,none⟩] none) (.seq (.reg [⟨(some 4),(.faddr 0 (.t 1)),0,none⟩,⟨(some 5),(.load false [(.sl 1)] (.t 4)),0,none⟩,⟨(some 6),(.mv (.t 0)),0,none⟩,⟨(some 7),(.call (.c (.fn 120)) [(.t 5),(.t 6)]),0,none⟩,⟨(some 8),(.un .not (.t 7)),2,none⟩,⟨(some 3),(.mv (.t 8)),2,none⟩] none) .ret))
def NN:List IRes:=[(.tmp 3)]
abbrev c2b:Nat:=9
def EM:ZK:=Xp [(120,.pure (preT (fun x:List Str×Str×Unit=>Zn x.1)) (Zf (fun x:List Str×Str×Unit=>x.1.contains x.2.1)))]
theorem c6b{G:AV×List AObj×List AObj->Prop}(s:List UInt8)(b:BoxT)(h:(Go.Pl.preT (fun(x:List Str×Str×Unit)=>Zn x.1) [(.sl 1 false (List.map enc b.v)),(.str s)])=true∧(∃ y0:Bool,AV.pv (Zf (fun(x:List Str×Str×Unit)=>List.contains x.1 x.2.1) [(.sl 1 false (List.map enc b.v)),(.str s)])=AV.pv (enc y0)∧(G (((.pv (.bool !y0)),([(.box [(.pv (.sl 1 false (List.map enc b.v))),(.pv (.int .i64 b.m))])],[])))))):Zc EM 1 (Zl 1 NN G) Ng [] (YR 9 [.pv (.str s),.ptr 0 0] [.box [.pv (enc b.v),.pv (.int .i64 b.m)]]):=Zc.to (.req (.abs (Bool) (fun YY=>AV.pv (enc YY)) (.nil))) h (by kernel_rfl)
def UE:IC:=(.seq (.reg [⟨(some 4),(.mv (.c (.int .i64 0))),0,none⟩] none) (.seq (.seq (.reg [⟨(some 6),(.mv (.t 0)),0,none⟩,⟨(some 7),(.len 1 (.t 6)),0,none⟩,⟨(some 8),(.mv (.c (.int .i64 0))),0,none⟩] none) (.block 0 (.loop [8,7,1,0] (.seq (.reg [⟨(some 9),(.bin .num .lss (.t 8) (.t 7)),0,none⟩] none) (.seq (.cond (.t 9) .skip (.exit 0)) (.seq (.block 1 (.seq (.reg [⟨(some 10),(.mv (.t 8)),0,none⟩,⟨(some 5),(.mv (.t 10)),0,none⟩] none) (.seq (.reg [⟨(some 11),(.mv (.t 1)),0,none⟩,⟨(some 12),(.mv (.t 0)),0,none⟩,⟨(some 13),(.mv (.t 5)),0,none⟩,⟨(some 14),(.iaddr 1 (.t 12) (.t 13)),0,none⟩,⟨(some 15),(.load false [.str] (.t 14)),0,none⟩,⟨(some 16),(.call (.t 11) [(.t 15)]),0,none⟩] none) (.cond (.t 16) (.seq (.reg [⟨(some 17),(.mv (.t 5)),0,none⟩,⟨(some 4),(.mv (.t 17)),0,none⟩] none) .ret) .skip)))) (.reg [⟨(some 18),(.bin .num .add (.t 8) (.c (.int .i64 1))),0,none⟩,⟨(some 8),(.mv (.t 18)),0,none⟩] none))))))) (.seq (.reg [⟨(some 4),(.mv (.c (.int .i64 (-1)))),0,none⟩] none) .ret)))
def Qb:List IRes:=[(.tmp 4)]
abbrev c4e:Nat:=19
def Jo:ZK:=Xp [(176,.own Jf Co)]
theorem c9m{G:AV×List AObj×List AObj->Prop}(l:List Str)(n:Nat)(b:BoxT)(h:At Jo 2 (Zl 2 Qb G) UE 0 19 [(0,(.row 0 n 0 n)),(1,(.fn 176 [] [(.ptr 1 0)])),(7,(.pv (.int .i64 (↑(n - 0):Int)))),(8,(.pv (.int .i64 0)))] [(.obj (.row false 9 1 (List.map enc l))),(.obj (.box [(.pv (.sl 1 false (List.map enc b.v))),(.pv (.int .i64 b.m))]))]):Zc Jo 2 (Zl 2 Qb G) UE [] (YR 19 [.row 0 n 0 n,.fn 176 [] [.ptr 1 0]] [.row false 9 1 (l.map enc),.box [.pv (enc b.v),.pv (.int .i64 b.m)]]):=Zc.to (.nil) h (by kernel_rfl)
theorem b6g{G:AV×List AObj×List AObj->Prop}(l:List Str)(n:Nat)(b:BoxT)(i:Int)(h:if (decide (i<(↑n:Int)))=true then(decide (0<=i)&&decide (0+Int.toNat i<n)&&List.length (List.map enc l)==n)=true∧((List.length (List.map enc l)==n&&decide (0+Int.toNat i<List.length (List.map enc l)))=true∧((decide (0+List.length [Sh.str]<=List.length (PV.cells (List.getD (List.map enc l) (0+Int.toNat i) default)))&&XW (PV.cells (List.getD (List.map enc l) (0+Int.toNat i) default)) 0 [Sh.str])=true∧((Jf [(.pv (.str (PV.asStr (List.getD (PV.cells (List.getD (List.map enc l) (0+Int.toNat i) default)) 0 default)))),(.ptr 0 0)] [(.box [(.pv (.sl 1 false (List.map enc b.v))),(.pv (.int .i64 b.m))])])=true∧(if (!List.contains (dec (enc b.v)) (Str.mk (PV.asStr (List.getD (PV.cells (List.getD (List.map enc l) (0+Int.toNat i) default)) 0 default))))=true then G (((.pv (.int .i64 i)),([(.row false 9 1 (List.map enc l)),(.box [(.pv (.sl 1 false (List.map enc b.v))),(.pv (.int .i64 b.m))])],[])))else(At Jo 2 (Zl 2 Qb G) UE 0 19 [(0,(.row 0 n 0 n)),(1,(.fn 176 [] [(.ptr 1 0)])),(7,(.pv (.int .i64 (↑n:Int)))),(8,(.pv (.int .i64 (IntKind.wrap IntKind.i64 (i+1)))))] [(.obj (.row false 9 1 (List.map enc l))),(.obj (.box [(.pv (.sl 1 false (List.map enc b.v))),(.pv (.int .i64 b.m))]))])))))else(G (((.pv (.int .i64 (-1))),([(.row false 9 1 (List.map enc l)),(.box [(.pv (.sl 1 false (List.map enc b.v))),(.pv (.int .i64 b.m))])],[]))))):At Jo 2 (Zl 2 Qb G) UE 0 19 [(0,.row 0 n 0 n),(1,.fn 176 [] [.ptr 1 0]),(7,.pv (.int .i64 n)),(8,.pv (.int .i64 i))] [.obj (.row false 9 1 (l.map enc)),.obj (.box [.pv (enc b.v),.pv (.int .i64 b.m)])]:=At.to (.lit (.ask (.req (.keep (.req (.req (.req (.keep (.ask (.nil) (.lit (.nil))))))))) (.nil))) h (by kernel_rfl)
def CU:IC:=(.seq (.reg [⟨(some 4),(.mv (.c (.bool false))),0,none⟩] none) (.seq (.reg [⟨(some 5),(.mv (.t 0)),0,none⟩,⟨(some 6),(.mv (.t 1)),0,none⟩,⟨(some 7),(.call (.c (.fn 238)) [(.t 5),(.t 6)]),0,none⟩,⟨(some 8),(.bin .num .geq (.t 7) (.c (.int .i64 0))),2,none⟩,⟨(some 4),(.mv (.t 8)),2,none⟩] none) .ret))
def NA:List IRes:=[(.tmp 4)]
abbrev c6w:Nat:=9
def a0i:ZK:=Xp [(238,.own (Wm 176) CE)]
theorem c8q{G:AV×List AObj×List AObj->Prop}(l:List Str)(n:Nat)(b:BoxT)(h:(Wm 176 [(.row 0 n 0 n),(.fn 176 [] [(.ptr 1 0)])] [(.row false 9 1 (List.map enc l)),(.box [(.pv (.sl 1 false (List.map enc b.v))),(.pv (.int .i64 b.m))])])=true∧(G (((.pv (.bool (decide (ZE (fun(s:Str)=> !List.contains (dec (enc b.v)) s) (KM (List.map enc l)) ≥ 0)))),([(.row false 9 1 (List.map enc l)),(.box [(.pv (.sl 1 false (List.map enc b.v))),(.pv (.int .i64 b.m))])],[]))))):Zc a0i 2 (Zl 2 NA G) CU [] (YR 9 [.row 0 n 0 n,.fn 176 [] [.ptr 1 0]] [.row false 9 1 (l.map enc),.box [.pv (enc b.v),.pv (.int .i64 b.m)]]):=Zc.to (.req (.keep (.lit (.nil)))) h (by kernel_rfl)
theorem c9n{G:AV×List AObj×List AObj->Prop}(b:BoxT)(h:At Jo 1 (Zl 1 Qb G) UE 0 19 [(0,(.pv (.sl 0 true []))),(1,(.fn 176 [] [(.ptr 0 0)])),(7,(.pv (.int .i64 0))),(8,(.pv (.int .i64 0)))] [(.obj (.box [(.pv (.sl 1 false (List.map enc b.v))),(.pv (.int .i64 b.m))]))]):Zc Jo 1 (Zl 1 Qb G) UE [] (YR 19 [.pv (.sl 0 true []),.fn 176 [] [.ptr 0 0]] [.box [.pv (enc b.v),.pv (.int .i64 b.m)]]):=Zc.to (.nil) h (by kernel_rfl)
-- IMPOSSIBLE
theorem c5t{G:AV×List AObj×List AObj->Prop}(b:BoxT)(i:Int)(h:if (decide (i<0))=true then(decide (0<=i)&&decide (Int.toNat i<List.length ([]:List PV))&&0==1)=true∧(False)else(G (((.pv (.int .i64 (-1))),([(.box [(.pv (.sl 1 false (List.map enc b.v))),(.pv (.int .i64 b.m))])],[]))))):At Jo 1 (Zl 1 Qb G) UE 0 19 [(0,.pv (.sl 0 true [])),(1,.fn 176 [] [.ptr 0 0]),(7,.pv (.int .i64 0)),(8,.pv (.int .i64 i))] [.obj (.box [.pv (enc b.v),.pv (.int .i64 b.m)])]:=At.to (.lit (.ask (.req (.keep (.lit (.nil)))) (.nil))) h (by kernel_rfl)
theorem c7u{G:AV×List AObj×List AObj->Prop}(b:BoxT)(h:(Wm 176 [(.pv (.sl 0 true [])),(.fn 176 [] [(.ptr 0 0)])] [(.box [(.pv (.sl 1 false (List.map enc b.v))),(.pv (.int .i64 b.m))])])=true∧(G (((.pv (.bool false)),([(.box [(.pv (.sl 1 false (List.map enc b.v))),(.pv (.int .i64 b.m))])],[]))))):Zc a0i 1 (Zl 1 NA G) CU [] (YR 9 [.pv (.sl 0 true []),.fn 176 [] [.ptr 0 0]] [.box [.pv (enc b.v),.pv (.int .i64 b.m)]]):=Zc.to (.req (.keep (.lit (.nil)))) h (by kernel_rfl)
theorem b3c{G:PV->Prop}(l:Lin)(h:At YM 0 (Za Yv G) Yw 0 20 [(3,(.pv (.sl 0 true []))),(7,(.pv (.sl 2 false (List.map enc l.t)))),(8,(.pv (.int .i64 (↑(List.length (List.map enc l.t)):Int)))),(9,(.pv (.int .i64 0)))] []):Zc YM 0 (Za Yv G) Yw [] (Yr 20 [enc l]):=Zc.tp (.nil) h (by kernel_rfl)
theorem AY{G:PV->Prop}(l:Lin)(i:Int)(h:if (decide (i<(↑(List.length l.t):Int)))=true then(decide (0<=i)&&decide (Int.toNat i<List.length (List.map enc l.t))&&Enc.sz Coef==2)=true∧(∃ y0:Coef,AV.pv (PV.rptr (PV.cells (List.getD (List.map enc l.t) (Int.toNat i) default)))=AV.pv (PV.rptr (PV.cells ((enc) y0)))∧(At YM 0 (Za Yv G) Yw 0 20 [(3,(.row 0 1 0 1)),(7,(.pv (.sl 2 false (List.map enc l.t)))),(8,(.pv (.int .i64 (↑(List.length l.t):Int)))),(9,(.pv (.int .i64 (IntKind.wrap IntKind.i64 (i+1)))))] [(.obj (.row false 9 1 [(.str (PV.asStr (List.getD (PV.cells (enc y0)) 0 default)))]))]))else(G ((.sl 0 true [])))):At YM 0 (Za Yv G) Yw 0 20 [(3,.pv (.sl 0 true [])),(7,.pv (enc l.t)),(8,.pv (.int .i64 l.t.length)),(9,.pv (.int .i64 i))] []:=At.tp (.lit (.ask (.req (.abs (Coef) (fun YY=>AV.pv (PV.rptr (PV.cells ((enc) YY)))) (.lit (.lit (.lit (.lit (.lit (.lit (.lit (.nil)))))))))) (.nil))) h (by kernel_rfl)
theorem Sd{G:PV->Prop}(l:Lin)(i:Int)(q:Nat)(vs:List Str)(h:if (decide (i<(↑(List.length l.t):Int)))=true then(decide (0<=i)&&decide (Int.toNat i<List.length (List.map enc l.t))&&Enc.sz Coef==2)=true∧(∃ y0:Coef,AV.pv (PV.rptr (PV.cells (List.getD (List.map enc l.t) (Int.toNat i) default)))=AV.pv (PV.rptr (PV.cells ((enc) y0)))∧((List.length (List.map enc vs)==q&&q==q&&decide ((q+List.length (List.drop 0 (List.take 1 [Sh.co Sh.str (List.getD (PV.cells (enc y0)) 0 default)])))*16<=1099511627776)&&decide (q+List.length (List.drop 0 (List.take 1 [Sh.co Sh.str (List.getD (PV.cells (enc y0)) 0 default)]))<=1099511627776))=true∧(At YM 0 (Za Yv G) Yw 0 20 [(3,(.row 0 (q+List.length (List.drop 0 (List.take 1 [Sh.co Sh.str (List.getD (PV.cells (enc y0)) 0 default)]))) 0 (q+List.length (List.drop 0 (List.take 1 [Sh.co Sh.str (List.getD (PV.cells (enc y0)) 0 default)]))))),(7,(.pv (.sl 2 false (List.map enc l.t)))),(8,(.pv (.int .i64 (↑(List.length l.t):Int)))),(9,(.pv (.int .i64 (IntKind.wrap IntKind.i64 (i+1)))))] [(.obj (.row false 9 1 (List.map enc vs++List.drop 0 (List.take 1 [Sh.co Sh.str (List.getD (PV.cells (enc y0)) 0 default)]))))])))else((List.length (List.map enc vs)==q)=true∧(G ((.sl 1 false (List.drop 0 (List.take q (List.map enc vs)))))))):At YM 0 (Za Yv G) Yw 0 20 [(3,.row 0 q 0 q),(7,.pv (enc l.t)),(8,.pv (.int .i64 l.t.length)),(9,.pv (.int .i64 i))] [.obj (.row false 9 1 (vs.map enc))]:=At.tp (.lit (.ask (.req (.abs (Coef) (fun YY=>AV.pv (PV.rptr (PV.cells ((enc) YY)))) (.lit (.lit (.lit (.req (.lit (.nil)))))))) (.req (.nil)))) h (by kernel_rfl)
def Xg:IC:=Xx
def Xd:List IRes:=[(.tmp 2)]
abbrev a6u:Nat:=67
def XH:ZK:=Xp [(152,.pure (preT (fun _:Str×Str×Unit=>true)) (Zf (fun x:Str×Str×Unit=>x.2.1.s.isPrefixOf x.1.s))),(182,.pure (preT (fun x:Str×Unit=>decide (x.1.s.length<=281474976710656))) (Zf (fun x:Str×Unit=>Yy x.1))),(76,.pure (preT (fun x:Int×Unit=>decide (-9223372036854775808<=x.1)&&decide (x.1<=9223372036854775807))) (Zf (fun x:Int×Unit=>Mh x.1)))]
theorem b0t{G:PV->Prop}(s:List UInt8)(h : ∃ y0:Bool,AV.pv (Zf (fun(x:Str×Str×Unit)=>List.isPrefixOf (Str.s x.2.1) (Str.s x.1)) [(.str s),(.str [(95:UInt8)])])=AV.pv (enc y0)∧(if (y0)=true then(decide (0<=1)&&true&&decide (Int.toNat 1<=List.length s)&&decide (List.length s<=List.length s))=true∧((Go.Pl.preT (fun(x:Str×Unit)=>decide (List.length (Str.s x.1)<=281474976710656)) [(.str (List.drop (Int.toNat 1) (List.take (List.length s) s)))])=true∧(∃ y1:Int×Er,AV.pv (Zf (fun(x:Str×Unit)=>Yy x.1) [(.str (List.drop (Int.toNat 1) (List.take (List.length s) s)))])=AV.pv (enc y1)∧((A9 (enc y1.2)&&Prod.fst (true,PV.bool (UF (enc y1.2))))=true∧(if (UF (enc y1.2))=true then if (decide (y1.1>0))=true then if (decide ((↑(List.length s):Int)<=10))=true then(Go.Pl.preT (fun(x:Int×Unit)=>decide ((-9223372036854775808:Int)<=x.1)&&decide (x.1<=9223372036854775807)) [(.int .i64 y1.1)])=true∧(∃ y2:Str,AV.pv (Zf (fun(x:Int×Unit)=>Mh x.1) [(.int .i64 y1.1)])=AV.pv (enc y2)∧((decide (0<=1)&&true&&decide (Int.toNat 1<=List.length s)&&decide (List.length s<=List.length s))=true∧(G ((.bool (Str.s y2==List.drop (Int.toNat 1) (List.take (List.length s) s)))))))else(G ((.bool false)))else(G ((.bool false)))else(G ((.bool false)))))))else(At XH 0 (Za Xd G) Xg 0 67 [(0,(.pv (.str s))),(34,(.pv (.sl 1 false (ZA s)))),(35,(.pv (.int .i64 (↑(List.length (ZA s)):Int)))),(36,(.pv (.int .i64 0)))] []))):Zc XH 0 (Za Xd G) Xg [] (Yr 67 [.str s]):=Zc.tp (.lit (.abs (Bool) (fun YY=>AV.pv (enc YY)) (.ask (.req (.req (.abs (Int×Er) (fun YY=>AV.pv (enc YY)) (.req (.ask (.lit (.lit (.lit (.ask (.lit (.lit (.lit (.lit (.ask (.lit (.req (.abs (Str) (fun YY=>AV.pv (enc YY)) (.lit (.lit (.req (.lit (.lit (.lit (.nil)))))))))) (.lit (.lit (.lit (.lit (.lit (.nil))))))))))) (.lit (.lit (.lit (.lit (.lit (.lit (.lit (.lit (.lit (.nil)))))))))))))) (.lit (.lit (.lit (.lit (.lit (.lit (.lit (.lit (.lit (.lit (.lit (.lit (.nil)))))))))))))))))) (.nil)))) h (by kernel_rfl)
theorem TM{G:PV->Prop}(s:List UInt8)(i:Int)(h:if (decide (i<(↑(List.length (ZA s)):Int)))=true then(decide (0<=i)&&decide (Int.toNat i<List.length (ZA s))&&1==1)=true∧((decide (0+List.length [Sh.int IntKind.u8]<=List.length (PV.cells (List.getD (ZA s) (Int.toNat i) default)))&&XW (PV.cells (List.getD (ZA s) (Int.toNat i) default)) 0 [Sh.int IntKind.u8])=true∧(if (decide (PV.asInt (List.getD (PV.cells (List.getD (ZA s) (Int.toNat i) default)) 0 default)<97))=true then if (i==0)=true then G ((.bool false))else(if (decide (PV.asInt (List.getD (PV.cells (List.getD (ZA s) (Int.toNat i) default)) 0 default)<48))=true then G ((.bool false))else(if (decide (PV.asInt (List.getD (PV.cells (List.getD (ZA s) (Int.toNat i) default)) 0 default)>57))=true then G ((.bool false))else(At XH 0 (Za Xd G) Xg 0 67 [(0,(.pv (.str s))),(34,(.pv (.sl 1 false (ZA s)))),(35,(.pv (.int .i64 (↑(List.length (ZA s)):Int)))),(36,(.pv (.int .i64 (IntKind.wrap IntKind.i64 (i+1)))))] [])))else(if (decide (PV.asInt (List.getD (PV.cells (List.getD (ZA s) (Int.toNat i) default)) 0 default)>122))=true then if (i==0)=true then G ((.bool false))else(if (decide (PV.asInt (List.getD (PV.cells (List.getD (ZA s) (Int.toNat i) default)) 0 default)<48))=true then G ((.bool false))else(if (decide (PV.asInt (List.getD (PV.cells (List.getD (ZA s) (Int.toNat i) default)) 0 default)>57))=true then G ((.bool false))else(At XH 0 (Za Xd G) Xg 0 67 [(0,(.pv (.str s))),(34,(.pv (.sl 1 false (ZA s)))),(35,(.pv (.int .i64 (↑(List.length (ZA s)):Int)))),(36,(.pv (.int .i64 (IntKind.wrap IntKind.i64 (i+1)))))] [])))else(At XH 0 (Za Xd G) Xg 0 67 [(0,(.pv (.str s))),(34,(.pv (.sl 1 false (ZA s)))),(35,(.pv (.int .i64 (↑(List.length (ZA s)):Int)))),(36,(.pv (.int .i64 (IntKind.wrap IntKind.i64 (i+1)))))] []))))else(if (!s==[])=true then G ((.bool (decide ((↑(List.length s):Int)<=30))))else(G ((.bool false))))):At XH 0 (Za Xd G) Xg 0 67 [(0,.pv (.str s)),(34,.pv (.sl 1 false (ZA s))),(35,.pv (.int .i64 (ZA s).length)),(36,.pv (.int .i64 i))] []:=At.tp (.lit (.ask (.req (.keep (.req (.lit (.ask (.lit (.lit (.lit (.lit (.lit (.lit (.ask (.lit (.lit (.lit (.lit (.lit (.lit (.lit (.lit (.lit (.lit (.nil))))))))))) (.lit (.lit (.lit (.lit (.lit (.ask (.lit (.lit (.lit (.lit (.lit (.nil)))))) (.lit (.lit (.lit (.lit (.lit (.ask (.nil) (.lit (.nil))))))))))))))))))))) (.lit (.lit (.lit (.ask (.lit (.lit (.lit (.ask (.lit (.lit (.lit (.lit (.lit (.lit (.lit (.lit (.lit (.lit (.nil))))))))))) (.lit (.lit (.lit (.lit (.lit (.ask (.lit (.lit (.lit (.lit (.lit (.nil)))))) (.lit (.lit (.lit (.lit (.lit (.ask (.nil) (.lit (.nil)))))))))))))))))) (.lit (.lit (.lit (.lit (.lit (.lit (.lit (.lit (.nil)))))))))))))))))) (.lit (.ask (.lit (.lit (.lit (.lit (.nil))))) (.lit (.lit (.lit (.nil)))))))) h (by kernel_rfl)
end Go.Pl

namespace Go.Pl
open Go.RowKit
open Enc (enc dec is)
open EncL (encL decL isL)
theorem Zu{α:Type}{l:List α}:Zn l=true ↔ l.length<=9223372036854775807:=by simp[Zn]
theorem ML(l:List Str)(s:List UInt8)(hl:l.length<=9223372036854775807): ∀ (m i:Nat),m+i=l.length->(∀ j (h:j<l.length),j<i->decide (l[j]=⟨s⟩)=false) ->
  At UB 0 (Za VL (Zj (ZE (fun x:Str=>decide (x=⟨s⟩)) l))) VJ 0 19 [(0,.pv (enc l)),(1,.pv (.str s)),(7,.pv (.int .i64 l.length)),(8,.pv (.int .i64 i))] []:=by
 intro m
 induction m with
 | zero=>
  intro i hi hno
  refine Rj l s i (ZN (Ye (by omega)) (Uv ?_))
  rw[U2 _ _ fun k hk=>hno k hk (by omega)]
 | succ m ih=>
  intro i hi hno
  have hlt:i<l.length:=by omega
  refine Rj l s i (ZU (Z9 hlt) ⟨Zq hlt rfl,ZF hlt (KE (fun h=>Uv ?_) fun h=> ?_)⟩)
  ·have h:s=l[i].s:=h
   rw[U3 (fun x:Str=>decide (x=⟨s⟩)) l i hlt hno (by rw[h];simp)]
  ·have h:s≠l[i].s:=h
   rw[next (by omega)]
   refine ih (i+1) (by omega) fun k hk hki=> ?_
   by_cases e:k=i
   ·subst e;simp only[decide_eq_false_iff_not];intro e;exact h (by rw[e])
   ·exact hno k hk (by omega)
theorem OB: ∀ a:List Str×Str×Unit,Zn a.1=true->Zc UB 0 (Za VL (Zj (ZE (fun s:Str=>decide (s=a.2.1)) a.1))) VJ [] (Yr a7m (encL a)):=by
 rintro⟨l,⟨s⟩,⟨⟩⟩ h
 have:=ML l s (Zu.1 h) l.length 0 (by omega) fun j _ h=>by omega
 refine a9f l s ?_
 rw[List.length_map]
 exact this
theorem PK(l:List Str)(s:Str):l.any (fun x=>decide (x=s))=l.contains s:=by
 rw[List.contains_eq_any_beq]
 congr 1
 funext x
 by_cases h:x=s
 ·subst h;simp
 ·have h2:s≠x:=fun e=>h e.symm
  simp[h,h2]
theorem a5s: ∀ a:List Str×Str×Unit,Zn a.1=true->Zc Nh 0 (Za AL (Zj (a.1.contains a.2.1))) Ai [] (Yr b3a (encL a)):=by
 rintro⟨l,⟨s⟩,⟨⟩⟩ h
 refine b8h l s ⟨Ze (l,⟨s⟩,()) rfl h,Zd (l,⟨s⟩,()) rfl (ZM ?_)⟩
 show decide (ZE (fun x:Str=>decide (x=⟨s⟩)) l ≥ 0)=_
 rw[XN,PK]
def gvL(m:Int):List Str->List Str->Int->Bool
 | _,[],_=>decide (m ≥ 0)
 | seen,s::r,n=>ZB s&& !seen.contains s&& !decide (m<0)&& !decide (m ≥ 20000)&& !decide (n*(m+1)>20000)&&gvL m (seen++[s]) r (n*(m+1))
theorem b2u(m:Int): ∀ (r seen:List Str) (n:Int),gvL m seen r n=(r.all ZB&&(decide r.Nodup&&r.all fun s=> !seen.contains s)&&(r.isEmpty||decide (m<20000))&&decide (0<=m)&&(QL m r n).isSome)
 | [],seen,n=>by
  simp[gvL,QL]
 | s::r,seen,n=>by
  rw[gvL,b2u m r (seen++[s]) (n*(m+1)),QL]
  have h1:(r.all fun x=> !(seen++[s]).contains x)=((r.all fun x=> !seen.contains x)&& !r.contains s):=by
   induction r with
   | nil=>rfl
   | cons x r ih=>
    simp only[List.all_cons,ih]
    have e1:(seen++[s]).contains x=(seen.contains x||decide (x=s)):=by simp[List.contains_eq_any_beq,List.any_append,Bool.or_comm]
    have e2:(x::r).contains s=(decide (x=s)||r.contains s):=by
     rw[List.contains_cons]
     congr 1
     by_cases h:x=s
     ·subst h;simp
     ·have h2:s≠x:=fun e=>h e.symm
      simp[h,h2]
    rw[e1,e2]
    cases seen.contains x <;> cases decide (x=s) <;> cases r.contains s <;> cases (r.all fun x=> !seen.contains x) <;> rfl
  have h2:decide (s::r).Nodup=(decide r.Nodup&& !r.contains s):=by
   by_cases h:s∈r
   ·simp[List.nodup_cons,h]
   ·simp[List.nodup_cons,h]
  rw[h1,h2]
  by_cases hm:m<0
  ·have e1:decide (0<=m)=false:=by simp;omega
   rw[decide_eq_true hm,e1];simp
  ·have e1:decide (0<=m)=true:=by simp;omega
   by_cases hm2:m ≥ 20000
   ·have e2:decide (m<20000)=false:=by simp;omega
    rw[decide_eq_true hm2,e2];simp
   ·have e2:decide (m<20000)=true:=by simp;omega
    by_cases hn:n*(m+1)>20000
    ·rw[if_pos hn,decide_eq_true hn];simp
    ·rw[if_neg hn,decide_eq_false hn,decide_eq_false hm,decide_eq_false hm2,e1,e2]
     simp only[List.all_cons,List.isEmpty_cons]
     cases ZB s <;> cases seen.contains s <;> cases r.contains s <;> cases r.all ZB <;> cases decide r.Nodup <;> cases (r.all fun x=> !seen.contains x) <;> cases r.isEmpty <;> cases (QL m r (n*(m+1))).isSome <;> rfl
theorem a0v(b:BoxT):gvL b.m [] b.v 1=YZ b:=by
 rw[b2u,YZ]
 have:(b.v.all fun s=> !([]:List Str).contains s)=true:=by simp
 rw[this,Bool.and_true]
theorem a2o{n:Int}(h1 : -9000000000000000000<=n)(h2:n<=9000000000000000000):IntKind.i64.wrap n=n:=X8 (by omega) (by omega)
theorem FB(b:BoxT)(hb:ZW b=true): ∀ (k i:Nat) (n:Int),k+i=b.v.length->1<=n->n<=20000 ->
  At UG 0 (Za VC (Zj (gvL b.m (b.v.take i) (b.v.drop i) n))) VA 0 46 [(1,.ptr 0 0),(3,.pv (.int .i64 n)),(7,.pv (enc b.v)),(8,.pv (.int .i64 b.v.length)),(9,.pv (.int .i64 i))] [.obj (.box [.pv (enc b.v),.pv (.int .i64 b.m)])]:=by
 simp only[ZW,YB,Bool.and_eq_true,List.all_eq_true]at hb
 obtain⟨hb1,hb2⟩:=hb
 have hl:=Zu.1 hb1
 intro k
 induction k with
 | zero=>
  intro i n hi h1 h2
  rw[List.drop_of_length_le (by omega)]
  exact TU b n i (ZN (Ye (by omega)) (ZM rfl))
 | succ k ih=>
  intro i n hi h1 h2
  have hlt:i<b.v.length:=by omega
  have hd:b.v.drop i=b.v[i]::b.v.drop (i+1):=List.drop_eq_getElem_cons hlt
  have ht:b.v.take (i+1)=b.v.take i++[b.v[i]]:=List.take_succ_eq_append_getElem hlt
  have hs:=hb2 _ (List.getElem_mem hlt)
  rw[hd,gvL]
  have et:List.drop 0 (List.take (Int.toNat (i:Int)) (List.map (enc:Str->PV) b.v))=(b.v.take i).map enc:=by rw[List.drop_zero,Int.toNat_natCast,List.map_take]
  refine TU b n i (ZU (Z9 hlt) ⟨Zq hlt rfl,ZF hlt ⟨Ze (b.v[i],()) rfl hs,Zd (b.v[i],()) rfl (XX (fun h=> ?_) fun h=>⟨by rw[List.length_map,decide_eq_true (show(0:Int)<=(i:Int) by omega),decide_eq_true (show(Int.toNat (i:Int))<=b.v.length by omega)];simp,?_,?_⟩)⟩⟩)
  ·have h:ZB b.v[i]=false:=h
   rw[h];exact ZM rfl
  ·rw[et]
   exact Ze (b.v.take i,b.v[i],()) rfl (Zu.2 (by rw[List.length_take];omega))
  ·rw[et]
   have hn:ZB b.v[i]=true:=h
   rw[hn,Bool.true_and]
   refine Zd (b.v.take i,b.v[i],()) rfl (Wx (fun h=> ?_) fun h=>Xy (fun h3=> ?_) fun h3=>Xy (fun h4=> ?_) fun h4=> ?_)
   ·have h:(b.v.take i).contains b.v[i]=true:=h
    rw[h];exact ZM rfl
   ·rw[decide_eq_true h3,show(b.v.take i).contains b.v[i]=false from h];exact ZM rfl
   ·rw[decide_eq_true h4,decide_eq_false h3,show(b.v.take i).contains b.v[i]=false from h];exact ZM rfl
   ·have h:(b.v.take i).contains b.v[i]=false:=h
    have q1:b.m+1<=20000:=by omega
    have q2:1<=b.m+1:=by omega
    have hm:n*(b.m+1)<=20000*20000:=Int.le_trans (Int.mul_le_mul_of_nonneg_left q1 (by omega)) (Int.mul_le_mul_of_nonneg_right h2 (by omega))
    have hm1:1<=n*(b.m+1):=by
     have:=Int.mul_le_mul h1 q2 (by omega) (by omega)
     omega
    rw[a2o (n:=b.m+1) (by omega) (by omega),a2o (n:=n*(b.m+1)) (by omega) (by omega),decide_eq_false h3,decide_eq_false h4,h]
    refine Xy (fun h5=> ?_) fun h5=> ?_
    ·rw[decide_eq_true h5];exact ZM rfl
    ·rw[decide_eq_false h5,next (by omega),<- ht]
     exact ih (i+1) (n*(b.m+1)) (by omega) hm1 (by omega)
theorem Ef: ∀ a:BoxT×Unit,ZW a.1=true->Zc UG 0 (Za VC (Zj (YZ a.1))) VA [] (Yr a7l (encL a)):=by
 rintro⟨b,⟨⟩⟩ h
 rw[<- a0v]
 refine b5e b ?_
 have:=FB b h b.v.length 0 1 (by omega) (by omega) (by omega)
 rw[List.length_map]
 exact this
theorem RI(vs:List Str)(p:List Int){i:Nat}(h1:i<vs.length)(h2:i<p.length):Zi (vs.take (i+1)) (p.take (i+1))=Zi (vs.take i) (p.take i)++[⟨vs[i],p[i]⟩]:=by
 unfold Zi
 rw[List.take_succ_eq_append_getElem h1,List.take_succ_eq_append_getElem h2,List.zipWith_append (by simp[List.length_take];omega)]
 rfl
theorem b1h(vs:List Str)(p:List Int){i:Nat}(h:min vs.length p.length<=i):Zi (vs.take i) (p.take i)=Zi vs p:=by
 unfold Zi
 rw[<- List.take_zipWith]
 exact List.take_of_length_le (by rw[List.length_zipWith];exact h)
theorem FE(vs:List Str)(p:List Int){i:Nat}(h1:i<=vs.length)(h2:i<=p.length):(Zi (vs.take i) (p.take i)).length=i:=by
 unfold Zi
 rw[List.length_zipWith,List.length_take,List.length_take];omega
end Go.Pl

namespace Go.Pl
open Go.RowKit
open Enc (enc dec is)
open EncL (encL decL isL)
set_option maxRecDepth 100000
def Yh:IC:=(.seq (.reg [⟨(some 4),(.box 2 (.t 0)),0,none⟩,⟨(some 8),(.mv (.c (.int .i64 0))),1,none⟩] none) (.seq (.seq (.reg [⟨(some 11),(.load true [(.sl 1),(.int .i64)] (.t 4)),0,none⟩,⟨(some 12),(.call (.c (.fn 50)) [(.t 11)]),0,none⟩,⟨(some 13),(.un .not (.t 12)),2,none⟩,⟨(some 14),(.mv (.t 13)),2,none⟩,⟨(some 15),(.mv (.t 1)),2,(some (14,false))⟩,⟨(some 16),(.call (.c (.fn 95)) [(.t 15)]),2,(some (14,false))⟩,⟨(some 17),(.un .not (.t 16)),4,(some (14,false))⟩,⟨(some 18),(.pick (.t 14) (.c (.bool true)) (.t 17)),4,none⟩,⟨(some 19),(.mv (.t 18)),4,none⟩,⟨(some 20),(.mv (.t 2)),4,(some (19,false))⟩,⟨(some 21),(.un .not (.t 20)),4,(some (19,false))⟩,⟨(some 22),(.pick (.t 19) (.c (.bool true)) (.t 21)),4,none⟩] none) (.cond (.t 22) (.seq (.reg [⟨(some 8),(.mv (.c (.int .i64 1))),0,none⟩] none) .ret) .skip)) (.seq (.seq (.reg [⟨(some 23),(.mv (.t 1)),0,none⟩,⟨(some 24),(.len 1 (.t 23)),0,none⟩,⟨(some 25),(.mv (.c (.int .i64 0))),0,none⟩] none) (.block 0 (.loop [25,24,23,3,4] (.seq (.reg [⟨(some 26),(.bin .num .lss (.t 25) (.t 24)),0,none⟩] none) (.seq (.cond (.t 26) .skip (.exit 0)) (.seq (.block 1 (.seq (.reg [⟨(some 27),(.iaddr 3 (.t 23) (.t 25)),0,none⟩,⟨(some 28),(.load true [.bool,(.int .i64),(.sl 2)] (.t 27)),0,none⟩,⟨(some 10),(.alloc (.agg [(.bool false),(.int .i64 0),(.sl 0 true [])])),0,none⟩,⟨none,(.store 3 (.t 10) (.t 28)),1,none⟩] none) (.reg [⟨(some 29),(.mv (.t 3)),0,none⟩,⟨(some 30),(.faddr 1 (.t 10)),0,none⟩,⟨(some 31),(.load true [(.int .i64),(.sl 2)] (.t 30)),0,none⟩,⟨(some 32),(.call (.c (.fn 174)) [(.t 31)]),0,none⟩,⟨(some 33),(.append 9 1 16 (.t 29) (.t 32)),2,none⟩,⟨(some 3),(.mv (.t 33)),3,none⟩] none))) (.reg [⟨(some 34),(.bin .num .add (.t 25) (.c (.int .i64 1))),0,none⟩,⟨(some 25),(.mv (.t 34)),0,none⟩] none))))))) (.seq (.seq (.reg [⟨(some 35),(.mv (.t 3)),0,none⟩,⟨(some 36),(.mkfn 176 [] [(.t 4)]),0,none⟩,⟨(some 37),(.call (.c (.fn 175)) [(.t 35),(.t 36)]),0,none⟩] none) (.cond (.t 37) (.seq (.reg [⟨(some 8),(.mv (.c (.int .i64 7))),0,none⟩] none) .ret) .skip)) (.seq (.reg [⟨(some 8),(.mv (.c (.int .i64 0))),0,none⟩] none) .ret)))))
def Yk:List IRes:=[(.tmp 8)]
abbrev Tv:Nat:=38
def Yt:ZK:=Xp [(50,.pure (preT (fun x:BoxT×Unit=>ZW x.1)) (Zf (fun x:BoxT×Unit=>YZ x.1))),(95,.pure (preT (fun x:List Fact×Unit=>Zo x.1)) (Zf (fun x:List Fact×Unit=>XQ x.1))),(174,.pure (preT (fun x:Lin×Unit=>decide (x.1.t.length<=1000000))) (Zf (fun x:Lin×Unit=>Zp x.1))),(175,.own (Wm 176) Pj)]
theorem b1e{G:PV->Prop}(b:BoxT)(fs:List Fact)(ok:Bool)(h:(Go.Pl.preT (fun(x:BoxT×Unit)=>ZW x.1) [(.agg [(.sl 1 false (List.map enc b.v)),(.int .i64 b.m)])])=true∧(∃ y0:Bool,AV.pv (Zf (fun(x:BoxT×Unit)=>YZ x.1) [(.agg [(.sl 1 false (List.map enc b.v)),(.int .i64 b.m)])])=AV.pv (enc y0)∧(if (!y0)=true then G ((.int .i64 1))else((Go.Pl.preT (fun(x:List Fact×Unit)=>Zo x.1) [(.sl 3 false (List.map enc fs))])=true∧(∃ y1:Bool,AV.pv (Zf (fun(x:List Fact×Unit)=>XQ x.1) [(.sl 3 false (List.map enc fs))])=AV.pv (enc y1)∧(if (!y1)=true then G ((.int .i64 1))else(if (!ok)=true then G ((.int .i64 1))else(At Yt 0 (Za Yk G) Yh 0 38 [(3,(.pv (.sl 0 true []))),(4,(.ptr 0 0)),(23,(.pv (.sl 3 false (List.map enc fs)))),(24,(.pv (.int .i64 (↑(List.length (List.map enc fs)):Int)))),(25,(.pv (.int .i64 0)))] [(.obj (.box [(.pv (.sl 1 false (List.map enc b.v))),(.pv (.int .i64 b.m))]))])))))))):Zc Yt 0 (Za Yk G) Yh [] (Yr 38 [enc b,enc fs,.bool ok,.sl 0 true []]):=Zc.tp (.req (.abs (Bool) (fun YY=>AV.pv (enc YY)) (.ask (.lit (.lit (.lit (.lit (.lit (.lit (.lit (.nil)))))))) (.lit (.req (.abs (Bool) (fun YY=>AV.pv (enc YY)) (.lit (.lit (.ask (.lit (.lit (.lit (.nil)))) (.lit (.lit (.ask (.nil) (.nil))))))))))))) h (by kernel_rfl)
theorem AP{G:PV->Prop}(b:BoxT)(fs:List Fact)(ok:Bool)(i:Int)(h:if (decide (i<(↑(List.length fs):Int)))=true then(decide (0<=i)&&decide (Int.toNat i<List.length (List.map enc fs))&&Enc.sz Fact==3)=true∧(∃ y0:Fact,AV.pv (PV.rptr (PV.cells (List.getD (List.map enc fs) (Int.toNat i) default)))=AV.pv (PV.rptr (PV.cells ((enc) y0)))∧((Go.Pl.preT (fun(x:Lin×Unit)=>decide (List.length x.1.t<=1000000)) [(.agg [(.int .i64 (PV.asInt (List.getD (PV.cells (enc y0)) (0+1) default))),(.sl 2 false (PV.asXs (List.getD (PV.cells (enc y0)) (0+1+1) default)))])])=true∧(∃ y1:List Str,AV.pv (Zf (fun(x:Lin×Unit)=>Zp x.1) [(.agg [(.int .i64 (PV.asInt (List.getD (PV.cells (enc y0)) (0+1) default))),(.sl 2 false (PV.asXs (List.getD (PV.cells (enc y0)) (0+1+1) default)))])])=AV.pv (enc y1)∧((List.isEmpty (List.map enc y1)||Enc.sz Str==1)=true∧(if (List.isEmpty (List.map enc y1))=true then At Yt 0 (Za Yk G) Yh 0 38 [(3,(.pv (.sl 0 true []))),(4,(.ptr 0 0)),(23,(.pv (.sl 3 false (List.map enc fs)))),(24,(.pv (.int .i64 (↑(List.length fs):Int)))),(25,(.pv (.int .i64 (IntKind.wrap IntKind.i64 (i+1)))))] [(.obj (.box [(.pv (.sl 1 false (List.map enc b.v))),(.pv (.int .i64 b.m))]))]else(((List.isEmpty ([]:List PV)||0==1)&&decide ((List.length ([]:List PV)+List.length (List.map enc y1))*16<=1099511627776)&&decide (List.length ([]:List PV)+List.length (List.map enc y1)<=1099511627776))=true∧(At Yt 0 (Za Yk G) Yh 0 38 [(3,(.row 0 (List.length ([]:List PV)+List.length (List.map enc y1)) 0 (List.length ([]:List PV)+List.length (List.map enc y1)))),(4,(.ptr 1 0)),(23,(.pv (.sl 3 false (List.map enc fs)))),(24,(.pv (.int .i64 (↑(List.length fs):Int)))),(25,(.pv (.int .i64 (IntKind.wrap IntKind.i64 (i+1)))))] [(.obj (.row false 9 1 (([]:List PV)++List.map enc y1))),(.obj (.box [(.pv (.sl 1 false (List.map enc b.v))),(.pv (.int .i64 b.m))]))])))))))else((Wm 176 [(.pv (.sl 0 true [])),(.fn 176 [] [(.ptr 0 0)])] [(.box [(.pv (.sl 1 false (List.map enc b.v))),(.pv (.int .i64 b.m))])])=true∧(G ((.int .i64 0))))):At Yt 0 (Za Yk G) Yh 0 38 [(3,.pv (.sl 0 true [])),(4,.ptr 0 0),(23,.pv (enc fs)),(24,.pv (.int .i64 fs.length)),(25,.pv (.int .i64 i))] [.obj (.box [.pv (enc b.v),.pv (.int .i64 b.m)])]:=At.tp (.lit (.ask (.req (.abs (Fact) (fun YY=>AV.pv (PV.rptr (PV.cells ((enc) YY)))) (.lit (.req (.abs (List Str) (fun YY=>AV.pv (enc YY)) (.req (.lit (.ask (.lit (.nil)) (.req (.lit (.nil))))))))))) (.req (.keep (.lit (.nil)))))) h (by kernel_rfl)
theorem Au{G:PV->Prop}(b:BoxT)(fs:List Fact)(ok:Bool)(i:Int)(q:Nat)(ns:List Str)(h:if (decide (i<(↑(List.length fs):Int)))=true then(decide (0<=i)&&decide (Int.toNat i<List.length (List.map enc fs))&&Enc.sz Fact==3)=true∧(∃ y0:Fact,AV.pv (PV.rptr (PV.cells (List.getD (List.map enc fs) (Int.toNat i) default)))=AV.pv (PV.rptr (PV.cells ((enc) y0)))∧((Go.Pl.preT (fun(x:Lin×Unit)=>decide (List.length x.1.t<=1000000)) [(.agg [(.int .i64 (PV.asInt (List.getD (PV.cells (enc y0)) (0+1) default))),(.sl 2 false (PV.asXs (List.getD (PV.cells (enc y0)) (0+1+1) default)))])])=true∧(∃ y1:List Str,AV.pv (Zf (fun(x:Lin×Unit)=>Zp x.1) [(.agg [(.int .i64 (PV.asInt (List.getD (PV.cells (enc y0)) (0+1) default))),(.sl 2 false (PV.asXs (List.getD (PV.cells (enc y0)) (0+1+1) default)))])])=AV.pv (enc y1)∧((List.isEmpty (List.map enc y1)||Enc.sz Str==1)=true∧((List.length (List.map enc ns)==q&&q==q&&decide ((q+List.length (List.map enc y1))*16<=1099511627776)&&decide (q+List.length (List.map enc y1)<=1099511627776))=true∧(At Yt 0 (Za Yk G) Yh 0 38 [(3,(.row 0 (q+List.length (List.map enc y1)) 0 (q+List.length (List.map enc y1)))),(4,(.ptr 1 0)),(23,(.pv (.sl 3 false (List.map enc fs)))),(24,(.pv (.int .i64 (↑(List.length fs):Int)))),(25,(.pv (.int .i64 (IntKind.wrap IntKind.i64 (i+1)))))] [(.obj (.row false 9 1 (List.map enc ns++List.map enc y1))),(.obj (.box [(.pv (.sl 1 false (List.map enc b.v))),(.pv (.int .i64 b.m))]))]))))))else((Wm 176 [(.row 0 q 0 q),(.fn 176 [] [(.ptr 1 0)])] [(.row false 9 1 (List.map enc ns)),(.box [(.pv (.sl 1 false (List.map enc b.v))),(.pv (.int .i64 b.m))])])=true∧(if (List.any (KM (List.map enc ns)) fun(s:Str)=> !List.contains (dec (enc b.v)) s)=true then G ((.int .i64 7))else(G ((.int .i64 0)))))):At Yt 0 (Za Yk G) Yh 0 38 [(3,.row 0 q 0 q),(4,.ptr 1 0),(23,.pv (enc fs)),(24,.pv (.int .i64 fs.length)),(25,.pv (.int .i64 i))] [.obj (.row false 9 1 (ns.map enc)),.obj (.box [.pv (enc b.v),.pv (.int .i64 b.m)])]:=At.tp (.lit (.ask (.req (.abs (Fact) (fun YY=>AV.pv (PV.rptr (PV.cells ((enc) YY)))) (.lit (.req (.abs (List Str) (fun YY=>AV.pv (enc YY)) (.req (.req (.lit (.nil))))))))) (.req (.keep (.ask (.nil) (.nil)))))) h (by kernel_rfl)
theorem a7t{G:AV×List AObj×List AObj->Prop}(b:BoxT)(fs:List Fact)(ok:Bool)(n:Nat)(l:List Str)(h:(Go.Pl.preT (fun(x:BoxT×Unit)=>ZW x.1) [(.agg [(.sl 1 false (List.map enc b.v)),(.int .i64 b.m)])])=true∧(∃ y0:Bool,AV.pv (Zf (fun(x:BoxT×Unit)=>YZ x.1) [(.agg [(.sl 1 false (List.map enc b.v)),(.int .i64 b.m)])])=AV.pv (enc y0)∧(if (!y0)=true then G (((.pv (.int .i64 1)),([(.row false 9 1 (List.map enc l))],[])))else((Go.Pl.preT (fun(x:List Fact×Unit)=>Zo x.1) [(.sl 3 false (List.map enc fs))])=true∧(∃ y1:Bool,AV.pv (Zf (fun(x:List Fact×Unit)=>XQ x.1) [(.sl 3 false (List.map enc fs))])=AV.pv (enc y1)∧(if (!y1)=true then G (((.pv (.int .i64 1)),([(.row false 9 1 (List.map enc l))],[])))else(if (!ok)=true then G (((.pv (.int .i64 1)),([(.row false 9 1 (List.map enc l))],[])))else(At Yt 1 (Zl 1 Yk G) Yh 0 38 [(3,(.row 0 n 0 n)),(4,(.ptr 1 0)),(23,(.pv (.sl 3 false (List.map enc fs)))),(24,(.pv (.int .i64 (↑(List.length (List.map enc fs)):Int)))),(25,(.pv (.int .i64 0)))] [(.obj (.row false 9 1 (List.map enc l))),(.obj (.box [(.pv (.sl 1 false (List.map enc b.v))),(.pv (.int .i64 b.m))]))])))))))):Zc Yt 1 (Zl 1 Yk G) Yh [] (YR 38 [.pv (enc b),.pv (enc fs),.pv (.bool ok),.row 0 n 0 n] [.row false 9 1 (l.map enc)]):=Zc.to (.req (.abs (Bool) (fun YY=>AV.pv (enc YY)) (.ask (.lit (.lit (.lit (.lit (.lit (.lit (.lit (.nil)))))))) (.lit (.req (.abs (Bool) (fun YY=>AV.pv (enc YY)) (.lit (.lit (.ask (.lit (.lit (.lit (.nil)))) (.lit (.lit (.ask (.nil) (.nil))))))))))))) h (by kernel_rfl)
theorem BC{G:AV×List AObj×List AObj->Prop}(b:BoxT)(fs:List Fact)(ok:Bool)(n:Nat)(l:List Str)(i:Int)(q:Nat)(ns:List Str)(h:if (decide (i<(↑(List.length fs):Int)))=true then(decide (0<=i)&&decide (Int.toNat i<List.length (List.map enc fs))&&Enc.sz Fact==3)=true∧(∃ y0:Fact,AV.pv (PV.rptr (PV.cells (List.getD (List.map enc fs) (Int.toNat i) default)))=AV.pv (PV.rptr (PV.cells ((enc) y0)))∧((Go.Pl.preT (fun(x:Lin×Unit)=>decide (List.length x.1.t<=1000000)) [(.agg [(.int .i64 (PV.asInt (List.getD (PV.cells (enc y0)) (0+1) default))),(.sl 2 false (PV.asXs (List.getD (PV.cells (enc y0)) (0+1+1) default)))])])=true∧(∃ y1:List Str,AV.pv (Zf (fun(x:Lin×Unit)=>Zp x.1) [(.agg [(.int .i64 (PV.asInt (List.getD (PV.cells (enc y0)) (0+1) default))),(.sl 2 false (PV.asXs (List.getD (PV.cells (enc y0)) (0+1+1) default)))])])=AV.pv (enc y1)∧((List.isEmpty (List.map enc y1)||Enc.sz Str==1)=true∧((List.length (List.map enc ns)==q&&q==q&&decide ((q+List.length (List.map enc y1))*16<=1099511627776)&&decide (q+List.length (List.map enc y1)<=1099511627776))=true∧(At Yt 1 (Zl 1 Yk G) Yh 0 38 [(3,(.row 0 (q+List.length (List.map enc y1)) 0 (q+List.length (List.map enc y1)))),(4,(.ptr 1 0)),(23,(.pv (.sl 3 false (List.map enc fs)))),(24,(.pv (.int .i64 (↑(List.length fs):Int)))),(25,(.pv (.int .i64 (IntKind.wrap IntKind.i64 (i+1)))))] [(.obj (.row false 9 1 (List.map enc ns++List.map enc y1))),(.obj (.box [(.pv (.sl 1 false (List.map enc b.v))),(.pv (.int .i64 b.m))]))]))))))else((Wm 176 [(.row 0 q 0 q),(.fn 176 [] [(.ptr 1 0)])] [(.row false 9 1 (List.map enc ns)),(.box [(.pv (.sl 1 false (List.map enc b.v))),(.pv (.int .i64 b.m))])])=true∧(if (List.any (KM (List.map enc ns)) fun(s:Str)=> !List.contains (dec (enc b.v)) s)=true then G (((.pv (.int .i64 7)),([(.row false 9 1 (List.map enc ns))],[])))else(G (((.pv (.int .i64 0)),([(.row false 9 1 (List.map enc ns))],[]))))))):At Yt 1 (Zl 1 Yk G) Yh 0 38 [(3,.row 0 q 0 q),(4,.ptr 1 0),(23,.pv (enc fs)),(24,.pv (.int .i64 fs.length)),(25,.pv (.int .i64 i))] [.obj (.row false 9 1 (ns.map enc)),.obj (.box [.pv (enc b.v),.pv (.int .i64 b.m)])]:=At.to (.lit (.ask (.req (.abs (Fact) (fun YY=>AV.pv (PV.rptr (PV.cells ((enc) YY)))) (.lit (.req (.abs (List Str) (fun YY=>AV.pv (enc YY)) (.req (.req (.lit (.nil))))))))) (.req (.keep (.ask (.nil) (.nil)))))) h (by kernel_rfl)
def P5:IC:=(.seq (.reg [⟨(some 2),(.box 2 (.t 0)),0,none⟩,⟨(some 3),(.box 1 (.t 1)),1,none⟩,⟨(some 4),(.mv (.c .nilfn)),2,none⟩] none) (.seq (.reg [⟨(some 5),(.mkfn 177 [] [(.t 2),(.t 3)]),0,none⟩,⟨(some 4),(.mv (.t 5)),0,none⟩] none) .ret))
def PX:List IRes:=[(.tmp 4)]
abbrev b8x:Nat:=6
def EO:ZK:=Xp []
theorem c6v{G:AV×List AObj×List AObj->Prop}(b:BoxT)(fs:List Fact)(h:G (((.fn 177 [] [(.ptr 0 0),(.ptr 1 0)]),([],[(.box [(.pv (.sl 1 false (List.map enc b.v))),(.pv (.int .i64 b.m))]),(.box [(.pv (.sl 3 false (List.map enc fs)))])])))):Zc EO 0 (Zl 0 PX G) P5 [] (YR 6 [.pv (enc b),.pv (enc fs)] []):=Zc.to (.nil) h (by kernel_rfl)
def UV:IC:=(.block 1 (.reg [⟨(some 20),(.load false [(.sl 1)] (.t 7)),0,none⟩,⟨(some 21),(.mv (.t 8)),0,none⟩,⟨(some 22),(.bslice 34 1 1 (.sl 0 true []) [(0,(.t 21))]),0,none⟩,⟨(some 23),(.append 34 1 24 (.t 20) (.t 22)),1,none⟩,⟨none,(.store 1 (.t 7) (.t 23)),2,none⟩] none))
def PR:ZK:=Xp [(116,.pure (preT (fun x:BoxT×List Fact×Bool×NilS×Unit=>ZW x.1&&Zo x.2.1&&decide (x.2.1.length<=100))) (Zf (fun x:BoxT×List Fact×Bool×NilS×Unit=>Zm x.1 x.2.1 x.2.2.1 []))),(117,.own Y9 WL)]
theorem b7i{G:Zw->Prop}(E:YA)(p:List Int)(vs:List Coef)(h:E 99 ⟨ZX 25 0 [],[(.obj (.box [(.row 1 1 0 1)])),(.obj (.row false 34 1 [(.sl 1 false (List.map enc p))]))]⟩ (fun x S'=>Jj PR E 1 (fun st=>G st.heap) UV 99 x S')):ZI PR E 1 (fun st=>G st.heap) (.inl UV) [.seq (.ext 99 [])] ⟨ZX 25 0 [(7,.ptr 0 0),(8,.pv (enc p)),(18,.pv (enc p)),(19,.pv (enc vs))],[.obj (.box [.pv (.sl 0 true [])])]⟩:=ZI.mh (.lit (.lit (.lit (.lit (.lit (.nil)))))) h (by kernel_rfl)
theorem c1n{G:Zw->Prop}(E:YA)(p:List Int)(vs:List Coef)(n:Nat)(xs:List (List Int))(h:(List.length (List.map enc xs)==n&&n==n&&decide ((n+List.length (List.drop 0 (List.take 1 [enc p])))*24<=1099511627776)&&decide (n+List.length (List.drop 0 (List.take 1 [enc p]))<=1099511627776))=true∧(E 99 ⟨ZX 25 0 [],[(.obj (.box [(.row 1 (n+List.length (List.drop 0 (List.take 1 [enc p]))) 0 (n+List.length (List.drop 0 (List.take 1 [enc p]))))])),(.obj (.row false 34 1 (List.map enc xs++List.drop 0 (List.take 1 [enc p]))))]⟩ (fun x S'=>Jj PR E 2 (fun st=>G st.heap) UV 99 x S'))):ZI PR E 2 (fun st=>G st.heap) (.inl UV) [.seq (.ext 99 [])] ⟨ZX 25 0 [(7,.ptr 0 0),(8,.pv (enc p)),(18,.pv (enc p)),(19,.pv (enc vs))],[.obj (.box [.row 1 n 0 n]),.obj (.row false 34 1 (xs.map enc))]⟩:=ZI.mh (.lit (.lit (.req (.nil)))) h (by kernel_rfl)
def Gv:IC:=(.seq (.reg [⟨(some 2),(.box 2 (.t 0)),0,none⟩,⟨(some 4),(.mv (.c (.sl 0 true []))),1,none⟩,⟨(some 5),(.mv (.c (.int .i64 0))),1,none⟩] none) (.seq (.seq (.reg [⟨(some 9),(.load true [(.sl 1),(.int .i64)] (.t 2)),0,none⟩,⟨(some 10),(.mv (.t 1)),0,none⟩,⟨(some 11),(.call (.c (.fn 116)) [(.t 9),(.t 10),(.c (.bool true)),(.c (.sl 0 true []))]),0,none⟩,⟨(some 6),(.mv (.t 11)),2,none⟩] none) (.seq (.reg [⟨(some 12),(.mv (.t 6)),0,none⟩,⟨(some 13),(.bin .num .neq (.t 12) (.c (.int .i64 0))),0,none⟩] none) (.cond (.t 13) (.seq (.reg [⟨(some 14),(.mv (.t 6)),0,none⟩,⟨(some 4),(.mv (.c (.sl 0 true []))),0,none⟩,⟨(some 5),(.mv (.t 14)),0,none⟩] none) .ret) .skip))) (.seq (.reg [⟨(some 7),(.alloc (.sl 0 true [])),0,none⟩] none) (.seq (.seq (.reg [⟨(some 15),(.load true [(.sl 1),(.int .i64)] (.t 2)),0,none⟩,⟨(some 16),(.mv (.t 1)),0,none⟩,⟨(some 17),(.call (.c (.fn 117)) [(.t 15),(.t 16)]),0,none⟩] none) (.block 0 (.ext 0 [17,18,7,8,21,20,22,23]))) (.seq (.reg [⟨(some 24),(.load false [(.sl 1)] (.t 7)),0,none⟩,⟨(some 4),(.mv (.t 24)),0,none⟩,⟨(some 5),(.mv (.c (.int .i64 0))),0,none⟩] none) .ret)))))
def GR:List IRes:=[(.tmp 4),(.tmp 5)]
abbrev c6h:Nat:=25
def Jp:ZK:=Xp [(116,.pure (preT (fun x:BoxT×List Fact×Bool×NilS×Unit=>ZW x.1&&Zo x.2.1&&decide (x.2.1.length<=100))) (Zf (fun x:BoxT×List Fact×Bool×NilS×Unit=>Zm x.1 x.2.1 x.2.2.1 []))),(117,.own Y9 WL)]
theorem c9a{G:PV->Prop}(E:YA)(b:BoxT)(fs:List Fact)(h:(Go.Pl.preT (fun(x:BoxT×List Fact×Bool×NilS×Unit)=>ZW x.1&&Zo x.2.1&&decide (List.length x.2.1<=100)) [(.agg [(.sl 1 false (List.map enc b.v)),(.int .i64 b.m)]),(.sl 3 false (List.map enc fs)),(.bool true),(.sl 0 true [])])=true∧(∃ y0:Int,AV.pv (Zf (fun(x:BoxT×List Fact×Bool×NilS×Unit)=>Zm x.1 x.2.1 x.2.2.1 []) [(.agg [(.sl 1 false (List.map enc b.v)),(.int .i64 b.m)]),(.sl 3 false (List.map enc fs)),(.bool true),(.sl 0 true [])])=AV.pv (enc y0)∧(if (y0 != 0)=true then G ((.tup [(.sl 0 true []),(.int .i64 y0)]))else((Y9 [(.pv (.agg [(.sl 1 false (List.map enc b.v)),(.int .i64 b.m)])),(.pv (.sl 3 false (List.map enc fs)))] [])=true∧(E 0 ⟨ZX 25 0 [(7,(.ptr 0 0)),(8,.undef),(17,(.fn 177 [] [(.ptr 1 0),(.ptr 2 0)])),(18,.undef),(20,.undef),(21,.undef),(22,.undef),(23,.undef)],[(.obj (.box [(.pv (.sl 0 true []))])),(.obj (.box [(.pv (.sl 1 false (List.map enc b.v))),(.pv (.int .i64 b.m))])),(.obj (.box [(.pv (.sl 3 false (List.map enc fs)))]))]⟩ (fun x S'=>Jj Jp E 0 (Za GR G) Gv 0 x S')))))):ZI Jp E 0 (Za GR G) (.inl Gv) [] (Yr 25 [enc b,enc fs]):=ZI.mp (.req (.abs (Int) (fun YY=>AV.pv (enc YY)) (.lit (.ask (.nil) (.req (.keep (.nil))))))) h (by kernel_rfl)
theorem c1z{G:PV->Prop}(E:YA)(b:BoxT)(fs:List Fact)(h:G ((.tup [(.sl 0 true []),(.int .i64 0)]))):Jj Jp E 0 (Za GR G) Gv 0 .normal ⟨ZX 25 0 [(7,.ptr 0 0)],[.obj (.box [.pv (.sl 0 true [])])]⟩:=ZI.mp (.nil) h (by kernel_rfl)
theorem b8f{G:PV->Prop}(E:YA)(b:BoxT)(fs:List Fact)(n:Nat)(xs:List (List Int))(h:(List.length (List.map enc xs)==n)=true∧(G ((.tup [(.sl 1 false (List.drop 0 (List.take n (List.map enc xs)))),(.int .i64 0)])))):Jj Jp E 0 (Za GR G) Gv 0 .normal ⟨ZX 25 0 [(7,.ptr 0 0)],[.obj (.box [.row 1 n 0 n]),.obj (.row false 34 1 (xs.map enc))]⟩:=ZI.mp (.req (.nil)) h (by kernel_rfl)
def GA:IC:=(.seq (.reg [⟨(some 2),(.box 2 (.t 0)),0,none⟩,⟨(some 4),(.mv (.c (.int .i64 0))),1,none⟩,⟨(some 5),(.mv (.c (.int .i64 0))),1,none⟩] none) (.seq (.reg [⟨(some 9),(.load true [(.sl 1),(.int .i64)] (.t 2)),0,none⟩,⟨(some 10),(.mv (.t 1)),0,none⟩,⟨(some 11),(.call (.c (.fn 45)) [(.t 9),(.t 10)]),0,none⟩,⟨(some 8),(.mv (.t 11)),2,none⟩,⟨(some 12),(.extract (.t 8) 0),2,none⟩,⟨(some 13),(.extract (.t 8) 1),2,none⟩,⟨(some 6),(.mv (.t 12)),2,none⟩,⟨(some 7),(.mv (.t 13)),2,none⟩] none) (.seq (.reg [⟨(some 14),(.mv (.t 6)),0,none⟩,⟨(some 15),(.len 1 (.t 14)),0,none⟩,⟨(some 16),(.mv (.t 7)),0,none⟩,⟨(some 4),(.mv (.t 15)),0,none⟩,⟨(some 5),(.mv (.t 16)),0,none⟩] none) .ret)))
def G8:List IRes:=[(.tmp 4),(.tmp 5)]
abbrev a2v:Nat:=17
def BG:ZK:=Xp [(45,.pure (preT (fun x:BoxT×List Fact×Unit=>ZW x.1&&Zo x.2.1&&decide (x.2.1.length<=100)&&decide (x.1.v.length<=1000))) (Zf (fun x:BoxT×List Fact×Unit=>YG x.1 x.2.1)))]
theorem a9u{G:PV->Prop}(b:BoxT)(fs:List Fact)(h:(Go.Pl.preT (fun(x:BoxT×List Fact×Unit)=>ZW x.1&&Zo x.2.1&&decide (List.length x.2.1<=100)&&decide (List.length x.1.v<=1000)) [(.agg [(.sl 1 false (List.map enc b.v)),(.int .i64 b.m)]),(.sl 3 false (List.map enc fs))])=true∧(∃ y0:List (List Int)×Int,AV.pv (Zf (fun(x:BoxT×List Fact×Unit)=>YG x.1 x.2.1) [(.agg [(.sl 1 false (List.map enc b.v)),(.int .i64 b.m)]),(.sl 3 false (List.map enc fs))])=AV.pv (enc y0)∧(G ((.tup [(.int .i64 (↑(List.length (List.map enc y0.1)):Int)),(.int .i64 y0.2)]))))):Zc BG 0 (Za G8 G) GA [] (Yr 17 [enc b,enc fs]):=Zc.tp (.req (.abs (List (List Int)×Int) (fun YY=>AV.pv (enc YY)) (.nil))) h (by kernel_rfl)
end Go.Pl

namespace Go.Pl
open Go.RowKit
open Enc (enc dec is)
open EncL (encL decL isL)
end Go.Pl

namespace Go.Pl
open Go.RowKit
open Enc (enc dec is)
open EncL (encL decL isL)
set_option maxRecDepth 100000
-- IMPOSSIBLE
end Go.Pl

namespace Go.Pl
open Go.RowKit
open Enc (enc dec is)
open EncL (encL decL isL)
end Go.Pl

namespace Go.Pl
open Go.RowKit
open Enc (enc dec is)
open EncL (encL decL isL)
def nmI(l:Lin)(i:Nat):List Str:=(l.t.take i).map (·.v)
theorem CQ(l:Lin){i:Nat}(h:i<l.t.length):(nmI l (i+1)).map (enc:Str->PV)=(nmI l i).map enc++[.str l.t[i].v.s]:=by
 unfold nmI
 rw[List.take_succ_eq_append_getElem h,List.map_append,List.map_append];rfl
theorem AQ(l:Lin){i:Nat}(h:i<=l.t.length):(nmI l i).length=i:=by unfold nmI;rw[List.length_map,List.length_take];omega
theorem Oh(l:Lin):nmI l l.t.length=Zp l:=by unfold nmI Zp;rw[List.take_of_length_le (Nat.le_refl _)]
theorem Kh{q sz m:Nat}{xs:List PV}(h:xs.length=q)(h1:(q+m)*sz<=1099511627776)(h2:q+m<=1099511627776):(xs.length==q&&q==q&&decide ((q+m)*sz<=1099511627776)&&decide (q+m<=1099511627776))=true:=by simp[h,h1,h2]
theorem OI(l:Lin)(hl:l.t.length<=1000000): ∀ (k i:Nat),k+i=l.t.length->1<=i ->
  At YM 0 (Zl 0 Yv fun r=>r=KL (Zp l)) Yw 0 20 [(3,.row 0 i 0 i),(7,.pv (enc l.t)),(8,.pv (.int .i64 l.t.length)),(9,.pv (.int .i64 i))] [.obj (.row false 9 1 ((nmI l i).map enc))]:=by
 intro k
 induction k with
 | zero=>
  intro i hi h1
  obtain rfl:i=l.t.length:=by omega
  refine Rh l _ _ (nmI l l.t.length) (ZN (Ye (by omega)) ?_)
  rw[Oh]
  unfold KL
  have e:(Zp l).length=l.t.length:=by rw[<- Oh,AQ l (Nat.le_refl _)]
  rw[e]
 | succ k ih=>
  intro i hi h1
  have hlt:i<l.t.length:=by omega
  refine Rh l i i (nmI l i) (ZU (Z9 hlt) ⟨Zq hlt rfl,ZF hlt ⟨Kh (m:=1) (by rw[List.length_map,AQ l (by omega)]) (by omega) (by omega),?_⟩⟩)
  have:=ih (i+1) (by omega) (by omega)
  rw[CQ l hlt,<- next (by omega)]at this
  exact this
theorem a3q: ∀ args os,K9 args os=true->Zc YM os.length (Zl os.length Yv fun r=>r=Gp args os) Yw [] (YR Bi args os):=by
 intro args os h
 unfold K9 at h
 split at h
 ·rename_i a
  simp only[Bool.and_eq_true,Bool.not_eq_true',decide_eq_true_eq]at h
  obtain⟨⟨h1,h2⟩,h3⟩:=h
  obtain⟨l,rfl⟩:=YC h1
  rw[Enc.dec_enc]at h2 h3
  have hlt:0<l.t.length:=by
   rcases Nat.eq_zero_or_pos l.t.length with e|e
   ·rw[List.length_eq_zero_iff.1 e]at h2;cases h2
   ·exact e
  have ev:Gp [.pv (enc l)] []=KL (Zp l):=by show KL (Zp (dec (enc l:PV)))=_;rw[Enc.dec_enc]
  rw[ev]
  refine a1r l ?_
  rw[List.length_map]
  refine RO l ((0:Nat):Int) (ZU (Z9 hlt) ⟨Zq hlt rfl,ZF hlt ?_⟩)
  have:=OI l h3 (l.t.length - 1) 1 (by omega) (by omega)
  rw[show(1:Nat)=0+1 from rfl,CQ l hlt]at this
  exact this
 ·cases h
theorem EP: ∀ args os,K5 args os=true->Zc YM os.length (Zl os.length Yv fun r=>r=CB args os) Yw [] (YR Bi args os):=by
 intro args os h
 unfold K5 at h
 split at h
 ·rename_i a
  simp only[Bool.and_eq_true,List.isEmpty_iff]at h
  obtain⟨h1,h2⟩:=h
  obtain⟨l,rfl⟩:=YC h1
  rw[Enc.dec_enc]at h2
  refine a1r l ?_
  rw[List.length_map]
  exact RO l ((0:Nat):Int) (ZN (Ye (by rw[h2];simp)) rfl)
 ·cases h
theorem Mj(l:Lin)(hl:l.t.length<=1000000): ∀ (k i:Nat),k+i=l.t.length->1<=i ->
  At YM 0 (Za Yv (Zj (Zp l))) Yw 0 20 [(3,.row 0 i 0 i),(7,.pv (enc l.t)),(8,.pv (.int .i64 l.t.length)),(9,.pv (.int .i64 i))] [.obj (.row false 9 1 ((nmI l i).map enc))]:=by
 intro k
 induction k with
 | zero=>
  intro i hi h1
  obtain rfl:i=l.t.length:=by omega
  refine Sd l _ _ (nmI l l.t.length) (ZN (Ye (by omega)) ⟨by simp[AQ],?_⟩)
  rw[List.drop_zero,List.take_of_length_le (by rw[List.length_map,AQ l (Nat.le_refl _)];exact Nat.le_refl _),Oh]
  exact ZP (x:=Zp l) rfl
 | succ k ih=>
  intro i hi h1
  have hlt:i<l.t.length:=by omega
  refine Sd l i i (nmI l i) (ZU (Z9 hlt) ⟨Zq hlt rfl,ZF hlt ⟨Kh (m:=1) (by rw[List.length_map,AQ l (by omega)]) (by omega) (by omega),?_⟩⟩)
  have:=ih (i+1) (by omega) (by omega)
  rw[CQ l hlt,<- next (by omega)]at this
  exact this
theorem Oq: ∀ a:Lin×Unit,decide (a.1.t.length<=1000000)=true->Zc YM 0 (Za Yv (Zj (Zp a.1))) Yw [] (Yr Bi (encL a)):=by
 rintro⟨l,⟨⟩⟩ h
 have h:l.t.length<=1000000:=of_decide_eq_true h
 refine b3c l ?_
 rw[List.length_map]
 by_cases h0:l.t.length=0
 ·refine AY l ((0:Nat):Int) (ZN (Ye (by omega)) ?_)
  have:Zp l=[]:=by unfold Zp;rw[List.length_eq_zero_iff.1 h0];rfl
  rw[this]
  exact⟨rfl,rfl⟩
 ·have hlt:0<l.t.length:=by omega
  refine AY l ((0:Nat):Int) (ZU (Z9 hlt) ⟨Zq hlt rfl,ZF hlt ?_⟩)
  have:=Mj l h (l.t.length - 1) 1 (by omega) (by omega)
  rw[show(1:Nat)=0+1 from rfl,CQ l hlt]at this
  exact this
theorem b1f: ∀ args os,Jf args os=true->Zc EM os.length (Zl os.length NN fun r=>r=Co args os) Ng [] (YR c2b args os):=by
 intro args os h
 unfold Jf at h
 split at h
 ·rename_i s v m
  simp only[Bool.and_eq_true]at h
  obtain⟨h1,h2⟩:=h
  obtain⟨l,rfl⟩:=YC h1
  rw[Enc.dec_enc]at h2
  have ev:Co [.pv (.str s),.ptr 0 0] [.box [.pv (enc l),.pv (.int .i64 m)]]=(.pv (.bool (!(l.contains ⟨s⟩))),[.box [.pv (enc l),.pv (.int .i64 m)]],[]):=by
   show(AV.pv (.bool (!((dec (enc l:PV):List Str).contains ⟨s⟩))),_,_)=_
   rw[Enc.dec_enc]
  rw[ev]
  exact c6b s ⟨l,m⟩ ⟨Ze (l,⟨s⟩,()) rfl h2,Zd (l,⟨s⟩,()) rfl rfl⟩
 ·cases h
theorem Nu{n m:Nat}{xs:List PV}(h:SS n m xs=true): ∃ l:List Str,xs=l.map enc∧m=n∧l.length=n∧l.length<=9223372036854775807:=by
 simp only[SS,Bool.and_eq_true,beq_iff_eq]at h
 obtain⟨⟨⟨h1,h2⟩,h3⟩,h4⟩:=h
 obtain⟨l,hl⟩:=YC h3
 have hl:PV.sl 1 false xs=PV.sl 1 false (l.map enc):=hl
 injection hl with _ _ hx
 subst hx
 have e:KM (l.map enc)=l:=Enc.dec_enc l
 rw[e]at h4
 exact⟨l,rfl,h1,by simpa using h2,Zu.1 h4⟩
theorem UL(l:List Str):KM (l.map enc)=l:=Enc.dec_enc l
theorem Cv{l:List Str}{n:Nat}(hn:l.length=n)(hs:l.length<=9223372036854775807):SS n n (l.map enc)=true:=by
 have hc:Vz (List Str) (.sl 1 false (l.map enc))=true:=Ya l
 simp only[SS,hc,UL,Zu.2 hs,List.length_map,hn]
 simp
theorem b1x{l:List Str}{i:Nat}(h:i<l.length):List.getD (List.map (enc:Str->PV) l) (0+Int.toNat (i:Int)) default=enc l[i]:=by simp[List.getD,h]
theorem b8q(s:List UInt8)(l:List Str)(m:Int)(h:Zn l=true):Jf [.pv (.str s),.ptr 0 0] [.box [.pv (enc l),.pv (.int .i64 m)]]=true:=by
 show(Vz (List Str) (enc l)&&Zn (dec (enc l:PV):List Str))=true
 rw[Ya,Enc.dec_enc,h];rfl
theorem b1g(l:List Str)(n:Nat)(b:BoxT)(hn:l.length=n)(hl:l.length<=9223372036854775807)(hb:Zn b.v=true): ∀ (j i:Nat),j+i=n->(∀ k (h:k<l.length),k<i->(!(b.v.contains l[k]))=false) ->
  At Jo 2 (Zl 2 Qb fun r=>r=(.pv (.int .i64 (ZE (fun s:Str=> !(b.v.contains s)) l)),[.row false 9 1 (l.map enc),.box [.pv (enc b.v),.pv (.int .i64 b.m)]],[])) UE 0 19 [(0,.row 0 n 0 n),(1,.fn 176 [] [.ptr 1 0]),(7,.pv (.int .i64 n)),(8,.pv (.int .i64 i))] [.obj (.row false 9 1 (l.map enc)),.obj (.box [.pv (enc b.v),.pv (.int .i64 b.m)])]:=by
 intro j
 induction j with
 | zero=>
  intro i hi hno
  refine b6g l n b i (ZN (Ye (by omega)) ?_)
  rw[U2 _ _ (fun k hk=>hno k hk (by omega))]
  rfl
 | succ j ih=>
  intro i hi hno
  have hlt:i<l.length:=by omega
  refine b6g l n b i (ZU (Z9 (by omega)) ?_)
  simp only[b1x hlt]
  refine⟨by simp;omega,by simp;omega,rfl,b8q _ _ _ hb,?_⟩
  rw[Enc.dec_enc]
  refine XX (fun h=> ?_) fun h=> ?_
  ·have h:b.v.contains l[i]=false:=h
   rw[U3 (fun s:Str=> !(b.v.contains s)) l i hlt hno (by rw[h];rfl)]
   rfl
  ·have h:b.v.contains l[i]=true:=h
   rw[next (by omega)]
   refine ih (i+1) (by omega) fun k hk hki=> ?_
   by_cases e:k=i
   ·subst e;rw[h];rfl
   ·exact hno k hk (by omega)
theorem b7x: ∀ args os,Wm 176 args os=true->Zc Jo os.length (Zl os.length Qb fun r=>r=CE args os) UE [] (YR c4e args os):=by
 intro args os h
 unfold Wm at h
 split at h
 ·rename_i n m g ty xs v k
  simp only[Bool.and_eq_true,beq_iff_eq]at h
  obtain⟨⟨⟨⟨rfl,rfl⟩,h3⟩,h4⟩,h5⟩:=h
  obtain⟨l,rfl,rfl,hn,hl⟩:=Nu h3
  obtain⟨bv,rfl⟩:=YC h4
  rw[Enc.dec_enc]at h5
  have ev:CE [.row 0 m 0 m,.fn 176 [] [.ptr 1 0]] [.row false 9 1 (l.map enc),.box [.pv (enc bv),.pv (.int .i64 k)]]=(.pv (.int .i64 (ZE (fun s:Str=> !(bv.contains s)) l)),[.row false 9 1 (l.map enc),.box [.pv (enc bv),.pv (.int .i64 k)]],[]):=by
   show(AV.pv (.int .i64 (ZE (fun s:Str=> !((dec (enc bv:PV):List Str).contains s)) (KM (l.map enc)))),_,_)=_
   rw[Enc.dec_enc,UL]
  rw[ev]
  exact c9m l m ⟨bv,k⟩ (b1g l m ⟨bv,k⟩ hn hl h5 m 0 rfl fun k _ h=>by omega)
 ·rename_i g v k
  simp only[Bool.and_eq_true,beq_iff_eq]at h
  obtain⟨⟨rfl,h4⟩,h5⟩:=h
  obtain⟨bv,rfl⟩:=YC h4
  exact c9n ⟨bv,k⟩ (c5t ⟨bv,k⟩ 0 (ZN (by decide) rfl))
 ·cases h
theorem c1m: ∀ args os,Wm 176 args os=true->Zc a0i os.length (Zl os.length NA fun r=>r=Pj args os) CU [] (YR c6w args os):=by
 intro args os h
 have h0:=h
 unfold Wm at h
 split at h
 ·rename_i n m g ty xs v k
  simp only[Bool.and_eq_true,beq_iff_eq]at h
  obtain⟨⟨⟨⟨rfl,rfl⟩,h3⟩,h4⟩,h5⟩:=h
  obtain⟨l,rfl,rfl,hn,hl⟩:=Nu h3
  obtain⟨bv,rfl⟩:=YC h4
  refine c8q l m ⟨bv,k⟩ ⟨h0,?_⟩
  rw[XN]
  rfl
 ·rename_i g v k
  simp only[Bool.and_eq_true,beq_iff_eq]at h
  obtain⟨⟨rfl,h4⟩,h5⟩:=h
  obtain⟨bv,rfl⟩:=YC h4
  exact c7u ⟨bv,k⟩ ⟨h0,rfl⟩
 ·cases h
def JF(fs:List Fact):List Str:=fs.flatMap fun f=>Zp f.l
theorem Kk{fs:List Fact}{i:Nat}(h:i<fs.length):JF (fs.take (i+1))=JF (fs.take i)++Zp fs[i].l:=by
 unfold JF
 rw[List.take_succ_eq_append_getElem h,List.flatMap_append];simp
theorem U6{fs:List Fact}(hv:XQ fs=true){i:Nat}(hi:i<fs.length):(Zp fs[i].l).length<=12:=by
 unfold Zp
 rw[List.length_map]
 unfold XQ at hv
 exact RH (List.all_eq_true.1 hv _ (List.getElem_mem hi))
theorem Hy{fs:List Fact}(hv:XQ fs=true): ∀ i,i<=fs.length->(JF (fs.take i)).length<=12*i
 | 0,_=>by simp[JF]
 | i+1,h=>by
  rw[Kk (by omega),List.length_append]
  have:=Hy hv i (by omega)
  have:=U6 hv (i:=i) (by omega)
  omega
def inE(vs:List Str)(ns:List Str):Int:=if Qq vs ns then 0 else 7
theorem RN(vs ns:List Str):(ns.any fun s=> !(vs.contains s)) = !(Qq vs ns):=by
 unfold Qq
 induction ns with
 | nil=>rfl
 | cons s r ih=>simp only[List.any_cons,List.all_cons,ih,Bool.not_and]
theorem PY(b:BoxT)(fs:List Fact)(ok:Bool)(l:List Str)(hb:Zn b.v=true)(hf:Zo fs=true)(hv:XQ fs=true)(hfl:fs.length<=100)(hl:l.length<=1000)(n:Nat)(ls:List Str): ∀ (k i:Nat),k+i=fs.length ->
  At Yt 1 (Zl 1 Yk fun r=>r=(.pv (.int .i64 (inE b.v (l++JF fs))),[.row false 9 1 ((l++JF fs).map enc)],[])) Yh 0 38 [(3,.row 0 (l++JF (fs.take i)).length 0 (l++JF (fs.take i)).length),(4,.ptr 1 0),(23,.pv (enc fs)),(24,.pv (.int .i64 fs.length)),(25,.pv (.int .i64 i))] [.obj (.row false 9 1 ((l++JF (fs.take i)).map enc)),.obj (.box [.pv (enc b.v),.pv (.int .i64 b.m)])]:=by
 intro k
 induction k with
 | zero=>
  intro i hi
  have hn:=Hy hv i (by omega)
  have hd:fs.take i=fs:=List.take_of_length_le (by omega)
  rw[hd]at hn ⊢
  refine BC b fs ok n ls i _ (l++JF fs) (ZN (Ye (by omega)) ⟨?_,?_⟩)
  ·show(176==176&&9==9&&SS _ _ _&&Vz (List Str) (enc b.v)&&Zn (dec (enc b.v:PV):List Str))=true
   rw[Cv rfl (by rw[List.length_append];omega),Ya,Enc.dec_enc,hb];rfl
  ·rw[UL,Enc.dec_enc,RN]
   unfold inE
   refine XX (fun h=> ?_) fun h=> ?_
   ·rw[h];rfl
   ·rw[h];rfl
 | succ k ih=>
  intro i hi
  have hlt:i<fs.length:=by omega
  have hn:=Hy hv i (by omega)
  have hnb:=U6 hv hlt
  have hnm:(Zp fs[i].l).length=fs[i].l.t.length:=by unfold Zp;rw[List.length_map]
  refine BC b fs ok n ls i _ (l++JF (fs.take i)) (ZU (Z9 hlt) ⟨Zq hlt rfl,ZF hlt ⟨Ze (fs[i].l,()) rfl (decide_eq_true (by show fs[i].l.t.length<=_;omega)),Zd (fs[i].l,()) rfl ⟨by simp,Kh (by rw[List.length_map]) (by rw[List.length_map,List.length_append];show(_+(Zp fs[i].l).length)*16<=_;omega) (by rw[List.length_map,List.length_append];show _+(Zp fs[i].l).length<=_;omega),?_⟩⟩⟩)
  have:=ih (i+1) (by omega)
  rw[Kk hlt,<- List.append_assoc,show(l++JF (fs.take i)++Zp fs[i].l).map (enc:Str->PV)=(l++JF (fs.take i)).map enc++(Zp fs[i].l).map enc from List.map_append,List.length_append (as:=l++JF (fs.take i)),<- next (by omega)]at this
  rw[List.length_map]
  exact this
theorem Lu: ∀ args os,Ug args os=true->Zc Yt os.length (Zl os.length Yk fun r=>r=Q9 args os) Yh [] (YR Tv args os):=by
 intro args os h
 unfold Ug at h
 split at h
 ·rename_i b0 f0 ok n m ty xs
  simp only[Bool.and_eq_true,beq_iff_eq,decide_eq_true_eq,Bool.not_eq_true']at h
  obtain⟨⟨⟨⟨⟨⟨⟨⟨⟨h1,h2⟩,rfl⟩,h4⟩,h5⟩,h6⟩,h7⟩,h8⟩,h9⟩,h10⟩:=h
  obtain⟨b,rfl⟩:=YC h1
  obtain⟨fs,rfl⟩:=YC h2
  obtain⟨l,rfl,rfl,hn,hl⟩:=Nu h4
  rw[Enc.dec_enc]at h7 h8 h9
  rw[List.length_map]at h10
  have ev:Q9 [.pv (enc b),.pv (enc fs),.pv (.bool ok),.row 0 m 0 m] [.row false 9 1 (l.map enc)]=(.pv (.int .i64 (Zm b fs ok l)),[.row false 9 1 ((ckV b fs ok l).map enc)],[]):=by
   show(AV.pv (.int .i64 (Zm (dec (enc b:PV)) (dec (enc fs:PV)) ok (KM (l.map enc)))),[AObj.row false 9 1 ((ckV (dec (enc b:PV)) (dec (enc fs:PV)) ok (KM (l.map enc))).map enc)],_)=_
   rw[Enc.dec_enc,Enc.dec_enc,UL]
  rw[ev]
  have hb:Zn b.v=true:=by simp only[ZW,YB,Bool.and_eq_true]at h7;exact h7.1
  refine a7t b fs ok m l ⟨Ze (b,()) rfl h7,Zd (b,()) rfl (XX (fun h=> ?_) fun hbv=>⟨Ze (fs,()) rfl h8,Zd (fs,()) rfl (XX (fun h=> ?_) fun hfv=>XX (fun h=> ?_) fun hok=> ?_)⟩)⟩
  ·have h:YZ b=false:=h
   simp[Zm,ckV,h]
  ·have h:XQ fs=false:=h
   simp[Zm,ckV,h]
  ·have h:ok=false:=h
   simp[Zm,ckV,h]
  ·have hbv:YZ b=true:=hbv
   have hfv:XQ fs=true:=hfv
   have hok:ok=true:=hok
   have e1:Zm b fs ok l=inE b.v (l++JF fs):=by unfold Zm;rw[hbv,hfv,hok];rfl
   have e2:ckV b fs ok l=l++JF fs:=by unfold ckV;rw[hbv,hfv,hok];rfl
   rw[e1,e2,List.length_map]
   have:=PY b fs ok l hb h8 hfv h9 (by omega) m l fs.length 0 (by omega)
   rw[List.take_zero]at this
   have e0:l++JF []=l:=by simp[JF]
   rw[e0,hn]at this
   exact this
 ·cases h
theorem LH(b:BoxT)(fs:List Fact)(ok:Bool)(hb:Zn b.v=true)(hf:Zo fs=true)(hv:XQ fs=true)(hfl:fs.length<=100): ∀ (k i:Nat),k+i=fs.length ->
  At Yt 0 (Za Yk (Zj (inE b.v (JF fs)))) Yh 0 38 [(3,.row 0 (JF (fs.take i)).length 0 (JF (fs.take i)).length),(4,.ptr 1 0),(23,.pv (enc fs)),(24,.pv (.int .i64 fs.length)),(25,.pv (.int .i64 i))] [.obj (.row false 9 1 ((JF (fs.take i)).map enc)),.obj (.box [.pv (enc b.v),.pv (.int .i64 b.m)])]:=by
 intro k
 induction k with
 | zero=>
  intro i hi
  have hn:=Hy hv i (by omega)
  have hd:fs.take i=fs:=List.take_of_length_le (by omega)
  rw[hd]at hn ⊢
  refine Au b fs ok i _ (JF fs) (ZN (Ye (by omega)) ⟨?_,?_⟩)
  ·show(176==176&&9==9&&SS _ _ _&&Vz (List Str) (enc b.v)&&Zn (dec (enc b.v:PV):List Str))=true
   rw[Cv rfl (by omega),Ya,Enc.dec_enc,hb];rfl
  ·rw[UL,Enc.dec_enc,RN]
   unfold inE
   refine XX (fun h=> ?_) fun h=> ?_
   ·rw[h];exact⟨rfl,rfl⟩
   ·rw[h];exact⟨rfl,rfl⟩
 | succ k ih=>
  intro i hi
  have hlt:i<fs.length:=by omega
  have hn:=Hy hv i (by omega)
  have hnb:=U6 hv hlt
  have hnm:(Zp fs[i].l).length=fs[i].l.t.length:=by unfold Zp;rw[List.length_map]
  refine Au b fs ok i _ (JF (fs.take i)) (ZU (Z9 hlt) ⟨Zq hlt rfl,ZF hlt ⟨Ze (fs[i].l,()) rfl (decide_eq_true (by show fs[i].l.t.length<=_;omega)),Zd (fs[i].l,()) rfl ⟨by simp,Kh (by rw[List.length_map]) (by rw[List.length_map];show(_+(Zp fs[i].l).length)*16<=_;omega) (by rw[List.length_map];show _+(Zp fs[i].l).length<=_;omega),?_⟩⟩⟩)
  have:=ih (i+1) (by omega)
  rw[Kk hlt,show(JF (fs.take i)++Zp fs[i].l).map (enc:Str->PV)=(JF (fs.take i)).map enc++(Zp fs[i].l).map enc from List.map_append,List.length_append (as:=JF (fs.take i)),<- next (by omega)]at this
  rw[List.length_map]
  exact this
theorem Ee(b:BoxT)(fs:List Fact)(ok:Bool)(hb:Zn b.v=true)(hf:Zo fs=true)(hv:XQ fs=true)(hfl:fs.length<=100): ∀ (k i:Nat),k+i=fs.length->JF (fs.take i)=[] ->
  At Yt 0 (Za Yk (Zj (inE b.v (JF fs)))) Yh 0 38 [(3,.pv (.sl 0 true [])),(4,.ptr 0 0),(23,.pv (enc fs)),(24,.pv (.int .i64 fs.length)),(25,.pv (.int .i64 i))] [.obj (.box [.pv (enc b.v),.pv (.int .i64 b.m)])]:=by
 intro k
 induction k with
 | zero=>
  intro i hi h0
  have hd:fs.take i=fs:=List.take_of_length_le (by omega)
  rw[hd]at h0
  refine AP b fs ok i (ZN (Ye (by omega)) ⟨?_,?_⟩)
  ·show(176==176&&Vz (List Str) (enc b.v)&&Zn (dec (enc b.v:PV):List Str))=true
   rw[Ya,Enc.dec_enc,hb];rfl
  ·rw[h0]
   exact⟨rfl,rfl⟩
 | succ k ih=>
  intro i hi h0
  have hlt:i<fs.length:=by omega
  have hnb:=U6 hv hlt
  have hnm:(Zp fs[i].l).length=fs[i].l.t.length:=by unfold Zp;rw[List.length_map]
  refine AP b fs ok i (ZU (Z9 hlt) ⟨Zq hlt rfl,ZF hlt ⟨Ze (fs[i].l,()) rfl (decide_eq_true (by show fs[i].l.t.length<=_;omega)),Zd (fs[i].l,()) rfl ⟨by simp,Wx (fun h=> ?_) fun h=>⟨?_,?_⟩⟩⟩⟩)
  ·have h:Zp fs[i].l=[]:=by simpa using h
   rw[next (by omega)]
   exact ih (i+1) (by omega) (by rw[Kk hlt,h0,h];rfl)
  ·rw[List.length_map]
   show(true&&decide ((0+(Zp fs[i].l).length)*16<=1099511627776)&&decide (0+(Zp fs[i].l).length<=1099511627776))=true
   rw[decide_eq_true (by omega),decide_eq_true (by omega)];rfl
  ·have:=LH b fs ok hb hf hv hfl k (i+1) (by omega)
   rw[Kk hlt,h0,List.nil_append,<- next (by omega)]at this
   rw[List.length_map]
   show At Yt 0 _ Yh 0 38 [(3,.row 0 (0+(Zp fs[i].l).length) 0 (0+(Zp fs[i].l).length)),_,_,_,_] _
   rw[Nat.zero_add]
   exact this
theorem Ev: ∀ a:BoxT×List Fact×Bool×NilS×Unit,(ZW a.1&&Zo a.2.1&&decide (a.2.1.length<=100))=true->Zc Yt 0 (Za Yk (Zj (Zm a.1 a.2.1 a.2.2.1 []))) Yh [] (Yr Tv (encL a)):=by
 rintro⟨b,fs,ok,⟨⟩,⟨⟩⟩ h
 simp only[Bool.and_eq_true,decide_eq_true_eq]at h
 obtain⟨⟨h7,h8⟩,h9⟩:=h
 have hb:Zn b.v=true:=by have:=h7;simp only[ZW,YB,Bool.and_eq_true]at this;exact this.1
 show Zc Yt 0 (Za Yk (Zj (Zm b fs ok []))) _ _ _
 refine b1e b fs ok ⟨Ze (b,()) rfl h7,Zd (b,()) rfl (XX (fun h=> ?_) fun hbv=>⟨Ze (fs,()) rfl h8,Zd (fs,()) rfl (XX (fun h=> ?_) fun hfv=>XX (fun h=> ?_) fun hok=> ?_)⟩)⟩
 ·have h:YZ b=false:=h
  exact Uv (by simp[Zm,h])
 ·have h:XQ fs=false:=h
  exact Uv (by simp[Zm,h])
 ·have h:ok=false:=h
  exact Uv (by simp[Zm,h])
 ·have hbv:YZ b=true:=hbv
  have hfv:XQ fs=true:=hfv
  have hok:ok=true:=hok
  have e1:Zm b fs ok []=inE b.v (JF fs):=by unfold Zm;rw[hbv,hfv,hok];rfl
  rw[e1,List.length_map]
  exact Ee b fs ok hb h8 hfv h9 fs.length 0 (by omega) rfl
end Go.Pl

namespace Go.Pl
open Go.RowKit
open Enc (enc dec is)
open EncL (encL decL isL)
theorem N9(s:List UInt8)(hs:s.length<=281474976710656): ∀ (m i:Nat),m+i=s.length->At XH 0 (Za Xd (Zj (Xv s i))) Xg 0 67 [(0,.pv (.str s)),(34,.pv (.sl 1 false (ZA s))),(35,.pv (.int .i64 (ZA s).length)),(36,.pv (.int .i64 i))] []:=by
 intro m
 induction m with
 | zero=>
  intro i hi
  have e:Xv s i=(!(s==[])&&decide (s.length<=30)):=by
   unfold Xv
   cases i with
   | zero=>cases s with
    | nil=>rfl
    | cons c r=>simp at hi
   | succ i=>simp only;rw[List.drop_of_length_le (show s.length<=i+1 by omega)];simp
  rw[e]
  refine TM s i (ZN (Ye (by rw[Un];omega)) (Wx (fun h=>ZM ?_) fun h=>ZM ?_))
  ·rw[h,Bool.true_and];exact decide_eq_decide.2 (by omega)
  ·rw[h,Bool.false_and]
 | succ m ih=>
  intro i hi
  have hlt:i<s.length:=by omega
  have h:=ih (i+1) (by omega)
  refine TM s i ?_
  rw[Ff hlt,next (by omega)]
  have stop:(Wz s[i]=false∧(i=0∨digB s[i]=false))->Zj (Xv s i) (.bool false):=fun hb=>ZM (Rt hlt hb).symm
  have go:(Wz s[i]=true∨(i≠0∧digB s[i]=true))->At XH 0 (Za Xd (Zj (Xv s i))) Xg 0 67 [(0,.pv (.str s)),(34,.pv (.sl 1 false (ZA s))),(35,.pv (.int .i64 (ZA s).length)),(36,.pv (.int .i64 ((i+1:Nat):Int)))] []:=fun hb=>by rw[Ro hlt hb];exact h
  have rest:Wz s[i]=false->(if ((i:Int)==0)=true then Zj (Xv s i) (.bool false)else if decide ((s[i].toNat:Int)<48)=true then Zj (Xv s i) (.bool false)else if decide ((s[i].toNat:Int)>57)=true then Zj (Xv s i) (.bool false)else At XH 0 (Za Xd (Zj (Xv s i))) Xg 0 67 [(0,.pv (.str s)),(34,.pv (.sl 1 false (ZA s))),(35,.pv (.int .i64 (ZA s).length)),(36,.pv (.int .i64 ((i+1:Nat):Int)))] []):=by
   intro hl
   refine KE (fun h0=>stop ⟨hl,.inl (by omega)⟩) fun h0=>Xy (fun h1=>stop ⟨hl,.inr (K3 (by omega))⟩) fun h1=>Xy (fun h2=>stop ⟨hl,.inr (K3 (by omega))⟩) fun h2=>go (.inr ⟨by omega,Vg.2 (by omega)⟩)
  refine ZU (Z9 (by rw[Un];exact hlt)) ⟨by rw[Un];simp[hlt],by rfl,?_⟩
  refine Xy (fun h1=>rest (KY ?_)) fun h1=>Xy (fun h2=>rest (KY ?_)) fun h2=>go (.inl (P7.2 ?_))
  ·have h1:(s[i].toNat:Int)<97:=h1
   omega
  ·have h2:(s[i].toNat:Int)>122:=h2
   omega
  ·have h1 : ¬ (s[i].toNat:Int)<97:=h1
   have h2 : ¬ (s[i].toNat:Int)>122:=h2
   omega
theorem FW: ∀ a:Str×Unit,decide (a.1.s.length<=281474976710656)=true->Zc XH 0 (Za Xd (Zj (ZB a.1))) Xg [] (Yr a6u (encL a)):=by
 rintro⟨⟨s⟩,⟨⟩⟩ hl
 have hl:s.length<=281474976710656:=by simpa using hl
 refine b0t s (Zd (⟨s⟩,⟨[95]⟩,()) rfl (Wx (fun h=> ?_) fun h=> ?_))
 ·have h:[95].isPrefixOf s=true:=h
  obtain⟨r,rfl⟩ : ∃ r,s=95::r:=by
   cases s with
   | nil=>simp at h
   | cons c r=>
    have:95=c:=by simpa using h
    exact⟨r,by rw[this]⟩
  have e1:List.drop (Int.toNat 1) (List.take (List.length (95::r)) (95::r))=r:=by rw[List.take_of_length_le (Nat.le_refl _)];rfl
  simp only[e1]
  refine⟨by simp,Ze (⟨r⟩,()) rfl (by simp at hl ⊢;omega),Zd (⟨r⟩,()) rfl ⟨by show(A9 (enc (Yy ⟨r⟩).2)&&true)=true;rw[c2w];rfl,?_⟩⟩
  show if UF (enc (Yy ⟨r⟩).2)=true then(if decide ((Yy ⟨r⟩).1>0)=true then(if _ then _ else Zj (ZB ⟨95::r⟩) _)else Zj (ZB ⟨95::r⟩) _)else Zj (ZB ⟨95::r⟩) _
  rw[Lb]
  by_cases h9:r.length<=9
  ·rw[<- a0w r h9,decide_eq_true h9,Bool.and_true]
   refine Wx (fun h1=>Wx (fun h2=>ZU (by simp;omega) ⟨Ze ((Yy ⟨r⟩).1,()) rfl (by have:=BB ⟨r⟩;simp;omega),Zd ((Yy ⟨r⟩).1,()) rfl ⟨by simp,ZM ?_⟩⟩) fun h2=>ZM ?_) fun h1=>ZM ?_
   ·rw[h1,h2];simp only[Bool.true_and,Bool.and_true];rfl
   ·rw[h2];simp
   ·rw[h1];simp
  ·rw[decide_eq_false h9,Bool.and_false]
   refine Wx (fun h1=>Wx (fun h2=>ZN (by simp;omega) (ZM rfl)) fun h2=>ZM rfl) fun h1=>ZM rfl
 ·have h:[95].isPrefixOf s=false:=h
  show At XH 0 (Za Xd (Zj (ZB ⟨s⟩))) Xg 0 67 _ _
  rw[Ti h]
  exact N9 s hl s.length 0 (by omega)
end Go.Pl

namespace Go.Pl
open Go.RowKit
open Enc (enc dec is)
open EncL (encL decL isL)
set_option maxRecDepth 100000
def Pz:IC:=(.reg [⟨(some 7),(.faddr 0 (.t 1)),0,none⟩,⟨(some 8),(.load false [(.sl 1)] (.t 7)),0,none⟩,⟨(some 9),(.len 1 (.t 8)),0,none⟩,⟨(some 10),(.mksl 3 1 8 (.int .i64 0) (.t 9) (.t 9)),0,none⟩,⟨(some 4),(.mv (.t 10)),1,none⟩] none)
def Ew:List IRes:=[]
def a2s:ZK:=Xp [(48,.own QQ Jc)]
theorem c5b{G:AV×List AObj×List AObj->Prop}(E:YA)(l:Nat)(b:BoxT)(fs:List Fact)(h:(decide (0<=(↑(List.length (PV.asXs (List.getD (List.drop 0 [enc b.v,PV.int .i64 b.m]) 0 default))):Int))&&(↑(List.length (PV.asXs (List.getD (List.drop 0 [enc b.v,PV.int .i64 b.m]) 0 default))):Int)==(↑(List.length (PV.asXs (List.getD (List.drop 0 [enc b.v,PV.int .i64 b.m]) 0 default))):Int)&&decide ((↑(List.length (PV.asXs (List.getD (List.drop 0 [enc b.v,PV.int .i64 b.m]) 0 default))):Int)*(↑8:Int)<=1099511627776)&&decide ((↑(List.length (PV.asXs (List.getD (List.drop 0 [enc b.v,PV.int .i64 b.m]) 0 default))):Int)<=1099511627776))=true∧(E 99 ⟨ZX 52 0 [(0,(.yld l)),(1,(.pv (.rptr [(.sl 1 false (List.map enc b.v)),(.int .i64 b.m)]))),(2,(.pv (.rptr [(.sl 3 false (List.map enc fs))]))),(4,(.row 0 (Int.toNat (↑(List.length (PV.asXs (List.getD (List.drop 0 [enc b.v,PV.int .i64 b.m]) 0 default))):Int)) 0 (Int.toNat (↑(List.length (PV.asXs (List.getD (List.drop 0 [enc b.v,PV.int .i64 b.m]) 0 default))):Int))))],[(.obj (.row false 3 1 (List.replicate (Int.toNat (↑(List.length (PV.asXs (List.getD (List.drop 0 [enc b.v,PV.int .i64 b.m]) 0 default))):Int)) (PV.int .i64 0))))]⟩ (fun x S'=>Jj a2s E 0 (Zl 0 Ew G) Pz 99 x S'))):ZI a2s E 0 (Zl 0 Ew G) (.inl Pz) [.seq (.ext 99 [0,1,2,4])] ⟨ZX 52 0 [(0,.yld l),(1,(.pv (.rptr [enc b.v,.int .i64 b.m]))),(2,(.pv (.rptr [enc fs])))],[]⟩:=ZI.mo (.lit (.req (.nil))) h (by kernel_rfl)
def PE:IC:=(.reg [⟨(some 11),(.load true [(.sl 1),(.int .i64)] (.t 1)),0,none⟩,⟨(some 12),(.mv (.t 4)),0,none⟩,⟨(some 13),(.call (.c (.fn 48)) [(.t 11),(.t 12)]),0,none⟩,⟨(some 5),(.mv (.t 13)),2,none⟩] none)
def OV:List IRes:=[]
def b6j:ZK:=Xp [(48,.own QQ Jc)]
theorem c7k{G:AV×List AObj×List AObj->Prop}(E:YA)(l:Nat)(b:BoxT)(fs:List Fact)(n:Nat)(p:List Int)(h:(QQ [(.pv (.agg [(.sl 1 false (PV.asXs (List.getD [enc b.v,PV.int .i64 b.m] 0 default))),(.int .i64 (PV.asInt (List.getD [enc b.v,PV.int .i64 b.m] (0+1) default)))])),(.row 0 n 0 n)] [(.row false 3 1 (List.map enc p))])=true∧(E 99 ⟨ZX 52 0 [(0,(.yld l)),(1,(.pv (.rptr [(.sl 1 false (List.map enc b.v)),(.int .i64 b.m)]))),(2,(.pv (.rptr [(.sl 3 false (List.map enc fs))]))),(4,(.row 0 n 0 n)),(5,(.pv (.sl 2 false (List.map enc (Zi (dec (Sh.co (Sh.sl 1) (List.getD [enc b.v,PV.int .i64 b.m] 0 default))) (b6f (List.map enc p)))))))],[(.obj (.row false 3 1 (List.map enc p)))]⟩ (fun x S'=>Jj b6j E 1 (Zl 1 OV G) PE 99 x S'))):ZI b6j E 1 (Zl 1 OV G) (.inl PE) [.seq (.ext 99 [0,1,2,4,5])] ⟨ZX 52 0 [(0,.yld l),(1,(.pv (.rptr [enc b.v,.int .i64 b.m]))),(2,(.pv (.rptr [enc fs]))),(4,.row 0 n 0 n)],[.obj (.row false 3 1 (p.map enc))]⟩:=ZI.mo (.lit (.req (.keep (.nil)))) h (by kernel_rfl)
def Qa:IC:=(.seq (.reg [⟨(some 25),(.mv (.t 4)),0,none⟩,⟨(some 26),(.len 1 (.t 25)),0,none⟩,⟨(some 27),(.bin .num .sub (.t 26) (.c (.int .i64 1))),0,none⟩,⟨(some 6),(.mv (.t 27)),0,none⟩] none) (.seq (.block 2 (.loop [6,4,1,2,0] (.seq (.seq (.reg [⟨(some 28),(.mv (.t 6)),0,none⟩,⟨(some 29),(.bin .num .geq (.t 28) (.c (.int .i64 0))),0,none⟩,⟨(some 30),(.mv (.t 29)),0,none⟩,⟨(some 31),(.mv (.t 4)),0,(some (30,true))⟩,⟨(some 32),(.mv (.t 6)),0,(some (30,true))⟩,⟨(some 33),(.iaddr 1 (.t 31) (.t 32)),0,(some (30,true))⟩,⟨(some 34),(.load false [(.int .i64)] (.t 33)),0,(some (30,true))⟩,⟨(some 35),(.faddr 1 (.t 1)),0,(some (30,true))⟩,⟨(some 36),(.load false [(.int .i64)] (.t 35)),0,(some (30,true))⟩,⟨(some 37),(.bin .num .eql (.t 34) (.t 36)),0,(some (30,true))⟩,⟨(some 38),(.pick (.t 30) (.t 37) (.c (.bool false))),0,none⟩] (some [[],[0],[1,0],[2,1,0],[2,1,0],[3,4,2,1,0],[5,2,3,4,1,0],[2,1,0],[7,2,1,0],[6,8,2,5,3,4,1,0,7],[2,9,1,0,6,8,5,3,4,7]])) (.cond (.t 38) .skip (.exit 2))) (.block 3 (.seq (.reg [⟨(some 39),(.mv (.t 4)),0,none⟩,⟨(some 40),(.mv (.t 6)),0,none⟩,⟨(some 41),(.iaddr 1 (.t 39) (.t 40)),0,none⟩,⟨none,(.store 1 (.t 41) (.c (.int .i64 0))),0,none⟩] none) (.reg [⟨(some 42),(.mv (.t 6)),0,none⟩,⟨(some 43),(.bin .num .sub (.t 42) (.c (.int .i64 1))),0,none⟩,⟨(some 6),(.mv (.t 43)),0,none⟩] none)))))) (.seq (.seq (.reg [⟨(some 44),(.mv (.t 6)),0,none⟩,⟨(some 45),(.bin .num .lss (.t 44) (.c (.int .i64 0))),0,none⟩] none) (.cond (.t 45) .ret .skip)) (.reg [⟨(some 46),(.mv (.t 4)),0,none⟩,⟨(some 47),(.mv (.t 6)),0,none⟩,⟨(some 48),(.iaddr 1 (.t 46) (.t 47)),0,none⟩,⟨(some 49),(.load false [(.int .i64)] (.t 48)),0,none⟩,⟨(some 50),(.bin .num .add (.t 49) (.c (.int .i64 1))),0,none⟩,⟨(some 51),(.iaddr 1 (.t 46) (.t 47)),0,none⟩,⟨none,(.store 1 (.t 51) (.t 50)),0,none⟩] none))))
def Kq:List IRes:=[]
def DX:ZK:=Xp [(48,.own QQ Jc)]
theorem b4n{G:AV×List AObj×List AObj->Prop}(E:YA)(l:Nat)(b:BoxT)(fs:List Fact)(n:Nat)(p:List Int)(k:Int)(h:if (decide (k ≥ 0))=true then(decide (0<=k)&&decide (0+Int.toNat k<n)&&List.length (List.map enc p)==n)=true∧((List.length (List.map enc p)==n&&decide (0+Int.toNat k<List.length (List.map enc p)))=true∧((decide (0+List.length [Sh.int .i64]<=List.length (PV.cells (List.getD (List.map enc p) (0+Int.toNat k) default)))&&XW (PV.cells (List.getD (List.map enc p) (0+Int.toNat k) default)) 0 [Sh.int .i64])=true∧(if (PV.asInt (List.getD (PV.cells (List.getD (List.map enc p) (0+Int.toNat k) default)) 0 default)==PV.asInt (List.getD (List.drop 1 [enc b.v,PV.int .i64 b.m]) 0 default))=true then(decide (0<=k)&&decide (0+Int.toNat k<n)&&List.length (List.map enc p)==n)=true∧((List.length (List.map enc p)==n&&decide (0+Int.toNat k<List.length (List.map enc p))&&List.length (PV.cells (PV.int .i64 0))==1&&decide (0+1<=List.length (PV.cells (List.getD (List.map enc p) (0+Int.toNat k) default)))&&PV.cellsOk (PV.int .i64 0))=true∧(AtS [.seq (.ext 99 [0,1,2,4])] DX E 1 (Zl 1 Kq G) Qa 0 52 [(0,(.yld l)),(1,(.pv (.rptr [(.sl 1 false (List.map enc b.v)),(.int .i64 b.m)]))),(2,(.pv (.rptr [(.sl 3 false (List.map enc fs))]))),(4,(.row 0 n 0 n)),(6,(.pv (.int .i64 (IntKind.wrap IntKind.i64 (k - 1)))))] [(.obj (.row false 3 1 (List.set (List.map enc p) (0+Int.toNat k) (PV.withCells (List.getD (List.map enc p) (0+Int.toNat k) default) (splice (PV.cells (List.getD (List.map enc p) (0+Int.toNat k) default)) 0 (PV.cells (PV.int .i64 0)))))))]))else(if (decide (k<0))=true then G (((.tup []),([(.row false 3 1 (List.map enc p))],[])))else((decide (0<=k)&&decide (0+Int.toNat k<n)&&List.length (List.map enc p)==n)=true∧((List.length (List.map enc p)==n&&decide (0+Int.toNat k<List.length (List.map enc p)))=true∧((decide (0+List.length [Sh.int .i64]<=List.length (PV.cells (List.getD (List.map enc p) (0+Int.toNat k) default)))&&XW (PV.cells (List.getD (List.map enc p) (0+Int.toNat k) default)) 0 [Sh.int .i64])=true∧((decide (0<=k)&&decide (0+Int.toNat k<n)&&List.length (List.map enc p)==n)=true∧((List.length (List.map enc p)==n&&decide (0+Int.toNat k<List.length (List.map enc p))&&List.length (PV.cells (PV.int .i64 (IntKind.wrap IntKind.i64 (PV.asInt (List.getD (PV.cells (List.getD (List.map enc p) (0+Int.toNat k) default)) 0 default)+1))))==1&&decide (0+1<=List.length (PV.cells (List.getD (List.map enc p) (0+Int.toNat k) default)))&&PV.cellsOk (PV.int .i64 (IntKind.wrap IntKind.i64 (PV.asInt (List.getD (PV.cells (List.getD (List.map enc p) (0+Int.toNat k) default)) 0 default)+1))))=true∧(E 99 ⟨ZX 52 0 [(0,(.yld l)),(1,(.pv (.rptr [(.sl 1 false (List.map enc b.v)),(.int .i64 b.m)]))),(2,(.pv (.rptr [(.sl 3 false (List.map enc fs))]))),(4,(.row 0 n 0 n))],[(.obj (.row false 3 1 (List.set (List.map enc p) (0+Int.toNat k) (PV.withCells (List.getD (List.map enc p) (0+Int.toNat k) default) (splice (PV.cells (List.getD (List.map enc p) (0+Int.toNat k) default)) 0 (PV.cells (PV.int .i64 (IntKind.wrap IntKind.i64 (PV.asInt (List.getD (PV.cells (List.getD (List.map enc p) (0+Int.toNat k) default)) 0 default)+1)))))))))]⟩ (fun x S'=>Jj DX E 1 (Zl 1 Kq G) Qa 99 x S')))))))))))else(if (decide (k<0))=true then G (((.tup []),([(.row false 3 1 (List.map enc p))],[])))else((decide (0<=k)&&decide (0+Int.toNat k<n)&&List.length (List.map enc p)==n)=true∧((List.length (List.map enc p)==n&&decide (0+Int.toNat k<List.length (List.map enc p)))=true∧((decide (0+List.length [Sh.int .i64]<=List.length (PV.cells (List.getD (List.map enc p) (0+Int.toNat k) default)))&&XW (PV.cells (List.getD (List.map enc p) (0+Int.toNat k) default)) 0 [Sh.int .i64])=true∧((decide (0<=k)&&decide (0+Int.toNat k<n)&&List.length (List.map enc p)==n)=true∧((List.length (List.map enc p)==n&&decide (0+Int.toNat k<List.length (List.map enc p))&&List.length (PV.cells (PV.int .i64 (IntKind.wrap IntKind.i64 (PV.asInt (List.getD (PV.cells (List.getD (List.map enc p) (0+Int.toNat k) default)) 0 default)+1))))==1&&decide (0+1<=List.length (PV.cells (List.getD (List.map enc p) (0+Int.toNat k) default)))&&PV.cellsOk (PV.int .i64 (IntKind.wrap IntKind.i64 (PV.asInt (List.getD (PV.cells (List.getD (List.map enc p) (0+Int.toNat k) default)) 0 default)+1))))=true∧(E 99 ⟨ZX 52 0 [(0,(.yld l)),(1,(.pv (.rptr [(.sl 1 false (List.map enc b.v)),(.int .i64 b.m)]))),(2,(.pv (.rptr [(.sl 3 false (List.map enc fs))]))),(4,(.row 0 n 0 n))],[(.obj (.row false 3 1 (List.set (List.map enc p) (0+Int.toNat k) (PV.withCells (List.getD (List.map enc p) (0+Int.toNat k) default) (splice (PV.cells (List.getD (List.map enc p) (0+Int.toNat k) default)) 0 (PV.cells (PV.int .i64 (IntKind.wrap IntKind.i64 (PV.asInt (List.getD (PV.cells (List.getD (List.map enc p) (0+Int.toNat k) default)) 0 default)+1)))))))))]⟩ (fun x S'=>Jj DX E 1 (Zl 1 Kq G) Qa 99 x S'))))))))):AtS [.seq (.ext 99 [0,1,2,4])] DX E 1 (Zl 1 Kq G) Qa 0 52 [(0,.yld l),(1,(.pv (.rptr [enc b.v,.int .i64 b.m]))),(2,(.pv (.rptr [enc fs]))),(4,.row 0 n 0 n),(6,.pv (.int .i64 k))] [.obj (.row false 3 1 (p.map enc))]:=ZI.mo (.lit (.ask (.lit (.lit (.req (.keep (.lit (.req (.req (.lit (.lit (.lit (.lit (.lit (.lit (.ask (.req (.keep (.req (.lit (.nil))))) (.lit (.ask (.nil) (.req (.keep (.req (.req (.lit (.req (.keep (.req (.nil))))))))))))))))))))))))) (.lit (.lit (.lit (.lit (.lit (.lit (.lit (.lit (.lit (.ask (.nil) (.req (.keep (.req (.req (.lit (.req (.keep (.req (.nil))))))))))))))))))))) h (by kernel_rfl)
theorem c5z{G:AV×List AObj×List AObj->Prop}(E:YA)(l:Nat)(b:BoxT)(fs:List Fact)(n:Nat)(p:List Int)(h:AtS [.seq (.ext 99 [0,1,2,4])] DX E 1 (Zl 1 Kq G) Qa 0 52 [(0,(.yld l)),(1,(.pv (.rptr [(.sl 1 false (List.map enc b.v)),(.int .i64 b.m)]))),(2,(.pv (.rptr [(.sl 3 false (List.map enc fs))]))),(4,(.row 0 n 0 n)),(6,(.pv (.int .i64 (IntKind.wrap IntKind.i64 ((↑(n - 0):Int) - 1)))))] [(.obj (.row false 3 1 (List.map enc p)))]):ZI DX E 1 (Zl 1 Kq G) (.inl Qa) [.seq (.ext 99 [0,1,2,4])] ⟨ZX 52 0 [(0,.yld l),(1,(.pv (.rptr [enc b.v,.int .i64 b.m]))),(2,(.pv (.rptr [enc fs]))),(4,.row 0 n 0 n)],[.obj (.row false 3 1 (p.map enc))]⟩:=ZI.mo (.lit (.nil)) h (by kernel_rfl)
def Wh:IC:=(.seq (.reg [⟨(some 2),(.box 2 (.t 0)),0,none⟩,⟨(some 4),(.mv (.c (.sl 0 true []))),1,none⟩] none) (.seq (.reg [⟨(some 5),(.mv (.c (.sl 0 true []))),0,none⟩] none) (.seq (.seq (.reg [⟨(some 7),(.mv (.t 1)),0,none⟩,⟨(some 8),(.len 1 (.t 7)),0,none⟩,⟨(some 9),(.faddr 0 (.t 2)),0,none⟩,⟨(some 10),(.load false [(.sl 1)] (.t 9)),0,none⟩,⟨(some 11),(.len 1 (.t 10)),0,none⟩,⟨(some 12),(.mm false (.t 8) (.t 11)),0,none⟩,⟨(some 13),(.mv (.c (.int .i64 0))),0,none⟩] none) (.block 0 (.loop [13,12,5,2,1] (.seq (.reg [⟨(some 14),(.bin .num .lss (.t 13) (.t 12)),0,none⟩] none) (.seq (.cond (.t 14) .skip (.exit 0)) (.seq (.block 1 (.seq (.reg [⟨(some 15),(.mv (.t 13)),0,none⟩,⟨(some 6),(.mv (.t 15)),0,none⟩] none) (.reg [⟨(some 16),(.mv (.t 5)),0,none⟩,⟨(some 17),(.faddr 0 (.t 2)),0,none⟩,⟨(some 18),(.load false [(.sl 1)] (.t 17)),0,none⟩,⟨(some 19),(.mv (.t 6)),0,none⟩,⟨(some 20),(.iaddr 1 (.t 18) (.t 19)),0,none⟩,⟨(some 21),(.load false [.str] (.t 20)),0,none⟩,⟨(some 22),(.mv (.t 1)),0,none⟩,⟨(some 23),(.mv (.t 6)),0,none⟩,⟨(some 24),(.iaddr 1 (.t 22) (.t 23)),0,none⟩,⟨(some 25),(.load false [(.int .i64)] (.t 24)),0,none⟩,⟨(some 26),(.build [(.str []),(.int .i64 0)] [(0,(1,(.t 21))),(1,(1,(.t 25)))]),0,none⟩,⟨(some 27),(.bslice 63 2 1 (.agg [(.str []),(.int .i64 0)]) [(0,(.t 26))]),0,none⟩,⟨(some 28),(.append 63 2 24 (.t 16) (.t 27)),1,none⟩,⟨(some 5),(.mv (.t 28)),2,none⟩] (some [[],[],[1],[],[2,3,1],[4,2,3,1],[],[],[6,7],[8,6,7],[5,9,4,2,3,1,8,6,7],[10,5,9,4,2,3,1,8,6,7],[0,11,10,5,9,4,2,3,1,8,6,7],[12,0,1,2,3,4,5,6,7,8,9,10,11]])))) (.reg [⟨(some 29),(.bin .num .add (.t 13) (.c (.int .i64 1))),0,none⟩,⟨(some 13),(.mv (.t 29)),0,none⟩] none))))))) (.seq (.reg [⟨(some 30),(.mv (.t 5)),0,none⟩,⟨(some 4),(.mv (.t 30)),0,none⟩] none) .ret))))
def Wp:List IRes:=[(.tmp 4)]
abbrev a4l:Nat:=31
def Vi:ZK:=Xp []
theorem b5r{G:AV×List AObj×List AObj->Prop}(b:BoxT)(m:Nat)(p:List Int)(h:At Vi 1 (U0 1 Wp G) Wh 0 31 [(1,(.row 0 m 0 m)),(2,(.ptr 1 0)),(5,(.pv (.sl 0 true []))),(12,(.pv (.int .i64 (if false=true then if (↑(List.length (List.map enc b.v)):Int)>(↑(m - 0):Int)then(↑(List.length (List.map enc b.v)):Int)else(↑(m - 0):Int)else if (↑(List.length (List.map enc b.v)):Int)<(↑(m - 0):Int)then(↑(List.length (List.map enc b.v)):Int)else(↑(m - 0):Int))))),(13,(.pv (.int .i64 0)))] [(.obj (.row false 3 1 (List.map enc p))),(.obj (.box [(.pv (.sl 1 false (List.map enc b.v))),(.pv (.int .i64 b.m))]))]):Zc Vi 1 (U0 1 Wp G) Wh [] (YR 31 [.pv (enc b),.row 0 m 0 m] [.row false 3 1 (p.map enc)]):=Zc.tf (.nil) h (by kernel_rfl)
theorem A8{G:AV×List AObj×List AObj->Prop}(b:BoxT)(m:Nat)(p:List Int)(n i:Int)(h:if (decide (i<n))=true then(decide (0<=i)&&decide (Int.toNat i<List.length (List.map enc b.v))&&Enc.sz Str==1)=true∧(∃ y0:Str,AV.pv (PV.rptr (PV.cells (List.getD (List.map enc b.v) (Int.toNat i) default)))=AV.pv (PV.rptr (PV.cells ((enc) y0)))∧((decide (0<=i)&&decide (0+Int.toNat i<m)&&List.length (List.map enc p)==m)=true∧((List.length (List.map enc p)==m&&decide (0+Int.toNat i<List.length (List.map enc p)))=true∧((decide (0+List.length [Sh.int .i64]<=List.length (PV.cells (List.getD (List.map enc p) (0+Int.toNat i) default)))&&XW (PV.cells (List.getD (List.map enc p) (0+Int.toNat i) default)) 0 [Sh.int .i64])=true∧(At Vi 1 (U0 1 Wp G) Wh 0 31 [(1,(.row 0 m 0 m)),(2,(.ptr 1 0)),(5,(.row 2 1 0 1)),(12,(.pv (.int .i64 n))),(13,(.pv (.int .i64 (IntKind.wrap IntKind.i64 (i+1)))))] [(.obj (.row false 3 1 (List.map enc p))),(.obj (.box [(.pv (.sl 1 false (List.map enc b.v))),(.pv (.int .i64 b.m))])),(.obj (.row false 63 2 [(.agg [(.str (PV.asStr (List.getD (PV.cells (enc y0)) 0 default))),(.int .i64 (PV.asInt (List.getD (PV.cells (List.getD (List.map enc p) (0+Int.toNat i) default)) 0 default)))])]))])))))else(G (((.pv (.sl 0 true [])),([(.row false 3 1 (List.map enc p))],[]))))):At Vi 1 (U0 1 Wp G) Wh 0 31 [(1,.row 0 m 0 m),(2,.ptr 1 0),(5,.pv (.sl 0 true [])),(12,.pv (.int .i64 n)),(13,.pv (.int .i64 i))] [.obj (.row false 3 1 (p.map enc)),.obj (.box [.pv (enc b.v),.pv (.int .i64 b.m)])]:=At.tf (.lit (.ask (.req (.abs (Str) (fun YY=>AV.pv (PV.rptr (PV.cells ((enc) YY)))) (.lit (.req (.keep (.req (.req (.lit (.lit (.lit (.lit (.lit (.lit (.nil)))))))))))))) (.nil))) h (by kernel_rfl)
theorem Ae{G:AV×List AObj×List AObj->Prop}(b:BoxT)(m:Nat)(p:List Int)(n i:Int)(q:Nat)(vs:List Coef)(h:if (decide (i<n))=true then(decide (0<=i)&&decide (Int.toNat i<List.length (List.map enc b.v))&&Enc.sz Str==1)=true∧(∃ y0:Str,AV.pv (PV.rptr (PV.cells (List.getD (List.map enc b.v) (Int.toNat i) default)))=AV.pv (PV.rptr (PV.cells ((enc) y0)))∧((decide (0<=i)&&decide (0+Int.toNat i<m)&&List.length (List.map enc p)==m)=true∧((List.length (List.map enc p)==m&&decide (0+Int.toNat i<List.length (List.map enc p)))=true∧((decide (0+List.length [Sh.int .i64]<=List.length (PV.cells (List.getD (List.map enc p) (0+Int.toNat i) default)))&&XW (PV.cells (List.getD (List.map enc p) (0+Int.toNat i) default)) 0 [Sh.int .i64])=true∧((List.length (List.map enc vs)==q&&q==q&&decide ((q+List.length (List.drop 0 (List.take 1 [PV.agg [Sh.co Sh.str (List.getD (PV.cells (enc y0)) 0 default),Sh.co (Sh.int .i64) (List.getD (PV.cells (List.getD (List.map enc p) (0+Int.toNat i) default)) 0 default)]])))*24<=1099511627776)&&decide (q+List.length (List.drop 0 (List.take 1 [PV.agg [Sh.co Sh.str (List.getD (PV.cells (enc y0)) 0 default),Sh.co (Sh.int .i64) (List.getD (PV.cells (List.getD (List.map enc p) (0+Int.toNat i) default)) 0 default)]]))<=1099511627776))=true∧(At Vi 1 (U0 1 Wp G) Wh 0 31 [(1,(.row 0 m 0 m)),(2,(.ptr 1 0)),(5,(.row 2 (q+List.length (List.drop 0 (List.take 1 [PV.agg [Sh.co Sh.str (List.getD (PV.cells (enc y0)) 0 default),Sh.co (Sh.int .i64) (List.getD (PV.cells (List.getD (List.map enc p) (0+Int.toNat i) default)) 0 default)]]))) 0 (q+List.length (List.drop 0 (List.take 1 [PV.agg [Sh.co Sh.str (List.getD (PV.cells (enc y0)) 0 default),Sh.co (Sh.int .i64) (List.getD (PV.cells (List.getD (List.map enc p) (0+Int.toNat i) default)) 0 default)]]))))),(12,(.pv (.int .i64 n))),(13,(.pv (.int .i64 (IntKind.wrap IntKind.i64 (i+1)))))] [(.obj (.row false 3 1 (List.map enc p))),(.obj (.box [(.pv (.sl 1 false (List.map enc b.v))),(.pv (.int .i64 b.m))])),(.obj (.row false 63 2 (List.map enc vs++List.drop 0 (List.take 1 [PV.agg [Sh.co Sh.str (List.getD (PV.cells (enc y0)) 0 default),Sh.co (Sh.int .i64) (List.getD (PV.cells (List.getD (List.map enc p) (0+Int.toNat i) default)) 0 default)]]))))]))))))else((List.length (List.map enc vs)==q)=true∧(G (((.pv (.sl 2 false (List.drop 0 (List.take q (List.map enc vs))))),([(.row false 3 1 (List.map enc p))],[])))))):At Vi 1 (U0 1 Wp G) Wh 0 31 [(1,.row 0 m 0 m),(2,.ptr 1 0),(5,.row 2 q 0 q),(12,.pv (.int .i64 n)),(13,.pv (.int .i64 i))] [.obj (.row false 3 1 (p.map enc)),.obj (.box [.pv (enc b.v),.pv (.int .i64 b.m)]),.obj (.row false 63 2 (vs.map enc))]:=At.tf (.lit (.ask (.req (.abs (Str) (fun YY=>AV.pv (PV.rptr (PV.cells ((enc) YY)))) (.lit (.req (.keep (.req (.req (.lit (.lit (.req (.lit (.nil)))))))))))) (.req (.nil)))) h (by kernel_rfl)
end Go.Pl

