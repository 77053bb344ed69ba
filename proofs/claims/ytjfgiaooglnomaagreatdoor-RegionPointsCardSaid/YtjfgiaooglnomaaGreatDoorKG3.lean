/-
  Texts of mine that belong together (packed by pack.py), for every input: TyL, TyM, TyN, TyT, TyO, TyS, GLb, GLa, QLa, QLb, GLc, QLc, GLd, QLd, TyU, QLh, QLm, GLe, QLe, GLg, QLg, QLf, GLi, GL1, QL1, QL2, QLi, QLj, QL3, QL4, GL5, QL5, GL7, QL7, TyR, GLr, QRp, QRq, TyRa, GRa, QGa, GRb, TyP, GLo, QLq, QGb, QGc.
-/
import Derived.Test.YtjfgiaooglnomaaGreatDoorKG2
import Derived.KernelRfl
import Derived.Lib.AtoiAllMem
import Derived.Lib.AtoiAllCases
import Derived.Lib.ItoaNum
set_option linter.unusedVariables false
set_option linter.unusedSimpArgs false
namespace Go.Pl
open Go.RowKit
open Enc (enc dec is)
open EncL (encL decL isL)
structure Coef where
 v:Str
 c:Int
 deriving DecidableEq
instance:Enc Coef where
 sz:=2
 enc x:=.agg [enc x.v,enc x.c]
 dec | .agg [a,b]=>⟨dec a,dec b⟩|_=>⟨⟨[]⟩,0⟩
 is | .agg [a,b]=>is Str a&&is Int b|_=>false
 is_enc v:=by simp
 dec_enc v:=by simp
 sub p h:=by
  cases p with
  | agg xs=>
   match xs,h with
   | [a,b],h=>
    simp only[Bool.and_eq_true]at h
    exact .agg (.cons (Enc.sub a h.1).2 (.cons (Enc.sub b h.2).2 .nil))
  | _=>cases h
structure Lin where
 k:Int
 t:List Coef
 deriving DecidableEq
instance:Enc Lin where
 sz:=2
 enc x:=.agg [enc x.k,enc x.t]
 dec | .agg [a,b]=>⟨dec a,dec b⟩|_=>⟨0,[]⟩
 is | .agg [a,b]=>is Int a&&is (List Coef) b|_=>false
 is_enc v:=by simp
 dec_enc v:=by simp
 sub p h:=by
  cases p with
  | agg xs=>
   match xs,h with
   | [a,b],h=>
    simp only[Bool.and_eq_true]at h
    exact .agg (.cons (Enc.sub a h.1).2 (.cons (Enc.sub b h.2).2 .nil))
  | _=>cases h
@[simp] theorem d0f (a b : PV) : is Coef (.agg [a, b]) = (is Str a && is Int b) := rfl
@[simp] theorem c9u (a b : PV) : (dec (.agg [a, b]) : Coef) = ⟨dec a, dec b⟩ := rfl
@[simp] theorem d1k (a b : PV) : is Lin (.agg [a, b]) = (is Int a && is (List Coef) b) := rfl
@[simp] theorem d0h (a b : PV) : (dec (.agg [a, b]) : Lin) = ⟨dec a, dec b⟩ := rfl
def Wm(c:UInt8):Bool:=decide (48<=c)&&decide (c<=57)
def WM(c:UInt8):Bool:=decide (97<=c)&&decide (c<=122)
def ZE(s:Str):Bool:=match s.s with
 | []=>false
 | c::r=>if c=95 then r.all Wm&& !r.isEmpty&&decide (r.head? ≠ some 48)&&decide (r.length<=9)else WM c&&r.all (fun c=>WM c||Wm c)&&decide (r.length<=29)
def YE(n:Int):Bool:=decide (-1000000<=n)&&decide (n<=1000000)
def Tg:List Coef->Bool
 | a::b::l=>decide (a.v.s<b.v.s)&&Tg (b::l)
 | _=>true
def Zq(l:Lin):Bool:=l.t.all (fun t=>ZE t.v&&decide (t.c≠0)&&YE t.c)&&Tg l.t&&YE l.k&&decide (l.t.length<=12)
def atM(m:List (Str×Int))(s:List UInt8):Int:=((m.find? fun p=>p.1.s==s).map (·.2)).getD 0
end Go.Pl

namespace Go.Pl
open Go.RowKit
open Enc (enc dec is)
open EncL (encL decL isL)
structure Fact where
 eq:Bool
 l:Lin
 deriving DecidableEq
instance:Enc Fact where
 sz:=3
 enc x:=.agg [enc x.eq,enc x.l.k,enc x.l.t]
 dec | .agg [a,b,c]=>⟨dec a,⟨dec b,dec c⟩⟩|_=>⟨false,⟨0,[]⟩⟩
 is | .agg [a,b,c]=>is Bool a&&is Int b&&is (List Coef) c|_=>false
 is_enc v:=by simp
 dec_enc v:=by simp
 sub p h:=by
  cases p with
  | agg xs=>
   match xs,h with
   | [a,b,c],h=>
    simp only[Bool.and_eq_true]at h
    exact .agg (.cons (Enc.sub a h.1.1).2 (.cons (Enc.sub b h.1.2).2 (.cons (Enc.sub c h.2).2 .nil)))
  | _=>cases h
@[simp] theorem d0g (a b c : PV) : is Fact (.agg [a, b, c]) = (is Bool a && is Int b && is (List Coef) c) := rfl
@[simp] theorem c9w (a b c : PV) : (dec (.agg [a, b, c]) : Fact) = ⟨dec a, ⟨dec b, dec c⟩⟩ := rfl
structure Bnd where
 kind:Int
 v:Str
 dim:Lin
 row:Str
 dims:List Lin
 elem:Str
 deriving DecidableEq
instance:Enc Bnd where
 sz:=7
 enc x:=.agg [enc x.kind,enc x.v,enc x.dim.k,enc x.dim.t,enc x.row,enc x.dims,enc x.elem]
 dec | .agg [a,b,c,d,e,f,g]=>⟨dec a,dec b,⟨dec c,dec d⟩,dec e,dec f,dec g⟩|_=>⟨0,⟨[]⟩,⟨0,[]⟩,⟨[]⟩,[],⟨[]⟩⟩
 is | .agg [a,b,c,d,e,f,g]=>is Int a&&is Str b&&is Int c&&is (List Coef) d&&is Str e&&is (List Lin) f&&is Str g|_=>false
 is_enc v:=by simp
 dec_enc v:=by simp
 sub p h:=by
  cases p with
  | agg xs=>
   match xs,h with
   | [a,b,c,d,e,f,g],h=>
    simp only[Bool.and_eq_true]at h
    exact .agg (.cons (Enc.sub a h.1.1.1.1.1.1).2 (.cons (Enc.sub b h.1.1.1.1.1.2).2 (.cons (Enc.sub c h.1.1.1.1.2).2 (.cons (Enc.sub d h.1.1.1.2).2 (.cons (Enc.sub e h.1.1.2).2 (.cons (Enc.sub f h.1.2).2 (.cons (Enc.sub g h.2).2 .nil)))))))
  | _=>cases h
@[simp] theorem d0w (a b c d e f g : PV) : is Bnd (.agg [a, b, c, d, e, f, g]) = (is Int a && is Str b && is Int c && is (List Coef) d && is Str e && is (List Lin) f && is Str g) := rfl
@[simp] theorem d0o (a b c d e f g : PV) : (dec (.agg [a, b, c, d, e, f, g]) : Bnd) = ⟨dec a, dec b, ⟨dec c, dec d⟩, dec e, dec f, dec g⟩ := rfl
inductive Cert where
 | mk (kind:Int) (mults:List Int) (lin:Lin) (kids:List Cert)
mutual
def KJ:Cert->PV
 | .mk k m l ks=>.agg [enc k,enc m,enc l.k,enc l.t,.sl 5 false (Wd ks)]
def Wd:List Cert->List PV
 | []=>[]
 | c::cs=>KJ c::Wd cs
end
mutual
def GG:PV->Cert
 | .agg [a,b,c,d,.sl _ _ ks]=>.mk (dec a) (dec b) ⟨dec c,dec d⟩ (VD ks)
 | _=>.mk 0 [] ⟨0,[]⟩ []
def VD:List PV->List Cert
 | []=>[]
 | p::ps=>GG p::VD ps
end
mutual
def Qh:PV->Bool
 | .agg [a,b,c,d,.sl s _ ks]=>is Int a&&is (List Int) b&&is Int c&&is (List Coef) d&&(ks.isEmpty||s==5)&&QE ks
 | _=>false
def QE:List PV->Bool
 | []=>true
 | p::ps=>Qh p&&QE ps
end
theorem a0s(cs:List Cert):Wd cs=cs.map KJ:=by
 induction cs with
 | nil=>simp[Wd]
 | cons c cs ih=>simp[Wd,ih]
theorem OM(cs:List PV):VD cs=cs.map GG:=by
 induction cs with
 | nil=>simp[VD]
 | cons c cs ih=>simp[VD,ih]
theorem EY(cs:List PV):QE cs=cs.all Qh:=by
 induction cs with
 | nil=>simp[QE]
 | cons c cs ih=>simp[QE,ih]
mutual
theorem a1j: ∀ c:Cert,Qh (KJ c)=true
 | .mk k m l ks=>by
  have h:=LM ks
  simp only[KJ,Qh,Enc.is_enc,Bool.true_and,Bool.and_eq_true,h,and_true]
  simp
theorem LM: ∀ cs:List Cert,QE (Wd cs)=true
 | []=>by simp[Wd,QE]
 | c::cs=>by simp[Wd,QE,a1j c,LM cs]
end
mutual
theorem a3e: ∀ c:Cert,GG (KJ c)=c
 | .mk k m l ks=>by
  have h:=Lu ks
  simp only[KJ,GG,Enc.dec_enc,h]
theorem Lu: ∀ cs:List Cert,VD (Wd cs)=cs
 | []=>by simp[Wd,VD]
 | c::cs=>by simp[Wd,VD,a3e c,Lu cs]
end
mutual
theorem F3: ∀ p:PV,Qh p=true->Qv p (KJ (GG p))
 | .agg [a,b,c,d,.sl s t ks],h=>by
  simp only[Qh,Bool.and_eq_true]at h
  obtain⟨⟨⟨⟨⟨h1,h2⟩,h3⟩,h4⟩,h5⟩,h6⟩:=h
  have hk:=RH ks h6
  simp only[GG,KJ]
  refine .agg (.cons (Enc.sub a h1).2 (.cons (Enc.sub b h2).2 (.cons (Enc.sub c h3).2 (.cons (Enc.sub d h4).2 (.cons ?_ .nil)))))
  simp only[Bool.or_eq_true,List.isEmpty_iff,beq_iff_eq]at h5
  rcases h5 with rfl|rfl
  ·simp only[VD,Wd]
   exact(Qv.sl0 _ _ _).2
  ·exact(Qv.sl hk.1 hk.2).2
 | .bool _,h | .int _ _,h | .str _,h | .sl _ _ _,h | .tup _,h | .nilp,h | .nilmap,h | .nilfn,h | .nili,h | .ifc,h | .fn _,h | .rptr _,h=>by simp[Qh]at h
 | .agg [],h | .agg [_],h | .agg [_,_],h | .agg [_,_,_],h | .agg [_,_,_,_],h=>by simp[Qh]at h
 | .agg (a::b::c::d::e::f::g),h=>by
  have h':Qh (.agg (a::b::c::d::e::f::g))=false:=by cases e <;> kernel_rfl
  rw[h']at h;cases h
 | .agg [_,_,_,_,.bool _],h | .agg [_,_,_,_,.int _ _],h | .agg [_,_,_,_,.str _],h | .agg [_,_,_,_,.agg _],h | .agg [_,_,_,_,.tup _],h | .agg [_,_,_,_,.nilp],h | .agg [_,_,_,_,.nilmap],h | .agg [_,_,_,_,.nilfn],h | .agg [_,_,_,_,.nili],h | .agg [_,_,_,_,.ifc],h | .agg [_,_,_,_,.fn _],h | .agg [_,_,_,_,.rptr _],h=>by simp[Qh]at h
theorem RH: ∀ ps:List PV,QE ps=true->ps.length=(Wd (VD ps)).length∧ ∀ (j:Nat) x y,ps[j]? = some x->(Wd (VD ps))[j]? = some y->Qv x y
 | [],_=>⟨by simp[VD,Wd],fun j x y h=>by simp at h⟩
 | p::ps,h=>by
  simp only[QE,Bool.and_eq_true]at h
  have h1:=F3 p h.1
  have h2:=RH ps h.2
  refine⟨by simp[VD,Wd,<- h2.1],fun j x y hx hy=> ?_⟩
  simp only[VD,Wd]at hy
  cases j with
  | zero=>simp at hx hy;subst hx hy;exact h1
  | succ j=>exact h2.2 j x y (by simpa using hx) (by simpa using hy)
end
instance:Enc Cert where
 sz:=5
 enc:=KJ
 dec:=GG
 is:=Qh
 is_enc:=a1j
 dec_enc:=a3e
 sub:=F3
abbrev Cert.kind:Cert->Int | .mk k _ _ _=>k
abbrev Cert.mults:Cert->List Int | .mk _ m _ _=>m
abbrev Cert.lin:Cert->Lin | .mk _ _ l _=>l
abbrev Cert.kids:Cert->List Cert | .mk _ _ _ k=>k
theorem Uq(k:Int)(m:List Int)(l:Lin)(ks:List Cert):(enc (Cert.mk k m l ks):PV) = .agg [enc k,enc m,enc l.k,enc l.t,enc ks]:=by
 show KJ _=_
 rw[KJ,a0s]
 rfl
@[simp] theorem d0l (a b c d e : PV) : is Cert (.agg [a, b, c, d, e]) = (is Int a && is (List Int) b && is Int c && is (List Coef) d && is (List Cert) e) := by
 show Qh _=_
 cases e <;> simp only[Qh] <;> try (simp[is];done)
 rename_i s t ks
 rw[EY]
 show _=(_&&((ks.isEmpty||s==5)&&ks.all Qh))
 rw[Bool.and_assoc]
@[simp] theorem c9m (a b c d e : PV) (h : is (List Cert) e = true) : (dec (.agg [a, b, c, d, e]) : Cert) = .mk (dec a) (dec b) ⟨dec c, dec d⟩ (dec e) := by
 show GG _=_
 cases e <;> try (cases h;done)
 rw[GG,OM]
 rfl
end Go.Pl

namespace Go.Pl
open Enc (enc dec is)
structure Er where
 b:Bool
 deriving DecidableEq
instance:Enc Er where
 sz:=1
 enc x:=if x.b then .ifc else .nili
 dec | .ifc=>⟨true⟩|_=>⟨false⟩
 is | .ifc=>true | .nili=>true|_=>false
 is_enc v:=by obtain⟨b⟩:=v;cases b <;> rfl
 dec_enc v:=by obtain⟨b⟩:=v;cases b <;> rfl
 sub p h:=by cases p <;> first|exact .refl _|cases h
def Yw(s:Str):Int×Er:=match Lib.atoiAll s.s with
 | .ok v=>(v,⟨false⟩)
 | .range=>(Lib.atoiSat s.s,⟨true⟩)
 | _=>(0,⟨true⟩)
def MJ(n:Int):Str:=⟨Lib.itoa n⟩
def Gb(l:Lin)(n:Int):Bool:=l.t.all (fun t=>decide (t.v.s.length<=40))&&decide ((l.t.length:Int)<=n)
abbrev DJ(n:Int):Int:=IntKind.i64.wrap n
def XN(s:Str)(c:Int):Bool->List Coef->List Coef
 | put,[]=>if put then []else [⟨s,c⟩]
 | put,t::r=>(if !put&&decide (s.s<t.v.s)then [⟨s,c⟩]else [])++(if t.v=s then⟨t.v,DJ (t.c+c)⟩::XN s c true r else t::XN s c (put||decide (s.s<t.v.s)) r)
def Vm(l:Lin)(s:Str)(c:Int):Lin:=⟨l.k,(XN s c false l.t).filter fun t=>decide (t.c≠0)⟩
def Qm(v:List Coef)(s:Str):Option Int:=(v.find? fun t=>decide (t.v=s)).map (·.c)
def K6(v:List Coef):Int->List Coef->Int×Int
 | n,[]=>(n,0)
 | n,t::r=>match Qm v t.v with
  | none=>(0,7)
  | some x=>if x < -1000000000 then(0,2)else if x>1000000000 then(0,2)else K6 v (DJ (n+DJ (t.c*x))) r
def Yj(l:Lin)(v:List Coef):Int×Int:=if Zq l then K6 v l.k l.t else(0,1)
def Qc(n:Int):Bool:=decide (-4611686018427387904<=n)&&decide (n<=4611686018427387904)
mutual
def AJ:Cert->Int
 | .mk _ _ _ ks=>Dc 1 ks
def Dc(n:Int):List Cert->Int
 | []=>n
 | c::cs=>Dc (DJ (n+AJ c)) cs
end
def Yt(l:Lin):Bool:=decide (l.t.length<=9223372036854775807)
def Yi(l:Lin):Bool:=Yt l&&l.t.all fun t=>decide (t.v.s.length<=1000000)
mutual
def cOk:Cert->Bool
 | .mk _ m l ks=>decide (m.length<=9223372036854775807)&&Yt l&&decide (ks.length<=9223372036854775807)&&a7p ks
def a7p:List Cert->Bool
 | []=>true
 | c::cs=>cOk c&&a7p cs
end
mutual
def c6i:Cert->Nat
 | .mk _ _ _ ks=>MS ks+1
def MS:List Cert->Nat
 | []=>0
 | c::cs=>max (c6i c) (MS cs)
end
end Go.Pl

namespace Go.Pl
open Go.RowKit
open Enc (enc dec is)
open EncL (encL decL isL)
theorem Zx{α:Type}[Enc α]{l:List α}{i:Nat}(h:i<l.length){P:α->Prop}(k:P l[i]):
  ∃ y:α,AV.pv (PV.rptr (PV.cells (List.getD (List.map enc l) (Int.toNat (i:Int)) default)))=AV.pv (PV.rptr (PV.cells (enc y)))∧P y:=⟨l[i],by rw[FB enc h],k⟩
theorem Zt{α:Type}[Enc α]{l:List α}{i n:Nat}(h:i<l.length)(hn:Enc.sz α=n):(decide (0<=(i:Int))&&decide (Int.toNat (i:Int)<List.length (List.map (enc:α->PV) l))&&Enc.sz α==n)=true:=by simp[hn,h]
theorem YV{α:Type}[Enc α]{l:List α}{i:Nat}(h:i<l.length):decide ((i:Int)<(List.length (List.map (enc:α->PV) l):Int))=true:=by simp;omega
theorem Xk{α:Type}[Enc α]{l:List α}{i:Nat}(h : ¬ i<l.length): ¬ decide ((i:Int)<(List.length (List.map (enc:α->PV) l):Int))=true:=by simp;omega
theorem ZW{n i:Nat}(h:i<n):decide ((i:Int)<(n:Int))=true:=by simp;omega
theorem Z4{n i:Nat}(h : ¬ i<n): ¬ decide ((i:Int)<(n:Int))=true:=by simp;omega
theorem c3v{P Q:Prop}:(if (!false)=true then P else Q)=P:=rfl
theorem c8r{P Q:Prop}:(if (!true)=true then P else Q)=Q:=rfl
theorem ZC{c:Prop}[Decidable c]{P Q:Prop}(h:c)(k:P):if c then P else Q:=by rw[if_pos h];exact k
theorem ZK{c:Prop}[Decidable c]{P Q:Prop}(h : ¬ c)(k:Q):if c then P else Q:=by rw[if_neg h];exact k
theorem c9d{c:Prop}[Decidable c]{P Q:Prop}(h1:c->P)(h2 : ¬ c->Q):if c then P else Q:=by split;exact h1 ‹_›;exact h2 ‹_›
theorem X7{b:Bool}{P Q:Prop}(h1:b=false->P)(h2:b=true->Q):if (!b)=true then P else Q:=by cases b;exact h1 rfl;exact h2 rfl
theorem X3{b:Bool}{P Q:Prop}(h1:b=true->P)(h2:b=false->Q):if b=true then P else Q:=by cases b;exact h2 rfl;exact h1 rfl
theorem WJ{c:Prop}[Decidable c]{P Q:Prop}(h1:c->P)(h2 : ¬ c->Q):if decide c=true then P else Q:=by by_cases h:c;rw[if_pos (by simpa using h)];exact h1 h;rw[if_neg (by simpa using h)];exact h2 h
theorem Ka{α:Type}[BEq α][LawfulBEq α]{x y:α}{P Q:Prop}(h1:x=y->P)(h2:x≠y->Q):if (x==y)=true then P else Q:=by by_cases h:x=y;rw[if_pos (by simpa using h)];exact h1 h;rw[if_neg (by simpa using h)];exact h2 h
theorem ZQ{β:Type}[Enc β]{x y:β}(h:x=y):Zg y (enc x):=⟨Enc.is_enc x,by rw[Enc.dec_enc,h]⟩
theorem ZM{x y:Bool}(h:x=y):Zg y (.bool x):=⟨rfl,h⟩
theorem Uu{x y:Int}(h:x=y):Zg y (.int .i64 x):=⟨rfl,h⟩
section
variable (x:Coef) (f:Fact)
theorem co1:PV.asStr (List.getD (PV.cells (enc x)) 0 default)=x.v.s:=rfl
theorem co2:PV.asInt (List.getD (PV.cells (enc x)) (0+1) default)=x.c:=rfl
theorem co3:PV.asStr (List.getD (List.drop 0 (PV.cells (enc x))) 0 default)=x.v.s:=rfl
theorem co4:PV.asInt (List.getD (List.drop 1 (PV.cells (enc x))) 0 default)=x.c:=rfl
end
theorem c3f{c:UInt8}(n:Nat)(h:c≠UInt8.ofNat n)(hn:n<256): ¬ ((c.toNat:Int)==(n:Int))=true:=by
 intro e
 have e:(c.toNat:Int)=n:=by simpa using e
 have e:c.toNat=n:=by omega
 exact h (UInt8.toNat_inj.1 (by rw[e,UInt8.toNat_ofNat'];omega))
theorem YW: ∀ a b:List UInt8,Op.bytesLess a b=decide (a<b)
 | [],[]=>by simp[Op.bytesLess]
 | _::_,[]=>by simp[Op.bytesLess]
 | [],_::_=>by simp[Op.bytesLess]
 | x::a,y::b=>by
  rw[Op.bytesLess,YW a b]
  simp only[List.cons_lt_cons_iff]
  by_cases h1:x<y
  ·simp[h1]
  ·by_cases h2:x=y
   ·subst h2;simp
   ·simp[h1,h2]
theorem Zr.fuel{P:Program}{f:Nat}{α β:Type}[EncL α][Enc β]{pre:α->Bool}{F:α->β}(μ:α->Nat)(h : ∀ N,Zr P f (fun a=>pre a&&decide (μ a<N)) F):Zr P f pre F:=fun ps hps=>by
 refine h (μ (decL ps)+1) ps ?_
 simp only[preT,Bool.and_eq_true,decide_eq_true_eq]at hps ⊢
 exact⟨hps.1,hps.2,by omega⟩
theorem Zr.void{P:Program}{f:Nat}{α β:Type}[EncL α][Enc β]{pre:α->Bool}{F:α->β}(h : ∀ a,pre a=false):Zr P f pre F:=fun ps hps=>by simp[preT,h]at hps
theorem Zr.rec{P:Program}{f:Nat}{α β:Type}[EncL α][Enc β]{pre:α->Bool}{F:α->β}(μ:α->Nat)(h : ∀ N,Zr P f (fun a=>pre a&&decide (μ a<N)) F->Zr P f (fun a=>pre a&&decide (μ a<N+1)) F):Zr P f pre F:=by
 refine Zr.fuel μ fun N=> ?_
 induction N with
 | zero=>exact Zr.void fun a=>by simp
 | succ N ih=>exact h N ih
theorem Zr.or{P:Program}{f:Nat}{α β:Type}[EncL α][Enc β]{pre:α->Bool}{F:α->β}(c:α->Bool)(h1:Zr P f (fun a=>pre a&&c a) F)(h2:Zr P f (fun a=>pre a&& !c a) F):Zr P f pre F:=fun ps hps=>by
 have hps':=hps
 simp only[preT,Bool.and_eq_true]at hps'
 cases hc:c (decL ps)
 ·exact h2 ps (by simp only[preT,hps'.1,hps'.2,hc];rfl)
 ·exact h1 ps (by simp only[preT,hps'.1,hps'.2,hc];rfl)
mutual
def SN:PV->PV->Bool
 | .bool a,.bool b=>a==b
 | .int k a,.int l b=>JZ k l&&a==b
 | .str a,.str b=>a==b
 | .sl s t xs,.sl s' t' ys=>s==s'&&t==t'&&Cm xs ys
 | .agg xs,.agg ys=>Cm xs ys
 | .tup xs,.tup ys=>Cm xs ys
 | .nilp,.nilp=>true
 | .nilmap,.nilmap=>true
 | .nilfn,.nilfn=>true
 | .nili,.nili=>true
 | .ifc,.ifc=>true
 | .fn a,.fn b=>a==b
 | .rptr xs,.rptr ys=>Cm xs ys
 | _,_=>false
def Cm:List PV->List PV->Bool
 | [],[]=>true
 | x::xs,y::ys=>SN x y&&Cm xs ys
 | _,_=>false
end
theorem Lj(k:IntKind):JZ k k=true:=by cases k <;> rfl
mutual
theorem b7l: ∀ (p q:PV),SN p q=true->p=q
 | .bool a,q,h=>by cases q <;> simp[SN]at h;rw[h]
 | .int k a,q,h=>by cases q <;> simp[SN]at h;rw[Jd h.1,h.2]
 | .str a,q,h=>by cases q <;> simp[SN]at h;rw[h]
 | .sl s t xs,q,h=>by cases q <;> simp[SN]at h;rw[h.1.1,h.1.2,HV xs _ h.2]
 | .agg xs,q,h=>by cases q <;> simp[SN]at h;rw[HV xs _ h]
 | .tup xs,q,h=>by cases q <;> simp[SN]at h;rw[HV xs _ h]
 | .nilp,q,h=>by cases q <;> simp[SN]at h;rfl
 | .nilmap,q,h=>by cases q <;> simp[SN]at h;rfl
 | .nilfn,q,h=>by cases q <;> simp[SN]at h;rfl
 | .nili,q,h=>by cases q <;> simp[SN]at h;rfl
 | .ifc,q,h=>by cases q <;> simp[SN]at h;rfl
 | .fn a,q,h=>by cases q <;> simp[SN]at h;rw[h]
 | .rptr xs,q,h=>by cases q <;> simp[SN]at h;rw[HV xs _ h]
theorem HV: ∀ (xs ys:List PV),Cm xs ys=true->xs=ys
 | [],ys,h=>by cases ys <;> simp[Cm]at h;rfl
 | x::xs,ys,h=>by
  cases ys with
  | nil=>simp[Cm]at h
  | cons y ys=>simp[Cm]at h;rw[b7l x y h.1,HV xs ys h.2]
end
mutual
theorem FQ: ∀ (p:PV),SN p p=true
 | .bool a | .str a | .fn a=>by simp[SN]
 | .int k a=>by simp[SN,Lj]
 | .sl s t xs=>by simp[SN,Dh xs]
 | .agg xs | .tup xs | .rptr xs=>by simp[SN,Dh xs]
 | .nilp | .nilmap | .nilfn | .nili | .ifc=>by simp[SN]
theorem Dh: ∀ (xs:List PV),Cm xs xs=true
 | []=>by simp[Cm]
 | x::xs=>by simp[Cm,FQ x,Dh xs]
end
def VG(α:Type)[Enc α](p:PV):Bool:=SN p (enc (dec p:α))
@[simp] theorem ZY {α : Type} [Enc α] (a : α) : VG α (enc a) = true := by unfold VG; rw [Enc.dec_enc]; exact FQ _
theorem Yr{α:Type}[Enc α]{p:PV}(h:VG α p=true): ∃ a:α,p=enc a:=⟨_,b7l _ _ h⟩
end Go.Pl

namespace Go.Pl
open Enc (enc dec is)
@[irreducible] def Hr (a : Nat) (r : List UInt8) : Nat := r.foldl (fun a c => a * 10 + (c.toNat - 48)) a
theorem GH(a:Nat):Hr a []=a:=by unfold Hr;rfl
theorem QT(a:Nat)(c:UInt8)(r:List UInt8):Hr a (c::r)=Hr (a*10+(c.toNat - 48)) r:=by unfold Hr;rfl
theorem Vs{c:UInt8}:Wm c=true ↔ 48<=c.toNat∧c.toNat<=57:=by
 simp only[Wm,Bool.and_eq_true,decide_eq_true_eq,UInt8.le_iff_toNat_le]
 have e1:(48:UInt8).toNat=48:=rfl
 have e2:(57:UInt8).toNat=57:=rfl
 rw[e1,e2]
theorem a2d: ∀ (r:List UInt8) (a:Nat),r.all Wm=true->Hr a r<(a+1)*10 ^ r.length
 | [],a,_=>by simp[GH]
 | c::r,a,h=>by
  simp only[List.all_cons,Bool.and_eq_true,Vs]at h
  have:=a2d r (a*10+(c.toNat - 48)) h.2
  rw[QT,List.length_cons,Nat.pow_succ]
  refine Nat.lt_of_lt_of_le this ?_
  rw[Nat.mul_comm (10 ^ r.length) 10,<- Nat.mul_assoc]
  exact Nat.mul_le_mul_right _ (by omega)
theorem Pe: ∀ (r:List UInt8) (a:Nat),a<=Hr a r
 | [],a=>by rw[GH];exact Nat.le_refl _
 | c::r,a=>by
  have:=Pe r (a*10+(c.toNat - 48))
  rw[QT]
  omega
theorem TS: ∀ (r:List UInt8) (a:Nat),r.all Wm=true->Hr a r<1000000000000000000->Lib.parseUint10 a r = .ok (Hr a r)
 | [],a,_,_=>by rw[GH,Lib.parseUint10]
 | c::r,a,h,hv=>by
  simp only[List.all_cons,Bool.and_eq_true,Vs]at h
  rw[QT]at hv ⊢
  have hge:=Pe r (a*10+(c.toNat - 48))
  rw[Lib.parseUint10,if_pos h.1,if_neg (by omega),if_neg (by omega)]
  exact TS r _ h.2 hv
theorem b1s{a d:Nat}(ha:1<=a)(hd:d<=9):Lib.decDigits (a*10+d)=Lib.decDigits a++[UInt8.ofNat (48+d)]:=by
 rw[Lib.decDigits,dif_neg (by omega),show(a*10+d) / 10=a by omega,show(a*10+d) % 10=d by omega]
theorem a2c: ∀ (r:List UInt8) (a:Nat),1<=a->r.all Wm=true->Lib.decDigits (Hr a r)=Lib.decDigits a++r
 | [],a,_,_=>by simp[GH]
 | c::r,a,ha,h=>by
  simp only[List.all_cons,Bool.and_eq_true,Vs]at h
  rw[QT,a2c r _ (by omega) h.2,b1s ha (by omega)]
  have:UInt8.ofNat (48+(c.toNat - 48))=c:=by
   rw[show 48+(c.toNat - 48)=c.toNat by omega]
   exact UInt8.ofNat_toNat
  rw[this]
  simp
theorem b7m{n:Nat}(h:n<256):(UInt8.ofNat n).toNat=n:=by rw[UInt8.toNat_ofNat'];omega
theorem EK: ∀ (u:Nat),1<=u->(Lib.decDigits u).all Wm=true∧(Lib.decDigits u).head? ≠ some 48∧Lib.decDigits u≠[]:=by
 intro u
 induction u using Nat.strongRecOn with
 | _ u ih=>
  intro h1
  rw[Lib.decDigits]
  by_cases h:u<10
  ·rw[dif_pos h]
   refine⟨?_,?_,by simp⟩
   ·simp only[List.all_cons,List.all_nil,Bool.and_true]
    rw[Vs,b7m (by omega)]
    omega
   ·simp only[List.head?_cons,ne_eq,Option.some.injEq]
    intro e
    have:=congrArg UInt8.toNat e
    rw[b7m (by omega)]at this
    have e48:(48:UInt8).toNat=48:=rfl
    rw[e48]at this
    omega
  ·rw[dif_neg h]
   obtain⟨i1,i2,i3⟩:=ih (u / 10) (by omega) (by omega)
   refine⟨?_,?_,by simp⟩
   ·rw[List.all_append,i1]
    simp only[List.all_cons,List.all_nil,Bool.and_true,Bool.true_and]
    rw[Vs,b7m (by omega)]
    omega
   ·cases hd:Lib.decDigits (u / 10)with
    | nil=>exact absurd hd i3
    | cons c r=>rw[hd]at i2;simpa using i2
def Lb(r:List UInt8):Bool:=r.all Wm&& !r.isEmpty&&decide (r.head? ≠ some 48)
theorem c5f(b:Bool):UK (enc (⟨b⟩:Er)) = !b:=by cases b <;> rfl
theorem c3i(e:Er):Ak (enc e)=true:=by obtain⟨b⟩:=e;cases b <;> rfl
theorem a1y(r:List UInt8)(hr:r.length<=9):(UK (enc (Yw ⟨r⟩).2)&&decide ((Yw ⟨r⟩).1>0)&&(Lib.itoa (Yw ⟨r⟩).1==r))=Lb r:=by
 by_cases hn:Lb r=true
 ·rw[hn]
  simp only[Lb,Bool.and_eq_true,Bool.not_eq_true',decide_eq_true_eq]at hn
  obtain⟨⟨h1,h2⟩,h3⟩:=hn
  cases r with
  | nil=>simp at h2
  | cons c r=>
   have h1':=h1
   simp only[List.all_cons,Bool.and_eq_true,Vs]at h1
   have hc:c≠48:=by simpa using h3
   have hc':c.toNat≠48:=fun e=>hc (UInt8.toNat_inj.1 (by rw[e];rfl))
   have hv:=a2d (c::r) 0 h1'
   have hp:10 ^ (c::r).length<=10 ^ 9:=Nat.pow_le_pow_right (by omega) hr
   have hpm:=TS (c::r) 0 h1' (by omega)
   have hat:Lib.atoiAll (c::r) = .ok (Hr 0 (c::r):Int):=by
    have e1 : ¬ (c.toNat=43∨c.toNat=45):=by omega
    have e2 : ¬ c.toNat=45:=by omega
    simp only[Lib.atoiAll,if_neg e1,Lib.parseMag,if_neg (show ¬ (c::r=[]) by simp),hpm]
    rw[if_neg (by omega),if_neg (fun e=>e2 e.1),if_neg e2]
   have ha:Yw ⟨c::r⟩=((Hr 0 (c::r):Int),⟨false⟩):=by simp only[Yw,hat]
   have hvd:Hr 0 (c::r)=Hr (c.toNat - 48) r:=by rw[QT];congr 1;omega
   have hpos:=Pe r (c.toNat - 48)
   rw[ha]
   have h4:Lib.itoa (Hr 0 (c::r):Int)=c::r:=by
    rw[Lib.itoa,if_neg (by omega),Int.toNat_natCast,hvd,a2c r _ (by omega) h1.2,Lib.decDigits,dif_pos (by omega)]
    have:UInt8.ofNat (48+(c.toNat - 48))=c:=by
     rw[show 48+(c.toNat - 48)=c.toNat by omega]
     exact UInt8.ofNat_toNat
    rw[this];rfl
   simp only[c5f,h4,beq_self_eq_true,Bool.and_true,Bool.not_false,Bool.true_and]
   exact decide_eq_true (by omega)
 ·have hn:Lb r=false:=by simpa using hn
  rw[hn]
  by_cases h1:decide ((Yw ⟨r⟩).1>0)=true
  ·by_cases h2:(Lib.itoa (Yw ⟨r⟩).1==r)=true
   ·exfalso
    have h1:(Yw ⟨r⟩).1>0:=by simpa using h1
    have h2:Lib.itoa (Yw ⟨r⟩).1=r:=by simpa using h2
    rw[Lib.itoa,if_neg (by omega)]at h2
    obtain⟨d1,d2,d3⟩:=EK (Yw ⟨r⟩).1.toNat (by omega)
    rw[h2]at d1 d2 d3
    have:Lb r=true:=by simp only[Lb,d1,decide_eq_true d2,Bool.true_and,Bool.and_true];cases r <;> simp at d3 ⊢
    rw[this]at hn;cases hn
   ·simp[h2]
  ·simp[h1]
theorem Mf(r:List UInt8):ZE ⟨95::r⟩=(Lb r&&decide (r.length<=9)):=by simp[ZE,Lb]
end Go.Pl

namespace Go.Pl
open Go.RowKit
open Enc (enc dec is)
open EncL (encL decL isL)
def a8o(s:Str)(c:Int):List (Str×Int)->List (Str×Int)
 | []=>[(s,c)]
 | p::m=>if s.s=p.1.s then(s,c)::m else p::a8o s c m
def c6h(k:Int):List Coef->List (Str×Int)->List (Str×Int)
 | [],m=>m
 | t::l,m=>c6h k l (a8o t.v (IntKind.i64.wrap (atM m t.v.s+IntKind.i64.wrap (k*t.c))) m)
def Zk(l:List Fact):Bool:=decide (l.length<=9223372036854775807)&&l.all fun f=>Yi f.l
def Yq(l:List Fact):Bool:=l.all fun f=>Zq f.l
def Vr:AV×List AObj×List AObj:=(.tup [.pv (.int .i64 0),.pv .nilmap,.pv (.bool false)],[],[])
structure FnV (n:Nat) where
 u:Unit:=()
instance (n:Nat):Enc (FnV n) where
  sz:=1
  enc _:=.fn n
  dec _:={}
  is | .fn m=>m==n|_=>false
  is_enc _:=by simp
  dec_enc _:=rfl
  sub p h:=by
    cases p with
    | fn m => have : m = n := by simpa using h
              subst this;exact .refl _
    | _=>cases h
def Zz{α:Type}(p:α->Bool)(l:List α):Int:=match l.findIdx? p with|some i=>i|none=> -1
theorem XU{α:Type}(p:α->Bool)(l:List α):decide (Zz p l ≥ 0)=l.any p:=by
 unfold Zz
 cases h:l.findIdx? p with
 | none=>
  rw[List.findIdx?_eq_none_iff]at h
  have:l.any p=false:=by rw[List.any_eq_false];intro x hx;simp[h x hx]
  rw[this];rfl
 | some i=>
  have:l.any p=true:=by
   rw[List.findIdx?_eq_some_iff_getElem]at h
   obtain⟨hi,hp,_⟩:=h
   rw[List.any_eq_true]
   exact⟨_,List.getElem_mem hi,hp⟩
  rw[this]
  exact decide_eq_true (by show(i:Int) ≥ 0;omega)
theorem Qp{α:Type}(p:α->Bool)(l:List α)(i:Nat)(hlt:i<l.length)(hno : ∀ j (h:j<l.length),j<i->p l[j]=false)(hp:p l[i]=true):Zz p l=i:=by
 unfold Zz
 have:l.findIdx? p=some i:=by
  rw[List.findIdx?_eq_some_iff_getElem]
  exact⟨hlt,hp,fun j hj=>by simp[hno j (by omega) hj]⟩
 rw[this]
theorem Qt{α:Type}(p:α->Bool)(l:List α)(hno : ∀ j (h:j<l.length),p l[j]=false):Zz p l = -1:=by
 unfold Zz
 have:l.findIdx? p=none:=by
  rw[List.findIdx?_eq_none_iff]
  intro x hx
  obtain⟨j,hj,rfl⟩:=List.getElem_of_mem hx
  exact hno j hj
 rw[this]
def Z7(f:Fact)(v:List Coef):Bool:=decide ((Yj f.l v).2=0)&& !decide ((Yj f.l v).1<0)&&(!f.eq||decide ((Yj f.l v).1=0))
def JV:List AV->List AObj->Bool
 | [.pv f,.ptr 0 0],[.box [.pv v]]=>VG Fact f&&VG (List Coef) v&&Yi (dec f:Fact).l&&decide ((dec v:List Coef).length<=9223372036854775807)
 | _,_=>false
def G5:List AV->List AObj->AV×List AObj×List AObj
 | [.pv f,_],[.box [.pv v]]=>(.pv (.bool (!Z7 (dec f) (dec v))),[.box [.pv v]],[])
 | _,_=>Vr
def WN(g:Nat):List AV->List AObj->Bool
 | [.pv l,.fn g' [] [.ptr 0 0]],[.box [.pv v]]=>g'==g&&VG (List Fact) l&&VG (List Coef) v&&Zk (dec l)&&decide ((dec v:List Coef).length<=9223372036854775807)
 | _,_=>false
def CQ:List AV->List AObj->AV×List AObj×List AObj
 | [.pv l,_],[.box [.pv v]]=>(.pv (.int .i64 (Zz (fun f=> !Z7 f (dec v)) (dec l))),[.box [.pv v]],[])
 | _,_=>Vr
def CS:List AV->List AObj->AV×List AObj×List AObj
 | [.pv l,_],[.box [.pv v]]=>(.pv (.bool ((dec l:List Fact).any (fun f=> !Z7 f (dec v)))),[.box [.pv v]],[])
 | _,_=>Vr
def Ap:List AV->List AObj->Bool
 | [.pv x,.ptr 0 0],[.box [.pv (.str v),.pv (.int .i64 c)]]=>VG Coef x
 | _,_=>false
def Pv:List AV->List AObj->AV×List AObj×List AObj
 | [.pv x,_],[.box [.pv (.str v),.pv (.int .i64 c)]]=>(.pv (.bool ((dec x:Coef).v.s==v)),[.box [.pv (.str v),.pv (.int .i64 c)]],[])
 | _,_=>Vr
def Kn(g:Nat):List AV->List AObj->Bool
 | [.pv l,.fn g' [] [.ptr 0 0]],[.box [.pv (.str v),.pv (.int .i64 c)]]=>g'==g&&VG (List Coef) l&&decide ((dec l:List Coef).length<=9223372036854775807)
 | _,_=>false
def CP:List AV->List AObj->AV×List AObj×List AObj
 | [.pv l,_],[.box [.pv (.str v),.pv (.int .i64 c)]]=>(.pv (.int .i64 (Zz (fun t:Coef=>t.v.s==v) (dec l))),[.box [.pv (.str v),.pv (.int .i64 c)]],[])
 | _,_=>Vr
end Go.Pl

namespace Go.Pl
open Go.RowKit
open Enc (enc dec is)
open EncL (encL decL isL)
set_option maxRecDepth 100000
end Go.Pl

namespace Go.Pl
open Go.RowKit
open Enc (enc dec is)
open EncL (encL decL isL)
set_option maxRecDepth 100000
-- IMPOSSIBLE
end Go.Pl

namespace Go.Pl
open Go.RowKit
open Enc (enc dec is)
open EncL (encL decL isL)
end Go.Pl

namespace Go.Pl
open Go.RowKit
open Enc (enc dec is)
open EncL (encL decL isL)
end Go.Pl

namespace Go.Pl
open Go.RowKit
open Enc (enc dec is)
open EncL (encL decL isL)
set_option maxRecDepth 100000
end Go.Pl

namespace Go.Pl
open Go.RowKit
open Enc (enc dec is)
open EncL (encL decL isL)
end Go.Pl

namespace Go.Pl
open Go.RowKit
open Enc (enc dec is)
open EncL (encL decL isL)
set_option maxRecDepth 100000
end Go.Pl

namespace Go.Pl
open Go.RowKit
open Enc (enc dec is)
open EncL (encL decL isL)
end Go.Pl

namespace Go.Pl
open Go.RowKit
open Enc (enc dec is)
open EncL (encL decL isL)
mutual
def cSm:Cert->Bool
 | .mk _ m l ks=>decide (m.length<=9223372036854775807)&&Yi l&&decide (ks.length<=9223372036854775807)&&a5f ks
def a5f:List Cert->Bool
 | []=>true
 | c::cs=>cSm c&&a5f cs
end
mutual
theorem c6o: ∀ {c:Cert},cSm c=true->cOk c=true
 | .mk k m l ks,h=>by
  simp only[cSm,cOk,Yi,Bool.and_eq_true]at h ⊢
  exact⟨⟨⟨h.1.1.1,h.1.1.2.1⟩,h.1.2⟩,a3f h.2⟩
theorem a3f: ∀ {cs:List Cert},a5f cs=true->a7p cs=true
 | [],_=>rfl
 | c::cs,h=>by
  simp only[a5f,a7p,Bool.and_eq_true]at h ⊢
  exact⟨c6o h.1,a3f h.2⟩
end
theorem RS{l:Lin}(h:Zq l=true):l.t.length<=12:=by
 simp only[Zq,Bool.and_eq_true,decide_eq_true_eq]at h
 exact h.2
end Go.Pl

namespace Go.Pl
open Go.RowKit
open Enc (enc dec is)
open EncL (encL decL isL)
theorem XJ{n:Int}(h1 : -9223372036854775808<=n)(h2:n<=9223372036854775807):DJ n=n:=Qy h1 h2
end Go.Pl

namespace Go.Pl
open Go.RowKit
open Enc (enc dec is)
open EncL (encL decL isL)
end Go.Pl

namespace Go.Pl
open Go.RowKit
open Enc (enc dec is)
open EncL (encL decL isL)
set_option maxRecDepth 100000
def EW:IC:=(.seq (.reg [⟨(some 1),(.box 3 (.t 0)),0,none⟩,⟨(some 2),(.mv (.c (.bool false))),1,none⟩] none) (.seq (.reg [⟨(some 3),(.faddr 1 (.t 1)),0,none⟩,⟨(some 4),(.load true [(.int .i64),(.sl 2)] (.t 3)),0,none⟩,⟨(some 5),(.call (.c (.fn 73)) [(.t 4)]),0,none⟩,⟨(some 6),(.un .not (.t 5)),2,none⟩,⟨(some 2),(.mv (.t 6)),2,none⟩] none) .ret))
def Oq:List IRes:=[(.tmp 2)]
abbrev c4h:Nat:=7
def b4k:ZF:=Xe [(73,.pure (preT (fun x:Lin×Unit=>Yi x.1)) (Zf (fun x:Lin×Unit=>Zq x.1)))]
theorem c9a{G:PV->Prop}(f:Fact)(h:(Go.Pl.preT (fun(x:Lin×Unit)=>Yi x.1) [(.agg [(.int .i64 (Lin.k f.l)),(.sl 2 false (List.map enc (Lin.t f.l)))])])=true∧(∃ y0:Bool,AV.pv (Zf (fun(x:Lin×Unit)=>Zq x.1) [(.agg [(.int .i64 (Lin.k f.l)),(.sl 2 false (List.map enc (Lin.t f.l)))])])=AV.pv (enc y0)∧(G ((.bool !y0))))):Zc b4k 0 (Za Oq G) EW [] (Ye 7 [enc f]):=Zc.tp (.req (.abs (Bool) (fun YY=>AV.pv (enc YY)) (.nil))) h (by kernel_rfl)
def KX:IC:=(.seq (.reg [⟨(some 4),(.mv (.c (.int .i64 0))),0,none⟩] none) (.seq (.seq (.reg [⟨(some 6),(.mv (.t 0)),0,none⟩,⟨(some 7),(.len 1 (.t 6)),0,none⟩,⟨(some 8),(.mv (.c (.int .i64 0))),0,none⟩] none) (.block 0 (.loop [8,7,1,0] (.seq (.reg [⟨(some 9),(.bin .num .lss (.t 8) (.t 7)),0,none⟩] none) (.seq (.cond (.t 9) .skip (.exit 0)) (.seq (.block 1 (.seq (.reg [⟨(some 10),(.mv (.t 8)),0,none⟩,⟨(some 5),(.mv (.t 10)),0,none⟩] none) (.seq (.reg [⟨(some 11),(.mv (.t 1)),0,none⟩,⟨(some 12),(.mv (.t 0)),0,none⟩,⟨(some 13),(.mv (.t 5)),0,none⟩,⟨(some 14),(.iaddr 3 (.t 12) (.t 13)),0,none⟩,⟨(some 15),(.load true [.bool,(.int .i64),(.sl 2)] (.t 14)),0,none⟩,⟨(some 16),(.call (.t 11) [(.t 15)]),0,none⟩] none) (.cond (.t 16) (.seq (.reg [⟨(some 17),(.mv (.t 5)),0,none⟩,⟨(some 4),(.mv (.t 17)),0,none⟩] none) .ret) .skip)))) (.reg [⟨(some 18),(.bin .num .add (.t 8) (.c (.int .i64 1))),0,none⟩,⟨(some 8),(.mv (.t 18)),0,none⟩] none))))))) (.seq (.reg [⟨(some 4),(.mv (.c (.int .i64 (-1)))),0,none⟩] none) .ret)))
def Ha:List IRes:=[(.tmp 4)]
abbrev c8a:Nat:=19
def Sg:ZF:=Xe [(162,.pure (preT (fun x:Fact×Unit=>Yi x.1.l)) (Zf (fun x:Fact×Unit=> !(Zq x.1.l))))]
theorem c8l{G:PV->Prop}(l:List Fact)(h:At Sg 0 (Za Ha G) KX 0 19 [(0,(.pv (.sl 3 false (List.map enc l)))),(1,(.pv (.fn 162))),(7,(.pv (.int .i64 (↑(List.length (List.map enc l)):Int)))),(8,(.pv (.int .i64 0)))] []):Zc Sg 0 (Za Ha G) KX [] (Ye 19 [enc l,.fn 162]):=Zc.tp (.nil) h (by kernel_rfl)
theorem a8t{G:PV->Prop}(l:List Fact)(i:Int)(h:if (decide (i<(↑(List.length l):Int)))=true then(decide (0<=i)&&decide (Int.toNat i<List.length (List.map enc l))&&Enc.sz Fact==3)=true∧(∃ y0:Fact,AV.pv (PV.rptr (PV.cells (List.getD (List.map enc l) (Int.toNat i) default)))=AV.pv (PV.rptr (PV.cells ((enc) y0)))∧((Go.Pl.preT (fun(x:Fact×Unit)=>Yi x.1.l) [(.agg [(.bool (PV.asBool (List.getD (PV.cells (enc y0)) 0 default))),(.int .i64 (PV.asInt (List.getD (PV.cells (enc y0)) (0+1) default))),(.sl 2 false (PV.asXs (List.getD (PV.cells (enc y0)) (0+1+1) default)))])])=true∧(∃ y1:Bool,AV.pv (Zf (fun(x:Fact×Unit)=> !Zq x.1.l) [(.agg [(.bool (PV.asBool (List.getD (PV.cells (enc y0)) 0 default))),(.int .i64 (PV.asInt (List.getD (PV.cells (enc y0)) (0+1) default))),(.sl 2 false (PV.asXs (List.getD (PV.cells (enc y0)) (0+1+1) default)))])])=AV.pv (enc y1)∧(if (y1)=true then G ((.int .i64 i))else(At Sg 0 (Za Ha G) KX 0 19 [(0,(.pv (.sl 3 false (List.map enc l)))),(1,(.pv (.fn 162))),(7,(.pv (.int .i64 (↑(List.length l):Int)))),(8,(.pv (.int .i64 (IntKind.wrap IntKind.i64 (i+1)))))] [])))))else(G ((.int .i64 (-1))))):At Sg 0 (Za Ha G) KX 0 19 [(0,.pv (enc l)),(1,.pv (.fn 162)),(7,.pv (.int .i64 l.length)),(8,.pv (.int .i64 i))] []:=At.tp (.lit (.ask (.req (.abs (Fact) (fun YY=>AV.pv (PV.rptr (PV.cells ((enc) YY)))) (.lit (.req (.abs (Bool) (fun YY=>AV.pv (enc YY)) (.ask (.nil) (.lit (.nil)))))))) (.nil))) h (by kernel_rfl)
def Nh:IC:=(.seq (.reg [⟨(some 4),(.mv (.c (.bool false))),0,none⟩] none) (.seq (.reg [⟨(some 5),(.mv (.t 0)),0,none⟩,⟨(some 6),(.mv (.t 1)),0,none⟩,⟨(some 7),(.call (.c (.fn 227)) [(.t 5),(.t 6)]),0,none⟩,⟨(some 8),(.bin .num .geq (.t 7) (.c (.int .i64 0))),2,none⟩,⟨(some 4),(.mv (.t 8)),2,none⟩] none) .ret))
def Eu:List IRes:=[(.tmp 4)]
abbrev c4q:Nat:=9
def b2q:ZF:=Xe [(227,.pure (preT (fun x:List Fact×FnV 162×Unit=>Zk x.1)) (Zf (fun x:List Fact×FnV 162×Unit=>Zz (fun f:Fact=> !(Zq f.l)) x.1)))]
theorem c8m{G:PV->Prop}(l:List Fact)(h:(Go.Pl.preT (fun(x:List Fact×FnV 162×Unit)=>Zk x.1) [(.sl 3 false (List.map enc l)),(.fn 162)])=true∧(∃ y0:Int,AV.pv (Zf (fun(x:List Fact×FnV 162×Unit)=>Zz (fun(f:Fact)=> !Zq f.l) x.1) [(.sl 3 false (List.map enc l)),(.fn 162)])=AV.pv (enc y0)∧(G ((.bool (decide (y0 ≥ 0))))))):Zc b2q 0 (Za Eu G) Nh [] (Ye 9 [enc l,.fn 162]):=Zc.tp (.req (.abs (Int) (fun YY=>AV.pv (enc YY)) (.lit (.nil)))) h (by kernel_rfl)
def GY:IC:=(.seq (.reg [⟨(some 2),(.mv (.c (.bool false))),0,none⟩] none) (.seq (.reg [⟨(some 3),(.mv (.t 0)),0,none⟩,⟨(some 4),(.call (.c (.fn 161)) [(.t 3),(.c (.fn 162))]),0,none⟩,⟨(some 5),(.un .not (.t 4)),2,none⟩,⟨(some 2),(.mv (.t 5)),2,none⟩] none) .ret))
def Da:List IRes:=[(.tmp 2)]
abbrev a7h:Nat:=6
def AX:ZF:=Xe [(161,.pure (preT (fun x:List Fact×FnV 162×Unit=>Zk x.1)) (Zf (fun x:List Fact×FnV 162×Unit=>x.1.any fun f:Fact=> !(Zq f.l))))]
theorem b1l{G:PV->Prop}(l:List Fact)(h:(Go.Pl.preT (fun(x:List Fact×FnV 162×Unit)=>Zk x.1) [(.sl 3 false (List.map enc l)),(.fn 162)])=true∧(∃ y0:Bool,AV.pv (Zf (fun(x:List Fact×FnV 162×Unit)=>List.any x.1 fun(f:Fact)=> !Zq f.l) [(.sl 3 false (List.map enc l)),(.fn 162)])=AV.pv (enc y0)∧(G ((.bool !y0))))):Zc AX 0 (Za Da G) GY [] (Ye 6 [enc l]):=Zc.tp (.req (.abs (Bool) (fun YY=>AV.pv (enc YY)) (.nil))) h (by kernel_rfl)
def E8:IC:=(.seq (.reg [⟨(some 2),(.box 2 (.t 0)),0,none⟩,⟨(some 3),(.mv (.c (.bool false))),1,none⟩] none) (.seq (.reg [⟨(some 4),(.faddr 0 (.t 2)),0,none⟩,⟨(some 5),(.load false [.str] (.t 4)),0,none⟩,⟨(some 6),(.faddr 0 (.t 1)),0,none⟩,⟨(some 7),(.load false [.str] (.t 6)),0,none⟩,⟨(some 8),(.bin .num .eql (.t 5) (.t 7)),0,none⟩,⟨(some 3),(.mv (.t 8)),0,none⟩] none) .ret))
def a0p:List IRes:=[(.tmp 3)]
abbrev c5b:Nat:=9
def b4x:ZF:=Xe []
theorem c8k{G:AV×List AObj×List AObj->Prop}(x:Coef)(v:List UInt8)(c:Int)(h:G (((.pv (.bool (Str.s x.v==v))),([(.box [(.pv (.str v)),(.pv (.int .i64 c))])],[])))):Zc b4x 1 (Zo 1 a0p G) E8 [] (YK 9 [.pv (enc x),.ptr 0 0] [.box [.pv (.str v),.pv (.int .i64 c)]]):=Zc.to (.lit (.nil)) h (by kernel_rfl)
def KD:IC:=(.seq (.reg [⟨(some 4),(.mv (.c (.int .i64 0))),0,none⟩] none) (.seq (.seq (.reg [⟨(some 6),(.mv (.t 0)),0,none⟩,⟨(some 7),(.len 1 (.t 6)),0,none⟩,⟨(some 8),(.mv (.c (.int .i64 0))),0,none⟩] none) (.block 0 (.loop [8,7,1,0] (.seq (.reg [⟨(some 9),(.bin .num .lss (.t 8) (.t 7)),0,none⟩] none) (.seq (.cond (.t 9) .skip (.exit 0)) (.seq (.block 1 (.seq (.reg [⟨(some 10),(.mv (.t 8)),0,none⟩,⟨(some 5),(.mv (.t 10)),0,none⟩] none) (.seq (.reg [⟨(some 11),(.mv (.t 1)),0,none⟩,⟨(some 12),(.mv (.t 0)),0,none⟩,⟨(some 13),(.mv (.t 5)),0,none⟩,⟨(some 14),(.iaddr 2 (.t 12) (.t 13)),0,none⟩,⟨(some 15),(.load true [.str,(.int .i64)] (.t 14)),0,none⟩,⟨(some 16),(.call (.t 11) [(.t 15)]),0,none⟩] none) (.cond (.t 16) (.seq (.reg [⟨(some 17),(.mv (.t 5)),0,none⟩,⟨(some 4),(.mv (.t 17)),0,none⟩] none) .ret) .skip)))) (.reg [⟨(some 18),(.bin .num .add (.t 8) (.c (.int .i64 1))),0,none⟩,⟨(some 8),(.mv (.t 18)),0,none⟩] none))))))) (.seq (.reg [⟨(some 4),(.mv (.c (.int .i64 (-1)))),0,none⟩] none) .ret)))
def Hw:List IRes:=[(.tmp 4)]
abbrev c6g:Nat:=19
def BP:ZF:=Xe [(110,.own Ap Pv)]
theorem c9z{G:AV×List AObj×List AObj->Prop}(l:List Coef)(v:List UInt8)(c:Int)(h:At BP 1 (Zo 1 Hw G) KD 0 19 [(0,(.pv (.sl 2 false (List.map enc l)))),(1,(.fn 110 [] [(.ptr 0 0)])),(7,(.pv (.int .i64 (↑(List.length (List.map enc l)):Int)))),(8,(.pv (.int .i64 0)))] [(.obj (.box [(.pv (.str v)),(.pv (.int .i64 c))]))]):Zc BP 1 (Zo 1 Hw G) KD [] (YK 19 [.pv (enc l),.fn 110 [] [.ptr 0 0]] [.box [.pv (.str v),.pv (.int .i64 c)]]):=Zc.to (.nil) h (by kernel_rfl)
theorem b7r{G:AV×List AObj×List AObj->Prop}(l:List Coef)(v:List UInt8)(c:Int)(i:Int)(h:if (decide (i<(↑(List.length l):Int)))=true then(decide (0<=i)&&decide (Int.toNat i<List.length (List.map enc l))&&Enc.sz Coef==2)=true∧(∃ y0:Coef,AV.pv (PV.rptr (PV.cells (List.getD (List.map enc l) (Int.toNat i) default)))=AV.pv (PV.rptr (PV.cells ((enc) y0)))∧((Ap [(.pv (.agg [(.str (PV.asStr (List.getD (PV.cells (enc y0)) 0 default))),(.int .i64 (PV.asInt (List.getD (PV.cells (enc y0)) (0+1) default)))])),(.ptr 0 0)] [(.box [(.pv (.str v)),(.pv (.int .i64 c))])])=true∧(if (Str.s (Coef.v (dec (PV.agg (Vk (PV.cells (enc y0)) 0 [Sh.str,Sh.int .i64]))))==v)=true then G (((.pv (.int .i64 i)),([(.box [(.pv (.str v)),(.pv (.int .i64 c))])],[])))else(At BP 1 (Zo 1 Hw G) KD 0 19 [(0,(.pv (.sl 2 false (List.map enc l)))),(1,(.fn 110 [] [(.ptr 0 0)])),(7,(.pv (.int .i64 (↑(List.length l):Int)))),(8,(.pv (.int .i64 (IntKind.wrap IntKind.i64 (i+1)))))] [(.obj (.box [(.pv (.str v)),(.pv (.int .i64 c))]))]))))else(G (((.pv (.int .i64 (-1))),([(.box [(.pv (.str v)),(.pv (.int .i64 c))])],[]))))):At BP 1 (Zo 1 Hw G) KD 0 19 [(0,.pv (enc l)),(1,.fn 110 [] [.ptr 0 0]),(7,.pv (.int .i64 l.length)),(8,.pv (.int .i64 i))] [.obj (.box [.pv (.str v),.pv (.int .i64 c)])]:=At.to (.lit (.ask (.req (.abs (Coef) (fun YY=>AV.pv (PV.rptr (PV.cells ((enc) YY)))) (.lit (.req (.keep (.ask (.nil) (.lit (.nil)))))))) (.nil))) h (by kernel_rfl)
def KC:IC:=(.seq (.reg [⟨(some 2),(.box 2 (.t 0)),0,none⟩,⟨(some 4),(.mv (.c (.int .i64 0))),1,none⟩,⟨(some 5),(.mv (.c (.int .i64 0))),1,none⟩] none) (.seq (.seq (.reg [⟨(some 11),(.load true [(.int .i64),(.sl 2)] (.t 2)),0,none⟩,⟨(some 12),(.call (.c (.fn 73)) [(.t 11)]),0,none⟩,⟨(some 13),(.un .not (.t 12)),2,none⟩] none) (.cond (.t 13) (.seq (.reg [⟨(some 4),(.mv (.c (.int .i64 0))),0,none⟩,⟨(some 5),(.mv (.c (.int .i64 1))),0,none⟩] none) .ret) .skip)) (.seq (.reg [⟨(some 14),(.faddr 0 (.t 2)),0,none⟩,⟨(some 15),(.load false [(.int .i64)] (.t 14)),0,none⟩,⟨(some 6),(.mv (.t 15)),0,none⟩] none) (.seq (.seq (.reg [⟨(some 16),(.faddr 1 (.t 2)),0,none⟩,⟨(some 17),(.load false [(.sl 2)] (.t 16)),0,none⟩,⟨(some 18),(.len 1 (.t 17)),0,none⟩,⟨(some 19),(.mv (.c (.int .i64 0))),0,none⟩] none) (.block 0 (.loop [19,18,17,1,6] (.seq (.reg [⟨(some 20),(.bin .num .lss (.t 19) (.t 18)),0,none⟩] none) (.seq (.cond (.t 20) .skip (.exit 0)) (.seq (.block 1 (.seq (.reg [⟨(some 21),(.iaddr 2 (.t 17) (.t 19)),0,none⟩,⟨(some 22),(.load true [.str,(.int .i64)] (.t 21)),0,none⟩,⟨(some 8),(.alloc (.agg [(.str []),(.int .i64 0)])),0,none⟩,⟨none,(.store 2 (.t 8) (.t 22)),1,none⟩] none) (.seq (.reg [⟨(some 23),(.mv (.t 1)),0,none⟩,⟨(some 24),(.mkfn 110 [] [(.t 8)]),0,none⟩,⟨(some 25),(.call (.c (.fn 109)) [(.t 23),(.t 24)]),0,none⟩,⟨(some 9),(.mv (.t 25)),2,none⟩] none) (.seq (.seq (.reg [⟨(some 26),(.mv (.t 9)),0,none⟩,⟨(some 27),(.bin .num .lss (.t 26) (.c (.int .i64 0))),0,none⟩] none) (.cond (.t 27) (.seq (.reg [⟨(some 4),(.mv (.c (.int .i64 0))),0,none⟩,⟨(some 5),(.mv (.c (.int .i64 7))),0,none⟩] none) .ret) .skip)) (.seq (.seq (.reg [⟨(some 28),(.mv (.t 1)),0,none⟩,⟨(some 29),(.mv (.t 9)),0,none⟩,⟨(some 30),(.iaddr 2 (.t 28) (.t 29)),0,none⟩,⟨(some 31),(.faddr 1 (.t 30)),0,none⟩,⟨(some 32),(.load false [(.int .i64)] (.t 31)),0,none⟩,⟨(some 10),(.mv (.t 32)),0,none⟩] none) (.seq (.reg [⟨(some 33),(.mv (.t 10)),0,none⟩,⟨(some 34),(.bin .num .lss (.t 33) (.c (.int .i64 (-1000000000)))),0,none⟩,⟨(some 35),(.mv (.t 34)),0,none⟩,⟨(some 36),(.mv (.t 10)),0,(some (35,false))⟩,⟨(some 37),(.bin .num .gtr (.t 36) (.c (.int .i64 1000000000))),0,(some (35,false))⟩,⟨(some 38),(.pick (.t 35) (.c (.bool true)) (.t 37)),0,none⟩] none) (.cond (.t 38) (.seq (.reg [⟨(some 4),(.mv (.c (.int .i64 0))),0,none⟩,⟨(some 5),(.mv (.c (.int .i64 2))),0,none⟩] none) .ret) .skip))) (.reg [⟨(some 39),(.mv (.t 6)),0,none⟩,⟨(some 40),(.faddr 1 (.t 8)),0,none⟩,⟨(some 41),(.load false [(.int .i64)] (.t 40)),0,none⟩,⟨(some 42),(.mv (.t 1)),0,none⟩,⟨(some 43),(.mv (.t 9)),0,none⟩,⟨(some 44),(.iaddr 2 (.t 42) (.t 43)),0,none⟩,⟨(some 45),(.faddr 1 (.t 44)),0,none⟩,⟨(some 46),(.load false [(.int .i64)] (.t 45)),0,none⟩,⟨(some 47),(.bin .num .mul (.t 41) (.t 46)),0,none⟩,⟨(some 48),(.bin .num .add (.t 39) (.t 47)),0,none⟩,⟨(some 6),(.mv (.t 48)),0,none⟩] (some [[],[],[1],[],[],[3,4],[5,3,4],[6,5,3,4],[2,7,1,6,5,3,4],[0,8,2,7,1,6,5,3,4],[9,0,1,2,3,4,5,6,7,8]]))))))) (.reg [⟨(some 49),(.bin .num .add (.t 19) (.c (.int .i64 1))),0,none⟩,⟨(some 19),(.mv (.t 49)),0,none⟩] none))))))) (.seq (.reg [⟨(some 50),(.mv (.t 6)),0,none⟩,⟨(some 4),(.mv (.t 50)),0,none⟩,⟨(some 5),(.mv (.c (.int .i64 0))),0,none⟩] none) .ret)))))
def K7:List IRes:=[(.tmp 4),(.tmp 5)]
abbrev c5x:Nat:=51
def Ch:ZF:=Xe [(73,.pure (preT (fun x:Lin×Unit=>Yi x.1)) (Zf (fun x:Lin×Unit=>Zq x.1))),(109,.own (Kn 110) CP)]
theorem c9k{G:PV->Prop}(l:Lin)(v:List Coef)(h:(Go.Pl.preT (fun(x:Lin×Unit)=>Yi x.1) [(.agg [(.int .i64 l.k),(.sl 2 false (List.map enc l.t))])])=true∧(∃ y0:Bool,AV.pv (Zf (fun(x:Lin×Unit)=>Zq x.1) [(.agg [(.int .i64 l.k),(.sl 2 false (List.map enc l.t))])])=AV.pv (enc y0)∧(if (!y0)=true then G ((.tup [(.int .i64 0),(.int .i64 1)]))else(At Ch 0 (Za K7 G) KC 0 51 [(1,(.pv (.sl 2 false (List.map enc v)))),(6,(.pv (.int .i64 l.k))),(17,(.pv (.sl 2 false (List.map enc l.t)))),(18,(.pv (.int .i64 (↑(List.length (List.map enc l.t)):Int)))),(19,(.pv (.int .i64 0)))] [])))):Zc Ch 0 (Za K7 G) KC [] (Ye 51 [enc l,enc v]):=Zc.tp (.req (.abs (Bool) (fun YY=>AV.pv (enc YY)) (.ask (.nil) (.nil)))) h (by kernel_rfl)
theorem b4h{G:PV->Prop}(l:Lin)(v:List Coef)(n i:Int)(h:if (decide (i<(↑(List.length l.t):Int)))=true then(decide (0<=i)&&decide (Int.toNat i<List.length (List.map enc l.t))&&Enc.sz Coef==2)=true∧(∃ y0:Coef,AV.pv (PV.rptr (PV.cells (List.getD (List.map enc l.t) (Int.toNat i) default)))=AV.pv (PV.rptr (PV.cells ((enc) y0)))∧((Kn 110 [(.pv (.sl 2 false (List.map enc v))),(.fn 110 [] [(.ptr 0 0)])] [(.box [(.pv (.str (PV.asStr (List.getD (PV.cells (enc y0)) 0 default)))),(.pv (.int .i64 (PV.asInt (List.getD (PV.cells (enc y0)) (0+1) default))))])])=true∧(if (decide (Zz (fun(t:Coef)=>Str.s t.v==PV.asStr (List.getD (PV.cells (enc y0)) 0 default)) (dec (enc v))<0))=true then G ((.tup [(.int .i64 0),(.int .i64 7)]))else((decide (0<=Zz (fun(t:Coef)=>Str.s t.v==PV.asStr (List.getD (PV.cells (enc y0)) 0 default)) (dec (enc v)))&&decide (Int.toNat (Zz (fun(t:Coef)=>Str.s t.v==PV.asStr (List.getD (PV.cells (enc y0)) 0 default)) (dec (enc v)))<List.length (List.map enc v))&&Enc.sz Coef==2)=true∧(∃ y1:Coef,AV.pv (PV.rptr (PV.cells (List.getD (List.map enc v) (Int.toNat (Zz (fun(t:Coef)=>Str.s t.v==PV.asStr (List.getD (PV.cells (enc y0)) 0 default)) (dec (enc v)))) default)))=AV.pv (PV.rptr (PV.cells ((enc) y1)))∧(if (decide (PV.asInt (List.getD (List.drop 1 (PV.cells (enc y1))) 0 default)<(-1000000000:Int)))=true then G ((.tup [(.int .i64 0),(.int .i64 2)]))else(if (decide (PV.asInt (List.getD (List.drop 1 (PV.cells (enc y1))) 0 default)>1000000000))=true then G ((.tup [(.int .i64 0),(.int .i64 2)]))else((decide (0<=Zz (fun(t:Coef)=>Str.s t.v==PV.asStr (List.getD (PV.cells (enc y0)) 0 default)) (dec (enc v)))&&decide (Int.toNat (Zz (fun(t:Coef)=>Str.s t.v==PV.asStr (List.getD (PV.cells (enc y0)) 0 default)) (dec (enc v)))<List.length (List.map enc v))&&Enc.sz Coef==2)=true∧(∃ y2:Coef,AV.pv (PV.rptr (PV.cells (List.getD (List.map enc v) (Int.toNat (Zz (fun(t:Coef)=>Str.s t.v==PV.asStr (List.getD (PV.cells (enc y0)) 0 default)) (dec (enc v)))) default)))=AV.pv (PV.rptr (PV.cells ((enc) y2)))∧(At Ch 0 (Za K7 G) KC 0 51 [(1,(.pv (.sl 2 false (List.map enc v)))),(6,(.pv (.int .i64 (IntKind.wrap IntKind.i64 (n+IntKind.wrap IntKind.i64 (PV.asInt (List.getD (PV.cells (enc y0)) (0+1) default)*PV.asInt (List.getD (List.drop 1 (PV.cells (enc y2))) 0 default))))))),(17,(.pv (.sl 2 false (List.map enc l.t)))),(18,(.pv (.int .i64 (↑(List.length l.t):Int)))),(19,(.pv (.int .i64 (IntKind.wrap IntKind.i64 (i+1)))))] []))))))))))else(G ((.tup [(.int .i64 n),(.int .i64 0)])))):At Ch 0 (Za K7 G) KC 0 51 [(1,.pv (enc v)),(6,.pv (.int .i64 n)),(17,.pv (enc l.t)),(18,.pv (.int .i64 l.t.length)),(19,.pv (.int .i64 i))] []:=At.tp (.lit (.ask (.req (.abs (Coef) (fun YY=>AV.pv (PV.rptr (PV.cells ((enc) YY)))) (.lit (.req (.keep (.lit (.ask (.nil) (.req (.abs (Coef) (fun YY=>AV.pv (PV.rptr (PV.cells ((enc) YY)))) (.lit (.lit (.ask (.lit (.lit (.lit (.nil)))) (.lit (.lit (.lit (.ask (.nil) (.req (.abs (Coef) (fun YY=>AV.pv (PV.rptr (PV.cells ((enc) YY)))) (.lit (.lit (.lit (.lit (.nil))))))))))))))))))))))) (.nil))) h (by kernel_rfl)
def b3z:IC:=(.seq (.reg [⟨(some 2),(.box 3 (.t 0)),0,none⟩,⟨(some 3),(.mv (.c (.bool false))),1,none⟩] none) (.seq (.reg [⟨(some 7),(.faddr 1 (.t 2)),0,none⟩,⟨(some 8),(.load true [(.int .i64),(.sl 2)] (.t 7)),0,none⟩,⟨(some 9),(.load false [(.sl 2)] (.t 1)),0,none⟩,⟨(some 10),(.call (.c (.fn 38)) [(.t 8),(.t 9)]),0,none⟩,⟨(some 6),(.mv (.t 10)),2,none⟩,⟨(some 11),(.extract (.t 6) 0),2,none⟩,⟨(some 12),(.extract (.t 6) 1),2,none⟩,⟨(some 4),(.mv (.t 11)),2,none⟩,⟨(some 5),(.mv (.t 12)),2,none⟩] none) (.seq (.reg [⟨(some 13),(.mv (.t 5)),0,none⟩,⟨(some 14),(.bin .num .neq (.t 13) (.c (.int .i64 0))),0,none⟩,⟨(some 15),(.mv (.t 14)),0,none⟩,⟨(some 16),(.mv (.t 4)),0,(some (15,false))⟩,⟨(some 17),(.bin .num .lss (.t 16) (.c (.int .i64 0))),0,(some (15,false))⟩,⟨(some 18),(.pick (.t 15) (.c (.bool true)) (.t 17)),0,none⟩,⟨(some 19),(.mv (.t 18)),0,none⟩,⟨(some 20),(.faddr 0 (.t 2)),0,(some (19,false))⟩,⟨(some 21),(.load false [.bool] (.t 20)),0,(some (19,false))⟩,⟨(some 22),(.mv (.t 21)),0,(some (19,false))⟩,⟨(some 23),(.mv (.t 4)),0,(some (22,true))⟩,⟨(some 24),(.bin .num .neq (.t 23) (.c (.int .i64 0))),0,(some (22,true))⟩,⟨(some 25),(.pick (.t 22) (.t 24) (.c (.bool false))),0,(some (19,false))⟩,⟨(some 26),(.pick (.t 19) (.c (.bool true)) (.t 25)),0,none⟩,⟨(some 3),(.mv (.t 26)),0,none⟩] none) .ret)))
def b6a:List IRes:=[(.tmp 3)]
abbrev c9l:Nat:=27
def c5z:ZF:=Xe [(38,.pure (preT (fun x:Lin×List Coef×Unit=>Yi x.1&&decide (x.2.1.length<=9223372036854775807))) (Zf (fun x:Lin×List Coef×Unit=>Yj x.1 x.2.1)))]
theorem d1f{G:AV×List AObj×List AObj->Prop}(f:Fact)(v:List Coef)(h:(Go.Pl.preT (fun(x:Lin×List Coef×Unit)=>Yi x.1&&decide (List.length x.2.1<=9223372036854775807)) [(.agg [(.int .i64 (Lin.k f.l)),(.sl 2 false (List.map enc (Lin.t f.l)))]),(.sl 2 false (List.map enc v))])=true∧(∃ y0:Int×Int,AV.pv (Zf (fun(x:Lin×List Coef×Unit)=>Yj x.1 x.2.1) [(.agg [(.int .i64 (Lin.k f.l)),(.sl 2 false (List.map enc (Lin.t f.l)))]),(.sl 2 false (List.map enc v))])=AV.pv (enc y0)∧(if (y0.2 != 0)=true then G (((.pv (.bool true)),([(.box [(.pv (.sl 2 false (List.map enc v)))])],[])))else(if (decide (y0.1<0))=true then G (((.pv (.bool true)),([(.box [(.pv (.sl 2 false (List.map enc v)))])],[])))else(if f.eq=true then G (((.pv (.bool (y0.1 != 0))),([(.box [(.pv (.sl 2 false (List.map enc v)))])],[])))else(G (((.pv (.bool false)),([(.box [(.pv (.sl 2 false (List.map enc v)))])],[]))))))))):Zc c5z 1 (Zo 1 b6a G) b3z [] (YK 27 [.pv (enc f),.ptr 0 0] [.box [.pv (enc v)]]):=Zc.to (.req (.abs (Int×Int) (fun YY=>AV.pv (enc YY)) (.lit (.ask (.lit (.lit (.lit (.lit (.lit (.lit (.lit (.nil)))))))) (.lit (.lit (.lit (.ask (.lit (.lit (.lit (.lit (.nil))))) (.lit (.lit (.ask (.lit (.lit (.lit (.lit (.lit (.nil)))))) (.lit (.lit (.lit (.lit (.nil)))))))))))))))) h (by kernel_rfl)
def Hq:IC:=KX
def Hf:List IRes:=[(.tmp 4)]
abbrev c6b:Nat:=19
def AP:ZF:=Xe [(239,.own JV G5)]
theorem c9n{G:AV×List AObj×List AObj->Prop}(l:List Fact)(v:List Coef)(h:At AP 1 (Zo 1 Hf G) Hq 0 19 [(0,(.pv (.sl 3 false (List.map enc l)))),(1,(.fn 239 [] [(.ptr 0 0)])),(7,(.pv (.int .i64 (↑(List.length (List.map enc l)):Int)))),(8,(.pv (.int .i64 0)))] [(.obj (.box [(.pv (.sl 2 false (List.map enc v)))]))]):Zc AP 1 (Zo 1 Hf G) Hq [] (YK 19 [.pv (enc l),.fn 239 [] [.ptr 0 0]] [.box [.pv (enc v)]]):=Zc.to (.nil) h (by kernel_rfl)
theorem b4w{G:AV×List AObj×List AObj->Prop}(l:List Fact)(v:List Coef)(i:Int)(h:if (decide (i<(↑(List.length l):Int)))=true then(decide (0<=i)&&decide (Int.toNat i<List.length (List.map enc l))&&Enc.sz Fact==3)=true∧(∃ y0:Fact,AV.pv (PV.rptr (PV.cells (List.getD (List.map enc l) (Int.toNat i) default)))=AV.pv (PV.rptr (PV.cells ((enc) y0)))∧((JV [(.pv (.agg [(.bool (PV.asBool (List.getD (PV.cells (enc y0)) 0 default))),(.int .i64 (PV.asInt (List.getD (PV.cells (enc y0)) (0+1) default))),(.sl 2 false (PV.asXs (List.getD (PV.cells (enc y0)) (0+1+1) default)))])),(.ptr 0 0)] [(.box [(.pv (.sl 2 false (List.map enc v)))])])=true∧(if (!Z7 (dec (PV.agg (Vk (PV.cells (enc y0)) 0 [Sh.bool,Sh.int .i64,Sh.sl 2]))) (dec (enc v)))=true then G (((.pv (.int .i64 i)),([(.box [(.pv (.sl 2 false (List.map enc v)))])],[])))else(At AP 1 (Zo 1 Hf G) Hq 0 19 [(0,(.pv (.sl 3 false (List.map enc l)))),(1,(.fn 239 [] [(.ptr 0 0)])),(7,(.pv (.int .i64 (↑(List.length l):Int)))),(8,(.pv (.int .i64 (IntKind.wrap IntKind.i64 (i+1)))))] [(.obj (.box [(.pv (.sl 2 false (List.map enc v)))]))]))))else(G (((.pv (.int .i64 (-1))),([(.box [(.pv (.sl 2 false (List.map enc v)))])],[]))))):At AP 1 (Zo 1 Hf G) Hq 0 19 [(0,.pv (enc l)),(1,.fn 239 [] [.ptr 0 0]),(7,.pv (.int .i64 l.length)),(8,.pv (.int .i64 i))] [.obj (.box [.pv (enc v)])]:=At.to (.lit (.ask (.req (.abs (Fact) (fun YY=>AV.pv (PV.rptr (PV.cells ((enc) YY)))) (.lit (.req (.keep (.ask (.nil) (.lit (.nil)))))))) (.nil))) h (by kernel_rfl)
def O9:IC:=Nh
def OT:List IRes:=[(.tmp 4)]
abbrev c6r:Nat:=9
def b2l:ZF:=Xe [(227,.own (WN 239) CQ)]
theorem c8t{G:AV×List AObj×List AObj->Prop}(l:List Fact)(v:List Coef)(h:(WN 239 [(.pv (.sl 3 false (List.map enc l))),(.fn 239 [] [(.ptr 0 0)])] [(.box [(.pv (.sl 2 false (List.map enc v)))])])=true∧(G (((.pv (.bool (decide (Zz (fun(f:Fact)=> !Z7 f (dec (enc v))) (dec (enc l)) ≥ 0)))),([(.box [(.pv (.sl 2 false (List.map enc v)))])],[]))))):Zc b2l 1 (Zo 1 OT G) O9 [] (YK 9 [.pv (enc l),.fn 239 [] [.ptr 0 0]] [.box [.pv (enc v)]]):=Zc.to (.req (.keep (.lit (.nil)))) h (by kernel_rfl)
def DC:IC:=(.seq (.reg [⟨(some 3),(.box 1 (.t 1)),0,none⟩,⟨(some 4),(.mv (.c (.bool false))),1,none⟩] none) (.seq (.reg [⟨(some 5),(.mv (.t 0)),0,none⟩,⟨(some 6),(.mkfn 239 [] [(.t 3)]),0,none⟩,⟨(some 7),(.call (.c (.fn 161)) [(.t 5),(.t 6)]),0,none⟩,⟨(some 8),(.un .not (.t 7)),2,none⟩,⟨(some 4),(.mv (.t 8)),2,none⟩] none) .ret))
def G6:List IRes:=[(.tmp 4)]
abbrev a3t:Nat:=9
def SC:ZF:=Xe [(161,.own (WN 239) CS)]
theorem b6s{G:PV->Prop}(l:List Fact)(v:List Coef)(h:(WN 239 [(.pv (.sl 3 false (List.map enc l))),(.fn 239 [] [(.ptr 0 0)])] [(.box [(.pv (.sl 2 false (List.map enc v)))])])=true∧(G ((.bool (!List.any (dec (enc l)) fun(f:Fact)=> !Z7 f (dec (enc v))))))):Zc SC 0 (Za G6 G) DC [] (Ye 9 [enc l,enc v]):=Zc.tp (.req (.keep (.nil))) h (by kernel_rfl)
end Go.Pl

namespace Go.Pl
open Go.RowKit
open Enc (enc dec is)
open EncL (encL decL isL)
theorem b9p: ∀ a:Fact×Unit,Yi a.1.l=true->Zc b4k 0 (Za Oq (Zg (!(Zq a.1.l)))) EW [] (Ye c4h (encL a)):=by
 rintro⟨f,⟨⟩⟩ h
 exact c9a f ⟨Zj (f.l,()) rfl h,Zh (f.l,()) rfl (ZM rfl)⟩
theorem DX{l:List Fact}(h:Zk l=true):l.length<=9223372036854775807∧ ∀ f∈l,Yi f.l=true:=by
 simp only[Zk,Bool.and_eq_true,decide_eq_true_eq,List.all_eq_true]at h
 exact h
theorem b1t(l:List Fact)(h:Zk l=true): ∀ (m i:Nat),m+i=l.length->(∀ j (hj:j<l.length),j<i->(!(Zq l[j].l))=false) ->
  At Sg 0 (Za Ha (Zg (Zz (fun f:Fact=> !(Zq f.l)) l))) KX 0 19 [(0,.pv (enc l)),(1,.pv (.fn 162)),(7,.pv (.int .i64 l.length)),(8,.pv (.int .i64 i))] []:=by
 obtain⟨hl,hs⟩:=DX h
 intro m
 induction m with
 | zero=>
  intro i hi hno
  refine a8t l i (ZK (Z4 (by omega)) (Uu ?_))
  rw[Qt _ _ (fun j hj=>hno j hj (by omega))]
 | succ m ih=>
  intro i hi hno
  have hlt:i<l.length:=by omega
  refine a8t l i (ZC (ZW hlt) ⟨Zt hlt rfl,Zx hlt ⟨Zj (l[i],()) rfl (hs _ (List.getElem_mem hlt)),Zh (l[i],()) rfl (X3 (fun hb=> ?_) fun hb=> ?_)⟩⟩)
  ·exact Uu (Qp (fun f:Fact=> !(Zq f.l)) l i hlt hno hb).symm
  ·rw[next (by omega)]
   refine ih (i+1) (by omega) fun j hj hji=> ?_
   by_cases e:j=i
   ·subst e;exact hb
   ·exact hno j hj (by omega)
theorem c1w: ∀ a:List Fact×FnV 162×Unit,Zk a.1=true->Zc Sg 0 (Za Ha (Zg (Zz (fun f:Fact=> !(Zq f.l)) a.1))) KX [] (Ye c8a (encL a)):=by
 rintro⟨l,g,⟨⟩⟩ h
 refine c8l l ?_
 rw[List.length_map]
 exact b1t l h l.length 0 (by omega) (fun j hj h=>by omega)
theorem b9g: ∀ a:List Fact×FnV 162×Unit,Zk a.1=true->Zc b2q 0 (Za Eu (Zg (a.1.any fun f:Fact=> !(Zq f.l)))) Nh [] (Ye c4q (encL a)):=by
 rintro⟨l,g,⟨⟩⟩ h
 exact c8m l ⟨Zj (l,{},()) rfl h,Zh (l,{},()) rfl (ZM (XU _ _))⟩
theorem a1x(l:List Fact)(p:Fact->Bool):(!(l.any fun f=> !(p f)))=l.all p:=by
 induction l with
 | nil=>rfl
 | cons x l ih=>simp only[List.any_cons,List.all_cons,Bool.not_or,Bool.not_not,ih]
theorem EM: ∀ a:List Fact×Unit,Zk a.1=true->Zc AX 0 (Za Da (Zg (Yq a.1))) GY [] (Ye a7h (encL a)):=by
 rintro⟨l,⟨⟩⟩ h
 exact b1l l ⟨Zj (l,{},()) rfl h,Zh (l,{},()) rfl (ZM (a1x l _))⟩
theorem b8q: ∀ args os,Ap args os=true->Zc b4x os.length (Zo os.length a0p fun r=>r=Pv args os) E8 [] (YK c5b args os):=by
 intro args os h
 unfold Ap at h
 split at h
 ·rename_i x v c
  obtain⟨x,rfl⟩:=Yr h
  exact c8k x v c (by simp only[Pv,Enc.dec_enc])
 ·cases h
theorem b1m(l:List Coef)(v:List UInt8)(c:Int)(hl:l.length<=9223372036854775807)(H:AV×List AObj×List AObj)(hH:H=(.pv (.int .i64 (Zz (fun t:Coef=>t.v.s==v) l)),[.box [.pv (.str v),.pv (.int .i64 c)]],[])): ∀ (m i:Nat),m+i=l.length->(∀ j (hj:j<l.length),j<i->(l[j].v.s==v)=false) ->
  At BP 1 (Zo 1 Hw fun r=>r=H) KD 0 19 [(0,.pv (enc l)),(1,.fn 110 [] [.ptr 0 0]),(7,.pv (.int .i64 l.length)),(8,.pv (.int .i64 i))] [.obj (.box [.pv (.str v),.pv (.int .i64 c)])]:=by
 subst hH
 intro m
 induction m with
 | zero=>
  intro i hi hno
  refine b7r l v c i (ZK (Z4 (by omega)) ?_)
  rw[Qt _ _ (fun j hj=>hno j hj (by omega))]
 | succ m ih=>
  intro i hi hno
  have hlt:i<l.length:=by omega
  refine b7r l v c i (ZC (ZW hlt) ⟨Zt hlt rfl,Zx hlt ⟨ZY l[i],X3 (fun hb=> ?_) fun hb=> ?_⟩⟩)
  ·rw[Qp (fun t:Coef=>t.v.s==v) l i hlt hno hb]
  ·rw[next (by omega)]
   refine ih (i+1) (by omega) fun j hj hji=> ?_
   by_cases e:j=i
   ·subst e;exact hb
   ·exact hno j hj (by omega)
theorem c1i: ∀ args os,Kn 110 args os=true->Zc BP os.length (Zo os.length Hw fun r=>r=CP args os) KD [] (YK c6g args os):=by
 intro args os h
 unfold Kn at h
 split at h
 ·rename_i l g v c
  simp only[Bool.and_eq_true,beq_iff_eq,decide_eq_true_eq]at h
  obtain⟨⟨rfl,hl⟩,h2⟩:=h
  obtain⟨l,rfl⟩:=Yr hl
  rw[Enc.dec_enc]at h2
  refine c9z l v c ?_
  rw[List.length_map]
  exact b1m l v c h2 _ (by simp only[CP,Enc.dec_enc]) l.length 0 (by omega) (fun j hj h=>by omega)
 ·cases h
theorem P8(v:List Coef)(s:Str):(Zz (fun t:Coef=>t.v.s==s.s) v<0∧Qm v s=none) ∨ ∃ (i:Nat) (hi:i<v.length),Zz (fun t:Coef=>t.v.s==s.s) v=i∧Qm v s=some v[i].c:=by
 unfold Zz Qm
 have hp:(fun t:Coef=>decide (t.v=s))=fun t:Coef=>t.v.s==s.s:=by
  funext t
  by_cases h:t.v=s
  ·simp[h]
  ·have : ¬ t.v.s=s.s:=fun e=>h (by cases hv:t.v;cases s;rw[hv]at e;cases e;rfl)
   simp[h,this]
 rw[hp]
 cases h:v.findIdx? (fun t:Coef=>t.v.s==s.s)with
 | none=>
  left
  refine⟨by show(-1:Int)<0;omega,?_⟩
  rw[List.findIdx?_eq_none_iff]at h
  have:v.find? (fun t:Coef=>t.v.s==s.s)=none:=List.find?_eq_none.2 fun x hx=>by simp[h x hx]
  rw[this];rfl
 | some i=>
  right
  have h':=h
  rw[List.findIdx?_eq_some_iff_getElem]at h
  obtain⟨hi,h1,h2⟩:=h
  refine⟨i,hi,rfl,?_⟩
  have:v.find? (fun t:Coef=>t.v.s==s.s)=some v[i]:=by
   rw[List.find?_eq_some_iff_getElem]
   exact⟨h1,i,hi,rfl,fun j hj=>by simpa using h2 j hj⟩
  rw[this];rfl
theorem b3o(l:Lin)(v:List Coef)(hl:l.t.length<=9223372036854775807)(hv:v.length<=9223372036854775807): ∀ (m i:Nat) (n:Int),m+i=l.t.length ->
  At Ch 0 (Za K7 (Zg (K6 v n (l.t.drop i)))) KC 0 51 [(1,.pv (enc v)),(6,.pv (.int .i64 n)),(17,.pv (enc l.t)),(18,.pv (.int .i64 l.t.length)),(19,.pv (.int .i64 i))] []:=by
 intro m
 induction m with
 | zero=>
  intro i n hi
  refine b4h l v n i (ZK (Z4 (by omega)) ?_)
  rw[List.drop_of_length_le (show l.t.length<=i by omega)]
  exact⟨rfl,rfl⟩
 | succ m ih=>
  intro i n hi
  have hlt:i<l.t.length:=by omega
  refine b4h l v n i (ZC (ZW hlt) ⟨Zt hlt rfl,Zx hlt ?_⟩)
  rw[List.drop_eq_getElem_cons hlt,K6,next (by omega)]
  have e0:PV.asStr (List.getD (PV.cells (enc l.t[i])) 0 default)=l.t[i].v.s:=rfl
  simp only[e0,Enc.dec_enc]
  refine⟨by show Kn _ [.pv (enc v),_] _=true;simp[Kn,hv],?_⟩
  rcases P8 v l.t[i].v with ⟨h1,h2⟩|⟨k,hk,h1,h2⟩
  ·rw[h2]
   exact ZC (by simpa using h1) ⟨rfl,rfl⟩
  ·rw[h2]
   simp only[h1]
   refine ZK (by simp) ⟨Zt hk rfl,Zx hk ?_⟩
   refine WJ (fun h3=> ?_) fun h3=>WJ (fun h4=> ?_) fun h4=>⟨Zt hk rfl,Zx hk ?_⟩
   ·have h3:v[k].c < -1000000000:=h3
    rw[if_pos h3];exact⟨rfl,rfl⟩
   ·have h3 : ¬ v[k].c < -1000000000:=h3
    have h4:v[k].c>1000000000:=h4
    rw[if_neg h3,if_pos h4];exact⟨rfl,rfl⟩
   ·have h3 : ¬ v[k].c < -1000000000:=h3
    have h4 : ¬ v[k].c>1000000000:=h4
    rw[if_neg h3,if_neg h4]
    exact ih (i+1) _ (by omega)
theorem c2v: ∀ a:Lin×List Coef×Unit,(Yi a.1&&decide (a.2.1.length<=9223372036854775807))=true->Zc Ch 0 (Za K7 (Zg (Yj a.1 a.2.1))) KC [] (Ye c5x (encL a)):=by
 rintro⟨l,v,⟨⟩⟩ h
 simp only[Bool.and_eq_true,decide_eq_true_eq]at h
 have hl:l.t.length<=9223372036854775807:=by
  have:=h.1
  simp only[Yi,Yt,Bool.and_eq_true,decide_eq_true_eq]at this
  exact this.1
 refine c9k l v ⟨Zj (l,()) rfl h.1,Zh (l,()) rfl ?_⟩
 show if (!Zq l)=true then Zg (Yj l v) _ else At Ch 0 (Za K7 (Zg (Yj l v))) KC 0 51 _ _
 unfold Yj
 refine X7 (fun hv=> ?_) fun hv=> ?_
 ·rw[if_neg (by rw[hv];simp)]
  exact⟨rfl,rfl⟩
 ·rw[if_pos hv,List.length_map]
  exact b3o l v hl h.2 l.t.length 0 l.k (by omega)
theorem c3y: ∀ args os,JV args os=true->Zc c5z os.length (Zo os.length b6a fun r=>r=G5 args os) b3z [] (YK c9l args os):=by
 intro args os h
 unfold JV at h
 split at h
 ·rename_i f v
  simp only[Bool.and_eq_true,decide_eq_true_eq]at h
  obtain⟨⟨⟨hf,hv⟩,h1⟩,h2⟩:=h
  obtain⟨f,rfl⟩:=Yr hf
  obtain⟨v,rfl⟩:=Yr hv
  rw[Enc.dec_enc]at h1 h2
  refine d1f f v ⟨Zj (f.l,v,()) rfl (by simp only[h1,Bool.true_and];exact decide_eq_true h2),Zh (f.l,v,()) rfl ?_⟩
  show if ((Yj f.l v).2 != 0)=true then(_:AV×List AObj×List AObj)=G5 _ _ else _
  have hval:G5 [.pv (enc f),.ptr 0 0] [.box [.pv (enc v)]]=(.pv (.bool (!Z7 f v)),[.box [.pv (enc v)]],[]):=by simp only[G5,Enc.dec_enc]
  rw[hval]
  unfold Z7
  by_cases a1:(Yj f.l v).2=0
  ·refine ZK (by simp[a1]) (WJ (fun a2=> ?_) fun a2=>X3 (fun a3=> ?_) fun a3=> ?_)
   ·have a2:(Yj f.l v).1<0:=a2
    simp[a2];rfl
   ·have a2 : ¬ (Yj f.l v).1<0:=a2
    rw[decide_eq_true a1,decide_eq_false a2,a3]
    simp only[Bool.not_false,Bool.true_and,Bool.not_true,Bool.false_or]
    rfl
   ·have a2 : ¬ (Yj f.l v).1<0:=a2
    rw[decide_eq_true a1,decide_eq_false a2,a3]
    rfl
  ·refine ZC (by simpa using a1) ?_
   rw[decide_eq_false a1]
   rfl
 ·cases h
theorem b3a(l:List Fact)(v:List Coef)(hl:Zk l=true)(hv:v.length<=9223372036854775807)(H:AV×List AObj×List AObj)(hH:H=(.pv (.int .i64 (Zz (fun f=> !Z7 f v) l)),[.box [.pv (enc v)]],[])): ∀ (m i:Nat),m+i=l.length->(∀ j (hj:j<l.length),j<i->(!Z7 l[j] v)=false) ->
  At AP 1 (Zo 1 Hf fun r=>r=H) Hq 0 19 [(0,.pv (enc l)),(1,.fn 239 [] [.ptr 0 0]),(7,.pv (.int .i64 l.length)),(8,.pv (.int .i64 i))] [.obj (.box [.pv (enc v)])]:=by
 subst hH
 obtain⟨hl,hs⟩:=DX hl
 intro m
 induction m with
 | zero=>
  intro i hi hno
  refine b4w l v i (ZK (Z4 (by omega)) ?_)
  rw[Qt _ _ (fun j hj=>hno j hj (by omega))]
  rfl
 | succ m ih=>
  intro i hi hno
  have hlt:i<l.length:=by omega
  have hsi:=hs _ (List.getElem_mem hlt)
  refine b4w l v i (ZC (ZW hlt) ⟨Zt hlt rfl,Zx hlt ⟨?_,?_⟩⟩)
  ·show JV [.pv (enc l[i]),.ptr 0 0] [.box [.pv (enc v)]]=true
   simp[JV,hsi,hv]
  ·have e:Z7 (dec (enc l[i]:PV)) (dec (enc v:PV))=Z7 l[i] v:=by rw[Enc.dec_enc,Enc.dec_enc]
   show if (!Z7 (dec (enc l[i]:PV)) (dec (enc v:PV)))=true then _ else _
   rw[e]
   refine X3 (fun hb=> ?_) fun hb=> ?_
   ·rw[Qp (fun f=> !Z7 f v) l i hlt hno hb]
    rfl
   ·rw[next (by omega)]
    refine ih (i+1) (by omega) fun j hj hji=> ?_
    by_cases e:j=i
    ·subst e;exact hb
    ·exact hno j hj (by omega)
theorem c1r: ∀ args os,WN 239 args os=true->Zc AP os.length (Zo os.length Hf fun r=>r=CQ args os) Hq [] (YK c6b args os):=by
 intro args os h
 unfold WN at h
 split at h
 ·rename_i l g v
  simp only[Bool.and_eq_true,beq_iff_eq,decide_eq_true_eq]at h
  obtain⟨⟨⟨⟨rfl,hl⟩,hv⟩,h1⟩,h2⟩:=h
  obtain⟨l,rfl⟩:=Yr hl
  obtain⟨v,rfl⟩:=Yr hv
  rw[Enc.dec_enc]at h1 h2
  refine c9n l v ?_
  rw[List.length_map]
  exact b3a l v h1 h2 _ (by simp only[CQ,Enc.dec_enc]) l.length 0 (by omega) (fun j hj h=>by omega)
 ·cases h
theorem b8k: ∀ args os,WN 239 args os=true->Zc b2l os.length (Zo os.length OT fun r=>r=CS args os) O9 [] (YK c6r args os):=by
 intro args os h
 have h':=h
 unfold WN at h
 split at h
 ·rename_i l g v
  simp only[Bool.and_eq_true,beq_iff_eq,decide_eq_true_eq]at h
  obtain⟨⟨⟨⟨rfl,hl⟩,hv⟩,h1⟩,h2⟩:=h
  obtain⟨l,rfl⟩:=Yr hl
  obtain⟨v,rfl⟩:=Yr hv
  refine c8t l v ⟨h',?_⟩
  simp only[CS,Enc.dec_enc,XU]
  rfl
 ·cases h
theorem Eo: ∀ a:List Fact×List Coef×Unit,(Zk a.1&&decide (a.2.1.length<=9223372036854775807))=true->Zc SC 0 (Za G6 (Zg (a.1.all fun f=>Z7 f a.2.1))) DC [] (Ye a3t (encL a)):=by
 rintro⟨l,v,⟨⟩⟩ h
 refine b6s l v ⟨?_,?_⟩
 ·show WN _ [.pv (enc l),_] [.box [.pv (enc v)]]=true
  simpa [WN]using h
 ·rw[Enc.dec_enc,Enc.dec_enc]
  exact ZM (a1x l _)
end Go.Pl

namespace Go.Pl
open Go.RowKit
open Enc (enc dec is)
open EncL (encL decL isL)
set_option maxRecDepth 100000
end Go.Pl

namespace Go.Pl
open Go.RowKit
open Enc (enc dec is)
open EncL (encL decL isL)
end Go.Pl

namespace Go.Pl
open Go.RowKit
open Enc (enc dec is)
open EncL (encL decL isL)
mutual
def EL:Cert->Int->Bool
 | .mk _ m l ks,n=> !decide ((m.length:Int)>60)&&(Gb l 8&&(!decide (n<1)&&(!decide ((ks.length:Int)>n)&&Cx ks n)))
def Cx:List Cert->Int->Bool
 | [],_=>true
 | c::cs,n=>EL c (DJ (n - 1))&&Cx cs (DJ (n - AJ c))
end
end Go.Pl

namespace Go.Pl
open Go.RowKit
open Enc (enc dec is)
open EncL (encL decL isL)
set_option maxRecDepth 100000
def U9:IC:=(.seq (.reg [⟨(some 2),(.mv (.c (.bool false))),0,none⟩] none) (.seq (.seq (.reg [⟨(some 3),(.mv (.c (.int .i64 0))),0,none⟩] none) (.block 0 (.loop [3,0] (.seq (.seq (.reg [⟨(some 4),(.mv (.t 3)),0,none⟩,⟨(some 5),(.mv (.t 0)),0,none⟩,⟨(some 6),(.len 1 (.t 5)),0,none⟩,⟨(some 7),(.bin .num .lss (.t 4) (.t 6)),0,none⟩] none) (.cond (.t 7) .skip (.exit 0))) (.seq (.block 1 (.seq (.reg [⟨(some 10),(.mv (.t 0)),0,none⟩,⟨(some 11),(.mv (.t 3)),0,none⟩,⟨(some 12),(.iaddr 3 (.t 10) (.t 11)),0,none⟩,⟨(some 13),(.faddr 1 (.t 12)),0,none⟩,⟨(some 14),(.load true [(.int .i64),(.sl 2)] (.t 13)),0,none⟩,⟨(some 15),(.call (.c (.fn 20)) [(.t 14)]),0,none⟩,⟨(some 16),(.un .not (.t 15)),2,none⟩] none) (.cond (.t 16) (.seq (.reg [⟨(some 2),(.mv (.c (.bool false))),0,none⟩] none) .ret) .skip))) (.reg [⟨(some 8),(.mv (.t 3)),0,none⟩,⟨(some 9),(.bin .num .add (.t 8) (.c (.int .i64 1))),0,none⟩,⟨(some 3),(.mv (.t 9)),0,none⟩] none)))))) (.seq (.reg [⟨(some 2),(.mv (.c (.bool true))),0,none⟩] none) .ret)))
def UX:List IRes:=[(.tmp 2)]
abbrev a9q:Nat:=17
def Kh:ZF:=Xe [(20,.pure (preT (fun x:Lin×Unit=>Yt x.1)) (Zf (fun x:Lin×Unit=>Zq x.1)))]
theorem c3e{G:PV->Prop}(l:List Fact)(h:At Kh 0 (Za UX G) U9 0 17 [(0,(.pv (.sl 3 false (List.map enc l)))),(3,(.pv (.int .i64 0)))] []):Zc Kh 0 (Za UX G) U9 [] (Ye 17 [enc l]):=Zc.tp (.nil) h (by kernel_rfl)
theorem Ml{G:PV->Prop}(l:List Fact)(i:Int)(h:if (decide (i<(↑(List.length (List.map enc l)):Int)))=true then(decide (0<=i)&&decide (Int.toNat i<List.length (List.map enc l))&&Enc.sz Fact==3)=true∧(∃ y0:Fact,AV.pv (PV.rptr (PV.cells (List.getD (List.map enc l) (Int.toNat i) default)))=AV.pv (PV.rptr (PV.cells ((enc) y0)))∧((Go.Pl.preT (fun(x:Lin×Unit)=>Yt x.1) [(.agg [(.int .i64 (PV.asInt (List.getD (List.drop 1 (PV.cells (enc y0))) 0 default))),(.sl 2 false (PV.asXs (List.getD (List.drop 1 (PV.cells (enc y0))) (0+1) default)))])])=true∧(∃ y1:Bool,AV.pv (Zf (fun(x:Lin×Unit)=>Zq x.1) [(.agg [(.int .i64 (PV.asInt (List.getD (List.drop 1 (PV.cells (enc y0))) 0 default))),(.sl 2 false (PV.asXs (List.getD (List.drop 1 (PV.cells (enc y0))) (0+1) default)))])])=AV.pv (enc y1)∧(if (!y1)=true then G ((.bool false))else(At Kh 0 (Za UX G) U9 0 17 [(0,(.pv (.sl 3 false (List.map enc l)))),(3,(.pv (.int .i64 (IntKind.wrap IntKind.i64 (i+1)))))] [])))))else(G ((.bool true)))):At Kh 0 (Za UX G) U9 0 17 [(0,.pv (enc l)),(3,.pv (.int .i64 i))] []:=At.tp (.lit (.ask (.req (.abs (Fact) (fun YY=>AV.pv (PV.rptr (PV.cells ((enc) YY)))) (.lit (.req (.abs (Bool) (fun YY=>AV.pv (enc YY)) (.ask (.nil) (.lit (.nil)))))))) (.nil))) h (by kernel_rfl)
end Go.Pl

namespace Go.Pl
open Go.RowKit
open Enc (enc dec is)
open EncL (encL decL isL)
set_option maxRecDepth 100000
def NJ:IC:=(.seq (.reg [⟨(some 2),(.mv (.c (.bool false))),0,none⟩] none) (.seq (.reg [⟨(some 3),(.mv (.t 0)),0,none⟩,⟨(some 4),(.bin .num .geq (.t 3) (.c (.int .u8 48))),0,none⟩,⟨(some 5),(.mv (.t 4)),0,none⟩,⟨(some 6),(.mv (.t 0)),0,(some (5,true))⟩,⟨(some 7),(.bin .num .leq (.t 6) (.c (.int .u8 57))),0,(some (5,true))⟩,⟨(some 8),(.pick (.t 5) (.t 7) (.c (.bool false))),0,none⟩,⟨(some 2),(.mv (.t 8)),0,none⟩] none) .ret))
def NU:List IRes:=[(.tmp 2)]
abbrev c0m:Nat:=9
def OE:ZF:=Xe []
theorem c5i{G:PV->Prop}(c:UInt8)(h:if (decide ((↑(UInt8.toNat c):Int) ≥ 48))=true then G ((.bool (decide ((↑(UInt8.toNat c):Int)<=57))))else(G ((.bool false)))):Zc OE 0 (Za NU G) NJ [] (Ye 9 [enc c]):=Zc.tp (.lit (.ask (.lit (.lit (.lit (.nil)))) (.lit (.lit (.nil))))) h (by kernel_rfl)
def PG:IC:=(.seq (.reg [⟨(some 2),(.mv (.c (.bool false))),0,none⟩] none) (.seq (.reg [⟨(some 3),(.mv (.t 0)),0,none⟩,⟨(some 4),(.bin .num .geq (.t 3) (.c (.int .u8 97))),0,none⟩,⟨(some 5),(.mv (.t 4)),0,none⟩,⟨(some 6),(.mv (.t 0)),0,(some (5,true))⟩,⟨(some 7),(.bin .num .leq (.t 6) (.c (.int .u8 122))),0,(some (5,true))⟩,⟨(some 8),(.pick (.t 5) (.t 7) (.c (.bool false))),0,none⟩,⟨(some 2),(.mv (.t 8)),0,none⟩] none) .ret))
def NK:List IRes:=[(.tmp 2)]
abbrev c0x:Nat:=9
def Ej:ZF:=Xe []
theorem c4o{G:PV->Prop}(c:UInt8)(h:if (decide ((↑(UInt8.toNat c):Int) ≥ 97))=true then G ((.bool (decide ((↑(UInt8.toNat c):Int)<=122))))else(G ((.bool false)))):Zc Ej 0 (Za NK G) PG [] (Ye 9 [enc c]):=Zc.tp (.lit (.ask (.lit (.lit (.lit (.nil)))) (.lit (.lit (.nil))))) h (by kernel_rfl)
def Jn:IC:=(.seq (.reg [⟨(some 2),(.mv (.c (.bool false))),0,none⟩] none) (.seq (.reg [⟨(some 3),(.mv (.t 0)),0,none⟩,⟨(some 4),(.bin .num .geq (.t 3) (.c (.int .i64 (-1000000)))),0,none⟩,⟨(some 5),(.mv (.t 4)),0,none⟩,⟨(some 6),(.mv (.t 0)),0,(some (5,true))⟩,⟨(some 7),(.bin .num .leq (.t 6) (.c (.int .i64 1000000))),0,(some (5,true))⟩,⟨(some 8),(.pick (.t 5) (.t 7) (.c (.bool false))),0,none⟩,⟨(some 2),(.mv (.t 8)),0,none⟩] none) .ret))
def Dm:List IRes:=[(.tmp 2)]
abbrev a8k:Nat:=9
def BO:ZF:=Xe []
theorem b3y{G:PV->Prop}(n:Int)(h:if (decide (n ≥ (-1000000:Int)))=true then G ((.bool (decide (n<=1000000))))else(G ((.bool false)))):Zc BO 0 (Za Dm G) Jn [] (Ye 9 [enc n]):=Zc.tp (.lit (.ask (.lit (.lit (.lit (.nil)))) (.lit (.lit (.nil))))) h (by kernel_rfl)
def O5:IC:=Jn
def EC:List IRes:=[(.tmp 2)]
abbrev c4l:Nat:=9
def b5w:ZF:=Xe []
theorem c9s{G:PV->Prop}(n:Int)(h:if (decide (n ≥ (-1000000:Int)))=true then G ((.bool (decide (n<=1000000))))else(G ((.bool false)))):Zc b5w 0 (Za EC G) O5 [] (Ye 9 [enc n]):=Zc.tp (.lit (.ask (.lit (.lit (.lit (.nil)))) (.lit (.lit (.nil))))) h (by kernel_rfl)
def XK:IC:=(.seq (.reg [⟨(some 2),(.mv (.c (.bool false))),0,none⟩] none) (.seq (.seq (.reg [⟨(some 5),(.mv (.t 0)),0,none⟩,⟨(some 6),(.len 0 (.t 5)),0,none⟩,⟨(some 7),(.bin .num .eql (.t 6) (.c (.int .i64 0))),0,none⟩,⟨(some 8),(.mv (.t 7)),0,none⟩,⟨(some 9),(.mv (.t 0)),0,(some (8,false))⟩,⟨(some 10),(.len 0 (.t 9)),0,(some (8,false))⟩,⟨(some 11),(.bin .num .gtr (.t 10) (.c (.int .i64 30))),0,(some (8,false))⟩,⟨(some 12),(.pick (.t 8) (.c (.bool true)) (.t 11)),0,none⟩] none) (.cond (.t 12) (.seq (.reg [⟨(some 2),(.mv (.c (.bool false))),0,none⟩] none) .ret) .skip)) (.seq (.seq (.reg [⟨(some 13),(.mv (.t 0)),0,none⟩,⟨(some 14),(.index (.t 13) (.c (.int .i64 0))),0,none⟩,⟨(some 15),(.bin .num .eql (.t 14) (.c (.int .u8 95))),0,none⟩] none) (.cond (.t 15) (.seq (.seq (.reg [⟨(some 16),(.mv (.t 0)),0,none⟩,⟨(some 17),(.len 0 (.t 16)),0,none⟩,⟨(some 18),(.bin .num .lss (.t 17) (.c (.int .i64 2))),0,none⟩,⟨(some 19),(.mv (.t 18)),0,none⟩,⟨(some 20),(.mv (.t 0)),0,(some (19,false))⟩,⟨(some 21),(.len 0 (.t 20)),0,(some (19,false))⟩,⟨(some 22),(.bin .num .gtr (.t 21) (.c (.int .i64 10))),0,(some (19,false))⟩,⟨(some 23),(.pick (.t 19) (.c (.bool true)) (.t 22)),0,none⟩,⟨(some 24),(.mv (.t 23)),0,none⟩,⟨(some 25),(.mv (.t 0)),0,(some (24,false))⟩,⟨(some 26),(.index (.t 25) (.c (.int .i64 1))),0,(some (24,false))⟩,⟨(some 27),(.bin .num .eql (.t 26) (.c (.int .u8 48))),0,(some (24,false))⟩,⟨(some 28),(.pick (.t 24) (.c (.bool true)) (.t 27)),0,none⟩] none) (.cond (.t 28) (.seq (.reg [⟨(some 2),(.mv (.c (.bool false))),0,none⟩] none) .ret) .skip)) (.seq (.seq (.reg [⟨(some 3),(.mv (.c (.int .i64 1))),0,none⟩] none) (.block 0 (.loop [3,0] (.seq (.seq (.reg [⟨(some 29),(.mv (.t 3)),0,none⟩,⟨(some 30),(.mv (.t 0)),0,none⟩,⟨(some 31),(.len 0 (.t 30)),0,none⟩,⟨(some 32),(.bin .num .lss (.t 29) (.t 31)),0,none⟩] none) (.cond (.t 32) .skip (.exit 0))) (.seq (.block 1 (.seq (.reg [⟨(some 35),(.mv (.t 0)),0,none⟩,⟨(some 36),(.mv (.t 3)),0,none⟩,⟨(some 37),(.index (.t 35) (.t 36)),0,none⟩,⟨(some 38),(.call (.c (.fn 155)) [(.t 37)]),0,none⟩,⟨(some 39),(.un .not (.t 38)),2,none⟩] none) (.cond (.t 39) (.seq (.reg [⟨(some 2),(.mv (.c (.bool false))),0,none⟩] none) .ret) .skip))) (.reg [⟨(some 33),(.mv (.t 3)),0,none⟩,⟨(some 34),(.bin .num .add (.t 33) (.c (.int .i64 1))),0,none⟩,⟨(some 3),(.mv (.t 34)),0,none⟩] none)))))) (.seq (.reg [⟨(some 2),(.mv (.c (.bool true))),0,none⟩] none) .ret))) .skip)) (.seq (.seq (.reg [⟨(some 4),(.mv (.c (.int .i64 0))),0,none⟩] none) (.block 2 (.loop [4,0] (.seq (.seq (.reg [⟨(some 40),(.mv (.t 4)),0,none⟩,⟨(some 41),(.mv (.t 0)),0,none⟩,⟨(some 42),(.len 0 (.t 41)),0,none⟩,⟨(some 43),(.bin .num .lss (.t 40) (.t 42)),0,none⟩] none) (.cond (.t 43) .skip (.exit 2))) (.seq (.block 3 (.seq (.reg [⟨(some 46),(.mv (.t 0)),0,none⟩,⟨(some 47),(.mv (.t 4)),0,none⟩,⟨(some 48),(.index (.t 46) (.t 47)),0,none⟩,⟨(some 49),(.call (.c (.fn 156)) [(.t 48)]),0,none⟩,⟨(some 50),(.un .not (.t 49)),2,none⟩,⟨(some 51),(.mv (.t 50)),2,none⟩,⟨(some 52),(.mv (.t 4)),2,(some (51,true))⟩,⟨(some 53),(.bin .num .eql (.t 52) (.c (.int .i64 0))),2,(some (51,true))⟩,⟨(some 54),(.mv (.t 53)),2,(some (51,true))⟩,⟨(some 55),(.mv (.t 0)),2,(some (54,false))⟩,⟨(some 56),(.mv (.t 4)),2,(some (54,false))⟩,⟨(some 57),(.index (.t 55) (.t 56)),2,(some (54,false))⟩,⟨(some 58),(.call (.c (.fn 155)) [(.t 57)]),2,(some (54,false))⟩,⟨(some 59),(.un .not (.t 58)),4,(some (54,false))⟩,⟨(some 60),(.pick (.t 54) (.c (.bool true)) (.t 59)),4,(some (51,true))⟩,⟨(some 61),(.pick (.t 51) (.t 60) (.c (.bool false))),4,none⟩] none) (.cond (.t 61) (.seq (.reg [⟨(some 2),(.mv (.c (.bool false))),0,none⟩] none) .ret) .skip))) (.reg [⟨(some 44),(.mv (.t 4)),0,none⟩,⟨(some 45),(.bin .num .add (.t 44) (.c (.int .i64 1))),0,none⟩,⟨(some 4),(.mv (.t 45)),0,none⟩] none)))))) (.seq (.reg [⟨(some 2),(.mv (.c (.bool true))),0,none⟩] none) .ret)))))
def XL:List IRes:=[(.tmp 2)]
abbrev b2t:Nat:=62
def WS:ZF:=Xe [(155,.pure (preT (fun _:UInt8×Unit=>true)) (Zf (fun x:UInt8×Unit=>Wm x.1))),(156,.pure (preT (fun _:UInt8×Unit=>true)) (Zf (fun x:UInt8×Unit=>WM x.1)))]
theorem b9j{G:PV->Prop}(s:List UInt8)(h:if ((↑(List.length s):Int)==0)=true then G ((.bool false))else(if (decide ((↑(List.length s):Int)>30))=true then G ((.bool false))else((decide (0<=0)&&decide (Int.toNat 0<List.length s))=true∧(if ((↑(UInt8.toNat (List.getD s (Int.toNat 0) (0:UInt8))):Int)==95)=true then if (decide ((↑(List.length s):Int)<2))=true then G ((.bool false))else(if (decide ((↑(List.length s):Int)>10))=true then G ((.bool false))else((decide (0<=1)&&decide (Int.toNat 1<List.length s))=true∧(if ((↑(UInt8.toNat (List.getD s (Int.toNat 1) (0:UInt8))):Int)==48)=true then G ((.bool false))else(At WS 0 (Za XL G) XK 0 62 [(0,(.pv (.str s))),(3,(.pv (.int .i64 1)))] []))))else(At WS 0 (Za XL G) XK 1 62 [(0,(.pv (.str s))),(4,(.pv (.int .i64 0)))] []))))):Zc WS 0 (Za XL G) XK [] (Ye 62 [.str s]):=Zc.tp (.lit (.ask (.lit (.lit (.lit (.lit (.nil))))) (.lit (.lit (.lit (.lit (.ask (.nil) (.req (.lit (.ask (.lit (.ask (.lit (.lit (.lit (.lit (.lit (.lit (.lit (.lit (.nil))))))))) (.lit (.lit (.lit (.lit (.ask (.lit (.lit (.lit (.lit (.nil))))) (.lit (.req (.lit (.lit (.lit (.ask (.nil) (.nil)))))))))))))) (.nil))))))))))) h (by kernel_rfl)
theorem LY{G:PV->Prop}(s:List UInt8)(i:Int)(h:if (decide (i<(↑(List.length s):Int)))=true then(decide (0<=i)&&decide (Int.toNat i<List.length s))=true∧((Go.Pl.preT (fun(x:UInt8×Unit)=>true) [(.int IntKind.u8 (↑(UInt8.toNat (List.getD s (Int.toNat i) (0:UInt8))):Int))])=true∧(∃ y0:Bool,AV.pv (Zf (fun(x:UInt8×Unit)=>Wm x.1) [(.int IntKind.u8 (↑(UInt8.toNat (List.getD s (Int.toNat i) (0:UInt8))):Int))])=AV.pv (enc y0)∧(if (!y0)=true then G ((.bool false))else(At WS 0 (Za XL G) XK 0 62 [(0,(.pv (.str s))),(3,(.pv (.int .i64 (IntKind.wrap IntKind.i64 (i+1)))))] []))))else(G ((.bool true)))):At WS 0 (Za XL G) XK 0 62 [(0,.pv (.str s)),(3,.pv (.int .i64 i))] []:=At.tp (.lit (.ask (.req (.req (.abs (Bool) (fun YY=>AV.pv (enc YY)) (.ask (.nil) (.lit (.nil)))))) (.nil))) h (by kernel_rfl)
theorem SH{G:PV->Prop}(s:List UInt8)(i:Int)(h:if (decide (i<(↑(List.length s):Int)))=true then(decide (0<=i)&&decide (Int.toNat i<List.length s))=true∧((Go.Pl.preT (fun(x:UInt8×Unit)=>true) [(.int IntKind.u8 (↑(UInt8.toNat (List.getD s (Int.toNat i) (0:UInt8))):Int))])=true∧(∃ y0:Bool,AV.pv (Zf (fun(x:UInt8×Unit)=>WM x.1) [(.int IntKind.u8 (↑(UInt8.toNat (List.getD s (Int.toNat i) (0:UInt8))):Int))])=AV.pv (enc y0)∧(if (!y0)=true then if (i==0)=true then G ((.bool false))else((decide (0<=i)&&decide (Int.toNat i<List.length s))=true∧((Go.Pl.preT (fun(x:UInt8×Unit)=>true) [(.int IntKind.u8 (↑(UInt8.toNat (List.getD s (Int.toNat i) (0:UInt8))):Int))])=true∧(∃ y1:Bool,AV.pv (Zf (fun(x:UInt8×Unit)=>Wm x.1) [(.int IntKind.u8 (↑(UInt8.toNat (List.getD s (Int.toNat i) (0:UInt8))):Int))])=AV.pv (enc y1)∧(if (!y1)=true then G ((.bool false))else(At WS 0 (Za XL G) XK 1 62 [(0,(.pv (.str s))),(4,(.pv (.int .i64 (IntKind.wrap IntKind.i64 (i+1)))))] [])))))else(At WS 0 (Za XL G) XK 1 62 [(0,(.pv (.str s))),(4,(.pv (.int .i64 (IntKind.wrap IntKind.i64 (i+1)))))] []))))else(G ((.bool true)))):At WS 0 (Za XL G) XK 1 62 [(0,.pv (.str s)),(4,.pv (.int .i64 i))] []:=At.tp (.lit (.ask (.req (.req (.abs (Bool) (fun YY=>AV.pv (enc YY)) (.ask (.lit (.lit (.lit (.ask (.lit (.lit (.lit (.lit (.lit (.lit (.lit (.lit (.nil))))))))) (.lit (.lit (.req (.lit (.req (.abs (Bool) (fun YY=>AV.pv (enc YY)) (.lit (.lit (.lit (.lit (.ask (.nil) (.lit (.nil))))))))))))))))) (.lit (.lit (.lit (.lit (.lit (.lit (.nil))))))))))) (.nil))) h (by kernel_rfl)
def Wh:IC:=(.seq (.reg [⟨(some 1),(.box 2 (.t 0)),0,none⟩,⟨(some 2),(.mv (.c (.bool false))),1,none⟩] none) (.seq (.seq (.reg [⟨(some 5),(.faddr 0 (.t 1)),0,none⟩,⟨(some 6),(.load false [(.int .i64)] (.t 5)),0,none⟩,⟨(some 7),(.call (.c (.fn 83)) [(.t 6)]),0,none⟩,⟨(some 8),(.un .not (.t 7)),2,none⟩,⟨(some 9),(.mv (.t 8)),2,none⟩,⟨(some 10),(.faddr 1 (.t 1)),2,(some (9,false))⟩,⟨(some 11),(.load false [(.sl 2)] (.t 10)),2,(some (9,false))⟩,⟨(some 12),(.len 1 (.t 11)),2,(some (9,false))⟩,⟨(some 13),(.bin .num .gtr (.t 12) (.c (.int .i64 12))),2,(some (9,false))⟩,⟨(some 14),(.pick (.t 9) (.c (.bool true)) (.t 13)),2,none⟩] none) (.cond (.t 14) (.seq (.reg [⟨(some 2),(.mv (.c (.bool false))),0,none⟩] none) .ret) .skip)) (.seq (.seq (.reg [⟨(some 3),(.mv (.c (.int .i64 0))),0,none⟩] none) (.block 0 (.loop [3,1] (.seq (.seq (.reg [⟨(some 15),(.mv (.t 3)),0,none⟩,⟨(some 16),(.faddr 1 (.t 1)),0,none⟩,⟨(some 17),(.load false [(.sl 2)] (.t 16)),0,none⟩,⟨(some 18),(.len 1 (.t 17)),0,none⟩,⟨(some 19),(.bin .num .lss (.t 15) (.t 18)),0,none⟩] none) (.cond (.t 19) .skip (.exit 0))) (.seq (.block 1 (.seq (.reg [⟨(some 22),(.faddr 1 (.t 1)),0,none⟩,⟨(some 23),(.load false [(.sl 2)] (.t 22)),0,none⟩,⟨(some 24),(.mv (.t 3)),0,none⟩,⟨(some 25),(.iaddr 2 (.t 23) (.t 24)),0,none⟩,⟨(some 26),(.load true [.str,(.int .i64)] (.t 25)),0,none⟩,⟨(some 4),(.alloc (.agg [(.str []),(.int .i64 0)])),0,none⟩,⟨none,(.store 2 (.t 4) (.t 26)),1,none⟩] none) (.seq (.reg [⟨(some 27),(.faddr 0 (.t 4)),0,none⟩,⟨(some 28),(.load false [.str] (.t 27)),0,none⟩,⟨(some 29),(.call (.c (.fn 84)) [(.t 28)]),0,none⟩,⟨(some 30),(.un .not (.t 29)),2,none⟩,⟨(some 31),(.mv (.t 30)),2,none⟩,⟨(some 32),(.faddr 1 (.t 4)),2,(some (31,false))⟩,⟨(some 33),(.load false [(.int .i64)] (.t 32)),2,(some (31,false))⟩,⟨(some 34),(.bin .num .eql (.t 33) (.c (.int .i64 0))),2,(some (31,false))⟩,⟨(some 35),(.pick (.t 31) (.c (.bool true)) (.t 34)),2,none⟩,⟨(some 36),(.mv (.t 35)),2,none⟩,⟨(some 37),(.faddr 1 (.t 4)),2,(some (36,false))⟩,⟨(some 38),(.load false [(.int .i64)] (.t 37)),2,(some (36,false))⟩,⟨(some 39),(.call (.c (.fn 83)) [(.t 38)]),2,(some (36,false))⟩,⟨(some 40),(.un .not (.t 39)),4,(some (36,false))⟩,⟨(some 41),(.pick (.t 36) (.c (.bool true)) (.t 40)),4,none⟩,⟨(some 42),(.mv (.t 41)),4,none⟩,⟨(some 43),(.mv (.t 3)),4,(some (42,false))⟩,⟨(some 44),(.bin .num .gtr (.t 43) (.c (.int .i64 0))),4,(some (42,false))⟩,⟨(some 45),(.mv (.t 44)),4,(some (42,false))⟩,⟨(some 46),(.faddr 1 (.t 1)),4,(some (45,true))⟩,⟨(some 47),(.load false [(.sl 2)] (.t 46)),4,(some (45,true))⟩,⟨(some 48),(.mv (.t 3)),4,(some (45,true))⟩,⟨(some 49),(.bin .num .sub (.t 48) (.c (.int .i64 1))),4,(some (45,true))⟩,⟨(some 50),(.iaddr 2 (.t 47) (.t 49)),4,(some (45,true))⟩,⟨(some 51),(.faddr 0 (.t 50)),4,(some (45,true))⟩,⟨(some 52),(.load false [.str] (.t 51)),4,(some (45,true))⟩,⟨(some 53),(.faddr 0 (.t 4)),4,(some (45,true))⟩,⟨(some 54),(.load false [.str] (.t 53)),4,(some (45,true))⟩,⟨(some 55),(.bin .num .geq (.t 52) (.t 54)),4,(some (45,true))⟩,⟨(some 56),(.pick (.t 45) (.t 55) (.c (.bool false))),4,(some (42,false))⟩,⟨(some 57),(.pick (.t 42) (.c (.bool true)) (.t 56)),4,none⟩] (some [[],[0],[1,0],[2,1,0],[3,2,1,0],[4,3,2,1,0],[5,4,3,2,1,0],[6,4,5,3,2,1,0],[4,7,3,2,1,0,6,5],[8,4,7,3,2,1,0,6,5],[9,8,4,7,3,2,1,0,6,5],[10,9,8,4,7,3,2,1,0,6,5],[11,9,10,8,4,7,3,2,1,0,6,5],[12,9,11,10,8,4,7,3,2,1,0,6,5],[9,13,8,4,7,3,2,1,0,6,5,12,11,10],[14,12,9,13,8,4,7,3,2,1,0,6,5,11,10],[15,14,12,9,13,8,4,7,3,2,1,0,6,5,11,10],[16,15,14,12,9,13,8,4,7,3,2,1,0,6,5,11,10],[17,15,16,14,12,9,13,8,4,7,3,2,1,0,6,5,11,10],[18,17,15,16,14,12,9,13,8,4,7,3,2,1,0,6,5,11,10],[19,18,17,15,16,14,12,9,13,8,4,7,3,2,1,0,6,5,11,10],[18,17,15,16,14,12,9,13,8,4,7,3,2,1,0,6,5,11,10],[21,18,17,15,16,14,12,9,13,8,4,7,3,2,1,0,6,5,11,10],[20,22,18,19,17,15,16,14,12,9,13,8,4,7,3,2,1,0,6,5,11,10,21],[23,18,20,22,19,17,15,16,14,12,9,13,8,4,7,3,2,1,0,6,5,11,10,21],[24,18,23,20,22,19,17,15,16,14,12,9,13,8,4,7,3,2,1,0,6,5,11,10,21],[18,17,15,16,14,12,9,13,8,4,7,3,2,1,0,6,5,11,10],[26,18,17,15,16,14,12,9,13,8,4,7,3,2,1,0,6,5,11,10],[25,27,18,24,23,20,22,19,17,15,16,14,12,9,13,8,4,7,3,2,1,0,6,5,11,10,21,26],[18,28,15,17,16,14,12,9,13,8,4,7,3,2,1,0,6,5,11,10,25,27,24,23,20,22,19,21,26],[15,29,14,12,9,13,8,4,7,3,2,1,0,6,5,11,10,18,28,17,16,25,27,24,23,20,22,19,21,26]])) (.cond (.t 57) (.seq (.reg [⟨(some 2),(.mv (.c (.bool false))),0,none⟩] none) .ret) .skip)))) (.reg [⟨(some 20),(.mv (.t 3)),0,none⟩,⟨(some 21),(.bin .num .add (.t 20) (.c (.int .i64 1))),0,none⟩,⟨(some 3),(.mv (.t 21)),0,none⟩] none)))))) (.seq (.reg [⟨(some 2),(.mv (.c (.bool true))),0,none⟩] none) .ret))))
def Wj:List IRes:=[(.tmp 2)]
abbrev a5c:Nat:=58
def Vl:ZF:=Xe [(83,.pure (preT (fun _:Int×Unit=>true)) (Zf (fun x:Int×Unit=>YE x.1))),(84,.pure (preT (fun _:Str×Unit=>true)) (Zf (fun x:Str×Unit=>ZE x.1)))]
theorem b2p{G:PV->Prop}(l:Lin)(h : ∃ y0:Bool,AV.pv (Zf (fun(x:Int×Unit)=>YE x.1) [(.int .i64 l.k)])=AV.pv (enc y0)∧(if (!y0)=true then G ((.bool false))else(if (decide ((↑(List.length (List.map enc l.t)):Int)>12))=true then G ((.bool false))else(At Vl 0 (Za Wj G) Wh 0 58 [(1,(.ptr 0 0)),(3,(.pv (.int .i64 0)))] [(.obj (.box [(.pv (.int .i64 l.k)),(.pv (.sl 2 false (List.map enc l.t)))]))])))):Zc Vl 0 (Za Wj G) Wh [] (Ye 58 [enc l]):=Zc.tp (.lit (.abs (Bool) (fun YY=>AV.pv (enc YY)) (.ask (.lit (.lit (.lit (.lit (.lit (.nil)))))) (.lit (.lit (.lit (.lit (.lit (.ask (.nil) (.nil)))))))))) h (by kernel_rfl)
theorem RF{G:PV->Prop}(l:Lin)(i:Int)(h:if (decide (i<(↑(List.length (List.map enc l.t)):Int)))=true then(decide (0<=i)&&decide (Int.toNat i<List.length (List.map enc l.t))&&Enc.sz Coef==2)=true∧(∃ y0:Coef,AV.pv (PV.rptr (PV.cells (List.getD (List.map enc l.t) (Int.toNat i) default)))=AV.pv (PV.rptr (PV.cells ((enc) y0)))∧(∃ y1:Bool,AV.pv (Zf (fun(x:Str×Unit)=>ZE x.1) [(.str (PV.asStr (List.getD (PV.cells (enc y0)) 0 default)))])=AV.pv (enc y1)∧(if (!y1)=true then G ((.bool false))else(if (PV.asInt (List.getD (PV.cells (enc y0)) (0+1) default)==0)=true then G ((.bool false))else(∃ y2:Bool,AV.pv (Zf (fun(x:Int×Unit)=>YE x.1) [(.int .i64 (PV.asInt (List.getD (PV.cells (enc y0)) (0+1) default)))])=AV.pv (enc y2)∧(if (!y2)=true then G ((.bool false))else(if (decide (i>0))=true then(decide (0<=IntKind.wrap IntKind.i64 (i - 1))&&decide (Int.toNat (IntKind.wrap IntKind.i64 (i - 1))<List.length (List.map enc l.t))&&Enc.sz Coef==2)=true∧(∃ y3:Coef,AV.pv (PV.rptr (PV.cells (List.getD (List.map enc l.t) (Int.toNat (IntKind.wrap IntKind.i64 (i - 1))) default)))=AV.pv (PV.rptr (PV.cells ((enc) y3)))∧(if (!Op.bytesLess (PV.asStr (List.getD (List.drop 0 (PV.cells (enc y3))) 0 default)) (PV.asStr (List.getD (PV.cells (enc y0)) 0 default)))=true then G ((.bool false))else(At Vl 0 (Za Wj G) Wh 0 58 [(1,(.ptr 0 0)),(3,(.pv (.int .i64 (IntKind.wrap IntKind.i64 (i+1)))))] [(.obj (.box [(.pv (.int .i64 l.k)),(.pv (.sl 2 false (List.map enc l.t)))]))])))else(At Vl 0 (Za Wj G) Wh 0 58 [(1,(.ptr 0 0)),(3,(.pv (.int .i64 (IntKind.wrap IntKind.i64 (i+1)))))] [(.obj (.box [(.pv (.int .i64 l.k)),(.pv (.sl 2 false (List.map enc l.t)))]))]))))))))else(G ((.bool true)))):At Vl 0 (Za Wj G) Wh 0 58 [(1,.ptr 0 0),(3,.pv (.int .i64 i))] [.obj (.box [.pv (.int .i64 l.k),.pv (enc l.t)])]:=At.tp (.lit (.ask (.req (.abs (Coef) (fun YY=>AV.pv (PV.rptr (PV.cells ((enc) YY)))) (.lit (.lit (.abs (Bool) (fun YY=>AV.pv (enc YY)) (.ask (.lit (.lit (.lit (.lit (.lit (.lit (.lit (.lit (.lit (.lit (.lit (.lit (.lit (.lit (.nil))))))))))))))) (.lit (.lit (.lit (.lit (.ask (.lit (.lit (.lit (.lit (.lit (.lit (.lit (.lit (.lit (.lit (.nil))))))))))) (.lit (.lit (.lit (.abs (Bool) (fun YY=>AV.pv (enc YY)) (.lit (.lit (.ask (.lit (.lit (.lit (.lit (.lit (.nil)))))) (.lit (.lit (.lit (.ask (.lit (.lit (.lit (.lit (.lit (.req (.abs (Coef) (fun YY=>AV.pv (PV.rptr (PV.cells ((enc) YY)))) (.lit (.lit (.lit (.lit (.lit (.lit (.lit (.lit (.lit (.lit (.ask (.nil) (.lit (.nil)))))))))))))))))))) (.lit (.lit (.lit (.lit (.lit (.lit (.lit (.lit (.lit (.lit (.lit (.lit (.lit (.lit (.nil))))))))))))))))))))))))))))))))))))) (.nil))) h (by kernel_rfl)
def Q5:IC:=(.seq (.reg [⟨(some 2),(.box 2 (.t 0)),0,none⟩,⟨(some 4),(.mv (.c (.bool false))),1,none⟩] none) (.seq (.seq (.reg [⟨(some 5),(.mv (.c (.int .i64 0))),0,none⟩] none) (.block 0 (.loop [5,2,1] (.seq (.seq (.reg [⟨(some 6),(.mv (.t 5)),0,none⟩,⟨(some 7),(.faddr 1 (.t 2)),0,none⟩,⟨(some 8),(.load false [(.sl 2)] (.t 7)),0,none⟩,⟨(some 9),(.len 1 (.t 8)),0,none⟩,⟨(some 10),(.bin .num .lss (.t 6) (.t 9)),0,none⟩] none) (.cond (.t 10) .skip (.exit 0))) (.seq (.block 1 (.seq (.reg [⟨(some 13),(.faddr 1 (.t 2)),0,none⟩,⟨(some 14),(.load false [(.sl 2)] (.t 13)),0,none⟩,⟨(some 15),(.mv (.t 5)),0,none⟩,⟨(some 16),(.iaddr 2 (.t 14) (.t 15)),0,none⟩,⟨(some 17),(.faddr 0 (.t 16)),0,none⟩,⟨(some 18),(.load false [.str] (.t 17)),0,none⟩,⟨(some 19),(.len 0 (.t 18)),0,none⟩,⟨(some 20),(.bin .num .gtr (.t 19) (.c (.int .i64 40))),0,none⟩] none) (.cond (.t 20) (.seq (.reg [⟨(some 4),(.mv (.c (.bool false))),0,none⟩] none) .ret) .skip))) (.reg [⟨(some 11),(.mv (.t 5)),0,none⟩,⟨(some 12),(.bin .num .add (.t 11) (.c (.int .i64 1))),0,none⟩,⟨(some 5),(.mv (.t 12)),0,none⟩] none)))))) (.seq (.reg [⟨(some 21),(.faddr 1 (.t 2)),0,none⟩,⟨(some 22),(.load false [(.sl 2)] (.t 21)),0,none⟩,⟨(some 23),(.len 1 (.t 22)),0,none⟩,⟨(some 24),(.mv (.t 1)),0,none⟩,⟨(some 25),(.bin .num .leq (.t 23) (.t 24)),0,none⟩,⟨(some 4),(.mv (.t 25)),0,none⟩] none) .ret)))
def Ko:List IRes:=[(.tmp 4)]
abbrev c0c:Nat:=26
def JY:ZF:=Xe []
theorem c7e{G:PV->Prop}(l:Lin)(n:Int)(h:At JY 0 (Za Ko G) Q5 0 26 [(1,(.pv (.int .i64 n))),(2,(.ptr 0 0)),(5,(.pv (.int .i64 0)))] [(.obj (.box [(.pv (.int .i64 l.k)),(.pv (.sl 2 false (List.map enc l.t)))]))]):Zc JY 0 (Za Ko G) Q5 [] (Ye 26 [enc l,enc n]):=Zc.tp (.nil) h (by kernel_rfl)
theorem a3d{G:PV->Prop}(l:Lin)(n:Int)(i:Int)(h:if (decide (i<(↑(List.length (List.map enc l.t)):Int)))=true then(decide (0<=i)&&decide (Int.toNat i<List.length (List.map enc l.t))&&Enc.sz Coef==2)=true∧(∃ y0:Coef,AV.pv (PV.rptr (PV.cells (List.getD (List.map enc l.t) (Int.toNat i) default)))=AV.pv (PV.rptr (PV.cells ((enc) y0)))∧(if (decide ((↑(List.length (PV.asStr (List.getD (List.drop 0 (PV.cells (enc y0))) 0 default))):Int)>40))=true then G ((.bool false))else(At JY 0 (Za Ko G) Q5 0 26 [(1,(.pv (.int .i64 n))),(2,(.ptr 0 0)),(5,(.pv (.int .i64 (IntKind.wrap IntKind.i64 (i+1)))))] [(.obj (.box [(.pv (.int .i64 l.k)),(.pv (.sl 2 false (List.map enc l.t)))]))])))else(G ((.bool (decide ((↑(List.length (List.map enc l.t)):Int)<=n)))))):At JY 0 (Za Ko G) Q5 0 26 [(1,.pv (.int .i64 n)),(2,.ptr 0 0),(5,.pv (.int .i64 i))] [.obj (.box [.pv (.int .i64 l.k),.pv (enc l.t)])]:=At.tp (.lit (.ask (.req (.abs (Coef) (fun YY=>AV.pv (PV.rptr (PV.cells ((enc) YY)))) (.lit (.lit (.ask (.nil) (.lit (.nil))))))) (.lit (.nil)))) h (by kernel_rfl)
def UN:IC:=(.seq (.reg [⟨(some 4),(.mv (.c (.bool false))),0,none⟩] none) (.seq (.seq (.reg [⟨(some 5),(.mv (.c (.int .i64 0))),0,none⟩] none) (.block 0 (.loop [5,0,1] (.seq (.seq (.reg [⟨(some 6),(.mv (.t 5)),0,none⟩,⟨(some 7),(.mv (.t 0)),0,none⟩,⟨(some 8),(.len 1 (.t 7)),0,none⟩,⟨(some 9),(.bin .num .lss (.t 6) (.t 8)),0,none⟩] none) (.cond (.t 9) .skip (.exit 0))) (.seq (.block 1 (.seq (.reg [⟨(some 12),(.mv (.t 0)),0,none⟩,⟨(some 13),(.mv (.t 5)),0,none⟩,⟨(some 14),(.iaddr 3 (.t 12) (.t 13)),0,none⟩,⟨(some 15),(.faddr 1 (.t 14)),0,none⟩,⟨(some 16),(.load true [(.int .i64),(.sl 2)] (.t 15)),0,none⟩,⟨(some 17),(.call (.c (.fn 16)) [(.t 16),(.c (.int .i64 8))]),0,none⟩,⟨(some 18),(.un .not (.t 17)),2,none⟩] none) (.cond (.t 18) (.seq (.reg [⟨(some 4),(.mv (.c (.bool false))),0,none⟩] none) .ret) .skip))) (.reg [⟨(some 10),(.mv (.t 5)),0,none⟩,⟨(some 11),(.bin .num .add (.t 10) (.c (.int .i64 1))),0,none⟩,⟨(some 5),(.mv (.t 11)),0,none⟩] none)))))) (.seq (.reg [⟨(some 19),(.mv (.t 0)),0,none⟩,⟨(some 20),(.len 1 (.t 19)),0,none⟩,⟨(some 21),(.mv (.t 1)),0,none⟩,⟨(some 22),(.bin .num .leq (.t 20) (.t 21)),0,none⟩,⟨(some 4),(.mv (.t 22)),0,none⟩] none) .ret)))
def U5:List IRes:=[(.tmp 4)]
abbrev b2a:Nat:=23
def Q4:ZF:=Xe [(16,.pure (preT (fun x:Lin×Int×Unit=>Yt x.1)) (Zf (fun x:Lin×Int×Unit=>Gb x.1 x.2.1)))]
theorem c0l{G:PV->Prop}(l:List Fact)(n:Int)(h:At Q4 0 (Za U5 G) UN 0 23 [(0,(.pv (.sl 3 false (List.map enc l)))),(1,(.pv (.int .i64 n))),(5,(.pv (.int .i64 0)))] []):Zc Q4 0 (Za U5 G) UN [] (Ye 23 [enc l,enc n]):=Zc.tp (.nil) h (by kernel_rfl)
theorem Le{G:PV->Prop}(l:List Fact)(n:Int)(i:Int)(h:if (decide (i<(↑(List.length (List.map enc l)):Int)))=true then(decide (0<=i)&&decide (Int.toNat i<List.length (List.map enc l))&&Enc.sz Fact==3)=true∧(∃ y0:Fact,AV.pv (PV.rptr (PV.cells (List.getD (List.map enc l) (Int.toNat i) default)))=AV.pv (PV.rptr (PV.cells ((enc) y0)))∧((Go.Pl.preT (fun(x:Lin×Int×Unit)=>Yt x.1) [(.agg [(.int .i64 (PV.asInt (List.getD (List.drop 1 (PV.cells (enc y0))) 0 default))),(.sl 2 false (PV.asXs (List.getD (List.drop 1 (PV.cells (enc y0))) (0+1) default)))]),(.int .i64 8)])=true∧(∃ y1:Bool,AV.pv (Zf (fun(x:Lin×Int×Unit)=>Gb x.1 x.2.1) [(.agg [(.int .i64 (PV.asInt (List.getD (List.drop 1 (PV.cells (enc y0))) 0 default))),(.sl 2 false (PV.asXs (List.getD (List.drop 1 (PV.cells (enc y0))) (0+1) default)))]),(.int .i64 8)])=AV.pv (enc y1)∧(if (!y1)=true then G ((.bool false))else(At Q4 0 (Za U5 G) UN 0 23 [(0,(.pv (.sl 3 false (List.map enc l)))),(1,(.pv (.int .i64 n))),(5,(.pv (.int .i64 (IntKind.wrap IntKind.i64 (i+1)))))] [])))))else(G ((.bool (decide ((↑(List.length (List.map enc l)):Int)<=n)))))):At Q4 0 (Za U5 G) UN 0 23 [(0,.pv (enc l)),(1,.pv (.int .i64 n)),(5,.pv (.int .i64 i))] []:=At.tp (.lit (.ask (.req (.abs (Fact) (fun YY=>AV.pv (PV.rptr (PV.cells ((enc) YY)))) (.lit (.req (.abs (Bool) (fun YY=>AV.pv (enc YY)) (.ask (.nil) (.lit (.nil)))))))) (.lit (.nil)))) h (by kernel_rfl)
-- IMPOSSIBLE
def a0f:IC:=(.seq (.reg [⟨(some 2),(.alloc (.agg [(.int .i64 0),(.sl 0 true [])])),0,none⟩] none) (.seq (.reg [⟨(some 3),(.mv (.t 0)),0,none⟩,⟨(some 4),(.build [(.int .i64 0),(.sl 0 true [])] [(0,(1,(.t 3)))]),0,none⟩,⟨none,(.store 2 (.t 2) (.t 4)),0,none⟩] none) .ret))
def Ez:List IRes:=[(.cell true 2 2)]
abbrev c4k:Nat:=5
def a9x:ZF:=Xe []
theorem c8j{G:PV->Prop}(n:Int)(h:G ((.agg [(.int .i64 n),(.sl 0 true [])]))):Zc a9x 0 (Za Ez G) a0f [] (Ye 5 [enc n]):=Zc.tp (.nil) h (by kernel_rfl)
def Xp:IC:=(.seq (.reg [⟨(some 2),(.box 2 (.t 0)),0,none⟩,⟨(some 4),(.mv (.c (.int .i64 0))),1,none⟩,⟨(some 5),(.mv (.c (.int .i64 0))),1,none⟩] none) (.seq (.seq (.reg [⟨(some 10),(.load true [(.int .i64),(.sl 2)] (.t 2)),0,none⟩,⟨(some 11),(.call (.c (.fn 20)) [(.t 10)]),0,none⟩,⟨(some 12),(.un .not (.t 11)),2,none⟩] none) (.cond (.t 12) (.seq (.reg [⟨(some 4),(.mv (.c (.int .i64 0))),0,none⟩,⟨(some 5),(.mv (.c (.int .i64 1))),0,none⟩] none) .ret) .skip)) (.seq (.reg [⟨(some 13),(.faddr 0 (.t 2)),0,none⟩,⟨(some 14),(.load false [(.int .i64)] (.t 13)),0,none⟩,⟨(some 6),(.mv (.t 14)),0,none⟩] none) (.seq (.seq (.reg [⟨(some 7),(.mv (.c (.int .i64 0))),0,none⟩] none) (.block 0 (.loop [7,2,1,6] (.seq (.seq (.reg [⟨(some 15),(.mv (.t 7)),0,none⟩,⟨(some 16),(.faddr 1 (.t 2)),0,none⟩,⟨(some 17),(.load false [(.sl 2)] (.t 16)),0,none⟩,⟨(some 18),(.len 1 (.t 17)),0,none⟩,⟨(some 19),(.bin .num .lss (.t 15) (.t 18)),0,none⟩] none) (.cond (.t 19) .skip (.exit 0))) (.seq (.block 1 (.seq (.reg [⟨(some 8),(.mv (.c (.int .i64 0))),0,none⟩] none) (.seq (.block 2 (.loop [8,1,2,7,6] (.seq (.seq (.reg [⟨(some 22),(.mv (.t 8)),0,none⟩,⟨(some 23),(.mv (.t 1)),0,none⟩,⟨(some 24),(.len 1 (.t 23)),0,none⟩,⟨(some 25),(.bin .num .lss (.t 22) (.t 24)),0,none⟩,⟨(some 26),(.mv (.t 25)),0,none⟩,⟨(some 27),(.mv (.t 1)),0,(some (26,true))⟩,⟨(some 28),(.mv (.t 8)),0,(some (26,true))⟩,⟨(some 29),(.iaddr 2 (.t 27) (.t 28)),0,(some (26,true))⟩,⟨(some 30),(.faddr 0 (.t 29)),0,(some (26,true))⟩,⟨(some 31),(.load false [.str] (.t 30)),0,(some (26,true))⟩,⟨(some 32),(.faddr 1 (.t 2)),0,(some (26,true))⟩,⟨(some 33),(.load false [(.sl 2)] (.t 32)),0,(some (26,true))⟩,⟨(some 34),(.mv (.t 7)),0,(some (26,true))⟩,⟨(some 35),(.iaddr 2 (.t 33) (.t 34)),0,(some (26,true))⟩,⟨(some 36),(.faddr 0 (.t 35)),0,(some (26,true))⟩,⟨(some 37),(.load false [.str] (.t 36)),0,(some (26,true))⟩,⟨(some 38),(.bin .num .neq (.t 31) (.t 37)),0,(some (26,true))⟩,⟨(some 39),(.pick (.t 26) (.t 38) (.c (.bool false))),0,none⟩] (some [[],[],[1],[0,2,1],[3,0,2,1],[4,3,0,2,1],[4,3,0,2,1],[5,6,4,3,0,2,1],[7,4,5,6,3,0,2,1],[8,4,7,5,6,3,0,2,1],[4,3,0,2,1],[10,4,3,0,2,1],[4,3,0,2,1],[11,12,4,10,3,0,2,1],[13,4,11,12,10,3,0,2,1],[14,4,13,11,12,10,3,0,2,1],[9,15,4,8,7,5,6,3,0,2,1,14,13,11,12,10],[4,16,3,0,2,1,9,15,8,7,5,6,14,13,11,12,10]])) (.cond (.t 39) .skip (.exit 2))) (.block 3 (.reg [⟨(some 40),(.mv (.t 8)),0,none⟩,⟨(some 41),(.bin .num .add (.t 40) (.c (.int .i64 1))),0,none⟩,⟨(some 8),(.mv (.t 41)),0,none⟩] none))))) (.seq (.seq (.reg [⟨(some 42),(.mv (.t 8)),0,none⟩,⟨(some 43),(.mv (.t 1)),0,none⟩,⟨(some 44),(.len 1 (.t 43)),0,none⟩,⟨(some 45),(.bin .num .eql (.t 42) (.t 44)),0,none⟩] none) (.cond (.t 45) (.seq (.reg [⟨(some 4),(.mv (.c (.int .i64 0))),0,none⟩,⟨(some 5),(.mv (.c (.int .i64 7))),0,none⟩] none) .ret) .skip)) (.seq (.reg [⟨(some 46),(.mv (.t 1)),0,none⟩,⟨(some 47),(.mv (.t 8)),0,none⟩,⟨(some 48),(.iaddr 2 (.t 46) (.t 47)),0,none⟩,⟨(some 49),(.faddr 1 (.t 48)),0,none⟩,⟨(some 50),(.load false [(.int .i64)] (.t 49)),0,none⟩,⟨(some 9),(.mv (.t 50)),0,none⟩] none) (.seq (.seq (.reg [⟨(some 51),(.mv (.t 9)),0,none⟩,⟨(some 52),(.bin .num .lss (.t 51) (.c (.int .i64 (-1000000000)))),0,none⟩,⟨(some 53),(.mv (.t 52)),0,none⟩,⟨(some 54),(.mv (.t 9)),0,(some (53,false))⟩,⟨(some 55),(.bin .num .gtr (.t 54) (.c (.int .i64 1000000000))),0,(some (53,false))⟩,⟨(some 56),(.pick (.t 53) (.c (.bool true)) (.t 55)),0,none⟩] none) (.cond (.t 56) (.seq (.reg [⟨(some 4),(.mv (.c (.int .i64 0))),0,none⟩,⟨(some 5),(.mv (.c (.int .i64 2))),0,none⟩] none) .ret) .skip)) (.reg [⟨(some 57),(.mv (.t 6)),0,none⟩,⟨(some 58),(.faddr 1 (.t 2)),0,none⟩,⟨(some 59),(.load false [(.sl 2)] (.t 58)),0,none⟩,⟨(some 60),(.mv (.t 7)),0,none⟩,⟨(some 61),(.iaddr 2 (.t 59) (.t 60)),0,none⟩,⟨(some 62),(.faddr 1 (.t 61)),0,none⟩,⟨(some 63),(.load false [(.int .i64)] (.t 62)),0,none⟩,⟨(some 64),(.mv (.t 9)),0,none⟩,⟨(some 65),(.bin .num .mul (.t 63) (.t 64)),0,none⟩,⟨(some 66),(.bin .num .add (.t 57) (.t 65)),0,none⟩,⟨(some 6),(.mv (.t 66)),0,none⟩] none))))))) (.reg [⟨(some 20),(.mv (.t 7)),0,none⟩,⟨(some 21),(.bin .num .add (.t 20) (.c (.int .i64 1))),0,none⟩,⟨(some 7),(.mv (.t 21)),0,none⟩] none)))))) (.seq (.reg [⟨(some 67),(.mv (.t 6)),0,none⟩,⟨(some 4),(.mv (.t 67)),0,none⟩,⟨(some 5),(.mv (.c (.int .i64 0))),0,none⟩] none) .ret)))))
def Xl:List IRes:=[(.tmp 4),(.tmp 5)]
abbrev b7i:Nat:=68
def XW:ZF:=Xe [(20,.pure (preT (fun x:Lin×Unit=>Yt x.1)) (Zf (fun x:Lin×Unit=>Zq x.1)))]
theorem b9d{G:PV->Prop}(l:Lin)(v:List Coef)(h:(Go.Pl.preT (fun(x:Lin×Unit)=>Yt x.1) [(.agg [(.int .i64 l.k),(.sl 2 false (List.map enc l.t))])])=true∧(∃ y0:Bool,AV.pv (Zf (fun(x:Lin×Unit)=>Zq x.1) [(.agg [(.int .i64 l.k),(.sl 2 false (List.map enc l.t))])])=AV.pv (enc y0)∧(if (!y0)=true then G ((.tup [(.int .i64 0),(.int .i64 1)]))else(At XW 0 (Za Xl G) Xp 0 68 [(1,(.pv (.sl 2 false (List.map enc v)))),(2,(.ptr 0 0)),(6,(.pv (.int .i64 l.k))),(7,(.pv (.int .i64 0)))] [(.obj (.box [(.pv (.int .i64 l.k)),(.pv (.sl 2 false (List.map enc l.t)))]))])))):Zc XW 0 (Za Xl G) Xp [] (Ye 68 [enc l,enc v]):=Zc.tp (.req (.abs (Bool) (fun YY=>AV.pv (enc YY)) (.ask (.nil) (.nil)))) h (by kernel_rfl)
theorem FN{G:PV->Prop}(l:Lin)(v:List Coef)(n i:Int)(h:if (decide (i<(↑(List.length (List.map enc l.t)):Int)))=true then At XW 0 (Za Xl G) Xp 1 68 [(1,(.pv (.sl 2 false (List.map enc v)))),(2,(.ptr 0 0)),(6,(.pv (.int .i64 n))),(7,(.pv (.int .i64 i))),(8,(.pv (.int .i64 0)))] [(.obj (.box [(.pv (.int .i64 l.k)),(.pv (.sl 2 false (List.map enc l.t)))]))]else(G ((.tup [(.int .i64 n),(.int .i64 0)])))):At XW 0 (Za Xl G) Xp 0 68 [(1,.pv (enc v)),(2,.ptr 0 0),(6,.pv (.int .i64 n)),(7,.pv (.int .i64 i))] [.obj (.box [.pv (.int .i64 l.k),.pv (enc l.t)])]:=At.tp (.lit (.ask (.nil) (.nil))) h (by kernel_rfl)
theorem FV{G:PV->Prop}(l:Lin)(v:List Coef)(n i j:Int)(h:if (decide (j<(↑(List.length (List.map enc v)):Int)))=true then(decide (0<=j)&&decide (Int.toNat j<List.length (List.map enc v))&&Enc.sz Coef==2)=true∧(∃ y0:Coef,AV.pv (PV.rptr (PV.cells (List.getD (List.map enc v) (Int.toNat j) default)))=AV.pv (PV.rptr (PV.cells ((enc) y0)))∧((decide (0<=i)&&decide (Int.toNat i<List.length (List.map enc l.t))&&Enc.sz Coef==2)=true∧(∃ y1:Coef,AV.pv (PV.rptr (PV.cells (List.getD (List.map enc l.t) (Int.toNat i) default)))=AV.pv (PV.rptr (PV.cells ((enc) y1)))∧(if (!PV.asStr (List.getD (List.drop 0 (PV.cells (enc y0))) 0 default)==PV.asStr (List.getD (List.drop 0 (PV.cells (enc y1))) 0 default))=true then At XW 0 (Za Xl G) Xp 1 68 [(1,(.pv (.sl 2 false (List.map enc v)))),(2,(.ptr 0 0)),(6,(.pv (.int .i64 n))),(7,(.pv (.int .i64 i))),(8,(.pv (.int .i64 (IntKind.wrap IntKind.i64 (j+1)))))] [(.obj (.box [(.pv (.int .i64 l.k)),(.pv (.sl 2 false (List.map enc l.t)))]))]else(if (j==(↑(List.length (List.map enc v)):Int))=true then G ((.tup [(.int .i64 0),(.int .i64 7)]))else((decide (0<=j)&&decide (Int.toNat j<List.length (List.map enc v))&&Enc.sz Coef==2)=true∧(∃ y2:Coef,AV.pv (PV.rptr (PV.cells (List.getD (List.map enc v) (Int.toNat j) default)))=AV.pv (PV.rptr (PV.cells ((enc) y2)))∧(if (decide (PV.asInt (List.getD (List.drop 1 (PV.cells (enc y2))) 0 default)<(-1000000000:Int)))=true then G ((.tup [(.int .i64 0),(.int .i64 2)]))else(if (decide (PV.asInt (List.getD (List.drop 1 (PV.cells (enc y2))) 0 default)>1000000000))=true then G ((.tup [(.int .i64 0),(.int .i64 2)]))else((decide (0<=i)&&decide (Int.toNat i<List.length (List.map enc l.t))&&Enc.sz Coef==2)=true∧(∃ y3:Coef,AV.pv (PV.rptr (PV.cells (List.getD (List.map enc l.t) (Int.toNat i) default)))=AV.pv (PV.rptr (PV.cells ((enc) y3)))∧(At XW 0 (Za Xl G) Xp 0 68 [(1,(.pv (.sl 2 false (List.map enc v)))),(2,(.ptr 0 0)),(6,(.pv (.int .i64 (IntKind.wrap IntKind.i64 (n+IntKind.wrap IntKind.i64 (PV.asInt (List.getD (List.drop 1 (PV.cells (enc y3))) 0 default)*PV.asInt (List.getD (List.drop 1 (PV.cells (enc y2))) 0 default))))))),(7,(.pv (.int .i64 (IntKind.wrap IntKind.i64 (i+1)))))] [(.obj (.box [(.pv (.int .i64 l.k)),(.pv (.sl 2 false (List.map enc l.t)))]))]))))))))))))else(if (j==(↑(List.length (List.map enc v)):Int))=true then G ((.tup [(.int .i64 0),(.int .i64 7)]))else((decide (0<=j)&&decide (Int.toNat j<List.length (List.map enc v))&&Enc.sz Coef==2)=true∧(∃ y4:Coef,AV.pv (PV.rptr (PV.cells (List.getD (List.map enc v) (Int.toNat j) default)))=AV.pv (PV.rptr (PV.cells ((enc) y4)))∧(if (decide (PV.asInt (List.getD (List.drop 1 (PV.cells (enc y4))) 0 default)<(-1000000000:Int)))=true then G ((.tup [(.int .i64 0),(.int .i64 2)]))else(if (decide (PV.asInt (List.getD (List.drop 1 (PV.cells (enc y4))) 0 default)>1000000000))=true then G ((.tup [(.int .i64 0),(.int .i64 2)]))else((decide (0<=i)&&decide (Int.toNat i<List.length (List.map enc l.t))&&Enc.sz Coef==2)=true∧(∃ y5:Coef,AV.pv (PV.rptr (PV.cells (List.getD (List.map enc l.t) (Int.toNat i) default)))=AV.pv (PV.rptr (PV.cells ((enc) y5)))∧(At XW 0 (Za Xl G) Xp 0 68 [(1,(.pv (.sl 2 false (List.map enc v)))),(2,(.ptr 0 0)),(6,(.pv (.int .i64 (IntKind.wrap IntKind.i64 (n+IntKind.wrap IntKind.i64 (PV.asInt (List.getD (List.drop 1 (PV.cells (enc y5))) 0 default)*PV.asInt (List.getD (List.drop 1 (PV.cells (enc y4))) 0 default))))))),(7,(.pv (.int .i64 (IntKind.wrap IntKind.i64 (i+1)))))] [(.obj (.box [(.pv (.int .i64 l.k)),(.pv (.sl 2 false (List.map enc l.t)))]))]))))))))):At XW 0 (Za Xl G) Xp 1 68 [(1,.pv (enc v)),(2,.ptr 0 0),(6,.pv (.int .i64 n)),(7,.pv (.int .i64 i)),(8,.pv (.int .i64 j))] [.obj (.box [.pv (.int .i64 l.k),.pv (enc l.t)])]:=At.tp (.lit (.ask (.lit (.lit (.req (.abs (Coef) (fun YY=>AV.pv (PV.rptr (PV.cells ((enc) YY)))) (.lit (.lit (.lit (.lit (.lit (.lit (.lit (.req (.abs (Coef) (fun YY=>AV.pv (PV.rptr (PV.cells ((enc) YY)))) (.lit (.lit (.lit (.lit (.lit (.lit (.ask (.lit (.nil)) (.lit (.ask (.nil) (.req (.abs (Coef) (fun YY=>AV.pv (PV.rptr (PV.cells ((enc) YY)))) (.lit (.lit (.ask (.lit (.lit (.lit (.nil)))) (.lit (.lit (.lit (.ask (.nil) (.req (.abs (Coef) (fun YY=>AV.pv (PV.rptr (PV.cells ((enc) YY)))) (.lit (.lit (.lit (.lit (.nil)))))))))))))))))))))))))))))))))))))) (.lit (.lit (.lit (.lit (.lit (.lit (.lit (.lit (.lit (.lit (.lit (.lit (.lit (.lit (.ask (.nil) (.req (.abs (Coef) (fun YY=>AV.pv (PV.rptr (PV.cells ((enc) YY)))) (.lit (.lit (.ask (.lit (.lit (.lit (.nil)))) (.lit (.lit (.lit (.ask (.nil) (.req (.abs (Coef) (fun YY=>AV.pv (PV.rptr (PV.cells ((enc) YY)))) (.lit (.lit (.lit (.lit (.nil))))))))))))))))))))))))))))))))) h (by kernel_rfl)
end Go.Pl

namespace Go.Pl
open Go.RowKit
open Enc (enc dec is)
open EncL (encL decL isL)
theorem c5p(c:UInt8):Wm c=(decide ((c.toNat:Int) ≥ 48)&&decide ((c.toNat:Int)<=57)):=by
 simp only[Wm,UInt8.le_iff_toNat_le,ge_iff_le]
 have e1:(48:UInt8).toNat=48:=rfl
 have e2:(57:UInt8).toNat=57:=rfl
 rw[e1,e2]
 congr 1 <;> exact decide_eq_decide.2 (by omega)
theorem c5c(c:UInt8):WM c=(decide ((c.toNat:Int) ≥ 97)&&decide ((c.toNat:Int)<=122)):=by
 simp only[WM,UInt8.le_iff_toNat_le,ge_iff_le]
 have e1:(97:UInt8).toNat=97:=rfl
 have e2:(122:UInt8).toNat=122:=rfl
 rw[e1,e2]
 congr 1 <;> exact decide_eq_decide.2 (by omega)
theorem Pf{a b:Bool}{G:PV->Prop}(h:G (.bool (a&&b))):if a=true then G (.bool b)else G (.bool false):=by cases a <;> simpa using h
theorem b2h: ∀ a:UInt8×Unit,true=true->Zc OE 0 (Za NU (Zg (Wm a.1))) NJ [] (Ye c0m (encL a)):=by
 rintro⟨c,⟨⟩⟩ -
 exact c5i c (Pf (ZM (c5p c).symm))
theorem b2x: ∀ a:UInt8×Unit,true=true->Zc Ej 0 (Za NK (Zg (WM a.1))) PG [] (Ye c0x (encL a)):=by
 rintro⟨c,⟨⟩⟩ -
 exact c4o c (Pf (ZM (c5c c).symm))
theorem OP: ∀ a:Int×Unit,true=true->Zc BO 0 (Za Dm (Zg (YE a.1))) Jn [] (Ye a8k (encL a)):=by
 rintro⟨n,⟨⟩⟩ -
 exact b3y n (Pf (ZM rfl))
theorem c2w: ∀ a:Int×Unit,true=true->Zc b5w 0 (Za EC (Zg (YE a.1))) O5 [] (Ye c4l (encL a)):=by
 rintro⟨n,⟨⟩⟩ -
 exact c9s n (Pf (ZM rfl))
theorem a9y(s:List UInt8)(hs:s.length<=30): ∀ (j i:Nat),j+i=s.length->At WS 0 (Za XL (Zg ((s.drop i).all Wm))) XK 0 62 [(0,.pv (.str s)),(3,.pv (.int .i64 i))] []:=by
 intro j
 induction j with
 | zero=>
  intro i hi
  refine LY s i ?_
  rw[if_neg (Z4 (by omega))]
  exact ZM (by rw[List.drop_of_length_le (by omega)];rfl)
 | succ j ih=>
  intro i hi
  have hlt:i<s.length:=by omega
  refine LY s i ?_
  rw[if_pos (ZW hlt)]
  have eg:List.getD s (Int.toNat (i:Int)) 0=s[i]:=by simp[List.getD,hlt]
  rw[eg,next (by omega)]
  refine⟨by simp[hlt],Zj (s[i],()) rfl rfl,Zh (s[i],()) rfl ?_⟩
  rw[List.drop_eq_getElem_cons hlt,List.all_cons]
  show if (!Wm s[i])=true then _ else _
  cases hd:Wm s[i]
  ·exact ZM rfl
  ·rw[if_neg (by simp)]
   simpa using ih (i+1) (by omega)
theorem b3v(s:List UInt8)(hs:s.length<=30): ∀ (j i:Nat),j+i=s.length->0<i->At WS 0 (Za XL (Zg ((s.drop i).all fun c=>WM c||Wm c))) XK 1 62 [(0,.pv (.str s)),(4,.pv (.int .i64 i))] []:=by
 intro j
 induction j with
 | zero=>
  intro i hi _
  refine SH s i ?_
  rw[if_neg (Z4 (by omega))]
  exact ZM (by rw[List.drop_of_length_le (by omega)];rfl)
 | succ j ih=>
  intro i hi h0
  have hlt:i<s.length:=by omega
  refine SH s i ?_
  rw[if_pos (ZW hlt)]
  have eg:List.getD s (Int.toNat (i:Int)) 0=s[i]:=by simp[List.getD,hlt]
  rw[eg,next (by omega)]
  refine⟨by simp[hlt],Zj (s[i],()) rfl rfl,Zh (s[i],()) rfl ?_⟩
  rw[List.drop_eq_getElem_cons hlt,List.all_cons]
  show if (!WM s[i])=true then _ else _
  cases hd:WM s[i]
  ·rw[c3v,if_neg (by simp;omega)]
   refine⟨by simp[hlt],Zj (s[i],()) rfl rfl,Zh (s[i],()) rfl ?_⟩
   show if (!Wm s[i])=true then _ else _
   cases hd:Wm s[i]
   ·exact ZM rfl
   ·rw[if_neg (by simp)]
    simpa using ih (i+1) (by omega) (by omega)
  ·rw[if_neg (by simp)]
   simpa using ih (i+1) (by omega) (by omega)
theorem a8c: ∀ a:Str×Unit,true=true->Zc WS 0 (Za XL (Zg (ZE a.1))) XK [] (Ye b2t (encL a)):=by
 rintro⟨⟨s⟩,⟨⟩⟩ -
 refine b9j s ?_
 cases s with
 | nil=>exact ZM rfl
 | cons c r=>
  rw[if_neg (by simp;omega)]
  by_cases h30:((c::r).length:Int)>30
  ·rw[if_pos (by simpa using h30)]
   refine ZM ?_
   have : ¬ r.length<=29:=by simp at h30;omega
   have h9 : ¬ r.length<=9:=by omega
   simp[ZE,this,h9]
  ·rw[if_neg (by simpa using h30)]
   have hl:(c::r).length<=30:=by omega
   refine⟨by simp,?_⟩
   show if ((c.toNat:Int)==95)=true then _ else _
   by_cases hc:c=95
   ·subst hc
    rw[if_pos (by rfl)]
    simp only[ZE,if_true]
    cases r with
    | nil=>exact ZM rfl
    | cons d r=>
     rw[if_neg (by simp;omega)]
     by_cases h10:((95::d::r:List UInt8).length:Int)>10
     ·rw[if_pos (by simpa using h10)]
      refine ZM ?_
      have:decide ((d::r).length<=9)=false:=decide_eq_false (by simp at h10 ⊢;omega)
      rw[this,Bool.and_false]
     ·rw[if_neg (by simpa using h10)]
      refine⟨by simp,?_⟩
      show if ((d.toNat:Int)==48)=true then _ else _
      by_cases hd:d=48
      ·subst hd
       rw[if_pos (by rfl)]
       exact ZM (by simp)
      ·rw[if_neg (by exact c3f 48 hd (by omega))]
       have h:=a9y (95::d::r) hl (d::r).length 1 (by simp)
       have e:(d::r).length<=9:=by simp at h10 ⊢;omega
       have e2:((d::r).all Wm&& !(d::r).isEmpty&&decide ((d::r).head? ≠ some 48)&&decide ((d::r).length<=9))=(d::r).all Wm:=by rw[decide_eq_true e,show decide ((d::r).head? ≠ some (48:UInt8))=true by simpa using hd];simp
       rw[e2]
       exact h
   ·rw[if_neg (by exact c3f 95 hc (by omega))]
    refine SH (c::r) 0 ?_
    rw[if_pos (by simp)]
    refine⟨by simp,Zj (c,()) rfl rfl,Zh (c,()) rfl ?_⟩
    show if (!WM c)=true then _ else _
    have en:ZE ⟨c::r⟩=(WM c&&r.all (fun c=>WM c||Wm c)):=by
     have:r.length<=29:=by simp at hl;omega
     simp[ZE,hc,this]
    rw[en]
    cases hlow:WM c
    ·rw[c3v,if_pos (by rfl)]
     exact ZM rfl
    ·rw[if_neg (by simp)]
     exact b3v (c::r) hl r.length 1 (by simp) (by omega)
end Go.Pl

namespace Go.Pl
open Go.RowKit
open Enc (enc dec is)
open EncL (encL decL isL)
def Sv(prev:Option (List UInt8)):List Coef->Bool
 | []=>true
 | t::r=>ZE t.v&&decide (t.c≠0)&&YE t.c&&(match prev with|none=>true|some p=>decide (p<t.v.s))&&Sv (some t.v.s) r
theorem Gr(p:Option (List UInt8))(t:Coef)(r:List Coef):Sv p (t::r)=(ZE t.v&&decide (t.c≠0)&&YE t.c&&(match p with|none=>true|some p=>decide (p<t.v.s))&&Sv (some t.v.s) r):=by cases p <;> rfl
theorem Mr: ∀ (l:List Coef) (p:List UInt8),Sv (some p) l=(l.all (fun t=>ZE t.v&&decide (t.c≠0)&&YE t.c)&&(match l with|[]=>true|t::_=>decide (p<t.v.s))&&Tg l)
 | [],p=>by simp[Sv,Tg]
 | t::r,p=>by
  rw[Gr,Mr r]
  cases r with
  | nil=>simp[Tg]
  | cons u r=>
   simp only[List.all_cons,Tg]
   ac_rfl
theorem b6e(l:List Coef):Sv none l=(l.all (fun t=>ZE t.v&&decide (t.c≠0)&&YE t.c)&&Tg l):=by
 cases l with
 | nil=>simp[Sv,Tg]
 | cons t r=>
  rw[Gr,Mr r]
  cases r with
  | nil=>simp[Tg]
  | cons u r=>
   simp only[List.all_cons,Tg,Bool.and_true]
   ac_rfl
theorem Li(l:Lin):Zq l=(YE l.k&&decide (l.t.length<=12)&&Sv none l.t):=by
 rw[b6e,Zq]
 ac_rfl
def pvS(ts:List Coef):Nat->Option (List UInt8)
 | 0=>none
 | i+1=>(ts[i]?).map (·.v.s)
theorem a2h{k:Nat}(h:k<9223372036854775807):IntKind.i64.wrap (((k+1:Nat):Int) - 1)=(k:Int):=by rw[Qy (by omega) (by omega)];omega
theorem Mh(l:Lin)(hl:l.t.length<=9223372036854775807): ∀ (j i:Nat),j+i=l.t.length->At Vl 0 (Za Wj (Zg (Sv (pvS l.t i) (l.t.drop i)))) Wh 0 58 [(1,.ptr 0 0),(3,.pv (.int .i64 i))] [.obj (.box [.pv (.int .i64 l.k),.pv (enc l.t)])]:=by
 intro j
 induction j with
 | zero=>
  intro i hi
  refine RF l i ?_
  rw[if_neg (Xk (by omega))]
  exact ZM (by rw[List.drop_of_length_le (by omega)];rfl)
 | succ j ih=>
  intro i hi
  have hlt:i<l.t.length:=by omega
  have h:=ih (i+1) (by omega)
  refine RF l i ?_
  simp only[co1,co2,co3,co4]
  refine ZC (YV hlt) ⟨Zt hlt rfl,Zx hlt (Zh (l.t[i].v,()) rfl (X7 (fun hn=> ?_) fun hn=>Ka (fun hc=> ?_) fun hc=>Zh (l.t[i].c,()) rfl (X7 (fun hk=> ?_) fun hk=> ?_)))⟩
  all_goals rw[List.drop_eq_getElem_cons hlt,Gr]
  ·have hn:ZE l.t[i].v=false:=hn
   exact ZM (by simp[hn])
  ·exact ZM (by simp[hc])
  ·have hk:YE l.t[i].c=false:=hk
   exact ZM (by simp[hk])
  have hn:ZE l.t[i].v=true:=hn
  have hk:YE l.t[i].c=true:=hk
  rw[next (by omega),hn,hk,decide_eq_true hc]
  have ep:pvS l.t (i+1)=some l.t[i].v.s:=by simp[pvS,hlt]
  rw[ep]at h
  cases i with
  | zero=>exact ZK (by simp) h
  | succ i=>
   refine ZC (by simp) ?_
   rw[a2h (by omega)]
   refine⟨Zt (by omega) rfl,Zx (by omega) ?_⟩
   have e2:pvS l.t (i+1)=some l.t[i].v.s:=by simp[pvS,show i<l.t.length by omega]
   rw[e2]
   refine X7 (fun hb=> ?_) fun hb=> ?_
   all_goals
    have hb':=(YW l.t[i].v.s l.t[i+1].v.s).symm.trans hb
    simp only[hb',Bool.and_true,Bool.true_and,Bool.and_false,Bool.false_and]
   ·exact ZM rfl
   ·exact h
theorem Ec: ∀ a:Lin×Unit,Yt a.1=true->Zc Vl 0 (Za Wj (Zg (Zq a.1))) Wh [] (Ye a5c (encL a)):=by
 rintro⟨l,⟨⟩⟩ hl
 have hl:l.t.length<=9223372036854775807:=by simpa [Yt]using hl
 refine b2p l (Zh (l.k,()) rfl ?_)
 show if (!YE l.k)=true then _ else _
 show if (!YE l.k)=true then Zg (Zq l) _ else if _ then Zg (Zq l) _ else At Vl 0 (Za Wj (Zg (Zq l))) Wh 0 58 _ _
 rw[Li]
 cases hk:YE l.k
 ·exact ZM rfl
 rw[c8r]
 by_cases h12:l.t.length<=12
 ·rw[if_neg (by simp;omega)]
  have h:=Mh l hl l.t.length 0 (by omega)
  simp only[h12,decide_true,Bool.true_and]
  exact h
 ·rw[if_pos (by simp;omega)]
  exact ZM (by simp[h12])
theorem a3y(l:Lin)(n:Int)(hl:l.t.length<=9223372036854775807): ∀ (j i:Nat),j+i=l.t.length->At JY 0 (Za Ko (Zg ((l.t.drop i).all (fun t=>decide (t.v.s.length<=40))&&decide ((l.t.length:Int)<=n)))) Q5 0 26 [(1,.pv (.int .i64 n)),(2,.ptr 0 0),(5,.pv (.int .i64 i))] [.obj (.box [.pv (.int .i64 l.k),.pv (enc l.t)])]:=by
 intro j
 induction j with
 | zero=>
  intro i hi
  exact a3d l n i (ZK (Xk (by omega)) (ZM (by rw[List.drop_of_length_le (by omega),List.length_map];rfl)))
 | succ j ih=>
  intro i hi
  have hlt:i<l.t.length:=by omega
  have h:=ih (i+1) (by omega)
  refine a3d l n i (ZC (YV hlt) ⟨Zt hlt rfl,Zx hlt ?_⟩)
  rw[List.drop_eq_getElem_cons hlt,List.all_cons,next (by omega)]
  refine WJ (fun h40=> ?_) fun h40=> ?_
  ·have h40:(l.t[i].v.s.length:Int)>40:=h40
   exact ZM (by rw[decide_eq_false (show ¬ l.t[i].v.s.length<=40 by omega)];rfl)
  ·have h40 : ¬ (l.t[i].v.s.length:Int)>40:=h40
   rw[decide_eq_true (show l.t[i].v.s.length<=40 by omega),Bool.true_and]
   exact h
theorem a9k: ∀ a:Lin×Int×Unit,Yt a.1=true->Zc JY 0 (Za Ko (Zg (Gb a.1 a.2.1))) Q5 [] (Ye c0c (encL a)):=by
 rintro⟨l,n,⟨⟩⟩ hl
 exact c7e l n (a3y l n (by simpa [Yt]using hl) l.t.length 0 (by omega))
theorem a0a(l:List Fact)(n:Int)(hl:l.length<=9223372036854775807)(hk:l.all (fun f=>Yt f.l)=true): ∀ (j i:Nat),j+i=l.length->At Q4 0 (Za U5 (Zg ((l.drop i).all (fun f=>Gb f.l 8)&&decide ((l.length:Int)<=n)))) UN 0 23 [(0,.pv (enc l)),(1,.pv (.int .i64 n)),(5,.pv (.int .i64 i))] []:=by
 intro j
 induction j with
 | zero=>
  intro i hi
  exact Le l n i (ZK (Xk (by omega)) (ZM (by rw[List.drop_of_length_le (by omega),List.length_map];rfl)))
 | succ j ih=>
  intro i hi
  have hlt:i<l.length:=by omega
  have h:=ih (i+1) (by omega)
  have ho:Yt l[i].l=true:=by rw[List.all_eq_true]at hk;exact hk _ (List.getElem_mem hlt)
  refine Le l n i (ZC (YV hlt) ⟨Zt hlt rfl,Zx hlt ⟨Zj (l[i].l,8,()) rfl ho,Zh (l[i].l,8,()) rfl ?_⟩⟩)
  rw[List.drop_eq_getElem_cons hlt,List.all_cons,next (by omega)]
  refine X7 (fun hf=> ?_) fun hf=> ?_
  ·have hf:Gb l[i].l 8=false:=hf
   exact ZM (by rw[hf];rfl)
  ·have hf:Gb l[i].l 8=true:=hf
   rw[hf,Bool.true_and]
   exact h
def Cj(l:List Fact)(n:Int):Bool:=l.all (fun f=>Gb f.l 8)&&decide ((l.length:Int)<=n)
def YZ(l:List Fact):Bool:=decide (l.length<=9223372036854775807)&&l.all fun f=>Yt f.l
theorem a4f: ∀ a:List Fact×Int×Unit,YZ a.1=true->Zc Q4 0 (Za U5 (Zg (Cj a.1 a.2.1))) UN [] (Ye b2a (encL a)):=by
 rintro⟨l,n,⟨⟩⟩ hl
 simp only[YZ,Bool.and_eq_true,decide_eq_true_eq]at hl
 exact c0l l n (a0a l n hl.1 hl.2 l.length 0 (by omega))
end Go.Pl

namespace Go.Pl
open Go.RowKit
open Enc (enc dec is)
open EncL (encL decL isL)
theorem EO(l:List Fact)(hl:Zk l=true): ∀ (j i:Nat),j+i=l.length->At Kh 0 (Za UX (Zg (Yq (l.drop i)))) U9 0 17 [(0,.pv (enc l)),(3,.pv (.int .i64 i))] []:=by
 intro j
 induction j with
 | zero=>
  intro i hi
  exact Ml l i (ZK (Xk (by omega)) (ZM (by rw[List.drop_of_length_le (by omega)];rfl)))
 | succ j ih=>
  intro i hi
  have hl':=hl
  simp only[Zk,Bool.and_eq_true,decide_eq_true_eq,List.all_eq_true]at hl'
  have hlt:i<l.length:=by omega
  have h:=ih (i+1) (by omega)
  have ho:Yt l[i].l=true:=by
   have:=hl'.2 _ (List.getElem_mem hlt)
   simp only[Yi,Bool.and_eq_true]at this
   exact this.1
  refine Ml l i (ZC (YV hlt) ⟨Zt hlt rfl,Zx hlt ⟨Zj (l[i].l,()) rfl ho,Zh (l[i].l,()) rfl ?_⟩⟩)
  rw[List.drop_eq_getElem_cons hlt,Yq,List.all_cons,next (by omega)]
  refine X7 (fun hf=> ?_) fun hf=> ?_
  ·have hf:Zq l[i].l=false:=hf
   exact ZM (by rw[hf];rfl)
  ·have hf:Zq l[i].l=true:=hf
   rw[hf,Bool.true_and]
   exact h
theorem a4w: ∀ a:List Fact×Unit,Zk a.1=true->Zc Kh 0 (Za UX (Zg (Yq a.1))) U9 [] (Ye a9q (encL a)):=by
 rintro⟨l,⟨⟩⟩ h
 exact c3e l (EO l h l.length 0 rfl)
end Go.Pl

namespace Go.Pl
open Go.RowKit
open Enc (enc dec is)
open EncL (encL decL isL)
end Go.Pl

namespace Go.Pl
open Go.RowKit
open Enc (enc dec is)
open EncL (encL decL isL)
theorem b7j(l:Lin)(v:List Coef)(hv:v.length<=9223372036854775807)(hl:l.t.length<=9223372036854775807)(i:Nat)(hi:i<l.t.length)(n:Int)
  (hK : ∀ n,At XW 0 (Za Xl (Zg (K6 v n (l.t.drop (i+1))))) Xp 0 68 [(1,.pv (enc v)),(2,.ptr 0 0),(6,.pv (.int .i64 n)),(7,.pv (.int .i64 ((i+1:Nat):Int)))] [.obj (.box [.pv (.int .i64 l.k),.pv (enc l.t)])]) :
  ∀ (m j:Nat),m+j=v.length->Qm (v.drop j) l.t[i].v=Qm v l.t[i].v ->
  At XW 0 (Za Xl (Zg (K6 v n (l.t.drop i)))) Xp 1 68 [(1,.pv (enc v)),(2,.ptr 0 0),(6,.pv (.int .i64 n)),(7,.pv (.int .i64 i)),(8,.pv (.int .i64 j))] [.obj (.box [.pv (.int .i64 l.k),.pv (enc l.t)])]:=by
 have ed:l.t.drop i=l.t[i]::l.t.drop (i+1):=List.drop_eq_getElem_cons hi
 intro m
 induction m with
 | zero=>
  intro j hj hlook
  refine FV l v n i j (ZK (Xk (by omega)) (ZC (by simp;omega) ?_))
  rw[List.drop_of_length_le (by omega)]at hlook
  rw[ed,K6,<- hlook]
  exact⟨rfl,rfl⟩
 | succ m ih=>
  intro j hj hlook
  have hlt:j<v.length:=by omega
  refine FV l v n i j (ZC (YV hlt) ⟨Zt hlt rfl,Zx hlt ⟨Zt hi rfl,Zx hi ?_⟩⟩)
  refine X7 (fun h1=> ?_) fun h1=> ?_
  ·have h1:(v[j].v.s==l.t[i].v.s)=false:=h1
   have hne : ¬ v[j].v=l.t[i].v:=by intro e;rw[e]at h1;simp at h1
   rw[next (by omega)]
   refine ih (j+1) (by omega) ?_
   rw[<- hlook,List.drop_eq_getElem_cons hlt]
   rw[Qm,Qm,List.find?_cons_of_neg (by simpa using hne)]
  ·have h1:(v[j].v.s==l.t[i].v.s)=true:=h1
   have heq:v[j].v=l.t[i].v:=by
    have h1:v[j].v.s=l.t[i].v.s:=by simpa using h1
    generalize v[j].v=a at h1 ⊢
    generalize l.t[i].v=b at h1 ⊢
    cases a;cases b;cases h1;rfl
   have hlk:Qm v l.t[i].v=some v[j].c:=by rw[<- hlook,List.drop_eq_getElem_cons hlt,Qm,List.find?_cons_of_pos (by simpa using heq)];rfl
   refine Ka (fun h2=>by simp only[List.length_map]at h2;omega) fun _=>⟨Zt hlt rfl,Zx hlt ?_⟩
   rw[ed,K6,hlk]
   refine WJ (fun h3=> ?_) fun h3=> ?_
   ·have h3:v[j].c < -1000000000:=h3
    simp only[if_pos h3]
    exact⟨rfl,rfl⟩
   have h3 : ¬ v[j].c < -1000000000:=h3
   refine WJ (fun h4=> ?_) fun h4=> ?_
   ·have h4:v[j].c>1000000000:=h4
    simp only[if_neg h3,if_pos h4]
    exact⟨rfl,rfl⟩
   have h4 : ¬ v[j].c>1000000000:=h4
   refine⟨Zt hi rfl,Zx hi ?_⟩
   rw[next (by omega)]
   simp only[if_neg h3,if_neg h4]
   exact hK _
theorem OV(l:Lin)(v:List Coef)(hv:v.length<=9223372036854775807)(hl:l.t.length<=9223372036854775807): ∀ (m i:Nat) (n:Int),m+i=l.t.length ->
  At XW 0 (Za Xl (Zg (K6 v n (l.t.drop i)))) Xp 0 68 [(1,.pv (enc v)),(2,.ptr 0 0),(6,.pv (.int .i64 n)),(7,.pv (.int .i64 i))] [.obj (.box [.pv (.int .i64 l.k),.pv (enc l.t)])]:=by
 intro m
 induction m with
 | zero=>
  intro i n hi
  refine FN l v n i (ZK (Xk (by omega)) ?_)
  rw[List.drop_of_length_le (by omega)]
  exact⟨rfl,rfl⟩
 | succ m ih=>
  intro i n hi
  have hlt:i<l.t.length:=by omega
  exact FN l v n i (ZC (YV hlt) (b7j l v hv hl i hlt n (fun n=>ih (i+1) n (by omega)) v.length 0 (by omega) rfl))
theorem a7c: ∀ a:Lin×List Coef×Unit,(Yt a.1&&decide (a.2.1.length<=9223372036854775807))=true->Zc XW 0 (Za Xl (Zg (Yj a.1 a.2.1))) Xp [] (Ye b7i (encL a)):=by
 rintro⟨l,v,⟨⟩⟩ h
 simp only[Bool.and_eq_true,decide_eq_true_eq]at h
 refine b9d l v ⟨Zj (l,()) rfl h.1,Zh (l,()) rfl ?_⟩
 show if (!Zq l)=true then Zg (Yj l v) _ else At XW 0 (Za Xl (Zg (Yj l v))) Xp 0 68 _ _
 unfold Yj
 refine X7 (fun hv=> ?_) fun hv=> ?_
 ·rw[if_neg (by rw[hv];simp)]
  exact⟨rfl,rfl⟩
 ·rw[if_pos hv]
  exact OV l v h.2 (by simpa [Yt]using h.1) l.t.length 0 l.k (by omega)
end Go.Pl

namespace Go.Pl
open Go.RowKit
open Enc (enc dec is)
open EncL (encL decL isL)
theorem b5o(ts:List Coef)(j:Nat)(x y:Coef):List.set (List.map enc ts) j (PV.withCells (enc y) (splice (PV.cells (enc y)) 0 (PV.cells (PV.agg (Vk (PV.cells (enc x)) 0 [Sh.str,Sh.int .i64])))))=List.map enc (ts.set j x):=by
 rw[List.map_set]
 rfl
theorem a9p{α:Type}(f:α->PV){l:List α}{k:Nat}(h:k<l.length):(l.map f).getD (0+(k:Int).toNat) default=f l[k]:=by rw[Nat.zero_add];exact FB f h
theorem tri{x y:List UInt8}(h1 : ¬ x<y)(h2:x≠y):y<x:=Decidable.byContradiction fun h=>h2 (List.le_antisymm (List.not_lt.1 h) (List.not_lt.1 h1))
theorem a1r(s:Str)(c:Int)(t:Coef)(r:List Coef):XN s c true (t::r)=(if t.v=s then⟨t.v,DJ (t.c+c)⟩else t)::XN s c true r:=by
 rw[XN];simp only[Bool.not_true,Bool.false_and,Bool.false_eq_true,if_false,Bool.true_or,List.nil_append];split <;> rfl
theorem Jz(s:Str)(c:Int)(t:Coef)(r:List Coef):XN s c false (t::r)=if s.s<t.v.s then⟨s,c⟩::t::XN s c true r else if t.v=s then⟨t.v,DJ (t.c+c)⟩::XN s c true r else t::XN s c false r:=by
 rw[XN]
 by_cases h:s.s<t.v.s
 ·have : ¬ t.v=s:=fun e=>by rw[e]at h;exact List.lt_irrefl _ h
  simp[h,this]
 ·simp[h]
theorem Tt(s:Str)(c:Int): ∀ (l:List Coef),(XN s c true l).length=l.length
 | []=>by simp[XN]
 | t::l=>by rw[a1r];simp[Tt s c l]
theorem TQ(s:Str)(c:Int): ∀ (l:List Coef),(XN s c false l).length<=l.length+1
 | []=>by simp[XN]
 | t::l=>by
  have h1:=Tt s c l
  have h2:=TQ s c l
  rw[Jz]
  split
  ·simp[h1]
  ·split <;> simp[h1] <;> omega
theorem AA(l:Lin)(s:Str)(c:Int):(Vm l s c).t.length<=l.t.length+1:=Nat.le_trans (List.length_filter_le _ _) (TQ s c l.t)
theorem Gw{a b:Str}:a=b ↔ a.s=b.s:=⟨fun h=>by rw[h],fun h=>by cases a;cases b;cases h;rfl⟩
theorem b8t: ∀ a:Int×Unit,true=true->Zc a9x 0 (Za Ez (Zg (⟨a.1,[]⟩:Lin))) a0f [] (Ye c4k (encL a)):=by
 rintro⟨n,⟨⟩⟩ -
 exact c8j n ⟨by simp,by simp⟩
end Go.Pl

namespace Go.Pl
open Go.RowKit
open Enc (enc dec is)
open EncL (encL decL isL)
set_option maxRecDepth 100000
end Go.Pl

namespace Go.Pl
open Go.RowKit
open Enc (enc dec is)
open EncL (encL decL isL)
end Go.Pl

namespace Go.Pl
open Go.RowKit
open Enc (enc dec is)
open EncL (encL decL isL)
set_option maxRecDepth 100000
def XF:IC:=(.seq (.reg [⟨(some 2),(.mv (.c (.bool false))),0,none⟩] none) (.seq (.seq (.reg [⟨(some 7),(.mv (.t 0)),0,none⟩,⟨(some 8),(.call (.c (.fn 152)) [(.t 7),(.c (.str [95]))]),0,none⟩] none) (.cond (.t 8) (.seq (.reg [⟨(some 10),(.mv (.t 0)),0,none⟩,⟨(some 11),(.strslc (.t 10) (some (.c (.int .i64 1))) none),0,none⟩,⟨(some 12),(.call (.c (.fn 182)) [(.t 11)]),0,none⟩,⟨(some 9),(.mv (.t 12)),2,none⟩,⟨(some 13),(.extract (.t 9) 0),2,none⟩,⟨(some 14),(.extract (.t 9) 1),2,none⟩,⟨(some 3),(.mv (.t 13)),2,none⟩,⟨(some 4),(.mv (.t 14)),2,none⟩] none) (.seq (.reg [⟨(some 15),(.mv (.t 4)),0,none⟩,⟨(some 16),(.bin .ifc .eql (.t 15) (.c .nili)),0,none⟩,⟨(some 17),(.mv (.t 16)),0,none⟩,⟨(some 18),(.mv (.t 3)),0,(some (17,true))⟩,⟨(some 19),(.bin .num .gtr (.t 18) (.c (.int .i64 0))),0,(some (17,true))⟩,⟨(some 20),(.pick (.t 17) (.t 19) (.c (.bool false))),0,none⟩,⟨(some 21),(.mv (.t 20)),0,none⟩,⟨(some 22),(.mv (.t 0)),0,(some (21,true))⟩,⟨(some 23),(.len 0 (.t 22)),0,(some (21,true))⟩,⟨(some 24),(.bin .num .leq (.t 23) (.c (.int .i64 10))),0,(some (21,true))⟩,⟨(some 25),(.pick (.t 21) (.t 24) (.c (.bool false))),0,none⟩,⟨(some 26),(.mv (.t 25)),0,none⟩,⟨(some 27),(.mv (.t 3)),0,(some (26,true))⟩,⟨(some 28),(.call (.c (.fn 76)) [(.t 27)]),0,(some (26,true))⟩,⟨(some 29),(.mv (.t 0)),2,(some (26,true))⟩,⟨(some 30),(.strslc (.t 29) (some (.c (.int .i64 1))) none),2,(some (26,true))⟩,⟨(some 31),(.bin .num .eql (.t 28) (.t 30)),2,(some (26,true))⟩,⟨(some 32),(.pick (.t 26) (.t 31) (.c (.bool false))),2,none⟩,⟨(some 2),(.mv (.t 32)),2,none⟩] (some [[],[0],[1,0],[2,1,0],[3,2,1,0],[2,4,1,0,3],[5,2,4,1,0,3],[6,5,2,4,1,0,3],[7,6,5,2,4,1,0,3],[8,6,7,5,2,4,1,0,3],[6,9,5,2,4,1,0,3,8,7],[10,6,9,5,2,4,1,0,3,8,7],[11,10,6,9,5,2,4,1,0,3,8,7],[12,11,10,6,9,5,2,4,1,0,3,8,7],[11,10,6,9,5,2,4,1,0,3,8,7],[14,11,10,6,9,5,2,4,1,0,3,8,7],[13,15,11,12,10,6,9,5,2,4,1,0,3,8,7,14],[11,16,10,6,9,5,2,4,1,0,3,8,7,13,15,12,14],[17,13,0,1,2,3,4,5,6,7,8,9,10,11,12,14,15,16]])) .ret)) .skip)) (.seq (.seq (.reg [⟨(some 33),(.mv (.t 0)),0,none⟩,⟨(some 34),(.sbytes (.t 33)),0,none⟩,⟨(some 35),(.len 1 (.t 34)),0,none⟩,⟨(some 36),(.mv (.c (.int .i64 0))),0,none⟩] none) (.block 0 (.loop [36,35,34,0] (.seq (.reg [⟨(some 37),(.bin .num .lss (.t 36) (.t 35)),0,none⟩] none) (.seq (.cond (.t 37) .skip (.exit 0)) (.seq (.block 1 (.seq (.reg [⟨(some 38),(.mv (.t 36)),0,none⟩,⟨(some 39),(.iaddr 1 (.t 34) (.t 36)),0,none⟩,⟨(some 40),(.load false [(.int .u8)] (.t 39)),0,none⟩,⟨(some 5),(.mv (.t 38)),0,none⟩,⟨(some 6),(.mv (.t 40)),0,none⟩] none) (.seq (.reg [⟨(some 41),(.mv (.t 6)),0,none⟩,⟨(some 42),(.bin .num .lss (.t 41) (.c (.int .u8 97))),0,none⟩,⟨(some 43),(.mv (.t 42)),0,none⟩,⟨(some 44),(.mv (.t 6)),0,(some (43,false))⟩,⟨(some 45),(.bin .num .gtr (.t 44) (.c (.int .u8 122))),0,(some (43,false))⟩,⟨(some 46),(.pick (.t 43) (.c (.bool true)) (.t 45)),0,none⟩,⟨(some 47),(.mv (.t 46)),0,none⟩,⟨(some 48),(.mv (.t 5)),0,(some (47,true))⟩,⟨(some 49),(.bin .num .eql (.t 48) (.c (.int .i64 0))),0,(some (47,true))⟩,⟨(some 50),(.mv (.t 49)),0,(some (47,true))⟩,⟨(some 51),(.mv (.t 6)),0,(some (50,false))⟩,⟨(some 52),(.bin .num .lss (.t 51) (.c (.int .u8 48))),0,(some (50,false))⟩,⟨(some 53),(.pick (.t 50) (.c (.bool true)) (.t 52)),0,(some (47,true))⟩,⟨(some 54),(.mv (.t 53)),0,(some (47,true))⟩,⟨(some 55),(.mv (.t 6)),0,(some (54,false))⟩,⟨(some 56),(.bin .num .gtr (.t 55) (.c (.int .u8 57))),0,(some (54,false))⟩,⟨(some 57),(.pick (.t 54) (.c (.bool true)) (.t 56)),0,(some (47,true))⟩,⟨(some 58),(.pick (.t 47) (.t 57) (.c (.bool false))),0,none⟩] none) (.cond (.t 58) (.seq (.reg [⟨(some 2),(.mv (.c (.bool false))),0,none⟩] none) .ret) .skip)))) (.reg [⟨(some 59),(.bin .num .add (.t 36) (.c (.int .i64 1))),0,none⟩,⟨(some 36),(.mv (.t 59)),0,none⟩] none))))))) (.seq (.reg [⟨(some 60),(.mv (.t 0)),0,none⟩,⟨(some 61),(.bin .num .neq (.t 60) (.c (.str []))),0,none⟩,⟨(some 62),(.mv (.t 61)),0,none⟩,⟨(some 63),(.mv (.t 0)),0,(some (62,true))⟩,⟨(some 64),(.len 0 (.t 63)),0,(some (62,true))⟩,⟨(some 65),(.bin .num .leq (.t 64) (.c (.int .i64 30))),0,(some (62,true))⟩,⟨(some 66),(.pick (.t 62) (.t 65) (.c (.bool false))),0,none⟩,⟨(some 2),(.mv (.t 66)),0,none⟩] none) .ret))))
def XQ:List IRes:=[(.tmp 2)]
abbrev b3m:Nat:=67
def WT:ZF:=Xe [(152,.pure (preT (fun _:Str×Str×Unit=>true)) (Zf (fun x:Str×Str×Unit=>x.2.1.s.isPrefixOf x.1.s))),(182,.pure (preT (fun x:Str×Unit=>decide (x.1.s.length<=1000000))) (Zf (fun x:Str×Unit=>Yw x.1))),(76,.pure (preT (fun x:Int×Unit=>decide (-9223372036854775808<=x.1)&&decide (x.1<=9223372036854775807))) (Zf (fun x:Int×Unit=>MJ x.1)))]
theorem c2g{G:PV->Prop}(s:List UInt8)(h : ∃ y0:Bool,AV.pv (Zf (fun(x:Str×Str×Unit)=>List.isPrefixOf (Str.s x.2.1) (Str.s x.1)) [(.str s),(.str [(95:UInt8)])])=AV.pv (enc y0)∧(if (y0)=true then(decide (0<=1)&&true&&decide (Int.toNat 1<=List.length s)&&decide (List.length s<=List.length s))=true∧((Go.Pl.preT (fun(x:Str×Unit)=>decide (List.length (Str.s x.1)<=1000000)) [(.str (List.drop (Int.toNat 1) (List.take (List.length s) s)))])=true∧(∃ y1:Int×Er,AV.pv (Zf (fun(x:Str×Unit)=>Yw x.1) [(.str (List.drop (Int.toNat 1) (List.take (List.length s) s)))])=AV.pv (enc y1)∧((Ak (enc y1.2)&&Prod.fst (true,PV.bool (UK (enc y1.2))))=true∧(if (UK (enc y1.2))=true then if (decide (y1.1>0))=true then if (decide ((↑(List.length s):Int)<=10))=true then(Go.Pl.preT (fun(x:Int×Unit)=>decide ((-9223372036854775808:Int)<=x.1)&&decide (x.1<=9223372036854775807)) [(.int .i64 y1.1)])=true∧(∃ y2:Str,AV.pv (Zf (fun(x:Int×Unit)=>MJ x.1) [(.int .i64 y1.1)])=AV.pv (enc y2)∧((decide (0<=1)&&true&&decide (Int.toNat 1<=List.length s)&&decide (List.length s<=List.length s))=true∧(G ((.bool (Str.s y2==List.drop (Int.toNat 1) (List.take (List.length s) s)))))))else(G ((.bool false)))else(G ((.bool false)))else(G ((.bool false)))))))else(At WT 0 (Za XQ G) XF 0 67 [(0,(.pv (.str s))),(34,(.pv (.sl 1 false (Zw s)))),(35,(.pv (.int .i64 (↑(List.length (Zw s)):Int)))),(36,(.pv (.int .i64 0)))] []))):Zc WT 0 (Za XQ G) XF [] (Ye 67 [.str s]):=Zc.tp (.lit (.abs (Bool) (fun YY=>AV.pv (enc YY)) (.ask (.req (.req (.abs (Int×Er) (fun YY=>AV.pv (enc YY)) (.req (.ask (.lit (.lit (.lit (.ask (.lit (.lit (.lit (.lit (.ask (.lit (.req (.abs (Str) (fun YY=>AV.pv (enc YY)) (.lit (.lit (.req (.lit (.lit (.lit (.nil)))))))))) (.lit (.lit (.lit (.lit (.lit (.nil))))))))))) (.lit (.lit (.lit (.lit (.lit (.lit (.lit (.lit (.lit (.nil)))))))))))))) (.lit (.lit (.lit (.lit (.lit (.lit (.lit (.lit (.lit (.lit (.lit (.lit (.nil)))))))))))))))))) (.nil)))) h (by kernel_rfl)
theorem LH{G:PV->Prop}(s:List UInt8)(i:Int)(h:if (decide (i<(↑(List.length (Zw s)):Int)))=true then(decide (0<=i)&&decide (Int.toNat i<List.length (Zw s))&&1==1)=true∧((decide (0+List.length [Sh.int IntKind.u8]<=List.length (PV.cells (List.getD (Zw s) (Int.toNat i) default)))&&Xa (PV.cells (List.getD (Zw s) (Int.toNat i) default)) 0 [Sh.int IntKind.u8])=true∧(if (decide (PV.asInt (List.getD (PV.cells (List.getD (Zw s) (Int.toNat i) default)) 0 default)<97))=true then if (i==0)=true then G ((.bool false))else(if (decide (PV.asInt (List.getD (PV.cells (List.getD (Zw s) (Int.toNat i) default)) 0 default)<48))=true then G ((.bool false))else(if (decide (PV.asInt (List.getD (PV.cells (List.getD (Zw s) (Int.toNat i) default)) 0 default)>57))=true then G ((.bool false))else(At WT 0 (Za XQ G) XF 0 67 [(0,(.pv (.str s))),(34,(.pv (.sl 1 false (Zw s)))),(35,(.pv (.int .i64 (↑(List.length (Zw s)):Int)))),(36,(.pv (.int .i64 (IntKind.wrap IntKind.i64 (i+1)))))] [])))else(if (decide (PV.asInt (List.getD (PV.cells (List.getD (Zw s) (Int.toNat i) default)) 0 default)>122))=true then if (i==0)=true then G ((.bool false))else(if (decide (PV.asInt (List.getD (PV.cells (List.getD (Zw s) (Int.toNat i) default)) 0 default)<48))=true then G ((.bool false))else(if (decide (PV.asInt (List.getD (PV.cells (List.getD (Zw s) (Int.toNat i) default)) 0 default)>57))=true then G ((.bool false))else(At WT 0 (Za XQ G) XF 0 67 [(0,(.pv (.str s))),(34,(.pv (.sl 1 false (Zw s)))),(35,(.pv (.int .i64 (↑(List.length (Zw s)):Int)))),(36,(.pv (.int .i64 (IntKind.wrap IntKind.i64 (i+1)))))] [])))else(At WT 0 (Za XQ G) XF 0 67 [(0,(.pv (.str s))),(34,(.pv (.sl 1 false (Zw s)))),(35,(.pv (.int .i64 (↑(List.length (Zw s)):Int)))),(36,(.pv (.int .i64 (IntKind.wrap IntKind.i64 (i+1)))))] []))))else(if (!s==[])=true then G ((.bool (decide ((↑(List.length s):Int)<=30))))else(G ((.bool false))))):At WT 0 (Za XQ G) XF 0 67 [(0,.pv (.str s)),(34,.pv (.sl 1 false (Zw s))),(35,.pv (.int .i64 (Zw s).length)),(36,.pv (.int .i64 i))] []:=At.tp (.lit (.ask (.req (.keep (.req (.lit (.ask (.lit (.lit (.lit (.lit (.lit (.lit (.ask (.lit (.lit (.lit (.lit (.lit (.lit (.lit (.lit (.lit (.lit (.nil))))))))))) (.lit (.lit (.lit (.lit (.lit (.ask (.lit (.lit (.lit (.lit (.lit (.nil)))))) (.lit (.lit (.lit (.lit (.lit (.ask (.nil) (.lit (.nil))))))))))))))))))))) (.lit (.lit (.lit (.ask (.lit (.lit (.lit (.ask (.lit (.lit (.lit (.lit (.lit (.lit (.lit (.lit (.lit (.lit (.nil))))))))))) (.lit (.lit (.lit (.lit (.lit (.ask (.lit (.lit (.lit (.lit (.lit (.nil)))))) (.lit (.lit (.lit (.lit (.lit (.ask (.nil) (.lit (.nil)))))))))))))))))) (.lit (.lit (.lit (.lit (.lit (.lit (.lit (.lit (.nil)))))))))))))))))) (.lit (.ask (.lit (.lit (.lit (.lit (.nil))))) (.lit (.lit (.lit (.nil)))))))) h (by kernel_rfl)
def Wp:IC:=(.seq (.reg [⟨(some 1),(.box 2 (.t 0)),0,none⟩,⟨(some 2),(.mv (.c (.bool false))),1,none⟩] none) (.seq (.seq (.reg [⟨(some 5),(.faddr 1 (.t 1)),0,none⟩,⟨(some 6),(.load false [(.sl 2)] (.t 5)),0,none⟩,⟨(some 7),(.len 1 (.t 6)),0,none⟩,⟨(some 8),(.mv (.c (.int .i64 0))),0,none⟩] none) (.block 0 (.loop [8,7,6,1] (.seq (.reg [⟨(some 9),(.bin .num .lss (.t 8) (.t 7)),0,none⟩] none) (.seq (.cond (.t 9) .skip (.exit 0)) (.seq (.block 1 (.seq (.reg [⟨(some 10),(.mv (.t 8)),0,none⟩,⟨(some 11),(.iaddr 2 (.t 6) (.t 8)),0,none⟩,⟨(some 12),(.load true [.str,(.int .i64)] (.t 11)),0,none⟩,⟨(some 4),(.alloc (.agg [(.str []),(.int .i64 0)])),0,none⟩,⟨(some 3),(.mv (.t 10)),1,none⟩,⟨none,(.store 2 (.t 4) (.t 12)),1,none⟩] none) (.seq (.reg [⟨(some 13),(.faddr 0 (.t 4)),0,none⟩,⟨(some 14),(.load false [.str] (.t 13)),0,none⟩,⟨(some 15),(.call (.c (.fn 119)) [(.t 14)]),0,none⟩,⟨(some 16),(.un .not (.t 15)),2,none⟩,⟨(some 17),(.mv (.t 16)),2,none⟩,⟨(some 18),(.faddr 1 (.t 4)),2,(some (17,false))⟩,⟨(some 19),(.load false [(.int .i64)] (.t 18)),2,(some (17,false))⟩,⟨(some 20),(.bin .num .eql (.t 19) (.c (.int .i64 0))),2,(some (17,false))⟩,⟨(some 21),(.pick (.t 17) (.c (.bool true)) (.t 20)),2,none⟩,⟨(some 22),(.mv (.t 21)),2,none⟩,⟨(some 23),(.faddr 1 (.t 4)),2,(some (22,false))⟩,⟨(some 24),(.load false [(.int .i64)] (.t 23)),2,(some (22,false))⟩,⟨(some 25),(.call (.c (.fn 144)) [(.t 24)]),2,(some (22,false))⟩,⟨(some 26),(.un .not (.t 25)),4,(some (22,false))⟩,⟨(some 27),(.pick (.t 22) (.c (.bool true)) (.t 26)),4,none⟩,⟨(some 28),(.mv (.t 27)),4,none⟩,⟨(some 29),(.mv (.t 3)),4,(some (28,false))⟩,⟨(some 30),(.bin .num .gtr (.t 29) (.c (.int .i64 0))),4,(some (28,false))⟩,⟨(some 31),(.mv (.t 30)),4,(some (28,false))⟩,⟨(some 32),(.faddr 1 (.t 1)),4,(some (31,true))⟩,⟨(some 33),(.load false [(.sl 2)] (.t 32)),4,(some (31,true))⟩,⟨(some 34),(.mv (.t 3)),4,(some (31,true))⟩,⟨(some 35),(.bin .num .sub (.t 34) (.c (.int .i64 1))),4,(some (31,true))⟩,⟨(some 36),(.iaddr 2 (.t 33) (.t 35)),4,(some (31,true))⟩,⟨(some 37),(.faddr 0 (.t 36)),4,(some (31,true))⟩,⟨(some 38),(.load false [.str] (.t 37)),4,(some (31,true))⟩,⟨(some 39),(.faddr 0 (.t 4)),4,(some (31,true))⟩,⟨(some 40),(.load false [.str] (.t 39)),4,(some (31,true))⟩,⟨(some 41),(.bin .num .geq (.t 38) (.t 40)),4,(some (31,true))⟩,⟨(some 42),(.pick (.t 31) (.t 41) (.c (.bool false))),4,(some (28,false))⟩,⟨(some 43),(.pick (.t 28) (.c (.bool true)) (.t 42)),4,none⟩] (some [[],[0],[1,0],[2,1,0],[3,2,1,0],[4,3,2,1,0],[5,4,3,2,1,0],[6,4,5,3,2,1,0],[4,7,3,2,1,0,6,5],[8,4,7,3,2,1,0,6,5],[9,8,4,7,3,2,1,0,6,5],[10,9,8,4,7,3,2,1,0,6,5],[11,9,10,8,4,7,3,2,1,0,6,5],[12,9,11,10,8,4,7,3,2,1,0,6,5],[9,13,8,4,7,3,2,1,0,6,5,12,11,10],[14,12,9,13,8,4,7,3,2,1,0,6,5,11,10],[15,14,12,9,13,8,4,7,3,2,1,0,6,5,11,10],[16,15,14,12,9,13,8,4,7,3,2,1,0,6,5,11,10],[17,15,16,14,12,9,13,8,4,7,3,2,1,0,6,5,11,10],[18,17,15,16,14,12,9,13,8,4,7,3,2,1,0,6,5,11,10],[19,18,17,15,16,14,12,9,13,8,4,7,3,2,1,0,6,5,11,10],[18,17,15,16,14,12,9,13,8,4,7,3,2,1,0,6,5,11,10],[21,18,17,15,16,14,12,9,13,8,4,7,3,2,1,0,6,5,11,10],[20,22,18,19,17,15,16,14,12,9,13,8,4,7,3,2,1,0,6,5,11,10,21],[23,18,20,22,19,17,15,16,14,12,9,13,8,4,7,3,2,1,0,6,5,11,10,21],[24,18,23,20,22,19,17,15,16,14,12,9,13,8,4,7,3,2,1,0,6,5,11,10,21],[18,17,15,16,14,12,9,13,8,4,7,3,2,1,0,6,5,11,10],[26,18,17,15,16,14,12,9,13,8,4,7,3,2,1,0,6,5,11,10],[25,27,18,24,23,20,22,19,17,15,16,14,12,9,13,8,4,7,3,2,1,0,6,5,11,10,21,26],[18,28,15,17,16,14,12,9,13,8,4,7,3,2,1,0,6,5,11,10,25,27,24,23,20,22,19,21,26],[15,29,14,12,9,13,8,4,7,3,2,1,0,6,5,11,10,18,28,17,16,25,27,24,23,20,22,19,21,26]])) (.cond (.t 43) (.seq (.reg [⟨(some 2),(.mv (.c (.bool false))),0,none⟩] none) .ret) .skip)))) (.reg [⟨(some 44),(.bin .num .add (.t 8) (.c (.int .i64 1))),0,none⟩,⟨(some 8),(.mv (.t 44)),0,none⟩] none))))))) (.seq (.reg [⟨(some 45),(.faddr 0 (.t 1)),0,none⟩,⟨(some 46),(.load false [(.int .i64)] (.t 45)),0,none⟩,⟨(some 47),(.call (.c (.fn 144)) [(.t 46)]),0,none⟩,⟨(some 48),(.mv (.t 47)),2,none⟩,⟨(some 49),(.faddr 1 (.t 1)),2,(some (48,true))⟩,⟨(some 50),(.load false [(.sl 2)] (.t 49)),2,(some (48,true))⟩,⟨(some 51),(.len 1 (.t 50)),2,(some (48,true))⟩,⟨(some 52),(.bin .num .leq (.t 51) (.c (.int .i64 12))),2,(some (48,true))⟩,⟨(some 53),(.pick (.t 48) (.t 52) (.c (.bool false))),2,none⟩,⟨(some 2),(.mv (.t 53)),2,none⟩] none) .ret)))
def Wy:List IRes:=[(.tmp 2)]
abbrev a3w:Nat:=54
def VB:ZF:=Xe [(144,.pure (preT (fun _:Int×Unit=>true)) (Zf (fun x:Int×Unit=>YE x.1))),(119,.pure (preT (fun x:Str×Unit=>decide (x.1.s.length<=1000000))) (Zf (fun x:Str×Unit=>ZE x.1)))]
theorem b6n{G:PV->Prop}(l:Lin)(h:At VB 0 (Za Wy G) Wp 0 54 [(1,(.ptr 0 0)),(6,(.pv (.sl 2 false (List.map enc l.t)))),(7,(.pv (.int .i64 (↑(List.length (List.map enc l.t)):Int)))),(8,(.pv (.int .i64 0)))] [(.obj (.box [(.pv (.int .i64 l.k)),(.pv (.sl 2 false (List.map enc l.t)))]))]):Zc VB 0 (Za Wy G) Wp [] (Ye 54 [enc l]):=Zc.tp (.nil) h (by kernel_rfl)
theorem Tv{G:PV->Prop}(l:Lin)(i:Int)(h:if (decide (i<(↑(List.length l.t):Int)))=true then(decide (0<=i)&&decide (Int.toNat i<List.length (List.map enc l.t))&&Enc.sz Coef==2)=true∧(∃ y0:Coef,AV.pv (PV.rptr (PV.cells (List.getD (List.map enc l.t) (Int.toNat i) default)))=AV.pv (PV.rptr (PV.cells ((enc) y0)))∧((Go.Pl.preT (fun(x:Str×Unit)=>decide (List.length (Str.s x.1)<=1000000)) [(.str (PV.asStr (List.getD (PV.cells (enc y0)) 0 default)))])=true∧(∃ y1:Bool,AV.pv (Zf (fun(x:Str×Unit)=>ZE x.1) [(.str (PV.asStr (List.getD (PV.cells (enc y0)) 0 default)))])=AV.pv (enc y1)∧(if (!y1)=true then G ((.bool false))else(if (PV.asInt (List.getD (PV.cells (enc y0)) (0+1) default)==0)=true then G ((.bool false))else(∃ y2:Bool,AV.pv (Zf (fun(x:Int×Unit)=>YE x.1) [(.int .i64 (PV.asInt (List.getD (PV.cells (enc y0)) (0+1) default)))])=AV.pv (enc y2)∧(if (!y2)=true then G ((.bool false))else(if (decide (i>0))=true then(decide (0<=IntKind.wrap IntKind.i64 (i - 1))&&decide (Int.toNat (IntKind.wrap IntKind.i64 (i - 1))<List.length (List.map enc l.t))&&Enc.sz Coef==2)=true∧(∃ y3:Coef,AV.pv (PV.rptr (PV.cells (List.getD (List.map enc l.t) (Int.toNat (IntKind.wrap IntKind.i64 (i - 1))) default)))=AV.pv (PV.rptr (PV.cells ((enc) y3)))∧(if (!Op.bytesLess (PV.asStr (List.getD (List.drop 0 (PV.cells (enc y3))) 0 default)) (PV.asStr (List.getD (PV.cells (enc y0)) 0 default)))=true then G ((.bool false))else(At VB 0 (Za Wy G) Wp 0 54 [(1,(.ptr 0 0)),(6,(.pv (.sl 2 false (List.map enc l.t)))),(7,(.pv (.int .i64 (↑(List.length l.t):Int)))),(8,(.pv (.int .i64 (IntKind.wrap IntKind.i64 (i+1)))))] [(.obj (.box [(.pv (.int .i64 l.k)),(.pv (.sl 2 false (List.map enc l.t)))]))])))else(At VB 0 (Za Wy G) Wp 0 54 [(1,(.ptr 0 0)),(6,(.pv (.sl 2 false (List.map enc l.t)))),(7,(.pv (.int .i64 (↑(List.length l.t):Int)))),(8,(.pv (.int .i64 (IntKind.wrap IntKind.i64 (i+1)))))] [(.obj (.box [(.pv (.int .i64 l.k)),(.pv (.sl 2 false (List.map enc l.t)))]))])))))))))else(∃ y4:Bool,AV.pv (Zf (fun(x:Int×Unit)=>YE x.1) [(.int .i64 l.k)])=AV.pv (enc y4)∧(if (y4)=true then G ((.bool (decide ((↑(List.length (List.map enc l.t)):Int)<=12))))else(G ((.bool false)))))):At VB 0 (Za Wy G) Wp 0 54 [(1,.ptr 0 0),(6,.pv (enc l.t)),(7,.pv (.int .i64 l.t.length)),(8,.pv (.int .i64 i))] [.obj (.box [.pv (.int .i64 l.k),.pv (enc l.t)])]:=At.tp (.lit (.ask (.req (.abs (Coef) (fun YY=>AV.pv (PV.rptr (PV.cells ((enc) YY)))) (.lit (.req (.abs (Bool) (fun YY=>AV.pv (enc YY)) (.ask (.lit (.lit (.lit (.lit (.lit (.lit (.lit (.lit (.lit (.lit (.lit (.lit (.lit (.lit (.nil))))))))))))))) (.lit (.lit (.lit (.lit (.ask (.lit (.lit (.lit (.lit (.lit (.lit (.lit (.lit (.lit (.lit (.nil))))))))))) (.lit (.lit (.lit (.abs (Bool) (fun YY=>AV.pv (enc YY)) (.lit (.lit (.ask (.lit (.lit (.lit (.lit (.lit (.nil)))))) (.lit (.lit (.lit (.ask (.lit (.lit (.lit (.lit (.lit (.req (.abs (Coef) (fun YY=>AV.pv (PV.rptr (PV.cells ((enc) YY)))) (.lit (.lit (.lit (.lit (.lit (.lit (.lit (.lit (.lit (.lit (.ask (.nil) (.lit (.nil)))))))))))))))))))) (.lit (.lit (.lit (.lit (.lit (.lit (.lit (.lit (.lit (.lit (.lit (.lit (.lit (.lit (.nil))))))))))))))))))))))))))))))))))))) (.lit (.abs (Bool) (fun YY=>AV.pv (enc YY)) (.ask (.lit (.lit (.lit (.lit (.lit (.nil)))))) (.lit (.lit (.lit (.lit (.nil)))))))))) h (by kernel_rfl)
end Go.Pl

namespace Go.Pl
open Go.RowKit
open Enc (enc dec is)
open EncL (encL decL isL)
theorem FK{s:List UInt8}{i:Nat}(h:i<s.length):List.getD (Zw s) (Int.toNat (i:Int)) default = .int .u8 (s[i].toNat:Int):=by
 simp[Zw,List.getD,h]
theorem UI(s:List UInt8):(Zw s).length=s.length:=by simp[Zw]
def Fx(c:UInt8):Bool:=WM c||Wm c
theorem Pg{c:UInt8}:WM c=true ↔ 97<=c.toNat∧c.toNat<=122:=by
 simp only[WM,Bool.and_eq_true,decide_eq_true_eq,UInt8.le_iff_toNat_le]
 have e1:(97:UInt8).toNat=97:=rfl
 have e2:(122:UInt8).toNat=122:=rfl
 rw[e1,e2]
theorem Jk{c:UInt8}(h : ¬ (97<=c.toNat∧c.toNat<=122)):WM c=false:=by
 cases e:WM c
 ·rfl
 ·exact absurd (Pg.1 e) h
theorem Jh{c:UInt8}(h : ¬ (48<=c.toNat∧c.toNat<=57)):Wm c=false:=by
 cases e:Wm c
 ·rfl
 ·exact absurd (Vs.1 e) h
def XC(s:List UInt8)(i:Nat):Bool:=(match i with|0=>(match s with|[]=>true|c::r=>WM c&&r.all Fx)|i+1=>(s.drop (i+1)).all Fx)&&(!(s==[]))&&decide (s.length<=30)
theorem RA{s:List UInt8}{i:Nat}(h:i<s.length)(hb:WM s[i]=true∨(i≠0∧Wm s[i]=true)):XC s i=XC s (i+1):=by
 cases i with
 | zero=>
  cases s with
  | nil=>simp at h
  | cons c r=>
   rcases hb with hb|hb
   ·have hb:WM c=true:=hb
    simp[XC,hb]
   ·exact absurd rfl hb.1
 | succ i=>
  unfold XC
  simp only
  rw[List.drop_eq_getElem_cons h,List.all_cons]
  have:Fx s[i+1]=true:=by
   rcases hb with hb|hb
   ·simp[Fx,hb]
   ·simp[Fx,hb.2]
  rw[this,Bool.true_and]
theorem Ry{s:List UInt8}{i:Nat}(h:i<s.length)(hb:WM s[i]=false∧(i=0∨Wm s[i]=false)):XC s i=false:=by
 cases i with
 | zero=>
  cases s with
  | nil=>simp at h
  | cons c r=>
   have hb:WM c=false:=hb.1
   simp[XC,hb]
 | succ i=>
  unfold XC
  simp only
  rw[List.drop_eq_getElem_cons h,List.all_cons]
  have:Fx s[i+1]=false:=by
   rcases hb.2 with h0|h0
   ·cases h0
   ·simp[Fx,hb.1,h0]
  rw[this];simp
theorem OZ(s:List UInt8)(hs:s.length<=1000000): ∀ (m i:Nat),m+i=s.length->At WT 0 (Za XQ (Zg (XC s i))) XF 0 67 [(0,.pv (.str s)),(34,.pv (.sl 1 false (Zw s))),(35,.pv (.int .i64 (Zw s).length)),(36,.pv (.int .i64 i))] []:=by
 intro m
 induction m with
 | zero=>
  intro i hi
  have e:XC s i=(!(s==[])&&decide (s.length<=30)):=by
   unfold XC
   cases i with
   | zero=>cases s with
    | nil=>rfl
    | cons c r=>simp at hi
   | succ i=>simp only;rw[List.drop_of_length_le (show s.length<=i+1 by omega)];simp
  rw[e]
  refine LH s i (ZK (Z4 (by rw[UI];omega)) (X3 (fun h=>ZM ?_) fun h=>ZM ?_))
  ·rw[h,Bool.true_and];exact decide_eq_decide.2 (by omega)
  ·rw[h,Bool.false_and]
 | succ m ih=>
  intro i hi
  have hlt:i<s.length:=by omega
  have h:=ih (i+1) (by omega)
  refine LH s i ?_
  rw[FK hlt,next (by omega)]
  have stop:(WM s[i]=false∧(i=0∨Wm s[i]=false))->Zg (XC s i) (.bool false):=fun hb=>ZM (Ry hlt hb).symm
  have go:(WM s[i]=true∨(i≠0∧Wm s[i]=true))->At WT 0 (Za XQ (Zg (XC s i))) XF 0 67 [(0,.pv (.str s)),(34,.pv (.sl 1 false (Zw s))),(35,.pv (.int .i64 (Zw s).length)),(36,.pv (.int .i64 ((i+1:Nat):Int)))] []:=fun hb=>by rw[RA hlt hb];exact h
  have rest:WM s[i]=false->(if ((i:Int)==0)=true then Zg (XC s i) (.bool false)else if decide ((s[i].toNat:Int)<48)=true then Zg (XC s i) (.bool false)else if decide ((s[i].toNat:Int)>57)=true then Zg (XC s i) (.bool false)else At WT 0 (Za XQ (Zg (XC s i))) XF 0 67 [(0,.pv (.str s)),(34,.pv (.sl 1 false (Zw s))),(35,.pv (.int .i64 (Zw s).length)),(36,.pv (.int .i64 ((i+1:Nat):Int)))] []):=by
   intro hl
   refine Ka (fun h0=>stop ⟨hl,.inl (by omega)⟩) fun h0=>WJ (fun h1=>stop ⟨hl,.inr (Jh (by omega))⟩) fun h1=>WJ (fun h2=>stop ⟨hl,.inr (Jh (by omega))⟩) fun h2=>go (.inr ⟨by omega,Vs.2 (by omega)⟩)
  refine ZC (ZW (by rw[UI];exact hlt)) ⟨by rw[UI];simp[hlt],by rfl,?_⟩
  refine WJ (fun h1=>rest (Jk ?_)) fun h1=>WJ (fun h2=>rest (Jk ?_)) fun h2=>go (.inl (Pg.2 ?_))
  ·have h1:(s[i].toNat:Int)<97:=h1
   omega
  ·have h2:(s[i].toNat:Int)>122:=h2
   omega
  ·have h1 : ¬ (s[i].toNat:Int)<97:=h1
   have h2 : ¬ (s[i].toNat:Int)>122:=h2
   omega
theorem TM{s:List UInt8}(h:[95].isPrefixOf s=false):ZE ⟨s⟩=XC s 0:=by
 cases s with
 | nil=>rfl
 | cons c r=>
  have hc : ¬ c=95:=by intro e;subst e;simp at h
  have e:decide ((c::r).length<=30)=decide (r.length<=29):=decide_eq_decide.2 (by simp)
  unfold XC
  rw[e]
  simp only[ZE,if_neg hc]
  show _=(WM c&&r.all Fx&& !((c::r)==[])&&_)
  have e2:((c::r)==[])=false:=rfl
  rw[e2]
  simp only[Bool.not_false,Bool.and_true]
  rfl
theorem Bp(s:Str): -9223372036854775808<=(Yw s).1∧((Yw s).1<=9223372036854775807):=by
 unfold Yw
 split
 ·rename_i v hv;exact Lib.atoiAll_bounds hv
 ·have:=Lib.atoiSat_bounds s.s
  exact⟨by show _<=Lib.atoiSat s.s;omega,by show Lib.atoiSat s.s<=_;omega⟩
 ·exact⟨by show(-9223372036854775808:Int)<=0;omega,by show(0:Int)<=_;omega⟩
theorem a4z: ∀ a:Str×Unit,decide (a.1.s.length<=1000000)=true->Zc WT 0 (Za XQ (Zg (ZE a.1))) XF [] (Ye b3m (encL a)):=by
 rintro⟨⟨s⟩,⟨⟩⟩ hl
 have hl:s.length<=1000000:=by simpa using hl
 refine c2g s (Zh (⟨s⟩,⟨[95]⟩,()) rfl (X3 (fun h=> ?_) fun h=> ?_))
 ·have h:[95].isPrefixOf s=true:=h
  obtain⟨r,rfl⟩ : ∃ r,s=95::r:=by
   cases s with
   | nil=>simp at h
   | cons c r=>
    have:95=c:=by simpa using h
    exact⟨r,by rw[this]⟩
  have e1:List.drop (Int.toNat 1) (List.take (List.length (95::r)) (95::r))=r:=by rw[List.take_of_length_le (Nat.le_refl _)];rfl
  simp only[e1]
  refine⟨by simp,Zj (⟨r⟩,()) rfl (by simp at hl ⊢;omega),Zh (⟨r⟩,()) rfl ⟨by show(Ak (enc (Yw ⟨r⟩).2)&&true)=true;rw[c3i];rfl,?_⟩⟩
  show if UK (enc (Yw ⟨r⟩).2)=true then(if decide ((Yw ⟨r⟩).1>0)=true then(if _ then _ else Zg (ZE ⟨95::r⟩) _)else Zg (ZE ⟨95::r⟩) _)else Zg (ZE ⟨95::r⟩) _
  rw[Mf]
  by_cases h9:r.length<=9
  ·rw[<- a1y r h9,decide_eq_true h9,Bool.and_true]
   refine X3 (fun h1=>X3 (fun h2=>ZC (by simp;omega) ⟨Zj ((Yw ⟨r⟩).1,()) rfl (by have:=Bp ⟨r⟩;simp;omega),Zh ((Yw ⟨r⟩).1,()) rfl ⟨by simp,ZM ?_⟩⟩) fun h2=>ZM ?_) fun h1=>ZM ?_
   ·rw[h1,h2];simp only[Bool.true_and,Bool.and_true];rfl
   ·rw[h2];simp
   ·rw[h1];simp
  ·rw[decide_eq_false h9,Bool.and_false]
   refine X3 (fun h1=>X3 (fun h2=>ZK (by simp;omega) (ZM rfl)) fun h2=>ZM rfl) fun h1=>ZM rfl
 ·have h:[95].isPrefixOf s=false:=h
  show At WT 0 (Za XQ (Zg (ZE ⟨s⟩))) XF 0 67 _ _
  rw[TM h]
  exact OZ s hl s.length 0 (by omega)
theorem Mw(l:Lin)(hl:l.t.length<=9223372036854775807)(hs:l.t.all (fun t=>decide (t.v.s.length<=1000000))=true): ∀ (j i:Nat),j+i=l.t.length->At VB 0 (Za Wy (Zg (Sv (pvS l.t i) (l.t.drop i)&&(YE l.k&&decide (l.t.length<=12))))) Wp 0 54 [(1,.ptr 0 0),(6,.pv (enc l.t)),(7,.pv (.int .i64 l.t.length)),(8,.pv (.int .i64 i))] [.obj (.box [.pv (.int .i64 l.k),.pv (enc l.t)])]:=by
 intro j
 induction j with
 | zero=>
  intro i hi
  refine Tv l i (ZK (Z4 (by omega)) (Zh (l.k,()) rfl ?_))
  rw[List.drop_of_length_le (show l.t.length<=i by omega)]
  refine X3 (fun h=>ZM ?_) fun h=>ZM ?_
  ·have h:YE l.k=true:=h
   rw[h]
   show _=(true&&(true&&_))
   rw[Bool.true_and,Bool.true_and]
   exact decide_eq_decide.2 (by simp;omega)
  ·have h:YE l.k=false:=h
   rw[h];simp
 | succ j ih=>
  intro i hi
  have hlt:i<l.t.length:=by omega
  have h:=ih (i+1) (by omega)
  have hsi:l.t[i].v.s.length<=1000000:=by rw[List.all_eq_true]at hs;simpa using hs _ (List.getElem_mem hlt)
  refine Tv l i ?_
  refine ZC (ZW hlt) ⟨Zt hlt rfl,Zx hlt ⟨Zj (l.t[i].v,()) rfl (by simpa using hsi),Zh (l.t[i].v,()) rfl (X7 (fun hn=> ?_) fun hn=>Ka (fun hc=> ?_) fun hc=>Zh (l.t[i].c,()) rfl (X7 (fun hk=> ?_) fun hk=> ?_))⟩⟩
  all_goals rw[List.drop_eq_getElem_cons hlt,Gr]
  ·have hn:ZE l.t[i].v=false:=hn
   exact ZM (by simp[hn])
  ·have hc:l.t[i].c=0:=hc
   exact ZM (by simp[hc])
  ·have hk:YE l.t[i].c=false:=hk
   exact ZM (by simp[hk])
  have hn:ZE l.t[i].v=true:=hn
  have hk:YE l.t[i].c=true:=hk
  have hc:l.t[i].c≠0:=hc
  rw[next (by omega),hn,hk,decide_eq_true hc]
  have ep:pvS l.t (i+1)=some l.t[i].v.s:=by simp[pvS,hlt]
  rw[ep]at h
  cases i with
  | zero=>exact ZK (by simp) h
  | succ i=>
   refine ZC (by simp) ?_
   rw[a2h (by omega)]
   refine⟨Zt (by omega) rfl,Zx (by omega) ?_⟩
   have e2:pvS l.t (i+1)=some l.t[i].v.s:=by simp[pvS,show i<l.t.length by omega]
   rw[e2]
   refine X7 (fun hb=> ?_) fun hb=> ?_
   all_goals
    have hb':=(YW l.t[i].v.s l.t[i+1].v.s).symm.trans hb
    simp only[hb',Bool.and_true,Bool.true_and,Bool.and_false,Bool.false_and]
   ·exact ZM rfl
   ·exact h
theorem a0l: ∀ a:Lin×Unit,Yi a.1=true->Zc VB 0 (Za Wy (Zg (Zq a.1))) Wp [] (Ye a3w (encL a)):=by
 rintro⟨l,⟨⟩⟩ hl
 simp only[Yi,Yt,Bool.and_eq_true,decide_eq_true_eq]at hl
 refine b6n l ?_
 show At VB 0 (Za Wy (Zg (Zq l))) Wp 0 54 _ _
 have e:Zq l=(Sv (pvS l.t 0) (l.t.drop 0)&&(YE l.k&&decide (l.t.length<=12))):=by rw[Li,Bool.and_comm];rfl
 rw[e,List.length_map]
 exact Mw l hl.1 hl.2 l.t.length 0 (by omega)
end Go.Pl

namespace Go.Pl
open Go.RowKit
open Enc (enc dec is)
open EncL (encL decL isL)
structure LR where
 k:Int
 w:Nat
 ts:List Coef
def LR.view(r:LR):Lin:=⟨r.k,r.ts.take r.w⟩
def LR.av(r:LR)(l:Nat):AV:=.agg [.pv (.int .i64 r.k),.row l r.ts.length 0 r.w]
def LR.ob(r:LR):AObj:=.row false 61 2 (r.ts.map enc)
def KU:Nat->Nat->Nat->List Coef->List Coef×Nat
 | 0,_,j,ts=>(ts,j)
 | m+1,i,j,ts=>if (ts.getD i ⟨⟨[]⟩,0⟩).c=0 then KU m (i+1) j ts else KU m (i+1) (j+1) (ts.set j (ts.getD i ⟨⟨[]⟩,0⟩))
def Ri(k:Int)(o:List Coef):LR:=⟨k,(KU o.length 0 0 o).2,(KU o.length 0 0 o).1⟩
def Cf(l:Lin)(s:Str)(c:Int):LR:=Ri l.k (XN s c false l.t)
theorem GM(o:List Coef): ∀ (m i j:Nat) (ts:List Coef),m+i=o.length->ts.length=o.length->j<=i->ts.take j=(o.take i).filter (fun t=>decide (t.c≠0))->ts.drop i=o.drop i->(KU m i j ts).1.take (KU m i j ts).2=o.filter fun t=>decide (t.c≠0)
 | 0,i,j,ts,hm,hts,hji,h1,h2=>by
  rw[KU]
  show ts.take j=_
  rw[h1,List.take_of_length_le (by omega)]
 | m+1,i,j,ts,hm,hts,hji,h1,h2=>by
  have hlt:i<o.length:=by omega
  have hi':i<ts.length:=by omega
  have hj':j<ts.length:=by omega
  have ei:ts[i]=o[i]:=by
   have:(ts.drop i)[0]? = (o.drop i)[0]? :=by rw[h2]
   simpa [hi',hlt]using this
  have htk:(o.take (i+1))=o.take i++[o[i]]:=by rw[List.take_add_one,List.getElem?_eq_getElem hlt];rfl
  have eg:ts.getD i ⟨⟨[]⟩,0⟩=ts[i]:=by simp[List.getD,hi']
  rw[KU,eg]
  split
  ·rename_i hz
   refine GM o m (i+1) j ts (by omega) hts (by omega) ?_ ?_
   ·rw[h1,htk,List.filter_append]
    have:o[i].c=0:=by rw[<- ei];exact hz
    simp[this]
   ·have:=congrArg (List.drop 1) h2
    simpa [List.drop_drop,Nat.add_comm]using this
  ·rename_i hz
   refine GM o m (i+1) (j+1) (ts.set j ts[i]) (by omega) (by simp[hts]) (by omega) ?_ ?_
   ·rw[htk,List.filter_append,<- h1]
    have:decide (o[i].c≠0)=true:=by rw[<- ei];exact decide_eq_true hz
    simp only[List.filter_cons,this,if_true,List.filter_nil]
    rw[List.take_add_one,List.getElem?_set_self hj',List.take_set_of_le (Nat.le_refl j),ei]
    rfl
   ·rw[List.drop_set_of_lt (by omega)]
    have:=congrArg (List.drop 1) h2
    simpa [List.drop_drop,Nat.add_comm]using this
theorem Od(l:Lin)(s:Str)(c:Int):(Cf l s c).view=Vm l s c:=by
 show(⟨_,_⟩:Lin)=⟨_,_⟩
 congr 1
 exact GM _ _ 0 0 _ (by omega) rfl (by omega) (by simp) rfl
def Jf:List AV->List AObj->Bool
 | [.pv l,.pv (.str s),.pv (.int .i64 c)],[]=>VG Lin l&&decide ((dec l:Lin).t.length<=1000000)
 | _,_=>false
def Su(r:LR)(l:Nat)(os:List AObj):AV×List AObj×List AObj:=(r.av l,os,[r.ob])
def Jc:List AV->List AObj->AV×List AObj×List AObj
 | [.pv l,.pv (.str s),.pv (.int .i64 c)],_=>Su (Cf (dec l) ⟨s⟩ c) 0 []
 | _,_=>Vr
def c9t:PV:=.agg [.int .i64 0,.sl 0 true []]
end Go.Pl

namespace Go.Pl
open Go.RowKit
open Enc (enc dec is)
open EncL (encL decL isL)
set_option maxRecDepth 100000
def ZP:IC:=(.seq (.reg [⟨(some 3),(.box 2 (.t 0)),0,none⟩,⟨(some 6),(.alloc (.agg [(.int .i64 0),(.sl 0 true [])])),1,none⟩] none) (.seq (.reg [⟨(some 13),(.faddr 0 (.t 3)),0,none⟩,⟨(some 14),(.load false [(.int .i64)] (.t 13)),0,none⟩,⟨(some 15),(.build [(.int .i64 0),(.sl 0 true [])] [(0,(1,(.t 14)))]),0,none⟩,⟨(some 7),(.alloc (.agg [(.int .i64 0),(.sl 0 true [])])),0,none⟩,⟨none,(.store 2 (.t 7) (.t 15)),1,none⟩] none) (.seq (.reg [⟨(some 8),(.mv (.c (.bool false))),0,none⟩] none) (.seq (.seq (.reg [⟨(some 9),(.mv (.c (.int .i64 0))),0,none⟩] none) (.block 0 (.loop [9,3,8,1,7,2,6] (.seq (.seq (.reg [⟨(some 16),(.mv (.t 9)),0,none⟩,⟨(some 17),(.faddr 1 (.t 3)),0,none⟩,⟨(some 18),(.load false [(.sl 2)] (.t 17)),0,none⟩,⟨(some 19),(.len 1 (.t 18)),0,none⟩,⟨(some 20),(.bin .num .lss (.t 16) (.t 19)),0,none⟩] none) (.cond (.t 20) .skip (.exit 0))) (.seq (.block 1 (.seq (.reg [⟨(some 23),(.faddr 1 (.t 3)),0,none⟩,⟨(some 24),(.load false [(.sl 2)] (.t 23)),0,none⟩,⟨(some 25),(.mv (.t 9)),0,none⟩,⟨(some 26),(.iaddr 2 (.t 24) (.t 25)),0,none⟩,⟨(some 27),(.load true [.str,(.int .i64)] (.t 26)),0,none⟩,⟨(some 10),(.alloc (.agg [(.str []),(.int .i64 0)])),0,none⟩,⟨none,(.store 2 (.t 10) (.t 27)),1,none⟩] none) (.seq (.seq (.reg [⟨(some 28),(.mv (.t 8)),0,none⟩,⟨(some 29),(.un .not (.t 28)),0,none⟩,⟨(some 30),(.mv (.t 29)),0,none⟩,⟨(some 31),(.faddr 0 (.t 10)),0,(some (30,true))⟩,⟨(some 32),(.load false [.str] (.t 31)),0,(some (30,true))⟩,⟨(some 33),(.mv (.t 1)),0,(some (30,true))⟩,⟨(some 34),(.bin .num .gtr (.t 32) (.t 33)),0,(some (30,true))⟩,⟨(some 35),(.pick (.t 30) (.t 34) (.c (.bool false))),0,none⟩] none) (.cond (.t 35) (.seq (.reg [⟨(some 36),(.faddr 1 (.t 7)),0,none⟩,⟨(some 37),(.load false [(.sl 2)] (.t 36)),0,none⟩,⟨(some 38),(.mv (.t 1)),0,none⟩,⟨(some 39),(.mv (.t 2)),0,none⟩,⟨(some 40),(.build [(.str []),(.int .i64 0)] [(0,(1,(.t 38))),(1,(1,(.t 39)))]),0,none⟩,⟨(some 41),(.bslice 61 2 1 (.agg [(.str []),(.int .i64 0)]) [(0,(.t 40))]),0,none⟩,⟨(some 42),(.append 61 2 24 (.t 37) (.t 41)),1,none⟩,⟨(some 43),(.faddr 1 (.t 7)),2,none⟩,⟨none,(.store 1 (.t 43) (.t 42)),2,none⟩] none) (.reg [⟨(some 8),(.mv (.c (.bool true))),0,none⟩] none)) .skip)) (.seq (.seq (.reg [⟨(some 44),(.faddr 0 (.t 10)),0,none⟩,⟨(some 45),(.load false [.str] (.t 44)),0,none⟩,⟨(some 46),(.mv (.t 1)),0,none⟩,⟨(some 47),(.bin .num .eql (.t 45) (.t 46)),0,none⟩] none) (.cond (.t 47) (.seq (.reg [⟨(some 48),(.faddr 1 (.t 10)),0,none⟩,⟨(some 49),(.load false [(.int .i64)] (.t 48)),0,none⟩,⟨(some 50),(.mv (.t 2)),0,none⟩,⟨(some 51),(.bin .num .add (.t 49) (.t 50)),0,none⟩,⟨(some 52),(.faddr 1 (.t 10)),0,none⟩,⟨none,(.store 1 (.t 52) (.t 51)),0,none⟩] none) (.reg [⟨(some 8),(.mv (.c (.bool true))),0,none⟩] none)) .skip)) (.reg [⟨(some 53),(.faddr 1 (.t 7)),0,none⟩,⟨(some 54),(.load false [(.sl 2)] (.t 53)),0,none⟩,⟨(some 55),(.load true [.str,(.int .i64)] (.t 10)),0,none⟩,⟨(some 56),(.bslice 61 2 1 (.agg [(.str []),(.int .i64 0)]) [(0,(.t 55))]),0,none⟩,⟨(some 57),(.append 61 2 24 (.t 54) (.t 56)),1,none⟩,⟨(some 58),(.faddr 1 (.t 7)),2,none⟩,⟨none,(.store 1 (.t 58) (.t 57)),2,none⟩] none))))) (.reg [⟨(some 21),(.mv (.t 9)),0,none⟩,⟨(some 22),(.bin .num .add (.t 21) (.c (.int .i64 1))),0,none⟩,⟨(some 9),(.mv (.t 22)),0,none⟩] none)))))) (.seq (.seq (.reg [⟨(some 59),(.mv (.t 8)),0,none⟩,⟨(some 60),(.un .not (.t 59)),0,none⟩] none) (.cond (.t 60) (.reg [⟨(some 61),(.faddr 1 (.t 7)),0,none⟩,⟨(some 62),(.load false [(.sl 2)] (.t 61)),0,none⟩,⟨(some 63),(.mv (.t 1)),0,none⟩,⟨(some 64),(.mv (.t 2)),0,none⟩,⟨(some 65),(.build [(.str []),(.int .i64 0)] [(0,(1,(.t 63))),(1,(1,(.t 64)))]),0,none⟩,⟨(some 66),(.bslice 61 2 1 (.agg [(.str []),(.int .i64 0)]) [(0,(.t 65))]),0,none⟩,⟨(some 67),(.append 61 2 24 (.t 62) (.t 66)),1,none⟩,⟨(some 68),(.faddr 1 (.t 7)),2,none⟩,⟨none,(.store 1 (.t 68) (.t 67)),2,none⟩] none) .skip)) (.seq (.reg [⟨(some 11),(.mv (.c (.int .i64 0))),0,none⟩] none) (.seq (.seq (.reg [⟨(some 12),(.mv (.c (.int .i64 0))),0,none⟩] none) (.block 2 (.loop [12,7,11,6] (.seq (.seq (.reg [⟨(some 69),(.mv (.t 12)),0,none⟩,⟨(some 70),(.faddr 1 (.t 7)),0,none⟩,⟨(some 71),(.load false [(.sl 2)] (.t 70)),0,none⟩,⟨(some 72),(.len 1 (.t 71)),0,none⟩,⟨(some 73),(.bin .num .lss (.t 69) (.t 72)),0,none⟩] none) (.cond (.t 73) .skip (.exit 2))) (.seq (.block 3 (.seq (.reg [⟨(some 76),(.faddr 1 (.t 7)),0,none⟩,⟨(some 77),(.load false [(.sl 2)] (.t 76)),0,none⟩,⟨(some 78),(.mv (.t 12)),0,none⟩,⟨(some 79),(.iaddr 2 (.t 77) (.t 78)),0,none⟩,⟨(some 80),(.faddr 1 (.t 79)),0,none⟩,⟨(some 81),(.load false [(.int .i64)] (.t 80)),0,none⟩,⟨(some 82),(.bin .num .neq (.t 81) (.c (.int .i64 0))),0,none⟩] none) (.cond (.t 82) (.seq (.reg [⟨(some 83),(.faddr 1 (.t 7)),0,none⟩,⟨(some 84),(.load false [(.sl 2)] (.t 83)),0,none⟩,⟨(some 85),(.mv (.t 11)),0,none⟩,⟨(some 86),(.faddr 1 (.t 7)),0,none⟩,⟨(some 87),(.load false [(.sl 2)] (.t 86)),0,none⟩,⟨(some 88),(.mv (.t 12)),0,none⟩,⟨(some 89),(.iaddr 2 (.t 87) (.t 88)),0,none⟩,⟨(some 90),(.load true [.str,(.int .i64)] (.t 89)),0,none⟩,⟨(some 91),(.iaddr 2 (.t 84) (.t 85)),0,none⟩,⟨none,(.store 2 (.t 91) (.t 90)),0,none⟩] (some [[],[0],[],[],[3],[],[4,5,3],[6,4,5,3],[1,2,0,3,4,5,6,7],[8,7,0,1,2,3,4,5,6]])) (.reg [⟨(some 92),(.mv (.t 11)),0,none⟩,⟨(some 93),(.bin .num .add (.t 92) (.c (.int .i64 1))),0,none⟩,⟨(some 11),(.mv (.t 93)),0,none⟩] none)) .skip))) (.reg [⟨(some 74),(.mv (.t 12)),0,none⟩,⟨(some 75),(.bin .num .add (.t 74) (.c (.int .i64 1))),0,none⟩,⟨(some 12),(.mv (.t 75)),0,none⟩] none)))))) (.seq (.reg [⟨(some 94),(.faddr 1 (.t 7)),0,none⟩,⟨(some 95),(.load false [(.sl 2)] (.t 94)),0,none⟩,⟨(some 96),(.mv (.t 11)),0,none⟩,⟨(some 97),(.slc 2 (.t 95) none (some (.t 96)) none),0,none⟩,⟨(some 98),(.faddr 1 (.t 7)),0,none⟩,⟨none,(.store 1 (.t 98) (.t 97)),0,none⟩] none) (.seq (.reg [⟨(some 99),(.load true [(.int .i64),(.sl 2)] (.t 7)),0,none⟩,⟨none,(.store 2 (.t 6) (.t 99)),0,none⟩] none) .ret)))))))))
def ZN:List IRes:=[(.cell true 2 6)]
abbrev Fg:Nat:=100
def ZZ:ZF:=Xe []
theorem c2j{G:AV×List AObj×List AObj->Prop}(l:Lin)(s:List UInt8)(c:Int)(h:At ZZ 0 (Zo 0 ZN G) ZP 0 100 [(1,(.pv (.str s))),(2,(.pv (.int .i64 c))),(3,(.ptr 0 0)),(6,(.ptr 1 0)),(7,(.ptr 2 0)),(8,(.pv (.bool false))),(9,(.pv (.int .i64 0)))] [(.obj (.box [(.pv (.int .i64 l.k)),(.pv (.sl 2 false (List.map enc l.t)))])),(.obj (.box [(.pv (.int .i64 0)),(.pv (.sl 0 true []))])),(.obj (.box [(.pv (.int .i64 l.k)),(.pv (.sl 0 true []))]))]):Zc ZZ 0 (Zo 0 ZN G) ZP [] (YK 100 [.pv (enc l),.pv (.str s),.pv (enc c)] []):=Zc.to (.nil) h (by kernel_rfl)
theorem a5z{G:AV×List AObj×List AObj->Prop}(l:Lin)(s:List UInt8)(c:Int)(p:Bool)(i:Int)(h:if (decide (i<(↑(List.length (List.map enc l.t)):Int)))=true then(decide (0<=i)&&decide (Int.toNat i<List.length (List.map enc l.t))&&Enc.sz Coef==2)=true∧(∃ y0:Coef,AV.pv (PV.rptr (PV.cells (List.getD (List.map enc l.t) (Int.toNat i) default)))=AV.pv (PV.rptr (PV.cells ((enc) y0)))∧(if (!p)=true then if (!(Op.bytesLess (PV.asStr (List.getD (PV.cells (enc y0)) 0 default)) s||PV.asStr (List.getD (PV.cells (enc y0)) 0 default)==s))=true then if (PV.asStr (List.getD (PV.cells (enc y0)) 0 default)==s)=true then At ZZ 0 (Zo 0 ZN G) ZP 0 100 [(1,(.pv (.str s))),(2,(.pv (.int .i64 c))),(3,(.ptr 0 0)),(6,(.ptr 1 0)),(7,(.ptr 2 0)),(8,(.pv (.bool true))),(9,(.pv (.int .i64 (IntKind.wrap IntKind.i64 (i+1)))))] [(.obj (.box [(.pv (.int .i64 l.k)),(.pv (.sl 2 false (List.map enc l.t)))])),(.obj (.box [(.pv (.int .i64 0)),(.pv (.sl 0 true []))])),(.obj (.box [(.pv (.int .i64 l.k)),(.row 3 2 0 2)])),(.obj (.row false 61 2 [(.agg [(.str s),(.int .i64 c)]),(.agg [(.str (PV.asStr (List.getD (PV.cells (enc y0)) 0 default))),(.int .i64 (IntKind.wrap IntKind.i64 (PV.asInt (List.getD (PV.cells (enc y0)) (0+1) default)+c)))])]))]else(At ZZ 0 (Zo 0 ZN G) ZP 0 100 [(1,(.pv (.str s))),(2,(.pv (.int .i64 c))),(3,(.ptr 0 0)),(6,(.ptr 1 0)),(7,(.ptr 2 0)),(8,(.pv (.bool true))),(9,(.pv (.int .i64 (IntKind.wrap IntKind.i64 (i+1)))))] [(.obj (.box [(.pv (.int .i64 l.k)),(.pv (.sl 2 false (List.map enc l.t)))])),(.obj (.box [(.pv (.int .i64 0)),(.pv (.sl 0 true []))])),(.obj (.box [(.pv (.int .i64 l.k)),(.row 3 2 0 2)])),(.obj (.row false 61 2 [(.agg [(.str s),(.int .i64 c)]),(.agg [(.str (PV.asStr (List.getD (PV.cells (enc y0)) 0 default))),(.int .i64 (PV.asInt (List.getD (PV.cells (enc y0)) (0+1) default)))])]))])else(if (PV.asStr (List.getD (PV.cells (enc y0)) 0 default)==s)=true then At ZZ 0 (Zo 0 ZN G) ZP 0 100 [(1,(.pv (.str s))),(2,(.pv (.int .i64 c))),(3,(.ptr 0 0)),(6,(.ptr 1 0)),(7,(.ptr 2 0)),(8,(.pv (.bool true))),(9,(.pv (.int .i64 (IntKind.wrap IntKind.i64 (i+1)))))] [(.obj (.box [(.pv (.int .i64 l.k)),(.pv (.sl 2 false (List.map enc l.t)))])),(.obj (.box [(.pv (.int .i64 0)),(.pv (.sl 0 true []))])),(.obj (.box [(.pv (.int .i64 l.k)),(.row 3 1 0 1)])),(.obj (.row false 61 2 [(.agg [(.str (PV.asStr (List.getD (PV.cells (enc y0)) 0 default))),(.int .i64 (IntKind.wrap IntKind.i64 (PV.asInt (List.getD (PV.cells (enc y0)) (0+1) default)+c)))])]))]else(At ZZ 0 (Zo 0 ZN G) ZP 0 100 [(1,(.pv (.str s))),(2,(.pv (.int .i64 c))),(3,(.ptr 0 0)),(6,(.ptr 1 0)),(7,(.ptr 2 0)),(8,(.pv (.bool p))),(9,(.pv (.int .i64 (IntKind.wrap IntKind.i64 (i+1)))))] [(.obj (.box [(.pv (.int .i64 l.k)),(.pv (.sl 2 false (List.map enc l.t)))])),(.obj (.box [(.pv (.int .i64 0)),(.pv (.sl 0 true []))])),(.obj (.box [(.pv (.int .i64 l.k)),(.row 3 1 0 1)])),(.obj (.row false 61 2 [(.agg [(.str (PV.asStr (List.getD (PV.cells (enc y0)) 0 default))),(.int .i64 (PV.asInt (List.getD (PV.cells (enc y0)) (0+1) default)))])]))]))else(if (PV.asStr (List.getD (PV.cells (enc y0)) 0 default)==s)=true then At ZZ 0 (Zo 0 ZN G) ZP 0 100 [(1,(.pv (.str s))),(2,(.pv (.int .i64 c))),(3,(.ptr 0 0)),(6,(.ptr 1 0)),(7,(.ptr 2 0)),(8,(.pv (.bool true))),(9,(.pv (.int .i64 (IntKind.wrap IntKind.i64 (i+1)))))] [(.obj (.box [(.pv (.int .i64 l.k)),(.pv (.sl 2 false (List.map enc l.t)))])),(.obj (.box [(.pv (.int .i64 0)),(.pv (.sl 0 true []))])),(.obj (.box [(.pv (.int .i64 l.k)),(.row 3 1 0 1)])),(.obj (.row false 61 2 [(.agg [(.str (PV.asStr (List.getD (PV.cells (enc y0)) 0 default))),(.int .i64 (IntKind.wrap IntKind.i64 (PV.asInt (List.getD (PV.cells (enc y0)) (0+1) default)+c)))])]))]else(At ZZ 0 (Zo 0 ZN G) ZP 0 100 [(1,(.pv (.str s))),(2,(.pv (.int .i64 c))),(3,(.ptr 0 0)),(6,(.ptr 1 0)),(7,(.ptr 2 0)),(8,(.pv (.bool p))),(9,(.pv (.int .i64 (IntKind.wrap IntKind.i64 (i+1)))))] [(.obj (.box [(.pv (.int .i64 l.k)),(.pv (.sl 2 false (List.map enc l.t)))])),(.obj (.box [(.pv (.int .i64 0)),(.pv (.sl 0 true []))])),(.obj (.box [(.pv (.int .i64 l.k)),(.row 3 1 0 1)])),(.obj (.row false 61 2 [(.agg [(.str (PV.asStr (List.getD (PV.cells (enc y0)) 0 default))),(.int .i64 (PV.asInt (List.getD (PV.cells (enc y0)) (0+1) default)))])]))]))))else(if (!p)=true then At ZZ 0 (Zo 0 ZN G) ZP 1 100 [(6,(.ptr 0 0)),(7,(.ptr 1 0)),(11,(.pv (.int .i64 0))),(12,(.pv (.int .i64 0)))] [(.obj (.box [(.pv (.int .i64 0)),(.pv (.sl 0 true []))])),(.obj (.box [(.pv (.int .i64 l.k)),(.row 2 1 0 1)])),(.obj (.row false 61 2 [(.agg [(.str s),(.int .i64 c)])]))]else(At ZZ 0 (Zo 0 ZN G) ZP 1 100 [(6,(.ptr 0 0)),(7,(.ptr 1 0)),(11,(.pv (.int .i64 0))),(12,(.pv (.int .i64 0)))] [(.obj (.box [(.pv (.int .i64 0)),(.pv (.sl 0 true []))])),(.obj (.box [(.pv (.int .i64 l.k)),(.pv (.sl 0 true []))]))]))):At ZZ 0 (Zo 0 ZN G) ZP 0 100 [(1,.pv (.str s)),(2,.pv (.int .i64 c)),(3,.ptr 0 0),(6,.ptr 1 0),(7,.ptr 2 0),(8,.pv (.bool p)),(9,.pv (.int .i64 i))] [.obj (.box [.pv (.int .i64 l.k),.pv (enc l.t)]),.obj (.box [.pv (.int .i64 0),.pv (.sl 0 true [])]),.obj (.box [.pv (.int .i64 l.k),.pv (.sl 0 true [])])]:=At.to (.lit (.ask (.req (.abs (Coef) (fun YY=>AV.pv (PV.rptr (PV.cells ((enc) YY)))) (.lit (.ask (.lit (.lit (.lit (.lit (.lit (.ask (.lit (.lit (.lit (.lit (.lit (.lit (.ask (.lit (.lit (.lit (.lit (.lit (.nil)))))) (.lit (.lit (.lit (.lit (.nil)))))))))))) (.lit (.ask (.lit (.lit (.lit (.lit (.lit (.lit (.lit (.nil)))))))) (.lit (.lit (.lit (.lit (.lit (.lit (.nil))))))))))))))) (.lit (.lit (.lit (.lit (.lit (.lit (.ask (.lit (.lit (.lit (.lit (.lit (.lit (.lit (.nil)))))))) (.lit (.lit (.lit (.lit (.lit (.lit (.nil)))))))))))))))))) (.ask (.lit (.lit (.lit (.lit (.lit (.nil)))))) (.nil)))) h (by kernel_rfl)
theorem Rj{G:AV×List AObj×List AObj->Prop}(l:Lin)(s:List UInt8)(c:Int)(j i:Int)(q:Nat)(ts:List Coef)(h:if (decide (i<(↑(q - 0):Int)))=true then(decide (0<=i)&&decide (0+Int.toNat i<q)&&List.length (List.map enc ts)==q)=true∧((List.length (List.map enc ts)==q&&decide (0+Int.toNat i<List.length (List.map enc ts)))=true∧((decide (0+1+List.length [Sh.int .i64]<=List.length (PV.cells (List.getD (List.map enc ts) (0+Int.toNat i) default)))&&Xa (PV.cells (List.getD (List.map enc ts) (0+Int.toNat i) default)) (0+1) [Sh.int .i64])=true∧(if (PV.asInt (List.getD (PV.cells (List.getD (List.map enc ts) (0+Int.toNat i) default)) (0+1) default) != 0)=true then(decide (0<=i)&&decide (0+Int.toNat i<q)&&List.length (List.map enc ts)==q)=true∧((List.length (List.map enc ts)==q&&decide (0+Int.toNat i<List.length (List.map enc ts)))=true∧((decide (0+List.length [Sh.str,Sh.int .i64]<=List.length (PV.cells (List.getD (List.map enc ts) (0+Int.toNat i) default)))&&Xa (PV.cells (List.getD (List.map enc ts) (0+Int.toNat i) default)) 0 [Sh.str,Sh.int .i64])=true∧((decide (0<=j)&&decide (0+Int.toNat j<q)&&List.length (List.map enc ts)==q)=true∧((List.length (List.map enc ts)==q&&decide (0+Int.toNat j<List.length (List.map enc ts))&&List.length (PV.cells (PV.agg (Vk (PV.cells (List.getD (List.map enc ts) (0+Int.toNat i) default)) 0 [Sh.str,Sh.int .i64])))==2&&decide (0+2<=List.length (PV.cells (List.getD (List.map enc ts) (0+Int.toNat j) default)))&&PV.cellsOk (PV.agg (Vk (PV.cells (List.getD (List.map enc ts) (0+Int.toNat i) default)) 0 [Sh.str,Sh.int .i64])))=true∧(At ZZ 0 (Zo 0 ZN G) ZP 1 100 [(6,(.ptr 0 0)),(7,(.ptr 1 0)),(11,(.pv (.int .i64 (IntKind.wrap IntKind.i64 (j+1))))),(12,(.pv (.int .i64 (IntKind.wrap IntKind.i64 (i+1)))))] [(.obj (.box [(.pv (.int .i64 0)),(.pv (.sl 0 true []))])),(.obj (.box [(.pv (.int .i64 l.k)),(.row 2 q 0 q)])),(.obj (.row false 61 2 (List.set (List.map enc ts) (0+Int.toNat j) (PV.withCells (List.getD (List.map enc ts) (0+Int.toNat j) default) (splice (PV.cells (List.getD (List.map enc ts) (0+Int.toNat j) default)) 0 (PV.cells (PV.agg (Vk (PV.cells (List.getD (List.map enc ts) (0+Int.toNat i) default)) 0 [Sh.str,Sh.int .i64]))))))))])))))else(At ZZ 0 (Zo 0 ZN G) ZP 1 100 [(6,(.ptr 0 0)),(7,(.ptr 1 0)),(11,(.pv (.int .i64 j))),(12,(.pv (.int .i64 (IntKind.wrap IntKind.i64 (i+1)))))] [(.obj (.box [(.pv (.int .i64 0)),(.pv (.sl 0 true []))])),(.obj (.box [(.pv (.int .i64 l.k)),(.row 2 q 0 q)])),(.obj (.row false 61 2 (List.map enc ts)))]))))else((true&&decide (0<=j)&&decide (0<=Int.toNat j)&&decide (0+Int.toNat j<=q)&&List.length (List.map enc ts)==q)=true∧(G (((.agg [(.pv (.int .i64 l.k)),(.row 0 q 0 (0+Int.toNat j))]),([],[(.row false 61 2 (List.map enc ts))])))))):At ZZ 0 (Zo 0 ZN G) ZP 1 100 [(6,.ptr 0 0),(7,.ptr 1 0),(11,.pv (.int .i64 j)),(12,.pv (.int .i64 i))] [.obj (.box [.pv (.int .i64 0),.pv (.sl 0 true [])]),.obj (.box [.pv (.int .i64 l.k),.row 2 q 0 q]),.obj (.row false 61 2 (ts.map enc))]:=At.to (.lit (.ask (.req (.keep (.req (.req (.lit (.ask (.req (.keep (.req (.req (.req (.keep (.req (.lit (.lit (.nil)))))))))) (.lit (.nil)))))))) (.req (.nil)))) h (by kernel_rfl)
theorem Tq{G:AV×List AObj×List AObj->Prop}(l:Lin)(s:List UInt8)(c:Int)(p:Bool)(i:Int)(q:Nat)(ts:List Coef)(h:if (decide (i<(↑(List.length (List.map enc l.t)):Int)))=true then(decide (0<=i)&&decide (Int.toNat i<List.length (List.map enc l.t))&&Enc.sz Coef==2)=true∧(∃ y0:Coef,AV.pv (PV.rptr (PV.cells (List.getD (List.map enc l.t) (Int.toNat i) default)))=AV.pv (PV.rptr (PV.cells ((enc) y0)))∧(if (!p)=true then if (!(Op.bytesLess (PV.asStr (List.getD (PV.cells (enc y0)) 0 default)) s||PV.asStr (List.getD (PV.cells (enc y0)) 0 default)==s))=true then(List.length (List.map enc ts)==q&&q==q&&decide ((q+List.length (List.drop 0 (List.take 1 [PV.agg [PV.str s,PV.int .i64 c]])))*24<=1099511627776)&&decide (q+List.length (List.drop 0 (List.take 1 [PV.agg [PV.str s,PV.int .i64 c]]))<=1099511627776))=true∧(if (PV.asStr (List.getD (PV.cells (enc y0)) 0 default)==s)=true then(List.length (List.map enc ts++List.drop 0 (List.take 1 [PV.agg [PV.str s,PV.int .i64 c]]))==q+List.length (List.drop 0 (List.take 1 [PV.agg [PV.str s,PV.int .i64 c]]))&&q+List.length (List.drop 0 (List.take 1 [PV.agg [PV.str s,PV.int .i64 c]]))==q+List.length (List.drop 0 (List.take 1 [PV.agg [PV.str s,PV.int .i64 c]]))&&decide ((q+List.length (List.drop 0 (List.take 1 [PV.agg [PV.str s,PV.int .i64 c]]))+List.length (List.drop 0 (List.take 1 [PV.agg [Sh.co Sh.str (List.getD (PV.cells (enc y0)) 0 default),PV.int .i64 (IntKind.wrap IntKind.i64 (PV.asInt (List.getD (PV.cells (enc y0)) (0+1) default)+c))]])))*24<=1099511627776)&&decide (q+List.length (List.drop 0 (List.take 1 [PV.agg [PV.str s,PV.int .i64 c]]))+List.length (List.drop 0 (List.take 1 [PV.agg [Sh.co Sh.str (List.getD (PV.cells (enc y0)) 0 default),PV.int .i64 (IntKind.wrap IntKind.i64 (PV.asInt (List.getD (PV.cells (enc y0)) (0+1) default)+c))]]))<=1099511627776))=true∧(At ZZ 0 (Zo 0 ZN G) ZP 0 100 [(1,(.pv (.str s))),(2,(.pv (.int .i64 c))),(3,(.ptr 0 0)),(6,(.ptr 1 0)),(7,(.ptr 2 0)),(8,(.pv (.bool true))),(9,(.pv (.int .i64 (IntKind.wrap IntKind.i64 (i+1)))))] [(.obj (.box [(.pv (.int .i64 l.k)),(.pv (.sl 2 false (List.map enc l.t)))])),(.obj (.box [(.pv (.int .i64 0)),(.pv (.sl 0 true []))])),(.obj (.box [(.pv (.int .i64 l.k)),(.row 3 (q+List.length (List.drop 0 (List.take 1 [PV.agg [PV.str s,PV.int .i64 c]]))+List.length (List.drop 0 (List.take 1 [PV.agg [Sh.co Sh.str (List.getD (PV.cells (enc y0)) 0 default),PV.int .i64 (IntKind.wrap IntKind.i64 (PV.asInt (List.getD (PV.cells (enc y0)) (0+1) default)+c))]]))) 0 (q+List.length (List.drop 0 (List.take 1 [PV.agg [PV.str s,PV.int .i64 c]]))+List.length (List.drop 0 (List.take 1 [PV.agg [Sh.co Sh.str (List.getD (PV.cells (enc y0)) 0 default),PV.int .i64 (IntKind.wrap IntKind.i64 (PV.asInt (List.getD (PV.cells (enc y0)) (0+1) default)+c))]]))))])),(.obj (.row false 61 2 (List.map enc ts++List.drop 0 (List.take 1 [PV.agg [PV.str s,PV.int .i64 c]])++List.drop 0 (List.take 1 [PV.agg [Sh.co Sh.str (List.getD (PV.cells (enc y0)) 0 default),PV.int .i64 (IntKind.wrap IntKind.i64 (PV.asInt (List.getD (PV.cells (enc y0)) (0+1) default)+c))]]))))])else((List.length (List.map enc ts++List.drop 0 (List.take 1 [PV.agg [PV.str s,PV.int .i64 c]]))==q+List.length (List.drop 0 (List.take 1 [PV.agg [PV.str s,PV.int .i64 c]]))&&q+List.length (List.drop 0 (List.take 1 [PV.agg [PV.str s,PV.int .i64 c]]))==q+List.length (List.drop 0 (List.take 1 [PV.agg [PV.str s,PV.int .i64 c]]))&&decide ((q+List.length (List.drop 0 (List.take 1 [PV.agg [PV.str s,PV.int .i64 c]]))+List.length (List.drop 0 (List.take 1 [PV.agg [Sh.co Sh.str (List.getD (PV.cells (enc y0)) 0 default),Sh.co (Sh.int .i64) (List.getD (PV.cells (enc y0)) (0+1) default)]])))*24<=1099511627776)&&decide (q+List.length (List.drop 0 (List.take 1 [PV.agg [PV.str s,PV.int .i64 c]]))+List.length (List.drop 0 (List.take 1 [PV.agg [Sh.co Sh.str (List.getD (PV.cells (enc y0)) 0 default),Sh.co (Sh.int .i64) (List.getD (PV.cells (enc y0)) (0+1) default)]]))<=1099511627776))=true∧(At ZZ 0 (Zo 0 ZN G) ZP 0 100 [(1,(.pv (.str s))),(2,(.pv (.int .i64 c))),(3,(.ptr 0 0)),(6,(.ptr 1 0)),(7,(.ptr 2 0)),(8,(.pv (.bool true))),(9,(.pv (.int .i64 (IntKind.wrap IntKind.i64 (i+1)))))] [(.obj (.box [(.pv (.int .i64 l.k)),(.pv (.sl 2 false (List.map enc l.t)))])),(.obj (.box [(.pv (.int .i64 0)),(.pv (.sl 0 true []))])),(.obj (.box [(.pv (.int .i64 l.k)),(.row 3 (q+List.length (List.drop 0 (List.take 1 [PV.agg [PV.str s,PV.int .i64 c]]))+List.length (List.drop 0 (List.take 1 [PV.agg [Sh.co Sh.str (List.getD (PV.cells (enc y0)) 0 default),Sh.co (Sh.int .i64) (List.getD (PV.cells (enc y0)) (0+1) default)]]))) 0 (q+List.length (List.drop 0 (List.take 1 [PV.agg [PV.str s,PV.int .i64 c]]))+List.length (List.drop 0 (List.take 1 [PV.agg [Sh.co Sh.str (List.getD (PV.cells (enc y0)) 0 default),Sh.co (Sh.int .i64) (List.getD (PV.cells (enc y0)) (0+1) default)]]))))])),(.obj (.row false 61 2 (List.map enc ts++List.drop 0 (List.take 1 [PV.agg [PV.str s,PV.int .i64 c]])++List.drop 0 (List.take 1 [PV.agg [Sh.co Sh.str (List.getD (PV.cells (enc y0)) 0 default),Sh.co (Sh.int .i64) (List.getD (PV.cells (enc y0)) (0+1) default)]]))))])))else(if (PV.asStr (List.getD (PV.cells (enc y0)) 0 default)==s)=true then(List.length (List.map enc ts)==q&&q==q&&decide ((q+List.length (List.drop 0 (List.take 1 [PV.agg [Sh.co Sh.str (List.getD (PV.cells (enc y0)) 0 default),PV.int .i64 (IntKind.wrap IntKind.i64 (PV.asInt (List.getD (PV.cells (enc y0)) (0+1) default)+c))]])))*24<=1099511627776)&&decide (q+List.length (List.drop 0 (List.take 1 [PV.agg [Sh.co Sh.str (List.getD (PV.cells (enc y0)) 0 default),PV.int .i64 (IntKind.wrap IntKind.i64 (PV.asInt (List.getD (PV.cells (enc y0)) (0+1) default)+c))]]))<=1099511627776))=true∧(At ZZ 0 (Zo 0 ZN G) ZP 0 100 [(1,(.pv (.str s))),(2,(.pv (.int .i64 c))),(3,(.ptr 0 0)),(6,(.ptr 1 0)),(7,(.ptr 2 0)),(8,(.pv (.bool true))),(9,(.pv (.int .i64 (IntKind.wrap IntKind.i64 (i+1)))))] [(.obj (.box [(.pv (.int .i64 l.k)),(.pv (.sl 2 false (List.map enc l.t)))])),(.obj (.box [(.pv (.int .i64 0)),(.pv (.sl 0 true []))])),(.obj (.box [(.pv (.int .i64 l.k)),(.row 3 (q+List.length (List.drop 0 (List.take 1 [PV.agg [Sh.co Sh.str (List.getD (PV.cells (enc y0)) 0 default),PV.int .i64 (IntKind.wrap IntKind.i64 (PV.asInt (List.getD (PV.cells (enc y0)) (0+1) default)+c))]]))) 0 (q+List.length (List.drop 0 (List.take 1 [PV.agg [Sh.co Sh.str (List.getD (PV.cells (enc y0)) 0 default),PV.int .i64 (IntKind.wrap IntKind.i64 (PV.asInt (List.getD (PV.cells (enc y0)) (0+1) default)+c))]]))))])),(.obj (.row false 61 2 (List.map enc ts++List.drop 0 (List.take 1 [PV.agg [Sh.co Sh.str (List.getD (PV.cells (enc y0)) 0 default),PV.int .i64 (IntKind.wrap IntKind.i64 (PV.asInt (List.getD (PV.cells (enc y0)) (0+1) default)+c))]]))))])else((List.length (List.map enc ts)==q&&q==q&&decide ((q+List.length (List.drop 0 (List.take 1 [PV.agg [Sh.co Sh.str (List.getD (PV.cells (enc y0)) 0 default),Sh.co (Sh.int .i64) (List.getD (PV.cells (enc y0)) (0+1) default)]])))*24<=1099511627776)&&decide (q+List.length (List.drop 0 (List.take 1 [PV.agg [Sh.co Sh.str (List.getD (PV.cells (enc y0)) 0 default),Sh.co (Sh.int .i64) (List.getD (PV.cells (enc y0)) (0+1) default)]]))<=1099511627776))=true∧(At ZZ 0 (Zo 0 ZN G) ZP 0 100 [(1,(.pv (.str s))),(2,(.pv (.int .i64 c))),(3,(.ptr 0 0)),(6,(.ptr 1 0)),(7,(.ptr 2 0)),(8,(.pv (.bool p))),(9,(.pv (.int .i64 (IntKind.wrap IntKind.i64 (i+1)))))] [(.obj (.box [(.pv (.int .i64 l.k)),(.pv (.sl 2 false (List.map enc l.t)))])),(.obj (.box [(.pv (.int .i64 0)),(.pv (.sl 0 true []))])),(.obj (.box [(.pv (.int .i64 l.k)),(.row 3 (q+List.length (List.drop 0 (List.take 1 [PV.agg [Sh.co Sh.str (List.getD (PV.cells (enc y0)) 0 default),Sh.co (Sh.int .i64) (List.getD (PV.cells (enc y0)) (0+1) default)]]))) 0 (q+List.length (List.drop 0 (List.take 1 [PV.agg [Sh.co Sh.str (List.getD (PV.cells (enc y0)) 0 default),Sh.co (Sh.int .i64) (List.getD (PV.cells (enc y0)) (0+1) default)]]))))])),(.obj (.row false 61 2 (List.map enc ts++List.drop 0 (List.take 1 [PV.agg [Sh.co Sh.str (List.getD (PV.cells (enc y0)) 0 default),Sh.co (Sh.int .i64) (List.getD (PV.cells (enc y0)) (0+1) default)]]))))])))else(if (PV.asStr (List.getD (PV.cells (enc y0)) 0 default)==s)=true then(List.length (List.map enc ts)==q&&q==q&&decide ((q+List.length (List.drop 0 (List.take 1 [PV.agg [Sh.co Sh.str (List.getD (PV.cells (enc y0)) 0 default),PV.int .i64 (IntKind.wrap IntKind.i64 (PV.asInt (List.getD (PV.cells (enc y0)) (0+1) default)+c))]])))*24<=1099511627776)&&decide (q+List.length (List.drop 0 (List.take 1 [PV.agg [Sh.co Sh.str (List.getD (PV.cells (enc y0)) 0 default),PV.int .i64 (IntKind.wrap IntKind.i64 (PV.asInt (List.getD (PV.cells (enc y0)) (0+1) default)+c))]]))<=1099511627776))=true∧(At ZZ 0 (Zo 0 ZN G) ZP 0 100 [(1,(.pv (.str s))),(2,(.pv (.int .i64 c))),(3,(.ptr 0 0)),(6,(.ptr 1 0)),(7,(.ptr 2 0)),(8,(.pv (.bool true))),(9,(.pv (.int .i64 (IntKind.wrap IntKind.i64 (i+1)))))] [(.obj (.box [(.pv (.int .i64 l.k)),(.pv (.sl 2 false (List.map enc l.t)))])),(.obj (.box [(.pv (.int .i64 0)),(.pv (.sl 0 true []))])),(.obj (.box [(.pv (.int .i64 l.k)),(.row 3 (q+List.length (List.drop 0 (List.take 1 [PV.agg [Sh.co Sh.str (List.getD (PV.cells (enc y0)) 0 default),PV.int .i64 (IntKind.wrap IntKind.i64 (PV.asInt (List.getD (PV.cells (enc y0)) (0+1) default)+c))]]))) 0 (q+List.length (List.drop 0 (List.take 1 [PV.agg [Sh.co Sh.str (List.getD (PV.cells (enc y0)) 0 default),PV.int .i64 (IntKind.wrap IntKind.i64 (PV.asInt (List.getD (PV.cells (enc y0)) (0+1) default)+c))]]))))])),(.obj (.row false 61 2 (List.map enc ts++List.drop 0 (List.take 1 [PV.agg [Sh.co Sh.str (List.getD (PV.cells (enc y0)) 0 default),PV.int .i64 (IntKind.wrap IntKind.i64 (PV.asInt (List.getD (PV.cells (enc y0)) (0+1) default)+c))]]))))])else((List.length (List.map enc ts)==q&&q==q&&decide ((q+List.length (List.drop 0 (List.take 1 [PV.agg [Sh.co Sh.str (List.getD (PV.cells (enc y0)) 0 default),Sh.co (Sh.int .i64) (List.getD (PV.cells (enc y0)) (0+1) default)]])))*24<=1099511627776)&&decide (q+List.length (List.drop 0 (List.take 1 [PV.agg [Sh.co Sh.str (List.getD (PV.cells (enc y0)) 0 default),Sh.co (Sh.int .i64) (List.getD (PV.cells (enc y0)) (0+1) default)]]))<=1099511627776))=true∧(At ZZ 0 (Zo 0 ZN G) ZP 0 100 [(1,(.pv (.str s))),(2,(.pv (.int .i64 c))),(3,(.ptr 0 0)),(6,(.ptr 1 0)),(7,(.ptr 2 0)),(8,(.pv (.bool p))),(9,(.pv (.int .i64 (IntKind.wrap IntKind.i64 (i+1)))))] [(.obj (.box [(.pv (.int .i64 l.k)),(.pv (.sl 2 false (List.map enc l.t)))])),(.obj (.box [(.pv (.int .i64 0)),(.pv (.sl 0 true []))])),(.obj (.box [(.pv (.int .i64 l.k)),(.row 3 (q+List.length (List.drop 0 (List.take 1 [PV.agg [Sh.co Sh.str (List.getD (PV.cells (enc y0)) 0 default),Sh.co (Sh.int .i64) (List.getD (PV.cells (enc y0)) (0+1) default)]]))) 0 (q+List.length (List.drop 0 (List.take 1 [PV.agg [Sh.co Sh.str (List.getD (PV.cells (enc y0)) 0 default),Sh.co (Sh.int .i64) (List.getD (PV.cells (enc y0)) (0+1) default)]]))))])),(.obj (.row false 61 2 (List.map enc ts++List.drop 0 (List.take 1 [PV.agg [Sh.co Sh.str (List.getD (PV.cells (enc y0)) 0 default),Sh.co (Sh.int .i64) (List.getD (PV.cells (enc y0)) (0+1) default)]]))))])))))else(if (!p)=true then(List.length (List.map enc ts)==q&&q==q&&decide ((q+List.length (List.drop 0 (List.take 1 [PV.agg [PV.str s,PV.int .i64 c]])))*24<=1099511627776)&&decide (q+List.length (List.drop 0 (List.take 1 [PV.agg [PV.str s,PV.int .i64 c]]))<=1099511627776))=true∧(At ZZ 0 (Zo 0 ZN G) ZP 1 100 [(6,(.ptr 0 0)),(7,(.ptr 1 0)),(11,(.pv (.int .i64 0))),(12,(.pv (.int .i64 0)))] [(.obj (.box [(.pv (.int .i64 0)),(.pv (.sl 0 true []))])),(.obj (.box [(.pv (.int .i64 l.k)),(.row 2 (q+List.length (List.drop 0 (List.take 1 [PV.agg [PV.str s,PV.int .i64 c]]))) 0 (q+List.length (List.drop 0 (List.take 1 [PV.agg [PV.str s,PV.int .i64 c]]))))])),(.obj (.row false 61 2 (List.map enc ts++List.drop 0 (List.take 1 [PV.agg [PV.str s,PV.int .i64 c]]))))])else(At ZZ 0 (Zo 0 ZN G) ZP 1 100 [(6,(.ptr 0 0)),(7,(.ptr 1 0)),(11,(.pv (.int .i64 0))),(12,(.pv (.int .i64 0)))] [(.obj (.box [(.pv (.int .i64 0)),(.pv (.sl 0 true []))])),(.obj (.box [(.pv (.int .i64 l.k)),(.row 2 q 0 q)])),(.obj (.row false 61 2 (List.map enc ts)))]))):At ZZ 0 (Zo 0 ZN G) ZP 0 100 [(1,.pv (.str s)),(2,.pv (.int .i64 c)),(3,.ptr 0 0),(6,.ptr 1 0),(7,.ptr 2 0),(8,.pv (.bool p)),(9,.pv (.int .i64 i))] [.obj (.box [.pv (.int .i64 l.k),.pv (enc l.t)]),.obj (.box [.pv (.int .i64 0),.pv (.sl 0 true [])]),.obj (.box [.pv (.int .i64 l.k),.row 3 q 0 q]),.obj (.row false 61 2 (ts.map enc))]:=At.to (.lit (.ask (.req (.abs (Coef) (fun YY=>AV.pv (PV.rptr (PV.cells ((enc) YY)))) (.lit (.ask (.lit (.lit (.lit (.lit (.lit (.ask (.lit (.lit (.req (.lit (.ask (.lit (.lit (.lit (.req (.lit (.nil)))))) (.lit (.lit (.req (.lit (.nil)))))))))) (.lit (.ask (.lit (.lit (.lit (.req (.lit (.nil)))))) (.lit (.lit (.req (.lit (.nil))))))))))))) (.lit (.lit (.lit (.lit (.lit (.lit (.ask (.lit (.lit (.lit (.req (.lit (.nil)))))) (.lit (.lit (.req (.lit (.nil)))))))))))))))) (.ask (.lit (.lit (.req (.nil)))) (.nil)))) h (by kernel_rfl)
end Go.Pl

namespace Go.Pl
open Go.RowKit
open Enc (enc dec is)
open EncL (encL decL isL)
theorem b9e{ts:List Coef}{i:Nat}(h:i<ts.length):ts.getD i ⟨⟨[]⟩,0⟩=ts[i]:=by simp[List.getD,h]
theorem b7t(l:Lin)(s:List UInt8)(c:Int)(q:Nat)(ho:q<=2000000): ∀ (m i j:Nat) (ts:List Coef),m+i=q->ts.length=q->j<=i ->
  At ZZ 0 (Zo 0 ZN (fun r=>r=Su ⟨l.k,(KU m i j ts).2,(KU m i j ts).1⟩ 0 [])) ZP 1 100 [(6,.ptr 0 0),(7,.ptr 1 0),(11,.pv (.int .i64 j)),(12,.pv (.int .i64 i))] [.obj (.box [.pv (.int .i64 0),.pv (.sl 0 true [])]),.obj (.box [.pv (.int .i64 l.k),.row 2 q 0 q]),.obj (.row false 61 2 (ts.map enc))]:=by
 intro m
 induction m with
 | zero=>
  intro i j ts hm hts hji
  refine Rj l s c j i q ts (ZK (by simp;omega) ?_)
  refine⟨by simp[hts];omega,?_⟩
  subst hts
  simp only[Int.toNat_natCast,Nat.zero_add]
  rfl
 | succ m ih=>
  intro i j ts hm hts hji
  have hi':i<ts.length:=by omega
  have hj':j<ts.length:=by omega
  refine Rj l s c j i q ts ?_
  simp only[a9p enc hi',a9p enc hj']
  refine ZC (by simp;omega) ⟨by simp;omega,by simp;omega,rfl,?_⟩
  rw[KU,b9e hi']
  by_cases hz:ts[i].c=0
  ·refine ZK (by show ¬ (ts[i].c != 0)=true;simp[hz]) ?_
   rw[next (by omega),if_pos hz]
   exact ih (i+1) j ts (by omega) hts (by omega)
  ·refine ZC (by show(ts[i].c != 0)=true;simp[hz]) ⟨by simp;omega,by simp;omega,rfl,by simp;omega,?_,?_⟩
   ·simp only[List.length_map,hts,beq_self_eq_true,Bool.true_and,Nat.zero_add,Int.toNat_natCast,decide_eq_true (show j<q by omega)]
    rfl
   ·rw[Nat.zero_add,Int.toNat_natCast,b5o,next (by omega),next (by omega),if_neg hz]
    exact ih (i+1) (j+1) (ts.set j ts[i]) (by omega) (by simp[hts]) (by omega)
theorem GN(l:Lin)(s:List UInt8)(c:Int)(o:List Coef)(ho:o.length<=2000000):
  At ZZ 0 (Zo 0 ZN (fun r=>r=Su (Ri l.k o) 0 [])) ZP 1 100 [(6,.ptr 0 0),(7,.ptr 1 0),(11,.pv (.int .i64 0)),(12,.pv (.int .i64 0))] [.obj (.box [.pv (.int .i64 0),.pv (.sl 0 true [])]),.obj (.box [.pv (.int .i64 l.k),.row 2 o.length 0 o.length]),.obj (.row false 61 2 (o.map enc))]:=
 b7t l s c o.length ho o.length 0 0 o (by omega) rfl (by omega)
theorem b4g(l:Lin)(s:List UInt8)(c:Int)(hl:l.t.length<=1000000): ∀ (m i:Nat) (p:Bool) (q:Nat) (ts:List Coef),m+i=l.t.length->q=ts.length->(p=false->ts.length<=i)->ts.length<=i+1 ->
  At ZZ 0 (Zo 0 ZN (fun r=>r=Su (Ri l.k (ts++XN ⟨s⟩ c p (l.t.drop i))) 0 [])) ZP 0 100 [(1,.pv (.str s)),(2,.pv (.int .i64 c)),(3,.ptr 0 0),(6,.ptr 1 0),(7,.ptr 2 0),(8,.pv (.bool p)),(9,.pv (.int .i64 i))]
   [.obj (.box [.pv (.int .i64 l.k),.pv (enc l.t)]),.obj (.box [.pv (.int .i64 0),.pv (.sl 0 true [])]),.obj (.box [.pv (.int .i64 l.k),.row 3 q 0 q]),.obj (.row false 61 2 (ts.map enc))]:=by
 intro m
 induction m with
 | zero=>
  intro i p q ts hm hq h1 h2
  refine Tq l s c p i q ts (ZK (Xk (by omega)) ?_)
  rw[List.drop_of_length_le (show l.t.length<=i by omega)]
  refine X7 (fun hp=> ?_) fun hp=> ?_
  ·subst hp
   refine⟨by simp[hq];omega,?_⟩
   have h:=GN l s c (ts++[⟨⟨s⟩,c⟩]) (by simp;omega)
   rw[List.map_append,List.length_append,<- hq]at h
   rw[XN]
   exact h
  ·subst hp
   have h:=GN l s c ts (by omega)
   rw[<- hq]at h
   rw[XN,if_pos rfl,List.append_nil]
   exact h
 | succ m ih=>
  intro i p q ts hm hq h1 h2
  have hlt:i<l.t.length:=by omega
  refine Tq l s c p i q ts (ZC (YV hlt) ⟨Zt hlt rfl,Zx hlt ?_⟩)
  rw[List.drop_eq_getElem_cons hlt,next (by omega)]
  have key : ∀ (p':Bool) (add:List Coef),add.length<=2->(p'=false->(ts++add).length<=i+1)->(ts++add).length<=i+2->ts++XN ⟨s⟩ c p (l.t[i]::l.t.drop (i+1))=(ts++add)++XN ⟨s⟩ c p' (l.t.drop (i+1)) ->
    At ZZ 0 (Zo 0 ZN (fun r=>r=Su (Ri l.k (ts++XN ⟨s⟩ c p (l.t[i]::l.t.drop (i+1)))) 0 [])) ZP 0 100 [(1,.pv (.str s)),(2,.pv (.int .i64 c)),(3,.ptr 0 0),(6,.ptr 1 0),(7,.ptr 2 0),(8,.pv (.bool p')),(9,.pv (.int .i64 ((i+1:Nat):Int)))]
     [.obj (.box [.pv (.int .i64 l.k),.pv (enc l.t)]),.obj (.box [.pv (.int .i64 0),.pv (.sl 0 true [])]),.obj (.box [.pv (.int .i64 l.k),.row 3 (q+add.length) 0 (q+add.length)]),.obj (.row false 61 2 (ts.map enc++add.map enc))]:=by
   intro p' add h3 h4 h5 h6
   rw[h6,<- List.map_append]
   exact ih (i+1) p' (q+add.length) (ts++add) (by omega) (by simp[hq]) h4 h5
  generalize l.t[i]=y at key ⊢
  obtain⟨⟨yv⟩,yc⟩:=y
  subst hq
  refine X7 (fun hp=> ?_) fun hp=> ?_
  ·subst hp
   have hle:=h1 rfl
   refine X7 (fun hb=> ?_) fun hb=> ?_
   ·have hb:(Op.bytesLess yv s||yv==s)=false:=hb
    have hlt2:s<yv:=by
     simp only[YW,Bool.or_eq_false_iff,decide_eq_false_iff_not,beq_eq_false_iff_ne]at hb
     exact tri hb.1 hb.2
    have hne : ¬ yv=s:=fun e=>by rw[e]at hlt2;exact List.lt_irrefl _ hlt2
    refine⟨by simp;omega,Ka (fun h=>absurd h hne) fun _=>⟨by simp;omega,?_⟩⟩
    have:=key true [⟨⟨s⟩,c⟩,⟨⟨yv⟩,yc⟩] (by simp) (fun h=>by cases h) (by simp;omega) (by rw[Jz,if_pos hlt2];simp)
    rw[List.append_assoc]
    exact this
   ·have hb:(Op.bytesLess yv s||yv==s)=true:=hb
    have hnl : ¬ s<yv:=by
     simp only[YW,Bool.or_eq_true,decide_eq_true_eq,beq_iff_eq]at hb
     rcases hb with h|h
     ·exact List.lt_asymm h
     ·rw[h];exact List.lt_irrefl _
    refine Ka (fun h=> ?_) fun h=> ?_
    ·have h:yv=s:=h
     subst h
     refine⟨by simp;omega,?_⟩
     exact key true [⟨⟨yv⟩,DJ (yc+c)⟩] (by simp) (fun h=>by cases h) (by simp;omega) (by rw[Jz,if_neg hnl,if_pos rfl];simp)
    ·have h:yv≠s:=h
     refine⟨by simp;omega,?_⟩
     exact key false [⟨⟨yv⟩,yc⟩] (by simp) (fun _=>by simp;omega) (by simp;omega) (by rw[Jz,if_neg hnl,if_neg (by rw[Gw];exact h)];simp)
  ·subst hp
   refine Ka (fun h=> ?_) fun h=> ?_
   ·have h:yv=s:=h
    subst h
    refine⟨by simp;omega,?_⟩
    exact key true [⟨⟨yv⟩,DJ (yc+c)⟩] (by simp) (fun h=>by cases h) (by simp;omega) (by rw[a1r,if_pos rfl];simp)
   ·have h:yv≠s:=h
    refine⟨by simp;omega,?_⟩
    exact key true [⟨⟨yv⟩,yc⟩] (by simp) (fun h=>by cases h) (by simp;omega) (by rw[a1r,if_neg (by rw[Gw];exact h)];simp)
theorem a7s(l:Lin)(s:List UInt8)(c:Int)(hl:l.t.length<=1000000):Zc ZZ 0 (Zo 0 ZN (fun r=>r=Su (Cf l ⟨s⟩ c) 0 [])) ZP [] (YK Fg [.pv (enc l),.pv (.str s),.pv (enc c)] []):=by
 refine c2j l s c (a5z l s c false 0 ?_)
 show if _ then _ else(if _ then At ZZ 0 (Zo 0 ZN (fun r=>r=Su (Ri l.k (XN ⟨s⟩ c false l.t)) 0 [])) _ _ _ _ _ else _)
 by_cases h0:l.t=[]
 ·refine ZK (by simp[h0]) (ZC rfl ?_)
  have h:=GN l s c [⟨⟨s⟩,c⟩] (by simp)
  rw[h0,XN]
  exact h
 ·have hlt:0<l.t.length:=List.length_pos_iff.2 h0
  refine ZC (by simp;omega) ⟨by simp[Enc.sz];omega,Zx hlt ?_⟩
  have ed:l.t=l.t[0]::l.t.drop 1:=by
   have:=List.drop_eq_getElem_cons hlt
   rwa [List.drop_zero]at this
  have key : ∀ (p':Bool) (add:List Coef),add.length<=2->(p'=false->add.length<=1)->XN ⟨s⟩ c false (l.t[0]::l.t.drop 1)=add++XN ⟨s⟩ c p' (l.t.drop 1) ->
    At ZZ 0 (Zo 0 ZN (fun r=>r=Su (Ri l.k (XN ⟨s⟩ c false l.t)) 0 [])) ZP 0 100 [(1,.pv (.str s)),(2,.pv (.int .i64 c)),(3,.ptr 0 0),(6,.ptr 1 0),(7,.ptr 2 0),(8,.pv (.bool p')),(9,.pv (.int .i64 ((0+1:Nat):Int)))]
     [.obj (.box [.pv (.int .i64 l.k),.pv (enc l.t)]),.obj (.box [.pv (.int .i64 0),.pv (.sl 0 true [])]),.obj (.box [.pv (.int .i64 l.k),.row 3 add.length 0 add.length]),.obj (.row false 61 2 (add.map enc))]:=by
   intro p' add h3 h4 h6
   have h7:XN ⟨s⟩ c false l.t=add++XN ⟨s⟩ c p' (l.t.drop 1):=by rw[<- h6,<- ed]
   rw[h7]
   exact b4g l s c hl (l.t.length - 1) (0+1) p' add.length add (by omega) rfl (fun h=>h4 h) (by omega)
  rw[show IntKind.wrap IntKind.i64 (0+1)=((0+1:Nat):Int)from rfl]
  generalize l.t[0]=y at key ⊢
  obtain⟨⟨yv⟩,yc⟩:=y
  refine ZC rfl ?_
  refine X7 (fun hb=> ?_) fun hb=> ?_
  ·have hb:(Op.bytesLess yv s||yv==s)=false:=hb
   have hlt2:s<yv:=by
    simp only[YW,Bool.or_eq_false_iff,decide_eq_false_iff_not,beq_eq_false_iff_ne]at hb
    exact tri hb.1 hb.2
   have hne : ¬ yv=s:=fun e=>by rw[e]at hlt2;exact List.lt_irrefl _ hlt2
   refine Ka (fun h=>absurd h hne) fun _=> ?_
   exact key true [⟨⟨s⟩,c⟩,⟨⟨yv⟩,yc⟩] (by simp) (fun h=>by cases h) (by rw[Jz,if_pos hlt2];simp)
  ·have hb:(Op.bytesLess yv s||yv==s)=true:=hb
   have hnl : ¬ s<yv:=by
    simp only[YW,Bool.or_eq_true,decide_eq_true_eq,beq_iff_eq]at hb
    rcases hb with h|h
    ·exact List.lt_asymm h
    ·rw[h];exact List.lt_irrefl _
   refine Ka (fun h=> ?_) fun h=> ?_
   ·have h:yv=s:=h
    subst h
    exact key true [⟨⟨yv⟩,DJ (yc+c)⟩] (by simp) (fun h=>by cases h) (by rw[Jz,if_neg hnl,if_pos rfl];simp)
   ·have h:yv≠s:=h
    exact key false [⟨⟨yv⟩,yc⟩] (by simp) (fun _=>by simp) (by rw[Jz,if_neg hnl,if_neg (by rw[Gw];exact h)];simp)
theorem a7n: ∀ args os,Jf args os=true->Zc ZZ os.length (Zo os.length ZN fun r=>r=Jc args os) ZP [] (YK Fg args os):=by
 intro args os h
 unfold Jf at h
 split at h
 ·rename_i l s c
  simp only[Bool.and_eq_true,decide_eq_true_eq]at h
  obtain⟨hl,h1⟩:=h
  obtain⟨l,rfl⟩:=Yr hl
  rw[Enc.dec_enc]at h1
  have ev:Jc [.pv (enc l),.pv (.str s),.pv (.int .i64 c)] []=Su (Cf l ⟨s⟩ c) 0 []:=by
   show Su (Cf (dec (enc l:PV)) ⟨s⟩ c) 0 []=_
   rw[Enc.dec_enc]
  rw[ev]
  exact a7s l s c h1
 ·cases h
end Go.Pl

namespace Go.Pl
open Go.RowKit
open Enc (enc dec is)
open EncL (encL decL isL)
theorem QC.rfl(ps:List PV):QC ps ps:=⟨Eq.refl _,fun j x y hx hy Φ v h=>by rw[hx]at hy;cases hy;exact h⟩
theorem LR.frz_av(r:LR):(frz (r.av 0)).run (YU [r.ob])=some (enc r.view,[.obj (.row true 61 2 (r.ts.map enc))]):=by
 have:(PV.agg [.int .i64 r.k,.sl 2 false (List.drop 0 (List.take r.w (r.ts.map enc)))])=enc r.view:=by
  rw[List.drop_zero,<- List.map_take];rfl
 rw[<- this]
 simp[frz,UD,HM.bind,HM.run,YU,LR.av,LR.ob]
theorem a5h{P:Program}{f:Nat}(h:Z5 P f Jf Jc):Zr P f (fun x:Lin×Str×Int×Unit=>decide (x.1.t.length<=1000000)) (fun x:Lin×Str×Int×Unit=>Vm x.1 x.2.1 x.2.2.1):=Zr.of_own h fun a ha=>by
 obtain⟨l,⟨s⟩,c,⟨⟩⟩:=a
 have ha:l.t.length<=1000000:=by simpa using ha
 refine⟨(Cf l ⟨s⟩ c).av 0,[(Cf l ⟨s⟩ c).ob],_,_,?_,?_,LR.frz_av _,?_⟩
 ·show(VG Lin (enc l)&&decide ((dec (enc l:PV):Lin).t.length<=1000000))=true
  rw[ZY,Enc.dec_enc,decide_eq_true ha];rfl
 ·show Su (Cf (dec (enc l:PV)) ⟨s⟩ c) 0 []=_
  rw[Enc.dec_enc];rfl
 ·rw[Od];exact .refl _
end Go.Pl

namespace Go.Pl
open Go.RowKit
open Enc (enc dec is)
open EncL (encL decL isL)
structure BoxT where
 v:List Str
 m:Int
 deriving DecidableEq
instance:Enc BoxT where
 sz:=2
 enc x:=.agg [enc x.v,enc x.m]
 dec | .agg [a,b]=>⟨dec a,dec b⟩|_=>⟨[],0⟩
 is | .agg [a,b]=>is (List Str) a&&is Int b|_=>false
 is_enc v:=by simp
 dec_enc v:=by simp
 sub p h:=by
  cases p with
  | agg xs=>
   match xs,h with
   | [a,b],h=>
    simp only[Bool.and_eq_true]at h
    exact .agg (.cons (Enc.sub a h.1).2 (.cons (Enc.sub b h.2).2 .nil))
  | _=>cases h
@[simp] theorem d0k (a b : PV) : is BoxT (.agg [a, b]) = (is (List Str) a && is Int b) := rfl
@[simp] theorem c8u (a b : PV) : (dec (.agg [a, b]) : BoxT) = ⟨dec a, dec b⟩ := rfl
structure Mono where
 c:Int
 v:List Str
 deriving DecidableEq
instance:Enc Mono where
 sz:=2
 enc x:=.agg [enc x.c,enc x.v]
 dec | .agg [a,b]=>⟨dec a,dec b⟩|_=>⟨0,[]⟩
 is | .agg [a,b]=>is Int a&&is (List Str) b|_=>false
 is_enc v:=by simp
 dec_enc v:=by simp
 sub p h:=by
  cases p with
  | agg xs=>
   match xs,h with
   | [a,b],h=>
    simp only[Bool.and_eq_true]at h
    exact .agg (.cons (Enc.sub a h.1).2 (.cons (Enc.sub b h.2).2 .nil))
  | _=>cases h
@[simp] theorem d0q (a b : PV) : is Mono (.agg [a, b]) = (is Int a && is (List Str) b) := rfl
@[simp] theorem c9r (a b : PV) : (dec (.agg [a, b]) : Mono) = ⟨dec a, dec b⟩ := rfl
structure NilS where
 deriving DecidableEq
instance:Enc NilS where
 sz:=1
 enc _:=.sl 0 true []
 dec _:=⟨⟩
 is | .sl 0 true []=>true|_=>false
 is_enc _:=rfl
 dec_enc _:=rfl
 sub p h:=by
  cases p with
  | sl s t xs=>
   cases xs with
   | nil=>cases s with
    | zero=>cases t with
     | true=>exact .refl _
     | false=>cases h
    | succ s=>cases h
   | cons x xs=>cases s <;> cases t <;> cases h
  | _=>cases h
def Zn{α:Type}(l:List α):Bool:=decide (l.length<=9223372036854775807)
def WC(l:List Str):Bool:=Zn l&&l.all fun s=>decide (s.s.length<=281474976710656)
def ZG(b:BoxT):Bool:=WC b.v
def JQ(m:Int):List Str->Int->Option Int
 | [],n=>some n
 | _::r,n=>if n*(m+1)>20000 then none else JQ m r (n*(m+1))
def YI(b:BoxT):Bool:=b.v.all ZE&&decide b.v.Nodup&&(b.v.isEmpty||decide (b.m<20000))&&decide (0<=b.m)&&(JQ b.m b.v 1).isSome
def Ze(vs:List Str)(p:List Int):List Coef:=List.zipWith (fun v n=>⟨v,n⟩) vs p
def Zd(l:Lin):List Str:=l.t.map (·.v)
def YG(vs:List Str)(ns:List Str):Bool:=ns.all fun s=>vs.contains s
def Zp(b:BoxT)(fs:List Fact)(ok:Bool)(ns:List Str):Int:=
 if !YI b || !Yq fs || !ok then 1 else if YG b.v (ns++fs.flatMap fun f=>Zd f.l)then 0 else 7
def YQ(m:Int):Nat->List Int->Option (List Int)
 | 0,_=>none
 | k+1,p=>if p.getD k 0=m then YQ m k (p.set k 0)else some (p.set k (p.getD k 0+1))
def VJ(m:Int)(p:List Int):Option (List Int):=YQ m p.length p
def walkP(m:Int):Nat->List Int->List (List Int)
 | 0,_=>[]
 | f+1,p=>p::(match VJ m p with|none=>[]|some q=>walkP m f q)
def We(vs:List Str):List Int:=vs.map fun _=>0
def c6p(b:BoxT):List (List Int):=walkP b.m 20001 (We b.v)
def Xy(vs:List Str)(fs:List Fact)(p:List Int):Bool:=fs.all fun f=>Z7 f (Ze vs p)
def ZR(b:BoxT)(fs:List Fact):List (List Int):=(c6p b).filter (Xy b.v fs)
def Z0(b:BoxT)(fs:List Fact):List (List Int)×Int:=if Zp b fs true []=0 then(ZR b fs,0)else([],Zp b fs true [])
def KN(b:BoxT)(fs:List Fact):Int×Int:=(((Z0 b fs).1.length:Int),(Z0 b fs).2)
def Jo:List AV->List AObj->Bool
 | [.pv (.str s),.ptr 0 0],[.box [.pv v,.pv (.int .i64 m)]]=>VG (List Str) v&&Zn (dec v:List Str)
 | _,_=>false
def CO:List AV->List AObj->AV×List AObj×List AObj
 | [.pv (.str s),_],[.box [.pv v,.pv (.int .i64 m)]]=>(.pv (.bool (!((dec v:List Str).contains ⟨s⟩))),[.box [.pv v,.pv (.int .i64 m)]],[])
 | _,_=>Vr
def KO(xs:List PV):List Str:=dec (.sl 1 false xs)
def Ti(n m:Nat)(xs:List PV):Bool:=m==n&&xs.length==n&&VG (List Str) (.sl 1 false xs)&&Zn (KO xs)
def Wo(g:Nat):List AV->List AObj->Bool
 | [.row 0 n 0 m,.fn g' [] [.ptr 1 0]],[.row false ty 1 xs,.box [.pv v,.pv (.int .i64 k)]]=>g'==g&&ty==9&&Ti n m xs&&VG (List Str) v&&Zn (dec v:List Str)
 | [.pv (.sl 0 true []),.fn g' [] [.ptr 0 0]],[.box [.pv v,.pv (.int .i64 k)]]=>g'==g&&VG (List Str) v&&Zn (dec v:List Str)
 | _,_=>false
def CE:List AV->List AObj->AV×List AObj×List AObj
 | _,[.row fz ty sz xs,.box [.pv v,.pv (.int .i64 k)]]=>(.pv (.int .i64 (Zz (fun s:Str=> !((dec v:List Str).contains s)) (KO xs))),[.row fz ty sz xs,.box [.pv v,.pv (.int .i64 k)]],[])
 | _,[.box [.pv v,.pv (.int .i64 k)]]=>(.pv (.int .i64 (-1)),[.box [.pv v,.pv (.int .i64 k)]],[])
 | _,_=>Vr
def R7:List AV->List AObj->AV×List AObj×List AObj
 | _,[.row fz ty sz xs,.box [.pv v,.pv (.int .i64 k)]]=>(.pv (.bool ((KO xs).any fun s=> !((dec v:List Str).contains s))),[.row fz ty sz xs,.box [.pv v,.pv (.int .i64 k)]],[])
 | _,[.box [.pv v,.pv (.int .i64 k)]]=>(.pv (.bool false),[.box [.pv v,.pv (.int .i64 k)]],[])
 | _,_=>Vr
def Jb:List AV->List AObj->Bool
 | [.pv a],[]=>VG Lin a&& !(dec a:Lin).t.isEmpty&&decide ((dec a:Lin).t.length<=1000000)
 | _,_=>false
def KZ(ns:List Str):AV×List AObj×List AObj:=(.row 0 ns.length 0 ns.length,[],[.row false 9 1 (ns.map enc)])
def EU(p:PV):Lin:=dec p
def H7:List AV->List AObj->AV×List AObj×List AObj
 | [.pv a],_=>KZ (Zd (EU a))
 | _,_=>Vr
def Jp:List AV->List AObj->Bool
 | [.pv a],[]=>VG Lin a&&(dec a:Lin).t.isEmpty
 | _,_=>false
def CL:List AV->List AObj->AV×List AObj×List AObj:=fun _ _=>(.pv (.sl 0 true []),[],[])
def UF:List AV->List AObj->Bool
 | [.pv b,.pv f,.pv (.bool ok),.row 0 n 0 m],[.row false ty 1 xs]=>VG BoxT b&&VG (List Fact) f&&ty==9&&Ti n m xs&&decide (n<=1000)&& !xs.isEmpty&&ZG (dec b)&&Zk (dec f)&&decide ((dec f:List Fact).length<=100)&&decide (xs.length<=1000)
 | _,_=>false
def a0n(p:PV):BoxT:=dec p
def Bc(p:PV):List Fact:=dec p
def ckV(b:BoxT)(fs:List Fact)(ok:Bool)(ns:List Str):List Str:=if !YI b || !Yq fs || !ok then ns else ns++fs.flatMap fun f=>Zd f.l
def Kg:List AV->List AObj->AV×List AObj×List AObj
 | [.pv b,.pv f,.pv (.bool ok),_],[.row fz ty sz xs]=>(.pv (.int .i64 (Zp (a0n b) (Bc f) ok (KO xs))),[.row false ty sz ((ckV (a0n b) (Bc f) ok (KO xs)).map enc)],[])
 | _,_=>Vr
def Xc:List AV->List AObj->Bool
 | [.pv (.agg [v,.int .i64 m]),.pv f],[]=>VG (List Str) v&&VG (List Fact) f
 | _,_=>false
def WP:List AV->List AObj->AV×List AObj×List AObj
 | [.pv (.agg [v,.int .i64 m]),.pv f],_=>(.fn 177 [] [.ptr 0 0,.ptr 1 0],[],[.box [.pv v,.pv (.int .i64 m)],.box [.pv f]])
 | _,_=>Vr
def BJ(xs:List PV):List Int:=dec (.sl 1 false xs)
def XX:List AV->List AObj->Bool
 | [.pv (.agg [v,.int .i64 k]),.row 0 n 0 m],[.row false ty 1 xs]=>m==n&&xs.length==n&&ty==3&&VG (List Int) (.sl 1 false xs)&&VG (List Str) v&&decide ((dec v:List Str).length<=1000)&&decide (n<=1000)
 | _,_=>false
def Ua:List AV->List AObj->AV×List AObj×List AObj
 | [.pv (.agg [v,.int .i64 k]),_],[.row fz ty sz xs]=>(.pv (.sl 2 false ((Ze (dec v) (BJ xs)).map enc)),[.row false ty sz xs],[])
 | _,_=>Vr
end Go.Pl

namespace Go.Pl
open Go.RowKit
open Enc (enc dec is)
open EncL (encL decL isL)
set_option maxRecDepth 100000
def VX:IC:=(.seq (.reg [⟨(some 4),(.mv (.c (.int .i64 0))),0,none⟩] none) (.seq (.seq (.reg [⟨(some 6),(.mv (.t 0)),0,none⟩,⟨(some 7),(.len 1 (.t 6)),0,none⟩,⟨(some 8),(.mv (.c (.int .i64 0))),0,none⟩] none) (.block 0 (.loop [8,7,1,0] (.seq (.reg [⟨(some 9),(.bin .num .lss (.t 8) (.t 7)),0,none⟩] none) (.seq (.cond (.t 9) .skip (.exit 0)) (.seq (.block 1 (.seq (.reg [⟨(some 10),(.mv (.t 8)),0,none⟩,⟨(some 5),(.mv (.t 10)),0,none⟩] none) (.seq (.reg [⟨(some 11),(.mv (.t 1)),0,none⟩,⟨(some 12),(.mv (.t 0)),0,none⟩,⟨(some 13),(.mv (.t 5)),0,none⟩,⟨(some 14),(.iaddr 1 (.t 12) (.t 13)),0,none⟩,⟨(some 15),(.load false [.str] (.t 14)),0,none⟩,⟨(some 16),(.bin .num .eql (.t 11) (.t 15)),0,none⟩] none) (.cond (.t 16) (.seq (.reg [⟨(some 17),(.mv (.t 5)),0,none⟩,⟨(some 4),(.mv (.t 17)),0,none⟩] none) .ret) .skip)))) (.reg [⟨(some 18),(.bin .num .add (.t 8) (.c (.int .i64 1))),0,none⟩,⟨(some 8),(.mv (.t 18)),0,none⟩] none))))))) (.seq (.reg [⟨(some 4),(.mv (.c (.int .i64 (-1)))),0,none⟩] none) .ret)))
def VT:List IRes:=[(.tmp 4)]
abbrev a8b:Nat:=19
def UL:ZF:=Xe []
theorem b4i{G:PV->Prop}(l:List Str)(s:List UInt8)(h:At UL 0 (Za VT G) VX 0 19 [(0,(.pv (.sl 1 false (List.map enc l)))),(1,(.pv (.str s))),(7,(.pv (.int .i64 (↑(List.length (List.map enc l)):Int)))),(8,(.pv (.int .i64 0)))] []):Zc UL 0 (Za VT G) VX [] (Ye 19 [enc l,.str s]):=Zc.tp (.nil) h (by kernel_rfl)
theorem RI{G:PV->Prop}(l:List Str)(s:List UInt8)(i:Int)(h:if (decide (i<(↑(List.length l):Int)))=true then(decide (0<=i)&&decide (Int.toNat i<List.length (List.map enc l))&&Enc.sz Str==1)=true∧(∃ y0:Str,AV.pv (PV.rptr (PV.cells (List.getD (List.map enc l) (Int.toNat i) default)))=AV.pv (PV.rptr (PV.cells ((enc) y0)))∧(if (s==PV.asStr (List.getD (PV.cells (enc y0)) 0 default))=true then G ((.int .i64 i))else(At UL 0 (Za VT G) VX 0 19 [(0,(.pv (.sl 1 false (List.map enc l)))),(1,(.pv (.str s))),(7,(.pv (.int .i64 (↑(List.length l):Int)))),(8,(.pv (.int .i64 (IntKind.wrap IntKind.i64 (i+1)))))] [])))else(G ((.int .i64 (-1))))):At UL 0 (Za VT G) VX 0 19 [(0,.pv (enc l)),(1,.pv (.str s)),(7,.pv (.int .i64 l.length)),(8,.pv (.int .i64 i))] []:=At.tp (.lit (.ask (.req (.abs (Str) (fun YY=>AV.pv (PV.rptr (PV.cells ((enc) YY)))) (.lit (.lit (.ask (.nil) (.lit (.nil))))))) (.nil))) h (by kernel_rfl)
def AQ:IC:=(.seq (.reg [⟨(some 4),(.mv (.c (.bool false))),0,none⟩] none) (.seq (.reg [⟨(some 5),(.mv (.t 0)),0,none⟩,⟨(some 6),(.mv (.t 1)),0,none⟩,⟨(some 7),(.call (.c (.fn 183)) [(.t 5),(.t 6)]),0,none⟩,⟨(some 8),(.bin .num .geq (.t 7) (.c (.int .i64 0))),2,none⟩,⟨(some 4),(.mv (.t 8)),2,none⟩] none) .ret))
def Au:List IRes:=[(.tmp 4)]
abbrev a9z:Nat:=9
def Ph:ZF:=Xe [(183,.pure (preT (fun x:List Str×Str×Unit=>Zn x.1)) (Zf (fun x:List Str×Str×Unit=>Zz (fun s:Str=>decide (s=x.2.1)) x.1)))]
theorem c0q{G:PV->Prop}(l:List Str)(s:List UInt8)(h:(Go.Pl.preT (fun(x:List Str×Str×Unit)=>Zn x.1) [(.sl 1 false (List.map enc l)),(.str s)])=true∧(∃ y0:Int,AV.pv (Zf (fun(x:List Str×Str×Unit)=>Zz (fun(s:Str)=>decide (s=x.2.1)) x.1) [(.sl 1 false (List.map enc l)),(.str s)])=AV.pv (enc y0)∧(G ((.bool (decide (y0 ≥ 0))))))):Zc Ph 0 (Za Au G) AQ [] (Ye 9 [enc l,.str s]):=Zc.tp (.req (.abs (Int) (fun YY=>AV.pv (enc YY)) (.lit (.nil)))) h (by kernel_rfl)
def VW:IC:=(.seq (.reg [⟨(some 1),(.box 2 (.t 0)),0,none⟩,⟨(some 2),(.mv (.c (.bool false))),1,none⟩] none) (.seq (.reg [⟨(some 3),(.mv (.c (.int .i64 1))),0,none⟩] none) (.seq (.seq (.reg [⟨(some 6),(.faddr 0 (.t 1)),0,none⟩,⟨(some 7),(.load false [(.sl 1)] (.t 6)),0,none⟩,⟨(some 8),(.len 1 (.t 7)),0,none⟩,⟨(some 9),(.mv (.c (.int .i64 0))),0,none⟩] none) (.block 0 (.loop [9,8,7,1,3] (.seq (.reg [⟨(some 10),(.bin .num .lss (.t 9) (.t 8)),0,none⟩] none) (.seq (.cond (.t 10) .skip (.exit 0)) (.seq (.block 1 (.seq (.reg [⟨(some 11),(.mv (.t 9)),0,none⟩,⟨(some 12),(.iaddr 1 (.t 7) (.t 9)),0,none⟩,⟨(some 13),(.load false [.str] (.t 12)),0,none⟩,⟨(some 4),(.mv (.t 11)),0,none⟩,⟨(some 5),(.mv (.t 13)),0,none⟩] none) (.seq (.seq (.reg [⟨(some 14),(.mv (.t 5)),0,none⟩,⟨(some 15),(.call (.c (.fn 119)) [(.t 14)]),0,none⟩,⟨(some 16),(.un .not (.t 15)),2,none⟩,⟨(some 17),(.mv (.t 16)),2,none⟩,⟨(some 18),(.faddr 0 (.t 1)),2,(some (17,false))⟩,⟨(some 19),(.load false [(.sl 1)] (.t 18)),2,(some (17,false))⟩,⟨(some 20),(.mv (.t 4)),2,(some (17,false))⟩,⟨(some 21),(.slc 1 (.t 19) none (some (.t 20)) none),2,(some (17,false))⟩,⟨(some 22),(.mv (.t 5)),2,(some (17,false))⟩,⟨(some 23),(.call (.c (.fn 120)) [(.t 21),(.t 22)]),2,(some (17,false))⟩,⟨(some 24),(.pick (.t 17) (.c (.bool true)) (.t 23)),4,none⟩,⟨(some 25),(.mv (.t 24)),4,none⟩,⟨(some 26),(.faddr 1 (.t 1)),4,(some (25,false))⟩,⟨(some 27),(.load false [(.int .i64)] (.t 26)),4,(some (25,false))⟩,⟨(some 28),(.bin .num .lss (.t 27) (.c (.int .i64 0))),4,(some (25,false))⟩,⟨(some 29),(.pick (.t 25) (.c (.bool true)) (.t 28)),4,none⟩,⟨(some 30),(.mv (.t 29)),4,none⟩,⟨(some 31),(.faddr 1 (.t 1)),4,(some (30,false))⟩,⟨(some 32),(.load false [(.int .i64)] (.t 31)),4,(some (30,false))⟩,⟨(some 33),(.bin .num .geq (.t 32) (.c (.int .i64 20000))),4,(some (30,false))⟩,⟨(some 34),(.pick (.t 30) (.c (.bool true)) (.t 33)),4,none⟩] none) (.cond (.t 34) (.seq (.reg [⟨(some 2),(.mv (.c (.bool false))),0,none⟩] none) .ret) .skip)) (.seq (.reg [⟨(some 35),(.mv (.t 3)),0,none⟩,⟨(some 36),(.faddr 1 (.t 1)),0,none⟩,⟨(some 37),(.load false [(.int .i64)] (.t 36)),0,none⟩,⟨(some 38),(.bin .num .add (.t 37) (.c (.int .i64 1))),0,none⟩,⟨(some 39),(.bin .num .mul (.t 35) (.t 38)),0,none⟩,⟨(some 3),(.mv (.t 39)),0,none⟩] none) (.seq (.reg [⟨(some 40),(.mv (.t 3)),0,none⟩,⟨(some 41),(.bin .num .gtr (.t 40) (.c (.int .i64 20000))),0,none⟩] none) (.cond (.t 41) (.seq (.reg [⟨(some 2),(.mv (.c (.bool false))),0,none⟩] none) .ret) .skip)))))) (.reg [⟨(some 42),(.bin .num .add (.t 9) (.c (.int .i64 1))),0,none⟩,⟨(some 9),(.mv (.t 42)),0,none⟩] none))))))) (.seq (.reg [⟨(some 43),(.faddr 1 (.t 1)),0,none⟩,⟨(some 44),(.load false [(.int .i64)] (.t 43)),0,none⟩,⟨(some 45),(.bin .num .geq (.t 44) (.c (.int .i64 0))),0,none⟩,⟨(some 2),(.mv (.t 45)),0,none⟩] none) .ret))))
def VO:List IRes:=[(.tmp 2)]
abbrev a4x:Nat:=46
def UT:ZF:=Xe [(119,.pure (preT (fun x:Str×Unit=>decide (x.1.s.length<=281474976710656))) (Zf (fun x:Str×Unit=>ZE x.1))),(120,.pure (preT (fun x:List Str×Str×Unit=>Zn x.1)) (Zf (fun x:List Str×Str×Unit=>x.1.contains x.2.1)))]
theorem b0l{G:PV->Prop}(b:BoxT)(h:At UT 0 (Za VO G) VW 0 46 [(1,(.ptr 0 0)),(3,(.pv (.int .i64 1))),(7,(.pv (.sl 1 false (List.map enc b.v)))),(8,(.pv (.int .i64 (↑(List.length (List.map enc b.v)):Int)))),(9,(.pv (.int .i64 0)))] [(.obj (.box [(.pv (.sl 1 false (List.map enc b.v))),(.pv (.int .i64 b.m))]))]):Zc UT 0 (Za VO G) VW [] (Ye 46 [enc b]):=Zc.tp (.nil) h (by kernel_rfl)
theorem Rp{G:PV->Prop}(b:BoxT)(n i:Int)(h:if (decide (i<(↑(List.length b.v):Int)))=true then(decide (0<=i)&&decide (Int.toNat i<List.length (List.map enc b.v))&&Enc.sz Str==1)=true∧(∃ y0:Str,AV.pv (PV.rptr (PV.cells (List.getD (List.map enc b.v) (Int.toNat i) default)))=AV.pv (PV.rptr (PV.cells ((enc) y0)))∧((Go.Pl.preT (fun(x:Str×Unit)=>decide (List.length (Str.s x.1)<=281474976710656)) [(.str (PV.asStr (List.getD (PV.cells (enc y0)) 0 default)))])=true∧(∃ y1:Bool,AV.pv (Zf (fun(x:Str×Unit)=>ZE x.1) [(.str (PV.asStr (List.getD (PV.cells (enc y0)) 0 default)))])=AV.pv (enc y1)∧(if (!y1)=true then G ((.bool false))else((true&&decide (0<=i)&&(List.isEmpty (List.map enc b.v)||Enc.sz Str==1)&&decide (0<=Int.toNat i)&&decide (Int.toNat i<=List.length (List.map enc b.v)))=true∧((Go.Pl.preT (fun(x:List Str×Str×Unit)=>Zn x.1) [(.sl 1 false (List.drop 0 (List.take (Int.toNat i) (List.map enc b.v)))),(.str (PV.asStr (List.getD (PV.cells (enc y0)) 0 default)))])=true∧(∃ y2:Bool,AV.pv (Zf (fun(x:List Str×Str×Unit)=>List.contains x.1 x.2.1) [(.sl 1 false (List.drop 0 (List.take (Int.toNat i) (List.map enc b.v)))),(.str (PV.asStr (List.getD (PV.cells (enc y0)) 0 default)))])=AV.pv (enc y2)∧(if (y2)=true then G ((.bool false))else(if (decide (BoxT.m b<0))=true then G ((.bool false))else(if (decide (BoxT.m b ≥ 20000))=true then G ((.bool false))else(if (decide (IntKind.wrap IntKind.i64 (n*IntKind.wrap IntKind.i64 (BoxT.m b+1))>20000))=true then G ((.bool false))else(At UT 0 (Za VO G) VW 0 46 [(1,(.ptr 0 0)),(3,(.pv (.int .i64 (IntKind.wrap IntKind.i64 (n*IntKind.wrap IntKind.i64 (BoxT.m b+1)))))),(7,(.pv (.sl 1 false (List.map enc b.v)))),(8,(.pv (.int .i64 (↑(List.length b.v):Int)))),(9,(.pv (.int .i64 (IntKind.wrap IntKind.i64 (i+1)))))] [(.obj (.box [(.pv (.sl 1 false (List.map enc b.v))),(.pv (.int .i64 b.m))]))]))))))))))))else(G ((.bool (decide (BoxT.m b ≥ 0)))))):At UT 0 (Za VO G) VW 0 46 [(1,.ptr 0 0),(3,.pv (.int .i64 n)),(7,.pv (enc b.v)),(8,.pv (.int .i64 b.v.length)),(9,.pv (.int .i64 i))] [.obj (.box [.pv (enc b.v),.pv (.int .i64 b.m)])]:=At.tp (.lit (.ask (.req (.abs (Str) (fun YY=>AV.pv (PV.rptr (PV.cells ((enc) YY)))) (.lit (.req (.abs (Bool) (fun YY=>AV.pv (enc YY)) (.ask (.lit (.lit (.lit (.lit (.lit (.lit (.lit (.lit (.lit (.lit (.lit (.lit (.lit (.lit (.lit (.nil)))))))))))))))) (.lit (.lit (.lit (.req (.lit (.lit (.req (.abs (Bool) (fun YY=>AV.pv (enc YY)) (.lit (.ask (.lit (.lit (.lit (.lit (.lit (.lit (.lit (.lit (.nil))))))))) (.lit (.lit (.lit (.lit (.ask (.lit (.lit (.lit (.lit (.nil))))) (.lit (.lit (.lit (.lit (.ask (.nil) (.lit (.lit (.lit (.ask (.nil) (.lit (.nil)))))))))))))))))))))))))))))))) (.lit (.nil)))) h (by kernel_rfl)
def WL:IC:=(.seq (.reg [⟨(some 2),(.box 2 (.t 0)),0,none⟩,⟨(some 4),(.mv (.c (.sl 0 true []))),1,none⟩] none) (.seq (.reg [⟨(some 5),(.mv (.c (.sl 0 true []))),0,none⟩] none) (.seq (.seq (.reg [⟨(some 7),(.mv (.t 1)),0,none⟩,⟨(some 8),(.len 1 (.t 7)),0,none⟩,⟨(some 9),(.faddr 0 (.t 2)),0,none⟩,⟨(some 10),(.load false [(.sl 1)] (.t 9)),0,none⟩,⟨(some 11),(.len 1 (.t 10)),0,none⟩,⟨(some 12),(.mm false (.t 8) (.t 11)),0,none⟩,⟨(some 13),(.mv (.c (.int .i64 0))),0,none⟩] none) (.block 0 (.loop [13,12,5,2,1] (.seq (.reg [⟨(some 14),(.bin .num .lss (.t 13) (.t 12)),0,none⟩] none) (.seq (.cond (.t 14) .skip (.exit 0)) (.seq (.block 1 (.seq (.reg [⟨(some 15),(.mv (.t 13)),0,none⟩,⟨(some 6),(.mv (.t 15)),0,none⟩] none) (.reg [⟨(some 16),(.mv (.t 5)),0,none⟩,⟨(some 17),(.faddr 0 (.t 2)),0,none⟩,⟨(some 18),(.load false [(.sl 1)] (.t 17)),0,none⟩,⟨(some 19),(.mv (.t 6)),0,none⟩,⟨(some 20),(.iaddr 1 (.t 18) (.t 19)),0,none⟩,⟨(some 21),(.load false [.str] (.t 20)),0,none⟩,⟨(some 22),(.mv (.t 1)),0,none⟩,⟨(some 23),(.mv (.t 6)),0,none⟩,⟨(some 24),(.iaddr 1 (.t 22) (.t 23)),0,none⟩,⟨(some 25),(.load false [(.int .i64)] (.t 24)),0,none⟩,⟨(some 26),(.build [(.str []),(.int .i64 0)] [(0,(1,(.t 21))),(1,(1,(.t 25)))]),0,none⟩,⟨(some 27),(.bslice 63 2 1 (.agg [(.str []),(.int .i64 0)]) [(0,(.t 26))]),0,none⟩,⟨(some 28),(.append 63 2 24 (.t 16) (.t 27)),1,none⟩,⟨(some 5),(.mv (.t 28)),2,none⟩] (some [[],[],[1],[],[2,3,1],[4,2,3,1],[],[],[6,7],[8,6,7],[5,9,4,2,3,1,8,6,7],[10,5,9,4,2,3,1,8,6,7],[0,11,10,5,9,4,2,3,1,8,6,7],[12,0,1,2,3,4,5,6,7,8,9,10,11]])))) (.reg [⟨(some 29),(.bin .num .add (.t 13) (.c (.int .i64 1))),0,none⟩,⟨(some 13),(.mv (.t 29)),0,none⟩] none))))))) (.seq (.reg [⟨(some 30),(.mv (.t 5)),0,none⟩,⟨(some 4),(.mv (.t 30)),0,none⟩] none) .ret))))
def Vv:List IRes:=[(.tmp 4)]
abbrev b7e:Nat:=31
def UC:ZF:=Xe []
theorem b8b{G:PV->Prop}(b:BoxT)(p:List Int)(h:At UC 0 (Za Vv G) WL 0 31 [(1,(.pv (.sl 1 false (List.map enc p)))),(2,(.ptr 0 0)),(5,(.pv (.sl 0 true []))),(12,(.pv (.int .i64 (if false=true then if (↑(List.length (List.map enc b.v)):Int)>(↑(List.length (List.map enc p)):Int)then(↑(List.length (List.map enc b.v)):Int)else(↑(List.length (List.map enc p)):Int)else if (↑(List.length (List.map enc b.v)):Int)<(↑(List.length (List.map enc p)):Int)then(↑(List.length (List.map enc b.v)):Int)else(↑(List.length (List.map enc p)):Int))))),(13,(.pv (.int .i64 0)))] [(.obj (.box [(.pv (.sl 1 false (List.map enc b.v))),(.pv (.int .i64 b.m))]))]):Zc UC 0 (Za Vv G) WL [] (Ye 31 [enc b,enc p]):=Zc.tp (.nil) h (by kernel_rfl)
theorem TV{G:PV->Prop}(b:BoxT)(p:List Int)(n i:Int)(h:if (decide (i<n))=true then(decide (0<=i)&&decide (Int.toNat i<List.length (List.map enc b.v))&&Enc.sz Str==1)=true∧(∃ y0:Str,AV.pv (PV.rptr (PV.cells (List.getD (List.map enc b.v) (Int.toNat i) default)))=AV.pv (PV.rptr (PV.cells ((enc) y0)))∧((decide (0<=i)&&decide (Int.toNat i<List.length (List.map enc p))&&Enc.sz Int==1)=true∧(∃ y1:Int,AV.pv (PV.rptr (PV.cells (List.getD (List.map enc p) (Int.toNat i) default)))=AV.pv (PV.rptr (PV.cells ((enc) y1)))∧(At UC 0 (Za Vv G) WL 0 31 [(1,(.pv (.sl 1 false (List.map enc p)))),(2,(.ptr 0 0)),(5,(.row 1 1 0 1)),(12,(.pv (.int .i64 n))),(13,(.pv (.int .i64 (IntKind.wrap IntKind.i64 (i+1)))))] [(.obj (.box [(.pv (.sl 1 false (List.map enc b.v))),(.pv (.int .i64 b.m))])),(.obj (.row false 63 2 [(.agg [(.str (PV.asStr (List.getD (PV.cells (enc y0)) 0 default))),(.int .i64 (PV.asInt (List.getD (PV.cells (enc y1)) 0 default)))])]))]))))else(G ((.sl 0 true [])))):At UC 0 (Za Vv G) WL 0 31 [(1,.pv (enc p)),(2,.ptr 0 0),(5,.pv (.sl 0 true [])),(12,.pv (.int .i64 n)),(13,.pv (.int .i64 i))] [.obj (.box [.pv (enc b.v),.pv (.int .i64 b.m)])]:=At.tp (.lit (.ask (.req (.abs (Str) (fun YY=>AV.pv (PV.rptr (PV.cells ((enc) YY)))) (.lit (.req (.abs (Int) (fun YY=>AV.pv (PV.rptr (PV.cells ((enc) YY)))) (.lit (.lit (.lit (.lit (.lit (.lit (.lit (.nil))))))))))))) (.nil))) h (by kernel_rfl)
theorem Ty{G:PV->Prop}(b:BoxT)(p:List Int)(n i:Int)(q:Nat)(vs:List Coef)(h:if (decide (i<n))=true then(decide (0<=i)&&decide (Int.toNat i<List.length (List.map enc b.v))&&Enc.sz Str==1)=true∧(∃ y0:Str,AV.pv (PV.rptr (PV.cells (List.getD (List.map enc b.v) (Int.toNat i) default)))=AV.pv (PV.rptr (PV.cells ((enc) y0)))∧((decide (0<=i)&&decide (Int.toNat i<List.length (List.map enc p))&&Enc.sz Int==1)=true∧(∃ y1:Int,AV.pv (PV.rptr (PV.cells (List.getD (List.map enc p) (Int.toNat i) default)))=AV.pv (PV.rptr (PV.cells ((enc) y1)))∧((List.length (List.map enc vs)==q&&q==q&&decide ((q+List.length (List.drop 0 (List.take 1 [PV.agg [Sh.co Sh.str (List.getD (PV.cells (enc y0)) 0 default),Sh.co (Sh.int .i64) (List.getD (PV.cells (enc y1)) 0 default)]])))*24<=1099511627776)&&decide (q+List.length (List.drop 0 (List.take 1 [PV.agg [Sh.co Sh.str (List.getD (PV.cells (enc y0)) 0 default),Sh.co (Sh.int .i64) (List.getD (PV.cells (enc y1)) 0 default)]]))<=1099511627776))=true∧(At UC 0 (Za Vv G) WL 0 31 [(1,(.pv (.sl 1 false (List.map enc p)))),(2,(.ptr 0 0)),(5,(.row 1 (q+List.length (List.drop 0 (List.take 1 [PV.agg [Sh.co Sh.str (List.getD (PV.cells (enc y0)) 0 default),Sh.co (Sh.int .i64) (List.getD (PV.cells (enc y1)) 0 default)]]))) 0 (q+List.length (List.drop 0 (List.take 1 [PV.agg [Sh.co Sh.str (List.getD (PV.cells (enc y0)) 0 default),Sh.co (Sh.int .i64) (List.getD (PV.cells (enc y1)) 0 default)]]))))),(12,(.pv (.int .i64 n))),(13,(.pv (.int .i64 (IntKind.wrap IntKind.i64 (i+1)))))] [(.obj (.box [(.pv (.sl 1 false (List.map enc b.v))),(.pv (.int .i64 b.m))])),(.obj (.row false 63 2 (List.map enc vs++List.drop 0 (List.take 1 [PV.agg [Sh.co Sh.str (List.getD (PV.cells (enc y0)) 0 default),Sh.co (Sh.int .i64) (List.getD (PV.cells (enc y1)) 0 default)]]))))])))))else((List.length (List.map enc vs)==q)=true∧(G ((.sl 2 false (List.drop 0 (List.take q (List.map enc vs)))))))):At UC 0 (Za Vv G) WL 0 31 [(1,.pv (enc p)),(2,.ptr 0 0),(5,.row 1 q 0 q),(12,.pv (.int .i64 n)),(13,.pv (.int .i64 i))] [.obj (.box [.pv (enc b.v),.pv (.int .i64 b.m)]),.obj (.row false 63 2 (vs.map enc))]:=At.tp (.lit (.ask (.req (.abs (Str) (fun YY=>AV.pv (PV.rptr (PV.cells ((enc) YY)))) (.lit (.req (.abs (Int) (fun YY=>AV.pv (PV.rptr (PV.cells ((enc) YY)))) (.lit (.lit (.lit (.req (.lit (.nil))))))))))) (.req (.nil)))) h (by kernel_rfl)
def Yu:IC:=(.seq (.reg [⟨(some 1),(.box 2 (.t 0)),0,none⟩,⟨(some 2),(.mv (.c (.sl 0 true []))),1,none⟩] none) (.seq (.reg [⟨(some 3),(.mv (.c (.sl 0 true []))),0,none⟩] none) (.seq (.seq (.reg [⟨(some 6),(.faddr 1 (.t 1)),0,none⟩,⟨(some 7),(.load false [(.sl 2)] (.t 6)),0,none⟩,⟨(some 8),(.len 1 (.t 7)),0,none⟩,⟨(some 9),(.mv (.c (.int .i64 0))),0,none⟩] none) (.block 0 (.loop [9,8,7,3] (.seq (.reg [⟨(some 10),(.bin .num .lss (.t 9) (.t 8)),0,none⟩] none) (.seq (.cond (.t 10) .skip (.exit 0)) (.seq (.block 1 (.seq (.reg [⟨(some 11),(.iaddr 2 (.t 7) (.t 9)),0,none⟩,⟨(some 12),(.load true [.str,(.int .i64)] (.t 11)),0,none⟩,⟨(some 5),(.alloc (.agg [(.str []),(.int .i64 0)])),0,none⟩,⟨none,(.store 2 (.t 5) (.t 12)),1,none⟩] none) (.reg [⟨(some 13),(.mv (.t 3)),0,none⟩,⟨(some 14),(.faddr 0 (.t 5)),0,none⟩,⟨(some 15),(.load false [.str] (.t 14)),0,none⟩,⟨(some 16),(.bslice 9 1 1 (.str []) [(0,(.t 15))]),0,none⟩,⟨(some 17),(.append 9 1 16 (.t 13) (.t 16)),1,none⟩,⟨(some 3),(.mv (.t 17)),2,none⟩] none))) (.reg [⟨(some 18),(.bin .num .add (.t 9) (.c (.int .i64 1))),0,none⟩,⟨(some 9),(.mv (.t 18)),0,none⟩] none))))))) (.seq (.reg [⟨(some 19),(.mv (.t 3)),0,none⟩,⟨(some 2),(.mv (.t 19)),0,none⟩] none) .ret))))
def Yv:List IRes:=[(.tmp 2)]
abbrev Ay:Nat:=20
def YO:ZF:=Xe []
theorem a0x{G:AV×List AObj×List AObj->Prop}(l:Lin)(h:At YO 0 (Zo 0 Yv G) Yu 0 20 [(3,(.pv (.sl 0 true []))),(7,(.pv (.sl 2 false (List.map enc l.t)))),(8,(.pv (.int .i64 (↑(List.length (List.map enc l.t)):Int)))),(9,(.pv (.int .i64 0)))] []):Zc YO 0 (Zo 0 Yv G) Yu [] (YK 20 [.pv (enc l)] []):=Zc.to (.nil) h (by kernel_rfl)
theorem Re{G:AV×List AObj×List AObj->Prop}(l:Lin)(i:Int)(h:if (decide (i<(↑(List.length l.t):Int)))=true then(decide (0<=i)&&decide (Int.toNat i<List.length (List.map enc l.t))&&Enc.sz Coef==2)=true∧(∃ y0:Coef,AV.pv (PV.rptr (PV.cells (List.getD (List.map enc l.t) (Int.toNat i) default)))=AV.pv (PV.rptr (PV.cells ((enc) y0)))∧(At YO 0 (Zo 0 Yv G) Yu 0 20 [(3,(.row 0 1 0 1)),(7,(.pv (.sl 2 false (List.map enc l.t)))),(8,(.pv (.int .i64 (↑(List.length l.t):Int)))),(9,(.pv (.int .i64 (IntKind.wrap IntKind.i64 (i+1)))))] [(.obj (.row false 9 1 [(.str (PV.asStr (List.getD (PV.cells (enc y0)) 0 default)))]))]))else(G (((.pv (.sl 0 true [])),([],[]))))):At YO 0 (Zo 0 Yv G) Yu 0 20 [(3,.pv (.sl 0 true [])),(7,.pv (enc l.t)),(8,.pv (.int .i64 l.t.length)),(9,.pv (.int .i64 i))] []:=At.to (.lit (.ask (.req (.abs (Coef) (fun YY=>AV.pv (PV.rptr (PV.cells ((enc) YY)))) (.lit (.lit (.lit (.lit (.lit (.lit (.lit (.nil)))))))))) (.nil))) h (by kernel_rfl)
theorem TE{G:AV×List AObj×List AObj->Prop}(l:Lin)(i:Int)(q:Nat)(vs:List Str)(h:if (decide (i<(↑(List.length l.t):Int)))=true then(decide (0<=i)&&decide (Int.toNat i<List.length (List.map enc l.t))&&Enc.sz Coef==2)=true∧(∃ y0:Coef,AV.pv (PV.rptr (PV.cells (List.getD (List.map enc l.t) (Int.toNat i) default)))=AV.pv (PV.rptr (PV.cells ((enc) y0)))∧((List.length (List.map enc vs)==q&&q==q&&decide ((q+List.length (List.drop 0 (List.take 1 [Sh.co Sh.str (List.getD (PV.cells (enc y0)) 0 default)])))*16<=1099511627776)&&decide (q+List.length (List.drop 0 (List.take 1 [Sh.co Sh.str (List.getD (PV.cells (enc y0)) 0 default)]))<=1099511627776))=true∧(At YO 0 (Zo 0 Yv G) Yu 0 20 [(3,(.row 0 (q+List.length (List.drop 0 (List.take 1 [Sh.co Sh.str (List.getD (PV.cells (enc y0)) 0 default)]))) 0 (q+List.length (List.drop 0 (List.take 1 [Sh.co Sh.str (List.getD (PV.cells (enc y0)) 0 default)]))))),(7,(.pv (.sl 2 false (List.map enc l.t)))),(8,(.pv (.int .i64 (↑(List.length l.t):Int)))),(9,(.pv (.int .i64 (IntKind.wrap IntKind.i64 (i+1)))))] [(.obj (.row false 9 1 (List.map enc vs++List.drop 0 (List.take 1 [Sh.co Sh.str (List.getD (PV.cells (enc y0)) 0 default)]))))])))else(G (((.row 0 q 0 q),([],[(.row false 9 1 (List.map enc vs))]))))):At YO 0 (Zo 0 Yv G) Yu 0 20 [(3,.row 0 q 0 q),(7,.pv (enc l.t)),(8,.pv (.int .i64 l.t.length)),(9,.pv (.int .i64 i))] [.obj (.row false 9 1 (vs.map enc))]:=At.to (.lit (.ask (.req (.abs (Coef) (fun YY=>AV.pv (PV.rptr (PV.cells ((enc) YY)))) (.lit (.lit (.lit (.req (.lit (.nil)))))))) (.nil))) h (by kernel_rfl)
def PH:IC:=(.seq (.reg [⟨(some 3),(.mv (.c (.bool false))),0,none⟩] none) (.seq (.reg [⟨(some 4),(.faddr 0 (.t 1)),0,none⟩,⟨(some 5),(.load false [(.sl 1)] (.t 4)),0,none⟩,⟨(some 6),(.mv (.t 0)),0,none⟩,⟨(some 7),(.call (.c (.fn 120)) [(.t 5),(.t 6)]),0,none⟩,⟨(some 8),(.un .not (.t 7)),2,none⟩,⟨(some 3),(.mv (.t 8)),2,none⟩] none) .ret))
def P9:List IRes:=[(.tmp 3)]
abbrev b8e:Nat:=9
def ET:ZF:=Xe [(120,.pure (preT (fun x:List Str×Str×Unit=>Zn x.1)) (Zf (fun x:List Str×Str×Unit=>x.1.contains x.2.1)))]
theorem c4n{G:AV×List AObj×List AObj->Prop}(s:List UInt8)(b:BoxT)(h:(Go.Pl.preT (fun(x:List Str×Str×Unit)=>Zn x.1) [(.sl 1 false (List.map enc b.v)),(.str s)])=true∧(∃ y0:Bool,AV.pv (Zf (fun(x:List Str×Str×Unit)=>List.contains x.1 x.2.1) [(.sl 1 false (List.map enc b.v)),(.str s)])=AV.pv (enc y0)∧(G (((.pv (.bool !y0)),([(.box [(.pv (.sl 1 false (List.map enc b.v))),(.pv (.int .i64 b.m))])],[])))))):Zc ET 1 (Zo 1 P9 G) PH [] (YK 9 [.pv (.str s),.ptr 0 0] [.box [.pv (enc b.v),.pv (.int .i64 b.m)]]):=Zc.to (.req (.abs (Bool) (fun YY=>AV.pv (enc YY)) (.nil))) h (by kernel_rfl)
def Qa:IC:=(.seq (.reg [⟨(some 4),(.mv (.c (.int .i64 0))),0,none⟩] none) (.seq (.seq (.reg [⟨(some 6),(.mv (.t 0)),0,none⟩,⟨(some 7),(.len 1 (.t 6)),0,none⟩,⟨(some 8),(.mv (.c (.int .i64 0))),0,none⟩] none) (.block 0 (.loop [8,7,1,0] (.seq (.reg [⟨(some 9),(.bin .num .lss (.t 8) (.t 7)),0,none⟩] none) (.seq (.cond (.t 9) .skip (.exit 0)) (.seq (.block 1 (.seq (.reg [⟨(some 10),(.mv (.t 8)),0,none⟩,⟨(some 5),(.mv (.t 10)),0,none⟩] none) (.seq (.reg [⟨(some 11),(.mv (.t 1)),0,none⟩,⟨(some 12),(.mv (.t 0)),0,none⟩,⟨(some 13),(.mv (.t 5)),0,none⟩,⟨(some 14),(.iaddr 1 (.t 12) (.t 13)),0,none⟩,⟨(some 15),(.load false [.str] (.t 14)),0,none⟩,⟨(some 16),(.call (.t 11) [(.t 15)]),0,none⟩] none) (.cond (.t 16) (.seq (.reg [⟨(some 17),(.mv (.t 5)),0,none⟩,⟨(some 4),(.mv (.t 17)),0,none⟩] none) .ret) .skip)))) (.reg [⟨(some 18),(.bin .num .add (.t 8) (.c (.int .i64 1))),0,none⟩,⟨(some 8),(.mv (.t 18)),0,none⟩] none))))))) (.seq (.reg [⟨(some 4),(.mv (.c (.int .i64 (-1)))),0,none⟩] none) .ret)))
def Qx:List IRes:=[(.tmp 4)]
abbrev c6u:Nat:=19
def JF:ZF:=Xe [(176,.own Jo CO)]
theorem c8f{G:AV×List AObj×List AObj->Prop}(l:List Str)(n:Nat)(b:BoxT)(h:At JF 2 (Zo 2 Qx G) Qa 0 19 [(0,(.row 0 n 0 n)),(1,(.fn 176 [] [(.ptr 1 0)])),(7,(.pv (.int .i64 (↑(n - 0):Int)))),(8,(.pv (.int .i64 0)))] [(.obj (.row false 9 1 (List.map enc l))),(.obj (.box [(.pv (.sl 1 false (List.map enc b.v))),(.pv (.int .i64 b.m))]))]):Zc JF 2 (Zo 2 Qx G) Qa [] (YK 19 [.row 0 n 0 n,.fn 176 [] [.ptr 1 0]] [.row false 9 1 (l.map enc),.box [.pv (enc b.v),.pv (.int .i64 b.m)]]):=Zc.to (.nil) h (by kernel_rfl)
theorem b5l{G:AV×List AObj×List AObj->Prop}(l:List Str)(n:Nat)(b:BoxT)(i:Int)(h:if (decide (i<(↑n:Int)))=true then(decide (0<=i)&&decide (0+Int.toNat i<n)&&List.length (List.map enc l)==n)=true∧((List.length (List.map enc l)==n&&decide (0+Int.toNat i<List.length (List.map enc l)))=true∧((decide (0+List.length [Sh.str]<=List.length (PV.cells (List.getD (List.map enc l) (0+Int.toNat i) default)))&&Xa (PV.cells (List.getD (List.map enc l) (0+Int.toNat i) default)) 0 [Sh.str])=true∧((Jo [(.pv (.str (PV.asStr (List.getD (PV.cells (List.getD (List.map enc l) (0+Int.toNat i) default)) 0 default)))),(.ptr 0 0)] [(.box [(.pv (.sl 1 false (List.map enc b.v))),(.pv (.int .i64 b.m))])])=true∧(if (!List.contains (dec (enc b.v)) (Str.mk (PV.asStr (List.getD (PV.cells (List.getD (List.map enc l) (0+Int.toNat i) default)) 0 default))))=true then G (((.pv (.int .i64 i)),([(.row false 9 1 (List.map enc l)),(.box [(.pv (.sl 1 false (List.map enc b.v))),(.pv (.int .i64 b.m))])],[])))else(At JF 2 (Zo 2 Qx G) Qa 0 19 [(0,(.row 0 n 0 n)),(1,(.fn 176 [] [(.ptr 1 0)])),(7,(.pv (.int .i64 (↑n:Int)))),(8,(.pv (.int .i64 (IntKind.wrap IntKind.i64 (i+1)))))] [(.obj (.row false 9 1 (List.map enc l))),(.obj (.box [(.pv (.sl 1 false (List.map enc b.v))),(.pv (.int .i64 b.m))]))])))))else(G (((.pv (.int .i64 (-1))),([(.row false 9 1 (List.map enc l)),(.box [(.pv (.sl 1 false (List.map enc b.v))),(.pv (.int .i64 b.m))])],[]))))):At JF 2 (Zo 2 Qx G) Qa 0 19 [(0,.row 0 n 0 n),(1,.fn 176 [] [.ptr 1 0]),(7,.pv (.int .i64 n)),(8,.pv (.int .i64 i))] [.obj (.row false 9 1 (l.map enc)),.obj (.box [.pv (enc b.v),.pv (.int .i64 b.m)])]:=At.to (.lit (.ask (.req (.keep (.req (.req (.req (.keep (.ask (.nil) (.lit (.nil))))))))) (.nil))) h (by kernel_rfl)
def BH:IC:=(.seq (.reg [⟨(some 4),(.mv (.c (.bool false))),0,none⟩] none) (.seq (.reg [⟨(some 5),(.mv (.t 0)),0,none⟩,⟨(some 6),(.mv (.t 1)),0,none⟩,⟨(some 7),(.call (.c (.fn 238)) [(.t 5),(.t 6)]),0,none⟩,⟨(some 8),(.bin .num .geq (.t 7) (.c (.int .i64 0))),2,none⟩,⟨(some 4),(.mv (.t 8)),2,none⟩] none) .ret))
def P5:List IRes:=[(.tmp 4)]
abbrev c7u:Nat:=9
def a2t:ZF:=Xe [(238,.own (Wo 176) CE)]
theorem c8o{G:AV×List AObj×List AObj->Prop}(l:List Str)(n:Nat)(b:BoxT)(h:(Wo 176 [(.row 0 n 0 n),(.fn 176 [] [(.ptr 1 0)])] [(.row false 9 1 (List.map enc l)),(.box [(.pv (.sl 1 false (List.map enc b.v))),(.pv (.int .i64 b.m))])])=true∧(G (((.pv (.bool (decide (Zz (fun(s:Str)=> !List.contains (dec (enc b.v)) s) (KO (List.map enc l)) ≥ 0)))),([(.row false 9 1 (List.map enc l)),(.box [(.pv (.sl 1 false (List.map enc b.v))),(.pv (.int .i64 b.m))])],[]))))):Zc a2t 2 (Zo 2 P5 G) BH [] (YK 9 [.row 0 n 0 n,.fn 176 [] [.ptr 1 0]] [.row false 9 1 (l.map enc),.box [.pv (enc b.v),.pv (.int .i64 b.m)]]):=Zc.to (.req (.keep (.lit (.nil)))) h (by kernel_rfl)
theorem c9e{G:AV×List AObj×List AObj->Prop}(b:BoxT)(h:At JF 1 (Zo 1 Qx G) Qa 0 19 [(0,(.pv (.sl 0 true []))),(1,(.fn 176 [] [(.ptr 0 0)])),(7,(.pv (.int .i64 0))),(8,(.pv (.int .i64 0)))] [(.obj (.box [(.pv (.sl 1 false (List.map enc b.v))),(.pv (.int .i64 b.m))]))]):Zc JF 1 (Zo 1 Qx G) Qa [] (YK 19 [.pv (.sl 0 true []),.fn 176 [] [.ptr 0 0]] [.box [.pv (enc b.v),.pv (.int .i64 b.m)]]):=Zc.to (.nil) h (by kernel_rfl)
-- IMPOSSIBLE
theorem c3w{G:AV×List AObj×List AObj->Prop}(b:BoxT)(i:Int)(h:if (decide (i<0))=true then(decide (0<=i)&&decide (Int.toNat i<List.length ([]:List PV))&&0==1)=true∧(False)else(G (((.pv (.int .i64 (-1))),([(.box [(.pv (.sl 1 false (List.map enc b.v))),(.pv (.int .i64 b.m))])],[]))))):At JF 1 (Zo 1 Qx G) Qa 0 19 [(0,.pv (.sl 0 true [])),(1,.fn 176 [] [.ptr 0 0]),(7,.pv (.int .i64 0)),(8,.pv (.int .i64 i))] [.obj (.box [.pv (enc b.v),.pv (.int .i64 b.m)])]:=At.to (.lit (.ask (.req (.keep (.lit (.nil)))) (.nil))) h (by kernel_rfl)
theorem c9o{G:AV×List AObj×List AObj->Prop}(b:BoxT)(h:(Wo 176 [(.pv (.sl 0 true [])),(.fn 176 [] [(.ptr 0 0)])] [(.box [(.pv (.sl 1 false (List.map enc b.v))),(.pv (.int .i64 b.m))])])=true∧(G (((.pv (.bool false)),([(.box [(.pv (.sl 1 false (List.map enc b.v))),(.pv (.int .i64 b.m))])],[]))))):Zc a2t 1 (Zo 1 P5 G) BH [] (YK 9 [.pv (.sl 0 true []),.fn 176 [] [.ptr 0 0]] [.box [.pv (enc b.v),.pv (.int .i64 b.m)]]):=Zc.to (.req (.keep (.lit (.nil)))) h (by kernel_rfl)
theorem b4a{G:PV->Prop}(l:Lin)(h:At YO 0 (Za Yv G) Yu 0 20 [(3,(.pv (.sl 0 true []))),(7,(.pv (.sl 2 false (List.map enc l.t)))),(8,(.pv (.int .i64 (↑(List.length (List.map enc l.t)):Int)))),(9,(.pv (.int .i64 0)))] []):Zc YO 0 (Za Yv G) Yu [] (Ye 20 [enc l]):=Zc.tp (.nil) h (by kernel_rfl)
theorem Ab{G:PV->Prop}(l:Lin)(i:Int)(h:if (decide (i<(↑(List.length l.t):Int)))=true then(decide (0<=i)&&decide (Int.toNat i<List.length (List.map enc l.t))&&Enc.sz Coef==2)=true∧(∃ y0:Coef,AV.pv (PV.rptr (PV.cells (List.getD (List.map enc l.t) (Int.toNat i) default)))=AV.pv (PV.rptr (PV.cells ((enc) y0)))∧(At YO 0 (Za Yv G) Yu 0 20 [(3,(.row 0 1 0 1)),(7,(.pv (.sl 2 false (List.map enc l.t)))),(8,(.pv (.int .i64 (↑(List.length l.t):Int)))),(9,(.pv (.int .i64 (IntKind.wrap IntKind.i64 (i+1)))))] [(.obj (.row false 9 1 [(.str (PV.asStr (List.getD (PV.cells (enc y0)) 0 default)))]))]))else(G ((.sl 0 true [])))):At YO 0 (Za Yv G) Yu 0 20 [(3,.pv (.sl 0 true [])),(7,.pv (enc l.t)),(8,.pv (.int .i64 l.t.length)),(9,.pv (.int .i64 i))] []:=At.tp (.lit (.ask (.req (.abs (Coef) (fun YY=>AV.pv (PV.rptr (PV.cells ((enc) YY)))) (.lit (.lit (.lit (.lit (.lit (.lit (.lit (.nil)))))))))) (.nil))) h (by kernel_rfl)
theorem AL{G:PV->Prop}(l:Lin)(i:Int)(q:Nat)(vs:List Str)(h:if (decide (i<(↑(List.length l.t):Int)))=true then(decide (0<=i)&&decide (Int.toNat i<List.length (List.map enc l.t))&&Enc.sz Coef==2)=true∧(∃ y0:Coef,AV.pv (PV.rptr (PV.cells (List.getD (List.map enc l.t) (Int.toNat i) default)))=AV.pv (PV.rptr (PV.cells ((enc) y0)))∧((List.length (List.map enc vs)==q&&q==q&&decide ((q+List.length (List.drop 0 (List.take 1 [Sh.co Sh.str (List.getD (PV.cells (enc y0)) 0 default)])))*16<=1099511627776)&&decide (q+List.length (List.drop 0 (List.take 1 [Sh.co Sh.str (List.getD (PV.cells (enc y0)) 0 default)]))<=1099511627776))=true∧(At YO 0 (Za Yv G) Yu 0 20 [(3,(.row 0 (q+List.length (List.drop 0 (List.take 1 [Sh.co Sh.str (List.getD (PV.cells (enc y0)) 0 default)]))) 0 (q+List.length (List.drop 0 (List.take 1 [Sh.co Sh.str (List.getD (PV.cells (enc y0)) 0 default)]))))),(7,(.pv (.sl 2 false (List.map enc l.t)))),(8,(.pv (.int .i64 (↑(List.length l.t):Int)))),(9,(.pv (.int .i64 (IntKind.wrap IntKind.i64 (i+1)))))] [(.obj (.row false 9 1 (List.map enc vs++List.drop 0 (List.take 1 [Sh.co Sh.str (List.getD (PV.cells (enc y0)) 0 default)]))))])))else((List.length (List.map enc vs)==q)=true∧(G ((.sl 1 false (List.drop 0 (List.take q (List.map enc vs)))))))):At YO 0 (Za Yv G) Yu 0 20 [(3,.row 0 q 0 q),(7,.pv (enc l.t)),(8,.pv (.int .i64 l.t.length)),(9,.pv (.int .i64 i))] [.obj (.row false 9 1 (vs.map enc))]:=At.tp (.lit (.ask (.req (.abs (Coef) (fun YY=>AV.pv (PV.rptr (PV.cells ((enc) YY)))) (.lit (.lit (.lit (.req (.lit (.nil)))))))) (.req (.nil)))) h (by kernel_rfl)
def Xj:IC:=XF
def Xi:List IRes:=[(.tmp 2)]
abbrev a3v:Nat:=67
def XM:ZF:=Xe [(152,.pure (preT (fun _:Str×Str×Unit=>true)) (Zf (fun x:Str×Str×Unit=>x.2.1.s.isPrefixOf x.1.s))),(182,.pure (preT (fun x:Str×Unit=>decide (x.1.s.length<=281474976710656))) (Zf (fun x:Str×Unit=>Yw x.1))),(76,.pure (preT (fun x:Int×Unit=>decide (-9223372036854775808<=x.1)&&decide (x.1<=9223372036854775807))) (Zf (fun x:Int×Unit=>MJ x.1)))]
theorem b6c{G:PV->Prop}(s:List UInt8)(h : ∃ y0:Bool,AV.pv (Zf (fun(x:Str×Str×Unit)=>List.isPrefixOf (Str.s x.2.1) (Str.s x.1)) [(.str s),(.str [(95:UInt8)])])=AV.pv (enc y0)∧(if (y0)=true then(decide (0<=1)&&true&&decide (Int.toNat 1<=List.length s)&&decide (List.length s<=List.length s))=true∧((Go.Pl.preT (fun(x:Str×Unit)=>decide (List.length (Str.s x.1)<=281474976710656)) [(.str (List.drop (Int.toNat 1) (List.take (List.length s) s)))])=true∧(∃ y1:Int×Er,AV.pv (Zf (fun(x:Str×Unit)=>Yw x.1) [(.str (List.drop (Int.toNat 1) (List.take (List.length s) s)))])=AV.pv (enc y1)∧((Ak (enc y1.2)&&Prod.fst (true,PV.bool (UK (enc y1.2))))=true∧(if (UK (enc y1.2))=true then if (decide (y1.1>0))=true then if (decide ((↑(List.length s):Int)<=10))=true then(Go.Pl.preT (fun(x:Int×Unit)=>decide ((-9223372036854775808:Int)<=x.1)&&decide (x.1<=9223372036854775807)) [(.int .i64 y1.1)])=true∧(∃ y2:Str,AV.pv (Zf (fun(x:Int×Unit)=>MJ x.1) [(.int .i64 y1.1)])=AV.pv (enc y2)∧((decide (0<=1)&&true&&decide (Int.toNat 1<=List.length s)&&decide (List.length s<=List.length s))=true∧(G ((.bool (Str.s y2==List.drop (Int.toNat 1) (List.take (List.length s) s)))))))else(G ((.bool false)))else(G ((.bool false)))else(G ((.bool false)))))))else(At XM 0 (Za Xi G) Xj 0 67 [(0,(.pv (.str s))),(34,(.pv (.sl 1 false (Zw s)))),(35,(.pv (.int .i64 (↑(List.length (Zw s)):Int)))),(36,(.pv (.int .i64 0)))] []))):Zc XM 0 (Za Xi G) Xj [] (Ye 67 [.str s]):=Zc.tp (.lit (.abs (Bool) (fun YY=>AV.pv (enc YY)) (.ask (.req (.req (.abs (Int×Er) (fun YY=>AV.pv (enc YY)) (.req (.ask (.lit (.lit (.lit (.ask (.lit (.lit (.lit (.lit (.ask (.lit (.req (.abs (Str) (fun YY=>AV.pv (enc YY)) (.lit (.lit (.req (.lit (.lit (.lit (.nil)))))))))) (.lit (.lit (.lit (.lit (.lit (.nil))))))))))) (.lit (.lit (.lit (.lit (.lit (.lit (.lit (.lit (.lit (.nil)))))))))))))) (.lit (.lit (.lit (.lit (.lit (.lit (.lit (.lit (.lit (.lit (.lit (.lit (.nil)))))))))))))))))) (.nil)))) h (by kernel_rfl)
theorem R5{G:PV->Prop}(s:List UInt8)(i:Int)(h:if (decide (i<(↑(List.length (Zw s)):Int)))=true then(decide (0<=i)&&decide (Int.toNat i<List.length (Zw s))&&1==1)=true∧((decide (0+List.length [Sh.int IntKind.u8]<=List.length (PV.cells (List.getD (Zw s) (Int.toNat i) default)))&&Xa (PV.cells (List.getD (Zw s) (Int.toNat i) default)) 0 [Sh.int IntKind.u8])=true∧(if (decide (PV.asInt (List.getD (PV.cells (List.getD (Zw s) (Int.toNat i) default)) 0 default)<97))=true then if (i==0)=true then G ((.bool false))else(if (decide (PV.asInt (List.getD (PV.cells (List.getD (Zw s) (Int.toNat i) default)) 0 default)<48))=true then G ((.bool false))else(if (decide (PV.asInt (List.getD (PV.cells (List.getD (Zw s) (Int.toNat i) default)) 0 default)>57))=true then G ((.bool false))else(At XM 0 (Za Xi G) Xj 0 67 [(0,(.pv (.str s))),(34,(.pv (.sl 1 false (Zw s)))),(35,(.pv (.int .i64 (↑(List.length (Zw s)):Int)))),(36,(.pv (.int .i64 (IntKind.wrap IntKind.i64 (i+1)))))] [])))else(if (decide (PV.asInt (List.getD (PV.cells (List.getD (Zw s) (Int.toNat i) default)) 0 default)>122))=true then if (i==0)=true then G ((.bool false))else(if (decide (PV.asInt (List.getD (PV.cells (List.getD (Zw s) (Int.toNat i) default)) 0 default)<48))=true then G ((.bool false))else(if (decide (PV.asInt (List.getD (PV.cells (List.getD (Zw s) (Int.toNat i) default)) 0 default)>57))=true then G ((.bool false))else(At XM 0 (Za Xi G) Xj 0 67 [(0,(.pv (.str s))),(34,(.pv (.sl 1 false (Zw s)))),(35,(.pv (.int .i64 (↑(List.length (Zw s)):Int)))),(36,(.pv (.int .i64 (IntKind.wrap IntKind.i64 (i+1)))))] [])))else(At XM 0 (Za Xi G) Xj 0 67 [(0,(.pv (.str s))),(34,(.pv (.sl 1 false (Zw s)))),(35,(.pv (.int .i64 (↑(List.length (Zw s)):Int)))),(36,(.pv (.int .i64 (IntKind.wrap IntKind.i64 (i+1)))))] []))))else(if (!s==[])=true then G ((.bool (decide ((↑(List.length s):Int)<=30))))else(G ((.bool false))))):At XM 0 (Za Xi G) Xj 0 67 [(0,.pv (.str s)),(34,.pv (.sl 1 false (Zw s))),(35,.pv (.int .i64 (Zw s).length)),(36,.pv (.int .i64 i))] []:=At.tp (.lit (.ask (.req (.keep (.req (.lit (.ask (.lit (.lit (.lit (.lit (.lit (.lit (.ask (.lit (.lit (.lit (.lit (.lit (.lit (.lit (.lit (.lit (.lit (.nil))))))))))) (.lit (.lit (.lit (.lit (.lit (.ask (.lit (.lit (.lit (.lit (.lit (.nil)))))) (.lit (.lit (.lit (.lit (.lit (.ask (.nil) (.lit (.nil))))))))))))))))))))) (.lit (.lit (.lit (.ask (.lit (.lit (.lit (.ask (.lit (.lit (.lit (.lit (.lit (.lit (.lit (.lit (.lit (.lit (.nil))))))))))) (.lit (.lit (.lit (.lit (.lit (.ask (.lit (.lit (.lit (.lit (.lit (.nil)))))) (.lit (.lit (.lit (.lit (.lit (.ask (.nil) (.lit (.nil)))))))))))))))))) (.lit (.lit (.lit (.lit (.lit (.lit (.lit (.lit (.nil)))))))))))))))))) (.lit (.ask (.lit (.lit (.lit (.lit (.nil))))) (.lit (.lit (.lit (.nil)))))))) h (by kernel_rfl)
end Go.Pl

namespace Go.Pl
open Go.RowKit
open Enc (enc dec is)
open EncL (encL decL isL)
theorem Zy{α:Type}{l:List α}:Zn l=true ↔ l.length<=9223372036854775807:=by simp[Zn]
theorem MC(l:List Str)(s:List UInt8)(hl:l.length<=9223372036854775807): ∀ (m i:Nat),m+i=l.length->(∀ j (h:j<l.length),j<i->decide (l[j]=⟨s⟩)=false) ->
  At UL 0 (Za VT (Zg (Zz (fun x:Str=>decide (x=⟨s⟩)) l))) VX 0 19 [(0,.pv (enc l)),(1,.pv (.str s)),(7,.pv (.int .i64 l.length)),(8,.pv (.int .i64 i))] []:=by
 intro m
 induction m with
 | zero=>
  intro i hi hno
  refine RI l s i (ZK (Z4 (by omega)) (Uu ?_))
  rw[Qt _ _ fun k hk=>hno k hk (by omega)]
 | succ m ih=>
  intro i hi hno
  have hlt:i<l.length:=by omega
  refine RI l s i (ZC (ZW hlt) ⟨Zt hlt rfl,Zx hlt (Ka (fun h=>Uu ?_) fun h=> ?_)⟩)
  ·have h:s=l[i].s:=h
   rw[Qp (fun x:Str=>decide (x=⟨s⟩)) l i hlt hno (by rw[h];simp)]
  ·have h:s≠l[i].s:=h
   rw[next (by omega)]
   refine ih (i+1) (by omega) fun k hk hki=> ?_
   by_cases e:k=i
   ·subst e;simp only[decide_eq_false_iff_not];intro e;exact h (by rw[e])
   ·exact hno k hk (by omega)
theorem O0: ∀ a:List Str×Str×Unit,Zn a.1=true->Zc UL 0 (Za VT (Zg (Zz (fun s:Str=>decide (s=a.2.1)) a.1))) VX [] (Ye a8b (encL a)):=by
 rintro⟨l,⟨s⟩,⟨⟩⟩ h
 have:=MC l s (Zy.1 h) l.length 0 (by omega) fun j _ h=>by omega
 refine b4i l s ?_
 rw[List.length_map]
 exact this
theorem NS(l:List Str)(s:Str):l.any (fun x=>decide (x=s))=l.contains s:=by
 rw[List.contains_eq_any_beq]
 congr 1
 funext x
 by_cases h:x=s
 ·subst h;simp
 ·have h2:s≠x:=fun e=>h e.symm
  simp[h,h2]
theorem a7f: ∀ a:List Str×Str×Unit,Zn a.1=true->Zc Ph 0 (Za Au (Zg (a.1.contains a.2.1))) AQ [] (Ye a9z (encL a)):=by
 rintro⟨l,⟨s⟩,⟨⟩⟩ h
 refine c0q l s ⟨Zj (l,⟨s⟩,()) rfl h,Zh (l,⟨s⟩,()) rfl (ZM ?_)⟩
 show decide (Zz (fun x:Str=>decide (x=⟨s⟩)) l ≥ 0)=_
 rw[XU,NS]
def gvL(m:Int):List Str->List Str->Int->Bool
 | _,[],_=>decide (m ≥ 0)
 | seen,s::r,n=>ZE s&& !seen.contains s&& !decide (m<0)&& !decide (m ≥ 20000)&& !decide (n*(m+1)>20000)&&gvL m (seen++[s]) r (n*(m+1))
theorem b2w(m:Int): ∀ (r seen:List Str) (n:Int),gvL m seen r n=(r.all ZE&&(decide r.Nodup&&r.all fun s=> !seen.contains s)&&(r.isEmpty||decide (m<20000))&&decide (0<=m)&&(JQ m r n).isSome)
 | [],seen,n=>by
  simp[gvL,JQ]
 | s::r,seen,n=>by
  rw[gvL,b2w m r (seen++[s]) (n*(m+1)),JQ]
  have h1:(r.all fun x=> !(seen++[s]).contains x)=((r.all fun x=> !seen.contains x)&& !r.contains s):=by
   induction r with
   | nil=>rfl
   | cons x r ih=>
    simp only[List.all_cons,ih]
    have e1:(seen++[s]).contains x=(seen.contains x||decide (x=s)):=by simp[List.contains_eq_any_beq,List.any_append,Bool.or_comm]
    have e2:(x::r).contains s=(decide (x=s)||r.contains s):=by
     rw[List.contains_cons]
     congr 1
     by_cases h:x=s
     ·subst h;simp
     ·have h2:s≠x:=fun e=>h e.symm
      simp[h,h2]
    rw[e1,e2]
    cases seen.contains x <;> cases decide (x=s) <;> cases r.contains s <;> cases (r.all fun x=> !seen.contains x) <;> rfl
  have h2:decide (s::r).Nodup=(decide r.Nodup&& !r.contains s):=by
   by_cases h:s∈r
   ·simp[List.nodup_cons,h]
   ·simp[List.nodup_cons,h]
  rw[h1,h2]
  by_cases hm:m<0
  ·have e1:decide (0<=m)=false:=by simp;omega
   rw[decide_eq_true hm,e1];simp
  ·have e1:decide (0<=m)=true:=by simp;omega
   by_cases hm2:m ≥ 20000
   ·have e2:decide (m<20000)=false:=by simp;omega
    rw[decide_eq_true hm2,e2];simp
   ·have e2:decide (m<20000)=true:=by simp;omega
    by_cases hn:n*(m+1)>20000
    ·rw[if_pos hn,decide_eq_true hn];simp
    ·rw[if_neg hn,decide_eq_false hn,decide_eq_false hm,decide_eq_false hm2,e1,e2]
     simp only[List.all_cons,List.isEmpty_cons]
     cases ZE s <;> cases seen.contains s <;> cases r.contains s <;> cases r.all ZE <;> cases decide r.Nodup <;> cases (r.all fun x=> !seen.contains x) <;> cases r.isEmpty <;> cases (JQ m r (n*(m+1))).isSome <;> rfl
theorem a1c(b:BoxT):gvL b.m [] b.v 1=YI b:=by
 rw[b2w,YI]
 have:(b.v.all fun s=> !([]:List Str).contains s)=true:=by simp
 rw[this,Bool.and_true]
theorem a2b{n:Int}(h1 : -9000000000000000000<=n)(h2:n<=9000000000000000000):IntKind.i64.wrap n=n:=XJ (by omega) (by omega)
theorem MP(b:BoxT)(hb:ZG b=true): ∀ (k i:Nat) (n:Int),k+i=b.v.length->1<=n->n<=20000 ->
  At UT 0 (Za VO (Zg (gvL b.m (b.v.take i) (b.v.drop i) n))) VW 0 46 [(1,.ptr 0 0),(3,.pv (.int .i64 n)),(7,.pv (enc b.v)),(8,.pv (.int .i64 b.v.length)),(9,.pv (.int .i64 i))] [.obj (.box [.pv (enc b.v),.pv (.int .i64 b.m)])]:=by
 simp only[ZG,WC,Bool.and_eq_true,List.all_eq_true]at hb
 obtain⟨hb1,hb2⟩:=hb
 have hl:=Zy.1 hb1
 intro k
 induction k with
 | zero=>
  intro i n hi h1 h2
  rw[List.drop_of_length_le (by omega)]
  exact Rp b n i (ZK (Z4 (by omega)) (ZM rfl))
 | succ k ih=>
  intro i n hi h1 h2
  have hlt:i<b.v.length:=by omega
  have hd:b.v.drop i=b.v[i]::b.v.drop (i+1):=List.drop_eq_getElem_cons hlt
  have ht:b.v.take (i+1)=b.v.take i++[b.v[i]]:=List.take_succ_eq_append_getElem hlt
  have hs:=hb2 _ (List.getElem_mem hlt)
  rw[hd,gvL]
  have et:List.drop 0 (List.take (Int.toNat (i:Int)) (List.map (enc:Str->PV) b.v))=(b.v.take i).map enc:=by rw[List.drop_zero,Int.toNat_natCast,List.map_take]
  refine Rp b n i (ZC (ZW hlt) ⟨Zt hlt rfl,Zx hlt ⟨Zj (b.v[i],()) rfl hs,Zh (b.v[i],()) rfl (X7 (fun h=> ?_) fun h=>⟨by rw[List.length_map,decide_eq_true (show(0:Int)<=(i:Int) by omega),decide_eq_true (show(Int.toNat (i:Int))<=b.v.length by omega)];simp,?_,?_⟩)⟩⟩)
  ·have h:ZE b.v[i]=false:=h
   rw[h];exact ZM rfl
  ·rw[et]
   exact Zj (b.v.take i,b.v[i],()) rfl (Zy.2 (by rw[List.length_take];omega))
  ·rw[et]
   have hn:ZE b.v[i]=true:=h
   rw[hn,Bool.true_and]
   refine Zh (b.v.take i,b.v[i],()) rfl (X3 (fun h=> ?_) fun h=>WJ (fun h3=> ?_) fun h3=>WJ (fun h4=> ?_) fun h4=> ?_)
   ·have h:(b.v.take i).contains b.v[i]=true:=h
    rw[h];exact ZM rfl
   ·rw[decide_eq_true h3,show(b.v.take i).contains b.v[i]=false from h];exact ZM rfl
   ·rw[decide_eq_true h4,decide_eq_false h3,show(b.v.take i).contains b.v[i]=false from h];exact ZM rfl
   ·have h:(b.v.take i).contains b.v[i]=false:=h
    have q1:b.m+1<=20000:=by omega
    have q2:1<=b.m+1:=by omega
    have hm:n*(b.m+1)<=20000*20000:=Int.le_trans (Int.mul_le_mul_of_nonneg_left q1 (by omega)) (Int.mul_le_mul_of_nonneg_right h2 (by omega))
    have hm1:1<=n*(b.m+1):=by
     have:=Int.mul_le_mul h1 q2 (by omega) (by omega)
     omega
    rw[a2b (n:=b.m+1) (by omega) (by omega),a2b (n:=n*(b.m+1)) (by omega) (by omega),decide_eq_false h3,decide_eq_false h4,h]
    refine WJ (fun h5=> ?_) fun h5=> ?_
    ·rw[decide_eq_true h5];exact ZM rfl
    ·rw[decide_eq_false h5,next (by omega),<- ht]
     exact ih (i+1) (n*(b.m+1)) (by omega) hm1 (by omega)
theorem EP: ∀ a:BoxT×Unit,ZG a.1=true->Zc UT 0 (Za VO (Zg (YI a.1))) VW [] (Ye a4x (encL a)):=by
 rintro⟨b,⟨⟩⟩ h
 rw[<- a1c]
 refine b0l b ?_
 have:=MP b h b.v.length 0 1 (by omega) (by omega) (by omega)
 rw[List.length_map]
 exact this
theorem WZ(vs:List Str)(p:List Int){i:Nat}(h1:i<vs.length)(h2:i<p.length):Ze (vs.take (i+1)) (p.take (i+1))=Ze (vs.take i) (p.take i)++[⟨vs[i],p[i]⟩]:=by
 unfold Ze
 rw[List.take_succ_eq_append_getElem h1,List.take_succ_eq_append_getElem h2,List.zipWith_append (by simp[List.length_take];omega)]
 rfl
theorem Gu(vs:List Str)(p:List Int){i:Nat}(h:min vs.length p.length<=i):Ze (vs.take i) (p.take i)=Ze vs p:=by
 unfold Ze
 rw[<- List.take_zipWith]
 exact List.take_of_length_le (by rw[List.length_zipWith];exact h)
theorem Uj(vs:List Str)(p:List Int){i:Nat}(h1:i<=vs.length)(h2:i<=p.length):(Ze (vs.take i) (p.take i)).length=i:=by
 unfold Ze
 rw[List.length_zipWith,List.length_take,List.length_take];omega
theorem Oi(b:BoxT)(p:List Int)(hb:b.v.length<=1000): ∀ (k i:Nat),k+i=min b.v.length p.length->1<=i ->
  At UC 0 (Za Vv (Zg (Ze b.v p))) WL 0 31 [(1,.pv (enc p)),(2,.ptr 0 0),(5,.row 1 i 0 i),(12,.pv (.int .i64 ((min b.v.length p.length:Nat):Int))),(13,.pv (.int .i64 i))] [.obj (.box [.pv (enc b.v),.pv (.int .i64 b.m)]),.obj (.row false 63 2 ((Ze (b.v.take i) (p.take i)).map enc))]:=by
 intro k
 induction k with
 | zero=>
  intro i hi h1
  have hl:=Uj b.v p (i:=i) (by omega) (by omega)
  refine Ty b p _ i i (Ze (b.v.take i) (p.take i)) (ZK (Z4 (by omega)) ⟨by simp[hl],?_⟩)
  rw[List.drop_zero,List.take_of_length_le (by rw[List.length_map,hl];exact Nat.le_refl _),Gu b.v p (by omega)]
  exact ZQ (x:=Ze b.v p) rfl
 | succ k ih=>
  intro i hi h1
  have hl:=Uj b.v p (i:=i) (by omega) (by omega)
  have hlt:i<b.v.length:=by omega
  have hlt2:i<p.length:=by omega
  refine Ty b p _ i i (Ze (b.v.take i) (p.take i)) (ZC (ZW (by omega)) ⟨Zt hlt rfl,Zx hlt ⟨Zt hlt2 rfl,Zx hlt2 ⟨?_,?_⟩⟩⟩)
  ·rw[List.length_map,hl]
   show((i==i)&&(i==i)&&decide ((i+1)*24<=1099511627776)&&decide (i+1<=1099511627776))=true
   rw[decide_eq_true (by omega),decide_eq_true (by omega)];simp
  ·have:=ih (i+1) (by omega) (by omega)
   rw[WZ b.v p hlt hlt2,List.map_append,<- next (by omega)]at this
   exact this
theorem a6g: ∀ a:BoxT×List Int×Unit,(decide (a.1.v.length<=1000)&&Zn a.2.1)=true->Zc UC 0 (Za Vv (Zg (Ze a.1.v a.2.1))) WL [] (Ye b7e (encL a)):=by
 rintro⟨b,p,⟨⟩⟩ h
 simp only[Bool.and_eq_true,decide_eq_true_eq]at h
 obtain⟨h1,h2⟩:=h
 refine b8b b p ?_
 simp only[List.length_map]
 rw[if_neg (by decide)]
 have em:(if ((b.v.length:Nat):Int)<(p.length:Int)then(b.v.length:Int)else(p.length:Int))=((min b.v.length p.length:Nat):Int):=by
  split <;> omega
 rw[em]
 have hl2:=Zy.1 h2
 by_cases h0:min b.v.length p.length=0
 ·rw[h0]
  refine TV b p 0 0 (ZK (by decide) ?_)
  have:Ze b.v p=[]:=by
   rw[<- List.length_eq_zero_iff];unfold Ze;rw[List.length_zipWith];exact h0
  rw[this]
  exact⟨rfl,rfl⟩
 ·have hlt:0<b.v.length:=by omega
  have hlt2:0<p.length:=by omega
  refine TV b p _ 0 (ZC (ZW (i:=0) (by omega)) ⟨Zt hlt rfl,Zx hlt ⟨Zt hlt2 rfl,Zx hlt2 ?_⟩⟩)
  have:=Oi b p h1 (min b.v.length p.length - 1) 1 (by omega) (by omega)
  rw[show(1:Nat)=0+1 from rfl,WZ b.v p hlt hlt2]at this
  exact this
end Go.Pl

namespace Go.Pl
open Go.RowKit
open Enc (enc dec is)
open EncL (encL decL isL)
set_option maxRecDepth 100000
def Yd:IC:=(.seq (.reg [⟨(some 4),(.box 2 (.t 0)),0,none⟩,⟨(some 8),(.mv (.c (.int .i64 0))),1,none⟩] none) (.seq (.seq (.reg [⟨(some 11),(.load true [(.sl 1),(.int .i64)] (.t 4)),0,none⟩,⟨(some 12),(.call (.c (.fn 50)) [(.t 11)]),0,none⟩,⟨(some 13),(.un .not (.t 12)),2,none⟩,⟨(some 14),(.mv (.t 13)),2,none⟩,⟨(some 15),(.mv (.t 1)),2,(some (14,false))⟩,⟨(some 16),(.call (.c (.fn 95)) [(.t 15)]),2,(some (14,false))⟩,⟨(some 17),(.un .not (.t 16)),4,(some (14,false))⟩,⟨(some 18),(.pick (.t 14) (.c (.bool true)) (.t 17)),4,none⟩,⟨(some 19),(.mv (.t 18)),4,none⟩,⟨(some 20),(.mv (.t 2)),4,(some (19,false))⟩,⟨(some 21),(.un .not (.t 20)),4,(some (19,false))⟩,⟨(some 22),(.pick (.t 19) (.c (.bool true)) (.t 21)),4,none⟩] none) (.cond (.t 22) (.seq (.reg [⟨(some 8),(.mv (.c (.int .i64 1))),0,none⟩] none) .ret) .skip)) (.seq (.seq (.reg [⟨(some 23),(.mv (.t 1)),0,none⟩,⟨(some 24),(.len 1 (.t 23)),0,none⟩,⟨(some 25),(.mv (.c (.int .i64 0))),0,none⟩] none) (.block 0 (.loop [25,24,23,3,4] (.seq (.reg [⟨(some 26),(.bin .num .lss (.t 25) (.t 24)),0,none⟩] none) (.seq (.cond (.t 26) .skip (.exit 0)) (.seq (.block 1 (.seq (.reg [⟨(some 27),(.iaddr 3 (.t 23) (.t 25)),0,none⟩,⟨(some 28),(.load true [.bool,(.int .i64),(.sl 2)] (.t 27)),0,none⟩,⟨(some 10),(.alloc (.agg [(.bool false),(.int .i64 0),(.sl 0 true [])])),0,none⟩,⟨none,(.store 3 (.t 10) (.t 28)),1,none⟩] none) (.reg [⟨(some 29),(.mv (.t 3)),0,none⟩,⟨(some 30),(.faddr 1 (.t 10)),0,none⟩,⟨(some 31),(.load true [(.int .i64),(.sl 2)] (.t 30)),0,none⟩,⟨(some 32),(.call (.c (.fn 174)) [(.t 31)]),0,none⟩,⟨(some 33),(.append 9 1 16 (.t 29) (.t 32)),2,none⟩,⟨(some 3),(.mv (.t 33)),3,none⟩] none))) (.reg [⟨(some 34),(.bin .num .add (.t 25) (.c (.int .i64 1))),0,none⟩,⟨(some 25),(.mv (.t 34)),0,none⟩] none))))))) (.seq (.seq (.reg [⟨(some 35),(.mv (.t 3)),0,none⟩,⟨(some 36),(.mkfn 176 [] [(.t 4)]),0,none⟩,⟨(some 37),(.call (.c (.fn 175)) [(.t 35),(.t 36)]),0,none⟩] none) (.cond (.t 37) (.seq (.reg [⟨(some 8),(.mv (.c (.int .i64 7))),0,none⟩] none) .ret) .skip)) (.seq (.reg [⟨(some 8),(.mv (.c (.int .i64 0))),0,none⟩] none) .ret)))))
def Yc:List IRes:=[(.tmp 8)]
abbrev Rz:Nat:=38
def Yx:ZF:=Xe [(50,.pure (preT (fun x:BoxT×Unit=>ZG x.1)) (Zf (fun x:BoxT×Unit=>YI x.1))),(95,.pure (preT (fun x:List Fact×Unit=>Zk x.1)) (Zf (fun x:List Fact×Unit=>Yq x.1))),(174,.pure (preT (fun x:Lin×Unit=>decide (x.1.t.length<=1000000))) (Zf (fun x:Lin×Unit=>Zd x.1))),(175,.own (Wo 176) R7)]
theorem b2i{G:PV->Prop}(b:BoxT)(fs:List Fact)(ok:Bool)(h:(Go.Pl.preT (fun(x:BoxT×Unit)=>ZG x.1) [(.agg [(.sl 1 false (List.map enc b.v)),(.int .i64 b.m)])])=true∧(∃ y0:Bool,AV.pv (Zf (fun(x:BoxT×Unit)=>YI x.1) [(.agg [(.sl 1 false (List.map enc b.v)),(.int .i64 b.m)])])=AV.pv (enc y0)∧(if (!y0)=true then G ((.int .i64 1))else((Go.Pl.preT (fun(x:List Fact×Unit)=>Zk x.1) [(.sl 3 false (List.map enc fs))])=true∧(∃ y1:Bool,AV.pv (Zf (fun(x:List Fact×Unit)=>Yq x.1) [(.sl 3 false (List.map enc fs))])=AV.pv (enc y1)∧(if (!y1)=true then G ((.int .i64 1))else(if (!ok)=true then G ((.int .i64 1))else(At Yx 0 (Za Yc G) Yd 0 38 [(3,(.pv (.sl 0 true []))),(4,(.ptr 0 0)),(23,(.pv (.sl 3 false (List.map enc fs)))),(24,(.pv (.int .i64 (↑(List.length (List.map enc fs)):Int)))),(25,(.pv (.int .i64 0)))] [(.obj (.box [(.pv (.sl 1 false (List.map enc b.v))),(.pv (.int .i64 b.m))]))])))))))):Zc Yx 0 (Za Yc G) Yd [] (Ye 38 [enc b,enc fs,.bool ok,.sl 0 true []]):=Zc.tp (.req (.abs (Bool) (fun YY=>AV.pv (enc YY)) (.ask (.lit (.lit (.lit (.lit (.lit (.lit (.lit (.nil)))))))) (.lit (.req (.abs (Bool) (fun YY=>AV.pv (enc YY)) (.lit (.lit (.ask (.lit (.lit (.lit (.nil)))) (.lit (.lit (.ask (.nil) (.nil))))))))))))) h (by kernel_rfl)
theorem Sn{G:PV->Prop}(b:BoxT)(fs:List Fact)(ok:Bool)(i:Int)(h:if (decide (i<(↑(List.length fs):Int)))=true then(decide (0<=i)&&decide (Int.toNat i<List.length (List.map enc fs))&&Enc.sz Fact==3)=true∧(∃ y0:Fact,AV.pv (PV.rptr (PV.cells (List.getD (List.map enc fs) (Int.toNat i) default)))=AV.pv (PV.rptr (PV.cells ((enc) y0)))∧((Go.Pl.preT (fun(x:Lin×Unit)=>decide (List.length x.1.t<=1000000)) [(.agg [(.int .i64 (PV.asInt (List.getD (PV.cells (enc y0)) (0+1) default))),(.sl 2 false (PV.asXs (List.getD (PV.cells (enc y0)) (0+1+1) default)))])])=true∧(∃ y1:List Str,AV.pv (Zf (fun(x:Lin×Unit)=>Zd x.1) [(.agg [(.int .i64 (PV.asInt (List.getD (PV.cells (enc y0)) (0+1) default))),(.sl 2 false (PV.asXs (List.getD (PV.cells (enc y0)) (0+1+1) default)))])])=AV.pv (enc y1)∧((List.isEmpty (List.map enc y1)||Enc.sz Str==1)=true∧(if (List.isEmpty (List.map enc y1))=true then At Yx 0 (Za Yc G) Yd 0 38 [(3,(.pv (.sl 0 true []))),(4,(.ptr 0 0)),(23,(.pv (.sl 3 false (List.map enc fs)))),(24,(.pv (.int .i64 (↑(List.length fs):Int)))),(25,(.pv (.int .i64 (IntKind.wrap IntKind.i64 (i+1)))))] [(.obj (.box [(.pv (.sl 1 false (List.map enc b.v))),(.pv (.int .i64 b.m))]))]else(((List.isEmpty ([]:List PV)||0==1)&&decide ((List.length ([]:List PV)+List.length (List.map enc y1))*16<=1099511627776)&&decide (List.length ([]:List PV)+List.length (List.map enc y1)<=1099511627776))=true∧(At Yx 0 (Za Yc G) Yd 0 38 [(3,(.row 0 (List.length ([]:List PV)+List.length (List.map enc y1)) 0 (List.length ([]:List PV)+List.length (List.map enc y1)))),(4,(.ptr 1 0)),(23,(.pv (.sl 3 false (List.map enc fs)))),(24,(.pv (.int .i64 (↑(List.length fs):Int)))),(25,(.pv (.int .i64 (IntKind.wrap IntKind.i64 (i+1)))))] [(.obj (.row false 9 1 (([]:List PV)++List.map enc y1))),(.obj (.box [(.pv (.sl 1 false (List.map enc b.v))),(.pv (.int .i64 b.m))]))])))))))else((Wo 176 [(.pv (.sl 0 true [])),(.fn 176 [] [(.ptr 0 0)])] [(.box [(.pv (.sl 1 false (List.map enc b.v))),(.pv (.int .i64 b.m))])])=true∧(G ((.int .i64 0))))):At Yx 0 (Za Yc G) Yd 0 38 [(3,.pv (.sl 0 true [])),(4,.ptr 0 0),(23,.pv (enc fs)),(24,.pv (.int .i64 fs.length)),(25,.pv (.int .i64 i))] [.obj (.box [.pv (enc b.v),.pv (.int .i64 b.m)])]:=At.tp (.lit (.ask (.req (.abs (Fact) (fun YY=>AV.pv (PV.rptr (PV.cells ((enc) YY)))) (.lit (.req (.abs (List Str) (fun YY=>AV.pv (enc YY)) (.req (.lit (.ask (.lit (.nil)) (.req (.lit (.nil))))))))))) (.req (.keep (.lit (.nil)))))) h (by kernel_rfl)
theorem BI{G:PV->Prop}(b:BoxT)(fs:List Fact)(ok:Bool)(i:Int)(q:Nat)(ns:List Str)(h:if (decide (i<(↑(List.length fs):Int)))=true then(decide (0<=i)&&decide (Int.toNat i<List.length (List.map enc fs))&&Enc.sz Fact==3)=true∧(∃ y0:Fact,AV.pv (PV.rptr (PV.cells (List.getD (List.map enc fs) (Int.toNat i) default)))=AV.pv (PV.rptr (PV.cells ((enc) y0)))∧((Go.Pl.preT (fun(x:Lin×Unit)=>decide (List.length x.1.t<=1000000)) [(.agg [(.int .i64 (PV.asInt (List.getD (PV.cells (enc y0)) (0+1) default))),(.sl 2 false (PV.asXs (List.getD (PV.cells (enc y0)) (0+1+1) default)))])])=true∧(∃ y1:List Str,AV.pv (Zf (fun(x:Lin×Unit)=>Zd x.1) [(.agg [(.int .i64 (PV.asInt (List.getD (PV.cells (enc y0)) (0+1) default))),(.sl 2 false (PV.asXs (List.getD (PV.cells (enc y0)) (0+1+1) default)))])])=AV.pv (enc y1)∧((List.isEmpty (List.map enc y1)||Enc.sz Str==1)=true∧((List.length (List.map enc ns)==q&&q==q&&decide ((q+List.length (List.map enc y1))*16<=1099511627776)&&decide (q+List.length (List.map enc y1)<=1099511627776))=true∧(At Yx 0 (Za Yc G) Yd 0 38 [(3,(.row 0 (q+List.length (List.map enc y1)) 0 (q+List.length (List.map enc y1)))),(4,(.ptr 1 0)),(23,(.pv (.sl 3 false (List.map enc fs)))),(24,(.pv (.int .i64 (↑(List.length fs):Int)))),(25,(.pv (.int .i64 (IntKind.wrap IntKind.i64 (i+1)))))] [(.obj (.row false 9 1 (List.map enc ns++List.map enc y1))),(.obj (.box [(.pv (.sl 1 false (List.map enc b.v))),(.pv (.int .i64 b.m))]))]))))))else((Wo 176 [(.row 0 q 0 q),(.fn 176 [] [(.ptr 1 0)])] [(.row false 9 1 (List.map enc ns)),(.box [(.pv (.sl 1 false (List.map enc b.v))),(.pv (.int .i64 b.m))])])=true∧(if (List.any (KO (List.map enc ns)) fun(s:Str)=> !List.contains (dec (enc b.v)) s)=true then G ((.int .i64 7))else(G ((.int .i64 0)))))):At Yx 0 (Za Yc G) Yd 0 38 [(3,.row 0 q 0 q),(4,.ptr 1 0),(23,.pv (enc fs)),(24,.pv (.int .i64 fs.length)),(25,.pv (.int .i64 i))] [.obj (.row false 9 1 (ns.map enc)),.obj (.box [.pv (enc b.v),.pv (.int .i64 b.m)])]:=At.tp (.lit (.ask (.req (.abs (Fact) (fun YY=>AV.pv (PV.rptr (PV.cells ((enc) YY)))) (.lit (.req (.abs (List Str) (fun YY=>AV.pv (enc YY)) (.req (.req (.lit (.nil))))))))) (.req (.keep (.ask (.nil) (.nil)))))) h (by kernel_rfl)
theorem a4p{G:AV×List AObj×List AObj->Prop}(b:BoxT)(fs:List Fact)(ok:Bool)(n:Nat)(l:List Str)(h:(Go.Pl.preT (fun(x:BoxT×Unit)=>ZG x.1) [(.agg [(.sl 1 false (List.map enc b.v)),(.int .i64 b.m)])])=true∧(∃ y0:Bool,AV.pv (Zf (fun(x:BoxT×Unit)=>YI x.1) [(.agg [(.sl 1 false (List.map enc b.v)),(.int .i64 b.m)])])=AV.pv (enc y0)∧(if (!y0)=true then G (((.pv (.int .i64 1)),([(.row false 9 1 (List.map enc l))],[])))else((Go.Pl.preT (fun(x:List Fact×Unit)=>Zk x.1) [(.sl 3 false (List.map enc fs))])=true∧(∃ y1:Bool,AV.pv (Zf (fun(x:List Fact×Unit)=>Yq x.1) [(.sl 3 false (List.map enc fs))])=AV.pv (enc y1)∧(if (!y1)=true then G (((.pv (.int .i64 1)),([(.row false 9 1 (List.map enc l))],[])))else(if (!ok)=true then G (((.pv (.int .i64 1)),([(.row false 9 1 (List.map enc l))],[])))else(At Yx 1 (Zo 1 Yc G) Yd 0 38 [(3,(.row 0 n 0 n)),(4,(.ptr 1 0)),(23,(.pv (.sl 3 false (List.map enc fs)))),(24,(.pv (.int .i64 (↑(List.length (List.map enc fs)):Int)))),(25,(.pv (.int .i64 0)))] [(.obj (.row false 9 1 (List.map enc l))),(.obj (.box [(.pv (.sl 1 false (List.map enc b.v))),(.pv (.int .i64 b.m))]))])))))))):Zc Yx 1 (Zo 1 Yc G) Yd [] (YK 38 [.pv (enc b),.pv (enc fs),.pv (.bool ok),.row 0 n 0 n] [.row false 9 1 (l.map enc)]):=Zc.to (.req (.abs (Bool) (fun YY=>AV.pv (enc YY)) (.ask (.lit (.lit (.lit (.lit (.lit (.lit (.lit (.nil)))))))) (.lit (.req (.abs (Bool) (fun YY=>AV.pv (enc YY)) (.lit (.lit (.ask (.lit (.lit (.lit (.nil)))) (.lit (.lit (.ask (.nil) (.nil))))))))))))) h (by kernel_rfl)
theorem Br{G:AV×List AObj×List AObj->Prop}(b:BoxT)(fs:List Fact)(ok:Bool)(n:Nat)(l:List Str)(i:Int)(q:Nat)(ns:List Str)(h:if (decide (i<(↑(List.length fs):Int)))=true then(decide (0<=i)&&decide (Int.toNat i<List.length (List.map enc fs))&&Enc.sz Fact==3)=true∧(∃ y0:Fact,AV.pv (PV.rptr (PV.cells (List.getD (List.map enc fs) (Int.toNat i) default)))=AV.pv (PV.rptr (PV.cells ((enc) y0)))∧((Go.Pl.preT (fun(x:Lin×Unit)=>decide (List.length x.1.t<=1000000)) [(.agg [(.int .i64 (PV.asInt (List.getD (PV.cells (enc y0)) (0+1) default))),(.sl 2 false (PV.asXs (List.getD (PV.cells (enc y0)) (0+1+1) default)))])])=true∧(∃ y1:List Str,AV.pv (Zf (fun(x:Lin×Unit)=>Zd x.1) [(.agg [(.int .i64 (PV.asInt (List.getD (PV.cells (enc y0)) (0+1) default))),(.sl 2 false (PV.asXs (List.getD (PV.cells (enc y0)) (0+1+1) default)))])])=AV.pv (enc y1)∧((List.isEmpty (List.map enc y1)||Enc.sz Str==1)=true∧((List.length (List.map enc ns)==q&&q==q&&decide ((q+List.length (List.map enc y1))*16<=1099511627776)&&decide (q+List.length (List.map enc y1)<=1099511627776))=true∧(At Yx 1 (Zo 1 Yc G) Yd 0 38 [(3,(.row 0 (q+List.length (List.map enc y1)) 0 (q+List.length (List.map enc y1)))),(4,(.ptr 1 0)),(23,(.pv (.sl 3 false (List.map enc fs)))),(24,(.pv (.int .i64 (↑(List.length fs):Int)))),(25,(.pv (.int .i64 (IntKind.wrap IntKind.i64 (i+1)))))] [(.obj (.row false 9 1 (List.map enc ns++List.map enc y1))),(.obj (.box [(.pv (.sl 1 false (List.map enc b.v))),(.pv (.int .i64 b.m))]))]))))))else((Wo 176 [(.row 0 q 0 q),(.fn 176 [] [(.ptr 1 0)])] [(.row false 9 1 (List.map enc ns)),(.box [(.pv (.sl 1 false (List.map enc b.v))),(.pv (.int .i64 b.m))])])=true∧(if (List.any (KO (List.map enc ns)) fun(s:Str)=> !List.contains (dec (enc b.v)) s)=true then G (((.pv (.int .i64 7)),([(.row false 9 1 (List.map enc ns))],[])))else(G (((.pv (.int .i64 0)),([(.row false 9 1 (List.map enc ns))],[]))))))):At Yx 1 (Zo 1 Yc G) Yd 0 38 [(3,.row 0 q 0 q),(4,.ptr 1 0),(23,.pv (enc fs)),(24,.pv (.int .i64 fs.length)),(25,.pv (.int .i64 i))] [.obj (.row false 9 1 (ns.map enc)),.obj (.box [.pv (enc b.v),.pv (.int .i64 b.m)])]:=At.to (.lit (.ask (.req (.abs (Fact) (fun YY=>AV.pv (PV.rptr (PV.cells ((enc) YY)))) (.lit (.req (.abs (List Str) (fun YY=>AV.pv (enc YY)) (.req (.req (.lit (.nil))))))))) (.req (.keep (.ask (.nil) (.nil)))))) h (by kernel_rfl)
def Nc:IC:=(.seq (.reg [⟨(some 2),(.box 2 (.t 0)),0,none⟩,⟨(some 3),(.box 1 (.t 1)),1,none⟩,⟨(some 4),(.mv (.c .nilfn)),2,none⟩] none) (.seq (.reg [⟨(some 5),(.mkfn 177 [] [(.t 2),(.t 3)]),0,none⟩,⟨(some 4),(.mv (.t 5)),0,none⟩] none) .ret))
def Nj:List IRes:=[(.tmp 4)]
abbrev c1f:Nat:=6
def E5:ZF:=Xe []
theorem c7p{G:AV×List AObj×List AObj->Prop}(b:BoxT)(fs:List Fact)(h:G (((.fn 177 [] [(.ptr 0 0),(.ptr 1 0)]),([],[(.box [(.pv (.sl 1 false (List.map enc b.v))),(.pv (.int .i64 b.m))]),(.box [(.pv (.sl 3 false (List.map enc fs)))])])))):Zc E5 0 (Zo 0 Nj G) Nc [] (YK 6 [.pv (enc b),.pv (enc fs)] []):=Zc.to (.nil) h (by kernel_rfl)
def Qk:IC:=(.block 1 (.reg [⟨(some 20),(.load false [(.sl 1)] (.t 7)),0,none⟩,⟨(some 21),(.mv (.t 8)),0,none⟩,⟨(some 22),(.bslice 34 1 1 (.sl 0 true []) [(0,(.t 21))]),0,none⟩,⟨(some 23),(.append 34 1 24 (.t 20) (.t 22)),1,none⟩,⟨none,(.store 1 (.t 7) (.t 23)),2,none⟩] none))
def Na:ZF:=Xe [(116,.pure (preT (fun x:BoxT×List Fact×Bool×NilS×Unit=>ZG x.1&&Zk x.2.1&&decide (x.2.1.length<=100))) (Zf (fun x:BoxT×List Fact×Bool×NilS×Unit=>Zp x.1 x.2.1 x.2.2.1 []))),(117,.own Xc WP)]
theorem b9n{G:Zv->Prop}(E:YB)(p:List Int)(vs:List Coef)(h:E 99 ⟨ZU 25 0 [],[(.obj (.box [(.row 1 1 0 1)])),(.obj (.row false 34 1 [(.sl 1 false (List.map enc p))]))]⟩ (fun x S'=>Jw Na E 1 (fun st=>G st.heap) Qk 99 x S')):ZB Na E 1 (fun st=>G st.heap) (.inl Qk) [.seq (.ext 99 [])] ⟨ZU 25 0 [(7,.ptr 0 0),(8,.pv (enc p)),(18,.pv (enc p)),(19,.pv (enc vs))],[.obj (.box [.pv (.sl 0 true [])])]⟩:=ZB.mh (.lit (.lit (.lit (.lit (.lit (.nil)))))) h (by kernel_rfl)
theorem b8f{G:Zv->Prop}(E:YB)(p:List Int)(vs:List Coef)(n:Nat)(xs:List (List Int))(h:(List.length (List.map enc xs)==n&&n==n&&decide ((n+List.length (List.drop 0 (List.take 1 [enc p])))*24<=1099511627776)&&decide (n+List.length (List.drop 0 (List.take 1 [enc p]))<=1099511627776))=true∧(E 99 ⟨ZU 25 0 [],[(.obj (.box [(.row 1 (n+List.length (List.drop 0 (List.take 1 [enc p]))) 0 (n+List.length (List.drop 0 (List.take 1 [enc p]))))])),(.obj (.row false 34 1 (List.map enc xs++List.drop 0 (List.take 1 [enc p]))))]⟩ (fun x S'=>Jw Na E 2 (fun st=>G st.heap) Qk 99 x S'))):ZB Na E 2 (fun st=>G st.heap) (.inl Qk) [.seq (.ext 99 [])] ⟨ZU 25 0 [(7,.ptr 0 0),(8,.pv (enc p)),(18,.pv (enc p)),(19,.pv (enc vs))],[.obj (.box [.row 1 n 0 n]),.obj (.row false 34 1 (xs.map enc))]⟩:=ZB.mh (.lit (.lit (.req (.nil)))) h (by kernel_rfl)
def Dz:IC:=(.seq (.reg [⟨(some 2),(.box 2 (.t 0)),0,none⟩,⟨(some 4),(.mv (.c (.sl 0 true []))),1,none⟩,⟨(some 5),(.mv (.c (.int .i64 0))),1,none⟩] none) (.seq (.seq (.reg [⟨(some 9),(.load true [(.sl 1),(.int .i64)] (.t 2)),0,none⟩,⟨(some 10),(.mv (.t 1)),0,none⟩,⟨(some 11),(.call (.c (.fn 116)) [(.t 9),(.t 10),(.c (.bool true)),(.c (.sl 0 true []))]),0,none⟩,⟨(some 6),(.mv (.t 11)),2,none⟩] none) (.seq (.reg [⟨(some 12),(.mv (.t 6)),0,none⟩,⟨(some 13),(.bin .num .neq (.t 12) (.c (.int .i64 0))),0,none⟩] none) (.cond (.t 13) (.seq (.reg [⟨(some 14),(.mv (.t 6)),0,none⟩,⟨(some 4),(.mv (.c (.sl 0 true []))),0,none⟩,⟨(some 5),(.mv (.t 14)),0,none⟩] none) .ret) .skip))) (.seq (.reg [⟨(some 7),(.alloc (.sl 0 true [])),0,none⟩] none) (.seq (.seq (.reg [⟨(some 15),(.load true [(.sl 1),(.int .i64)] (.t 2)),0,none⟩,⟨(some 16),(.mv (.t 1)),0,none⟩,⟨(some 17),(.call (.c (.fn 117)) [(.t 15),(.t 16)]),0,none⟩] none) (.block 0 (.ext 0 [17,18,7,8,21,20,22,23]))) (.seq (.reg [⟨(some 24),(.load false [(.sl 1)] (.t 7)),0,none⟩,⟨(some 4),(.mv (.t 24)),0,none⟩,⟨(some 5),(.mv (.c (.int .i64 0))),0,none⟩] none) .ret)))))
def Dk:List IRes:=[(.tmp 4),(.tmp 5)]
abbrev c4p:Nat:=25
def JD:ZF:=Xe [(116,.pure (preT (fun x:BoxT×List Fact×Bool×NilS×Unit=>ZG x.1&&Zk x.2.1&&decide (x.2.1.length<=100))) (Zf (fun x:BoxT×List Fact×Bool×NilS×Unit=>Zp x.1 x.2.1 x.2.2.1 []))),(117,.own Xc WP)]
theorem c8y{G:PV->Prop}(E:YB)(b:BoxT)(fs:List Fact)(h:(Go.Pl.preT (fun(x:BoxT×List Fact×Bool×NilS×Unit)=>ZG x.1&&Zk x.2.1&&decide (List.length x.2.1<=100)) [(.agg [(.sl 1 false (List.map enc b.v)),(.int .i64 b.m)]),(.sl 3 false (List.map enc fs)),(.bool true),(.sl 0 true [])])=true∧(∃ y0:Int,AV.pv (Zf (fun(x:BoxT×List Fact×Bool×NilS×Unit)=>Zp x.1 x.2.1 x.2.2.1 []) [(.agg [(.sl 1 false (List.map enc b.v)),(.int .i64 b.m)]),(.sl 3 false (List.map enc fs)),(.bool true),(.sl 0 true [])])=AV.pv (enc y0)∧(if (y0 != 0)=true then G ((.tup [(.sl 0 true []),(.int .i64 y0)]))else((Xc [(.pv (.agg [(.sl 1 false (List.map enc b.v)),(.int .i64 b.m)])),(.pv (.sl 3 false (List.map enc fs)))] [])=true∧(E 0 ⟨ZU 25 0 [(7,(.ptr 0 0)),(8,.undef),(17,(.fn 177 [] [(.ptr 1 0),(.ptr 2 0)])),(18,.undef),(20,.undef),(21,.undef),(22,.undef),(23,.undef)],[(.obj (.box [(.pv (.sl 0 true []))])),(.obj (.box [(.pv (.sl 1 false (List.map enc b.v))),(.pv (.int .i64 b.m))])),(.obj (.box [(.pv (.sl 3 false (List.map enc fs)))]))]⟩ (fun x S'=>Jw JD E 0 (Za Dk G) Dz 0 x S')))))):ZB JD E 0 (Za Dk G) (.inl Dz) [] (Ye 25 [enc b,enc fs]):=ZB.mp (.req (.abs (Int) (fun YY=>AV.pv (enc YY)) (.lit (.ask (.nil) (.req (.keep (.nil))))))) h (by kernel_rfl)
theorem c1l{G:PV->Prop}(E:YB)(b:BoxT)(fs:List Fact)(h:G ((.tup [(.sl 0 true []),(.int .i64 0)]))):Jw JD E 0 (Za Dk G) Dz 0 .normal ⟨ZU 25 0 [(7,.ptr 0 0)],[.obj (.box [.pv (.sl 0 true [])])]⟩:=ZB.mp (.nil) h (by kernel_rfl)
theorem c2t{G:PV->Prop}(E:YB)(b:BoxT)(fs:List Fact)(n:Nat)(xs:List (List Int))(h:(List.length (List.map enc xs)==n)=true∧(G ((.tup [(.sl 1 false (List.drop 0 (List.take n (List.map enc xs)))),(.int .i64 0)])))):Jw JD E 0 (Za Dk G) Dz 0 .normal ⟨ZU 25 0 [(7,.ptr 0 0)],[.obj (.box [.row 1 n 0 n]),.obj (.row false 34 1 (xs.map enc))]⟩:=ZB.mp (.req (.nil)) h (by kernel_rfl)
def G7:IC:=(.seq (.reg [⟨(some 2),(.box 2 (.t 0)),0,none⟩,⟨(some 4),(.mv (.c (.int .i64 0))),1,none⟩,⟨(some 5),(.mv (.c (.int .i64 0))),1,none⟩] none) (.seq (.reg [⟨(some 9),(.load true [(.sl 1),(.int .i64)] (.t 2)),0,none⟩,⟨(some 10),(.mv (.t 1)),0,none⟩,⟨(some 11),(.call (.c (.fn 45)) [(.t 9),(.t 10)]),0,none⟩,⟨(some 8),(.mv (.t 11)),2,none⟩,⟨(some 12),(.extract (.t 8) 0),2,none⟩,⟨(some 13),(.extract (.t 8) 1),2,none⟩,⟨(some 6),(.mv (.t 12)),2,none⟩,⟨(some 7),(.mv (.t 13)),2,none⟩] none) (.seq (.reg [⟨(some 14),(.mv (.t 6)),0,none⟩,⟨(some 15),(.len 1 (.t 14)),0,none⟩,⟨(some 16),(.mv (.t 7)),0,none⟩,⟨(some 4),(.mv (.t 15)),0,none⟩,⟨(some 5),(.mv (.t 16)),0,none⟩] none) .ret)))
def Dq:List IRes:=[(.tmp 4),(.tmp 5)]
abbrev a4n:Nat:=17
def Sj:ZF:=Xe [(45,.pure (preT (fun x:BoxT×List Fact×Unit=>ZG x.1&&Zk x.2.1&&decide (x.2.1.length<=100)&&decide (x.1.v.length<=1000))) (Zf (fun x:BoxT×List Fact×Unit=>Z0 x.1 x.2.1)))]
theorem a8u{G:PV->Prop}(b:BoxT)(fs:List Fact)(h:(Go.Pl.preT (fun(x:BoxT×List Fact×Unit)=>ZG x.1&&Zk x.2.1&&decide (List.length x.2.1<=100)&&decide (List.length x.1.v<=1000)) [(.agg [(.sl 1 false (List.map enc b.v)),(.int .i64 b.m)]),(.sl 3 false (List.map enc fs))])=true∧(∃ y0:List (List Int)×Int,AV.pv (Zf (fun(x:BoxT×List Fact×Unit)=>Z0 x.1 x.2.1) [(.agg [(.sl 1 false (List.map enc b.v)),(.int .i64 b.m)]),(.sl 3 false (List.map enc fs))])=AV.pv (enc y0)∧(G ((.tup [(.int .i64 (↑(List.length (List.map enc y0.1)):Int)),(.int .i64 y0.2)]))))):Zc Sj 0 (Za Dq G) G7 [] (Ye 17 [enc b,enc fs]):=Zc.tp (.req (.abs (List (List Int)×Int) (fun YY=>AV.pv (enc YY)) (.nil))) h (by kernel_rfl)
end Go.Pl

namespace Go.Pl
open Go.RowKit
open Enc (enc dec is)
open EncL (encL decL isL)
end Go.Pl

namespace Go.Pl
open Go.RowKit
open Enc (enc dec is)
open EncL (encL decL isL)
set_option maxRecDepth 100000
-- IMPOSSIBLE
end Go.Pl

namespace Go.Pl
open Go.RowKit
open Enc (enc dec is)
open EncL (encL decL isL)
end Go.Pl

namespace Go.Pl
open Go.RowKit
open Enc (enc dec is)
open EncL (encL decL isL)
def Oa(l:Lin)(i:Nat):List Str:=(l.t.take i).map (·.v)
theorem Jg(l:Lin){i:Nat}(h:i<l.t.length):(Oa l (i+1)).map (enc:Str->PV)=(Oa l i).map enc++[.str l.t[i].v.s]:=by
 unfold Oa
 rw[List.take_succ_eq_append_getElem h,List.map_append,List.map_append];rfl
theorem KY(l:Lin){i:Nat}(h:i<=l.t.length):(Oa l i).length=i:=by unfold Oa;rw[List.length_map,List.length_take];omega
theorem Pk(l:Lin):Oa l l.t.length=Zd l:=by unfold Oa Zd;rw[List.take_of_length_le (Nat.le_refl _)]
theorem SB{q sz m:Nat}{xs:List PV}(h:xs.length=q)(h1:(q+m)*sz<=1099511627776)(h2:q+m<=1099511627776):(xs.length==q&&q==q&&decide ((q+m)*sz<=1099511627776)&&decide (q+m<=1099511627776))=true:=by simp[h,h1,h2]
theorem Ow(l:Lin)(hl:l.t.length<=1000000): ∀ (k i:Nat),k+i=l.t.length->1<=i ->
  At YO 0 (Zo 0 Yv fun r=>r=KZ (Zd l)) Yu 0 20 [(3,.row 0 i 0 i),(7,.pv (enc l.t)),(8,.pv (.int .i64 l.t.length)),(9,.pv (.int .i64 i))] [.obj (.row false 9 1 ((Oa l i).map enc))]:=by
 intro k
 induction k with
 | zero=>
  intro i hi h1
  obtain rfl:i=l.t.length:=by omega
  refine TE l _ _ (Oa l l.t.length) (ZK (Z4 (by omega)) ?_)
  rw[Pk]
  unfold KZ
  have e:(Zd l).length=l.t.length:=by rw[<- Pk,KY l (Nat.le_refl _)]
  rw[e]
 | succ k ih=>
  intro i hi h1
  have hlt:i<l.t.length:=by omega
  refine TE l i i (Oa l i) (ZC (ZW hlt) ⟨Zt hlt rfl,Zx hlt ⟨SB (m:=1) (by rw[List.length_map,KY l (by omega)]) (by omega) (by omega),?_⟩⟩)
  have:=ih (i+1) (by omega) (by omega)
  rw[Jg l hlt,<- next (by omega)]at this
  exact this
theorem a4r: ∀ args os,Jb args os=true->Zc YO os.length (Zo os.length Yv fun r=>r=H7 args os) Yu [] (YK Ay args os):=by
 intro args os h
 unfold Jb at h
 split at h
 ·rename_i a
  simp only[Bool.and_eq_true,Bool.not_eq_true',decide_eq_true_eq]at h
  obtain⟨⟨h1,h2⟩,h3⟩:=h
  obtain⟨l,rfl⟩:=Yr h1
  rw[Enc.dec_enc]at h2 h3
  have hlt:0<l.t.length:=by
   rcases Nat.eq_zero_or_pos l.t.length with e|e
   ·rw[List.length_eq_zero_iff.1 e]at h2;cases h2
   ·exact e
  have ev:H7 [.pv (enc l)] []=KZ (Zd l):=by show KZ (Zd (dec (enc l:PV)))=_;rw[Enc.dec_enc]
  rw[ev]
  refine a0x l ?_
  rw[List.length_map]
  refine Re l ((0:Nat):Int) (ZC (ZW hlt) ⟨Zt hlt rfl,Zx hlt ?_⟩)
  have:=Ow l h3 (l.t.length - 1) 1 (by omega) (by omega)
  rw[show(1:Nat)=0+1 from rfl,Jg l hlt]at this
  exact this
 ·cases h
theorem O8: ∀ args os,Jp args os=true->Zc YO os.length (Zo os.length Yv fun r=>r=CL args os) Yu [] (YK Ay args os):=by
 intro args os h
 unfold Jp at h
 split at h
 ·rename_i a
  simp only[Bool.and_eq_true,List.isEmpty_iff]at h
  obtain⟨h1,h2⟩:=h
  obtain⟨l,rfl⟩:=Yr h1
  rw[Enc.dec_enc]at h2
  refine a0x l ?_
  rw[List.length_map]
  exact Re l ((0:Nat):Int) (ZK (Z4 (by rw[h2];simp)) rfl)
 ·cases h
theorem FR(l:Lin)(hl:l.t.length<=1000000): ∀ (k i:Nat),k+i=l.t.length->1<=i ->
  At YO 0 (Za Yv (Zg (Zd l))) Yu 0 20 [(3,.row 0 i 0 i),(7,.pv (enc l.t)),(8,.pv (.int .i64 l.t.length)),(9,.pv (.int .i64 i))] [.obj (.row false 9 1 ((Oa l i).map enc))]:=by
 intro k
 induction k with
 | zero=>
  intro i hi h1
  obtain rfl:i=l.t.length:=by omega
  refine AL l _ _ (Oa l l.t.length) (ZK (Z4 (by omega)) ⟨by simp[KY],?_⟩)
  rw[List.drop_zero,List.take_of_length_le (by rw[List.length_map,KY l (Nat.le_refl _)];exact Nat.le_refl _),Pk]
  exact ZQ (x:=Zd l) rfl
 | succ k ih=>
  intro i hi h1
  have hlt:i<l.t.length:=by omega
  refine AL l i i (Oa l i) (ZC (ZW hlt) ⟨Zt hlt rfl,Zx hlt ⟨SB (m:=1) (by rw[List.length_map,KY l (by omega)]) (by omega) (by omega),?_⟩⟩)
  have:=ih (i+1) (by omega) (by omega)
  rw[Jg l hlt,<- next (by omega)]at this
  exact this
theorem Ed: ∀ a:Lin×Unit,decide (a.1.t.length<=1000000)=true->Zc YO 0 (Za Yv (Zg (Zd a.1))) Yu [] (Ye Ay (encL a)):=by
 rintro⟨l,⟨⟩⟩ h
 have h:l.t.length<=1000000:=of_decide_eq_true h
 refine b4a l ?_
 rw[List.length_map]
 by_cases h0:l.t.length=0
 ·refine Ab l ((0:Nat):Int) (ZK (Z4 (by omega)) ?_)
  have:Zd l=[]:=by unfold Zd;rw[List.length_eq_zero_iff.1 h0];rfl
  rw[this]
  exact⟨rfl,rfl⟩
 ·have hlt:0<l.t.length:=by omega
  refine Ab l ((0:Nat):Int) (ZC (ZW hlt) ⟨Zt hlt rfl,Zx hlt ?_⟩)
  have:=FR l h (l.t.length - 1) 1 (by omega) (by omega)
  rw[show(1:Nat)=0+1 from rfl,Jg l hlt]at this
  exact this
theorem b1b: ∀ args os,Jo args os=true->Zc ET os.length (Zo os.length P9 fun r=>r=CO args os) PH [] (YK b8e args os):=by
 intro args os h
 unfold Jo at h
 split at h
 ·rename_i s v m
  simp only[Bool.and_eq_true]at h
  obtain⟨h1,h2⟩:=h
  obtain⟨l,rfl⟩:=Yr h1
  rw[Enc.dec_enc]at h2
  have ev:CO [.pv (.str s),.ptr 0 0] [.box [.pv (enc l),.pv (.int .i64 m)]]=(.pv (.bool (!(l.contains ⟨s⟩))),[.box [.pv (enc l),.pv (.int .i64 m)]],[]):=by
   show(AV.pv (.bool (!((dec (enc l:PV):List Str).contains ⟨s⟩))),_,_)=_
   rw[Enc.dec_enc]
  rw[ev]
  exact c4n s ⟨l,m⟩ ⟨Zj (l,⟨s⟩,()) rfl h2,Zh (l,⟨s⟩,()) rfl rfl⟩
 ·cases h
theorem Np{n m:Nat}{xs:List PV}(h:Ti n m xs=true): ∃ l:List Str,xs=l.map enc∧m=n∧l.length=n∧l.length<=9223372036854775807:=by
 simp only[Ti,Bool.and_eq_true,beq_iff_eq]at h
 obtain⟨⟨⟨h1,h2⟩,h3⟩,h4⟩:=h
 obtain⟨l,hl⟩:=Yr h3
 have hl:PV.sl 1 false xs=PV.sl 1 false (l.map enc):=hl
 injection hl with _ _ hx
 subst hx
 have e:KO (l.map enc)=l:=Enc.dec_enc l
 rw[e]at h4
 exact⟨l,rfl,h1,by simpa using h2,Zy.1 h4⟩
theorem U1(l:List Str):KO (l.map enc)=l:=Enc.dec_enc l
theorem CV{l:List Str}{n:Nat}(hn:l.length=n)(hs:l.length<=9223372036854775807):Ti n n (l.map enc)=true:=by
 have hc:VG (List Str) (.sl 1 false (l.map enc))=true:=ZY l
 simp only[Ti,hc,U1,Zy.2 hs,List.length_map,hn]
 simp
theorem b4d{l:List Str}{i:Nat}(h:i<l.length):List.getD (List.map (enc:Str->PV) l) (0+Int.toNat (i:Int)) default=enc l[i]:=by simp[List.getD,h]
theorem c2p(s:List UInt8)(l:List Str)(m:Int)(h:Zn l=true):Jo [.pv (.str s),.ptr 0 0] [.box [.pv (enc l),.pv (.int .i64 m)]]=true:=by
 show(VG (List Str) (enc l)&&Zn (dec (enc l:PV):List Str))=true
 rw[ZY,Enc.dec_enc,h];rfl
theorem b0g(l:List Str)(n:Nat)(b:BoxT)(hn:l.length=n)(hl:l.length<=9223372036854775807)(hb:Zn b.v=true): ∀ (j i:Nat),j+i=n->(∀ k (h:k<l.length),k<i->(!(b.v.contains l[k]))=false) ->
  At JF 2 (Zo 2 Qx fun r=>r=(.pv (.int .i64 (Zz (fun s:Str=> !(b.v.contains s)) l)),[.row false 9 1 (l.map enc),.box [.pv (enc b.v),.pv (.int .i64 b.m)]],[])) Qa 0 19 [(0,.row 0 n 0 n),(1,.fn 176 [] [.ptr 1 0]),(7,.pv (.int .i64 n)),(8,.pv (.int .i64 i))] [.obj (.row false 9 1 (l.map enc)),.obj (.box [.pv (enc b.v),.pv (.int .i64 b.m)])]:=by
 intro j
 induction j with
 | zero=>
  intro i hi hno
  refine b5l l n b i (ZK (Z4 (by omega)) ?_)
  rw[Qt _ _ (fun k hk=>hno k hk (by omega))]
  rfl
 | succ j ih=>
  intro i hi hno
  have hlt:i<l.length:=by omega
  refine b5l l n b i (ZC (ZW (by omega)) ?_)
  simp only[b4d hlt]
  refine⟨by simp;omega,by simp;omega,rfl,c2p _ _ _ hb,?_⟩
  rw[Enc.dec_enc]
  refine X7 (fun h=> ?_) fun h=> ?_
  ·have h:b.v.contains l[i]=false:=h
   rw[Qp (fun s:Str=> !(b.v.contains s)) l i hlt hno (by rw[h];rfl)]
   rfl
  ·have h:b.v.contains l[i]=true:=h
   rw[next (by omega)]
   refine ih (i+1) (by omega) fun k hk hki=> ?_
   by_cases e:k=i
   ·subst e;rw[h];rfl
   ·exact hno k hk (by omega)
theorem b8w: ∀ args os,Wo 176 args os=true->Zc JF os.length (Zo os.length Qx fun r=>r=CE args os) Qa [] (YK c6u args os):=by
 intro args os h
 unfold Wo at h
 split at h
 ·rename_i n m g ty xs v k
  simp only[Bool.and_eq_true,beq_iff_eq]at h
  obtain⟨⟨⟨⟨rfl,rfl⟩,h3⟩,h4⟩,h5⟩:=h
  obtain⟨l,rfl,rfl,hn,hl⟩:=Np h3
  obtain⟨bv,rfl⟩:=Yr h4
  rw[Enc.dec_enc]at h5
  have ev:CE [.row 0 m 0 m,.fn 176 [] [.ptr 1 0]] [.row false 9 1 (l.map enc),.box [.pv (enc bv),.pv (.int .i64 k)]]=(.pv (.int .i64 (Zz (fun s:Str=> !(bv.contains s)) l)),[.row false 9 1 (l.map enc),.box [.pv (enc bv),.pv (.int .i64 k)]],[]):=by
   show(AV.pv (.int .i64 (Zz (fun s:Str=> !((dec (enc bv:PV):List Str).contains s)) (KO (l.map enc)))),_,_)=_
   rw[Enc.dec_enc,U1]
  rw[ev]
  exact c8f l m ⟨bv,k⟩ (b0g l m ⟨bv,k⟩ hn hl h5 m 0 rfl fun k _ h=>by omega)
 ·rename_i g v k
  simp only[Bool.and_eq_true,beq_iff_eq]at h
  obtain⟨⟨rfl,h4⟩,h5⟩:=h
  obtain⟨bv,rfl⟩:=Yr h4
  exact c9e ⟨bv,k⟩ (c3w ⟨bv,k⟩ 0 (ZK (by decide) rfl))
 ·cases h
theorem b9y: ∀ args os,Wo 176 args os=true->Zc a2t os.length (Zo os.length P5 fun r=>r=R7 args os) BH [] (YK c7u args os):=by
 intro args os h
 have h0:=h
 unfold Wo at h
 split at h
 ·rename_i n m g ty xs v k
  simp only[Bool.and_eq_true,beq_iff_eq]at h
  obtain⟨⟨⟨⟨rfl,rfl⟩,h3⟩,h4⟩,h5⟩:=h
  obtain⟨l,rfl,rfl,hn,hl⟩:=Np h3
  obtain⟨bv,rfl⟩:=Yr h4
  refine c8o l m ⟨bv,k⟩ ⟨h0,?_⟩
  rw[XU]
  rfl
 ·rename_i g v k
  simp only[Bool.and_eq_true,beq_iff_eq]at h
  obtain⟨⟨rfl,h4⟩,h5⟩:=h
  obtain⟨bv,rfl⟩:=Yr h4
  exact c9o ⟨bv,k⟩ ⟨h0,rfl⟩
 ·cases h
def J5(fs:List Fact):List Str:=fs.flatMap fun f=>Zd f.l
theorem KA{fs:List Fact}{i:Nat}(h:i<fs.length):J5 (fs.take (i+1))=J5 (fs.take i)++Zd fs[i].l:=by
 unfold J5
 rw[List.take_succ_eq_append_getElem h,List.flatMap_append];simp
theorem Qr{fs:List Fact}(hv:Yq fs=true){i:Nat}(hi:i<fs.length):(Zd fs[i].l).length<=12:=by
 unfold Zd
 rw[List.length_map]
 unfold Yq at hv
 exact RS (List.all_eq_true.1 hv _ (List.getElem_mem hi))
theorem Gq{fs:List Fact}(hv:Yq fs=true): ∀ i,i<=fs.length->(J5 (fs.take i)).length<=12*i
 | 0,_=>by simp[J5]
 | i+1,h=>by
  rw[KA (by omega),List.length_append]
  have:=Gq hv i (by omega)
  have:=Qr hv (i:=i) (by omega)
  omega
def inE(vs:List Str)(ns:List Str):Int:=if YG vs ns then 0 else 7
theorem TY(vs ns:List Str):(ns.any fun s=> !(vs.contains s)) = !(YG vs ns):=by
 unfold YG
 induction ns with
 | nil=>rfl
 | cons s r ih=>simp only[List.any_cons,List.all_cons,ih,Bool.not_and]
theorem PR(b:BoxT)(fs:List Fact)(ok:Bool)(l:List Str)(hb:Zn b.v=true)(hf:Zk fs=true)(hv:Yq fs=true)(hfl:fs.length<=100)(hl:l.length<=1000)(n:Nat)(ls:List Str): ∀ (k i:Nat),k+i=fs.length ->
  At Yx 1 (Zo 1 Yc fun r=>r=(.pv (.int .i64 (inE b.v (l++J5 fs))),[.row false 9 1 ((l++J5 fs).map enc)],[])) Yd 0 38 [(3,.row 0 (l++J5 (fs.take i)).length 0 (l++J5 (fs.take i)).length),(4,.ptr 1 0),(23,.pv (enc fs)),(24,.pv (.int .i64 fs.length)),(25,.pv (.int .i64 i))] [.obj (.row false 9 1 ((l++J5 (fs.take i)).map enc)),.obj (.box [.pv (enc b.v),.pv (.int .i64 b.m)])]:=by
 intro k
 induction k with
 | zero=>
  intro i hi
  have hn:=Gq hv i (by omega)
  have hd:fs.take i=fs:=List.take_of_length_le (by omega)
  rw[hd]at hn ⊢
  refine Br b fs ok n ls i _ (l++J5 fs) (ZK (Z4 (by omega)) ⟨?_,?_⟩)
  ·show(176==176&&9==9&&Ti _ _ _&&VG (List Str) (enc b.v)&&Zn (dec (enc b.v:PV):List Str))=true
   rw[CV rfl (by rw[List.length_append];omega),ZY,Enc.dec_enc,hb];rfl
  ·rw[U1,Enc.dec_enc,TY]
   unfold inE
   refine X7 (fun h=> ?_) fun h=> ?_
   ·rw[h];rfl
   ·rw[h];rfl
 | succ k ih=>
  intro i hi
  have hlt:i<fs.length:=by omega
  have hn:=Gq hv i (by omega)
  have hnb:=Qr hv hlt
  have hnm:(Zd fs[i].l).length=fs[i].l.t.length:=by unfold Zd;rw[List.length_map]
  refine Br b fs ok n ls i _ (l++J5 (fs.take i)) (ZC (ZW hlt) ⟨Zt hlt rfl,Zx hlt ⟨Zj (fs[i].l,()) rfl (decide_eq_true (by show fs[i].l.t.length<=_;omega)),Zh (fs[i].l,()) rfl ⟨by simp,SB (by rw[List.length_map]) (by rw[List.length_map,List.length_append];show(_+(Zd fs[i].l).length)*16<=_;omega) (by rw[List.length_map,List.length_append];show _+(Zd fs[i].l).length<=_;omega),?_⟩⟩⟩)
  have:=ih (i+1) (by omega)
  rw[KA hlt,<- List.append_assoc,show(l++J5 (fs.take i)++Zd fs[i].l).map (enc:Str->PV)=(l++J5 (fs.take i)).map enc++(Zd fs[i].l).map enc from List.map_append,List.length_append (as:=l++J5 (fs.take i)),<- next (by omega)]at this
  rw[List.length_map]
  exact this
theorem F5: ∀ args os,UF args os=true->Zc Yx os.length (Zo os.length Yc fun r=>r=Kg args os) Yd [] (YK Rz args os):=by
 intro args os h
 unfold UF at h
 split at h
 ·rename_i b0 f0 ok n m ty xs
  simp only[Bool.and_eq_true,beq_iff_eq,decide_eq_true_eq,Bool.not_eq_true']at h
  obtain⟨⟨⟨⟨⟨⟨⟨⟨⟨h1,h2⟩,rfl⟩,h4⟩,h5⟩,h6⟩,h7⟩,h8⟩,h9⟩,h10⟩:=h
  obtain⟨b,rfl⟩:=Yr h1
  obtain⟨fs,rfl⟩:=Yr h2
  obtain⟨l,rfl,rfl,hn,hl⟩:=Np h4
  rw[Enc.dec_enc]at h7 h8 h9
  rw[List.length_map]at h10
  have ev:Kg [.pv (enc b),.pv (enc fs),.pv (.bool ok),.row 0 m 0 m] [.row false 9 1 (l.map enc)]=(.pv (.int .i64 (Zp b fs ok l)),[.row false 9 1 ((ckV b fs ok l).map enc)],[]):=by
   show(AV.pv (.int .i64 (Zp (dec (enc b:PV)) (dec (enc fs:PV)) ok (KO (l.map enc)))),[AObj.row false 9 1 ((ckV (dec (enc b:PV)) (dec (enc fs:PV)) ok (KO (l.map enc))).map enc)],_)=_
   rw[Enc.dec_enc,Enc.dec_enc,U1]
  rw[ev]
  have hb:Zn b.v=true:=by simp only[ZG,WC,Bool.and_eq_true]at h7;exact h7.1
  refine a4p b fs ok m l ⟨Zj (b,()) rfl h7,Zh (b,()) rfl (X7 (fun h=> ?_) fun hbv=>⟨Zj (fs,()) rfl h8,Zh (fs,()) rfl (X7 (fun h=> ?_) fun hfv=>X7 (fun h=> ?_) fun hok=> ?_)⟩)⟩
  ·have h:YI b=false:=h
   simp[Zp,ckV,h]
  ·have h:Yq fs=false:=h
   simp[Zp,ckV,h]
  ·have h:ok=false:=h
   simp[Zp,ckV,h]
  ·have hbv:YI b=true:=hbv
   have hfv:Yq fs=true:=hfv
   have hok:ok=true:=hok
   have e1:Zp b fs ok l=inE b.v (l++J5 fs):=by unfold Zp;rw[hbv,hfv,hok];rfl
   have e2:ckV b fs ok l=l++J5 fs:=by unfold ckV;rw[hbv,hfv,hok];rfl
   rw[e1,e2,List.length_map]
   have:=PR b fs ok l hb h8 hfv h9 (by omega) m l fs.length 0 (by omega)
   rw[List.take_zero]at this
   have e0:l++J5 []=l:=by simp[J5]
   rw[e0,hn]at this
   exact this
 ·cases h
theorem Mv(b:BoxT)(fs:List Fact)(ok:Bool)(hb:Zn b.v=true)(hf:Zk fs=true)(hv:Yq fs=true)(hfl:fs.length<=100): ∀ (k i:Nat),k+i=fs.length ->
  At Yx 0 (Za Yc (Zg (inE b.v (J5 fs)))) Yd 0 38 [(3,.row 0 (J5 (fs.take i)).length 0 (J5 (fs.take i)).length),(4,.ptr 1 0),(23,.pv (enc fs)),(24,.pv (.int .i64 fs.length)),(25,.pv (.int .i64 i))] [.obj (.row false 9 1 ((J5 (fs.take i)).map enc)),.obj (.box [.pv (enc b.v),.pv (.int .i64 b.m)])]:=by
 intro k
 induction k with
 | zero=>
  intro i hi
  have hn:=Gq hv i (by omega)
  have hd:fs.take i=fs:=List.take_of_length_le (by omega)
  rw[hd]at hn ⊢
  refine BI b fs ok i _ (J5 fs) (ZK (Z4 (by omega)) ⟨?_,?_⟩)
  ·show(176==176&&9==9&&Ti _ _ _&&VG (List Str) (enc b.v)&&Zn (dec (enc b.v:PV):List Str))=true
   rw[CV rfl (by omega),ZY,Enc.dec_enc,hb];rfl
  ·rw[U1,Enc.dec_enc,TY]
   unfold inE
   refine X7 (fun h=> ?_) fun h=> ?_
   ·rw[h];exact⟨rfl,rfl⟩
   ·rw[h];exact⟨rfl,rfl⟩
 | succ k ih=>
  intro i hi
  have hlt:i<fs.length:=by omega
  have hn:=Gq hv i (by omega)
  have hnb:=Qr hv hlt
  have hnm:(Zd fs[i].l).length=fs[i].l.t.length:=by unfold Zd;rw[List.length_map]
  refine BI b fs ok i _ (J5 (fs.take i)) (ZC (ZW hlt) ⟨Zt hlt rfl,Zx hlt ⟨Zj (fs[i].l,()) rfl (decide_eq_true (by show fs[i].l.t.length<=_;omega)),Zh (fs[i].l,()) rfl ⟨by simp,SB (by rw[List.length_map]) (by rw[List.length_map];show(_+(Zd fs[i].l).length)*16<=_;omega) (by rw[List.length_map];show _+(Zd fs[i].l).length<=_;omega),?_⟩⟩⟩)
  have:=ih (i+1) (by omega)
  rw[KA hlt,show(J5 (fs.take i)++Zd fs[i].l).map (enc:Str->PV)=(J5 (fs.take i)).map enc++(Zd fs[i].l).map enc from List.map_append,List.length_append (as:=J5 (fs.take i)),<- next (by omega)]at this
  rw[List.length_map]
  exact this
theorem Ov(b:BoxT)(fs:List Fact)(ok:Bool)(hb:Zn b.v=true)(hf:Zk fs=true)(hv:Yq fs=true)(hfl:fs.length<=100): ∀ (k i:Nat),k+i=fs.length->J5 (fs.take i)=[] ->
  At Yx 0 (Za Yc (Zg (inE b.v (J5 fs)))) Yd 0 38 [(3,.pv (.sl 0 true [])),(4,.ptr 0 0),(23,.pv (enc fs)),(24,.pv (.int .i64 fs.length)),(25,.pv (.int .i64 i))] [.obj (.box [.pv (enc b.v),.pv (.int .i64 b.m)])]:=by
 intro k
 induction k with
 | zero=>
  intro i hi h0
  have hd:fs.take i=fs:=List.take_of_length_le (by omega)
  rw[hd]at h0
  refine Sn b fs ok i (ZK (Z4 (by omega)) ⟨?_,?_⟩)
  ·show(176==176&&VG (List Str) (enc b.v)&&Zn (dec (enc b.v:PV):List Str))=true
   rw[ZY,Enc.dec_enc,hb];rfl
  ·rw[h0]
   exact⟨rfl,rfl⟩
 | succ k ih=>
  intro i hi h0
  have hlt:i<fs.length:=by omega
  have hnb:=Qr hv hlt
  have hnm:(Zd fs[i].l).length=fs[i].l.t.length:=by unfold Zd;rw[List.length_map]
  refine Sn b fs ok i (ZC (ZW hlt) ⟨Zt hlt rfl,Zx hlt ⟨Zj (fs[i].l,()) rfl (decide_eq_true (by show fs[i].l.t.length<=_;omega)),Zh (fs[i].l,()) rfl ⟨by simp,X3 (fun h=> ?_) fun h=>⟨?_,?_⟩⟩⟩⟩)
  ·have h:Zd fs[i].l=[]:=by simpa using h
   rw[next (by omega)]
   exact ih (i+1) (by omega) (by rw[KA hlt,h0,h];rfl)
  ·rw[List.length_map]
   show(true&&decide ((0+(Zd fs[i].l).length)*16<=1099511627776)&&decide (0+(Zd fs[i].l).length<=1099511627776))=true
   rw[decide_eq_true (by omega),decide_eq_true (by omega)];rfl
  ·have:=Mv b fs ok hb hf hv hfl k (i+1) (by omega)
   rw[KA hlt,h0,List.nil_append,<- next (by omega)]at this
   rw[List.length_map]
   show At Yx 0 _ Yd 0 38 [(3,.row 0 (0+(Zd fs[i].l).length) 0 (0+(Zd fs[i].l).length)),_,_,_,_] _
   rw[Nat.zero_add]
   exact this
theorem EJ: ∀ a:BoxT×List Fact×Bool×NilS×Unit,(ZG a.1&&Zk a.2.1&&decide (a.2.1.length<=100))=true->Zc Yx 0 (Za Yc (Zg (Zp a.1 a.2.1 a.2.2.1 []))) Yd [] (Ye Rz (encL a)):=by
 rintro⟨b,fs,ok,⟨⟩,⟨⟩⟩ h
 simp only[Bool.and_eq_true,decide_eq_true_eq]at h
 obtain⟨⟨h7,h8⟩,h9⟩:=h
 have hb:Zn b.v=true:=by have:=h7;simp only[ZG,WC,Bool.and_eq_true]at this;exact this.1
 show Zc Yx 0 (Za Yc (Zg (Zp b fs ok []))) _ _ _
 refine b2i b fs ok ⟨Zj (b,()) rfl h7,Zh (b,()) rfl (X7 (fun h=> ?_) fun hbv=>⟨Zj (fs,()) rfl h8,Zh (fs,()) rfl (X7 (fun h=> ?_) fun hfv=>X7 (fun h=> ?_) fun hok=> ?_)⟩)⟩
 ·have h:YI b=false:=h
  exact Uu (by simp[Zp,h])
 ·have h:Yq fs=false:=h
  exact Uu (by simp[Zp,h])
 ·have h:ok=false:=h
  exact Uu (by simp[Zp,h])
 ·have hbv:YI b=true:=hbv
  have hfv:Yq fs=true:=hfv
  have hok:ok=true:=hok
  have e1:Zp b fs ok []=inE b.v (J5 fs):=by unfold Zp;rw[hbv,hfv,hok];rfl
  rw[e1,List.length_map]
  exact Ov b fs ok hb h8 hfv h9 fs.length 0 (by omega) rfl
end Go.Pl

namespace Go.Pl
open Go.RowKit
open Enc (enc dec is)
open EncL (encL decL isL)
theorem FT(s:List UInt8)(hs:s.length<=281474976710656): ∀ (m i:Nat),m+i=s.length->At XM 0 (Za Xi (Zg (XC s i))) Xj 0 67 [(0,.pv (.str s)),(34,.pv (.sl 1 false (Zw s))),(35,.pv (.int .i64 (Zw s).length)),(36,.pv (.int .i64 i))] []:=by
 intro m
 induction m with
 | zero=>
  intro i hi
  have e:XC s i=(!(s==[])&&decide (s.length<=30)):=by
   unfold XC
   cases i with
   | zero=>cases s with
    | nil=>rfl
    | cons c r=>simp at hi
   | succ i=>simp only;rw[List.drop_of_length_le (show s.length<=i+1 by omega)];simp
  rw[e]
  refine R5 s i (ZK (Z4 (by rw[UI];omega)) (X3 (fun h=>ZM ?_) fun h=>ZM ?_))
  ·rw[h,Bool.true_and];exact decide_eq_decide.2 (by omega)
  ·rw[h,Bool.false_and]
 | succ m ih=>
  intro i hi
  have hlt:i<s.length:=by omega
  have h:=ih (i+1) (by omega)
  refine R5 s i ?_
  rw[FK hlt,next (by omega)]
  have stop:(WM s[i]=false∧(i=0∨Wm s[i]=false))->Zg (XC s i) (.bool false):=fun hb=>ZM (Ry hlt hb).symm
  have go:(WM s[i]=true∨(i≠0∧Wm s[i]=true))->At XM 0 (Za Xi (Zg (XC s i))) Xj 0 67 [(0,.pv (.str s)),(34,.pv (.sl 1 false (Zw s))),(35,.pv (.int .i64 (Zw s).length)),(36,.pv (.int .i64 ((i+1:Nat):Int)))] []:=fun hb=>by rw[RA hlt hb];exact h
  have rest:WM s[i]=false->(if ((i:Int)==0)=true then Zg (XC s i) (.bool false)else if decide ((s[i].toNat:Int)<48)=true then Zg (XC s i) (.bool false)else if decide ((s[i].toNat:Int)>57)=true then Zg (XC s i) (.bool false)else At XM 0 (Za Xi (Zg (XC s i))) Xj 0 67 [(0,.pv (.str s)),(34,.pv (.sl 1 false (Zw s))),(35,.pv (.int .i64 (Zw s).length)),(36,.pv (.int .i64 ((i+1:Nat):Int)))] []):=by
   intro hl
   refine Ka (fun h0=>stop ⟨hl,.inl (by omega)⟩) fun h0=>WJ (fun h1=>stop ⟨hl,.inr (Jh (by omega))⟩) fun h1=>WJ (fun h2=>stop ⟨hl,.inr (Jh (by omega))⟩) fun h2=>go (.inr ⟨by omega,Vs.2 (by omega)⟩)
  refine ZC (ZW (by rw[UI];exact hlt)) ⟨by rw[UI];simp[hlt],by rfl,?_⟩
  refine WJ (fun h1=>rest (Jk ?_)) fun h1=>WJ (fun h2=>rest (Jk ?_)) fun h2=>go (.inl (Pg.2 ?_))
  ·have h1:(s[i].toNat:Int)<97:=h1
   omega
  ·have h2:(s[i].toNat:Int)>122:=h2
   omega
  ·have h1 : ¬ (s[i].toNat:Int)<97:=h1
   have h2 : ¬ (s[i].toNat:Int)>122:=h2
   omega
theorem a0o: ∀ a:Str×Unit,decide (a.1.s.length<=281474976710656)=true->Zc XM 0 (Za Xi (Zg (ZE a.1))) Xj [] (Ye a3v (encL a)):=by
 rintro⟨⟨s⟩,⟨⟩⟩ hl
 have hl:s.length<=281474976710656:=by simpa using hl
 refine b6c s (Zh (⟨s⟩,⟨[95]⟩,()) rfl (X3 (fun h=> ?_) fun h=> ?_))
 ·have h:[95].isPrefixOf s=true:=h
  obtain⟨r,rfl⟩ : ∃ r,s=95::r:=by
   cases s with
   | nil=>simp at h
   | cons c r=>
    have:95=c:=by simpa using h
    exact⟨r,by rw[this]⟩
  have e1:List.drop (Int.toNat 1) (List.take (List.length (95::r)) (95::r))=r:=by rw[List.take_of_length_le (Nat.le_refl _)];rfl
  simp only[e1]
  refine⟨by simp,Zj (⟨r⟩,()) rfl (by simp at hl ⊢;omega),Zh (⟨r⟩,()) rfl ⟨by show(Ak (enc (Yw ⟨r⟩).2)&&true)=true;rw[c3i];rfl,?_⟩⟩
  show if UK (enc (Yw ⟨r⟩).2)=true then(if decide ((Yw ⟨r⟩).1>0)=true then(if _ then _ else Zg (ZE ⟨95::r⟩) _)else Zg (ZE ⟨95::r⟩) _)else Zg (ZE ⟨95::r⟩) _
  rw[Mf]
  by_cases h9:r.length<=9
  ·rw[<- a1y r h9,decide_eq_true h9,Bool.and_true]
   refine X3 (fun h1=>X3 (fun h2=>ZC (by simp;omega) ⟨Zj ((Yw ⟨r⟩).1,()) rfl (by have:=Bp ⟨r⟩;simp;omega),Zh ((Yw ⟨r⟩).1,()) rfl ⟨by simp,ZM ?_⟩⟩) fun h2=>ZM ?_) fun h1=>ZM ?_
   ·rw[h1,h2];simp only[Bool.true_and,Bool.and_true];rfl
   ·rw[h2];simp
   ·rw[h1];simp
  ·rw[decide_eq_false h9,Bool.and_false]
   refine X3 (fun h1=>X3 (fun h2=>ZK (by simp;omega) (ZM rfl)) fun h2=>ZM rfl) fun h1=>ZM rfl
 ·have h:[95].isPrefixOf s=false:=h
  show At XM 0 (Za Xi (Zg (ZE ⟨s⟩))) Xj 0 67 _ _
  rw[TM h]
  exact FT s hl s.length 0 (by omega)
end Go.Pl

