/-
  Texts of mine that belong together (packed by pack.py), for every input: TyL, TyM, TyN, TyT, TyO, TyS, GLb, GLa, QLa, QLb, GLc, QLc, GLd, QLd, TyU, QLh, QLm, GLe, QLe, GLg, QLg, QLf, GLi, GL1, QL1, QL2, QLi, QLj, QL3, QL4, GL5, QL5, GL7, QL7, TyR, GLr, QRp, QRq, TyRa, GRa, QGa, GRb, TyP, GLo, QLq, QGb, QGc.
-/
import Derived.Test.YtjfgiaooglnomaaGreatDoorKH2
import Derived.KernelRfl
import Derived.Lib.AtoiAllMem
import Derived.Lib.AtoiAllCases
import Derived.Lib.ItoaNum
set_option linter.unusedVariables false
set_option linter.unusedSimpArgs false
namespace Go.Pl
open Go.RowKit
open Enc (enc dec is)
open EncL (encL decL isL)
structure Coef where
 v:Str
 c:Int
 deriving DecidableEq
instance:Enc Coef where
 sz:=2
 enc x:=.agg [enc x.v,enc x.c]
 dec | .agg [a,b]=>⟨dec a,dec b⟩|_=>⟨⟨[]⟩,0⟩
 is | .agg [a,b]=>is Str a&&is Int b|_=>false
 is_enc v:=by simp
 dec_enc v:=by simp
 sub p h:=by
  cases p with
  | agg xs=>
   match xs,h with
   | [a,b],h=>
    simp only[Bool.and_eq_true]at h
    exact .agg (.cons (Enc.sub a h.1).2 (.cons (Enc.sub b h.2).2 .nil))
  | _=>cases h
structure Lin where
 k:Int
 t:List Coef
 deriving DecidableEq
instance:Enc Lin where
 sz:=2
 enc x:=.agg [enc x.k,enc x.t]
 dec | .agg [a,b]=>⟨dec a,dec b⟩|_=>⟨0,[]⟩
 is | .agg [a,b]=>is Int a&&is (List Coef) b|_=>false
 is_enc v:=by simp
 dec_enc v:=by simp
 sub p h:=by
  cases p with
  | agg xs=>
   match xs,h with
   | [a,b],h=>
    simp only[Bool.and_eq_true]at h
    exact .agg (.cons (Enc.sub a h.1).2 (.cons (Enc.sub b h.2).2 .nil))
  | _=>cases h
@[simp] theorem c5a (a b : PV) : is Coef (.agg [a, b]) = (is Str a && is Int b) := rfl
@[simp] theorem c3v (a b : PV) : (dec (.agg [a, b]) : Coef) = ⟨dec a, dec b⟩ := rfl
@[simp] theorem c5u (a b : PV) : is Lin (.agg [a, b]) = (is Int a && is (List Coef) b) := rfl
@[simp] theorem c5d (a b : PV) : (dec (.agg [a, b]) : Lin) = ⟨dec a, dec b⟩ := rfl
def XQ(c:UInt8):Bool:=decide (48<=c)&&decide (c<=57)
def Wi(c:UInt8):Bool:=decide (97<=c)&&decide (c<=122)
def ZA(s:Str):Bool:=match s.s with
 | []=>false
 | c::r=>if c=95 then r.all XQ&& !r.isEmpty&&decide (r.head? ≠ some 48)&&decide (r.length<=9)else Wi c&&r.all (fun c=>Wi c||XQ c)&&decide (r.length<=29)
def Yy(n:Int):Bool:=decide (-1000000<=n)&&decide (n<=1000000)
def Aa:List Coef->Bool
 | a::b::l=>decide (a.v.s<b.v.s)&&Aa (b::l)
 | _=>true
def Zw(l:Lin):Bool:=l.t.all (fun t=>ZA t.v&&decide (t.c≠0)&&Yy t.c)&&Aa l.t&&Yy l.k&&decide (l.t.length<=12)
def atM(m:List (Str×Int))(s:List UInt8):Int:=((m.find? fun p=>p.1.s==s).map (·.2)).getD 0
end Go.Pl

namespace Go.Pl
open Go.RowKit
open Enc (enc dec is)
open EncL (encL decL isL)
structure Fact where
 eq:Bool
 l:Lin
 deriving DecidableEq
instance:Enc Fact where
 sz:=3
 enc x:=.agg [enc x.eq,enc x.l.k,enc x.l.t]
 dec | .agg [a,b,c]=>⟨dec a,⟨dec b,dec c⟩⟩|_=>⟨false,⟨0,[]⟩⟩
 is | .agg [a,b,c]=>is Bool a&&is Int b&&is (List Coef) c|_=>false
 is_enc v:=by simp
 dec_enc v:=by simp
 sub p h:=by
  cases p with
  | agg xs=>
   match xs,h with
   | [a,b,c],h=>
    simp only[Bool.and_eq_true]at h
    exact .agg (.cons (Enc.sub a h.1.1).2 (.cons (Enc.sub b h.1.2).2 (.cons (Enc.sub c h.2).2 .nil)))
  | _=>cases h
@[simp] theorem c4w (a b c : PV) : is Fact (.agg [a, b, c]) = (is Bool a && is Int b && is (List Coef) c) := rfl
@[simp] theorem c4o (a b c : PV) : (dec (.agg [a, b, c]) : Fact) = ⟨dec a, ⟨dec b, dec c⟩⟩ := rfl
structure Bnd where
 kind:Int
 v:Str
 dim:Lin
 row:Str
 dims:List Lin
 elem:Str
 deriving DecidableEq
instance:Enc Bnd where
 sz:=7
 enc x:=.agg [enc x.kind,enc x.v,enc x.dim.k,enc x.dim.t,enc x.row,enc x.dims,enc x.elem]
 dec | .agg [a,b,c,d,e,f,g]=>⟨dec a,dec b,⟨dec c,dec d⟩,dec e,dec f,dec g⟩|_=>⟨0,⟨[]⟩,⟨0,[]⟩,⟨[]⟩,[],⟨[]⟩⟩
 is | .agg [a,b,c,d,e,f,g]=>is Int a&&is Str b&&is Int c&&is (List Coef) d&&is Str e&&is (List Lin) f&&is Str g|_=>false
 is_enc v:=by simp
 dec_enc v:=by simp
 sub p h:=by
  cases p with
  | agg xs=>
   match xs,h with
   | [a,b,c,d,e,f,g],h=>
    simp only[Bool.and_eq_true]at h
    exact .agg (.cons (Enc.sub a h.1.1.1.1.1.1).2 (.cons (Enc.sub b h.1.1.1.1.1.2).2 (.cons (Enc.sub c h.1.1.1.1.2).2 (.cons (Enc.sub d h.1.1.1.2).2 (.cons (Enc.sub e h.1.1.2).2 (.cons (Enc.sub f h.1.2).2 (.cons (Enc.sub g h.2).2 .nil)))))))
  | _=>cases h
@[simp] theorem c5w (a b c d e f g : PV) : is Bnd (.agg [a, b, c, d, e, f, g]) = (is Int a && is Str b && is Int c && is (List Coef) d && is Str e && is (List Lin) f && is Str g) := rfl
@[simp] theorem c5e (a b c d e f g : PV) : (dec (.agg [a, b, c, d, e, f, g]) : Bnd) = ⟨dec a, dec b, ⟨dec c, dec d⟩, dec e, dec f, dec g⟩ := rfl
inductive Cert where
 | mk (kind:Int) (mults:List Int) (lin:Lin) (kids:List Cert)
mutual
def Q5:Cert->PV
 | .mk k m l ks=>.agg [enc k,enc m,enc l.k,enc l.t,.sl 5 false (XM ks)]
def XM:List Cert->List PV
 | []=>[]
 | c::cs=>Q5 c::XM cs
end
mutual
def Jw:PV->Cert
 | .agg [a,b,c,d,.sl _ _ ks]=>.mk (dec a) (dec b) ⟨dec c,dec d⟩ (WN ks)
 | _=>.mk 0 [] ⟨0,[]⟩ []
def WN:List PV->List Cert
 | []=>[]
 | p::ps=>Jw p::WN ps
end
mutual
def UG:PV->Bool
 | .agg [a,b,c,d,.sl s _ ks]=>is Int a&&is (List Int) b&&is Int c&&is (List Coef) d&&(ks.isEmpty||s==5)&&UQ ks
 | _=>false
def UQ:List PV->Bool
 | []=>true
 | p::ps=>UG p&&UQ ps
end
theorem FQ(cs:List Cert):XM cs=cs.map Q5:=by
 induction cs with
 | nil=>simp[XM]
 | cons c cs ih=>simp[XM,ih]
theorem Lf(cs:List PV):WN cs=cs.map Jw:=by
 induction cs with
 | nil=>simp[WN]
 | cons c cs ih=>simp[WN,ih]
theorem FI(cs:List PV):UQ cs=cs.all UG:=by
 induction cs with
 | nil=>simp[UQ]
 | cons c cs ih=>simp[UQ,ih]
mutual
theorem Eu: ∀ c:Cert,UG (Q5 c)=true
 | .mk k m l ks=>by
  have h:=Nq ks
  simp only[Q5,UG,Enc.is_enc,Bool.true_and,Bool.and_eq_true,h,and_true]
  simp
theorem Nq: ∀ cs:List Cert,UQ (XM cs)=true
 | []=>by simp[XM,UQ]
 | c::cs=>by simp[XM,UQ,Eu c,Nq cs]
end
mutual
theorem OH: ∀ c:Cert,Jw (Q5 c)=c
 | .mk k m l ks=>by
  have h:=Nw ks
  simp only[Q5,Jw,Enc.dec_enc,h]
theorem Nw: ∀ cs:List Cert,WN (XM cs)=cs
 | []=>by simp[XM,WN]
 | c::cs=>by simp[XM,WN,OH c,Nw cs]
end
mutual
theorem ME: ∀ p:PV,UG p=true->UK p (Q5 (Jw p))
 | .agg [a,b,c,d,.sl s t ks],h=>by
  simp only[UG,Bool.and_eq_true]at h
  obtain⟨⟨⟨⟨⟨h1,h2⟩,h3⟩,h4⟩,h5⟩,h6⟩:=h
  have hk:=Tf ks h6
  simp only[Jw,Q5]
  refine .agg (.cons (Enc.sub a h1).2 (.cons (Enc.sub b h2).2 (.cons (Enc.sub c h3).2 (.cons (Enc.sub d h4).2 (.cons ?_ .nil)))))
  simp only[Bool.or_eq_true,List.isEmpty_iff,beq_iff_eq]at h5
  rcases h5 with rfl|rfl
  ·simp only[WN,XM]
   exact(UK.sl0 _ _ _).2
  ·exact(UK.sl hk.1 hk.2).2
 | .bool _,h | .int _ _,h | .str _,h | .sl _ _ _,h | .tup _,h | .nilp,h | .nilmap,h | .nilfn,h | .nili,h | .ifc,h | .fn _,h | .rptr _,h=>by simp[UG]at h
 | .agg [],h | .agg [_],h | .agg [_,_],h | .agg [_,_,_],h | .agg [_,_,_,_],h=>by simp[UG]at h
 | .agg (a::b::c::d::e::f::g),h=>by
  have h':UG (.agg (a::b::c::d::e::f::g))=false:=by cases e <;> kernel_rfl
  rw[h']at h;cases h
 | .agg [_,_,_,_,.bool _],h | .agg [_,_,_,_,.int _ _],h | .agg [_,_,_,_,.str _],h | .agg [_,_,_,_,.agg _],h | .agg [_,_,_,_,.tup _],h | .agg [_,_,_,_,.nilp],h | .agg [_,_,_,_,.nilmap],h | .agg [_,_,_,_,.nilfn],h | .agg [_,_,_,_,.nili],h | .agg [_,_,_,_,.ifc],h | .agg [_,_,_,_,.fn _],h | .agg [_,_,_,_,.rptr _],h=>by simp[UG]at h
theorem Tf: ∀ ps:List PV,UQ ps=true->ps.length=(XM (WN ps)).length∧ ∀ (j:Nat) x y,ps[j]? = some x->(XM (WN ps))[j]? = some y->UK x y
 | [],_=>⟨by simp[WN,XM],fun j x y h=>by simp at h⟩
 | p::ps,h=>by
  simp only[UQ,Bool.and_eq_true]at h
  have h1:=ME p h.1
  have h2:=Tf ps h.2
  refine⟨by simp[WN,XM,<- h2.1],fun j x y hx hy=> ?_⟩
  simp only[WN,XM]at hy
  cases j with
  | zero=>simp at hx hy;subst hx hy;exact h1
  | succ j=>exact h2.2 j x y (by simpa using hx) (by simpa using hy)
end
instance:Enc Cert where
 sz:=5
 enc:=Q5
 dec:=Jw
 is:=UG
 is_enc:=Eu
 dec_enc:=OH
 sub:=ME
abbrev Cert.kind:Cert->Int | .mk k _ _ _=>k
abbrev Cert.mults:Cert->List Int | .mk _ m _ _=>m
abbrev Cert.lin:Cert->Lin | .mk _ _ l _=>l
abbrev Cert.kids:Cert->List Cert | .mk _ _ _ k=>k
theorem VN(k:Int)(m:List Int)(l:Lin)(ks:List Cert):(enc (Cert.mk k m l ks):PV) = .agg [enc k,enc m,enc l.k,enc l.t,enc ks]:=by
 show Q5 _=_
 rw[Q5,FQ]
 rfl
@[simp] theorem c5c (a b c d e : PV) : is Cert (.agg [a, b, c, d, e]) = (is Int a && is (List Int) b && is Int c && is (List Coef) d && is (List Cert) e) := by
 show UG _=_
 cases e <;> simp only[UG] <;> try (simp[is];done)
 rename_i s t ks
 rw[FI]
 show _=(_&&((ks.isEmpty||s==5)&&ks.all UG))
 rw[Bool.and_assoc]
@[simp] theorem c3u (a b c d e : PV) (h : is (List Cert) e = true) : (dec (.agg [a, b, c, d, e]) : Cert) = .mk (dec a) (dec b) ⟨dec c, dec d⟩ (dec e) := by
 show Jw _=_
 cases e <;> try (cases h;done)
 rw[Jw,Lf]
 rfl
end Go.Pl

namespace Go.Pl
open Enc (enc dec is)
structure Er where
 b:Bool
 deriving DecidableEq
instance:Enc Er where
 sz:=1
 enc x:=if x.b then .ifc else .nili
 dec | .ifc=>⟨true⟩|_=>⟨false⟩
 is | .ifc=>true | .nili=>true|_=>false
 is_enc v:=by obtain⟨b⟩:=v;cases b <;> rfl
 dec_enc v:=by obtain⟨b⟩:=v;cases b <;> rfl
 sub p h:=by cases p <;> first|exact .refl _|cases h
def Yo(s:Str):Int×Er:=match Lib.atoiAll s.s with
 | .ok v=>(v,⟨false⟩)
 | .range=>(Lib.atoiSat s.s,⟨true⟩)
 | _=>(0,⟨true⟩)
def Ng(n:Int):Str:=⟨Lib.itoa n⟩
def J6(l:Lin)(n:Int):Bool:=l.t.all (fun t=>decide (t.v.s.length<=40))&&decide ((l.t.length:Int)<=n)
abbrev Cu(n:Int):Int:=IntKind.i64.wrap n
def WV(s:Str)(c:Int):Bool->List Coef->List Coef
 | put,[]=>if put then []else [⟨s,c⟩]
 | put,t::r=>(if !put&&decide (s.s<t.v.s)then [⟨s,c⟩]else [])++(if t.v=s then⟨t.v,Cu (t.c+c)⟩::WV s c true r else t::WV s c (put||decide (s.s<t.v.s)) r)
def Q7(l:Lin)(s:Str)(c:Int):Lin:=⟨l.k,(WV s c false l.t).filter fun t=>decide (t.c≠0)⟩
def Uz(v:List Coef)(s:Str):Option Int:=(v.find? fun t=>decide (t.v=s)).map (·.c)
def QX(v:List Coef):Int->List Coef->Int×Int
 | n,[]=>(n,0)
 | n,t::r=>match Uz v t.v with
  | none=>(0,7)
  | some x=>if x < -1000000000 then(0,2)else if x>1000000000 then(0,2)else QX v (Cu (n+Cu (t.c*x))) r
def Yk(l:Lin)(v:List Coef):Int×Int:=if Zw l then QX v l.k l.t else(0,1)
def Ut(n:Int):Bool:=decide (-4611686018427387904<=n)&&decide (n<=4611686018427387904)
mutual
def Cc:Cert->Int
 | .mk _ _ _ ks=>Hw 1 ks
def Hw(n:Int):List Cert->Int
 | []=>n
 | c::cs=>Hw (Cu (n+Cc c)) cs
end
def YW(l:Lin):Bool:=decide (l.t.length<=9223372036854775807)
def Ym(l:Lin):Bool:=YW l&&l.t.all fun t=>decide (t.v.s.length<=1000000)
mutual
def cOk:Cert->Bool
 | .mk _ m l ks=>decide (m.length<=9223372036854775807)&&YW l&&decide (ks.length<=9223372036854775807)&&a1x ks
def a1x:List Cert->Bool
 | []=>true
 | c::cs=>cOk c&&a1x cs
end
mutual
def c0n:Cert->Nat
 | .mk _ _ _ ks=>MG ks+1
def MG:List Cert->Nat
 | []=>0
 | c::cs=>max (c0n c) (MG cs)
end
end Go.Pl

namespace Go.Pl
open Go.RowKit
open Enc (enc dec is)
open EncL (encL decL isL)
theorem ZG{α:Type}[Enc α]{l:List α}{i:Nat}(h:i<l.length){P:α->Prop}(k:P l[i]):
  ∃ y:α,AV.pv (PV.rptr (PV.cells (List.getD (List.map enc l) (Int.toNat (i:Int)) default)))=AV.pv (PV.rptr (PV.cells (enc y)))∧P y:=⟨l[i],by rw[JW enc h],k⟩
theorem Zu{α:Type}[Enc α]{l:List α}{i n:Nat}(h:i<l.length)(hn:Enc.sz α=n):(decide (0<=(i:Int))&&decide (Int.toNat (i:Int)<List.length (List.map (enc:α->PV) l))&&Enc.sz α==n)=true:=by simp[hn,h]
theorem Wd{α:Type}[Enc α]{l:List α}{i:Nat}(h:i<l.length):decide ((i:Int)<(List.length (List.map (enc:α->PV) l):Int))=true:=by simp;omega
theorem VL{α:Type}[Enc α]{l:List α}{i:Nat}(h : ¬ i<l.length): ¬ decide ((i:Int)<(List.length (List.map (enc:α->PV) l):Int))=true:=by simp;omega
theorem Z4{n i:Nat}(h:i<n):decide ((i:Int)<(n:Int))=true:=by simp;omega
theorem Z8{n i:Nat}(h : ¬ i<n): ¬ decide ((i:Int)<(n:Int))=true:=by simp;omega
theorem b7z{P Q:Prop}:(if (!false)=true then P else Q)=P:=rfl
theorem c4m{P Q:Prop}:(if (!true)=true then P else Q)=Q:=rfl
theorem ZQ{c:Prop}[Decidable c]{P Q:Prop}(h:c)(k:P):if c then P else Q:=by rw[if_pos h];exact k
theorem ZV{c:Prop}[Decidable c]{P Q:Prop}(h : ¬ c)(k:Q):if c then P else Q:=by rw[if_neg h];exact k
theorem c3x{c:Prop}[Decidable c]{P Q:Prop}(h1:c->P)(h2 : ¬ c->Q):if c then P else Q:=by split;exact h1 ‹_›;exact h2 ‹_›
theorem Vq{b:Bool}{P Q:Prop}(h1:b=false->P)(h2:b=true->Q):if (!b)=true then P else Q:=by cases b;exact h1 rfl;exact h2 rfl
theorem Xe{b:Bool}{P Q:Prop}(h1:b=true->P)(h2:b=false->Q):if b=true then P else Q:=by cases b;exact h2 rfl;exact h1 rfl
theorem We{c:Prop}[Decidable c]{P Q:Prop}(h1:c->P)(h2 : ¬ c->Q):if decide c=true then P else Q:=by by_cases h:c;rw[if_pos (by simpa using h)];exact h1 h;rw[if_neg (by simpa using h)];exact h2 h
theorem Jq{α:Type}[BEq α][LawfulBEq α]{x y:α}{P Q:Prop}(h1:x=y->P)(h2:x≠y->Q):if (x==y)=true then P else Q:=by by_cases h:x=y;rw[if_pos (by simpa using h)];exact h1 h;rw[if_neg (by simpa using h)];exact h2 h
theorem ZU{β:Type}[Enc β]{x y:β}(h:x=y):Zf y (enc x):=⟨Enc.is_enc x,by rw[Enc.dec_enc,h]⟩
theorem ZJ{x y:Bool}(h:x=y):Zf y (.bool x):=⟨rfl,h⟩
theorem Qm{x y:Int}(h:x=y):Zf y (.int .i64 x):=⟨rfl,h⟩
section
variable (x:Coef) (f:Fact)
theorem co1:PV.asStr (List.getD (PV.cells (enc x)) 0 default)=x.v.s:=rfl
theorem co2:PV.asInt (List.getD (PV.cells (enc x)) (0+1) default)=x.c:=rfl
theorem co3:PV.asStr (List.getD (List.drop 0 (PV.cells (enc x))) 0 default)=x.v.s:=rfl
theorem co4:PV.asInt (List.getD (List.drop 1 (PV.cells (enc x))) 0 default)=x.c:=rfl
end
theorem b8d{c:UInt8}(n:Nat)(h:c≠UInt8.ofNat n)(hn:n<256): ¬ ((c.toNat:Int)==(n:Int))=true:=by
 intro e
 have e:(c.toNat:Int)=n:=by simpa using e
 have e:c.toNat=n:=by omega
 exact h (UInt8.toNat_inj.1 (by rw[e,UInt8.toNat_ofNat'];omega))
theorem YN: ∀ a b:List UInt8,Op.bytesLess a b=decide (a<b)
 | [],[]=>by simp[Op.bytesLess]
 | _::_,[]=>by simp[Op.bytesLess]
 | [],_::_=>by simp[Op.bytesLess]
 | x::a,y::b=>by
  rw[Op.bytesLess,YN a b]
  simp only[List.cons_lt_cons_iff]
  by_cases h1:x<y
  ·simp[h1]
  ·by_cases h2:x=y
   ·subst h2;simp
   ·simp[h1,h2]
theorem Zq.fuel{P:Program}{f:Nat}{α β:Type}[EncL α][Enc β]{pre:α->Bool}{F:α->β}(μ:α->Nat)(h : ∀ N,Zq P f (fun a=>pre a&&decide (μ a<N)) F):Zq P f pre F:=fun ps hps=>by
 refine h (μ (decL ps)+1) ps ?_
 simp only[preT,Bool.and_eq_true,decide_eq_true_eq]at hps ⊢
 exact⟨hps.1,hps.2,by omega⟩
theorem Zq.void{P:Program}{f:Nat}{α β:Type}[EncL α][Enc β]{pre:α->Bool}{F:α->β}(h : ∀ a,pre a=false):Zq P f pre F:=fun ps hps=>by simp[preT,h]at hps
theorem Zq.rec{P:Program}{f:Nat}{α β:Type}[EncL α][Enc β]{pre:α->Bool}{F:α->β}(μ:α->Nat)(h : ∀ N,Zq P f (fun a=>pre a&&decide (μ a<N)) F->Zq P f (fun a=>pre a&&decide (μ a<N+1)) F):Zq P f pre F:=by
 refine Zq.fuel μ fun N=> ?_
 induction N with
 | zero=>exact Zq.void fun a=>by simp
 | succ N ih=>exact h N ih
theorem Zq.or{P:Program}{f:Nat}{α β:Type}[EncL α][Enc β]{pre:α->Bool}{F:α->β}(c:α->Bool)(h1:Zq P f (fun a=>pre a&&c a) F)(h2:Zq P f (fun a=>pre a&& !c a) F):Zq P f pre F:=fun ps hps=>by
 have hps':=hps
 simp only[preT,Bool.and_eq_true]at hps'
 cases hc:c (decL ps)
 ·exact h2 ps (by simp only[preT,hps'.1,hps'.2,hc];rfl)
 ·exact h1 ps (by simp only[preT,hps'.1,hps'.2,hc];rfl)
mutual
def BQ:PV->PV->Bool
 | .bool a,.bool b=>a==b
 | .int k a,.int l b=>Ji k l&&a==b
 | .str a,.str b=>a==b
 | .sl s t xs,.sl s' t' ys=>s==s'&&t==t'&&G6 xs ys
 | .agg xs,.agg ys=>G6 xs ys
 | .tup xs,.tup ys=>G6 xs ys
 | .nilp,.nilp=>true
 | .nilmap,.nilmap=>true
 | .nilfn,.nilfn=>true
 | .nili,.nili=>true
 | .ifc,.ifc=>true
 | .fn a,.fn b=>a==b
 | .rptr xs,.rptr ys=>G6 xs ys
 | _,_=>false
def G6:List PV->List PV->Bool
 | [],[]=>true
 | x::xs,y::ys=>BQ x y&&G6 xs ys
 | _,_=>false
end
theorem MP(k:IntKind):Ji k k=true:=by cases k <;> rfl
mutual
theorem b0h: ∀ (p q:PV),BQ p q=true->p=q
 | .bool a,q,h=>by cases q <;> simp[BQ]at h;rw[h]
 | .int k a,q,h=>by cases q <;> simp[BQ]at h;rw[Ke h.1,h.2]
 | .str a,q,h=>by cases q <;> simp[BQ]at h;rw[h]
 | .sl s t xs,q,h=>by cases q <;> simp[BQ]at h;rw[h.1.1,h.1.2,JD xs _ h.2]
 | .agg xs,q,h=>by cases q <;> simp[BQ]at h;rw[JD xs _ h]
 | .tup xs,q,h=>by cases q <;> simp[BQ]at h;rw[JD xs _ h]
 | .nilp,q,h=>by cases q <;> simp[BQ]at h;rfl
 | .nilmap,q,h=>by cases q <;> simp[BQ]at h;rfl
 | .nilfn,q,h=>by cases q <;> simp[BQ]at h;rfl
 | .nili,q,h=>by cases q <;> simp[BQ]at h;rfl
 | .ifc,q,h=>by cases q <;> simp[BQ]at h;rfl
 | .fn a,q,h=>by cases q <;> simp[BQ]at h;rw[h]
 | .rptr xs,q,h=>by cases q <;> simp[BQ]at h;rw[JD xs _ h]
theorem JD: ∀ (xs ys:List PV),G6 xs ys=true->xs=ys
 | [],ys,h=>by cases ys <;> simp[G6]at h;rfl
 | x::xs,ys,h=>by
  cases ys with
  | nil=>simp[G6]at h
  | cons y ys=>simp[G6]at h;rw[b0h x y h.1,JD xs ys h.2]
end
mutual
theorem Mt: ∀ (p:PV),BQ p p=true
 | .bool a | .str a | .fn a=>by simp[BQ]
 | .int k a=>by simp[BQ,MP]
 | .sl s t xs=>by simp[BQ,J9 xs]
 | .agg xs | .tup xs | .rptr xs=>by simp[BQ,J9 xs]
 | .nilp | .nilmap | .nilfn | .nili | .ifc=>by simp[BQ]
theorem J9: ∀ (xs:List PV),G6 xs xs=true
 | []=>by simp[G6]
 | x::xs=>by simp[G6,Mt x,J9 xs]
end
def Vf(α:Type)[Enc α](p:PV):Bool:=BQ p (enc (dec p:α))
@[simp] theorem Z5 {α : Type} [Enc α] (a : α) : Vf α (enc a) = true := by unfold Vf; rw [Enc.dec_enc]; exact Mt _
theorem Yu{α:Type}[Enc α]{p:PV}(h:Vf α p=true): ∃ a:α,p=enc a:=⟨_,b0h _ _ h⟩
end Go.Pl

namespace Go.Pl
open Enc (enc dec is)
@[irreducible] def KO (a : Nat) (r : List UInt8) : Nat := r.foldl (fun a c => a * 10 + (c.toNat - 48)) a
theorem JY(a:Nat):KO a []=a:=by unfold KO;rfl
theorem Qc(a:Nat)(c:UInt8)(r:List UInt8):KO a (c::r)=KO (a*10+(c.toNat - 48)) r:=by unfold KO;rfl
theorem WH{c:UInt8}:XQ c=true ↔ 48<=c.toNat∧c.toNat<=57:=by
 simp only[XQ,Bool.and_eq_true,decide_eq_true_eq,UInt8.le_iff_toNat_le]
 have e1:(48:UInt8).toNat=48:=rfl
 have e2:(57:UInt8).toNat=57:=rfl
 rw[e1,e2]
theorem Ep: ∀ (r:List UInt8) (a:Nat),r.all XQ=true->KO a r<(a+1)*10 ^ r.length
 | [],a,_=>by simp[JY]
 | c::r,a,h=>by
  simp only[List.all_cons,Bool.and_eq_true,WH]at h
  have:=Ep r (a*10+(c.toNat - 48)) h.2
  rw[Qc,List.length_cons,Nat.pow_succ]
  refine Nat.lt_of_lt_of_le this ?_
  rw[Nat.mul_comm (10 ^ r.length) 10,<- Nat.mul_assoc]
  exact Nat.mul_le_mul_right _ (by omega)
theorem TA: ∀ (r:List UInt8) (a:Nat),a<=KO a r
 | [],a=>by rw[JY];exact Nat.le_refl _
 | c::r,a=>by
  have:=TA r (a*10+(c.toNat - 48))
  rw[Qc]
  omega
theorem Tc: ∀ (r:List UInt8) (a:Nat),r.all XQ=true->KO a r<1000000000000000000->Lib.parseUint10 a r = .ok (KO a r)
 | [],a,_,_=>by rw[JY,Lib.parseUint10]
 | c::r,a,h,hv=>by
  simp only[List.all_cons,Bool.and_eq_true,WH]at h
  rw[Qc]at hv ⊢
  have hge:=TA r (a*10+(c.toNat - 48))
  rw[Lib.parseUint10,if_pos h.1,if_neg (by omega),if_neg (by omega)]
  exact Tc r _ h.2 hv
theorem a4z{a d:Nat}(ha:1<=a)(hd:d<=9):Lib.decDigits (a*10+d)=Lib.decDigits a++[UInt8.ofNat (48+d)]:=by
 rw[Lib.decDigits,dif_neg (by omega),show(a*10+d) / 10=a by omega,show(a*10+d) % 10=d by omega]
theorem Ej: ∀ (r:List UInt8) (a:Nat),1<=a->r.all XQ=true->Lib.decDigits (KO a r)=Lib.decDigits a++r
 | [],a,_,_=>by simp[JY]
 | c::r,a,ha,h=>by
  simp only[List.all_cons,Bool.and_eq_true,WH]at h
  rw[Qc,Ej r _ (by omega) h.2,a4z ha (by omega)]
  have:UInt8.ofNat (48+(c.toNat - 48))=c:=by
   rw[show 48+(c.toNat - 48)=c.toNat by omega]
   exact UInt8.ofNat_toNat
  rw[this]
  simp
theorem a6s{n:Nat}(h:n<256):(UInt8.ofNat n).toNat=n:=by rw[UInt8.toNat_ofNat'];omega
theorem Le: ∀ (u:Nat),1<=u->(Lib.decDigits u).all XQ=true∧(Lib.decDigits u).head? ≠ some 48∧Lib.decDigits u≠[]:=by
 intro u
 induction u using Nat.strongRecOn with
 | _ u ih=>
  intro h1
  rw[Lib.decDigits]
  by_cases h:u<10
  ·rw[dif_pos h]
   refine⟨?_,?_,by simp⟩
   ·simp only[List.all_cons,List.all_nil,Bool.and_true]
    rw[WH,a6s (by omega)]
    omega
   ·simp only[List.head?_cons,ne_eq,Option.some.injEq]
    intro e
    have:=congrArg UInt8.toNat e
    rw[a6s (by omega)]at this
    have e48:(48:UInt8).toNat=48:=rfl
    rw[e48]at this
    omega
  ·rw[dif_neg h]
   obtain⟨i1,i2,i3⟩:=ih (u / 10) (by omega) (by omega)
   refine⟨?_,?_,by simp⟩
   ·rw[List.all_append,i1]
    simp only[List.all_cons,List.all_nil,Bool.and_true,Bool.true_and]
    rw[WH,a6s (by omega)]
    omega
   ·cases hd:Lib.decDigits (u / 10)with
    | nil=>exact absurd hd i3
    | cons c r=>rw[hd]at i2;simpa using i2
def NA(r:List UInt8):Bool:=r.all XQ&& !r.isEmpty&&decide (r.head? ≠ some 48)
theorem c0w(b:Bool):Uq (enc (⟨b⟩:Er)) = !b:=by cases b <;> rfl
theorem b8o(e:Er):CW (enc e)=true:=by obtain⟨b⟩:=e;cases b <;> rfl
theorem OY(r:List UInt8)(hr:r.length<=9):(Uq (enc (Yo ⟨r⟩).2)&&decide ((Yo ⟨r⟩).1>0)&&(Lib.itoa (Yo ⟨r⟩).1==r))=NA r:=by
 by_cases hn:NA r=true
 ·rw[hn]
  simp only[NA,Bool.and_eq_true,Bool.not_eq_true',decide_eq_true_eq]at hn
  obtain⟨⟨h1,h2⟩,h3⟩:=hn
  cases r with
  | nil=>simp at h2
  | cons c r=>
   have h1':=h1
   simp only[List.all_cons,Bool.and_eq_true,WH]at h1
   have hc:c≠48:=by simpa using h3
   have hc':c.toNat≠48:=fun e=>hc (UInt8.toNat_inj.1 (by rw[e];rfl))
   have hv:=Ep (c::r) 0 h1'
   have hp:10 ^ (c::r).length<=10 ^ 9:=Nat.pow_le_pow_right (by omega) hr
   have hpm:=Tc (c::r) 0 h1' (by omega)
   have hat:Lib.atoiAll (c::r) = .ok (KO 0 (c::r):Int):=by
    have e1 : ¬ (c.toNat=43∨c.toNat=45):=by omega
    have e2 : ¬ c.toNat=45:=by omega
    simp only[Lib.atoiAll,if_neg e1,Lib.parseMag,if_neg (show ¬ (c::r=[]) by simp),hpm]
    rw[if_neg (by omega),if_neg (fun e=>e2 e.1),if_neg e2]
   have ha:Yo ⟨c::r⟩=((KO 0 (c::r):Int),⟨false⟩):=by simp only[Yo,hat]
   have hvd:KO 0 (c::r)=KO (c.toNat - 48) r:=by rw[Qc];congr 1;omega
   have hpos:=TA r (c.toNat - 48)
   rw[ha]
   have h4:Lib.itoa (KO 0 (c::r):Int)=c::r:=by
    rw[Lib.itoa,if_neg (by omega),Int.toNat_natCast,hvd,Ej r _ (by omega) h1.2,Lib.decDigits,dif_pos (by omega)]
    have:UInt8.ofNat (48+(c.toNat - 48))=c:=by
     rw[show 48+(c.toNat - 48)=c.toNat by omega]
     exact UInt8.ofNat_toNat
    rw[this];rfl
   simp only[c0w,h4,beq_self_eq_true,Bool.and_true,Bool.not_false,Bool.true_and]
   exact decide_eq_true (by omega)
 ·have hn:NA r=false:=by simpa using hn
  rw[hn]
  by_cases h1:decide ((Yo ⟨r⟩).1>0)=true
  ·by_cases h2:(Lib.itoa (Yo ⟨r⟩).1==r)=true
   ·exfalso
    have h1:(Yo ⟨r⟩).1>0:=by simpa using h1
    have h2:Lib.itoa (Yo ⟨r⟩).1=r:=by simpa using h2
    rw[Lib.itoa,if_neg (by omega)]at h2
    obtain⟨d1,d2,d3⟩:=Le (Yo ⟨r⟩).1.toNat (by omega)
    rw[h2]at d1 d2 d3
    have:NA r=true:=by simp only[NA,d1,decide_eq_true d2,Bool.true_and,Bool.and_true];cases r <;> simp at d3 ⊢
    rw[this]at hn;cases hn
   ·simp[h2]
  ·simp[h1]
theorem Po(r:List UInt8):ZA ⟨95::r⟩=(NA r&&decide (r.length<=9)):=by simp[ZA,NA]
end Go.Pl

namespace Go.Pl
open Go.RowKit
open Enc (enc dec is)
open EncL (encL decL isL)
def a1b(s:Str)(c:Int):List (Str×Int)->List (Str×Int)
 | []=>[(s,c)]
 | p::m=>if s.s=p.1.s then(s,c)::m else p::a1b s c m
def b8t(k:Int):List Coef->List (Str×Int)->List (Str×Int)
 | [],m=>m
 | t::l,m=>b8t k l (a1b t.v (IntKind.i64.wrap (atM m t.v.s+IntKind.i64.wrap (k*t.c))) m)
def Zm(l:List Fact):Bool:=decide (l.length<=9223372036854775807)&&l.all fun f=>Ym f.l
def XA(l:List Fact):Bool:=l.all fun f=>Zw f.l
def WW:AV×List AObj×List AObj:=(.tup [.pv (.int .i64 0),.pv .nilmap,.pv (.bool false)],[],[])
structure FnV (n:Nat) where
 u:Unit:=()
instance (n:Nat):Enc (FnV n) where
  sz:=1
  enc _:=.fn n
  dec _:={}
  is | .fn m=>m==n|_=>false
  is_enc _:=by simp
  dec_enc _:=rfl
  sub p h:=by
    cases p with
    | fn m => have : m = n := by simpa using h
              subst this;exact .refl _
    | _=>cases h
def Zx{α:Type}(p:α->Bool)(l:List α):Int:=match l.findIdx? p with|some i=>i|none=> -1
theorem Xy{α:Type}(p:α->Bool)(l:List α):decide (Zx p l ≥ 0)=l.any p:=by
 unfold Zx
 cases h:l.findIdx? p with
 | none=>
  rw[List.findIdx?_eq_none_iff]at h
  have:l.any p=false:=by rw[List.any_eq_false];intro x hx;simp[h x hx]
  rw[this];rfl
 | some i=>
  have:l.any p=true:=by
   rw[List.findIdx?_eq_some_iff_getElem]at h
   obtain⟨hi,hp,_⟩:=h
   rw[List.any_eq_true]
   exact⟨_,List.getElem_mem hi,hp⟩
  rw[this]
  exact decide_eq_true (by show(i:Int) ≥ 0;omega)
theorem Uy{α:Type}(p:α->Bool)(l:List α)(i:Nat)(hlt:i<l.length)(hno : ∀ j (h:j<l.length),j<i->p l[j]=false)(hp:p l[i]=true):Zx p l=i:=by
 unfold Zx
 have:l.findIdx? p=some i:=by
  rw[List.findIdx?_eq_some_iff_getElem]
  exact⟨hlt,hp,fun j hj=>by simp[hno j (by omega) hj]⟩
 rw[this]
theorem UH{α:Type}(p:α->Bool)(l:List α)(hno : ∀ j (h:j<l.length),p l[j]=false):Zx p l = -1:=by
 unfold Zx
 have:l.findIdx? p=none:=by
  rw[List.findIdx?_eq_none_iff]
  intro x hx
  obtain⟨j,hj,rfl⟩:=List.getElem_of_mem hx
  exact hno j hj
 rw[this]
def Ya(f:Fact)(v:List Coef):Bool:=decide ((Yk f.l v).2=0)&& !decide ((Yk f.l v).1<0)&&(!f.eq||decide ((Yk f.l v).1=0))
def Je:List AV->List AObj->Bool
 | [.pv f,.ptr 0 0],[.box [.pv v]]=>Vf Fact f&&Vf (List Coef) v&&Ym (dec f:Fact).l&&decide ((dec v:List Coef).length<=9223372036854775807)
 | _,_=>false
def Gg:List AV->List AObj->AV×List AObj×List AObj
 | [.pv f,_],[.box [.pv v]]=>(.pv (.bool (!Ya (dec f) (dec v))),[.box [.pv v]],[])
 | _,_=>WW
def Wo(g:Nat):List AV->List AObj->Bool
 | [.pv l,.fn g' [] [.ptr 0 0]],[.box [.pv v]]=>g'==g&&Vf (List Fact) l&&Vf (List Coef) v&&Zm (dec l)&&decide ((dec v:List Coef).length<=9223372036854775807)
 | _,_=>false
def Dm:List AV->List AObj->AV×List AObj×List AObj
 | [.pv l,_],[.box [.pv v]]=>(.pv (.int .i64 (Zx (fun f=> !Ya f (dec v)) (dec l))),[.box [.pv v]],[])
 | _,_=>WW
def Dz:List AV->List AObj->AV×List AObj×List AObj
 | [.pv l,_],[.box [.pv v]]=>(.pv (.bool ((dec l:List Fact).any (fun f=> !Ya f (dec v)))),[.box [.pv v]],[])
 | _,_=>WW
def Bh:List AV->List AObj->Bool
 | [.pv x,.ptr 0 0],[.box [.pv (.str v),.pv (.int .i64 c)]]=>Vf Coef x
 | _,_=>false
def Rk:List AV->List AObj->AV×List AObj×List AObj
 | [.pv x,_],[.box [.pv (.str v),.pv (.int .i64 c)]]=>(.pv (.bool ((dec x:Coef).v.s==v)),[.box [.pv (.str v),.pv (.int .i64 c)]],[])
 | _,_=>WW
def Qy(g:Nat):List AV->List AObj->Bool
 | [.pv l,.fn g' [] [.ptr 0 0]],[.box [.pv (.str v),.pv (.int .i64 c)]]=>g'==g&&Vf (List Coef) l&&decide ((dec l:List Coef).length<=9223372036854775807)
 | _,_=>false
def Dv:List AV->List AObj->AV×List AObj×List AObj
 | [.pv l,_],[.box [.pv (.str v),.pv (.int .i64 c)]]=>(.pv (.int .i64 (Zx (fun t:Coef=>t.v.s==v) (dec l))),[.box [.pv (.str v),.pv (.int .i64 c)]],[])
 | _,_=>WW
end Go.Pl

namespace Go.Pl
open Go.RowKit
open Enc (enc dec is)
open EncL (encL decL isL)
set_option maxRecDepth 100000
end Go.Pl

namespace Go.Pl
open Go.RowKit
open Enc (enc dec is)
open EncL (encL decL isL)
set_option maxRecDepth 100000
-- IMPOSSIBLE
end Go.Pl

namespace Go.Pl
open Go.RowKit
open Enc (enc dec is)
open EncL (encL decL isL)
end Go.Pl

namespace Go.Pl
open Go.RowKit
open Enc (enc dec is)
open EncL (encL decL isL)
end Go.Pl

namespace Go.Pl
open Go.RowKit
open Enc (enc dec is)
open EncL (encL decL isL)
set_option maxRecDepth 100000
end Go.Pl

namespace Go.Pl
open Go.RowKit
open Enc (enc dec is)
open EncL (encL decL isL)
end Go.Pl

namespace Go.Pl
open Go.RowKit
open Enc (enc dec is)
open EncL (encL decL isL)
set_option maxRecDepth 100000
end Go.Pl

namespace Go.Pl
open Go.RowKit
open Enc (enc dec is)
open EncL (encL decL isL)
end Go.Pl

namespace Go.Pl
open Go.RowKit
open Enc (enc dec is)
open EncL (encL decL isL)
mutual
def cSm:Cert->Bool
 | .mk _ m l ks=>decide (m.length<=9223372036854775807)&&Ym l&&decide (ks.length<=9223372036854775807)&&a2s ks
def a2s:List Cert->Bool
 | []=>true
 | c::cs=>cSm c&&a2s cs
end
mutual
theorem b9i: ∀ {c:Cert},cSm c=true->cOk c=true
 | .mk k m l ks,h=>by
  simp only[cSm,cOk,Ym,Bool.and_eq_true]at h ⊢
  exact⟨⟨⟨h.1.1.1,h.1.1.2.1⟩,h.1.2⟩,Em h.2⟩
theorem Em: ∀ {cs:List Cert},a2s cs=true->a1x cs=true
 | [],_=>rfl
 | c::cs,h=>by
  simp only[a2s,a1x,Bool.and_eq_true]at h ⊢
  exact⟨b9i h.1,Em h.2⟩
end
theorem a2k{l:Lin}(h:Zw l=true):l.t.length<=12:=by
 simp only[Zw,Bool.and_eq_true,decide_eq_true_eq]at h
 exact h.2
end Go.Pl

namespace Go.Pl
open Go.RowKit
open Enc (enc dec is)
open EncL (encL decL isL)
theorem WL{n:Int}(h1 : -9223372036854775808<=n)(h2:n<=9223372036854775807):Cu n=n:=Ug h1 h2
end Go.Pl

namespace Go.Pl
open Go.RowKit
open Enc (enc dec is)
open EncL (encL decL isL)
end Go.Pl

namespace Go.Pl
open Go.RowKit
open Enc (enc dec is)
open EncL (encL decL isL)
set_option maxRecDepth 100000
def LY:IC:=(.seq (.reg [⟨(some 1),(.box 3 (.t 0)),0,none⟩,⟨(some 2),(.mv (.c (.bool false))),1,none⟩] none) (.seq (.reg [⟨(some 3),(.faddr 1 (.t 1)),0,none⟩,⟨(some 4),(.load true [(.int .i64),(.sl 2)] (.t 3)),0,none⟩,⟨(some 5),(.call (.c (.fn 73)) [(.t 4)]),0,none⟩,⟨(some 6),(.un .not (.t 5)),2,none⟩,⟨(some 2),(.mv (.t 6)),2,none⟩] none) .ret))
def L9:List IRes:=[(.tmp 2)]
abbrev c0f:Nat:=7
def a8y:ZE:=Xi [(73,.pure (preT (fun x:Lin×Unit=>Ym x.1)) (Zg (fun x:Lin×Unit=>Zw x.1)))]
theorem c4v{G:PV->Prop}(f:Fact)(h:(Go.Pl.preT (fun(x:Lin×Unit)=>Ym x.1) [(.agg [(.int .i64 (Lin.k f.l)),(.sl 2 false (List.map enc (Lin.t f.l)))])])=true∧(∃ y0:Bool,AV.pv (Zg (fun(x:Lin×Unit)=>Zw x.1) [(.agg [(.int .i64 (Lin.k f.l)),(.sl 2 false (List.map enc (Lin.t f.l)))])])=AV.pv (enc y0)∧(G ((.bool !y0))))):Zc a8y 0 (Za L9 G) LY [] (Yx 7 [enc f]):=Zc.tp (.req (.abs (Bool) (fun YY=>AV.pv (enc YY)) (.nil))) h (by kernel_rfl)
def QN:IC:=(.seq (.reg [⟨(some 4),(.mv (.c (.int .i64 0))),0,none⟩] none) (.seq (.seq (.reg [⟨(some 6),(.mv (.t 0)),0,none⟩,⟨(some 7),(.len 1 (.t 6)),0,none⟩,⟨(some 8),(.mv (.c (.int .i64 0))),0,none⟩] none) (.block 0 (.loop [8,7,1,0] (.seq (.reg [⟨(some 9),(.bin .num .lss (.t 8) (.t 7)),0,none⟩] none) (.seq (.cond (.t 9) .skip (.exit 0)) (.seq (.block 1 (.seq (.reg [⟨(some 10),(.mv (.t 8)),0,none⟩,⟨(some 5),(.mv (.t 10)),0,none⟩] none) (.seq (.reg [⟨(some 11),(.mv (.t 1)),0,none⟩,⟨(some 12),(.mv (.t 0)),0,none⟩,⟨(some 13),(.mv (.t 5)),0,none⟩,⟨(some 14),(.iaddr 3 (.t 12) (.t 13)),0,none⟩,⟨(some 15),(.load true [.bool,(.int .i64),(.sl 2)] (.t 14)),0,none⟩,⟨(some 16),(.call (.t 11) [(.t 15)]),0,none⟩] none) (.cond (.t 16) (.seq (.reg [⟨(some 17),(.mv (.t 5)),0,none⟩,⟨(some 4),(.mv (.t 17)),0,none⟩] none) .ret) .skip)))) (.reg [⟨(some 18),(.bin .num .add (.t 8) (.c (.int .i64 1))),0,none⟩,⟨(some 8),(.mv (.t 18)),0,none⟩] none))))))) (.seq (.reg [⟨(some 4),(.mv (.c (.int .i64 (-1)))),0,none⟩] none) .ret)))
def K3:List IRes:=[(.tmp 4)]
abbrev c2n:Nat:=19
def CZ:ZE:=Xi [(162,.pure (preT (fun x:Fact×Unit=>Ym x.1.l)) (Zg (fun x:Fact×Unit=> !(Zw x.1.l))))]
theorem c4r{G:PV->Prop}(l:List Fact)(h:At CZ 0 (Za K3 G) QN 0 19 [(0,(.pv (.sl 3 false (List.map enc l)))),(1,(.pv (.fn 162))),(7,(.pv (.int .i64 (↑(List.length (List.map enc l)):Int)))),(8,(.pv (.int .i64 0)))] []):Zc CZ 0 (Za K3 G) QN [] (Yx 19 [enc l,.fn 162]):=Zc.tp (.nil) h (by kernel_rfl)
theorem a5v{G:PV->Prop}(l:List Fact)(i:Int)(h:if (decide (i<(↑(List.length l):Int)))=true then(decide (0<=i)&&decide (Int.toNat i<List.length (List.map enc l))&&Enc.sz Fact==3)=true∧(∃ y0:Fact,AV.pv (PV.rptr (PV.cells (List.getD (List.map enc l) (Int.toNat i) default)))=AV.pv (PV.rptr (PV.cells ((enc) y0)))∧((Go.Pl.preT (fun(x:Fact×Unit)=>Ym x.1.l) [(.agg [(.bool (PV.asBool (List.getD (PV.cells (enc y0)) 0 default))),(.int .i64 (PV.asInt (List.getD (PV.cells (enc y0)) (0+1) default))),(.sl 2 false (PV.asXs (List.getD (PV.cells (enc y0)) (0+1+1) default)))])])=true∧(∃ y1:Bool,AV.pv (Zg (fun(x:Fact×Unit)=> !Zw x.1.l) [(.agg [(.bool (PV.asBool (List.getD (PV.cells (enc y0)) 0 default))),(.int .i64 (PV.asInt (List.getD (PV.cells (enc y0)) (0+1) default))),(.sl 2 false (PV.asXs (List.getD (PV.cells (enc y0)) (0+1+1) default)))])])=AV.pv (enc y1)∧(if (y1)=true then G ((.int .i64 i))else(At CZ 0 (Za K3 G) QN 0 19 [(0,(.pv (.sl 3 false (List.map enc l)))),(1,(.pv (.fn 162))),(7,(.pv (.int .i64 (↑(List.length l):Int)))),(8,(.pv (.int .i64 (IntKind.wrap IntKind.i64 (i+1)))))] [])))))else(G ((.int .i64 (-1))))):At CZ 0 (Za K3 G) QN 0 19 [(0,.pv (enc l)),(1,.pv (.fn 162)),(7,.pv (.int .i64 l.length)),(8,.pv (.int .i64 i))] []:=At.tp (.lit (.ask (.req (.abs (Fact) (fun YY=>AV.pv (PV.rptr (PV.cells ((enc) YY)))) (.lit (.req (.abs (Bool) (fun YY=>AV.pv (enc YY)) (.ask (.nil) (.lit (.nil)))))))) (.nil))) h (by kernel_rfl)
def TB:IC:=(.seq (.reg [⟨(some 4),(.mv (.c (.bool false))),0,none⟩] none) (.seq (.reg [⟨(some 5),(.mv (.t 0)),0,none⟩,⟨(some 6),(.mv (.t 1)),0,none⟩,⟨(some 7),(.call (.c (.fn 227)) [(.t 5),(.t 6)]),0,none⟩,⟨(some 8),(.bin .num .geq (.t 7) (.c (.int .i64 0))),2,none⟩,⟨(some 4),(.mv (.t 8)),2,none⟩] none) .ret))
def Lh:List IRes:=[(.tmp 4)]
abbrev b9y:Nat:=9
def a7a:ZE:=Xi [(227,.pure (preT (fun x:List Fact×FnV 162×Unit=>Zm x.1)) (Zg (fun x:List Fact×FnV 162×Unit=>Zx (fun f:Fact=> !(Zw f.l)) x.1)))]
theorem c4d{G:PV->Prop}(l:List Fact)(h:(Go.Pl.preT (fun(x:List Fact×FnV 162×Unit)=>Zm x.1) [(.sl 3 false (List.map enc l)),(.fn 162)])=true∧(∃ y0:Int,AV.pv (Zg (fun(x:List Fact×FnV 162×Unit)=>Zx (fun(f:Fact)=> !Zw f.l) x.1) [(.sl 3 false (List.map enc l)),(.fn 162)])=AV.pv (enc y0)∧(G ((.bool (decide (y0 ≥ 0))))))):Zc a7a 0 (Za Lh G) TB [] (Yx 9 [enc l,.fn 162]):=Zc.tp (.req (.abs (Int) (fun YY=>AV.pv (enc YY)) (.lit (.nil)))) h (by kernel_rfl)
def Hf:IC:=(.seq (.reg [⟨(some 2),(.mv (.c (.bool false))),0,none⟩] none) (.seq (.reg [⟨(some 3),(.mv (.t 0)),0,none⟩,⟨(some 4),(.call (.c (.fn 161)) [(.t 3),(.c (.fn 162))]),0,none⟩,⟨(some 5),(.un .not (.t 4)),2,none⟩,⟨(some 2),(.mv (.t 5)),2,none⟩] none) .ret))
def Ht:List IRes:=[(.tmp 2)]
abbrev EZ:Nat:=6
def CS:ZE:=Xi [(161,.pure (preT (fun x:List Fact×FnV 162×Unit=>Zm x.1)) (Zg (fun x:List Fact×FnV 162×Unit=>x.1.any fun f:Fact=> !(Zw f.l))))]
theorem b1y{G:PV->Prop}(l:List Fact)(h:(Go.Pl.preT (fun(x:List Fact×FnV 162×Unit)=>Zm x.1) [(.sl 3 false (List.map enc l)),(.fn 162)])=true∧(∃ y0:Bool,AV.pv (Zg (fun(x:List Fact×FnV 162×Unit)=>List.any x.1 fun(f:Fact)=> !Zw f.l) [(.sl 3 false (List.map enc l)),(.fn 162)])=AV.pv (enc y0)∧(G ((.bool !y0))))):Zc CS 0 (Za Ht G) Hf [] (Yx 6 [enc l]):=Zc.tp (.req (.abs (Bool) (fun YY=>AV.pv (enc YY)) (.nil))) h (by kernel_rfl)
def Fy:IC:=(.seq (.reg [⟨(some 2),(.box 2 (.t 0)),0,none⟩,⟨(some 3),(.mv (.c (.bool false))),1,none⟩] none) (.seq (.reg [⟨(some 4),(.faddr 0 (.t 2)),0,none⟩,⟨(some 5),(.load false [.str] (.t 4)),0,none⟩,⟨(some 6),(.faddr 0 (.t 1)),0,none⟩,⟨(some 7),(.load false [.str] (.t 6)),0,none⟩,⟨(some 8),(.bin .num .eql (.t 5) (.t 7)),0,none⟩,⟨(some 3),(.mv (.t 8)),0,none⟩] none) .ret))
def FB:List IRes:=[(.tmp 3)]
abbrev c1r:Nat:=9
def a5w:ZE:=Xi []
theorem c4s{G:AV×List AObj×List AObj->Prop}(x:Coef)(v:List UInt8)(c:Int)(h:G (((.pv (.bool (Str.s x.v==v))),([(.box [(.pv (.str v)),(.pv (.int .i64 c))])],[])))):Zc a5w 1 (Zh 1 FB G) Fy [] (YH 9 [.pv (enc x),.ptr 0 0] [.box [.pv (.str v),.pv (.int .i64 c)]]):=Zc.to (.lit (.nil)) h (by kernel_rfl)
def Q6:IC:=(.seq (.reg [⟨(some 4),(.mv (.c (.int .i64 0))),0,none⟩] none) (.seq (.seq (.reg [⟨(some 6),(.mv (.t 0)),0,none⟩,⟨(some 7),(.len 1 (.t 6)),0,none⟩,⟨(some 8),(.mv (.c (.int .i64 0))),0,none⟩] none) (.block 0 (.loop [8,7,1,0] (.seq (.reg [⟨(some 9),(.bin .num .lss (.t 8) (.t 7)),0,none⟩] none) (.seq (.cond (.t 9) .skip (.exit 0)) (.seq (.block 1 (.seq (.reg [⟨(some 10),(.mv (.t 8)),0,none⟩,⟨(some 5),(.mv (.t 10)),0,none⟩] none) (.seq (.reg [⟨(some 11),(.mv (.t 1)),0,none⟩,⟨(some 12),(.mv (.t 0)),0,none⟩,⟨(some 13),(.mv (.t 5)),0,none⟩,⟨(some 14),(.iaddr 2 (.t 12) (.t 13)),0,none⟩,⟨(some 15),(.load true [.str,(.int .i64)] (.t 14)),0,none⟩,⟨(some 16),(.call (.t 11) [(.t 15)]),0,none⟩] none) (.cond (.t 16) (.seq (.reg [⟨(some 17),(.mv (.t 5)),0,none⟩,⟨(some 4),(.mv (.t 17)),0,none⟩] none) .ret) .skip)))) (.reg [⟨(some 18),(.bin .num .add (.t 8) (.c (.int .i64 1))),0,none⟩,⟨(some 8),(.mv (.t 18)),0,none⟩] none))))))) (.seq (.reg [⟨(some 4),(.mv (.c (.int .i64 (-1)))),0,none⟩] none) .ret)))
def K8:List IRes:=[(.tmp 4)]
abbrev c0r:Nat:=19
def CL:ZE:=Xi [(110,.own Bh Rk)]
theorem c4j{G:AV×List AObj×List AObj->Prop}(l:List Coef)(v:List UInt8)(c:Int)(h:At CL 1 (Zh 1 K8 G) Q6 0 19 [(0,(.pv (.sl 2 false (List.map enc l)))),(1,(.fn 110 [] [(.ptr 0 0)])),(7,(.pv (.int .i64 (↑(List.length (List.map enc l)):Int)))),(8,(.pv (.int .i64 0)))] [(.obj (.box [(.pv (.str v)),(.pv (.int .i64 c))]))]):Zc CL 1 (Zh 1 K8 G) Q6 [] (YH 19 [.pv (enc l),.fn 110 [] [.ptr 0 0]] [.box [.pv (.str v),.pv (.int .i64 c)]]):=Zc.to (.nil) h (by kernel_rfl)
theorem a9s{G:AV×List AObj×List AObj->Prop}(l:List Coef)(v:List UInt8)(c:Int)(i:Int)(h:if (decide (i<(↑(List.length l):Int)))=true then(decide (0<=i)&&decide (Int.toNat i<List.length (List.map enc l))&&Enc.sz Coef==2)=true∧(∃ y0:Coef,AV.pv (PV.rptr (PV.cells (List.getD (List.map enc l) (Int.toNat i) default)))=AV.pv (PV.rptr (PV.cells ((enc) y0)))∧((Bh [(.pv (.agg [(.str (PV.asStr (List.getD (PV.cells (enc y0)) 0 default))),(.int .i64 (PV.asInt (List.getD (PV.cells (enc y0)) (0+1) default)))])),(.ptr 0 0)] [(.box [(.pv (.str v)),(.pv (.int .i64 c))])])=true∧(if (Str.s (Coef.v (dec (PV.agg (Qf (PV.cells (enc y0)) 0 [Sh.str,Sh.int .i64]))))==v)=true then G (((.pv (.int .i64 i)),([(.box [(.pv (.str v)),(.pv (.int .i64 c))])],[])))else(At CL 1 (Zh 1 K8 G) Q6 0 19 [(0,(.pv (.sl 2 false (List.map enc l)))),(1,(.fn 110 [] [(.ptr 0 0)])),(7,(.pv (.int .i64 (↑(List.length l):Int)))),(8,(.pv (.int .i64 (IntKind.wrap IntKind.i64 (i+1)))))] [(.obj (.box [(.pv (.str v)),(.pv (.int .i64 c))]))]))))else(G (((.pv (.int .i64 (-1))),([(.box [(.pv (.str v)),(.pv (.int .i64 c))])],[]))))):At CL 1 (Zh 1 K8 G) Q6 0 19 [(0,.pv (enc l)),(1,.fn 110 [] [.ptr 0 0]),(7,.pv (.int .i64 l.length)),(8,.pv (.int .i64 i))] [.obj (.box [.pv (.str v),.pv (.int .i64 c)])]:=At.to (.lit (.ask (.req (.abs (Coef) (fun YY=>AV.pv (PV.rptr (PV.cells ((enc) YY)))) (.lit (.req (.keep (.ask (.nil) (.lit (.nil)))))))) (.nil))) h (by kernel_rfl)
def QY:IC:=(.seq (.reg [⟨(some 2),(.box 2 (.t 0)),0,none⟩,⟨(some 4),(.mv (.c (.int .i64 0))),1,none⟩,⟨(some 5),(.mv (.c (.int .i64 0))),1,none⟩] none) (.seq (.seq (.reg [⟨(some 11),(.load true [(.int .i64),(.sl 2)] (.t 2)),0,none⟩,⟨(some 12),(.call (.c (.fn 73)) [(.t 11)]),0,none⟩,⟨(some 13),(.un .not (.t 12)),2,none⟩] none) (.cond (.t 13) (.seq (.reg [⟨(some 4),(.mv (.c (.int .i64 0))),0,none⟩,⟨(some 5),(.mv (.c (.int .i64 1))),0,none⟩] none) .ret) .skip)) (.seq (.reg [⟨(some 14),(.faddr 0 (.t 2)),0,none⟩,⟨(some 15),(.load false [(.int .i64)] (.t 14)),0,none⟩,⟨(some 6),(.mv (.t 15)),0,none⟩] none) (.seq (.seq (.reg [⟨(some 16),(.faddr 1 (.t 2)),0,none⟩,⟨(some 17),(.load false [(.sl 2)] (.t 16)),0,none⟩,⟨(some 18),(.len 1 (.t 17)),0,none⟩,⟨(some 19),(.mv (.c (.int .i64 0))),0,none⟩] none) (.block 0 (.loop [19,18,17,1,6] (.seq (.reg [⟨(some 20),(.bin .num .lss (.t 19) (.t 18)),0,none⟩] none) (.seq (.cond (.t 20) .skip (.exit 0)) (.seq (.block 1 (.seq (.reg [⟨(some 21),(.iaddr 2 (.t 17) (.t 19)),0,none⟩,⟨(some 22),(.load true [.str,(.int .i64)] (.t 21)),0,none⟩,⟨(some 8),(.alloc (.agg [(.str []),(.int .i64 0)])),0,none⟩,⟨none,(.store 2 (.t 8) (.t 22)),1,none⟩] none) (.seq (.reg [⟨(some 23),(.mv (.t 1)),0,none⟩,⟨(some 24),(.mkfn 110 [] [(.t 8)]),0,none⟩,⟨(some 25),(.call (.c (.fn 109)) [(.t 23),(.t 24)]),0,none⟩,⟨(some 9),(.mv (.t 25)),2,none⟩] none) (.seq (.seq (.reg [⟨(some 26),(.mv (.t 9)),0,none⟩,⟨(some 27),(.bin .num .lss (.t 26) (.c (.int .i64 0))),0,none⟩] none) (.cond (.t 27) (.seq (.reg [⟨(some 4),(.mv (.c (.int .i64 0))),0,none⟩,⟨(some 5),(.mv (.c (.int .i64 7))),0,none⟩] none) .ret) .skip)) (.seq (.seq (.reg [⟨(some 28),(.mv (.t 1)),0,none⟩,⟨(some 29),(.mv (.t 9)),0,none⟩,⟨(some 30),(.iaddr 2 (.t 28) (.t 29)),0,none⟩,⟨(some 31),(.faddr 1 (.t 30)),0,none⟩,⟨(some 32),(.load false [(.int .i64)] (.t 31)),0,none⟩,⟨(some 10),(.mv (.t 32)),0,none⟩] none) (.seq (.reg [⟨(some 33),(.mv (.t 10)),0,none⟩,⟨(some 34),(.bin .num .lss (.t 33) (.c (.int .i64 (-1000000000)))),0,none⟩,⟨(some 35),(.mv (.t 34)),0,none⟩,⟨(some 36),(.mv (.t 10)),0,(some (35,false))⟩,⟨(some 37),(.bin .num .gtr (.t 36) (.c (.int .i64 1000000000))),0,(some (35,false))⟩,⟨(some 38),(.pick (.t 35) (.c (.bool true)) (.t 37)),0,none⟩] none) (.cond (.t 38) (.seq (.reg [⟨(some 4),(.mv (.c (.int .i64 0))),0,none⟩,⟨(some 5),(.mv (.c (.int .i64 2))),0,none⟩] none) .ret) .skip))) (.reg [⟨(some 39),(.mv (.t 6)),0,none⟩,⟨(some 40),(.faddr 1 (.t 8)),0,none⟩,⟨(some 41),(.load false [(.int .i64)] (.t 40)),0,none⟩,⟨(some 42),(.mv (.t 1)),0,none⟩,⟨(some 43),(.mv (.t 9)),0,none⟩,⟨(some 44),(.iaddr 2 (.t 42) (.t 43)),0,none⟩,⟨(some 45),(.faddr 1 (.t 44)),0,none⟩,⟨(some 46),(.load false [(.int .i64)] (.t 45)),0,none⟩,⟨(some 47),(.bin .num .mul (.t 41) (.t 46)),0,none⟩,⟨(some 48),(.bin .num .add (.t 39) (.t 47)),0,none⟩,⟨(some 6),(.mv (.t 48)),0,none⟩] (some [[],[],[1],[],[],[3,4],[5,3,4],[6,5,3,4],[2,7,1,6,5,3,4],[0,8,2,7,1,6,5,3,4],[9,0,1,2,3,4,5,6,7,8]]))))))) (.reg [⟨(some 49),(.bin .num .add (.t 19) (.c (.int .i64 1))),0,none⟩,⟨(some 19),(.mv (.t 49)),0,none⟩] none))))))) (.seq (.reg [⟨(some 50),(.mv (.t 6)),0,none⟩,⟨(some 4),(.mv (.t 50)),0,none⟩,⟨(some 5),(.mv (.c (.int .i64 0))),0,none⟩] none) .ret)))))
def Q3:List IRes:=[(.tmp 4),(.tmp 5)]
abbrev c1t:Nat:=51
def Gq:ZE:=Xi [(73,.pure (preT (fun x:Lin×Unit=>Ym x.1)) (Zg (fun x:Lin×Unit=>Zw x.1))),(109,.own (Qy 110) Dv)]
theorem c3s{G:PV->Prop}(l:Lin)(v:List Coef)(h:(Go.Pl.preT (fun(x:Lin×Unit)=>Ym x.1) [(.agg [(.int .i64 l.k),(.sl 2 false (List.map enc l.t))])])=true∧(∃ y0:Bool,AV.pv (Zg (fun(x:Lin×Unit)=>Zw x.1) [(.agg [(.int .i64 l.k),(.sl 2 false (List.map enc l.t))])])=AV.pv (enc y0)∧(if (!y0)=true then G ((.tup [(.int .i64 0),(.int .i64 1)]))else(At Gq 0 (Za Q3 G) QY 0 51 [(1,(.pv (.sl 2 false (List.map enc v)))),(6,(.pv (.int .i64 l.k))),(17,(.pv (.sl 2 false (List.map enc l.t)))),(18,(.pv (.int .i64 (↑(List.length (List.map enc l.t)):Int)))),(19,(.pv (.int .i64 0)))] [])))):Zc Gq 0 (Za Q3 G) QY [] (Yx 51 [enc l,enc v]):=Zc.tp (.req (.abs (Bool) (fun YY=>AV.pv (enc YY)) (.ask (.nil) (.nil)))) h (by kernel_rfl)
theorem a9n{G:PV->Prop}(l:Lin)(v:List Coef)(n i:Int)(h:if (decide (i<(↑(List.length l.t):Int)))=true then(decide (0<=i)&&decide (Int.toNat i<List.length (List.map enc l.t))&&Enc.sz Coef==2)=true∧(∃ y0:Coef,AV.pv (PV.rptr (PV.cells (List.getD (List.map enc l.t) (Int.toNat i) default)))=AV.pv (PV.rptr (PV.cells ((enc) y0)))∧((Qy 110 [(.pv (.sl 2 false (List.map enc v))),(.fn 110 [] [(.ptr 0 0)])] [(.box [(.pv (.str (PV.asStr (List.getD (PV.cells (enc y0)) 0 default)))),(.pv (.int .i64 (PV.asInt (List.getD (PV.cells (enc y0)) (0+1) default))))])])=true∧(if (decide (Zx (fun(t:Coef)=>Str.s t.v==PV.asStr (List.getD (PV.cells (enc y0)) 0 default)) (dec (enc v))<0))=true then G ((.tup [(.int .i64 0),(.int .i64 7)]))else((decide (0<=Zx (fun(t:Coef)=>Str.s t.v==PV.asStr (List.getD (PV.cells (enc y0)) 0 default)) (dec (enc v)))&&decide (Int.toNat (Zx (fun(t:Coef)=>Str.s t.v==PV.asStr (List.getD (PV.cells (enc y0)) 0 default)) (dec (enc v)))<List.length (List.map enc v))&&Enc.sz Coef==2)=true∧(∃ y1:Coef,AV.pv (PV.rptr (PV.cells (List.getD (List.map enc v) (Int.toNat (Zx (fun(t:Coef)=>Str.s t.v==PV.asStr (List.getD (PV.cells (enc y0)) 0 default)) (dec (enc v)))) default)))=AV.pv (PV.rptr (PV.cells ((enc) y1)))∧(if (decide (PV.asInt (List.getD (List.drop 1 (PV.cells (enc y1))) 0 default)<(-1000000000:Int)))=true then G ((.tup [(.int .i64 0),(.int .i64 2)]))else(if (decide (PV.asInt (List.getD (List.drop 1 (PV.cells (enc y1))) 0 default)>1000000000))=true then G ((.tup [(.int .i64 0),(.int .i64 2)]))else((decide (0<=Zx (fun(t:Coef)=>Str.s t.v==PV.asStr (List.getD (PV.cells (enc y0)) 0 default)) (dec (enc v)))&&decide (Int.toNat (Zx (fun(t:Coef)=>Str.s t.v==PV.asStr (List.getD (PV.cells (enc y0)) 0 default)) (dec (enc v)))<List.length (List.map enc v))&&Enc.sz Coef==2)=true∧(∃ y2:Coef,AV.pv (PV.rptr (PV.cells (List.getD (List.map enc v) (Int.toNat (Zx (fun(t:Coef)=>Str.s t.v==PV.asStr (List.getD (PV.cells (enc y0)) 0 default)) (dec (enc v)))) default)))=AV.pv (PV.rptr (PV.cells ((enc) y2)))∧(At Gq 0 (Za Q3 G) QY 0 51 [(1,(.pv (.sl 2 false (List.map enc v)))),(6,(.pv (.int .i64 (IntKind.wrap IntKind.i64 (n+IntKind.wrap IntKind.i64 (PV.asInt (List.getD (PV.cells (enc y0)) (0+1) default)*PV.asInt (List.getD (List.drop 1 (PV.cells (enc y2))) 0 default))))))),(17,(.pv (.sl 2 false (List.map enc l.t)))),(18,(.pv (.int .i64 (↑(List.length l.t):Int)))),(19,(.pv (.int .i64 (IntKind.wrap IntKind.i64 (i+1)))))] []))))))))))else(G ((.tup [(.int .i64 n),(.int .i64 0)])))):At Gq 0 (Za Q3 G) QY 0 51 [(1,.pv (enc v)),(6,.pv (.int .i64 n)),(17,.pv (enc l.t)),(18,.pv (.int .i64 l.t.length)),(19,.pv (.int .i64 i))] []:=At.tp (.lit (.ask (.req (.abs (Coef) (fun YY=>AV.pv (PV.rptr (PV.cells ((enc) YY)))) (.lit (.req (.keep (.lit (.ask (.nil) (.req (.abs (Coef) (fun YY=>AV.pv (PV.rptr (PV.cells ((enc) YY)))) (.lit (.lit (.ask (.lit (.lit (.lit (.nil)))) (.lit (.lit (.lit (.ask (.nil) (.req (.abs (Coef) (fun YY=>AV.pv (PV.rptr (PV.cells ((enc) YY)))) (.lit (.lit (.lit (.lit (.nil))))))))))))))))))))))) (.nil))) h (by kernel_rfl)
def a4y:IC:=(.seq (.reg [⟨(some 2),(.box 3 (.t 0)),0,none⟩,⟨(some 3),(.mv (.c (.bool false))),1,none⟩] none) (.seq (.reg [⟨(some 7),(.faddr 1 (.t 2)),0,none⟩,⟨(some 8),(.load true [(.int .i64),(.sl 2)] (.t 7)),0,none⟩,⟨(some 9),(.load false [(.sl 2)] (.t 1)),0,none⟩,⟨(some 10),(.call (.c (.fn 38)) [(.t 8),(.t 9)]),0,none⟩,⟨(some 6),(.mv (.t 10)),2,none⟩,⟨(some 11),(.extract (.t 6) 0),2,none⟩,⟨(some 12),(.extract (.t 6) 1),2,none⟩,⟨(some 4),(.mv (.t 11)),2,none⟩,⟨(some 5),(.mv (.t 12)),2,none⟩] none) (.seq (.reg [⟨(some 13),(.mv (.t 5)),0,none⟩,⟨(some 14),(.bin .num .neq (.t 13) (.c (.int .i64 0))),0,none⟩,⟨(some 15),(.mv (.t 14)),0,none⟩,⟨(some 16),(.mv (.t 4)),0,(some (15,false))⟩,⟨(some 17),(.bin .num .lss (.t 16) (.c (.int .i64 0))),0,(some (15,false))⟩,⟨(some 18),(.pick (.t 15) (.c (.bool true)) (.t 17)),0,none⟩,⟨(some 19),(.mv (.t 18)),0,none⟩,⟨(some 20),(.faddr 0 (.t 2)),0,(some (19,false))⟩,⟨(some 21),(.load false [.bool] (.t 20)),0,(some (19,false))⟩,⟨(some 22),(.mv (.t 21)),0,(some (19,false))⟩,⟨(some 23),(.mv (.t 4)),0,(some (22,true))⟩,⟨(some 24),(.bin .num .neq (.t 23) (.c (.int .i64 0))),0,(some (22,true))⟩,⟨(some 25),(.pick (.t 22) (.t 24) (.c (.bool false))),0,(some (19,false))⟩,⟨(some 26),(.pick (.t 19) (.c (.bool true)) (.t 25)),0,none⟩,⟨(some 3),(.mv (.t 26)),0,none⟩] none) .ret)))
def a6l:List IRes:=[(.tmp 3)]
abbrev c4a:Nat:=27
def c1b:ZE:=Xi [(38,.pure (preT (fun x:Lin×List Coef×Unit=>Ym x.1&&decide (x.2.1.length<=9223372036854775807))) (Zg (fun x:Lin×List Coef×Unit=>Yk x.1 x.2.1)))]
theorem c6a{G:AV×List AObj×List AObj->Prop}(f:Fact)(v:List Coef)(h:(Go.Pl.preT (fun(x:Lin×List Coef×Unit)=>Ym x.1&&decide (List.length x.2.1<=9223372036854775807)) [(.agg [(.int .i64 (Lin.k f.l)),(.sl 2 false (List.map enc (Lin.t f.l)))]),(.sl 2 false (List.map enc v))])=true∧(∃ y0:Int×Int,AV.pv (Zg (fun(x:Lin×List Coef×Unit)=>Yk x.1 x.2.1) [(.agg [(.int .i64 (Lin.k f.l)),(.sl 2 false (List.map enc (Lin.t f.l)))]),(.sl 2 false (List.map enc v))])=AV.pv (enc y0)∧(if (y0.2 != 0)=true then G (((.pv (.bool true)),([(.box [(.pv (.sl 2 false (List.map enc v)))])],[])))else(if (decide (y0.1<0))=true then G (((.pv (.bool true)),([(.box [(.pv (.sl 2 false (List.map enc v)))])],[])))else(if f.eq=true then G (((.pv (.bool (y0.1 != 0))),([(.box [(.pv (.sl 2 false (List.map enc v)))])],[])))else(G (((.pv (.bool false)),([(.box [(.pv (.sl 2 false (List.map enc v)))])],[]))))))))):Zc c1b 1 (Zh 1 a6l G) a4y [] (YH 27 [.pv (enc f),.ptr 0 0] [.box [.pv (enc v)]]):=Zc.to (.req (.abs (Int×Int) (fun YY=>AV.pv (enc YY)) (.lit (.ask (.lit (.lit (.lit (.lit (.lit (.lit (.lit (.nil)))))))) (.lit (.lit (.lit (.ask (.lit (.lit (.lit (.lit (.nil))))) (.lit (.lit (.ask (.lit (.lit (.lit (.lit (.lit (.nil)))))) (.lit (.lit (.lit (.lit (.nil)))))))))))))))) h (by kernel_rfl)
def KZ:IC:=QN
def Js:List IRes:=[(.tmp 4)]
abbrev c1f:Nat:=19
def DK:ZE:=Xi [(239,.own Je Gg)]
theorem c4t{G:AV×List AObj×List AObj->Prop}(l:List Fact)(v:List Coef)(h:At DK 1 (Zh 1 Js G) KZ 0 19 [(0,(.pv (.sl 3 false (List.map enc l)))),(1,(.fn 239 [] [(.ptr 0 0)])),(7,(.pv (.int .i64 (↑(List.length (List.map enc l)):Int)))),(8,(.pv (.int .i64 0)))] [(.obj (.box [(.pv (.sl 2 false (List.map enc v)))]))]):Zc DK 1 (Zh 1 Js G) KZ [] (YH 19 [.pv (enc l),.fn 239 [] [.ptr 0 0]] [.box [.pv (enc v)]]):=Zc.to (.nil) h (by kernel_rfl)
theorem b0u{G:AV×List AObj×List AObj->Prop}(l:List Fact)(v:List Coef)(i:Int)(h:if (decide (i<(↑(List.length l):Int)))=true then(decide (0<=i)&&decide (Int.toNat i<List.length (List.map enc l))&&Enc.sz Fact==3)=true∧(∃ y0:Fact,AV.pv (PV.rptr (PV.cells (List.getD (List.map enc l) (Int.toNat i) default)))=AV.pv (PV.rptr (PV.cells ((enc) y0)))∧((Je [(.pv (.agg [(.bool (PV.asBool (List.getD (PV.cells (enc y0)) 0 default))),(.int .i64 (PV.asInt (List.getD (PV.cells (enc y0)) (0+1) default))),(.sl 2 false (PV.asXs (List.getD (PV.cells (enc y0)) (0+1+1) default)))])),(.ptr 0 0)] [(.box [(.pv (.sl 2 false (List.map enc v)))])])=true∧(if (!Ya (dec (PV.agg (Qf (PV.cells (enc y0)) 0 [Sh.bool,Sh.int .i64,Sh.sl 2]))) (dec (enc v)))=true then G (((.pv (.int .i64 i)),([(.box [(.pv (.sl 2 false (List.map enc v)))])],[])))else(At DK 1 (Zh 1 Js G) KZ 0 19 [(0,(.pv (.sl 3 false (List.map enc l)))),(1,(.fn 239 [] [(.ptr 0 0)])),(7,(.pv (.int .i64 (↑(List.length l):Int)))),(8,(.pv (.int .i64 (IntKind.wrap IntKind.i64 (i+1)))))] [(.obj (.box [(.pv (.sl 2 false (List.map enc v)))]))]))))else(G (((.pv (.int .i64 (-1))),([(.box [(.pv (.sl 2 false (List.map enc v)))])],[]))))):At DK 1 (Zh 1 Js G) KZ 0 19 [(0,.pv (enc l)),(1,.fn 239 [] [.ptr 0 0]),(7,.pv (.int .i64 l.length)),(8,.pv (.int .i64 i))] [.obj (.box [.pv (enc v)])]:=At.to (.lit (.ask (.req (.abs (Fact) (fun YY=>AV.pv (PV.rptr (PV.cells ((enc) YY)))) (.lit (.req (.keep (.ask (.nil) (.lit (.nil)))))))) (.nil))) h (by kernel_rfl)
def FT:IC:=TB
def LK:List IRes:=[(.tmp 4)]
abbrev c1e:Nat:=9
def b1k:ZE:=Xi [(227,.own (Wo 239) Dm)]
theorem c4g{G:AV×List AObj×List AObj->Prop}(l:List Fact)(v:List Coef)(h:(Wo 239 [(.pv (.sl 3 false (List.map enc l))),(.fn 239 [] [(.ptr 0 0)])] [(.box [(.pv (.sl 2 false (List.map enc v)))])])=true∧(G (((.pv (.bool (decide (Zx (fun(f:Fact)=> !Ya f (dec (enc v))) (dec (enc l)) ≥ 0)))),([(.box [(.pv (.sl 2 false (List.map enc v)))])],[]))))):Zc b1k 1 (Zh 1 LK G) FT [] (YH 9 [.pv (enc l),.fn 239 [] [.ptr 0 0]] [.box [.pv (enc v)]]):=Zc.to (.req (.keep (.lit (.nil)))) h (by kernel_rfl)
def Hd:IC:=(.seq (.reg [⟨(some 3),(.box 1 (.t 1)),0,none⟩,⟨(some 4),(.mv (.c (.bool false))),1,none⟩] none) (.seq (.reg [⟨(some 5),(.mv (.t 0)),0,none⟩,⟨(some 6),(.mkfn 239 [] [(.t 3)]),0,none⟩,⟨(some 7),(.call (.c (.fn 161)) [(.t 5),(.t 6)]),0,none⟩,⟨(some 8),(.un .not (.t 7)),2,none⟩,⟨(some 4),(.mv (.t 8)),2,none⟩] none) .ret))
def H9:List IRes:=[(.tmp 4)]
abbrev a0n:Nat:=9
def Cw:ZE:=Xi [(161,.own (Wo 239) Dz)]
theorem a7p{G:PV->Prop}(l:List Fact)(v:List Coef)(h:(Wo 239 [(.pv (.sl 3 false (List.map enc l))),(.fn 239 [] [(.ptr 0 0)])] [(.box [(.pv (.sl 2 false (List.map enc v)))])])=true∧(G ((.bool (!List.any (dec (enc l)) fun(f:Fact)=> !Ya f (dec (enc v))))))):Zc Cw 0 (Za H9 G) Hd [] (Yx 9 [enc l,enc v]):=Zc.tp (.req (.keep (.nil))) h (by kernel_rfl)
end Go.Pl

namespace Go.Pl
open Go.RowKit
open Enc (enc dec is)
open EncL (encL decL isL)
theorem b4v: ∀ a:Fact×Unit,Ym a.1.l=true->Zc a8y 0 (Za L9 (Zf (!(Zw a.1.l)))) LY [] (Yx c0f (encL a)):=by
 rintro⟨f,⟨⟩⟩ h
 exact c4v f ⟨Zl (f.l,()) rfl h,Zi (f.l,()) rfl (ZJ rfl)⟩
theorem GG{l:List Fact}(h:Zm l=true):l.length<=9223372036854775807∧ ∀ f∈l,Ym f.l=true:=by
 simp only[Zm,Bool.and_eq_true,decide_eq_true_eq,List.all_eq_true]at h
 exact h
theorem b2r(l:List Fact)(h:Zm l=true): ∀ (m i:Nat),m+i=l.length->(∀ j (hj:j<l.length),j<i->(!(Zw l[j].l))=false) ->
  At CZ 0 (Za K3 (Zf (Zx (fun f:Fact=> !(Zw f.l)) l))) QN 0 19 [(0,.pv (enc l)),(1,.pv (.fn 162)),(7,.pv (.int .i64 l.length)),(8,.pv (.int .i64 i))] []:=by
 obtain⟨hl,hs⟩:=GG h
 intro m
 induction m with
 | zero=>
  intro i hi hno
  refine a5v l i (ZV (Z8 (by omega)) (Qm ?_))
  rw[UH _ _ (fun j hj=>hno j hj (by omega))]
 | succ m ih=>
  intro i hi hno
  have hlt:i<l.length:=by omega
  refine a5v l i (ZQ (Z4 hlt) ⟨Zu hlt rfl,ZG hlt ⟨Zl (l[i],()) rfl (hs _ (List.getElem_mem hlt)),Zi (l[i],()) rfl (Xe (fun hb=> ?_) fun hb=> ?_)⟩⟩)
  ·exact Qm (Uy (fun f:Fact=> !(Zw f.l)) l i hlt hno hb).symm
  ·rw[next (by omega)]
   refine ih (i+1) (by omega) fun j hj hji=> ?_
   by_cases e:j=i
   ·subst e;exact hb
   ·exact hno j hj (by omega)
theorem b5w: ∀ a:List Fact×FnV 162×Unit,Zm a.1=true->Zc CZ 0 (Za K3 (Zf (Zx (fun f:Fact=> !(Zw f.l)) a.1))) QN [] (Yx c2n (encL a)):=by
 rintro⟨l,g,⟨⟩⟩ h
 refine c4r l ?_
 rw[List.length_map]
 exact b2r l h l.length 0 (by omega) (fun j hj h=>by omega)
theorem b4a: ∀ a:List Fact×FnV 162×Unit,Zm a.1=true->Zc a7a 0 (Za Lh (Zf (a.1.any fun f:Fact=> !(Zw f.l)))) TB [] (Yx b9y (encL a)):=by
 rintro⟨l,g,⟨⟩⟩ h
 exact c4d l ⟨Zl (l,{},()) rfl h,Zi (l,{},()) rfl (ZJ (Xy _ _))⟩
theorem Ee(l:List Fact)(p:Fact->Bool):(!(l.any fun f=> !(p f)))=l.all p:=by
 induction l with
 | nil=>rfl
 | cons x l ih=>simp only[List.any_cons,List.all_cons,Bool.not_or,Bool.not_not,ih]
theorem FO: ∀ a:List Fact×Unit,Zm a.1=true->Zc CS 0 (Za Ht (Zf (XA a.1))) Hf [] (Yx EZ (encL a)):=by
 rintro⟨l,⟨⟩⟩ h
 exact b1y l ⟨Zl (l,{},()) rfl h,Zi (l,{},()) rfl (ZJ (Ee l _))⟩
theorem b7r: ∀ args os,Bh args os=true->Zc a5w os.length (Zh os.length FB fun r=>r=Rk args os) Fy [] (YH c1r args os):=by
 intro args os h
 unfold Bh at h
 split at h
 ·rename_i x v c
  obtain⟨x,rfl⟩:=Yu h
  exact c4s x v c (by simp only[Rk,Enc.dec_enc])
 ·cases h
theorem a9v(l:List Coef)(v:List UInt8)(c:Int)(hl:l.length<=9223372036854775807)(H:AV×List AObj×List AObj)(hH:H=(.pv (.int .i64 (Zx (fun t:Coef=>t.v.s==v) l)),[.box [.pv (.str v),.pv (.int .i64 c)]],[])): ∀ (m i:Nat),m+i=l.length->(∀ j (hj:j<l.length),j<i->(l[j].v.s==v)=false) ->
  At CL 1 (Zh 1 K8 fun r=>r=H) Q6 0 19 [(0,.pv (enc l)),(1,.fn 110 [] [.ptr 0 0]),(7,.pv (.int .i64 l.length)),(8,.pv (.int .i64 i))] [.obj (.box [.pv (.str v),.pv (.int .i64 c)])]:=by
 subst hH
 intro m
 induction m with
 | zero=>
  intro i hi hno
  refine a9s l v c i (ZV (Z8 (by omega)) ?_)
  rw[UH _ _ (fun j hj=>hno j hj (by omega))]
 | succ m ih=>
  intro i hi hno
  have hlt:i<l.length:=by omega
  refine a9s l v c i (ZQ (Z4 hlt) ⟨Zu hlt rfl,ZG hlt ⟨Z5 l[i],Xe (fun hb=> ?_) fun hb=> ?_⟩⟩)
  ·rw[Uy (fun t:Coef=>t.v.s==v) l i hlt hno hb]
  ·rw[next (by omega)]
   refine ih (i+1) (by omega) fun j hj hji=> ?_
   by_cases e:j=i
   ·subst e;exact hb
   ·exact hno j hj (by omega)
theorem b3p: ∀ args os,Qy 110 args os=true->Zc CL os.length (Zh os.length K8 fun r=>r=Dv args os) Q6 [] (YH c0r args os):=by
 intro args os h
 unfold Qy at h
 split at h
 ·rename_i l g v c
  simp only[Bool.and_eq_true,beq_iff_eq,decide_eq_true_eq]at h
  obtain⟨⟨rfl,hl⟩,h2⟩:=h
  obtain⟨l,rfl⟩:=Yu hl
  rw[Enc.dec_enc]at h2
  refine c4j l v c ?_
  rw[List.length_map]
  exact a9v l v c h2 _ (by simp only[Dv,Enc.dec_enc]) l.length 0 (by omega) (fun j hj h=>by omega)
 ·cases h
theorem TJ(v:List Coef)(s:Str):(Zx (fun t:Coef=>t.v.s==s.s) v<0∧Uz v s=none) ∨ ∃ (i:Nat) (hi:i<v.length),Zx (fun t:Coef=>t.v.s==s.s) v=i∧Uz v s=some v[i].c:=by
 unfold Zx Uz
 have hp:(fun t:Coef=>decide (t.v=s))=fun t:Coef=>t.v.s==s.s:=by
  funext t
  by_cases h:t.v=s
  ·simp[h]
  ·have : ¬ t.v.s=s.s:=fun e=>h (by cases hv:t.v;cases s;rw[hv]at e;cases e;rfl)
   simp[h,this]
 rw[hp]
 cases h:v.findIdx? (fun t:Coef=>t.v.s==s.s)with
 | none=>
  left
  refine⟨by show(-1:Int)<0;omega,?_⟩
  rw[List.findIdx?_eq_none_iff]at h
  have:v.find? (fun t:Coef=>t.v.s==s.s)=none:=List.find?_eq_none.2 fun x hx=>by simp[h x hx]
  rw[this];rfl
 | some i=>
  right
  have h':=h
  rw[List.findIdx?_eq_some_iff_getElem]at h
  obtain⟨hi,h1,h2⟩:=h
  refine⟨i,hi,rfl,?_⟩
  have:v.find? (fun t:Coef=>t.v.s==s.s)=some v[i]:=by
   rw[List.find?_eq_some_iff_getElem]
   exact⟨h1,i,hi,rfl,fun j hj=>by simpa using h2 j hj⟩
  rw[this];rfl
theorem a6y(l:Lin)(v:List Coef)(hl:l.t.length<=9223372036854775807)(hv:v.length<=9223372036854775807): ∀ (m i:Nat) (n:Int),m+i=l.t.length ->
  At Gq 0 (Za Q3 (Zf (QX v n (l.t.drop i)))) QY 0 51 [(1,.pv (enc v)),(6,.pv (.int .i64 n)),(17,.pv (enc l.t)),(18,.pv (.int .i64 l.t.length)),(19,.pv (.int .i64 i))] []:=by
 intro m
 induction m with
 | zero=>
  intro i n hi
  refine a9n l v n i (ZV (Z8 (by omega)) ?_)
  rw[List.drop_of_length_le (show l.t.length<=i by omega)]
  exact⟨rfl,rfl⟩
 | succ m ih=>
  intro i n hi
  have hlt:i<l.t.length:=by omega
  refine a9n l v n i (ZQ (Z4 hlt) ⟨Zu hlt rfl,ZG hlt ?_⟩)
  rw[List.drop_eq_getElem_cons hlt,QX,next (by omega)]
  have e0:PV.asStr (List.getD (PV.cells (enc l.t[i])) 0 default)=l.t[i].v.s:=rfl
  simp only[e0,Enc.dec_enc]
  refine⟨by show Qy _ [.pv (enc v),_] _=true;simp[Qy,hv],?_⟩
  rcases TJ v l.t[i].v with ⟨h1,h2⟩|⟨k,hk,h1,h2⟩
  ·rw[h2]
   exact ZQ (by simpa using h1) ⟨rfl,rfl⟩
  ·rw[h2]
   simp only[h1]
   refine ZV (by simp) ⟨Zu hk rfl,ZG hk ?_⟩
   refine We (fun h3=> ?_) fun h3=>We (fun h4=> ?_) fun h4=>⟨Zu hk rfl,ZG hk ?_⟩
   ·have h3:v[k].c < -1000000000:=h3
    rw[if_pos h3];exact⟨rfl,rfl⟩
   ·have h3 : ¬ v[k].c < -1000000000:=h3
    have h4:v[k].c>1000000000:=h4
    rw[if_neg h3,if_pos h4];exact⟨rfl,rfl⟩
   ·have h3 : ¬ v[k].c < -1000000000:=h3
    have h4 : ¬ v[k].c>1000000000:=h4
    rw[if_neg h3,if_neg h4]
    exact ih (i+1) _ (by omega)
theorem b6g: ∀ a:Lin×List Coef×Unit,(Ym a.1&&decide (a.2.1.length<=9223372036854775807))=true->Zc Gq 0 (Za Q3 (Zf (Yk a.1 a.2.1))) QY [] (Yx c1t (encL a)):=by
 rintro⟨l,v,⟨⟩⟩ h
 simp only[Bool.and_eq_true,decide_eq_true_eq]at h
 have hl:l.t.length<=9223372036854775807:=by
  have:=h.1
  simp only[Ym,YW,Bool.and_eq_true,decide_eq_true_eq]at this
  exact this.1
 refine c3s l v ⟨Zl (l,()) rfl h.1,Zi (l,()) rfl ?_⟩
 show if (!Zw l)=true then Zf (Yk l v) _ else At Gq 0 (Za Q3 (Zf (Yk l v))) QY 0 51 _ _
 unfold Yk
 refine Vq (fun hv=> ?_) fun hv=> ?_
 ·rw[if_neg (by rw[hv];simp)]
  exact⟨rfl,rfl⟩
 ·rw[if_pos hv,List.length_map]
  exact a6y l v hl h.2 l.t.length 0 l.k (by omega)
theorem b9a: ∀ args os,Je args os=true->Zc c1b os.length (Zh os.length a6l fun r=>r=Gg args os) a4y [] (YH c4a args os):=by
 intro args os h
 unfold Je at h
 split at h
 ·rename_i f v
  simp only[Bool.and_eq_true,decide_eq_true_eq]at h
  obtain⟨⟨⟨hf,hv⟩,h1⟩,h2⟩:=h
  obtain⟨f,rfl⟩:=Yu hf
  obtain⟨v,rfl⟩:=Yu hv
  rw[Enc.dec_enc]at h1 h2
  refine c6a f v ⟨Zl (f.l,v,()) rfl (by simp only[h1,Bool.true_and];exact decide_eq_true h2),Zi (f.l,v,()) rfl ?_⟩
  show if ((Yk f.l v).2 != 0)=true then(_:AV×List AObj×List AObj)=Gg _ _ else _
  have hval:Gg [.pv (enc f),.ptr 0 0] [.box [.pv (enc v)]]=(.pv (.bool (!Ya f v)),[.box [.pv (enc v)]],[]):=by simp only[Gg,Enc.dec_enc]
  rw[hval]
  unfold Ya
  by_cases a1:(Yk f.l v).2=0
  ·refine ZV (by simp[a1]) (We (fun a2=> ?_) fun a2=>Xe (fun a3=> ?_) fun a3=> ?_)
   ·have a2:(Yk f.l v).1<0:=a2
    simp[a2];rfl
   ·have a2 : ¬ (Yk f.l v).1<0:=a2
    rw[decide_eq_true a1,decide_eq_false a2,a3]
    simp only[Bool.not_false,Bool.true_and,Bool.not_true,Bool.false_or]
    rfl
   ·have a2 : ¬ (Yk f.l v).1<0:=a2
    rw[decide_eq_true a1,decide_eq_false a2,a3]
    rfl
  ·refine ZQ (by simpa using a1) ?_
   rw[decide_eq_false a1]
   rfl
 ·cases h
theorem a6i(l:List Fact)(v:List Coef)(hl:Zm l=true)(hv:v.length<=9223372036854775807)(H:AV×List AObj×List AObj)(hH:H=(.pv (.int .i64 (Zx (fun f=> !Ya f v) l)),[.box [.pv (enc v)]],[])): ∀ (m i:Nat),m+i=l.length->(∀ j (hj:j<l.length),j<i->(!Ya l[j] v)=false) ->
  At DK 1 (Zh 1 Js fun r=>r=H) KZ 0 19 [(0,.pv (enc l)),(1,.fn 239 [] [.ptr 0 0]),(7,.pv (.int .i64 l.length)),(8,.pv (.int .i64 i))] [.obj (.box [.pv (enc v)])]:=by
 subst hH
 obtain⟨hl,hs⟩:=GG hl
 intro m
 induction m with
 | zero=>
  intro i hi hno
  refine b0u l v i (ZV (Z8 (by omega)) ?_)
  rw[UH _ _ (fun j hj=>hno j hj (by omega))]
  rfl
 | succ m ih=>
  intro i hi hno
  have hlt:i<l.length:=by omega
  have hsi:=hs _ (List.getElem_mem hlt)
  refine b0u l v i (ZQ (Z4 hlt) ⟨Zu hlt rfl,ZG hlt ⟨?_,?_⟩⟩)
  ·show Je [.pv (enc l[i]),.ptr 0 0] [.box [.pv (enc v)]]=true
   simp[Je,hsi,hv]
  ·have e:Ya (dec (enc l[i]:PV)) (dec (enc v:PV))=Ya l[i] v:=by rw[Enc.dec_enc,Enc.dec_enc]
   show if (!Ya (dec (enc l[i]:PV)) (dec (enc v:PV)))=true then _ else _
   rw[e]
   refine Xe (fun hb=> ?_) fun hb=> ?_
   ·rw[Uy (fun f=> !Ya f v) l i hlt hno hb]
    rfl
   ·rw[next (by omega)]
    refine ih (i+1) (by omega) fun j hj hji=> ?_
    by_cases e:j=i
    ·subst e;exact hb
    ·exact hno j hj (by omega)
theorem b6e: ∀ args os,Wo 239 args os=true->Zc DK os.length (Zh os.length Js fun r=>r=Dm args os) KZ [] (YH c1f args os):=by
 intro args os h
 unfold Wo at h
 split at h
 ·rename_i l g v
  simp only[Bool.and_eq_true,beq_iff_eq,decide_eq_true_eq]at h
  obtain⟨⟨⟨⟨rfl,hl⟩,hv⟩,h1⟩,h2⟩:=h
  obtain⟨l,rfl⟩:=Yu hl
  obtain⟨v,rfl⟩:=Yu hv
  rw[Enc.dec_enc]at h1 h2
  refine c4t l v ?_
  rw[List.length_map]
  exact a6i l v h1 h2 _ (by simp only[Dm,Enc.dec_enc]) l.length 0 (by omega) (fun j hj h=>by omega)
 ·cases h
theorem b6j: ∀ args os,Wo 239 args os=true->Zc b1k os.length (Zh os.length LK fun r=>r=Dz args os) FT [] (YH c1e args os):=by
 intro args os h
 have h':=h
 unfold Wo at h
 split at h
 ·rename_i l g v
  simp only[Bool.and_eq_true,beq_iff_eq,decide_eq_true_eq]at h
  obtain⟨⟨⟨⟨rfl,hl⟩,hv⟩,h1⟩,h2⟩:=h
  obtain⟨l,rfl⟩:=Yu hl
  obtain⟨v,rfl⟩:=Yu hv
  refine c4g l v ⟨h',?_⟩
  simp only[Dz,Enc.dec_enc,Xy]
  rfl
 ·cases h
theorem M3: ∀ a:List Fact×List Coef×Unit,(Zm a.1&&decide (a.2.1.length<=9223372036854775807))=true->Zc Cw 0 (Za H9 (Zf (a.1.all fun f=>Ya f a.2.1))) Hd [] (Yx a0n (encL a)):=by
 rintro⟨l,v,⟨⟩⟩ h
 refine a7p l v ⟨?_,?_⟩
 ·show Wo _ [.pv (enc l),_] [.box [.pv (enc v)]]=true
  simpa [Wo]using h
 ·rw[Enc.dec_enc,Enc.dec_enc]
  exact ZJ (Ee l _)
end Go.Pl

namespace Go.Pl
open Go.RowKit
open Enc (enc dec is)
open EncL (encL decL isL)
set_option maxRecDepth 100000
end Go.Pl

namespace Go.Pl
open Go.RowKit
open Enc (enc dec is)
open EncL (encL decL isL)
end Go.Pl

namespace Go.Pl
open Go.RowKit
open Enc (enc dec is)
open EncL (encL decL isL)
mutual
def Li:Cert->Int->Bool
 | .mk _ m l ks,n=> !decide ((m.length:Int)>60)&&(J6 l 8&&(!decide (n<1)&&(!decide ((ks.length:Int)>n)&&G9 ks n)))
def G9:List Cert->Int->Bool
 | [],_=>true
 | c::cs,n=>Li c (Cu (n - 1))&&G9 cs (Cu (n - Cc c))
end
end Go.Pl

namespace Go.Pl
open Go.RowKit
open Enc (enc dec is)
open EncL (encL decL isL)
set_option maxRecDepth 100000
end Go.Pl

namespace Go.Pl
open Go.RowKit
open Enc (enc dec is)
open EncL (encL decL isL)
set_option maxRecDepth 100000
def Tv:IC:=(.seq (.reg [⟨(some 2),(.mv (.c (.bool false))),0,none⟩] none) (.seq (.reg [⟨(some 3),(.mv (.t 0)),0,none⟩,⟨(some 4),(.bin .num .geq (.t 3) (.c (.int .u8 48))),0,none⟩,⟨(some 5),(.mv (.t 4)),0,none⟩,⟨(some 6),(.mv (.t 0)),0,(some (5,true))⟩,⟨(some 7),(.bin .num .leq (.t 6) (.c (.int .u8 57))),0,(some (5,true))⟩,⟨(some 8),(.pick (.t 5) (.t 7) (.c (.bool false))),0,none⟩,⟨(some 2),(.mv (.t 8)),0,none⟩] none) .ret))
def Rj:List IRes:=[(.tmp 2)]
abbrev b4o:Nat:=9
def M7:ZE:=Xi []
theorem c1u{G:PV->Prop}(c:UInt8)(h:if (decide ((↑(UInt8.toNat c):Int) ≥ 48))=true then G ((.bool (decide ((↑(UInt8.toNat c):Int)<=57))))else(G ((.bool false)))):Zc M7 0 (Za Rj G) Tv [] (Yx 9 [enc c]):=Zc.tp (.lit (.ask (.lit (.lit (.lit (.nil)))) (.lit (.lit (.nil))))) h (by kernel_rfl)
def RA:IC:=(.seq (.reg [⟨(some 2),(.mv (.c (.bool false))),0,none⟩] none) (.seq (.reg [⟨(some 3),(.mv (.t 0)),0,none⟩,⟨(some 4),(.bin .num .geq (.t 3) (.c (.int .u8 97))),0,none⟩,⟨(some 5),(.mv (.t 4)),0,none⟩,⟨(some 6),(.mv (.t 0)),0,(some (5,true))⟩,⟨(some 7),(.bin .num .leq (.t 6) (.c (.int .u8 122))),0,(some (5,true))⟩,⟨(some 8),(.pick (.t 5) (.t 7) (.c (.bool false))),0,none⟩,⟨(some 2),(.mv (.t 8)),0,none⟩] none) .ret))
def Tq:List IRes:=[(.tmp 2)]
abbrev b5b:Nat:=9
def Ls:ZE:=Xi []
theorem b8z{G:PV->Prop}(c:UInt8)(h:if (decide ((↑(UInt8.toNat c):Int) ≥ 97))=true then G ((.bool (decide ((↑(UInt8.toNat c):Int)<=122))))else(G ((.bool false)))):Zc Ls 0 (Za Tq G) RA [] (Yx 9 [enc c]):=Zc.tp (.lit (.ask (.lit (.lit (.lit (.nil)))) (.lit (.lit (.nil))))) h (by kernel_rfl)
def Kg:IC:=(.seq (.reg [⟨(some 2),(.mv (.c (.bool false))),0,none⟩] none) (.seq (.reg [⟨(some 3),(.mv (.t 0)),0,none⟩,⟨(some 4),(.bin .num .geq (.t 3) (.c (.int .i64 (-1000000)))),0,none⟩,⟨(some 5),(.mv (.t 4)),0,none⟩,⟨(some 6),(.mv (.t 0)),0,(some (5,true))⟩,⟨(some 7),(.bin .num .leq (.t 6) (.c (.int .i64 1000000))),0,(some (5,true))⟩,⟨(some 8),(.pick (.t 5) (.t 7) (.c (.bool false))),0,none⟩,⟨(some 2),(.mv (.t 8)),0,none⟩] none) .ret))
def Gn:List IRes:=[(.tmp 2)]
abbrev EU:Nat:=9
def BG:ZE:=Xi []
theorem a7x{G:PV->Prop}(n:Int)(h:if (decide (n ≥ (-1000000:Int)))=true then G ((.bool (decide (n<=1000000))))else(G ((.bool false)))):Zc BG 0 (Za Gn G) Kg [] (Yx 9 [enc n]):=Zc.tp (.lit (.ask (.lit (.lit (.lit (.nil)))) (.lit (.lit (.nil))))) h (by kernel_rfl)
def Fg:IC:=Kg
def FW:List IRes:=[(.tmp 2)]
abbrev c0u:Nat:=9
def a7l:ZE:=Xi []
theorem c4b{G:PV->Prop}(n:Int)(h:if (decide (n ≥ (-1000000:Int)))=true then G ((.bool (decide (n<=1000000))))else(G ((.bool false)))):Zc a7l 0 (Za FW G) Fg [] (Yx 9 [enc n]):=Zc.tp (.lit (.ask (.lit (.lit (.lit (.nil)))) (.lit (.lit (.nil))))) h (by kernel_rfl)
def Xt:IC:=(.seq (.reg [⟨(some 2),(.mv (.c (.bool false))),0,none⟩] none) (.seq (.seq (.reg [⟨(some 5),(.mv (.t 0)),0,none⟩,⟨(some 6),(.len 0 (.t 5)),0,none⟩,⟨(some 7),(.bin .num .eql (.t 6) (.c (.int .i64 0))),0,none⟩,⟨(some 8),(.mv (.t 7)),0,none⟩,⟨(some 9),(.mv (.t 0)),0,(some (8,false))⟩,⟨(some 10),(.len 0 (.t 9)),0,(some (8,false))⟩,⟨(some 11),(.bin .num .gtr (.t 10) (.c (.int .i64 30))),0,(some (8,false))⟩,⟨(some 12),(.pick (.t 8) (.c (.bool true)) (.t 11)),0,none⟩] none) (.cond (.t 12) (.seq (.reg [⟨(some 2),(.mv (.c (.bool false))),0,none⟩] none) .ret) .skip)) (.seq (.seq (.reg [⟨(some 13),(.mv (.t 0)),0,none⟩,⟨(some 14),(.index (.t 13) (.c (.int .i64 0))),0,none⟩,⟨(some 15),(.bin .num .eql (.t 14) (.c (.int .u8 95))),0,none⟩] none) (.cond (.t 15) (.seq (.seq (.reg [⟨(some 16),(.mv (.t 0)),0,none⟩,⟨(some 17),(.len 0 (.t 16)),0,none⟩,⟨(some 18),(.bin .num .lss (.t 17) (.c (.int .i64 2))),0,none⟩,⟨(some 19),(.mv (.t 18)),0,none⟩,⟨(some 20),(.mv (.t 0)),0,(some (19,false))⟩,⟨(some 21),(.len 0 (.t 20)),0,(some (19,false))⟩,⟨(some 22),(.bin .num .gtr (.t 21) (.c (.int .i64 10))),0,(some (19,false))⟩,⟨(some 23),(.pick (.t 19) (.c (.bool true)) (.t 22)),0,none⟩,⟨(some 24),(.mv (.t 23)),0,none⟩,⟨(some 25),(.mv (.t 0)),0,(some (24,false))⟩,⟨(some 26),(.index (.t 25) (.c (.int .i64 1))),0,(some (24,false))⟩,⟨(some 27),(.bin .num .eql (.t 26) (.c (.int .u8 48))),0,(some (24,false))⟩,⟨(some 28),(.pick (.t 24) (.c (.bool true)) (.t 27)),0,none⟩] none) (.cond (.t 28) (.seq (.reg [⟨(some 2),(.mv (.c (.bool false))),0,none⟩] none) .ret) .skip)) (.seq (.seq (.reg [⟨(some 3),(.mv (.c (.int .i64 1))),0,none⟩] none) (.block 0 (.loop [3,0] (.seq (.seq (.reg [⟨(some 29),(.mv (.t 3)),0,none⟩,⟨(some 30),(.mv (.t 0)),0,none⟩,⟨(some 31),(.len 0 (.t 30)),0,none⟩,⟨(some 32),(.bin .num .lss (.t 29) (.t 31)),0,none⟩] none) (.cond (.t 32) .skip (.exit 0))) (.seq (.block 1 (.seq (.reg [⟨(some 35),(.mv (.t 0)),0,none⟩,⟨(some 36),(.mv (.t 3)),0,none⟩,⟨(some 37),(.index (.t 35) (.t 36)),0,none⟩,⟨(some 38),(.call (.c (.fn 155)) [(.t 37)]),0,none⟩,⟨(some 39),(.un .not (.t 38)),2,none⟩] none) (.cond (.t 39) (.seq (.reg [⟨(some 2),(.mv (.c (.bool false))),0,none⟩] none) .ret) .skip))) (.reg [⟨(some 33),(.mv (.t 3)),0,none⟩,⟨(some 34),(.bin .num .add (.t 33) (.c (.int .i64 1))),0,none⟩,⟨(some 3),(.mv (.t 34)),0,none⟩] none)))))) (.seq (.reg [⟨(some 2),(.mv (.c (.bool true))),0,none⟩] none) .ret))) .skip)) (.seq (.seq (.reg [⟨(some 4),(.mv (.c (.int .i64 0))),0,none⟩] none) (.block 2 (.loop [4,0] (.seq (.seq (.reg [⟨(some 40),(.mv (.t 4)),0,none⟩,⟨(some 41),(.mv (.t 0)),0,none⟩,⟨(some 42),(.len 0 (.t 41)),0,none⟩,⟨(some 43),(.bin .num .lss (.t 40) (.t 42)),0,none⟩] none) (.cond (.t 43) .skip (.exit 2))) (.seq (.block 3 (.seq (.reg [⟨(some 46),(.mv (.t 0)),0,none⟩,⟨(some 47),(.mv (.t 4)),0,none⟩,⟨(some 48),(.index (.t 46) (.t 47)),0,none⟩,⟨(some 49),(.call (.c (.fn 156)) [(.t 48)]),0,none⟩,⟨(some 50),(.un .not (.t 49)),2,none⟩,⟨(some 51),(.mv (.t 50)),2,none⟩,⟨(some 52),(.mv (.t 4)),2,(some (51,true))⟩,⟨(some 53),(.bin .num .eql (.t 52) (.c (.int .i64 0))),2,(some (51,true))⟩,⟨(some 54),(.mv (.t 53)),2,(some (51,true))⟩,⟨(some 55),(.mv (.t 0)),2,(some (54,false))⟩,⟨(some 56),(.mv (.t 4)),2,(some (54,false))⟩,⟨(some 57),(.index (.t 55) (.t 56)),2,(some (54,false))⟩,⟨(some 58),(.call (.c (.fn 155)) [(.t 57)]),2,(some (54,false))⟩,⟨(some 59),(.un .not (.t 58)),4,(some (54,false))⟩,⟨(some 60),(.pick (.t 54) (.c (.bool true)) (.t 59)),4,(some (51,true))⟩,⟨(some 61),(.pick (.t 51) (.t 60) (.c (.bool false))),4,none⟩] none) (.cond (.t 61) (.seq (.reg [⟨(some 2),(.mv (.c (.bool false))),0,none⟩] none) .ret) .skip))) (.reg [⟨(some 44),(.mv (.t 4)),0,none⟩,⟨(some 45),(.bin .num .add (.t 44) (.c (.int .i64 1))),0,none⟩,⟨(some 4),(.mv (.t 45)),0,none⟩] none)))))) (.seq (.reg [⟨(some 2),(.mv (.c (.bool true))),0,none⟩] none) .ret)))))
def Xw:List IRes:=[(.tmp 2)]
abbrev a8j:Nat:=62
def Ws:ZE:=Xi [(155,.pure (preT (fun _:UInt8×Unit=>true)) (Zg (fun x:UInt8×Unit=>XQ x.1))),(156,.pure (preT (fun _:UInt8×Unit=>true)) (Zg (fun x:UInt8×Unit=>Wi x.1)))]
theorem b3r{G:PV->Prop}(s:List UInt8)(h:if ((↑(List.length s):Int)==0)=true then G ((.bool false))else(if (decide ((↑(List.length s):Int)>30))=true then G ((.bool false))else((decide (0<=0)&&decide (Int.toNat 0<List.length s))=true∧(if ((↑(UInt8.toNat (List.getD s (Int.toNat 0) (0:UInt8))):Int)==95)=true then if (decide ((↑(List.length s):Int)<2))=true then G ((.bool false))else(if (decide ((↑(List.length s):Int)>10))=true then G ((.bool false))else((decide (0<=1)&&decide (Int.toNat 1<List.length s))=true∧(if ((↑(UInt8.toNat (List.getD s (Int.toNat 1) (0:UInt8))):Int)==48)=true then G ((.bool false))else(At Ws 0 (Za Xw G) Xt 0 62 [(0,(.pv (.str s))),(3,(.pv (.int .i64 1)))] []))))else(At Ws 0 (Za Xw G) Xt 1 62 [(0,(.pv (.str s))),(4,(.pv (.int .i64 0)))] []))))):Zc Ws 0 (Za Xw G) Xt [] (Yx 62 [.str s]):=Zc.tp (.lit (.ask (.lit (.lit (.lit (.lit (.nil))))) (.lit (.lit (.lit (.lit (.ask (.nil) (.req (.lit (.ask (.lit (.ask (.lit (.lit (.lit (.lit (.lit (.lit (.lit (.lit (.nil))))))))) (.lit (.lit (.lit (.lit (.ask (.lit (.lit (.lit (.lit (.nil))))) (.lit (.req (.lit (.lit (.lit (.ask (.nil) (.nil)))))))))))))) (.nil))))))))))) h (by kernel_rfl)
theorem Mg{G:PV->Prop}(s:List UInt8)(i:Int)(h:if (decide (i<(↑(List.length s):Int)))=true then(decide (0<=i)&&decide (Int.toNat i<List.length s))=true∧((Go.Pl.preT (fun(x:UInt8×Unit)=>true) [(.int IntKind.u8 (↑(UInt8.toNat (List.getD s (Int.toNat i) (0:UInt8))):Int))])=true∧(∃ y0:Bool,AV.pv (Zg (fun(x:UInt8×Unit)=>XQ x.1) [(.int IntKind.u8 (↑(UInt8.toNat (List.getD s (Int.toNat i) (0:UInt8))):Int))])=AV.pv (enc y0)∧(if (!y0)=true then G ((.bool false))else(At Ws 0 (Za Xw G) Xt 0 62 [(0,(.pv (.str s))),(3,(.pv (.int .i64 (IntKind.wrap IntKind.i64 (i+1)))))] []))))else(G ((.bool true)))):At Ws 0 (Za Xw G) Xt 0 62 [(0,.pv (.str s)),(3,.pv (.int .i64 i))] []:=At.tp (.lit (.ask (.req (.req (.abs (Bool) (fun YY=>AV.pv (enc YY)) (.ask (.nil) (.lit (.nil)))))) (.nil))) h (by kernel_rfl)
theorem DV{G:PV->Prop}(s:List UInt8)(i:Int)(h:if (decide (i<(↑(List.length s):Int)))=true then(decide (0<=i)&&decide (Int.toNat i<List.length s))=true∧((Go.Pl.preT (fun(x:UInt8×Unit)=>true) [(.int IntKind.u8 (↑(UInt8.toNat (List.getD s (Int.toNat i) (0:UInt8))):Int))])=true∧(∃ y0:Bool,AV.pv (Zg (fun(x:UInt8×Unit)=>Wi x.1) [(.int IntKind.u8 (↑(UInt8.toNat (List.getD s (Int.toNat i) (0:UInt8))):Int))])=AV.pv (enc y0)∧(if (!y0)=true then if (i==0)=true then G ((.bool false))else((decide (0<=i)&&decide (Int.toNat i<List.length s))=true∧((Go.Pl.preT (fun(x:UInt8×Unit)=>true) [(.int IntKind.u8 (↑(UInt8.toNat (List.getD s (Int.toNat i) (0:UInt8))):Int))])=true∧(∃ y1:Bool,AV.pv (Zg (fun(x:UInt8×Unit)=>XQ x.1) [(.int IntKind.u8 (↑(UInt8.toNat (List.getD s (Int.toNat i) (0:UInt8))):Int))])=AV.pv (enc y1)∧(if (!y1)=true then G ((.bool false))else(At Ws 0 (Za Xw G) Xt 1 62 [(0,(.pv (.str s))),(4,(.pv (.int .i64 (IntKind.wrap IntKind.i64 (i+1)))))] [])))))else(At Ws 0 (Za Xw G) Xt 1 62 [(0,(.pv (.str s))),(4,(.pv (.int .i64 (IntKind.wrap IntKind.i64 (i+1)))))] []))))else(G ((.bool true)))):At Ws 0 (Za Xw G) Xt 1 62 [(0,.pv (.str s)),(4,.pv (.int .i64 i))] []:=At.tp (.lit (.ask (.req (.req (.abs (Bool) (fun YY=>AV.pv (enc YY)) (.ask (.lit (.lit (.lit (.ask (.lit (.lit (.lit (.lit (.lit (.lit (.lit (.lit (.nil))))))))) (.lit (.lit (.req (.lit (.req (.abs (Bool) (fun YY=>AV.pv (enc YY)) (.lit (.lit (.lit (.lit (.ask (.nil) (.lit (.nil))))))))))))))))) (.lit (.lit (.lit (.lit (.lit (.lit (.nil))))))))))) (.nil))) h (by kernel_rfl)
def XP:IC:=(.seq (.reg [⟨(some 1),(.box 2 (.t 0)),0,none⟩,⟨(some 2),(.mv (.c (.bool false))),1,none⟩] none) (.seq (.seq (.reg [⟨(some 5),(.faddr 0 (.t 1)),0,none⟩,⟨(some 6),(.load false [(.int .i64)] (.t 5)),0,none⟩,⟨(some 7),(.call (.c (.fn 83)) [(.t 6)]),0,none⟩,⟨(some 8),(.un .not (.t 7)),2,none⟩,⟨(some 9),(.mv (.t 8)),2,none⟩,⟨(some 10),(.faddr 1 (.t 1)),2,(some (9,false))⟩,⟨(some 11),(.load false [(.sl 2)] (.t 10)),2,(some (9,false))⟩,⟨(some 12),(.len 1 (.t 11)),2,(some (9,false))⟩,⟨(some 13),(.bin .num .gtr (.t 12) (.c (.int .i64 12))),2,(some (9,false))⟩,⟨(some 14),(.pick (.t 9) (.c (.bool true)) (.t 13)),2,none⟩] none) (.cond (.t 14) (.seq (.reg [⟨(some 2),(.mv (.c (.bool false))),0,none⟩] none) .ret) .skip)) (.seq (.seq (.reg [⟨(some 3),(.mv (.c (.int .i64 0))),0,none⟩] none) (.block 0 (.loop [3,1] (.seq (.seq (.reg [⟨(some 15),(.mv (.t 3)),0,none⟩,⟨(some 16),(.faddr 1 (.t 1)),0,none⟩,⟨(some 17),(.load false [(.sl 2)] (.t 16)),0,none⟩,⟨(some 18),(.len 1 (.t 17)),0,none⟩,⟨(some 19),(.bin .num .lss (.t 15) (.t 18)),0,none⟩] none) (.cond (.t 19) .skip (.exit 0))) (.seq (.block 1 (.seq (.reg [⟨(some 22),(.faddr 1 (.t 1)),0,none⟩,⟨(some 23),(.load false [(.sl 2)] (.t 22)),0,none⟩,⟨(some 24),(.mv (.t 3)),0,none⟩,⟨(some 25),(.iaddr 2 (.t 23) (.t 24)),0,none⟩,⟨(some 26),(.load true [.str,(.int .i64)] (.t 25)),0,none⟩,⟨(some 4),(.alloc (.agg [(.str []),(.int .i64 0)])),0,none⟩,⟨none,(.store 2 (.t 4) (.t 26)),1,none⟩] none) (.seq (.reg [⟨(some 27),(.faddr 0 (.t 4)),0,none⟩,⟨(some 28),(.load false [.str] (.t 27)),0,none⟩,⟨(some 29),(.call (.c (.fn 84)) [(.t 28)]),0,none⟩,⟨(some 30),(.un .not (.t 29)),2,none⟩,⟨(some 31),(.mv (.t 30)),2,none⟩,⟨(some 32),(.faddr 1 (.t 4)),2,(some (31,false))⟩,⟨(some 33),(.load false [(.int .i64)] (.t 32)),2,(some (31,false))⟩,⟨(some 34),(.bin .num .eql (.t 33) (.c (.int .i64 0))),2,(some (31,false))⟩,⟨(some 35),(.pick (.t 31) (.c (.bool true)) (.t 34)),2,none⟩,⟨(some 36),(.mv (.t 35)),2,none⟩,⟨(some 37),(.faddr 1 (.t 4)),2,(some (36,false))⟩,⟨(some 38),(.load false [(.int .i64)] (.t 37)),2,(some (36,false))⟩,⟨(some 39),(.call (.c (.fn 83)) [(.t 38)]),2,(some (36,false))⟩,⟨(some 40),(.un .not (.t 39)),4,(some (36,false))⟩,⟨(some 41),(.pick (.t 36) (.c (.bool true)) (.t 40)),4,none⟩,⟨(some 42),(.mv (.t 41)),4,none⟩,⟨(some 43),(.mv (.t 3)),4,(some (42,false))⟩,⟨(some 44),(.bin .num .gtr (.t 43) (.c (.int .i64 0))),4,(some (42,false))⟩,⟨(some 45),(.mv (.t 44)),4,(some (42,false))⟩,⟨(some 46),(.faddr 1 (.t 1)),4,(some (45,true))⟩,⟨(some 47),(.load false [(.sl 2)] (.t 46)),4,(some (45,true))⟩,⟨(some 48),(.mv (.t 3)),4,(some (45,true))⟩,⟨(some 49),(.bin .num .sub (.t 48) (.c (.int .i64 1))),4,(some (45,true))⟩,⟨(some 50),(.iaddr 2 (.t 47) (.t 49)),4,(some (45,true))⟩,⟨(some 51),(.faddr 0 (.t 50)),4,(some (45,true))⟩,⟨(some 52),(.load false [.str] (.t 51)),4,(some (45,true))⟩,⟨(some 53),(.faddr 0 (.t 4)),4,(some (45,true))⟩,⟨(some 54),(.load false [.str] (.t 53)),4,(some (45,true))⟩,⟨(some 55),(.bin .num .geq (.t 52) (.t 54)),4,(some (45,true))⟩,⟨(some 56),(.pick (.t 45) (.t 55) (.c (.bool false))),4,(some (42,false))⟩,⟨(some 57),(.pick (.t 42) (.c (.bool true)) (.t 56)),4,none⟩] (some [[],[0],[1,0],[2,1,0],[3,2,1,0],[4,3,2,1,0],[5,4,3,2,1,0],[6,4,5,3,2,1,0],[4,7,3,2,1,0,6,5],[8,4,7,3,2,1,0,6,5],[9,8,4,7,3,2,1,0,6,5],[10,9,8,4,7,3,2,1,0,6,5],[11,9,10,8,4,7,3,2,1,0,6,5],[12,9,11,10,8,4,7,3,2,1,0,6,5],[9,13,8,4,7,3,2,1,0,6,5,12,11,10],[14,12,9,13,8,4,7,3,2,1,0,6,5,11,10],[15,14,12,9,13,8,4,7,3,2,1,0,6,5,11,10],[16,15,14,12,9,13,8,4,7,3,2,1,0,6,5,11,10],[17,15,16,14,12,9,13,8,4,7,3,2,1,0,6,5,11,10],[18,17,15,16,14,12,9,13,8,4,7,3,2,1,0,6,5,11,10],[19,18,17,15,16,14,12,9,13,8,4,7,3,2,1,0,6,5,11,10],[18,17,15,16,14,12,9,13,8,4,7,3,2,1,0,6,5,11,10],[21,18,17,15,16,14,12,9,13,8,4,7,3,2,1,0,6,5,11,10],[20,22,18,19,17,15,16,14,12,9,13,8,4,7,3,2,1,0,6,5,11,10,21],[23,18,20,22,19,17,15,16,14,12,9,13,8,4,7,3,2,1,0,6,5,11,10,21],[24,18,23,20,22,19,17,15,16,14,12,9,13,8,4,7,3,2,1,0,6,5,11,10,21],[18,17,15,16,14,12,9,13,8,4,7,3,2,1,0,6,5,11,10],[26,18,17,15,16,14,12,9,13,8,4,7,3,2,1,0,6,5,11,10],[25,27,18,24,23,20,22,19,17,15,16,14,12,9,13,8,4,7,3,2,1,0,6,5,11,10,21,26],[18,28,15,17,16,14,12,9,13,8,4,7,3,2,1,0,6,5,11,10,25,27,24,23,20,22,19,21,26],[15,29,14,12,9,13,8,4,7,3,2,1,0,6,5,11,10,18,28,17,16,25,27,24,23,20,22,19,21,26]])) (.cond (.t 57) (.seq (.reg [⟨(some 2),(.mv (.c (.bool false))),0,none⟩] none) .ret) .skip)))) (.reg [⟨(some 20),(.mv (.t 3)),0,none⟩,⟨(some 21),(.bin .num .add (.t 20) (.c (.int .i64 1))),0,none⟩,⟨(some 3),(.mv (.t 21)),0,none⟩] none)))))) (.seq (.reg [⟨(some 2),(.mv (.c (.bool true))),0,none⟩] none) .ret))))
def XN:List IRes:=[(.tmp 2)]
abbrev a1c:Nat:=58
def WR:ZE:=Xi [(83,.pure (preT (fun _:Int×Unit=>true)) (Zg (fun x:Int×Unit=>Yy x.1))),(84,.pure (preT (fun _:Str×Unit=>true)) (Zg (fun x:Str×Unit=>ZA x.1)))]
theorem b1g{G:PV->Prop}(l:Lin)(h : ∃ y0:Bool,AV.pv (Zg (fun(x:Int×Unit)=>Yy x.1) [(.int .i64 l.k)])=AV.pv (enc y0)∧(if (!y0)=true then G ((.bool false))else(if (decide ((↑(List.length (List.map enc l.t)):Int)>12))=true then G ((.bool false))else(At WR 0 (Za XN G) XP 0 58 [(1,(.ptr 0 0)),(3,(.pv (.int .i64 0)))] [(.obj (.box [(.pv (.int .i64 l.k)),(.pv (.sl 2 false (List.map enc l.t)))]))])))):Zc WR 0 (Za XN G) XP [] (Yx 58 [enc l]):=Zc.tp (.lit (.abs (Bool) (fun YY=>AV.pv (enc YY)) (.ask (.lit (.lit (.lit (.lit (.lit (.nil)))))) (.lit (.lit (.lit (.lit (.lit (.ask (.nil) (.nil)))))))))) h (by kernel_rfl)
theorem Tk{G:PV->Prop}(l:Lin)(i:Int)(h:if (decide (i<(↑(List.length (List.map enc l.t)):Int)))=true then(decide (0<=i)&&decide (Int.toNat i<List.length (List.map enc l.t))&&Enc.sz Coef==2)=true∧(∃ y0:Coef,AV.pv (PV.rptr (PV.cells (List.getD (List.map enc l.t) (Int.toNat i) default)))=AV.pv (PV.rptr (PV.cells ((enc) y0)))∧(∃ y1:Bool,AV.pv (Zg (fun(x:Str×Unit)=>ZA x.1) [(.str (PV.asStr (List.getD (PV.cells (enc y0)) 0 default)))])=AV.pv (enc y1)∧(if (!y1)=true then G ((.bool false))else(if (PV.asInt (List.getD (PV.cells (enc y0)) (0+1) default)==0)=true then G ((.bool false))else(∃ y2:Bool,AV.pv (Zg (fun(x:Int×Unit)=>Yy x.1) [(.int .i64 (PV.asInt (List.getD (PV.cells (enc y0)) (0+1) default)))])=AV.pv (enc y2)∧(if (!y2)=true then G ((.bool false))else(if (decide (i>0))=true then(decide (0<=IntKind.wrap IntKind.i64 (i - 1))&&decide (Int.toNat (IntKind.wrap IntKind.i64 (i - 1))<List.length (List.map enc l.t))&&Enc.sz Coef==2)=true∧(∃ y3:Coef,AV.pv (PV.rptr (PV.cells (List.getD (List.map enc l.t) (Int.toNat (IntKind.wrap IntKind.i64 (i - 1))) default)))=AV.pv (PV.rptr (PV.cells ((enc) y3)))∧(if (!Op.bytesLess (PV.asStr (List.getD (List.drop 0 (PV.cells (enc y3))) 0 default)) (PV.asStr (List.getD (PV.cells (enc y0)) 0 default)))=true then G ((.bool false))else(At WR 0 (Za XN G) XP 0 58 [(1,(.ptr 0 0)),(3,(.pv (.int .i64 (IntKind.wrap IntKind.i64 (i+1)))))] [(.obj (.box [(.pv (.int .i64 l.k)),(.pv (.sl 2 false (List.map enc l.t)))]))])))else(At WR 0 (Za XN G) XP 0 58 [(1,(.ptr 0 0)),(3,(.pv (.int .i64 (IntKind.wrap IntKind.i64 (i+1)))))] [(.obj (.box [(.pv (.int .i64 l.k)),(.pv (.sl 2 false (List.map enc l.t)))]))]))))))))else(G ((.bool true)))):At WR 0 (Za XN G) XP 0 58 [(1,.ptr 0 0),(3,.pv (.int .i64 i))] [.obj (.box [.pv (.int .i64 l.k),.pv (enc l.t)])]:=At.tp (.lit (.ask (.req (.abs (Coef) (fun YY=>AV.pv (PV.rptr (PV.cells ((enc) YY)))) (.lit (.lit (.abs (Bool) (fun YY=>AV.pv (enc YY)) (.ask (.lit (.lit (.lit (.lit (.lit (.lit (.lit (.lit (.lit (.lit (.lit (.lit (.lit (.lit (.nil))))))))))))))) (.lit (.lit (.lit (.lit (.ask (.lit (.lit (.lit (.lit (.lit (.lit (.lit (.lit (.lit (.lit (.nil))))))))))) (.lit (.lit (.lit (.abs (Bool) (fun YY=>AV.pv (enc YY)) (.lit (.lit (.ask (.lit (.lit (.lit (.lit (.lit (.nil)))))) (.lit (.lit (.lit (.ask (.lit (.lit (.lit (.lit (.lit (.req (.abs (Coef) (fun YY=>AV.pv (PV.rptr (PV.cells ((enc) YY)))) (.lit (.lit (.lit (.lit (.lit (.lit (.lit (.lit (.lit (.lit (.ask (.nil) (.lit (.nil)))))))))))))))))))) (.lit (.lit (.lit (.lit (.lit (.lit (.lit (.lit (.lit (.lit (.lit (.lit (.lit (.lit (.nil))))))))))))))))))))))))))))))))))))) (.nil))) h (by kernel_rfl)
def Qk:IC:=(.seq (.reg [⟨(some 2),(.box 2 (.t 0)),0,none⟩,⟨(some 4),(.mv (.c (.bool false))),1,none⟩] none) (.seq (.seq (.reg [⟨(some 5),(.mv (.c (.int .i64 0))),0,none⟩] none) (.block 0 (.loop [5,2,1] (.seq (.seq (.reg [⟨(some 6),(.mv (.t 5)),0,none⟩,⟨(some 7),(.faddr 1 (.t 2)),0,none⟩,⟨(some 8),(.load false [(.sl 2)] (.t 7)),0,none⟩,⟨(some 9),(.len 1 (.t 8)),0,none⟩,⟨(some 10),(.bin .num .lss (.t 6) (.t 9)),0,none⟩] none) (.cond (.t 10) .skip (.exit 0))) (.seq (.block 1 (.seq (.reg [⟨(some 13),(.faddr 1 (.t 2)),0,none⟩,⟨(some 14),(.load false [(.sl 2)] (.t 13)),0,none⟩,⟨(some 15),(.mv (.t 5)),0,none⟩,⟨(some 16),(.iaddr 2 (.t 14) (.t 15)),0,none⟩,⟨(some 17),(.faddr 0 (.t 16)),0,none⟩,⟨(some 18),(.load false [.str] (.t 17)),0,none⟩,⟨(some 19),(.len 0 (.t 18)),0,none⟩,⟨(some 20),(.bin .num .gtr (.t 19) (.c (.int .i64 40))),0,none⟩] none) (.cond (.t 20) (.seq (.reg [⟨(some 4),(.mv (.c (.bool false))),0,none⟩] none) .ret) .skip))) (.reg [⟨(some 11),(.mv (.t 5)),0,none⟩,⟨(some 12),(.bin .num .add (.t 11) (.c (.int .i64 1))),0,none⟩,⟨(some 5),(.mv (.t 12)),0,none⟩] none)))))) (.seq (.reg [⟨(some 21),(.faddr 1 (.t 2)),0,none⟩,⟨(some 22),(.load false [(.sl 2)] (.t 21)),0,none⟩,⟨(some 23),(.len 1 (.t 22)),0,none⟩,⟨(some 24),(.mv (.t 1)),0,none⟩,⟨(some 25),(.bin .num .leq (.t 23) (.t 24)),0,none⟩,⟨(some 4),(.mv (.t 25)),0,none⟩] none) .ret)))
def Ql:List IRes:=[(.tmp 4)]
abbrev b4d:Nat:=26
def KT:ZE:=Xi []
theorem c2r{G:PV->Prop}(l:Lin)(n:Int)(h:At KT 0 (Za Ql G) Qk 0 26 [(1,(.pv (.int .i64 n))),(2,(.ptr 0 0)),(5,(.pv (.int .i64 0)))] [(.obj (.box [(.pv (.int .i64 l.k)),(.pv (.sl 2 false (List.map enc l.t)))]))]):Zc KT 0 (Za Ql G) Qk [] (Yx 26 [enc l,enc n]):=Zc.tp (.nil) h (by kernel_rfl)
theorem Oz{G:PV->Prop}(l:Lin)(n:Int)(i:Int)(h:if (decide (i<(↑(List.length (List.map enc l.t)):Int)))=true then(decide (0<=i)&&decide (Int.toNat i<List.length (List.map enc l.t))&&Enc.sz Coef==2)=true∧(∃ y0:Coef,AV.pv (PV.rptr (PV.cells (List.getD (List.map enc l.t) (Int.toNat i) default)))=AV.pv (PV.rptr (PV.cells ((enc) y0)))∧(if (decide ((↑(List.length (PV.asStr (List.getD (List.drop 0 (PV.cells (enc y0))) 0 default))):Int)>40))=true then G ((.bool false))else(At KT 0 (Za Ql G) Qk 0 26 [(1,(.pv (.int .i64 n))),(2,(.ptr 0 0)),(5,(.pv (.int .i64 (IntKind.wrap IntKind.i64 (i+1)))))] [(.obj (.box [(.pv (.int .i64 l.k)),(.pv (.sl 2 false (List.map enc l.t)))]))])))else(G ((.bool (decide ((↑(List.length (List.map enc l.t)):Int)<=n)))))):At KT 0 (Za Ql G) Qk 0 26 [(1,.pv (.int .i64 n)),(2,.ptr 0 0),(5,.pv (.int .i64 i))] [.obj (.box [.pv (.int .i64 l.k),.pv (enc l.t)])]:=At.tp (.lit (.ask (.req (.abs (Coef) (fun YY=>AV.pv (PV.rptr (PV.cells ((enc) YY)))) (.lit (.lit (.ask (.nil) (.lit (.nil))))))) (.lit (.nil)))) h (by kernel_rfl)
def V9:IC:=(.seq (.reg [⟨(some 4),(.mv (.c (.bool false))),0,none⟩] none) (.seq (.seq (.reg [⟨(some 5),(.mv (.c (.int .i64 0))),0,none⟩] none) (.block 0 (.loop [5,0,1] (.seq (.seq (.reg [⟨(some 6),(.mv (.t 5)),0,none⟩,⟨(some 7),(.mv (.t 0)),0,none⟩,⟨(some 8),(.len 1 (.t 7)),0,none⟩,⟨(some 9),(.bin .num .lss (.t 6) (.t 8)),0,none⟩] none) (.cond (.t 9) .skip (.exit 0))) (.seq (.block 1 (.seq (.reg [⟨(some 12),(.mv (.t 0)),0,none⟩,⟨(some 13),(.mv (.t 5)),0,none⟩,⟨(some 14),(.iaddr 3 (.t 12) (.t 13)),0,none⟩,⟨(some 15),(.faddr 1 (.t 14)),0,none⟩,⟨(some 16),(.load true [(.int .i64),(.sl 2)] (.t 15)),0,none⟩,⟨(some 17),(.call (.c (.fn 16)) [(.t 16),(.c (.int .i64 8))]),0,none⟩,⟨(some 18),(.un .not (.t 17)),2,none⟩] none) (.cond (.t 18) (.seq (.reg [⟨(some 4),(.mv (.c (.bool false))),0,none⟩] none) .ret) .skip))) (.reg [⟨(some 10),(.mv (.t 5)),0,none⟩,⟨(some 11),(.bin .num .add (.t 10) (.c (.int .i64 1))),0,none⟩,⟨(some 5),(.mv (.t 11)),0,none⟩] none)))))) (.seq (.reg [⟨(some 19),(.mv (.t 0)),0,none⟩,⟨(some 20),(.len 1 (.t 19)),0,none⟩,⟨(some 21),(.mv (.t 1)),0,none⟩,⟨(some 22),(.bin .num .leq (.t 20) (.t 21)),0,none⟩,⟨(some 4),(.mv (.t 22)),0,none⟩] none) .ret)))
def Un:List IRes:=[(.tmp 4)]
abbrev a7q:Nat:=23
def Qr:ZE:=Xi [(16,.pure (preT (fun x:Lin×Int×Unit=>YW x.1)) (Zg (fun x:Lin×Int×Unit=>J6 x.1 x.2.1)))]
theorem b6v{G:PV->Prop}(l:List Fact)(n:Int)(h:At Qr 0 (Za Un G) V9 0 23 [(0,(.pv (.sl 3 false (List.map enc l)))),(1,(.pv (.int .i64 n))),(5,(.pv (.int .i64 0)))] []):Zc Qr 0 (Za Un G) V9 [] (Yx 23 [enc l,enc n]):=Zc.tp (.nil) h (by kernel_rfl)
theorem NB{G:PV->Prop}(l:List Fact)(n:Int)(i:Int)(h:if (decide (i<(↑(List.length (List.map enc l)):Int)))=true then(decide (0<=i)&&decide (Int.toNat i<List.length (List.map enc l))&&Enc.sz Fact==3)=true∧(∃ y0:Fact,AV.pv (PV.rptr (PV.cells (List.getD (List.map enc l) (Int.toNat i) default)))=AV.pv (PV.rptr (PV.cells ((enc) y0)))∧((Go.Pl.preT (fun(x:Lin×Int×Unit)=>YW x.1) [(.agg [(.int .i64 (PV.asInt (List.getD (List.drop 1 (PV.cells (enc y0))) 0 default))),(.sl 2 false (PV.asXs (List.getD (List.drop 1 (PV.cells (enc y0))) (0+1) default)))]),(.int .i64 8)])=true∧(∃ y1:Bool,AV.pv (Zg (fun(x:Lin×Int×Unit)=>J6 x.1 x.2.1) [(.agg [(.int .i64 (PV.asInt (List.getD (List.drop 1 (PV.cells (enc y0))) 0 default))),(.sl 2 false (PV.asXs (List.getD (List.drop 1 (PV.cells (enc y0))) (0+1) default)))]),(.int .i64 8)])=AV.pv (enc y1)∧(if (!y1)=true then G ((.bool false))else(At Qr 0 (Za Un G) V9 0 23 [(0,(.pv (.sl 3 false (List.map enc l)))),(1,(.pv (.int .i64 n))),(5,(.pv (.int .i64 (IntKind.wrap IntKind.i64 (i+1)))))] [])))))else(G ((.bool (decide ((↑(List.length (List.map enc l)):Int)<=n)))))):At Qr 0 (Za Un G) V9 0 23 [(0,.pv (enc l)),(1,.pv (.int .i64 n)),(5,.pv (.int .i64 i))] []:=At.tp (.lit (.ask (.req (.abs (Fact) (fun YY=>AV.pv (PV.rptr (PV.cells ((enc) YY)))) (.lit (.req (.abs (Bool) (fun YY=>AV.pv (enc YY)) (.ask (.nil) (.lit (.nil)))))))) (.lit (.nil)))) h (by kernel_rfl)
-- IMPOSSIBLE
def Lm:IC:=(.seq (.reg [⟨(some 2),(.alloc (.agg [(.int .i64 0),(.sl 0 true [])])),0,none⟩] none) (.seq (.reg [⟨(some 3),(.mv (.t 0)),0,none⟩,⟨(some 4),(.build [(.int .i64 0),(.sl 0 true [])] [(0,(1,(.t 3)))]),0,none⟩,⟨none,(.store 2 (.t 2) (.t 4)),0,none⟩] none) .ret))
def LU:List IRes:=[(.cell true 2 2)]
abbrev b9j:Nat:=5
def a4e:ZE:=Xi []
theorem c3t{G:PV->Prop}(n:Int)(h:G ((.agg [(.int .i64 n),(.sl 0 true [])]))):Zc a4e 0 (Za LU G) Lm [] (Yx 5 [enc n]):=Zc.tp (.nil) h (by kernel_rfl)
def Y7:IC:=(.seq (.reg [⟨(some 2),(.box 2 (.t 0)),0,none⟩,⟨(some 4),(.mv (.c (.int .i64 0))),1,none⟩,⟨(some 5),(.mv (.c (.int .i64 0))),1,none⟩] none) (.seq (.seq (.reg [⟨(some 10),(.load true [(.int .i64),(.sl 2)] (.t 2)),0,none⟩,⟨(some 11),(.call (.c (.fn 20)) [(.t 10)]),0,none⟩,⟨(some 12),(.un .not (.t 11)),2,none⟩] none) (.cond (.t 12) (.seq (.reg [⟨(some 4),(.mv (.c (.int .i64 0))),0,none⟩,⟨(some 5),(.mv (.c (.int .i64 1))),0,none⟩] none) .ret) .skip)) (.seq (.reg [⟨(some 13),(.faddr 0 (.t 2)),0,none⟩,⟨(some 14),(.load false [(.int .i64)] (.t 13)),0,none⟩,⟨(some 6),(.mv (.t 14)),0,none⟩] none) (.seq (.seq (.reg [⟨(some 7),(.mv (.c (.int .i64 0))),0,none⟩] none) (.block 0 (.loop [7,2,1,6] (.seq (.seq (.reg [⟨(some 15),(.mv (.t 7)),0,none⟩,⟨(some 16),(.faddr 1 (.t 2)),0,none⟩,⟨(some 17),(.load false [(.sl 2)] (.t 16)),0,none⟩,⟨(some 18),(.len 1 (.t 17)),0,none⟩,⟨(some 19),(.bin .num .lss (.t 15) (.t 18)),0,none⟩] none) (.cond (.t 19) .skip (.exit 0))) (.seq (.block 1 (.seq (.reg [⟨(some 8),(.mv (.c (.int .i64 0))),0,none⟩] none) (.seq (.block 2 (.loop [8,1,2,7,6] (.seq (.seq (.reg [⟨(some 22),(.mv (.t 8)),0,none⟩,⟨(some 23),(.mv (.t 1)),0,none⟩,⟨(some 24),(.len 1 (.t 23)),0,none⟩,⟨(some 25),(.bin .num .lss (.t 22) (.t 24)),0,none⟩,⟨(some 26),(.mv (.t 25)),0,none⟩,⟨(some 27),(.mv (.t 1)),0,(some (26,true))⟩,⟨(some 28),(.mv (.t 8)),0,(some (26,true))⟩,⟨(some 29),(.iaddr 2 (.t 27) (.t 28)),0,(some (26,true))⟩,⟨(some 30),(.faddr 0 (.t 29)),0,(some (26,true))⟩,⟨(some 31),(.load false [.str] (.t 30)),0,(some (26,true))⟩,⟨(some 32),(.faddr 1 (.t 2)),0,(some (26,true))⟩,⟨(some 33),(.load false [(.sl 2)] (.t 32)),0,(some (26,true))⟩,⟨(some 34),(.mv (.t 7)),0,(some (26,true))⟩,⟨(some 35),(.iaddr 2 (.t 33) (.t 34)),0,(some (26,true))⟩,⟨(some 36),(.faddr 0 (.t 35)),0,(some (26,true))⟩,⟨(some 37),(.load false [.str] (.t 36)),0,(some (26,true))⟩,⟨(some 38),(.bin .num .neq (.t 31) (.t 37)),0,(some (26,true))⟩,⟨(some 39),(.pick (.t 26) (.t 38) (.c (.bool false))),0,none⟩] (some [[],[],[1],[0,2,1],[3,0,2,1],[4,3,0,2,1],[4,3,0,2,1],[5,6,4,3,0,2,1],[7,4,5,6,3,0,2,1],[8,4,7,5,6,3,0,2,1],[4,3,0,2,1],[10,4,3,0,2,1],[4,3,0,2,1],[11,12,4,10,3,0,2,1],[13,4,11,12,10,3,0,2,1],[14,4,13,11,12,10,3,0,2,1],[9,15,4,8,7,5,6,3,0,2,1,14,13,11,12,10],[4,16,3,0,2,1,9,15,8,7,5,6,14,13,11,12,10]])) (.cond (.t 39) .skip (.exit 2))) (.block 3 (.reg [⟨(some 40),(.mv (.t 8)),0,none⟩,⟨(some 41),(.bin .num .add (.t 40) (.c (.int .i64 1))),0,none⟩,⟨(some 8),(.mv (.t 41)),0,none⟩] none))))) (.seq (.seq (.reg [⟨(some 42),(.mv (.t 8)),0,none⟩,⟨(some 43),(.mv (.t 1)),0,none⟩,⟨(some 44),(.len 1 (.t 43)),0,none⟩,⟨(some 45),(.bin .num .eql (.t 42) (.t 44)),0,none⟩] none) (.cond (.t 45) (.seq (.reg [⟨(some 4),(.mv (.c (.int .i64 0))),0,none⟩,⟨(some 5),(.mv (.c (.int .i64 7))),0,none⟩] none) .ret) .skip)) (.seq (.reg [⟨(some 46),(.mv (.t 1)),0,none⟩,⟨(some 47),(.mv (.t 8)),0,none⟩,⟨(some 48),(.iaddr 2 (.t 46) (.t 47)),0,none⟩,⟨(some 49),(.faddr 1 (.t 48)),0,none⟩,⟨(some 50),(.load false [(.int .i64)] (.t 49)),0,none⟩,⟨(some 9),(.mv (.t 50)),0,none⟩] none) (.seq (.seq (.reg [⟨(some 51),(.mv (.t 9)),0,none⟩,⟨(some 52),(.bin .num .lss (.t 51) (.c (.int .i64 (-1000000000)))),0,none⟩,⟨(some 53),(.mv (.t 52)),0,none⟩,⟨(some 54),(.mv (.t 9)),0,(some (53,false))⟩,⟨(some 55),(.bin .num .gtr (.t 54) (.c (.int .i64 1000000000))),0,(some (53,false))⟩,⟨(some 56),(.pick (.t 53) (.c (.bool true)) (.t 55)),0,none⟩] none) (.cond (.t 56) (.seq (.reg [⟨(some 4),(.mv (.c (.int .i64 0))),0,none⟩,⟨(some 5),(.mv (.c (.int .i64 2))),0,none⟩] none) .ret) .skip)) (.reg [⟨(some 57),(.mv (.t 6)),0,none⟩,⟨(some 58),(.faddr 1 (.t 2)),0,none⟩,⟨(some 59),(.load false [(.sl 2)] (.t 58)),0,none⟩,⟨(some 60),(.mv (.t 7)),0,none⟩,⟨(some 61),(.iaddr 2 (.t 59) (.t 60)),0,none⟩,⟨(some 62),(.faddr 1 (.t 61)),0,none⟩,⟨(some 63),(.load false [(.int .i64)] (.t 62)),0,none⟩,⟨(some 64),(.mv (.t 9)),0,none⟩,⟨(some 65),(.bin .num .mul (.t 63) (.t 64)),0,none⟩,⟨(some 66),(.bin .num .add (.t 57) (.t 65)),0,none⟩,⟨(some 6),(.mv (.t 66)),0,none⟩] none))))))) (.reg [⟨(some 20),(.mv (.t 7)),0,none⟩,⟨(some 21),(.bin .num .add (.t 20) (.c (.int .i64 1))),0,none⟩,⟨(some 7),(.mv (.t 21)),0,none⟩] none)))))) (.seq (.reg [⟨(some 67),(.mv (.t 6)),0,none⟩,⟨(some 4),(.mv (.t 67)),0,none⟩,⟨(some 5),(.mv (.c (.int .i64 0))),0,none⟩] none) .ret)))))
def Y8:List IRes:=[(.tmp 4),(.tmp 5)]
abbrev b2f:Nat:=68
def XC:ZE:=Xi [(20,.pure (preT (fun x:Lin×Unit=>YW x.1)) (Zg (fun x:Lin×Unit=>Zw x.1)))]
theorem b5o{G:PV->Prop}(l:Lin)(v:List Coef)(h:(Go.Pl.preT (fun(x:Lin×Unit)=>YW x.1) [(.agg [(.int .i64 l.k),(.sl 2 false (List.map enc l.t))])])=true∧(∃ y0:Bool,AV.pv (Zg (fun(x:Lin×Unit)=>Zw x.1) [(.agg [(.int .i64 l.k),(.sl 2 false (List.map enc l.t))])])=AV.pv (enc y0)∧(if (!y0)=true then G ((.tup [(.int .i64 0),(.int .i64 1)]))else(At XC 0 (Za Y8 G) Y7 0 68 [(1,(.pv (.sl 2 false (List.map enc v)))),(2,(.ptr 0 0)),(6,(.pv (.int .i64 l.k))),(7,(.pv (.int .i64 0)))] [(.obj (.box [(.pv (.int .i64 l.k)),(.pv (.sl 2 false (List.map enc l.t)))]))])))):Zc XC 0 (Za Y8 G) Y7 [] (Yx 68 [enc l,enc v]):=Zc.tp (.req (.abs (Bool) (fun YY=>AV.pv (enc YY)) (.ask (.nil) (.nil)))) h (by kernel_rfl)
theorem N8{G:PV->Prop}(l:Lin)(v:List Coef)(n i:Int)(h:if (decide (i<(↑(List.length (List.map enc l.t)):Int)))=true then At XC 0 (Za Y8 G) Y7 1 68 [(1,(.pv (.sl 2 false (List.map enc v)))),(2,(.ptr 0 0)),(6,(.pv (.int .i64 n))),(7,(.pv (.int .i64 i))),(8,(.pv (.int .i64 0)))] [(.obj (.box [(.pv (.int .i64 l.k)),(.pv (.sl 2 false (List.map enc l.t)))]))]else(G ((.tup [(.int .i64 n),(.int .i64 0)])))):At XC 0 (Za Y8 G) Y7 0 68 [(1,.pv (enc v)),(2,.ptr 0 0),(6,.pv (.int .i64 n)),(7,.pv (.int .i64 i))] [.obj (.box [.pv (.int .i64 l.k),.pv (enc l.t)])]:=At.tp (.lit (.ask (.nil) (.nil))) h (by kernel_rfl)
theorem Ps{G:PV->Prop}(l:Lin)(v:List Coef)(n i j:Int)(h:if (decide (j<(↑(List.length (List.map enc v)):Int)))=true then(decide (0<=j)&&decide (Int.toNat j<List.length (List.map enc v))&&Enc.sz Coef==2)=true∧(∃ y0:Coef,AV.pv (PV.rptr (PV.cells (List.getD (List.map enc v) (Int.toNat j) default)))=AV.pv (PV.rptr (PV.cells ((enc) y0)))∧((decide (0<=i)&&decide (Int.toNat i<List.length (List.map enc l.t))&&Enc.sz Coef==2)=true∧(∃ y1:Coef,AV.pv (PV.rptr (PV.cells (List.getD (List.map enc l.t) (Int.toNat i) default)))=AV.pv (PV.rptr (PV.cells ((enc) y1)))∧(if (!PV.asStr (List.getD (List.drop 0 (PV.cells (enc y0))) 0 default)==PV.asStr (List.getD (List.drop 0 (PV.cells (enc y1))) 0 default))=true then At XC 0 (Za Y8 G) Y7 1 68 [(1,(.pv (.sl 2 false (List.map enc v)))),(2,(.ptr 0 0)),(6,(.pv (.int .i64 n))),(7,(.pv (.int .i64 i))),(8,(.pv (.int .i64 (IntKind.wrap IntKind.i64 (j+1)))))] [(.obj (.box [(.pv (.int .i64 l.k)),(.pv (.sl 2 false (List.map enc l.t)))]))]else(if (j==(↑(List.length (List.map enc v)):Int))=true then G ((.tup [(.int .i64 0),(.int .i64 7)]))else((decide (0<=j)&&decide (Int.toNat j<List.length (List.map enc v))&&Enc.sz Coef==2)=true∧(∃ y2:Coef,AV.pv (PV.rptr (PV.cells (List.getD (List.map enc v) (Int.toNat j) default)))=AV.pv (PV.rptr (PV.cells ((enc) y2)))∧(if (decide (PV.asInt (List.getD (List.drop 1 (PV.cells (enc y2))) 0 default)<(-1000000000:Int)))=true then G ((.tup [(.int .i64 0),(.int .i64 2)]))else(if (decide (PV.asInt (List.getD (List.drop 1 (PV.cells (enc y2))) 0 default)>1000000000))=true then G ((.tup [(.int .i64 0),(.int .i64 2)]))else((decide (0<=i)&&decide (Int.toNat i<List.length (List.map enc l.t))&&Enc.sz Coef==2)=true∧(∃ y3:Coef,AV.pv (PV.rptr (PV.cells (List.getD (List.map enc l.t) (Int.toNat i) default)))=AV.pv (PV.rptr (PV.cells ((enc) y3)))∧(At XC 0 (Za Y8 G) Y7 0 68 [(1,(.pv (.sl 2 false (List.map enc v)))),(2,(.ptr 0 0)),(6,(.pv (.int .i64 (IntKind.wrap IntKind.i64 (n+IntKind.wrap IntKind.i64 (PV.asInt (List.getD (List.drop 1 (PV.cells (enc y3))) 0 default)*PV.asInt (List.getD (List.drop 1 (PV.cells (enc y2))) 0 default))))))),(7,(.pv (.int .i64 (IntKind.wrap IntKind.i64 (i+1)))))] [(.obj (.box [(.pv (.int .i64 l.k)),(.pv (.sl 2 false (List.map enc l.t)))]))]))))))))))))else(if (j==(↑(List.length (List.map enc v)):Int))=true then G ((.tup [(.int .i64 0),(.int .i64 7)]))else((decide (0<=j)&&decide (Int.toNat j<List.length (List.map enc v))&&Enc.sz Coef==2)=true∧(∃ y4:Coef,AV.pv (PV.rptr (PV.cells (List.getD (List.map enc v) (Int.toNat j) default)))=AV.pv (PV.rptr (PV.cells ((enc) y4)))∧(if (decide (PV.asInt (List.getD (List.drop 1 (PV.cells (enc y4))) 0 default)<(-1000000000:Int)))=true then G ((.tup [(.int .i64 0),(.int .i64 2)]))else(if (decide (PV.asInt (List.getD (List.drop 1 (PV.cells (enc y4))) 0 default)>1000000000))=true then G ((.tup [(.int .i64 0),(.int .i64 2)]))else((decide (0<=i)&&decide (Int.toNat i<List.length (List.map enc l.t))&&Enc.sz Coef==2)=true∧(∃ y5:Coef,AV.pv (PV.rptr (PV.cells (List.getD (List.map enc l.t) (Int.toNat i) default)))=AV.pv (PV.rptr (PV.cells ((enc) y5)))∧(At XC 0 (Za Y8 G) Y7 0 68 [(1,(.pv (.sl 2 false (List.map enc v)))),(2,(.ptr 0 0)),(6,(.pv (.int .i64 (IntKind.wrap IntKind.i64 (n+IntKind.wrap IntKind.i64 (PV.asInt (List.getD (List.drop 1 (PV.cells (enc y5))) 0 default)*PV.asInt (List.getD (List.drop 1 (PV.cells (enc y4))) 0 default))))))),(7,(.pv (.int .i64 (IntKind.wrap IntKind.i64 (i+1)))))] [(.obj (.box [(.pv (.int .i64 l.k)),(.pv (.sl 2 false (List.map enc l.t)))]))]))))))))):At XC 0 (Za Y8 G) Y7 1 68 [(1,.pv (enc v)),(2,.ptr 0 0),(6,.pv (.int .i64 n)),(7,.pv (.int .i64 i)),(8,.pv (.int .i64 j))] [.obj (.box [.pv (.int .i64 l.k),.pv (enc l.t)])]:=At.tp (.lit (.ask (.lit (.lit (.req (.abs (Coef) (fun YY=>AV.pv (PV.rptr (PV.cells ((enc) YY)))) (.lit (.lit (.lit (.lit (.lit (.lit (.lit (.req (.abs (Coef) (fun YY=>AV.pv (PV.rptr (PV.cells ((enc) YY)))) (.lit (.lit (.lit (.lit (.lit (.lit (.ask (.lit (.nil)) (.lit (.ask (.nil) (.req (.abs (Coef) (fun YY=>AV.pv (PV.rptr (PV.cells ((enc) YY)))) (.lit (.lit (.ask (.lit (.lit (.lit (.nil)))) (.lit (.lit (.lit (.ask (.nil) (.req (.abs (Coef) (fun YY=>AV.pv (PV.rptr (PV.cells ((enc) YY)))) (.lit (.lit (.lit (.lit (.nil)))))))))))))))))))))))))))))))))))))) (.lit (.lit (.lit (.lit (.lit (.lit (.lit (.lit (.lit (.lit (.lit (.lit (.lit (.lit (.ask (.nil) (.req (.abs (Coef) (fun YY=>AV.pv (PV.rptr (PV.cells ((enc) YY)))) (.lit (.lit (.ask (.lit (.lit (.lit (.nil)))) (.lit (.lit (.lit (.ask (.nil) (.req (.abs (Coef) (fun YY=>AV.pv (PV.rptr (PV.cells ((enc) YY)))) (.lit (.lit (.lit (.lit (.nil))))))))))))))))))))))))))))))))) h (by kernel_rfl)
end Go.Pl

namespace Go.Pl
open Go.RowKit
open Enc (enc dec is)
open EncL (encL decL isL)
theorem c2u(c:UInt8):XQ c=(decide ((c.toNat:Int) ≥ 48)&&decide ((c.toNat:Int)<=57)):=by
 simp only[XQ,UInt8.le_iff_toNat_le,ge_iff_le]
 have e1:(48:UInt8).toNat=48:=rfl
 have e2:(57:UInt8).toNat=57:=rfl
 rw[e1,e2]
 congr 1 <;> exact decide_eq_decide.2 (by omega)
theorem b8x(c:UInt8):Wi c=(decide ((c.toNat:Int) ≥ 97)&&decide ((c.toNat:Int)<=122)):=by
 simp only[Wi,UInt8.le_iff_toNat_le,ge_iff_le]
 have e1:(97:UInt8).toNat=97:=rfl
 have e2:(122:UInt8).toNat=122:=rfl
 rw[e1,e2]
 congr 1 <;> exact decide_eq_decide.2 (by omega)
theorem TH{a b:Bool}{G:PV->Prop}(h:G (.bool (a&&b))):if a=true then G (.bool b)else G (.bool false):=by cases a <;> simpa using h
theorem b0s: ∀ a:UInt8×Unit,true=true->Zc M7 0 (Za Rj (Zf (XQ a.1))) Tv [] (Yx b4o (encL a)):=by
 rintro⟨c,⟨⟩⟩ -
 exact c1u c (TH (ZJ (c2u c).symm))
theorem a5y: ∀ a:UInt8×Unit,true=true->Zc Ls 0 (Za Tq (Zf (Wi a.1))) RA [] (Yx b5b (encL a)):=by
 rintro⟨c,⟨⟩⟩ -
 exact b8z c (TH (ZJ (b8x c).symm))
theorem FL: ∀ a:Int×Unit,true=true->Zc BG 0 (Za Gn (Zf (Yy a.1))) Kg [] (Yx EU (encL a)):=by
 rintro⟨n,⟨⟩⟩ -
 exact a7x n (TH (ZJ rfl))
theorem b4n: ∀ a:Int×Unit,true=true->Zc a7l 0 (Za FW (Zf (Yy a.1))) Fg [] (Yx c0u (encL a)):=by
 rintro⟨n,⟨⟩⟩ -
 exact c4b n (TH (ZJ rfl))
theorem b0y(s:List UInt8)(hs:s.length<=30): ∀ (j i:Nat),j+i=s.length->At Ws 0 (Za Xw (Zf ((s.drop i).all XQ))) Xt 0 62 [(0,.pv (.str s)),(3,.pv (.int .i64 i))] []:=by
 intro j
 induction j with
 | zero=>
  intro i hi
  refine Mg s i ?_
  rw[if_neg (Z8 (by omega))]
  exact ZJ (by rw[List.drop_of_length_le (by omega)];rfl)
 | succ j ih=>
  intro i hi
  have hlt:i<s.length:=by omega
  refine Mg s i ?_
  rw[if_pos (Z4 hlt)]
  have eg:List.getD s (Int.toNat (i:Int)) 0=s[i]:=by simp[List.getD,hlt]
  rw[eg,next (by omega)]
  refine⟨by simp[hlt],Zl (s[i],()) rfl rfl,Zi (s[i],()) rfl ?_⟩
  rw[List.drop_eq_getElem_cons hlt,List.all_cons]
  show if (!XQ s[i])=true then _ else _
  cases hd:XQ s[i]
  ·exact ZJ rfl
  ·rw[if_neg (by simp)]
   simpa using ih (i+1) (by omega)
theorem b1m(s:List UInt8)(hs:s.length<=30): ∀ (j i:Nat),j+i=s.length->0<i->At Ws 0 (Za Xw (Zf ((s.drop i).all fun c=>Wi c||XQ c))) Xt 1 62 [(0,.pv (.str s)),(4,.pv (.int .i64 i))] []:=by
 intro j
 induction j with
 | zero=>
  intro i hi _
  refine DV s i ?_
  rw[if_neg (Z8 (by omega))]
  exact ZJ (by rw[List.drop_of_length_le (by omega)];rfl)
 | succ j ih=>
  intro i hi h0
  have hlt:i<s.length:=by omega
  refine DV s i ?_
  rw[if_pos (Z4 hlt)]
  have eg:List.getD s (Int.toNat (i:Int)) 0=s[i]:=by simp[List.getD,hlt]
  rw[eg,next (by omega)]
  refine⟨by simp[hlt],Zl (s[i],()) rfl rfl,Zi (s[i],()) rfl ?_⟩
  rw[List.drop_eq_getElem_cons hlt,List.all_cons]
  show if (!Wi s[i])=true then _ else _
  cases hd:Wi s[i]
  ·rw[b7z,if_neg (by simp;omega)]
   refine⟨by simp[hlt],Zl (s[i],()) rfl rfl,Zi (s[i],()) rfl ?_⟩
   show if (!XQ s[i])=true then _ else _
   cases hd:XQ s[i]
   ·exact ZJ rfl
   ·rw[if_neg (by simp)]
    simpa using ih (i+1) (by omega) (by omega)
  ·rw[if_neg (by simp)]
   simpa using ih (i+1) (by omega) (by omega)
theorem a1o: ∀ a:Str×Unit,true=true->Zc Ws 0 (Za Xw (Zf (ZA a.1))) Xt [] (Yx a8j (encL a)):=by
 rintro⟨⟨s⟩,⟨⟩⟩ -
 refine b3r s ?_
 cases s with
 | nil=>exact ZJ rfl
 | cons c r=>
  rw[if_neg (by simp;omega)]
  by_cases h30:((c::r).length:Int)>30
  ·rw[if_pos (by simpa using h30)]
   refine ZJ ?_
   have : ¬ r.length<=29:=by simp at h30;omega
   have h9 : ¬ r.length<=9:=by omega
   simp[ZA,this,h9]
  ·rw[if_neg (by simpa using h30)]
   have hl:(c::r).length<=30:=by omega
   refine⟨by simp,?_⟩
   show if ((c.toNat:Int)==95)=true then _ else _
   by_cases hc:c=95
   ·subst hc
    rw[if_pos (by rfl)]
    simp only[ZA,if_true]
    cases r with
    | nil=>exact ZJ rfl
    | cons d r=>
     rw[if_neg (by simp;omega)]
     by_cases h10:((95::d::r:List UInt8).length:Int)>10
     ·rw[if_pos (by simpa using h10)]
      refine ZJ ?_
      have:decide ((d::r).length<=9)=false:=decide_eq_false (by simp at h10 ⊢;omega)
      rw[this,Bool.and_false]
     ·rw[if_neg (by simpa using h10)]
      refine⟨by simp,?_⟩
      show if ((d.toNat:Int)==48)=true then _ else _
      by_cases hd:d=48
      ·subst hd
       rw[if_pos (by rfl)]
       exact ZJ (by simp)
      ·rw[if_neg (by exact b8d 48 hd (by omega))]
       have h:=b0y (95::d::r) hl (d::r).length 1 (by simp)
       have e:(d::r).length<=9:=by simp at h10 ⊢;omega
       have e2:((d::r).all XQ&& !(d::r).isEmpty&&decide ((d::r).head? ≠ some 48)&&decide ((d::r).length<=9))=(d::r).all XQ:=by rw[decide_eq_true e,show decide ((d::r).head? ≠ some (48:UInt8))=true by simpa using hd];simp
       rw[e2]
       exact h
   ·rw[if_neg (by exact b8d 95 hc (by omega))]
    refine DV (c::r) 0 ?_
    rw[if_pos (by simp)]
    refine⟨by simp,Zl (c,()) rfl rfl,Zi (c,()) rfl ?_⟩
    show if (!Wi c)=true then _ else _
    have en:ZA ⟨c::r⟩=(Wi c&&r.all (fun c=>Wi c||XQ c)):=by
     have:r.length<=29:=by simp at hl;omega
     simp[ZA,hc,this]
    rw[en]
    cases hlow:Wi c
    ·rw[b7z,if_pos (by rfl)]
     exact ZJ rfl
    ·rw[if_neg (by simp)]
     exact b1m (c::r) hl r.length 1 (by simp) (by omega)
end Go.Pl

namespace Go.Pl
open Go.RowKit
open Enc (enc dec is)
open EncL (encL decL isL)
def Bn(prev:Option (List UInt8)):List Coef->Bool
 | []=>true
 | t::r=>ZA t.v&&decide (t.c≠0)&&Yy t.c&&(match prev with|none=>true|some p=>decide (p<t.v.s))&&Bn (some t.v.s) r
theorem JQ(p:Option (List UInt8))(t:Coef)(r:List Coef):Bn p (t::r)=(ZA t.v&&decide (t.c≠0)&&Yy t.c&&(match p with|none=>true|some p=>decide (p<t.v.s))&&Bn (some t.v.s) r):=by cases p <;> rfl
theorem Pn: ∀ (l:List Coef) (p:List UInt8),Bn (some p) l=(l.all (fun t=>ZA t.v&&decide (t.c≠0)&&Yy t.c)&&(match l with|[]=>true|t::_=>decide (p<t.v.s))&&Aa l)
 | [],p=>by simp[Bn,Aa]
 | t::r,p=>by
  rw[JQ,Pn r]
  cases r with
  | nil=>simp[Aa]
  | cons u r=>
   simp only[List.all_cons,Aa]
   ac_rfl
theorem a7i(l:List Coef):Bn none l=(l.all (fun t=>ZA t.v&&decide (t.c≠0)&&Yy t.c)&&Aa l):=by
 cases l with
 | nil=>simp[Bn,Aa]
 | cons t r=>
  rw[JQ,Pn r]
  cases r with
  | nil=>simp[Aa]
  | cons u r=>
   simp only[List.all_cons,Aa,Bool.and_true]
   ac_rfl
theorem P6(l:Lin):Zw l=(Yy l.k&&decide (l.t.length<=12)&&Bn none l.t):=by
 rw[a7i,Zw]
 ac_rfl
def pvS(ts:List Coef):Nat->Option (List UInt8)
 | 0=>none
 | i+1=>(ts[i]?).map (·.v.s)
theorem O6{k:Nat}(h:k<9223372036854775807):IntKind.i64.wrap (((k+1:Nat):Int) - 1)=(k:Int):=by rw[Ug (by omega) (by omega)];omega
theorem Nh(l:Lin)(hl:l.t.length<=9223372036854775807): ∀ (j i:Nat),j+i=l.t.length->At WR 0 (Za XN (Zf (Bn (pvS l.t i) (l.t.drop i)))) XP 0 58 [(1,.ptr 0 0),(3,.pv (.int .i64 i))] [.obj (.box [.pv (.int .i64 l.k),.pv (enc l.t)])]:=by
 intro j
 induction j with
 | zero=>
  intro i hi
  refine Tk l i ?_
  rw[if_neg (VL (by omega))]
  exact ZJ (by rw[List.drop_of_length_le (by omega)];rfl)
 | succ j ih=>
  intro i hi
  have hlt:i<l.t.length:=by omega
  have h:=ih (i+1) (by omega)
  refine Tk l i ?_
  simp only[co1,co2,co3,co4]
  refine ZQ (Wd hlt) ⟨Zu hlt rfl,ZG hlt (Zi (l.t[i].v,()) rfl (Vq (fun hn=> ?_) fun hn=>Jq (fun hc=> ?_) fun hc=>Zi (l.t[i].c,()) rfl (Vq (fun hk=> ?_) fun hk=> ?_)))⟩
  all_goals rw[List.drop_eq_getElem_cons hlt,JQ]
  ·have hn:ZA l.t[i].v=false:=hn
   exact ZJ (by simp[hn])
  ·exact ZJ (by simp[hc])
  ·have hk:Yy l.t[i].c=false:=hk
   exact ZJ (by simp[hk])
  have hn:ZA l.t[i].v=true:=hn
  have hk:Yy l.t[i].c=true:=hk
  rw[next (by omega),hn,hk,decide_eq_true hc]
  have ep:pvS l.t (i+1)=some l.t[i].v.s:=by simp[pvS,hlt]
  rw[ep]at h
  cases i with
  | zero=>exact ZV (by simp) h
  | succ i=>
   refine ZQ (by simp) ?_
   rw[O6 (by omega)]
   refine⟨Zu (by omega) rfl,ZG (by omega) ?_⟩
   have e2:pvS l.t (i+1)=some l.t[i].v.s:=by simp[pvS,show i<l.t.length by omega]
   rw[e2]
   refine Vq (fun hb=> ?_) fun hb=> ?_
   all_goals
    have hb':=(YN l.t[i].v.s l.t[i+1].v.s).symm.trans hb
    simp only[hb',Bool.and_true,Bool.true_and,Bool.and_false,Bool.false_and]
   ·exact ZJ rfl
   ·exact h
theorem MX: ∀ a:Lin×Unit,YW a.1=true->Zc WR 0 (Za XN (Zf (Zw a.1))) XP [] (Yx a1c (encL a)):=by
 rintro⟨l,⟨⟩⟩ hl
 have hl:l.t.length<=9223372036854775807:=by simpa [YW]using hl
 refine b1g l (Zi (l.k,()) rfl ?_)
 show if (!Yy l.k)=true then _ else _
 show if (!Yy l.k)=true then Zf (Zw l) _ else if _ then Zf (Zw l) _ else At WR 0 (Za XN (Zf (Zw l))) XP 0 58 _ _
 rw[P6]
 cases hk:Yy l.k
 ·exact ZJ rfl
 rw[c4m]
 by_cases h12:l.t.length<=12
 ·rw[if_neg (by simp;omega)]
  have h:=Nh l hl l.t.length 0 (by omega)
  simp only[h12,decide_true,Bool.true_and]
  exact h
 ·rw[if_pos (by simp;omega)]
  exact ZJ (by simp[h12])
theorem a0b(l:Lin)(n:Int)(hl:l.t.length<=9223372036854775807): ∀ (j i:Nat),j+i=l.t.length->At KT 0 (Za Ql (Zf ((l.t.drop i).all (fun t=>decide (t.v.s.length<=40))&&decide ((l.t.length:Int)<=n)))) Qk 0 26 [(1,.pv (.int .i64 n)),(2,.ptr 0 0),(5,.pv (.int .i64 i))] [.obj (.box [.pv (.int .i64 l.k),.pv (enc l.t)])]:=by
 intro j
 induction j with
 | zero=>
  intro i hi
  exact Oz l n i (ZV (VL (by omega)) (ZJ (by rw[List.drop_of_length_le (by omega),List.length_map];rfl)))
 | succ j ih=>
  intro i hi
  have hlt:i<l.t.length:=by omega
  have h:=ih (i+1) (by omega)
  refine Oz l n i (ZQ (Wd hlt) ⟨Zu hlt rfl,ZG hlt ?_⟩)
  rw[List.drop_eq_getElem_cons hlt,List.all_cons,next (by omega)]
  refine We (fun h40=> ?_) fun h40=> ?_
  ·have h40:(l.t[i].v.s.length:Int)>40:=h40
   exact ZJ (by rw[decide_eq_false (show ¬ l.t[i].v.s.length<=40 by omega)];rfl)
  ·have h40 : ¬ (l.t[i].v.s.length:Int)>40:=h40
   rw[decide_eq_true (show l.t[i].v.s.length<=40 by omega),Bool.true_and]
   exact h
theorem a5o: ∀ a:Lin×Int×Unit,YW a.1=true->Zc KT 0 (Za Ql (Zf (J6 a.1 a.2.1))) Qk [] (Yx b4d (encL a)):=by
 rintro⟨l,n,⟨⟩⟩ hl
 exact c2r l n (a0b l n (by simpa [YW]using hl) l.t.length 0 (by omega))
theorem LB(l:List Fact)(n:Int)(hl:l.length<=9223372036854775807)(hk:l.all (fun f=>YW f.l)=true): ∀ (j i:Nat),j+i=l.length->At Qr 0 (Za Un (Zf ((l.drop i).all (fun f=>J6 f.l 8)&&decide ((l.length:Int)<=n)))) V9 0 23 [(0,.pv (enc l)),(1,.pv (.int .i64 n)),(5,.pv (.int .i64 i))] []:=by
 intro j
 induction j with
 | zero=>
  intro i hi
  exact NB l n i (ZV (VL (by omega)) (ZJ (by rw[List.drop_of_length_le (by omega),List.length_map];rfl)))
 | succ j ih=>
  intro i hi
  have hlt:i<l.length:=by omega
  have h:=ih (i+1) (by omega)
  have ho:YW l[i].l=true:=by rw[List.all_eq_true]at hk;exact hk _ (List.getElem_mem hlt)
  refine NB l n i (ZQ (Wd hlt) ⟨Zu hlt rfl,ZG hlt ⟨Zl (l[i].l,8,()) rfl ho,Zi (l[i].l,8,()) rfl ?_⟩⟩)
  rw[List.drop_eq_getElem_cons hlt,List.all_cons,next (by omega)]
  refine Vq (fun hf=> ?_) fun hf=> ?_
  ·have hf:J6 l[i].l 8=false:=hf
   exact ZJ (by rw[hf];rfl)
  ·have hf:J6 l[i].l 8=true:=hf
   rw[hf,Bool.true_and]
   exact h
def G5(l:List Fact)(n:Int):Bool:=l.all (fun f=>J6 f.l 8)&&decide ((l.length:Int)<=n)
def YM(l:List Fact):Bool:=decide (l.length<=9223372036854775807)&&l.all fun f=>YW f.l
theorem EW: ∀ a:List Fact×Int×Unit,YM a.1=true->Zc Qr 0 (Za Un (Zf (G5 a.1 a.2.1))) V9 [] (Yx a7q (encL a)):=by
 rintro⟨l,n,⟨⟩⟩ hl
 simp only[YM,Bool.and_eq_true,decide_eq_true_eq]at hl
 exact b6v l n (LB l n hl.1 hl.2 l.length 0 (by omega))
end Go.Pl

namespace Go.Pl
open Go.RowKit
open Enc (enc dec is)
open EncL (encL decL isL)
end Go.Pl

namespace Go.Pl
open Go.RowKit
open Enc (enc dec is)
open EncL (encL decL isL)
end Go.Pl

namespace Go.Pl
open Go.RowKit
open Enc (enc dec is)
open EncL (encL decL isL)
theorem b0w(l:Lin)(v:List Coef)(hv:v.length<=9223372036854775807)(hl:l.t.length<=9223372036854775807)(i:Nat)(hi:i<l.t.length)(n:Int)
  (hK : ∀ n,At XC 0 (Za Y8 (Zf (QX v n (l.t.drop (i+1))))) Y7 0 68 [(1,.pv (enc v)),(2,.ptr 0 0),(6,.pv (.int .i64 n)),(7,.pv (.int .i64 ((i+1:Nat):Int)))] [.obj (.box [.pv (.int .i64 l.k),.pv (enc l.t)])]) :
  ∀ (m j:Nat),m+j=v.length->Uz (v.drop j) l.t[i].v=Uz v l.t[i].v ->
  At XC 0 (Za Y8 (Zf (QX v n (l.t.drop i)))) Y7 1 68 [(1,.pv (enc v)),(2,.ptr 0 0),(6,.pv (.int .i64 n)),(7,.pv (.int .i64 i)),(8,.pv (.int .i64 j))] [.obj (.box [.pv (.int .i64 l.k),.pv (enc l.t)])]:=by
 have ed:l.t.drop i=l.t[i]::l.t.drop (i+1):=List.drop_eq_getElem_cons hi
 intro m
 induction m with
 | zero=>
  intro j hj hlook
  refine Ps l v n i j (ZV (VL (by omega)) (ZQ (by simp;omega) ?_))
  rw[List.drop_of_length_le (by omega)]at hlook
  rw[ed,QX,<- hlook]
  exact⟨rfl,rfl⟩
 | succ m ih=>
  intro j hj hlook
  have hlt:j<v.length:=by omega
  refine Ps l v n i j (ZQ (Wd hlt) ⟨Zu hlt rfl,ZG hlt ⟨Zu hi rfl,ZG hi ?_⟩⟩)
  refine Vq (fun h1=> ?_) fun h1=> ?_
  ·have h1:(v[j].v.s==l.t[i].v.s)=false:=h1
   have hne : ¬ v[j].v=l.t[i].v:=by intro e;rw[e]at h1;simp at h1
   rw[next (by omega)]
   refine ih (j+1) (by omega) ?_
   rw[<- hlook,List.drop_eq_getElem_cons hlt]
   rw[Uz,Uz,List.find?_cons_of_neg (by simpa using hne)]
  ·have h1:(v[j].v.s==l.t[i].v.s)=true:=h1
   have heq:v[j].v=l.t[i].v:=by
    have h1:v[j].v.s=l.t[i].v.s:=by simpa using h1
    generalize v[j].v=a at h1 ⊢
    generalize l.t[i].v=b at h1 ⊢
    cases a;cases b;cases h1;rfl
   have hlk:Uz v l.t[i].v=some v[j].c:=by rw[<- hlook,List.drop_eq_getElem_cons hlt,Uz,List.find?_cons_of_pos (by simpa using heq)];rfl
   refine Jq (fun h2=>by simp only[List.length_map]at h2;omega) fun _=>⟨Zu hlt rfl,ZG hlt ?_⟩
   rw[ed,QX,hlk]
   refine We (fun h3=> ?_) fun h3=> ?_
   ·have h3:v[j].c < -1000000000:=h3
    simp only[if_pos h3]
    exact⟨rfl,rfl⟩
   have h3 : ¬ v[j].c < -1000000000:=h3
   refine We (fun h4=> ?_) fun h4=> ?_
   ·have h4:v[j].c>1000000000:=h4
    simp only[if_neg h3,if_pos h4]
    exact⟨rfl,rfl⟩
   have h4 : ¬ v[j].c>1000000000:=h4
   refine⟨Zu hi rfl,ZG hi ?_⟩
   rw[next (by omega)]
   simp only[if_neg h3,if_neg h4]
   exact hK _
theorem Oo(l:Lin)(v:List Coef)(hv:v.length<=9223372036854775807)(hl:l.t.length<=9223372036854775807): ∀ (m i:Nat) (n:Int),m+i=l.t.length ->
  At XC 0 (Za Y8 (Zf (QX v n (l.t.drop i)))) Y7 0 68 [(1,.pv (enc v)),(2,.ptr 0 0),(6,.pv (.int .i64 n)),(7,.pv (.int .i64 i))] [.obj (.box [.pv (.int .i64 l.k),.pv (enc l.t)])]:=by
 intro m
 induction m with
 | zero=>
  intro i n hi
  refine N8 l v n i (ZV (VL (by omega)) ?_)
  rw[List.drop_of_length_le (by omega)]
  exact⟨rfl,rfl⟩
 | succ m ih=>
  intro i n hi
  have hlt:i<l.t.length:=by omega
  exact N8 l v n i (ZQ (Wd hlt) (b0w l v hv hl i hlt n (fun n=>ih (i+1) n (by omega)) v.length 0 (by omega) rfl))
theorem EX: ∀ a:Lin×List Coef×Unit,(YW a.1&&decide (a.2.1.length<=9223372036854775807))=true->Zc XC 0 (Za Y8 (Zf (Yk a.1 a.2.1))) Y7 [] (Yx b2f (encL a)):=by
 rintro⟨l,v,⟨⟩⟩ h
 simp only[Bool.and_eq_true,decide_eq_true_eq]at h
 refine b5o l v ⟨Zl (l,()) rfl h.1,Zi (l,()) rfl ?_⟩
 show if (!Zw l)=true then Zf (Yk l v) _ else At XC 0 (Za Y8 (Zf (Yk l v))) Y7 0 68 _ _
 unfold Yk
 refine Vq (fun hv=> ?_) fun hv=> ?_
 ·rw[if_neg (by rw[hv];simp)]
  exact⟨rfl,rfl⟩
 ·rw[if_pos hv]
  exact Oo l v h.2 (by simpa [YW]using h.1) l.t.length 0 l.k (by omega)
end Go.Pl

namespace Go.Pl
open Go.RowKit
open Enc (enc dec is)
open EncL (encL decL isL)
theorem a7f(ts:List Coef)(j:Nat)(x y:Coef):List.set (List.map enc ts) j (PV.withCells (enc y) (splice (PV.cells (enc y)) 0 (PV.cells (PV.agg (Qf (PV.cells (enc x)) 0 [Sh.str,Sh.int .i64])))))=List.map enc (ts.set j x):=by
 rw[List.map_set]
 rfl
theorem a8f{α:Type}(f:α->PV){l:List α}{k:Nat}(h:k<l.length):(l.map f).getD (0+(k:Int).toNat) default=f l[k]:=by rw[Nat.zero_add];exact JW f h
theorem tri{x y:List UInt8}(h1 : ¬ x<y)(h2:x≠y):y<x:=Decidable.byContradiction fun h=>h2 (List.le_antisymm (List.not_lt.1 h) (List.not_lt.1 h1))
theorem a9f(s:Str)(c:Int)(t:Coef)(r:List Coef):WV s c true (t::r)=(if t.v=s then⟨t.v,Cu (t.c+c)⟩else t)::WV s c true r:=by
 rw[WV];simp only[Bool.not_true,Bool.false_and,Bool.false_eq_true,if_false,Bool.true_or,List.nil_append];split <;> rfl
theorem Bu(s:Str)(c:Int)(t:Coef)(r:List Coef):WV s c false (t::r)=if s.s<t.v.s then⟨s,c⟩::t::WV s c true r else if t.v=s then⟨t.v,Cu (t.c+c)⟩::WV s c true r else t::WV s c false r:=by
 rw[WV]
 by_cases h:s.s<t.v.s
 ·have : ¬ t.v=s:=fun e=>by rw[e]at h;exact List.lt_irrefl _ h
  simp[h,this]
 ·simp[h]
theorem Sy(s:Str)(c:Int): ∀ (l:List Coef),(WV s c true l).length=l.length
 | []=>by simp[WV]
 | t::l=>by rw[a9f];simp[Sy s c l]
theorem Az(s:Str)(c:Int): ∀ (l:List Coef),(WV s c false l).length<=l.length+1
 | []=>by simp[WV]
 | t::l=>by
  have h1:=Sy s c l
  have h2:=Az s c l
  rw[Bu]
  split
  ·simp[h1]
  ·split <;> simp[h1] <;> omega
theorem a8d(l:Lin)(s:Str)(c:Int):(Q7 l s c).t.length<=l.t.length+1:=Nat.le_trans (List.length_filter_le _ _) (Az s c l.t)
theorem R4{a b:Str}:a=b ↔ a.s=b.s:=⟨fun h=>by rw[h],fun h=>by cases a;cases b;cases h;rfl⟩
theorem b6b: ∀ a:Int×Unit,true=true->Zc a4e 0 (Za LU (Zf (⟨a.1,[]⟩:Lin))) Lm [] (Yx b9j (encL a)):=by
 rintro⟨n,⟨⟩⟩ -
 exact c3t n ⟨by simp,by simp⟩
end Go.Pl

namespace Go.Pl
open Go.RowKit
open Enc (enc dec is)
open EncL (encL decL isL)
set_option maxRecDepth 100000
end Go.Pl

namespace Go.Pl
open Go.RowKit
open Enc (enc dec is)
open EncL (encL decL isL)
end Go.Pl

namespace Go.Pl
open Go.RowKit
open Enc (enc dec is)
open EncL (encL decL isL)
set_option maxRecDepth 100000
def Xj:IC:=(.seq (.reg [⟨(some 2),(.mv (.c (.bool false))),0,none⟩] none) (.seq (.seq (.reg [⟨(some 7),(.mv (.t 0)),0,none⟩,⟨(some 8),(.call (.c (.fn 152)) [(.t 7),(.c (.str [95]))]),0,none⟩] none) (.cond (.t 8) (.seq (.reg [⟨(some 10),(.mv (.t 0)),0,none⟩,⟨(some 11),(.strslc (.t 10) (some (.c (.int .i64 1))) none),0,none⟩,⟨(some 12),(.call (.c (.fn 182)) [(.t 11)]),0,none⟩,⟨(some 9),(.mv (.t 12)),2,none⟩,⟨(some 13),(.extract (.t 9) 0),2,none⟩,⟨(some 14),(.extract (.t 9) 1),2,none⟩,⟨(some 3),(.mv (.t 13)),2,none⟩,⟨(some 4),(.mv (.t 14)),2,none⟩] none) (.seq (.reg [⟨(some 15),(.mv (.t 4)),0,none⟩,⟨(some 16),(.bin .ifc .eql (.t 15) (.c .nili)),0,none⟩,⟨(some 17),(.mv (.t 16)),0,none⟩,⟨(some 18),(.mv (.t 3)),0,(some (17,true))⟩,⟨(some 19),(.bin .num .gtr (.t 18) (.c (.int .i64 0))),0,(some (17,true))⟩,⟨(some 20),(.pick (.t 17) (.t 19) (.c (.bool false))),0,none⟩,⟨(some 21),(.mv (.t 20)),0,none⟩,⟨(some 22),(.mv (.t 0)),0,(some (21,true))⟩,⟨(some 23),(.len 0 (.t 22)),0,(some (21,true))⟩,⟨(some 24),(.bin .num .leq (.t 23) (.c (.int .i64 10))),0,(some (21,true))⟩,⟨(some 25),(.pick (.t 21) (.t 24) (.c (.bool false))),0,none⟩,⟨(some 26),(.mv (.t 25)),0,none⟩,⟨(some 27),(.mv (.t 3)),0,(some (26,true))⟩,⟨(some 28),(.call (.c (.fn 76)) [(.t 27)]),0,(some (26,true))⟩,⟨(some 29),(.mv (.t 0)),2,(some (26,true))⟩,⟨(some 30),(.strslc (.t 29) (some (.c (.int .i64 1))) none),2,(some (26,true))⟩,⟨(some 31),(.bin .num .eql (.t 28) (.t 30)),2,(some (26,true))⟩,⟨(some 32),(.pick (.t 26) (.t 31) (.c (.bool false))),2,none⟩,⟨(some 2),(.mv (.t 32)),2,none⟩] (some [[],[0],[1,0],[2,1,0],[3,2,1,0],[2,4,1,0,3],[5,2,4,1,0,3],[6,5,2,4,1,0,3],[7,6,5,2,4,1,0,3],[8,6,7,5,2,4,1,0,3],[6,9,5,2,4,1,0,3,8,7],[10,6,9,5,2,4,1,0,3,8,7],[11,10,6,9,5,2,4,1,0,3,8,7],[12,11,10,6,9,5,2,4,1,0,3,8,7],[11,10,6,9,5,2,4,1,0,3,8,7],[14,11,10,6,9,5,2,4,1,0,3,8,7],[13,15,11,12,10,6,9,5,2,4,1,0,3,8,7,14],[11,16,10,6,9,5,2,4,1,0,3,8,7,13,15,12,14],[17,13,0,1,2,3,4,5,6,7,8,9,10,11,12,14,15,16]])) .ret)) .skip)) (.seq (.seq (.reg [⟨(some 33),(.mv (.t 0)),0,none⟩,⟨(some 34),(.sbytes (.t 33)),0,none⟩,⟨(some 35),(.len 1 (.t 34)),0,none⟩,⟨(some 36),(.mv (.c (.int .i64 0))),0,none⟩] none) (.block 0 (.loop [36,35,34,0] (.seq (.reg [⟨(some 37),(.bin .num .lss (.t 36) (.t 35)),0,none⟩] none) (.seq (.cond (.t 37) .skip (.exit 0)) (.seq (.block 1 (.seq (.reg [⟨(some 38),(.mv (.t 36)),0,none⟩,⟨(some 39),(.iaddr 1 (.t 34) (.t 36)),0,none⟩,⟨(some 40),(.load false [(.int .u8)] (.t 39)),0,none⟩,⟨(some 5),(.mv (.t 38)),0,none⟩,⟨(some 6),(.mv (.t 40)),0,none⟩] none) (.seq (.reg [⟨(some 41),(.mv (.t 6)),0,none⟩,⟨(some 42),(.bin .num .lss (.t 41) (.c (.int .u8 97))),0,none⟩,⟨(some 43),(.mv (.t 42)),0,none⟩,⟨(some 44),(.mv (.t 6)),0,(some (43,false))⟩,⟨(some 45),(.bin .num .gtr (.t 44) (.c (.int .u8 122))),0,(some (43,false))⟩,⟨(some 46),(.pick (.t 43) (.c (.bool true)) (.t 45)),0,none⟩,⟨(some 47),(.mv (.t 46)),0,none⟩,⟨(some 48),(.mv (.t 5)),0,(some (47,true))⟩,⟨(some 49),(.bin .num .eql (.t 48) (.c (.int .i64 0))),0,(some (47,true))⟩,⟨(some 50),(.mv (.t 49)),0,(some (47,true))⟩,⟨(some 51),(.mv (.t 6)),0,(some (50,false))⟩,⟨(some 52),(.bin .num .lss (.t 51) (.c (.int .u8 48))),0,(some (50,false))⟩,⟨(some 53),(.pick (.t 50) (.c (.bool true)) (.t 52)),0,(some (47,true))⟩,⟨(some 54),(.mv (.t 53)),0,(some (47,true))⟩,⟨(some 55),(.mv (.t 6)),0,(some (54,false))⟩,⟨(some 56),(.bin .num .gtr (.t 55) (.c (.int .u8 57))),0,(some (54,false))⟩,⟨(some 57),(.pick (.t 54) (.c (.bool true)) (.t 56)),0,(some (47,true))⟩,⟨(some 58),(.pick (.t 47) (.t 57) (.c (.bool false))),0,none⟩] none) (.cond (.t 58) (.seq (.reg [⟨(some 2),(.mv (.c (.bool false))),0,none⟩] none) .ret) .skip)))) (.reg [⟨(some 59),(.bin .num .add (.t 36) (.c (.int .i64 1))),0,none⟩,⟨(some 36),(.mv (.t 59)),0,none⟩] none))))))) (.seq (.reg [⟨(some 60),(.mv (.t 0)),0,none⟩,⟨(some 61),(.bin .num .neq (.t 60) (.c (.str []))),0,none⟩,⟨(some 62),(.mv (.t 61)),0,none⟩,⟨(some 63),(.mv (.t 0)),0,(some (62,true))⟩,⟨(some 64),(.len 0 (.t 63)),0,(some (62,true))⟩,⟨(some 65),(.bin .num .leq (.t 64) (.c (.int .i64 30))),0,(some (62,true))⟩,⟨(some 66),(.pick (.t 62) (.t 65) (.c (.bool false))),0,none⟩,⟨(some 2),(.mv (.t 66)),0,none⟩] none) .ret))))
def Xv:List IRes:=[(.tmp 2)]
abbrev a8l:Nat:=67
def Wq:ZE:=Xi [(152,.pure (preT (fun _:Str×Str×Unit=>true)) (Zg (fun x:Str×Str×Unit=>x.2.1.s.isPrefixOf x.1.s))),(182,.pure (preT (fun x:Str×Unit=>decide (x.1.s.length<=1000000))) (Zg (fun x:Str×Unit=>Yo x.1))),(76,.pure (preT (fun x:Int×Unit=>decide (-9223372036854775808<=x.1)&&decide (x.1<=9223372036854775807))) (Zg (fun x:Int×Unit=>Ng x.1)))]
theorem b6l{G:PV->Prop}(s:List UInt8)(h : ∃ y0:Bool,AV.pv (Zg (fun(x:Str×Str×Unit)=>List.isPrefixOf (Str.s x.2.1) (Str.s x.1)) [(.str s),(.str [(95:UInt8)])])=AV.pv (enc y0)∧(if (y0)=true then(decide (0<=1)&&true&&decide (Int.toNat 1<=List.length s)&&decide (List.length s<=List.length s))=true∧((Go.Pl.preT (fun(x:Str×Unit)=>decide (List.length (Str.s x.1)<=1000000)) [(.str (List.drop (Int.toNat 1) (List.take (List.length s) s)))])=true∧(∃ y1:Int×Er,AV.pv (Zg (fun(x:Str×Unit)=>Yo x.1) [(.str (List.drop (Int.toNat 1) (List.take (List.length s) s)))])=AV.pv (enc y1)∧((CW (enc y1.2)&&Prod.fst (true,PV.bool (Uq (enc y1.2))))=true∧(if (Uq (enc y1.2))=true then if (decide (y1.1>0))=true then if (decide ((↑(List.length s):Int)<=10))=true then(Go.Pl.preT (fun(x:Int×Unit)=>decide ((-9223372036854775808:Int)<=x.1)&&decide (x.1<=9223372036854775807)) [(.int .i64 y1.1)])=true∧(∃ y2:Str,AV.pv (Zg (fun(x:Int×Unit)=>Ng x.1) [(.int .i64 y1.1)])=AV.pv (enc y2)∧((decide (0<=1)&&true&&decide (Int.toNat 1<=List.length s)&&decide (List.length s<=List.length s))=true∧(G ((.bool (Str.s y2==List.drop (Int.toNat 1) (List.take (List.length s) s)))))))else(G ((.bool false)))else(G ((.bool false)))else(G ((.bool false)))))))else(At Wq 0 (Za Xv G) Xj 0 67 [(0,(.pv (.str s))),(34,(.pv (.sl 1 false (Zv s)))),(35,(.pv (.int .i64 (↑(List.length (Zv s)):Int)))),(36,(.pv (.int .i64 0)))] []))):Zc Wq 0 (Za Xv G) Xj [] (Yx 67 [.str s]):=Zc.tp (.lit (.abs (Bool) (fun YY=>AV.pv (enc YY)) (.ask (.req (.req (.abs (Int×Er) (fun YY=>AV.pv (enc YY)) (.req (.ask (.lit (.lit (.lit (.ask (.lit (.lit (.lit (.lit (.ask (.lit (.req (.abs (Str) (fun YY=>AV.pv (enc YY)) (.lit (.lit (.req (.lit (.lit (.lit (.nil)))))))))) (.lit (.lit (.lit (.lit (.lit (.nil))))))))))) (.lit (.lit (.lit (.lit (.lit (.lit (.lit (.lit (.lit (.nil)))))))))))))) (.lit (.lit (.lit (.lit (.lit (.lit (.lit (.lit (.lit (.lit (.lit (.lit (.nil)))))))))))))))))) (.nil)))) h (by kernel_rfl)
theorem NE{G:PV->Prop}(s:List UInt8)(i:Int)(h:if (decide (i<(↑(List.length (Zv s)):Int)))=true then(decide (0<=i)&&decide (Int.toNat i<List.length (Zv s))&&1==1)=true∧((decide (0+List.length [Sh.int IntKind.u8]<=List.length (PV.cells (List.getD (Zv s) (Int.toNat i) default)))&&Y4 (PV.cells (List.getD (Zv s) (Int.toNat i) default)) 0 [Sh.int IntKind.u8])=true∧(if (decide (PV.asInt (List.getD (PV.cells (List.getD (Zv s) (Int.toNat i) default)) 0 default)<97))=true then if (i==0)=true then G ((.bool false))else(if (decide (PV.asInt (List.getD (PV.cells (List.getD (Zv s) (Int.toNat i) default)) 0 default)<48))=true then G ((.bool false))else(if (decide (PV.asInt (List.getD (PV.cells (List.getD (Zv s) (Int.toNat i) default)) 0 default)>57))=true then G ((.bool false))else(At Wq 0 (Za Xv G) Xj 0 67 [(0,(.pv (.str s))),(34,(.pv (.sl 1 false (Zv s)))),(35,(.pv (.int .i64 (↑(List.length (Zv s)):Int)))),(36,(.pv (.int .i64 (IntKind.wrap IntKind.i64 (i+1)))))] [])))else(if (decide (PV.asInt (List.getD (PV.cells (List.getD (Zv s) (Int.toNat i) default)) 0 default)>122))=true then if (i==0)=true then G ((.bool false))else(if (decide (PV.asInt (List.getD (PV.cells (List.getD (Zv s) (Int.toNat i) default)) 0 default)<48))=true then G ((.bool false))else(if (decide (PV.asInt (List.getD (PV.cells (List.getD (Zv s) (Int.toNat i) default)) 0 default)>57))=true then G ((.bool false))else(At Wq 0 (Za Xv G) Xj 0 67 [(0,(.pv (.str s))),(34,(.pv (.sl 1 false (Zv s)))),(35,(.pv (.int .i64 (↑(List.length (Zv s)):Int)))),(36,(.pv (.int .i64 (IntKind.wrap IntKind.i64 (i+1)))))] [])))else(At Wq 0 (Za Xv G) Xj 0 67 [(0,(.pv (.str s))),(34,(.pv (.sl 1 false (Zv s)))),(35,(.pv (.int .i64 (↑(List.length (Zv s)):Int)))),(36,(.pv (.int .i64 (IntKind.wrap IntKind.i64 (i+1)))))] []))))else(if (!s==[])=true then G ((.bool (decide ((↑(List.length s):Int)<=30))))else(G ((.bool false))))):At Wq 0 (Za Xv G) Xj 0 67 [(0,.pv (.str s)),(34,.pv (.sl 1 false (Zv s))),(35,.pv (.int .i64 (Zv s).length)),(36,.pv (.int .i64 i))] []:=At.tp (.lit (.ask (.req (.keep (.req (.lit (.ask (.lit (.lit (.lit (.lit (.lit (.lit (.ask (.lit (.lit (.lit (.lit (.lit (.lit (.lit (.lit (.lit (.lit (.nil))))))))))) (.lit (.lit (.lit (.lit (.lit (.ask (.lit (.lit (.lit (.lit (.lit (.nil)))))) (.lit (.lit (.lit (.lit (.lit (.ask (.nil) (.lit (.nil))))))))))))))))))))) (.lit (.lit (.lit (.ask (.lit (.lit (.lit (.ask (.lit (.lit (.lit (.lit (.lit (.lit (.lit (.lit (.lit (.lit (.nil))))))))))) (.lit (.lit (.lit (.lit (.lit (.ask (.lit (.lit (.lit (.lit (.lit (.nil)))))) (.lit (.lit (.lit (.lit (.lit (.ask (.nil) (.lit (.nil)))))))))))))))))) (.lit (.lit (.lit (.lit (.lit (.lit (.lit (.lit (.nil)))))))))))))))))) (.lit (.ask (.lit (.lit (.lit (.lit (.nil))))) (.lit (.lit (.lit (.nil)))))))) h (by kernel_rfl)
def XZ:IC:=(.seq (.reg [⟨(some 1),(.box 2 (.t 0)),0,none⟩,⟨(some 2),(.mv (.c (.bool false))),1,none⟩] none) (.seq (.seq (.reg [⟨(some 5),(.faddr 1 (.t 1)),0,none⟩,⟨(some 6),(.load false [(.sl 2)] (.t 5)),0,none⟩,⟨(some 7),(.len 1 (.t 6)),0,none⟩,⟨(some 8),(.mv (.c (.int .i64 0))),0,none⟩] none) (.block 0 (.loop [8,7,6,1] (.seq (.reg [⟨(some 9),(.bin .num .lss (.t 8) (.t 7)),0,none⟩] none) (.seq (.cond (.t 9) .skip (.exit 0)) (.seq (.block 1 (.seq (.reg [⟨(some 10),(.mv (.t 8)),0,none⟩,⟨(some 11),(.iaddr 2 (.t 6) (.t 8)),0,none⟩,⟨(some 12),(.load true [.str,(.int .i64)] (.t 11)),0,none⟩,⟨(some 4),(.alloc (.agg [(.str []),(.int .i64 0)])),0,none⟩,⟨(some 3),(.mv (.t 10)),1,none⟩,⟨none,(.store 2 (.t 4) (.t 12)),1,none⟩] none) (.seq (.reg [⟨(some 13),(.faddr 0 (.t 4)),0,none⟩,⟨(some 14),(.load false [.str] (.t 13)),0,none⟩,⟨(some 15),(.call (.c (.fn 119)) [(.t 14)]),0,none⟩,⟨(some 16),(.un .not (.t 15)),2,none⟩,⟨(some 17),(.mv (.t 16)),2,none⟩,⟨(some 18),(.faddr 1 (.t 4)),2,(some (17,false))⟩,⟨(some 19),(.load false [(.int .i64)] (.t 18)),2,(some (17,false))⟩,⟨(some 20),(.bin .num .eql (.t 19) (.c (.int .i64 0))),2,(some (17,false))⟩,⟨(some 21),(.pick (.t 17) (.c (.bool true)) (.t 20)),2,none⟩,⟨(some 22),(.mv (.t 21)),2,none⟩,⟨(some 23),(.faddr 1 (.t 4)),2,(some (22,false))⟩,⟨(some 24),(.load false [(.int .i64)] (.t 23)),2,(some (22,false))⟩,⟨(some 25),(.call (.c (.fn 144)) [(.t 24)]),2,(some (22,false))⟩,⟨(some 26),(.un .not (.t 25)),4,(some (22,false))⟩,⟨(some 27),(.pick (.t 22) (.c (.bool true)) (.t 26)),4,none⟩,⟨(some 28),(.mv (.t 27)),4,none⟩,⟨(some 29),(.mv (.t 3)),4,(some (28,false))⟩,⟨(some 30),(.bin .num .gtr (.t 29) (.c (.int .i64 0))),4,(some (28,false))⟩,⟨(some 31),(.mv (.t 30)),4,(some (28,false))⟩,⟨(some 32),(.faddr 1 (.t 1)),4,(some (31,true))⟩,⟨(some 33),(.load false [(.sl 2)] (.t 32)),4,(some (31,true))⟩,⟨(some 34),(.mv (.t 3)),4,(some (31,true))⟩,⟨(some 35),(.bin .num .sub (.t 34) (.c (.int .i64 1))),4,(some (31,true))⟩,⟨(some 36),(.iaddr 2 (.t 33) (.t 35)),4,(some (31,true))⟩,⟨(some 37),(.faddr 0 (.t 36)),4,(some (31,true))⟩,⟨(some 38),(.load false [.str] (.t 37)),4,(some (31,true))⟩,⟨(some 39),(.faddr 0 (.t 4)),4,(some (31,true))⟩,⟨(some 40),(.load false [.str] (.t 39)),4,(some (31,true))⟩,⟨(some 41),(.bin .num .geq (.t 38) (.t 40)),4,(some (31,true))⟩,⟨(some 42),(.pick (.t 31) (.t 41) (.c (.bool false))),4,(some (28,false))⟩,⟨(some 43),(.pick (.t 28) (.c (.bool true)) (.t 42)),4,none⟩] (some [[],[0],[1,0],[2,1,0],[3,2,1,0],[4,3,2,1,0],[5,4,3,2,1,0],[6,4,5,3,2,1,0],[4,7,3,2,1,0,6,5],[8,4,7,3,2,1,0,6,5],[9,8,4,7,3,2,1,0,6,5],[10,9,8,4,7,3,2,1,0,6,5],[11,9,10,8,4,7,3,2,1,0,6,5],[12,9,11,10,8,4,7,3,2,1,0,6,5],[9,13,8,4,7,3,2,1,0,6,5,12,11,10],[14,12,9,13,8,4,7,3,2,1,0,6,5,11,10],[15,14,12,9,13,8,4,7,3,2,1,0,6,5,11,10],[16,15,14,12,9,13,8,4,7,3,2,1,0,6,5,11,10],[17,15,16,14,12,9,13,8,4,7,3,2,1,0,6,5,11,10],[18,17,15,16,14,12,9,13,8,4,7,3,2,1,0,6,5,11,10],[19,18,17,15,16,14,12,9,13,8,4,7,3,2,1,0,6,5,11,10],[18,17,15,16,14,12,9,13,8,4,7,3,2,1,0,6,5,11,10],[21,18,17,15,16,14,12,9,13,8,4,7,3,2,1,0,6,5,11,10],[20,22,18,19,17,15,16,14,12,9,13,8,4,7,3,2,1,0,6,5,11,10,21],[23,18,20,22,19,17,15,16,14,12,9,13,8,4,7,3,2,1,0,6,5,11,10,21],[24,18,23,20,22,19,17,15,16,14,12,9,13,8,4,7,3,2,1,0,6,5,11,10,21],[18,17,15,16,14,12,9,13,8,4,7,3,2,1,0,6,5,11,10],[26,18,17,15,16,14,12,9,13,8,4,7,3,2,1,0,6,5,11,10],[25,27,18,24,23,20,22,19,17,15,16,14,12,9,13,8,4,7,3,2,1,0,6,5,11,10,21,26],[18,28,15,17,16,14,12,9,13,8,4,7,3,2,1,0,6,5,11,10,25,27,24,23,20,22,19,21,26],[15,29,14,12,9,13,8,4,7,3,2,1,0,6,5,11,10,18,28,17,16,25,27,24,23,20,22,19,21,26]])) (.cond (.t 43) (.seq (.reg [⟨(some 2),(.mv (.c (.bool false))),0,none⟩] none) .ret) .skip)))) (.reg [⟨(some 44),(.bin .num .add (.t 8) (.c (.int .i64 1))),0,none⟩,⟨(some 8),(.mv (.t 44)),0,none⟩] none))))))) (.seq (.reg [⟨(some 45),(.faddr 0 (.t 1)),0,none⟩,⟨(some 46),(.load false [(.int .i64)] (.t 45)),0,none⟩,⟨(some 47),(.call (.c (.fn 144)) [(.t 46)]),0,none⟩,⟨(some 48),(.mv (.t 47)),2,none⟩,⟨(some 49),(.faddr 1 (.t 1)),2,(some (48,true))⟩,⟨(some 50),(.load false [(.sl 2)] (.t 49)),2,(some (48,true))⟩,⟨(some 51),(.len 1 (.t 50)),2,(some (48,true))⟩,⟨(some 52),(.bin .num .leq (.t 51) (.c (.int .i64 12))),2,(some (48,true))⟩,⟨(some 53),(.pick (.t 48) (.t 52) (.c (.bool false))),2,none⟩,⟨(some 2),(.mv (.t 53)),2,none⟩] none) .ret)))
def XW:List IRes:=[(.tmp 2)]
abbrev a3v:Nat:=54
def WI:ZE:=Xi [(144,.pure (preT (fun _:Int×Unit=>true)) (Zg (fun x:Int×Unit=>Yy x.1))),(119,.pure (preT (fun x:Str×Unit=>decide (x.1.s.length<=1000000))) (Zg (fun x:Str×Unit=>ZA x.1)))]
theorem b0r{G:PV->Prop}(l:Lin)(h:At WI 0 (Za XW G) XZ 0 54 [(1,(.ptr 0 0)),(6,(.pv (.sl 2 false (List.map enc l.t)))),(7,(.pv (.int .i64 (↑(List.length (List.map enc l.t)):Int)))),(8,(.pv (.int .i64 0)))] [(.obj (.box [(.pv (.int .i64 l.k)),(.pv (.sl 2 false (List.map enc l.t)))]))]):Zc WI 0 (Za XW G) XZ [] (Yx 54 [enc l]):=Zc.tp (.nil) h (by kernel_rfl)
theorem Tj{G:PV->Prop}(l:Lin)(i:Int)(h:if (decide (i<(↑(List.length l.t):Int)))=true then(decide (0<=i)&&decide (Int.toNat i<List.length (List.map enc l.t))&&Enc.sz Coef==2)=true∧(∃ y0:Coef,AV.pv (PV.rptr (PV.cells (List.getD (List.map enc l.t) (Int.toNat i) default)))=AV.pv (PV.rptr (PV.cells ((enc) y0)))∧((Go.Pl.preT (fun(x:Str×Unit)=>decide (List.length (Str.s x.1)<=1000000)) [(.str (PV.asStr (List.getD (PV.cells (enc y0)) 0 default)))])=true∧(∃ y1:Bool,AV.pv (Zg (fun(x:Str×Unit)=>ZA x.1) [(.str (PV.asStr (List.getD (PV.cells (enc y0)) 0 default)))])=AV.pv (enc y1)∧(if (!y1)=true then G ((.bool false))else(if (PV.asInt (List.getD (PV.cells (enc y0)) (0+1) default)==0)=true then G ((.bool false))else(∃ y2:Bool,AV.pv (Zg (fun(x:Int×Unit)=>Yy x.1) [(.int .i64 (PV.asInt (List.getD (PV.cells (enc y0)) (0+1) default)))])=AV.pv (enc y2)∧(if (!y2)=true then G ((.bool false))else(if (decide (i>0))=true then(decide (0<=IntKind.wrap IntKind.i64 (i - 1))&&decide (Int.toNat (IntKind.wrap IntKind.i64 (i - 1))<List.length (List.map enc l.t))&&Enc.sz Coef==2)=true∧(∃ y3:Coef,AV.pv (PV.rptr (PV.cells (List.getD (List.map enc l.t) (Int.toNat (IntKind.wrap IntKind.i64 (i - 1))) default)))=AV.pv (PV.rptr (PV.cells ((enc) y3)))∧(if (!Op.bytesLess (PV.asStr (List.getD (List.drop 0 (PV.cells (enc y3))) 0 default)) (PV.asStr (List.getD (PV.cells (enc y0)) 0 default)))=true then G ((.bool false))else(At WI 0 (Za XW G) XZ 0 54 [(1,(.ptr 0 0)),(6,(.pv (.sl 2 false (List.map enc l.t)))),(7,(.pv (.int .i64 (↑(List.length l.t):Int)))),(8,(.pv (.int .i64 (IntKind.wrap IntKind.i64 (i+1)))))] [(.obj (.box [(.pv (.int .i64 l.k)),(.pv (.sl 2 false (List.map enc l.t)))]))])))else(At WI 0 (Za XW G) XZ 0 54 [(1,(.ptr 0 0)),(6,(.pv (.sl 2 false (List.map enc l.t)))),(7,(.pv (.int .i64 (↑(List.length l.t):Int)))),(8,(.pv (.int .i64 (IntKind.wrap IntKind.i64 (i+1)))))] [(.obj (.box [(.pv (.int .i64 l.k)),(.pv (.sl 2 false (List.map enc l.t)))]))])))))))))else(∃ y4:Bool,AV.pv (Zg (fun(x:Int×Unit)=>Yy x.1) [(.int .i64 l.k)])=AV.pv (enc y4)∧(if (y4)=true then G ((.bool (decide ((↑(List.length (List.map enc l.t)):Int)<=12))))else(G ((.bool false)))))):At WI 0 (Za XW G) XZ 0 54 [(1,.ptr 0 0),(6,.pv (enc l.t)),(7,.pv (.int .i64 l.t.length)),(8,.pv (.int .i64 i))] [.obj (.box [.pv (.int .i64 l.k),.pv (enc l.t)])]:=At.tp (.lit (.ask (.req (.abs (Coef) (fun YY=>AV.pv (PV.rptr (PV.cells ((enc) YY)))) (.lit (.req (.abs (Bool) (fun YY=>AV.pv (enc YY)) (.ask (.lit (.lit (.lit (.lit (.lit (.lit (.lit (.lit (.lit (.lit (.lit (.lit (.lit (.lit (.nil))))))))))))))) (.lit (.lit (.lit (.lit (.ask (.lit (.lit (.lit (.lit (.lit (.lit (.lit (.lit (.lit (.lit (.nil))))))))))) (.lit (.lit (.lit (.abs (Bool) (fun YY=>AV.pv (enc YY)) (.lit (.lit (.ask (.lit (.lit (.lit (.lit (.lit (.nil)))))) (.lit (.lit (.lit (.ask (.lit (.lit (.lit (.lit (.lit (.req (.abs (Coef) (fun YY=>AV.pv (PV.rptr (PV.cells ((enc) YY)))) (.lit (.lit (.lit (.lit (.lit (.lit (.lit (.lit (.lit (.lit (.ask (.nil) (.lit (.nil)))))))))))))))))))) (.lit (.lit (.lit (.lit (.lit (.lit (.lit (.lit (.lit (.lit (.lit (.lit (.lit (.lit (.nil))))))))))))))))))))))))))))))))))))) (.lit (.abs (Bool) (fun YY=>AV.pv (enc YY)) (.ask (.lit (.lit (.lit (.lit (.lit (.nil)))))) (.lit (.lit (.lit (.lit (.nil)))))))))) h (by kernel_rfl)
end Go.Pl

namespace Go.Pl
open Go.RowKit
open Enc (enc dec is)
open EncL (encL decL isL)
theorem Me{s:List UInt8}{i:Nat}(h:i<s.length):List.getD (Zv s) (Int.toNat (i:Int)) default = .int .u8 (s[i].toNat:Int):=by
 simp[Zv,List.getD,h]
theorem V4(s:List UInt8):(Zv s).length=s.length:=by simp[Zv]
def PY(c:UInt8):Bool:=Wi c||XQ c
theorem RV{c:UInt8}:Wi c=true ↔ 97<=c.toNat∧c.toNat<=122:=by
 simp only[Wi,Bool.and_eq_true,decide_eq_true_eq,UInt8.le_iff_toNat_le]
 have e1:(97:UInt8).toNat=97:=rfl
 have e2:(122:UInt8).toNat=122:=rfl
 rw[e1,e2]
theorem Ko{c:UInt8}(h : ¬ (97<=c.toNat∧c.toNat<=122)):Wi c=false:=by
 cases e:Wi c
 ·rfl
 ·exact absurd (RV.1 e) h
theorem Kq{c:UInt8}(h : ¬ (48<=c.toNat∧c.toNat<=57)):XQ c=false:=by
 cases e:XQ c
 ·rfl
 ·exact absurd (WH.1 e) h
def Xk(s:List UInt8)(i:Nat):Bool:=(match i with|0=>(match s with|[]=>true|c::r=>Wi c&&r.all PY)|i+1=>(s.drop (i+1)).all PY)&&(!(s==[]))&&decide (s.length<=30)
theorem SF{s:List UInt8}{i:Nat}(h:i<s.length)(hb:Wi s[i]=true∨(i≠0∧XQ s[i]=true)):Xk s i=Xk s (i+1):=by
 cases i with
 | zero=>
  cases s with
  | nil=>simp at h
  | cons c r=>
   rcases hb with hb|hb
   ·have hb:Wi c=true:=hb
    simp[Xk,hb]
   ·exact absurd rfl hb.1
 | succ i=>
  unfold Xk
  simp only
  rw[List.drop_eq_getElem_cons h,List.all_cons]
  have:PY s[i+1]=true:=by
   rcases hb with hb|hb
   ·simp[PY,hb]
   ·simp[PY,hb.2]
  rw[this,Bool.true_and]
theorem AQ{s:List UInt8}{i:Nat}(h:i<s.length)(hb:Wi s[i]=false∧(i=0∨XQ s[i]=false)):Xk s i=false:=by
 cases i with
 | zero=>
  cases s with
  | nil=>simp at h
  | cons c r=>
   have hb:Wi c=false:=hb.1
   simp[Xk,hb]
 | succ i=>
  unfold Xk
  simp only
  rw[List.drop_eq_getElem_cons h,List.all_cons]
  have:PY s[i+1]=false:=by
   rcases hb.2 with h0|h0
   ·cases h0
   ·simp[PY,hb.1,h0]
  rw[this];simp
theorem F6(s:List UInt8)(hs:s.length<=1000000): ∀ (m i:Nat),m+i=s.length->At Wq 0 (Za Xv (Zf (Xk s i))) Xj 0 67 [(0,.pv (.str s)),(34,.pv (.sl 1 false (Zv s))),(35,.pv (.int .i64 (Zv s).length)),(36,.pv (.int .i64 i))] []:=by
 intro m
 induction m with
 | zero=>
  intro i hi
  have e:Xk s i=(!(s==[])&&decide (s.length<=30)):=by
   unfold Xk
   cases i with
   | zero=>cases s with
    | nil=>rfl
    | cons c r=>simp at hi
   | succ i=>simp only;rw[List.drop_of_length_le (show s.length<=i+1 by omega)];simp
  rw[e]
  refine NE s i (ZV (Z8 (by rw[V4];omega)) (Xe (fun h=>ZJ ?_) fun h=>ZJ ?_))
  ·rw[h,Bool.true_and];exact decide_eq_decide.2 (by omega)
  ·rw[h,Bool.false_and]
 | succ m ih=>
  intro i hi
  have hlt:i<s.length:=by omega
  have h:=ih (i+1) (by omega)
  refine NE s i ?_
  rw[Me hlt,next (by omega)]
  have stop:(Wi s[i]=false∧(i=0∨XQ s[i]=false))->Zf (Xk s i) (.bool false):=fun hb=>ZJ (AQ hlt hb).symm
  have go:(Wi s[i]=true∨(i≠0∧XQ s[i]=true))->At Wq 0 (Za Xv (Zf (Xk s i))) Xj 0 67 [(0,.pv (.str s)),(34,.pv (.sl 1 false (Zv s))),(35,.pv (.int .i64 (Zv s).length)),(36,.pv (.int .i64 ((i+1:Nat):Int)))] []:=fun hb=>by rw[SF hlt hb];exact h
  have rest:Wi s[i]=false->(if ((i:Int)==0)=true then Zf (Xk s i) (.bool false)else if decide ((s[i].toNat:Int)<48)=true then Zf (Xk s i) (.bool false)else if decide ((s[i].toNat:Int)>57)=true then Zf (Xk s i) (.bool false)else At Wq 0 (Za Xv (Zf (Xk s i))) Xj 0 67 [(0,.pv (.str s)),(34,.pv (.sl 1 false (Zv s))),(35,.pv (.int .i64 (Zv s).length)),(36,.pv (.int .i64 ((i+1:Nat):Int)))] []):=by
   intro hl
   refine Jq (fun h0=>stop ⟨hl,.inl (by omega)⟩) fun h0=>We (fun h1=>stop ⟨hl,.inr (Kq (by omega))⟩) fun h1=>We (fun h2=>stop ⟨hl,.inr (Kq (by omega))⟩) fun h2=>go (.inr ⟨by omega,WH.2 (by omega)⟩)
  refine ZQ (Z4 (by rw[V4];exact hlt)) ⟨by rw[V4];simp[hlt],by rfl,?_⟩
  refine We (fun h1=>rest (Ko ?_)) fun h1=>We (fun h2=>rest (Ko ?_)) fun h2=>go (.inl (RV.2 ?_))
  ·have h1:(s[i].toNat:Int)<97:=h1
   omega
  ·have h2:(s[i].toNat:Int)>122:=h2
   omega
  ·have h1 : ¬ (s[i].toNat:Int)<97:=h1
   have h2 : ¬ (s[i].toNat:Int)>122:=h2
   omega
theorem SQ{s:List UInt8}(h:[95].isPrefixOf s=false):ZA ⟨s⟩=Xk s 0:=by
 cases s with
 | nil=>rfl
 | cons c r=>
  have hc : ¬ c=95:=by intro e;subst e;simp at h
  have e:decide ((c::r).length<=30)=decide (r.length<=29):=decide_eq_decide.2 (by simp)
  unfold Xk
  rw[e]
  simp only[ZA,if_neg hc]
  show _=(Wi c&&r.all PY&& !((c::r)==[])&&_)
  have e2:((c::r)==[])=false:=rfl
  rw[e2]
  simp only[Bool.not_false,Bool.and_true]
  rfl
theorem Cy(s:Str): -9223372036854775808<=(Yo s).1∧((Yo s).1<=9223372036854775807):=by
 unfold Yo
 split
 ·rename_i v hv;exact Lib.atoiAll_bounds hv
 ·have:=Lib.atoiSat_bounds s.s
  exact⟨by show _<=Lib.atoiSat s.s;omega,by show Lib.atoiSat s.s<=_;omega⟩
 ·exact⟨by show(-9223372036854775808:Int)<=0;omega,by show(0:Int)<=_;omega⟩
theorem a3x: ∀ a:Str×Unit,decide (a.1.s.length<=1000000)=true->Zc Wq 0 (Za Xv (Zf (ZA a.1))) Xj [] (Yx a8l (encL a)):=by
 rintro⟨⟨s⟩,⟨⟩⟩ hl
 have hl:s.length<=1000000:=by simpa using hl
 refine b6l s (Zi (⟨s⟩,⟨[95]⟩,()) rfl (Xe (fun h=> ?_) fun h=> ?_))
 ·have h:[95].isPrefixOf s=true:=h
  obtain⟨r,rfl⟩ : ∃ r,s=95::r:=by
   cases s with
   | nil=>simp at h
   | cons c r=>
    have:95=c:=by simpa using h
    exact⟨r,by rw[this]⟩
  have e1:List.drop (Int.toNat 1) (List.take (List.length (95::r)) (95::r))=r:=by rw[List.take_of_length_le (Nat.le_refl _)];rfl
  simp only[e1]
  refine⟨by simp,Zl (⟨r⟩,()) rfl (by simp at hl ⊢;omega),Zi (⟨r⟩,()) rfl ⟨by show(CW (enc (Yo ⟨r⟩).2)&&true)=true;rw[b8o];rfl,?_⟩⟩
  show if Uq (enc (Yo ⟨r⟩).2)=true then(if decide ((Yo ⟨r⟩).1>0)=true then(if _ then _ else Zf (ZA ⟨95::r⟩) _)else Zf (ZA ⟨95::r⟩) _)else Zf (ZA ⟨95::r⟩) _
  rw[Po]
  by_cases h9:r.length<=9
  ·rw[<- OY r h9,decide_eq_true h9,Bool.and_true]
   refine Xe (fun h1=>Xe (fun h2=>ZQ (by simp;omega) ⟨Zl ((Yo ⟨r⟩).1,()) rfl (by have:=Cy ⟨r⟩;simp;omega),Zi ((Yo ⟨r⟩).1,()) rfl ⟨by simp,ZJ ?_⟩⟩) fun h2=>ZJ ?_) fun h1=>ZJ ?_
   ·rw[h1,h2];simp only[Bool.true_and,Bool.and_true];rfl
   ·rw[h2];simp
   ·rw[h1];simp
  ·rw[decide_eq_false h9,Bool.and_false]
   refine Xe (fun h1=>Xe (fun h2=>ZV (by simp;omega) (ZJ rfl)) fun h2=>ZJ rfl) fun h1=>ZJ rfl
 ·have h:[95].isPrefixOf s=false:=h
  show At Wq 0 (Za Xv (Zf (ZA ⟨s⟩))) Xj 0 67 _ _
  rw[SQ h]
  exact F6 s hl s.length 0 (by omega)
theorem Mc(l:Lin)(hl:l.t.length<=9223372036854775807)(hs:l.t.all (fun t=>decide (t.v.s.length<=1000000))=true): ∀ (j i:Nat),j+i=l.t.length->At WI 0 (Za XW (Zf (Bn (pvS l.t i) (l.t.drop i)&&(Yy l.k&&decide (l.t.length<=12))))) XZ 0 54 [(1,.ptr 0 0),(6,.pv (enc l.t)),(7,.pv (.int .i64 l.t.length)),(8,.pv (.int .i64 i))] [.obj (.box [.pv (.int .i64 l.k),.pv (enc l.t)])]:=by
 intro j
 induction j with
 | zero=>
  intro i hi
  refine Tj l i (ZV (Z8 (by omega)) (Zi (l.k,()) rfl ?_))
  rw[List.drop_of_length_le (show l.t.length<=i by omega)]
  refine Xe (fun h=>ZJ ?_) fun h=>ZJ ?_
  ·have h:Yy l.k=true:=h
   rw[h]
   show _=(true&&(true&&_))
   rw[Bool.true_and,Bool.true_and]
   exact decide_eq_decide.2 (by simp;omega)
  ·have h:Yy l.k=false:=h
   rw[h];simp
 | succ j ih=>
  intro i hi
  have hlt:i<l.t.length:=by omega
  have h:=ih (i+1) (by omega)
  have hsi:l.t[i].v.s.length<=1000000:=by rw[List.all_eq_true]at hs;simpa using hs _ (List.getElem_mem hlt)
  refine Tj l i ?_
  refine ZQ (Z4 hlt) ⟨Zu hlt rfl,ZG hlt ⟨Zl (l.t[i].v,()) rfl (by simpa using hsi),Zi (l.t[i].v,()) rfl (Vq (fun hn=> ?_) fun hn=>Jq (fun hc=> ?_) fun hc=>Zi (l.t[i].c,()) rfl (Vq (fun hk=> ?_) fun hk=> ?_))⟩⟩
  all_goals rw[List.drop_eq_getElem_cons hlt,JQ]
  ·have hn:ZA l.t[i].v=false:=hn
   exact ZJ (by simp[hn])
  ·have hc:l.t[i].c=0:=hc
   exact ZJ (by simp[hc])
  ·have hk:Yy l.t[i].c=false:=hk
   exact ZJ (by simp[hk])
  have hn:ZA l.t[i].v=true:=hn
  have hk:Yy l.t[i].c=true:=hk
  have hc:l.t[i].c≠0:=hc
  rw[next (by omega),hn,hk,decide_eq_true hc]
  have ep:pvS l.t (i+1)=some l.t[i].v.s:=by simp[pvS,hlt]
  rw[ep]at h
  cases i with
  | zero=>exact ZV (by simp) h
  | succ i=>
   refine ZQ (by simp) ?_
   rw[O6 (by omega)]
   refine⟨Zu (by omega) rfl,ZG (by omega) ?_⟩
   have e2:pvS l.t (i+1)=some l.t[i].v.s:=by simp[pvS,show i<l.t.length by omega]
   rw[e2]
   refine Vq (fun hb=> ?_) fun hb=> ?_
   all_goals
    have hb':=(YN l.t[i].v.s l.t[i+1].v.s).symm.trans hb
    simp only[hb',Bool.and_true,Bool.true_and,Bool.and_false,Bool.false_and]
   ·exact ZJ rfl
   ·exact h
theorem Oq: ∀ a:Lin×Unit,Ym a.1=true->Zc WI 0 (Za XW (Zf (Zw a.1))) XZ [] (Yx a3v (encL a)):=by
 rintro⟨l,⟨⟩⟩ hl
 simp only[Ym,YW,Bool.and_eq_true,decide_eq_true_eq]at hl
 refine b0r l ?_
 show At WI 0 (Za XW (Zf (Zw l))) XZ 0 54 _ _
 have e:Zw l=(Bn (pvS l.t 0) (l.t.drop 0)&&(Yy l.k&&decide (l.t.length<=12))):=by rw[P6,Bool.and_comm];rfl
 rw[e,List.length_map]
 exact Mc l hl.1 hl.2 l.t.length 0 (by omega)
end Go.Pl

namespace Go.Pl
open Go.RowKit
open Enc (enc dec is)
open EncL (encL decL isL)
structure LR where
 k:Int
 w:Nat
 ts:List Coef
def LR.view(r:LR):Lin:=⟨r.k,r.ts.take r.w⟩
def LR.av(r:LR)(l:Nat):AV:=.agg [.pv (.int .i64 r.k),.row l r.ts.length 0 r.w]
def LR.ob(r:LR):AObj:=.row false 61 2 (r.ts.map enc)
def QU:Nat->Nat->Nat->List Coef->List Coef×Nat
 | 0,_,j,ts=>(ts,j)
 | m+1,i,j,ts=>if (ts.getD i ⟨⟨[]⟩,0⟩).c=0 then QU m (i+1) j ts else QU m (i+1) (j+1) (ts.set j (ts.getD i ⟨⟨[]⟩,0⟩))
def S9(k:Int)(o:List Coef):LR:=⟨k,(QU o.length 0 0 o).2,(QU o.length 0 0 o).1⟩
def GM(l:Lin)(s:Str)(c:Int):LR:=S9 l.k (WV s c false l.t)
theorem H7(o:List Coef): ∀ (m i j:Nat) (ts:List Coef),m+i=o.length->ts.length=o.length->j<=i->ts.take j=(o.take i).filter (fun t=>decide (t.c≠0))->ts.drop i=o.drop i->(QU m i j ts).1.take (QU m i j ts).2=o.filter fun t=>decide (t.c≠0)
 | 0,i,j,ts,hm,hts,hji,h1,h2=>by
  rw[QU]
  show ts.take j=_
  rw[h1,List.take_of_length_le (by omega)]
 | m+1,i,j,ts,hm,hts,hji,h1,h2=>by
  have hlt:i<o.length:=by omega
  have hi':i<ts.length:=by omega
  have hj':j<ts.length:=by omega
  have ei:ts[i]=o[i]:=by
   have:(ts.drop i)[0]? = (o.drop i)[0]? :=by rw[h2]
   simpa [hi',hlt]using this
  have htk:(o.take (i+1))=o.take i++[o[i]]:=by rw[List.take_add_one,List.getElem?_eq_getElem hlt];rfl
  have eg:ts.getD i ⟨⟨[]⟩,0⟩=ts[i]:=by simp[List.getD,hi']
  rw[QU,eg]
  split
  ·rename_i hz
   refine H7 o m (i+1) j ts (by omega) hts (by omega) ?_ ?_
   ·rw[h1,htk,List.filter_append]
    have:o[i].c=0:=by rw[<- ei];exact hz
    simp[this]
   ·have:=congrArg (List.drop 1) h2
    simpa [List.drop_drop,Nat.add_comm]using this
  ·rename_i hz
   refine H7 o m (i+1) (j+1) (ts.set j ts[i]) (by omega) (by simp[hts]) (by omega) ?_ ?_
   ·rw[htk,List.filter_append,<- h1]
    have:decide (o[i].c≠0)=true:=by rw[<- ei];exact decide_eq_true hz
    simp only[List.filter_cons,this,if_true,List.filter_nil]
    rw[List.take_add_one,List.getElem?_set_self hj',List.take_set_of_le (Nat.le_refl j),ei]
    rfl
   ·rw[List.drop_set_of_lt (by omega)]
    have:=congrArg (List.drop 1) h2
    simpa [List.drop_drop,Nat.add_comm]using this
theorem L8(l:Lin)(s:Str)(c:Int):(GM l s c).view=Q7 l s c:=by
 show(⟨_,_⟩:Lin)=⟨_,_⟩
 congr 1
 exact H7 _ _ 0 0 _ (by omega) rfl (by omega) (by simp) rfl
def Ka:List AV->List AObj->Bool
 | [.pv l,.pv (.str s),.pv (.int .i64 c)],[]=>Vf Lin l&&decide ((dec l:Lin).t.length<=1000000)
 | _,_=>false
def BD(r:LR)(l:Nat)(os:List AObj):AV×List AObj×List AObj:=(r.av l,os,[r.ob])
def Kj:List AV->List AObj->AV×List AObj×List AObj
 | [.pv l,.pv (.str s),.pv (.int .i64 c)],_=>BD (GM (dec l) ⟨s⟩ c) 0 []
 | _,_=>WW
def c3l:PV:=.agg [.int .i64 0,.sl 0 true []]
end Go.Pl

namespace Go.Pl
open Go.RowKit
open Enc (enc dec is)
open EncL (encL decL isL)
set_option maxRecDepth 100000
def ZI:IC:=(.seq (.reg [⟨(some 3),(.box 2 (.t 0)),0,none⟩,⟨(some 6),(.alloc (.agg [(.int .i64 0),(.sl 0 true [])])),1,none⟩] none) (.seq (.reg [⟨(some 13),(.faddr 0 (.t 3)),0,none⟩,⟨(some 14),(.load false [(.int .i64)] (.t 13)),0,none⟩,⟨(some 15),(.build [(.int .i64 0),(.sl 0 true [])] [(0,(1,(.t 14)))]),0,none⟩,⟨(some 7),(.alloc (.agg [(.int .i64 0),(.sl 0 true [])])),0,none⟩,⟨none,(.store 2 (.t 7) (.t 15)),1,none⟩] none) (.seq (.reg [⟨(some 8),(.mv (.c (.bool false))),0,none⟩] none) (.seq (.seq (.reg [⟨(some 9),(.mv (.c (.int .i64 0))),0,none⟩] none) (.block 0 (.loop [9,3,8,1,7,2,6] (.seq (.seq (.reg [⟨(some 16),(.mv (.t 9)),0,none⟩,⟨(some 17),(.faddr 1 (.t 3)),0,none⟩,⟨(some 18),(.load false [(.sl 2)] (.t 17)),0,none⟩,⟨(some 19),(.len 1 (.t 18)),0,none⟩,⟨(some 20),(.bin .num .lss (.t 16) (.t 19)),0,none⟩] none) (.cond (.t 20) .skip (.exit 0))) (.seq (.block 1 (.seq (.reg [⟨(some 23),(.faddr 1 (.t 3)),0,none⟩,⟨(some 24),(.load false [(.sl 2)] (.t 23)),0,none⟩,⟨(some 25),(.mv (.t 9)),0,none⟩,⟨(some 26),(.iaddr 2 (.t 24) (.t 25)),0,none⟩,⟨(some 27),(.load true [.str,(.int .i64)] (.t 26)),0,none⟩,⟨(some 10),(.alloc (.agg [(.str []),(.int .i64 0)])),0,none⟩,⟨none,(.store 2 (.t 10) (.t 27)),1,none⟩] none) (.seq (.seq (.reg [⟨(some 28),(.mv (.t 8)),0,none⟩,⟨(some 29),(.un .not (.t 28)),0,none⟩,⟨(some 30),(.mv (.t 29)),0,none⟩,⟨(some 31),(.faddr 0 (.t 10)),0,(some (30,true))⟩,⟨(some 32),(.load false [.str] (.t 31)),0,(some (30,true))⟩,⟨(some 33),(.mv (.t 1)),0,(some (30,true))⟩,⟨(some 34),(.bin .num .gtr (.t 32) (.t 33)),0,(some (30,true))⟩,⟨(some 35),(.pick (.t 30) (.t 34) (.c (.bool false))),0,none⟩] none) (.cond (.t 35) (.seq (.reg [⟨(some 36),(.faddr 1 (.t 7)),0,none⟩,⟨(some 37),(.load false [(.sl 2)] (.t 36)),0,none⟩,⟨(some 38),(.mv (.t 1)),0,none⟩,⟨(some 39),(.mv (.t 2)),0,none⟩,⟨(some 40),(.build [(.str []),(.int .i64 0)] [(0,(1,(.t 38))),(1,(1,(.t 39)))]),0,none⟩,⟨(some 41),(.bslice 61 2 1 (.agg [(.str []),(.int .i64 0)]) [(0,(.t 40))]),0,none⟩,⟨(some 42),(.append 61 2 24 (.t 37) (.t 41)),1,none⟩,⟨(some 43),(.faddr 1 (.t 7)),2,none⟩,⟨none,(.store 1 (.t 43) (.t 42)),2,none⟩] none) (.reg [⟨(some 8),(.mv (.c (.bool true))),0,none⟩] none)) .skip)) (.seq (.seq (.reg [⟨(some 44),(.faddr 0 (.t 10)),0,none⟩,⟨(some 45),(.load false [.str] (.t 44)),0,none⟩,⟨(some 46),(.mv (.t 1)),0,none⟩,⟨(some 47),(.bin .num .eql (.t 45) (.t 46)),0,none⟩] none) (.cond (.t 47) (.seq (.reg [⟨(some 48),(.faddr 1 (.t 10)),0,none⟩,⟨(some 49),(.load false [(.int .i64)] (.t 48)),0,none⟩,⟨(some 50),(.mv (.t 2)),0,none⟩,⟨(some 51),(.bin .num .add (.t 49) (.t 50)),0,none⟩,⟨(some 52),(.faddr 1 (.t 10)),0,none⟩,⟨none,(.store 1 (.t 52) (.t 51)),0,none⟩] none) (.reg [⟨(some 8),(.mv (.c (.bool true))),0,none⟩] none)) .skip)) (.reg [⟨(some 53),(.faddr 1 (.t 7)),0,none⟩,⟨(some 54),(.load false [(.sl 2)] (.t 53)),0,none⟩,⟨(some 55),(.load true [.str,(.int .i64)] (.t 10)),0,none⟩,⟨(some 56),(.bslice 61 2 1 (.agg [(.str []),(.int .i64 0)]) [(0,(.t 55))]),0,none⟩,⟨(some 57),(.append 61 2 24 (.t 54) (.t 56)),1,none⟩,⟨(some 58),(.faddr 1 (.t 7)),2,none⟩,⟨none,(.store 1 (.t 58) (.t 57)),2,none⟩] none))))) (.reg [⟨(some 21),(.mv (.t 9)),0,none⟩,⟨(some 22),(.bin .num .add (.t 21) (.c (.int .i64 1))),0,none⟩,⟨(some 9),(.mv (.t 22)),0,none⟩] none)))))) (.seq (.seq (.reg [⟨(some 59),(.mv (.t 8)),0,none⟩,⟨(some 60),(.un .not (.t 59)),0,none⟩] none) (.cond (.t 60) (.reg [⟨(some 61),(.faddr 1 (.t 7)),0,none⟩,⟨(some 62),(.load false [(.sl 2)] (.t 61)),0,none⟩,⟨(some 63),(.mv (.t 1)),0,none⟩,⟨(some 64),(.mv (.t 2)),0,none⟩,⟨(some 65),(.build [(.str []),(.int .i64 0)] [(0,(1,(.t 63))),(1,(1,(.t 64)))]),0,none⟩,⟨(some 66),(.bslice 61 2 1 (.agg [(.str []),(.int .i64 0)]) [(0,(.t 65))]),0,none⟩,⟨(some 67),(.append 61 2 24 (.t 62) (.t 66)),1,none⟩,⟨(some 68),(.faddr 1 (.t 7)),2,none⟩,⟨none,(.store 1 (.t 68) (.t 67)),2,none⟩] none) .skip)) (.seq (.reg [⟨(some 11),(.mv (.c (.int .i64 0))),0,none⟩] none) (.seq (.seq (.reg [⟨(some 12),(.mv (.c (.int .i64 0))),0,none⟩] none) (.block 2 (.loop [12,7,11,6] (.seq (.seq (.reg [⟨(some 69),(.mv (.t 12)),0,none⟩,⟨(some 70),(.faddr 1 (.t 7)),0,none⟩,⟨(some 71),(.load false [(.sl 2)] (.t 70)),0,none⟩,⟨(some 72),(.len 1 (.t 71)),0,none⟩,⟨(some 73),(.bin .num .lss (.t 69) (.t 72)),0,none⟩] none) (.cond (.t 73) .skip (.exit 2))) (.seq (.block 3 (.seq (.reg [⟨(some 76),(.faddr 1 (.t 7)),0,none⟩,⟨(some 77),(.load false [(.sl 2)] (.t 76)),0,none⟩,⟨(some 78),(.mv (.t 12)),0,none⟩,⟨(some 79),(.iaddr 2 (.t 77) (.t 78)),0,none⟩,⟨(some 80),(.faddr 1 (.t 79)),0,none⟩,⟨(some 81),(.load false [(.int .i64)] (.t 80)),0,none⟩,⟨(some 82),(.bin .num .neq (.t 81) (.c (.int .i64 0))),0,none⟩] none) (.cond (.t 82) (.seq (.reg [⟨(some 83),(.faddr 1 (.t 7)),0,none⟩,⟨(some 84),(.load false [(.sl 2)] (.t 83)),0,none⟩,⟨(some 85),(.mv (.t 11)),0,none⟩,⟨(some 86),(.faddr 1 (.t 7)),0,none⟩,⟨(some 87),(.load false [(.sl 2)] (.t 86)),0,none⟩,⟨(some 88),(.mv (.t 12)),0,none⟩,⟨(some 89),(.iaddr 2 (.t 87) (.t 88)),0,none⟩,⟨(some 90),(.load true [.str,(.int .i64)] (.t 89)),0,none⟩,⟨(some 91),(.iaddr 2 (.t 84) (.t 85)),0,none⟩,⟨none,(.store 2 (.t 91) (.t 90)),0,none⟩] (some [[],[0],[],[],[3],[],[4,5,3],[6,4,5,3],[1,2,0,3,4,5,6,7],[8,7,0,1,2,3,4,5,6]])) (.reg [⟨(some 92),(.mv (.t 11)),0,none⟩,⟨(some 93),(.bin .num .add (.t 92) (.c (.int .i64 1))),0,none⟩,⟨(some 11),(.mv (.t 93)),0,none⟩] none)) .skip))) (.reg [⟨(some 74),(.mv (.t 12)),0,none⟩,⟨(some 75),(.bin .num .add (.t 74) (.c (.int .i64 1))),0,none⟩,⟨(some 12),(.mv (.t 75)),0,none⟩] none)))))) (.seq (.reg [⟨(some 94),(.faddr 1 (.t 7)),0,none⟩,⟨(some 95),(.load false [(.sl 2)] (.t 94)),0,none⟩,⟨(some 96),(.mv (.t 11)),0,none⟩,⟨(some 97),(.slc 2 (.t 95) none (some (.t 96)) none),0,none⟩,⟨(some 98),(.faddr 1 (.t 7)),0,none⟩,⟨none,(.store 1 (.t 98) (.t 97)),0,none⟩] none) (.seq (.reg [⟨(some 99),(.load true [(.int .i64),(.sl 2)] (.t 7)),0,none⟩,⟨none,(.store 2 (.t 6) (.t 99)),0,none⟩] none) .ret)))))))))
def ZH:List IRes:=[(.cell true 2 6)]
abbrev MC:Nat:=100
def ZX:ZE:=Xi []
theorem b5v{G:AV×List AObj×List AObj->Prop}(l:Lin)(s:List UInt8)(c:Int)(h:At ZX 0 (Zh 0 ZH G) ZI 0 100 [(1,(.pv (.str s))),(2,(.pv (.int .i64 c))),(3,(.ptr 0 0)),(6,(.ptr 1 0)),(7,(.ptr 2 0)),(8,(.pv (.bool false))),(9,(.pv (.int .i64 0)))] [(.obj (.box [(.pv (.int .i64 l.k)),(.pv (.sl 2 false (List.map enc l.t)))])),(.obj (.box [(.pv (.int .i64 0)),(.pv (.sl 0 true []))])),(.obj (.box [(.pv (.int .i64 l.k)),(.pv (.sl 0 true []))]))]):Zc ZX 0 (Zh 0 ZH G) ZI [] (YH 100 [.pv (enc l),.pv (.str s),.pv (enc c)] []):=Zc.to (.nil) h (by kernel_rfl)
theorem a0d{G:AV×List AObj×List AObj->Prop}(l:Lin)(s:List UInt8)(c:Int)(p:Bool)(i:Int)(h:if (decide (i<(↑(List.length (List.map enc l.t)):Int)))=true then(decide (0<=i)&&decide (Int.toNat i<List.length (List.map enc l.t))&&Enc.sz Coef==2)=true∧(∃ y0:Coef,AV.pv (PV.rptr (PV.cells (List.getD (List.map enc l.t) (Int.toNat i) default)))=AV.pv (PV.rptr (PV.cells ((enc) y0)))∧(if (!p)=true then if (!(Op.bytesLess (PV.asStr (List.getD (PV.cells (enc y0)) 0 default)) s||PV.asStr (List.getD (PV.cells (enc y0)) 0 default)==s))=true then if (PV.asStr (List.getD (PV.cells (enc y0)) 0 default)==s)=true then At ZX 0 (Zh 0 ZH G) ZI 0 100 [(1,(.pv (.str s))),(2,(.pv (.int .i64 c))),(3,(.ptr 0 0)),(6,(.ptr 1 0)),(7,(.ptr 2 0)),(8,(.pv (.bool true))),(9,(.pv (.int .i64 (IntKind.wrap IntKind.i64 (i+1)))))] [(.obj (.box [(.pv (.int .i64 l.k)),(.pv (.sl 2 false (List.map enc l.t)))])),(.obj (.box [(.pv (.int .i64 0)),(.pv (.sl 0 true []))])),(.obj (.box [(.pv (.int .i64 l.k)),(.row 3 2 0 2)])),(.obj (.row false 61 2 [(.agg [(.str s),(.int .i64 c)]),(.agg [(.str (PV.asStr (List.getD (PV.cells (enc y0)) 0 default))),(.int .i64 (IntKind.wrap IntKind.i64 (PV.asInt (List.getD (PV.cells (enc y0)) (0+1) default)+c)))])]))]else(At ZX 0 (Zh 0 ZH G) ZI 0 100 [(1,(.pv (.str s))),(2,(.pv (.int .i64 c))),(3,(.ptr 0 0)),(6,(.ptr 1 0)),(7,(.ptr 2 0)),(8,(.pv (.bool true))),(9,(.pv (.int .i64 (IntKind.wrap IntKind.i64 (i+1)))))] [(.obj (.box [(.pv (.int .i64 l.k)),(.pv (.sl 2 false (List.map enc l.t)))])),(.obj (.box [(.pv (.int .i64 0)),(.pv (.sl 0 true []))])),(.obj (.box [(.pv (.int .i64 l.k)),(.row 3 2 0 2)])),(.obj (.row false 61 2 [(.agg [(.str s),(.int .i64 c)]),(.agg [(.str (PV.asStr (List.getD (PV.cells (enc y0)) 0 default))),(.int .i64 (PV.asInt (List.getD (PV.cells (enc y0)) (0+1) default)))])]))])else(if (PV.asStr (List.getD (PV.cells (enc y0)) 0 default)==s)=true then At ZX 0 (Zh 0 ZH G) ZI 0 100 [(1,(.pv (.str s))),(2,(.pv (.int .i64 c))),(3,(.ptr 0 0)),(6,(.ptr 1 0)),(7,(.ptr 2 0)),(8,(.pv (.bool true))),(9,(.pv (.int .i64 (IntKind.wrap IntKind.i64 (i+1)))))] [(.obj (.box [(.pv (.int .i64 l.k)),(.pv (.sl 2 false (List.map enc l.t)))])),(.obj (.box [(.pv (.int .i64 0)),(.pv (.sl 0 true []))])),(.obj (.box [(.pv (.int .i64 l.k)),(.row 3 1 0 1)])),(.obj (.row false 61 2 [(.agg [(.str (PV.asStr (List.getD (PV.cells (enc y0)) 0 default))),(.int .i64 (IntKind.wrap IntKind.i64 (PV.asInt (List.getD (PV.cells (enc y0)) (0+1) default)+c)))])]))]else(At ZX 0 (Zh 0 ZH G) ZI 0 100 [(1,(.pv (.str s))),(2,(.pv (.int .i64 c))),(3,(.ptr 0 0)),(6,(.ptr 1 0)),(7,(.ptr 2 0)),(8,(.pv (.bool p))),(9,(.pv (.int .i64 (IntKind.wrap IntKind.i64 (i+1)))))] [(.obj (.box [(.pv (.int .i64 l.k)),(.pv (.sl 2 false (List.map enc l.t)))])),(.obj (.box [(.pv (.int .i64 0)),(.pv (.sl 0 true []))])),(.obj (.box [(.pv (.int .i64 l.k)),(.row 3 1 0 1)])),(.obj (.row false 61 2 [(.agg [(.str (PV.asStr (List.getD (PV.cells (enc y0)) 0 default))),(.int .i64 (PV.asInt (List.getD (PV.cells (enc y0)) (0+1) default)))])]))]))else(if (PV.asStr (List.getD (PV.cells (enc y0)) 0 default)==s)=true then At ZX 0 (Zh 0 ZH G) ZI 0 100 [(1,(.pv (.str s))),(2,(.pv (.int .i64 c))),(3,(.ptr 0 0)),(6,(.ptr 1 0)),(7,(.ptr 2 0)),(8,(.pv (.bool true))),(9,(.pv (.int .i64 (IntKind.wrap IntKind.i64 (i+1)))))] [(.obj (.box [(.pv (.int .i64 l.k)),(.pv (.sl 2 false (List.map enc l.t)))])),(.obj (.box [(.pv (.int .i64 0)),(.pv (.sl 0 true []))])),(.obj (.box [(.pv (.int .i64 l.k)),(.row 3 1 0 1)])),(.obj (.row false 61 2 [(.agg [(.str (PV.asStr (List.getD (PV.cells (enc y0)) 0 default))),(.int .i64 (IntKind.wrap IntKind.i64 (PV.asInt (List.getD (PV.cells (enc y0)) (0+1) default)+c)))])]))]else(At ZX 0 (Zh 0 ZH G) ZI 0 100 [(1,(.pv (.str s))),(2,(.pv (.int .i64 c))),(3,(.ptr 0 0)),(6,(.ptr 1 0)),(7,(.ptr 2 0)),(8,(.pv (.bool p))),(9,(.pv (.int .i64 (IntKind.wrap IntKind.i64 (i+1)))))] [(.obj (.box [(.pv (.int .i64 l.k)),(.pv (.sl 2 false (List.map enc l.t)))])),(.obj (.box [(.pv (.int .i64 0)),(.pv (.sl 0 true []))])),(.obj (.box [(.pv (.int .i64 l.k)),(.row 3 1 0 1)])),(.obj (.row false 61 2 [(.agg [(.str (PV.asStr (List.getD (PV.cells (enc y0)) 0 default))),(.int .i64 (PV.asInt (List.getD (PV.cells (enc y0)) (0+1) default)))])]))]))))else(if (!p)=true then At ZX 0 (Zh 0 ZH G) ZI 1 100 [(6,(.ptr 0 0)),(7,(.ptr 1 0)),(11,(.pv (.int .i64 0))),(12,(.pv (.int .i64 0)))] [(.obj (.box [(.pv (.int .i64 0)),(.pv (.sl 0 true []))])),(.obj (.box [(.pv (.int .i64 l.k)),(.row 2 1 0 1)])),(.obj (.row false 61 2 [(.agg [(.str s),(.int .i64 c)])]))]else(At ZX 0 (Zh 0 ZH G) ZI 1 100 [(6,(.ptr 0 0)),(7,(.ptr 1 0)),(11,(.pv (.int .i64 0))),(12,(.pv (.int .i64 0)))] [(.obj (.box [(.pv (.int .i64 0)),(.pv (.sl 0 true []))])),(.obj (.box [(.pv (.int .i64 l.k)),(.pv (.sl 0 true []))]))]))):At ZX 0 (Zh 0 ZH G) ZI 0 100 [(1,.pv (.str s)),(2,.pv (.int .i64 c)),(3,.ptr 0 0),(6,.ptr 1 0),(7,.ptr 2 0),(8,.pv (.bool p)),(9,.pv (.int .i64 i))] [.obj (.box [.pv (.int .i64 l.k),.pv (enc l.t)]),.obj (.box [.pv (.int .i64 0),.pv (.sl 0 true [])]),.obj (.box [.pv (.int .i64 l.k),.pv (.sl 0 true [])])]:=At.to (.lit (.ask (.req (.abs (Coef) (fun YY=>AV.pv (PV.rptr (PV.cells ((enc) YY)))) (.lit (.ask (.lit (.lit (.lit (.lit (.lit (.ask (.lit (.lit (.lit (.lit (.lit (.lit (.ask (.lit (.lit (.lit (.lit (.lit (.nil)))))) (.lit (.lit (.lit (.lit (.nil)))))))))))) (.lit (.ask (.lit (.lit (.lit (.lit (.lit (.lit (.lit (.nil)))))))) (.lit (.lit (.lit (.lit (.lit (.lit (.nil))))))))))))))) (.lit (.lit (.lit (.lit (.lit (.lit (.ask (.lit (.lit (.lit (.lit (.lit (.lit (.lit (.nil)))))))) (.lit (.lit (.lit (.lit (.lit (.lit (.nil)))))))))))))))))) (.ask (.lit (.lit (.lit (.lit (.lit (.nil)))))) (.nil)))) h (by kernel_rfl)
theorem SE{G:AV×List AObj×List AObj->Prop}(l:Lin)(s:List UInt8)(c:Int)(j i:Int)(q:Nat)(ts:List Coef)(h:if (decide (i<(↑(q - 0):Int)))=true then(decide (0<=i)&&decide (0+Int.toNat i<q)&&List.length (List.map enc ts)==q)=true∧((List.length (List.map enc ts)==q&&decide (0+Int.toNat i<List.length (List.map enc ts)))=true∧((decide (0+1+List.length [Sh.int .i64]<=List.length (PV.cells (List.getD (List.map enc ts) (0+Int.toNat i) default)))&&Y4 (PV.cells (List.getD (List.map enc ts) (0+Int.toNat i) default)) (0+1) [Sh.int .i64])=true∧(if (PV.asInt (List.getD (PV.cells (List.getD (List.map enc ts) (0+Int.toNat i) default)) (0+1) default) != 0)=true then(decide (0<=i)&&decide (0+Int.toNat i<q)&&List.length (List.map enc ts)==q)=true∧((List.length (List.map enc ts)==q&&decide (0+Int.toNat i<List.length (List.map enc ts)))=true∧((decide (0+List.length [Sh.str,Sh.int .i64]<=List.length (PV.cells (List.getD (List.map enc ts) (0+Int.toNat i) default)))&&Y4 (PV.cells (List.getD (List.map enc ts) (0+Int.toNat i) default)) 0 [Sh.str,Sh.int .i64])=true∧((decide (0<=j)&&decide (0+Int.toNat j<q)&&List.length (List.map enc ts)==q)=true∧((List.length (List.map enc ts)==q&&decide (0+Int.toNat j<List.length (List.map enc ts))&&List.length (PV.cells (PV.agg (Qf (PV.cells (List.getD (List.map enc ts) (0+Int.toNat i) default)) 0 [Sh.str,Sh.int .i64])))==2&&decide (0+2<=List.length (PV.cells (List.getD (List.map enc ts) (0+Int.toNat j) default)))&&PV.cellsOk (PV.agg (Qf (PV.cells (List.getD (List.map enc ts) (0+Int.toNat i) default)) 0 [Sh.str,Sh.int .i64])))=true∧(At ZX 0 (Zh 0 ZH G) ZI 1 100 [(6,(.ptr 0 0)),(7,(.ptr 1 0)),(11,(.pv (.int .i64 (IntKind.wrap IntKind.i64 (j+1))))),(12,(.pv (.int .i64 (IntKind.wrap IntKind.i64 (i+1)))))] [(.obj (.box [(.pv (.int .i64 0)),(.pv (.sl 0 true []))])),(.obj (.box [(.pv (.int .i64 l.k)),(.row 2 q 0 q)])),(.obj (.row false 61 2 (List.set (List.map enc ts) (0+Int.toNat j) (PV.withCells (List.getD (List.map enc ts) (0+Int.toNat j) default) (splice (PV.cells (List.getD (List.map enc ts) (0+Int.toNat j) default)) 0 (PV.cells (PV.agg (Qf (PV.cells (List.getD (List.map enc ts) (0+Int.toNat i) default)) 0 [Sh.str,Sh.int .i64]))))))))])))))else(At ZX 0 (Zh 0 ZH G) ZI 1 100 [(6,(.ptr 0 0)),(7,(.ptr 1 0)),(11,(.pv (.int .i64 j))),(12,(.pv (.int .i64 (IntKind.wrap IntKind.i64 (i+1)))))] [(.obj (.box [(.pv (.int .i64 0)),(.pv (.sl 0 true []))])),(.obj (.box [(.pv (.int .i64 l.k)),(.row 2 q 0 q)])),(.obj (.row false 61 2 (List.map enc ts)))]))))else((true&&decide (0<=j)&&decide (0<=Int.toNat j)&&decide (0+Int.toNat j<=q)&&List.length (List.map enc ts)==q)=true∧(G (((.agg [(.pv (.int .i64 l.k)),(.row 0 q 0 (0+Int.toNat j))]),([],[(.row false 61 2 (List.map enc ts))])))))):At ZX 0 (Zh 0 ZH G) ZI 1 100 [(6,.ptr 0 0),(7,.ptr 1 0),(11,.pv (.int .i64 j)),(12,.pv (.int .i64 i))] [.obj (.box [.pv (.int .i64 0),.pv (.sl 0 true [])]),.obj (.box [.pv (.int .i64 l.k),.row 2 q 0 q]),.obj (.row false 61 2 (ts.map enc))]:=At.to (.lit (.ask (.req (.keep (.req (.req (.lit (.ask (.req (.keep (.req (.req (.req (.keep (.req (.lit (.lit (.nil)))))))))) (.lit (.nil)))))))) (.req (.nil)))) h (by kernel_rfl)
theorem Si{G:AV×List AObj×List AObj->Prop}(l:Lin)(s:List UInt8)(c:Int)(p:Bool)(i:Int)(q:Nat)(ts:List Coef)(h:if (decide (i<(↑(List.length (List.map enc l.t)):Int)))=true then(decide (0<=i)&&decide (Int.toNat i<List.length (List.map enc l.t))&&Enc.sz Coef==2)=true∧(∃ y0:Coef,AV.pv (PV.rptr (PV.cells (List.getD (List.map enc l.t) (Int.toNat i) default)))=AV.pv (PV.rptr (PV.cells ((enc) y0)))∧(if (!p)=true then if (!(Op.bytesLess (PV.asStr (List.getD (PV.cells (enc y0)) 0 default)) s||PV.asStr (List.getD (PV.cells (enc y0)) 0 default)==s))=true then(List.length (List.map enc ts)==q&&q==q&&decide ((q+List.length (List.drop 0 (List.take 1 [PV.agg [PV.str s,PV.int .i64 c]])))*24<=1099511627776)&&decide (q+List.length (List.drop 0 (List.take 1 [PV.agg [PV.str s,PV.int .i64 c]]))<=1099511627776))=true∧(if (PV.asStr (List.getD (PV.cells (enc y0)) 0 default)==s)=true then(List.length (List.map enc ts++List.drop 0 (List.take 1 [PV.agg [PV.str s,PV.int .i64 c]]))==q+List.length (List.drop 0 (List.take 1 [PV.agg [PV.str s,PV.int .i64 c]]))&&q+List.length (List.drop 0 (List.take 1 [PV.agg [PV.str s,PV.int .i64 c]]))==q+List.length (List.drop 0 (List.take 1 [PV.agg [PV.str s,PV.int .i64 c]]))&&decide ((q+List.length (List.drop 0 (List.take 1 [PV.agg [PV.str s,PV.int .i64 c]]))+List.length (List.drop 0 (List.take 1 [PV.agg [Sh.co Sh.str (List.getD (PV.cells (enc y0)) 0 default),PV.int .i64 (IntKind.wrap IntKind.i64 (PV.asInt (List.getD (PV.cells (enc y0)) (0+1) default)+c))]])))*24<=1099511627776)&&decide (q+List.length (List.drop 0 (List.take 1 [PV.agg [PV.str s,PV.int .i64 c]]))+List.length (List.drop 0 (List.take 1 [PV.agg [Sh.co Sh.str (List.getD (PV.cells (enc y0)) 0 default),PV.int .i64 (IntKind.wrap IntKind.i64 (PV.asInt (List.getD (PV.cells (enc y0)) (0+1) default)+c))]]))<=1099511627776))=true∧(At ZX 0 (Zh 0 ZH G) ZI 0 100 [(1,(.pv (.str s))),(2,(.pv (.int .i64 c))),(3,(.ptr 0 0)),(6,(.ptr 1 0)),(7,(.ptr 2 0)),(8,(.pv (.bool true))),(9,(.pv (.int .i64 (IntKind.wrap IntKind.i64 (i+1)))))] [(.obj (.box [(.pv (.int .i64 l.k)),(.pv (.sl 2 false (List.map enc l.t)))])),(.obj (.box [(.pv (.int .i64 0)),(.pv (.sl 0 true []))])),(.obj (.box [(.pv (.int .i64 l.k)),(.row 3 (q+List.length (List.drop 0 (List.take 1 [PV.agg [PV.str s,PV.int .i64 c]]))+List.length (List.drop 0 (List.take 1 [PV.agg [Sh.co Sh.str (List.getD (PV.cells (enc y0)) 0 default),PV.int .i64 (IntKind.wrap IntKind.i64 (PV.asInt (List.getD (PV.cells (enc y0)) (0+1) default)+c))]]))) 0 (q+List.length (List.drop 0 (List.take 1 [PV.agg [PV.str s,PV.int .i64 c]]))+List.length (List.drop 0 (List.take 1 [PV.agg [Sh.co Sh.str (List.getD (PV.cells (enc y0)) 0 default),PV.int .i64 (IntKind.wrap IntKind.i64 (PV.asInt (List.getD (PV.cells (enc y0)) (0+1) default)+c))]]))))])),(.obj (.row false 61 2 (List.map enc ts++List.drop 0 (List.take 1 [PV.agg [PV.str s,PV.int .i64 c]])++List.drop 0 (List.take 1 [PV.agg [Sh.co Sh.str (List.getD (PV.cells (enc y0)) 0 default),PV.int .i64 (IntKind.wrap IntKind.i64 (PV.asInt (List.getD (PV.cells (enc y0)) (0+1) default)+c))]]))))])else((List.length (List.map enc ts++List.drop 0 (List.take 1 [PV.agg [PV.str s,PV.int .i64 c]]))==q+List.length (List.drop 0 (List.take 1 [PV.agg [PV.str s,PV.int .i64 c]]))&&q+List.length (List.drop 0 (List.take 1 [PV.agg [PV.str s,PV.int .i64 c]]))==q+List.length (List.drop 0 (List.take 1 [PV.agg [PV.str s,PV.int .i64 c]]))&&decide ((q+List.length (List.drop 0 (List.take 1 [PV.agg [PV.str s,PV.int .i64 c]]))+List.length (List.drop 0 (List.take 1 [PV.agg [Sh.co Sh.str (List.getD (PV.cells (enc y0)) 0 default),Sh.co (Sh.int .i64) (List.getD (PV.cells (enc y0)) (0+1) default)]])))*24<=1099511627776)&&decide (q+List.length (List.drop 0 (List.take 1 [PV.agg [PV.str s,PV.int .i64 c]]))+List.length (List.drop 0 (List.take 1 [PV.agg [Sh.co Sh.str (List.getD (PV.cells (enc y0)) 0 default),Sh.co (Sh.int .i64) (List.getD (PV.cells (enc y0)) (0+1) default)]]))<=1099511627776))=true∧(At ZX 0 (Zh 0 ZH G) ZI 0 100 [(1,(.pv (.str s))),(2,(.pv (.int .i64 c))),(3,(.ptr 0 0)),(6,(.ptr 1 0)),(7,(.ptr 2 0)),(8,(.pv (.bool true))),(9,(.pv (.int .i64 (IntKind.wrap IntKind.i64 (i+1)))))] [(.obj (.box [(.pv (.int .i64 l.k)),(.pv (.sl 2 false (List.map enc l.t)))])),(.obj (.box [(.pv (.int .i64 0)),(.pv (.sl 0 true []))])),(.obj (.box [(.pv (.int .i64 l.k)),(.row 3 (q+List.length (List.drop 0 (List.take 1 [PV.agg [PV.str s,PV.int .i64 c]]))+List.length (List.drop 0 (List.take 1 [PV.agg [Sh.co Sh.str (List.getD (PV.cells (enc y0)) 0 default),Sh.co (Sh.int .i64) (List.getD (PV.cells (enc y0)) (0+1) default)]]))) 0 (q+List.length (List.drop 0 (List.take 1 [PV.agg [PV.str s,PV.int .i64 c]]))+List.length (List.drop 0 (List.take 1 [PV.agg [Sh.co Sh.str (List.getD (PV.cells (enc y0)) 0 default),Sh.co (Sh.int .i64) (List.getD (PV.cells (enc y0)) (0+1) default)]]))))])),(.obj (.row false 61 2 (List.map enc ts++List.drop 0 (List.take 1 [PV.agg [PV.str s,PV.int .i64 c]])++List.drop 0 (List.take 1 [PV.agg [Sh.co Sh.str (List.getD (PV.cells (enc y0)) 0 default),Sh.co (Sh.int .i64) (List.getD (PV.cells (enc y0)) (0+1) default)]]))))])))else(if (PV.asStr (List.getD (PV.cells (enc y0)) 0 default)==s)=true then(List.length (List.map enc ts)==q&&q==q&&decide ((q+List.length (List.drop 0 (List.take 1 [PV.agg [Sh.co Sh.str (List.getD (PV.cells (enc y0)) 0 default),PV.int .i64 (IntKind.wrap IntKind.i64 (PV.asInt (List.getD (PV.cells (enc y0)) (0+1) default)+c))]])))*24<=1099511627776)&&decide (q+List.length (List.drop 0 (List.take 1 [PV.agg [Sh.co Sh.str (List.getD (PV.cells (enc y0)) 0 default),PV.int .i64 (IntKind.wrap IntKind.i64 (PV.asInt (List.getD (PV.cells (enc y0)) (0+1) default)+c))]]))<=1099511627776))=true∧(At ZX 0 (Zh 0 ZH G) ZI 0 100 [(1,(.pv (.str s))),(2,(.pv (.int .i64 c))),(3,(.ptr 0 0)),(6,(.ptr 1 0)),(7,(.ptr 2 0)),(8,(.pv (.bool true))),(9,(.pv (.int .i64 (IntKind.wrap IntKind.i64 (i+1)))))] [(.obj (.box [(.pv (.int .i64 l.k)),(.pv (.sl 2 false (List.map enc l.t)))])),(.obj (.box [(.pv (.int .i64 0)),(.pv (.sl 0 true []))])),(.obj (.box [(.pv (.int .i64 l.k)),(.row 3 (q+List.length (List.drop 0 (List.take 1 [PV.agg [Sh.co Sh.str (List.getD (PV.cells (enc y0)) 0 default),PV.int .i64 (IntKind.wrap IntKind.i64 (PV.asInt (List.getD (PV.cells (enc y0)) (0+1) default)+c))]]))) 0 (q+List.length (List.drop 0 (List.take 1 [PV.agg [Sh.co Sh.str (List.getD (PV.cells (enc y0)) 0 default),PV.int .i64 (IntKind.wrap IntKind.i64 (PV.asInt (List.getD (PV.cells (enc y0)) (0+1) default)+c))]]))))])),(.obj (.row false 61 2 (List.map enc ts++List.drop 0 (List.take 1 [PV.agg [Sh.co Sh.str (List.getD (PV.cells (enc y0)) 0 default),PV.int .i64 (IntKind.wrap IntKind.i64 (PV.asInt (List.getD (PV.cells (enc y0)) (0+1) default)+c))]]))))])else((List.length (List.map enc ts)==q&&q==q&&decide ((q+List.length (List.drop 0 (List.take 1 [PV.agg [Sh.co Sh.str (List.getD (PV.cells (enc y0)) 0 default),Sh.co (Sh.int .i64) (List.getD (PV.cells (enc y0)) (0+1) default)]])))*24<=1099511627776)&&decide (q+List.length (List.drop 0 (List.take 1 [PV.agg [Sh.co Sh.str (List.getD (PV.cells (enc y0)) 0 default),Sh.co (Sh.int .i64) (List.getD (PV.cells (enc y0)) (0+1) default)]]))<=1099511627776))=true∧(At ZX 0 (Zh 0 ZH G) ZI 0 100 [(1,(.pv (.str s))),(2,(.pv (.int .i64 c))),(3,(.ptr 0 0)),(6,(.ptr 1 0)),(7,(.ptr 2 0)),(8,(.pv (.bool p))),(9,(.pv (.int .i64 (IntKind.wrap IntKind.i64 (i+1)))))] [(.obj (.box [(.pv (.int .i64 l.k)),(.pv (.sl 2 false (List.map enc l.t)))])),(.obj (.box [(.pv (.int .i64 0)),(.pv (.sl 0 true []))])),(.obj (.box [(.pv (.int .i64 l.k)),(.row 3 (q+List.length (List.drop 0 (List.take 1 [PV.agg [Sh.co Sh.str (List.getD (PV.cells (enc y0)) 0 default),Sh.co (Sh.int .i64) (List.getD (PV.cells (enc y0)) (0+1) default)]]))) 0 (q+List.length (List.drop 0 (List.take 1 [PV.agg [Sh.co Sh.str (List.getD (PV.cells (enc y0)) 0 default),Sh.co (Sh.int .i64) (List.getD (PV.cells (enc y0)) (0+1) default)]]))))])),(.obj (.row false 61 2 (List.map enc ts++List.drop 0 (List.take 1 [PV.agg [Sh.co Sh.str (List.getD (PV.cells (enc y0)) 0 default),Sh.co (Sh.int .i64) (List.getD (PV.cells (enc y0)) (0+1) default)]]))))])))else(if (PV.asStr (List.getD (PV.cells (enc y0)) 0 default)==s)=true then(List.length (List.map enc ts)==q&&q==q&&decide ((q+List.length (List.drop 0 (List.take 1 [PV.agg [Sh.co Sh.str (List.getD (PV.cells (enc y0)) 0 default),PV.int .i64 (IntKind.wrap IntKind.i64 (PV.asInt (List.getD (PV.cells (enc y0)) (0+1) default)+c))]])))*24<=1099511627776)&&decide (q+List.length (List.drop 0 (List.take 1 [PV.agg [Sh.co Sh.str (List.getD (PV.cells (enc y0)) 0 default),PV.int .i64 (IntKind.wrap IntKind.i64 (PV.asInt (List.getD (PV.cells (enc y0)) (0+1) default)+c))]]))<=1099511627776))=true∧(At ZX 0 (Zh 0 ZH G) ZI 0 100 [(1,(.pv (.str s))),(2,(.pv (.int .i64 c))),(3,(.ptr 0 0)),(6,(.ptr 1 0)),(7,(.ptr 2 0)),(8,(.pv (.bool true))),(9,(.pv (.int .i64 (IntKind.wrap IntKind.i64 (i+1)))))] [(.obj (.box [(.pv (.int .i64 l.k)),(.pv (.sl 2 false (List.map enc l.t)))])),(.obj (.box [(.pv (.int .i64 0)),(.pv (.sl 0 true []))])),(.obj (.box [(.pv (.int .i64 l.k)),(.row 3 (q+List.length (List.drop 0 (List.take 1 [PV.agg [Sh.co Sh.str (List.getD (PV.cells (enc y0)) 0 default),PV.int .i64 (IntKind.wrap IntKind.i64 (PV.asInt (List.getD (PV.cells (enc y0)) (0+1) default)+c))]]))) 0 (q+List.length (List.drop 0 (List.take 1 [PV.agg [Sh.co Sh.str (List.getD (PV.cells (enc y0)) 0 default),PV.int .i64 (IntKind.wrap IntKind.i64 (PV.asInt (List.getD (PV.cells (enc y0)) (0+1) default)+c))]]))))])),(.obj (.row false 61 2 (List.map enc ts++List.drop 0 (List.take 1 [PV.agg [Sh.co Sh.str (List.getD (PV.cells (enc y0)) 0 default),PV.int .i64 (IntKind.wrap IntKind.i64 (PV.asInt (List.getD (PV.cells (enc y0)) (0+1) default)+c))]]))))])else((List.length (List.map enc ts)==q&&q==q&&decide ((q+List.length (List.drop 0 (List.take 1 [PV.agg [Sh.co Sh.str (List.getD (PV.cells (enc y0)) 0 default),Sh.co (Sh.int .i64) (List.getD (PV.cells (enc y0)) (0+1) default)]])))*24<=1099511627776)&&decide (q+List.length (List.drop 0 (List.take 1 [PV.agg [Sh.co Sh.str (List.getD (PV.cells (enc y0)) 0 default),Sh.co (Sh.int .i64) (List.getD (PV.cells (enc y0)) (0+1) default)]]))<=1099511627776))=true∧(At ZX 0 (Zh 0 ZH G) ZI 0 100 [(1,(.pv (.str s))),(2,(.pv (.int .i64 c))),(3,(.ptr 0 0)),(6,(.ptr 1 0)),(7,(.ptr 2 0)),(8,(.pv (.bool p))),(9,(.pv (.int .i64 (IntKind.wrap IntKind.i64 (i+1)))))] [(.obj (.box [(.pv (.int .i64 l.k)),(.pv (.sl 2 false (List.map enc l.t)))])),(.obj (.box [(.pv (.int .i64 0)),(.pv (.sl 0 true []))])),(.obj (.box [(.pv (.int .i64 l.k)),(.row 3 (q+List.length (List.drop 0 (List.take 1 [PV.agg [Sh.co Sh.str (List.getD (PV.cells (enc y0)) 0 default),Sh.co (Sh.int .i64) (List.getD (PV.cells (enc y0)) (0+1) default)]]))) 0 (q+List.length (List.drop 0 (List.take 1 [PV.agg [Sh.co Sh.str (List.getD (PV.cells (enc y0)) 0 default),Sh.co (Sh.int .i64) (List.getD (PV.cells (enc y0)) (0+1) default)]]))))])),(.obj (.row false 61 2 (List.map enc ts++List.drop 0 (List.take 1 [PV.agg [Sh.co Sh.str (List.getD (PV.cells (enc y0)) 0 default),Sh.co (Sh.int .i64) (List.getD (PV.cells (enc y0)) (0+1) default)]]))))])))))else(if (!p)=true then(List.length (List.map enc ts)==q&&q==q&&decide ((q+List.length (List.drop 0 (List.take 1 [PV.agg [PV.str s,PV.int .i64 c]])))*24<=1099511627776)&&decide (q+List.length (List.drop 0 (List.take 1 [PV.agg [PV.str s,PV.int .i64 c]]))<=1099511627776))=true∧(At ZX 0 (Zh 0 ZH G) ZI 1 100 [(6,(.ptr 0 0)),(7,(.ptr 1 0)),(11,(.pv (.int .i64 0))),(12,(.pv (.int .i64 0)))] [(.obj (.box [(.pv (.int .i64 0)),(.pv (.sl 0 true []))])),(.obj (.box [(.pv (.int .i64 l.k)),(.row 2 (q+List.length (List.drop 0 (List.take 1 [PV.agg [PV.str s,PV.int .i64 c]]))) 0 (q+List.length (List.drop 0 (List.take 1 [PV.agg [PV.str s,PV.int .i64 c]]))))])),(.obj (.row false 61 2 (List.map enc ts++List.drop 0 (List.take 1 [PV.agg [PV.str s,PV.int .i64 c]]))))])else(At ZX 0 (Zh 0 ZH G) ZI 1 100 [(6,(.ptr 0 0)),(7,(.ptr 1 0)),(11,(.pv (.int .i64 0))),(12,(.pv (.int .i64 0)))] [(.obj (.box [(.pv (.int .i64 0)),(.pv (.sl 0 true []))])),(.obj (.box [(.pv (.int .i64 l.k)),(.row 2 q 0 q)])),(.obj (.row false 61 2 (List.map enc ts)))]))):At ZX 0 (Zh 0 ZH G) ZI 0 100 [(1,.pv (.str s)),(2,.pv (.int .i64 c)),(3,.ptr 0 0),(6,.ptr 1 0),(7,.ptr 2 0),(8,.pv (.bool p)),(9,.pv (.int .i64 i))] [.obj (.box [.pv (.int .i64 l.k),.pv (enc l.t)]),.obj (.box [.pv (.int .i64 0),.pv (.sl 0 true [])]),.obj (.box [.pv (.int .i64 l.k),.row 3 q 0 q]),.obj (.row false 61 2 (ts.map enc))]:=At.to (.lit (.ask (.req (.abs (Coef) (fun YY=>AV.pv (PV.rptr (PV.cells ((enc) YY)))) (.lit (.ask (.lit (.lit (.lit (.lit (.lit (.ask (.lit (.lit (.req (.lit (.ask (.lit (.lit (.lit (.req (.lit (.nil)))))) (.lit (.lit (.req (.lit (.nil)))))))))) (.lit (.ask (.lit (.lit (.lit (.req (.lit (.nil)))))) (.lit (.lit (.req (.lit (.nil))))))))))))) (.lit (.lit (.lit (.lit (.lit (.lit (.ask (.lit (.lit (.lit (.req (.lit (.nil)))))) (.lit (.lit (.req (.lit (.nil)))))))))))))))) (.ask (.lit (.lit (.req (.nil)))) (.nil)))) h (by kernel_rfl)
end Go.Pl

namespace Go.Pl
open Go.RowKit
open Enc (enc dec is)
open EncL (encL decL isL)
theorem b5x{ts:List Coef}{i:Nat}(h:i<ts.length):ts.getD i ⟨⟨[]⟩,0⟩=ts[i]:=by simp[List.getD,h]
theorem b2d(l:Lin)(s:List UInt8)(c:Int)(q:Nat)(ho:q<=2000000): ∀ (m i j:Nat) (ts:List Coef),m+i=q->ts.length=q->j<=i ->
  At ZX 0 (Zh 0 ZH (fun r=>r=BD ⟨l.k,(QU m i j ts).2,(QU m i j ts).1⟩ 0 [])) ZI 1 100 [(6,.ptr 0 0),(7,.ptr 1 0),(11,.pv (.int .i64 j)),(12,.pv (.int .i64 i))] [.obj (.box [.pv (.int .i64 0),.pv (.sl 0 true [])]),.obj (.box [.pv (.int .i64 l.k),.row 2 q 0 q]),.obj (.row false 61 2 (ts.map enc))]:=by
 intro m
 induction m with
 | zero=>
  intro i j ts hm hts hji
  refine SE l s c j i q ts (ZV (by simp;omega) ?_)
  refine⟨by simp[hts];omega,?_⟩
  subst hts
  simp only[Int.toNat_natCast,Nat.zero_add]
  rfl
 | succ m ih=>
  intro i j ts hm hts hji
  have hi':i<ts.length:=by omega
  have hj':j<ts.length:=by omega
  refine SE l s c j i q ts ?_
  simp only[a8f enc hi',a8f enc hj']
  refine ZQ (by simp;omega) ⟨by simp;omega,by simp;omega,rfl,?_⟩
  rw[QU,b5x hi']
  by_cases hz:ts[i].c=0
  ·refine ZV (by show ¬ (ts[i].c != 0)=true;simp[hz]) ?_
   rw[next (by omega),if_pos hz]
   exact ih (i+1) j ts (by omega) hts (by omega)
  ·refine ZQ (by show(ts[i].c != 0)=true;simp[hz]) ⟨by simp;omega,by simp;omega,rfl,by simp;omega,?_,?_⟩
   ·simp only[List.length_map,hts,beq_self_eq_true,Bool.true_and,Nat.zero_add,Int.toNat_natCast,decide_eq_true (show j<q by omega)]
    rfl
   ·rw[Nat.zero_add,Int.toNat_natCast,a7f,next (by omega),next (by omega),if_neg hz]
    exact ih (i+1) (j+1) (ts.set j ts[i]) (by omega) (by simp[hts]) (by omega)
theorem Hz(l:Lin)(s:List UInt8)(c:Int)(o:List Coef)(ho:o.length<=2000000):
  At ZX 0 (Zh 0 ZH (fun r=>r=BD (S9 l.k o) 0 [])) ZI 1 100 [(6,.ptr 0 0),(7,.ptr 1 0),(11,.pv (.int .i64 0)),(12,.pv (.int .i64 0))] [.obj (.box [.pv (.int .i64 0),.pv (.sl 0 true [])]),.obj (.box [.pv (.int .i64 l.k),.row 2 o.length 0 o.length]),.obj (.row false 61 2 (o.map enc))]:=
 b2d l s c o.length ho o.length 0 0 o (by omega) rfl (by omega)
theorem a5j(l:Lin)(s:List UInt8)(c:Int)(hl:l.t.length<=1000000): ∀ (m i:Nat) (p:Bool) (q:Nat) (ts:List Coef),m+i=l.t.length->q=ts.length->(p=false->ts.length<=i)->ts.length<=i+1 ->
  At ZX 0 (Zh 0 ZH (fun r=>r=BD (S9 l.k (ts++WV ⟨s⟩ c p (l.t.drop i))) 0 [])) ZI 0 100 [(1,.pv (.str s)),(2,.pv (.int .i64 c)),(3,.ptr 0 0),(6,.ptr 1 0),(7,.ptr 2 0),(8,.pv (.bool p)),(9,.pv (.int .i64 i))]
   [.obj (.box [.pv (.int .i64 l.k),.pv (enc l.t)]),.obj (.box [.pv (.int .i64 0),.pv (.sl 0 true [])]),.obj (.box [.pv (.int .i64 l.k),.row 3 q 0 q]),.obj (.row false 61 2 (ts.map enc))]:=by
 intro m
 induction m with
 | zero=>
  intro i p q ts hm hq h1 h2
  refine Si l s c p i q ts (ZV (VL (by omega)) ?_)
  rw[List.drop_of_length_le (show l.t.length<=i by omega)]
  refine Vq (fun hp=> ?_) fun hp=> ?_
  ·subst hp
   refine⟨by simp[hq];omega,?_⟩
   have h:=Hz l s c (ts++[⟨⟨s⟩,c⟩]) (by simp;omega)
   rw[List.map_append,List.length_append,<- hq]at h
   rw[WV]
   exact h
  ·subst hp
   have h:=Hz l s c ts (by omega)
   rw[<- hq]at h
   rw[WV,if_pos rfl,List.append_nil]
   exact h
 | succ m ih=>
  intro i p q ts hm hq h1 h2
  have hlt:i<l.t.length:=by omega
  refine Si l s c p i q ts (ZQ (Wd hlt) ⟨Zu hlt rfl,ZG hlt ?_⟩)
  rw[List.drop_eq_getElem_cons hlt,next (by omega)]
  have key : ∀ (p':Bool) (add:List Coef),add.length<=2->(p'=false->(ts++add).length<=i+1)->(ts++add).length<=i+2->ts++WV ⟨s⟩ c p (l.t[i]::l.t.drop (i+1))=(ts++add)++WV ⟨s⟩ c p' (l.t.drop (i+1)) ->
    At ZX 0 (Zh 0 ZH (fun r=>r=BD (S9 l.k (ts++WV ⟨s⟩ c p (l.t[i]::l.t.drop (i+1)))) 0 [])) ZI 0 100 [(1,.pv (.str s)),(2,.pv (.int .i64 c)),(3,.ptr 0 0),(6,.ptr 1 0),(7,.ptr 2 0),(8,.pv (.bool p')),(9,.pv (.int .i64 ((i+1:Nat):Int)))]
     [.obj (.box [.pv (.int .i64 l.k),.pv (enc l.t)]),.obj (.box [.pv (.int .i64 0),.pv (.sl 0 true [])]),.obj (.box [.pv (.int .i64 l.k),.row 3 (q+add.length) 0 (q+add.length)]),.obj (.row false 61 2 (ts.map enc++add.map enc))]:=by
   intro p' add h3 h4 h5 h6
   rw[h6,<- List.map_append]
   exact ih (i+1) p' (q+add.length) (ts++add) (by omega) (by simp[hq]) h4 h5
  generalize l.t[i]=y at key ⊢
  obtain⟨⟨yv⟩,yc⟩:=y
  subst hq
  refine Vq (fun hp=> ?_) fun hp=> ?_
  ·subst hp
   have hle:=h1 rfl
   refine Vq (fun hb=> ?_) fun hb=> ?_
   ·have hb:(Op.bytesLess yv s||yv==s)=false:=hb
    have hlt2:s<yv:=by
     simp only[YN,Bool.or_eq_false_iff,decide_eq_false_iff_not,beq_eq_false_iff_ne]at hb
     exact tri hb.1 hb.2
    have hne : ¬ yv=s:=fun e=>by rw[e]at hlt2;exact List.lt_irrefl _ hlt2
    refine⟨by simp;omega,Jq (fun h=>absurd h hne) fun _=>⟨by simp;omega,?_⟩⟩
    have:=key true [⟨⟨s⟩,c⟩,⟨⟨yv⟩,yc⟩] (by simp) (fun h=>by cases h) (by simp;omega) (by rw[Bu,if_pos hlt2];simp)
    rw[List.append_assoc]
    exact this
   ·have hb:(Op.bytesLess yv s||yv==s)=true:=hb
    have hnl : ¬ s<yv:=by
     simp only[YN,Bool.or_eq_true,decide_eq_true_eq,beq_iff_eq]at hb
     rcases hb with h|h
     ·exact List.lt_asymm h
     ·rw[h];exact List.lt_irrefl _
    refine Jq (fun h=> ?_) fun h=> ?_
    ·have h:yv=s:=h
     subst h
     refine⟨by simp;omega,?_⟩
     exact key true [⟨⟨yv⟩,Cu (yc+c)⟩] (by simp) (fun h=>by cases h) (by simp;omega) (by rw[Bu,if_neg hnl,if_pos rfl];simp)
    ·have h:yv≠s:=h
     refine⟨by simp;omega,?_⟩
     exact key false [⟨⟨yv⟩,yc⟩] (by simp) (fun _=>by simp;omega) (by simp;omega) (by rw[Bu,if_neg hnl,if_neg (by rw[R4];exact h)];simp)
  ·subst hp
   refine Jq (fun h=> ?_) fun h=> ?_
   ·have h:yv=s:=h
    subst h
    refine⟨by simp;omega,?_⟩
    exact key true [⟨⟨yv⟩,Cu (yc+c)⟩] (by simp) (fun h=>by cases h) (by simp;omega) (by rw[a9f,if_pos rfl];simp)
   ·have h:yv≠s:=h
    refine⟨by simp;omega,?_⟩
    exact key true [⟨⟨yv⟩,yc⟩] (by simp) (fun h=>by cases h) (by simp;omega) (by rw[a9f,if_neg (by rw[R4];exact h)];simp)
theorem a0j(l:Lin)(s:List UInt8)(c:Int)(hl:l.t.length<=1000000):Zc ZX 0 (Zh 0 ZH (fun r=>r=BD (GM l ⟨s⟩ c) 0 [])) ZI [] (YH MC [.pv (enc l),.pv (.str s),.pv (enc c)] []):=by
 refine b5v l s c (a0d l s c false 0 ?_)
 show if _ then _ else(if _ then At ZX 0 (Zh 0 ZH (fun r=>r=BD (S9 l.k (WV ⟨s⟩ c false l.t)) 0 [])) _ _ _ _ _ else _)
 by_cases h0:l.t=[]
 ·refine ZV (by simp[h0]) (ZQ rfl ?_)
  have h:=Hz l s c [⟨⟨s⟩,c⟩] (by simp)
  rw[h0,WV]
  exact h
 ·have hlt:0<l.t.length:=List.length_pos_iff.2 h0
  refine ZQ (by simp;omega) ⟨by simp[Enc.sz];omega,ZG hlt ?_⟩
  have ed:l.t=l.t[0]::l.t.drop 1:=by
   have:=List.drop_eq_getElem_cons hlt
   rwa [List.drop_zero]at this
  have key : ∀ (p':Bool) (add:List Coef),add.length<=2->(p'=false->add.length<=1)->WV ⟨s⟩ c false (l.t[0]::l.t.drop 1)=add++WV ⟨s⟩ c p' (l.t.drop 1) ->
    At ZX 0 (Zh 0 ZH (fun r=>r=BD (S9 l.k (WV ⟨s⟩ c false l.t)) 0 [])) ZI 0 100 [(1,.pv (.str s)),(2,.pv (.int .i64 c)),(3,.ptr 0 0),(6,.ptr 1 0),(7,.ptr 2 0),(8,.pv (.bool p')),(9,.pv (.int .i64 ((0+1:Nat):Int)))]
     [.obj (.box [.pv (.int .i64 l.k),.pv (enc l.t)]),.obj (.box [.pv (.int .i64 0),.pv (.sl 0 true [])]),.obj (.box [.pv (.int .i64 l.k),.row 3 add.length 0 add.length]),.obj (.row false 61 2 (add.map enc))]:=by
   intro p' add h3 h4 h6
   have h7:WV ⟨s⟩ c false l.t=add++WV ⟨s⟩ c p' (l.t.drop 1):=by rw[<- h6,<- ed]
   rw[h7]
   exact a5j l s c hl (l.t.length - 1) (0+1) p' add.length add (by omega) rfl (fun h=>h4 h) (by omega)
  rw[show IntKind.wrap IntKind.i64 (0+1)=((0+1:Nat):Int)from rfl]
  generalize l.t[0]=y at key ⊢
  obtain⟨⟨yv⟩,yc⟩:=y
  refine ZQ rfl ?_
  refine Vq (fun hb=> ?_) fun hb=> ?_
  ·have hb:(Op.bytesLess yv s||yv==s)=false:=hb
   have hlt2:s<yv:=by
    simp only[YN,Bool.or_eq_false_iff,decide_eq_false_iff_not,beq_eq_false_iff_ne]at hb
    exact tri hb.1 hb.2
   have hne : ¬ yv=s:=fun e=>by rw[e]at hlt2;exact List.lt_irrefl _ hlt2
   refine Jq (fun h=>absurd h hne) fun _=> ?_
   exact key true [⟨⟨s⟩,c⟩,⟨⟨yv⟩,yc⟩] (by simp) (fun h=>by cases h) (by rw[Bu,if_pos hlt2];simp)
  ·have hb:(Op.bytesLess yv s||yv==s)=true:=hb
   have hnl : ¬ s<yv:=by
    simp only[YN,Bool.or_eq_true,decide_eq_true_eq,beq_iff_eq]at hb
    rcases hb with h|h
    ·exact List.lt_asymm h
    ·rw[h];exact List.lt_irrefl _
   refine Jq (fun h=> ?_) fun h=> ?_
   ·have h:yv=s:=h
    subst h
    exact key true [⟨⟨yv⟩,Cu (yc+c)⟩] (by simp) (fun h=>by cases h) (by rw[Bu,if_neg hnl,if_pos rfl];simp)
   ·have h:yv≠s:=h
    exact key false [⟨⟨yv⟩,yc⟩] (by simp) (fun _=>by simp) (by rw[Bu,if_neg hnl,if_neg (by rw[R4];exact h)];simp)
theorem a1v: ∀ args os,Ka args os=true->Zc ZX os.length (Zh os.length ZH fun r=>r=Kj args os) ZI [] (YH MC args os):=by
 intro args os h
 unfold Ka at h
 split at h
 ·rename_i l s c
  simp only[Bool.and_eq_true,decide_eq_true_eq]at h
  obtain⟨hl,h1⟩:=h
  obtain⟨l,rfl⟩:=Yu hl
  rw[Enc.dec_enc]at h1
  have ev:Kj [.pv (enc l),.pv (.str s),.pv (.int .i64 c)] []=BD (GM l ⟨s⟩ c) 0 []:=by
   show BD (GM (dec (enc l:PV)) ⟨s⟩ c) 0 []=_
   rw[Enc.dec_enc]
  rw[ev]
  exact a0j l s c h1
 ·cases h
end Go.Pl

namespace Go.Pl
open Go.RowKit
open Enc (enc dec is)
open EncL (encL decL isL)
theorem UO.rfl(ps:List PV):UO ps ps:=⟨Eq.refl _,fun j x y hx hy Φ v h=>by rw[hx]at hy;cases hy;exact h⟩
theorem LR.frz_av(r:LR):(frz (r.av 0)).run (YI [r.ob])=some (enc r.view,[.obj (.row true 61 2 (r.ts.map enc))]):=by
 have:(PV.agg [.int .i64 r.k,.sl 2 false (List.drop 0 (List.take r.w (r.ts.map enc)))])=enc r.view:=by
  rw[List.drop_zero,<- List.map_take];rfl
 rw[<- this]
 simp[frz,VW,HM.bind,HM.run,YI,LR.av,LR.ob]
theorem a2y{P:Program}{f:Nat}(h:Z6 P f Ka Kj):Zq P f (fun x:Lin×Str×Int×Unit=>decide (x.1.t.length<=1000000)) (fun x:Lin×Str×Int×Unit=>Q7 x.1 x.2.1 x.2.2.1):=Zq.of_own h fun a ha=>by
 obtain⟨l,⟨s⟩,c,⟨⟩⟩:=a
 have ha:l.t.length<=1000000:=by simpa using ha
 refine⟨(GM l ⟨s⟩ c).av 0,[(GM l ⟨s⟩ c).ob],_,_,?_,?_,LR.frz_av _,?_⟩
 ·show(Vf Lin (enc l)&&decide ((dec (enc l:PV):Lin).t.length<=1000000))=true
  rw[Z5,Enc.dec_enc,decide_eq_true ha];rfl
 ·show BD (GM (dec (enc l:PV)) ⟨s⟩ c) 0 []=_
  rw[Enc.dec_enc];rfl
 ·rw[L8];exact .refl _
end Go.Pl

namespace Go.Pl
open Go.RowKit
open Enc (enc dec is)
open EncL (encL decL isL)
structure BoxT where
 v:List Str
 m:Int
 deriving DecidableEq
instance:Enc BoxT where
 sz:=2
 enc x:=.agg [enc x.v,enc x.m]
 dec | .agg [a,b]=>⟨dec a,dec b⟩|_=>⟨[],0⟩
 is | .agg [a,b]=>is (List Str) a&&is Int b|_=>false
 is_enc v:=by simp
 dec_enc v:=by simp
 sub p h:=by
  cases p with
  | agg xs=>
   match xs,h with
   | [a,b],h=>
    simp only[Bool.and_eq_true]at h
    exact .agg (.cons (Enc.sub a h.1).2 (.cons (Enc.sub b h.2).2 .nil))
  | _=>cases h
@[simp] theorem c4z (a b : PV) : is BoxT (.agg [a, b]) = (is (List Str) a && is Int b) := rfl
@[simp] theorem c3a (a b : PV) : (dec (.agg [a, b]) : BoxT) = ⟨dec a, dec b⟩ := rfl
structure Mono where
 c:Int
 v:List Str
 deriving DecidableEq
instance:Enc Mono where
 sz:=2
 enc x:=.agg [enc x.c,enc x.v]
 dec | .agg [a,b]=>⟨dec a,dec b⟩|_=>⟨0,[]⟩
 is | .agg [a,b]=>is Int a&&is (List Str) b|_=>false
 is_enc v:=by simp
 dec_enc v:=by simp
 sub p h:=by
  cases p with
  | agg xs=>
   match xs,h with
   | [a,b],h=>
    simp only[Bool.and_eq_true]at h
    exact .agg (.cons (Enc.sub a h.1).2 (.cons (Enc.sub b h.2).2 .nil))
  | _=>cases h
@[simp] theorem c5b (a b : PV) : is Mono (.agg [a, b]) = (is Int a && is (List Str) b) := rfl
@[simp] theorem c4u (a b : PV) : (dec (.agg [a, b]) : Mono) = ⟨dec a, dec b⟩ := rfl
structure NilS where
 deriving DecidableEq
instance:Enc NilS where
 sz:=1
 enc _:=.sl 0 true []
 dec _:=⟨⟩
 is | .sl 0 true []=>true|_=>false
 is_enc _:=rfl
 dec_enc _:=rfl
 sub p h:=by
  cases p with
  | sl s t xs=>
   cases xs with
   | nil=>cases s with
    | zero=>cases t with
     | true=>exact .refl _
     | false=>cases h
    | succ s=>cases h
   | cons x xs=>cases s <;> cases t <;> cases h
  | _=>cases h
def Zt{α:Type}(l:List α):Bool:=decide (l.length<=9223372036854775807)
def Wj(l:List Str):Bool:=Zt l&&l.all fun s=>decide (s.s.length<=281474976710656)
def ZW(b:BoxT):Bool:=Wj b.v
def Jg(m:Int):List Str->Int->Option Int
 | [],n=>some n
 | _::r,n=>if n*(m+1)>20000 then none else Jg m r (n*(m+1))
def Xh(b:BoxT):Bool:=b.v.all ZA&&decide b.v.Nodup&&(b.v.isEmpty||decide (b.m<20000))&&decide (0<=b.m)&&(Jg b.m b.v 1).isSome
def Zj(vs:List Str)(p:List Int):List Coef:=List.zipWith (fun v n=>⟨v,n⟩) vs p
def Zn(l:Lin):List Str:=l.t.map (·.v)
def JF(vs:List Str)(ns:List Str):Bool:=ns.all fun s=>vs.contains s
def Zp(b:BoxT)(fs:List Fact)(ok:Bool)(ns:List Str):Int:=
 if !Xh b || !XA fs || !ok then 1 else if JF b.v (ns++fs.flatMap fun f=>Zn f.l)then 0 else 7
def X5(m:Int):Nat->List Int->Option (List Int)
 | 0,_=>none
 | k+1,p=>if p.getD k 0=m then X5 m k (p.set k 0)else some (p.set k (p.getD k 0+1))
def GD(m:Int)(p:List Int):Option (List Int):=X5 m p.length p
def walkP(m:Int):Nat->List Int->List (List Int)
 | 0,_=>[]
 | f+1,p=>p::(match GD m p with|none=>[]|some q=>walkP m f q)
def VT(vs:List Str):List Int:=vs.map fun _=>0
def b9q(b:BoxT):List (List Int):=walkP b.m 20001 (VT b.v)
def Wx(vs:List Str)(fs:List Fact)(p:List Int):Bool:=fs.all fun f=>Ya f (Zj vs p)
def Yb(b:BoxT)(fs:List Fact):List (List Int):=(b9q b).filter (Wx b.v fs)
def Z9(b:BoxT)(fs:List Fact):List (List Int)×Int:=if Zp b fs true []=0 then(Yb b fs,0)else([],Zp b fs true [])
def J8(b:BoxT)(fs:List Fact):Int×Int:=(((Z9 b fs).1.length:Int),(Z9 b fs).2)
def KA:List AV->List AObj->Bool
 | [.pv (.str s),.ptr 0 0],[.box [.pv v,.pv (.int .i64 m)]]=>Vf (List Str) v&&Zt (dec v:List Str)
 | _,_=>false
def Dc:List AV->List AObj->AV×List AObj×List AObj
 | [.pv (.str s),_],[.box [.pv v,.pv (.int .i64 m)]]=>(.pv (.bool (!((dec v:List Str).contains ⟨s⟩))),[.box [.pv v,.pv (.int .i64 m)]],[])
 | _,_=>WW
def QQ(xs:List PV):List Str:=dec (.sl 1 false xs)
def Ad(n m:Nat)(xs:List PV):Bool:=m==n&&xs.length==n&&Vf (List Str) (.sl 1 false xs)&&Zt (QQ xs)
def XU(g:Nat):List AV->List AObj->Bool
 | [.row 0 n 0 m,.fn g' [] [.ptr 1 0]],[.row false ty 1 xs,.box [.pv v,.pv (.int .i64 k)]]=>g'==g&&ty==9&&Ad n m xs&&Vf (List Str) v&&Zt (dec v:List Str)
 | [.pv (.sl 0 true []),.fn g' [] [.ptr 0 0]],[.box [.pv v,.pv (.int .i64 k)]]=>g'==g&&Vf (List Str) v&&Zt (dec v:List Str)
 | _,_=>false
def DF:List AV->List AObj->AV×List AObj×List AObj
 | _,[.row fz ty sz xs,.box [.pv v,.pv (.int .i64 k)]]=>(.pv (.int .i64 (Zx (fun s:Str=> !((dec v:List Str).contains s)) (QQ xs))),[.row fz ty sz xs,.box [.pv v,.pv (.int .i64 k)]],[])
 | _,[.box [.pv v,.pv (.int .i64 k)]]=>(.pv (.int .i64 (-1)),[.box [.pv v,.pv (.int .i64 k)]],[])
 | _,_=>WW
def Rx:List AV->List AObj->AV×List AObj×List AObj
 | _,[.row fz ty sz xs,.box [.pv v,.pv (.int .i64 k)]]=>(.pv (.bool ((QQ xs).any fun s=> !((dec v:List Str).contains s))),[.row fz ty sz xs,.box [.pv v,.pv (.int .i64 k)]],[])
 | _,[.box [.pv v,.pv (.int .i64 k)]]=>(.pv (.bool false),[.box [.pv v,.pv (.int .i64 k)]],[])
 | _,_=>WW
def Kl:List AV->List AObj->Bool
 | [.pv a],[]=>Vf Lin a&& !(dec a:Lin).t.isEmpty&&decide ((dec a:Lin).t.length<=1000000)
 | _,_=>false
def QO(ns:List Str):AV×List AObj×List AObj:=(.row 0 ns.length 0 ns.length,[],[.row false 9 1 (ns.map enc)])
def Fs(p:PV):Lin:=dec p
def J3:List AV->List AObj->AV×List AObj×List AObj
 | [.pv a],_=>QO (Zn (Fs a))
 | _,_=>WW
def Km:List AV->List AObj->Bool
 | [.pv a],[]=>Vf Lin a&&(dec a:Lin).t.isEmpty
 | _,_=>false
def Dt:List AV->List AObj->AV×List AObj×List AObj:=fun _ _=>(.pv (.sl 0 true []),[],[])
def VZ:List AV->List AObj->Bool
 | [.pv b,.pv f,.pv (.bool ok),.row 0 n 0 m],[.row false ty 1 xs]=>Vf BoxT b&&Vf (List Fact) f&&ty==9&&Ad n m xs&&decide (n<=1000)&& !xs.isEmpty&&ZW (dec b)&&Zm (dec f)&&decide ((dec f:List Fact).length<=100)&&decide (xs.length<=1000)
 | _,_=>false
def Ld(p:PV):BoxT:=dec p
def Ci(p:PV):List Fact:=dec p
def ckV(b:BoxT)(fs:List Fact)(ok:Bool)(ns:List Str):List Str:=if !Xh b || !XA fs || !ok then ns else ns++fs.flatMap fun f=>Zn f.l
def Qp:List AV->List AObj->AV×List AObj×List AObj
 | [.pv b,.pv f,.pv (.bool ok),_],[.row fz ty sz xs]=>(.pv (.int .i64 (Zp (Ld b) (Ci f) ok (QQ xs))),[.row false ty sz ((ckV (Ld b) (Ci f) ok (QQ xs)).map enc)],[])
 | _,_=>WW
def YX:List AV->List AObj->Bool
 | [.pv (.agg [v,.int .i64 m]),.pv f],[]=>Vf (List Str) v&&Vf (List Fact) f
 | _,_=>false
def Wn:List AV->List AObj->AV×List AObj×List AObj
 | [.pv (.agg [v,.int .i64 m]),.pv f],_=>(.fn 177 [] [.ptr 0 0,.ptr 1 0],[],[.box [.pv v,.pv (.int .i64 m)],.box [.pv f]])
 | _,_=>WW
def a8v(xs:List PV):List Int:=dec (.sl 1 false xs)
def Qn:List AV->List AObj->Bool
 | [.pv (.agg [v,.int .i64 k]),.row 0 n 0 m],[.row false ty 1 xs]=>m==n&&xs.length==n&&ty==3&&Vf (List Int) (.sl 1 false xs)&&Vf (List Str) v&&decide ((dec v:List Str).length<=1000)&&decide (n<=1000)
 | _,_=>false
def Kv:List AV->List AObj->AV×List AObj×List AObj
 | [.pv (.agg [v,.int .i64 k]),_],[.row fz ty sz xs]=>(.pv (.sl 2 false ((Zj (dec v) (a8v xs)).map enc)),[.row false ty sz xs],[])
 | _,_=>WW
end Go.Pl

namespace Go.Pl
open Go.RowKit
open Enc (enc dec is)
open EncL (encL decL isL)
set_option maxRecDepth 100000
def Vj:IC:=(.seq (.reg [⟨(some 4),(.mv (.c (.int .i64 0))),0,none⟩] none) (.seq (.seq (.reg [⟨(some 6),(.mv (.t 0)),0,none⟩,⟨(some 7),(.len 1 (.t 6)),0,none⟩,⟨(some 8),(.mv (.c (.int .i64 0))),0,none⟩] none) (.block 0 (.loop [8,7,1,0] (.seq (.reg [⟨(some 9),(.bin .num .lss (.t 8) (.t 7)),0,none⟩] none) (.seq (.cond (.t 9) .skip (.exit 0)) (.seq (.block 1 (.seq (.reg [⟨(some 10),(.mv (.t 8)),0,none⟩,⟨(some 5),(.mv (.t 10)),0,none⟩] none) (.seq (.reg [⟨(some 11),(.mv (.t 1)),0,none⟩,⟨(some 12),(.mv (.t 0)),0,none⟩,⟨(some 13),(.mv (.t 5)),0,none⟩,⟨(some 14),(.iaddr 1 (.t 12) (.t 13)),0,none⟩,⟨(some 15),(.load false [.str] (.t 14)),0,none⟩,⟨(some 16),(.bin .num .eql (.t 11) (.t 15)),0,none⟩] none) (.cond (.t 16) (.seq (.reg [⟨(some 17),(.mv (.t 5)),0,none⟩,⟨(some 4),(.mv (.t 17)),0,none⟩] none) .ret) .skip)))) (.reg [⟨(some 18),(.bin .num .add (.t 8) (.c (.int .i64 1))),0,none⟩,⟨(some 8),(.mv (.t 18)),0,none⟩] none))))))) (.seq (.reg [⟨(some 4),(.mv (.c (.int .i64 (-1)))),0,none⟩] none) .ret)))
def Vt:List IRes:=[(.tmp 4)]
abbrev a2j:Nat:=19
def V7:ZE:=Xi []
theorem b2k{G:PV->Prop}(l:List Str)(s:List UInt8)(h:At V7 0 (Za Vt G) Vj 0 19 [(0,(.pv (.sl 1 false (List.map enc l)))),(1,(.pv (.str s))),(7,(.pv (.int .i64 (↑(List.length (List.map enc l)):Int)))),(8,(.pv (.int .i64 0)))] []):Zc V7 0 (Za Vt G) Vj [] (Yx 19 [enc l,.str s]):=Zc.tp (.nil) h (by kernel_rfl)
theorem AY{G:PV->Prop}(l:List Str)(s:List UInt8)(i:Int)(h:if (decide (i<(↑(List.length l):Int)))=true then(decide (0<=i)&&decide (Int.toNat i<List.length (List.map enc l))&&Enc.sz Str==1)=true∧(∃ y0:Str,AV.pv (PV.rptr (PV.cells (List.getD (List.map enc l) (Int.toNat i) default)))=AV.pv (PV.rptr (PV.cells ((enc) y0)))∧(if (s==PV.asStr (List.getD (PV.cells (enc y0)) 0 default))=true then G ((.int .i64 i))else(At V7 0 (Za Vt G) Vj 0 19 [(0,(.pv (.sl 1 false (List.map enc l)))),(1,(.pv (.str s))),(7,(.pv (.int .i64 (↑(List.length l):Int)))),(8,(.pv (.int .i64 (IntKind.wrap IntKind.i64 (i+1)))))] [])))else(G ((.int .i64 (-1))))):At V7 0 (Za Vt G) Vj 0 19 [(0,.pv (enc l)),(1,.pv (.str s)),(7,.pv (.int .i64 l.length)),(8,.pv (.int .i64 i))] []:=At.tp (.lit (.ask (.req (.abs (Str) (fun YY=>AV.pv (PV.rptr (PV.cells ((enc) YY)))) (.lit (.lit (.ask (.nil) (.lit (.nil))))))) (.nil))) h (by kernel_rfl)
def CR:IC:=(.seq (.reg [⟨(some 4),(.mv (.c (.bool false))),0,none⟩] none) (.seq (.reg [⟨(some 5),(.mv (.t 0)),0,none⟩,⟨(some 6),(.mv (.t 1)),0,none⟩,⟨(some 7),(.call (.c (.fn 183)) [(.t 5),(.t 6)]),0,none⟩,⟨(some 8),(.bin .num .geq (.t 7) (.c (.int .i64 0))),2,none⟩,⟨(some 4),(.mv (.t 8)),2,none⟩] none) .ret))
def Cz:List IRes:=[(.tmp 4)]
abbrev b0m:Nat:=9
def RU:ZE:=Xi [(183,.pure (preT (fun x:List Str×Str×Unit=>Zt x.1)) (Zg (fun x:List Str×Str×Unit=>Zx (fun s:Str=>decide (s=x.2.1)) x.1)))]
theorem b5f{G:PV->Prop}(l:List Str)(s:List UInt8)(h:(Go.Pl.preT (fun(x:List Str×Str×Unit)=>Zt x.1) [(.sl 1 false (List.map enc l)),(.str s)])=true∧(∃ y0:Int,AV.pv (Zg (fun(x:List Str×Str×Unit)=>Zx (fun(s:Str)=>decide (s=x.2.1)) x.1) [(.sl 1 false (List.map enc l)),(.str s)])=AV.pv (enc y0)∧(G ((.bool (decide (y0 ≥ 0))))))):Zc RU 0 (Za Cz G) CR [] (Yx 9 [enc l,.str s]):=Zc.tp (.req (.abs (Int) (fun YY=>AV.pv (enc YY)) (.lit (.nil)))) h (by kernel_rfl)
def Vs:IC:=(.seq (.reg [⟨(some 1),(.box 2 (.t 0)),0,none⟩,⟨(some 2),(.mv (.c (.bool false))),1,none⟩] none) (.seq (.reg [⟨(some 3),(.mv (.c (.int .i64 1))),0,none⟩] none) (.seq (.seq (.reg [⟨(some 6),(.faddr 0 (.t 1)),0,none⟩,⟨(some 7),(.load false [(.sl 1)] (.t 6)),0,none⟩,⟨(some 8),(.len 1 (.t 7)),0,none⟩,⟨(some 9),(.mv (.c (.int .i64 0))),0,none⟩] none) (.block 0 (.loop [9,8,7,1,3] (.seq (.reg [⟨(some 10),(.bin .num .lss (.t 9) (.t 8)),0,none⟩] none) (.seq (.cond (.t 10) .skip (.exit 0)) (.seq (.block 1 (.seq (.reg [⟨(some 11),(.mv (.t 9)),0,none⟩,⟨(some 12),(.iaddr 1 (.t 7) (.t 9)),0,none⟩,⟨(some 13),(.load false [.str] (.t 12)),0,none⟩,⟨(some 4),(.mv (.t 11)),0,none⟩,⟨(some 5),(.mv (.t 13)),0,none⟩] none) (.seq (.seq (.reg [⟨(some 14),(.mv (.t 5)),0,none⟩,⟨(some 15),(.call (.c (.fn 119)) [(.t 14)]),0,none⟩,⟨(some 16),(.un .not (.t 15)),2,none⟩,⟨(some 17),(.mv (.t 16)),2,none⟩,⟨(some 18),(.faddr 0 (.t 1)),2,(some (17,false))⟩,⟨(some 19),(.load false [(.sl 1)] (.t 18)),2,(some (17,false))⟩,⟨(some 20),(.mv (.t 4)),2,(some (17,false))⟩,⟨(some 21),(.slc 1 (.t 19) none (some (.t 20)) none),2,(some (17,false))⟩,⟨(some 22),(.mv (.t 5)),2,(some (17,false))⟩,⟨(some 23),(.call (.c (.fn 120)) [(.t 21),(.t 22)]),2,(some (17,false))⟩,⟨(some 24),(.pick (.t 17) (.c (.bool true)) (.t 23)),4,none⟩,⟨(some 25),(.mv (.t 24)),4,none⟩,⟨(some 26),(.faddr 1 (.t 1)),4,(some (25,false))⟩,⟨(some 27),(.load false [(.int .i64)] (.t 26)),4,(some (25,false))⟩,⟨(some 28),(.bin .num .lss (.t 27) (.c (.int .i64 0))),4,(some (25,false))⟩,⟨(some 29),(.pick (.t 25) (.c (.bool true)) (.t 28)),4,none⟩,⟨(some 30),(.mv (.t 29)),4,none⟩,⟨(some 31),(.faddr 1 (.t 1)),4,(some (30,false))⟩,⟨(some 32),(.load false [(.int .i64)] (.t 31)),4,(some (30,false))⟩,⟨(some 33),(.bin .num .geq (.t 32) (.c (.int .i64 20000))),4,(some (30,false))⟩,⟨(some 34),(.pick (.t 30) (.c (.bool true)) (.t 33)),4,none⟩] none) (.cond (.t 34) (.seq (.reg [⟨(some 2),(.mv (.c (.bool false))),0,none⟩] none) .ret) .skip)) (.seq (.reg [⟨(some 35),(.mv (.t 3)),0,none⟩,⟨(some 36),(.faddr 1 (.t 1)),0,none⟩,⟨(some 37),(.load false [(.int .i64)] (.t 36)),0,none⟩,⟨(some 38),(.bin .num .add (.t 37) (.c (.int .i64 1))),0,none⟩,⟨(some 39),(.bin .num .mul (.t 35) (.t 38)),0,none⟩,⟨(some 3),(.mv (.t 39)),0,none⟩] none) (.seq (.reg [⟨(some 40),(.mv (.t 3)),0,none⟩,⟨(some 41),(.bin .num .gtr (.t 40) (.c (.int .i64 20000))),0,none⟩] none) (.cond (.t 41) (.seq (.reg [⟨(some 2),(.mv (.c (.bool false))),0,none⟩] none) .ret) .skip)))))) (.reg [⟨(some 42),(.bin .num .add (.t 9) (.c (.int .i64 1))),0,none⟩,⟨(some 9),(.mv (.t 42)),0,none⟩] none))))))) (.seq (.reg [⟨(some 43),(.faddr 1 (.t 1)),0,none⟩,⟨(some 44),(.load false [(.int .i64)] (.t 43)),0,none⟩,⟨(some 45),(.bin .num .geq (.t 44) (.c (.int .i64 0))),0,none⟩,⟨(some 2),(.mv (.t 45)),0,none⟩] none) .ret))))
def Vh:List IRes:=[(.tmp 2)]
abbrev a2z:Nat:=46
def V8:ZE:=Xi [(119,.pure (preT (fun x:Str×Unit=>decide (x.1.s.length<=281474976710656))) (Zg (fun x:Str×Unit=>ZA x.1))),(120,.pure (preT (fun x:List Str×Str×Unit=>Zt x.1)) (Zg (fun x:List Str×Str×Unit=>x.1.contains x.2.1)))]
theorem a8k{G:PV->Prop}(b:BoxT)(h:At V8 0 (Za Vh G) Vs 0 46 [(1,(.ptr 0 0)),(3,(.pv (.int .i64 1))),(7,(.pv (.sl 1 false (List.map enc b.v)))),(8,(.pv (.int .i64 (↑(List.length (List.map enc b.v)):Int)))),(9,(.pv (.int .i64 0)))] [(.obj (.box [(.pv (.sl 1 false (List.map enc b.v))),(.pv (.int .i64 b.m))]))]):Zc V8 0 (Za Vh G) Vs [] (Yx 46 [enc b]):=Zc.tp (.nil) h (by kernel_rfl)
theorem Av{G:PV->Prop}(b:BoxT)(n i:Int)(h:if (decide (i<(↑(List.length b.v):Int)))=true then(decide (0<=i)&&decide (Int.toNat i<List.length (List.map enc b.v))&&Enc.sz Str==1)=true∧(∃ y0:Str,AV.pv (PV.rptr (PV.cells (List.getD (List.map enc b.v) (Int.toNat i) default)))=AV.pv (PV.rptr (PV.cells ((enc) y0)))∧((Go.Pl.preT (fun(x:Str×Unit)=>decide (List.length (Str.s x.1)<=281474976710656)) [(.str (PV.asStr (List.getD (PV.cells (enc y0)) 0 default)))])=true∧(∃ y1:Bool,AV.pv (Zg (fun(x:Str×Unit)=>ZA x.1) [(.str (PV.asStr (List.getD (PV.cells (enc y0)) 0 default)))])=AV.pv (enc y1)∧(if (!y1)=true then G ((.bool false))else((true&&decide (0<=i)&&(List.isEmpty (List.map enc b.v)||Enc.sz Str==1)&&decide (0<=Int.toNat i)&&decide (Int.toNat i<=List.length (List.map enc b.v)))=true∧((Go.Pl.preT (fun(x:List Str×Str×Unit)=>Zt x.1) [(.sl 1 false (List.drop 0 (List.take (Int.toNat i) (List.map enc b.v)))),(.str (PV.asStr (List.getD (PV.cells (enc y0)) 0 default)))])=true∧(∃ y2:Bool,AV.pv (Zg (fun(x:List Str×Str×Unit)=>List.contains x.1 x.2.1) [(.sl 1 false (List.drop 0 (List.take (Int.toNat i) (List.map enc b.v)))),(.str (PV.asStr (List.getD (PV.cells (enc y0)) 0 default)))])=AV.pv (enc y2)∧(if (y2)=true then G ((.bool false))else(if (decide (BoxT.m b<0))=true then G ((.bool false))else(if (decide (BoxT.m b ≥ 20000))=true then G ((.bool false))else(if (decide (IntKind.wrap IntKind.i64 (n*IntKind.wrap IntKind.i64 (BoxT.m b+1))>20000))=true then G ((.bool false))else(At V8 0 (Za Vh G) Vs 0 46 [(1,(.ptr 0 0)),(3,(.pv (.int .i64 (IntKind.wrap IntKind.i64 (n*IntKind.wrap IntKind.i64 (BoxT.m b+1)))))),(7,(.pv (.sl 1 false (List.map enc b.v)))),(8,(.pv (.int .i64 (↑(List.length b.v):Int)))),(9,(.pv (.int .i64 (IntKind.wrap IntKind.i64 (i+1)))))] [(.obj (.box [(.pv (.sl 1 false (List.map enc b.v))),(.pv (.int .i64 b.m))]))]))))))))))))else(G ((.bool (decide (BoxT.m b ≥ 0)))))):At V8 0 (Za Vh G) Vs 0 46 [(1,.ptr 0 0),(3,.pv (.int .i64 n)),(7,.pv (enc b.v)),(8,.pv (.int .i64 b.v.length)),(9,.pv (.int .i64 i))] [.obj (.box [.pv (enc b.v),.pv (.int .i64 b.m)])]:=At.tp (.lit (.ask (.req (.abs (Str) (fun YY=>AV.pv (PV.rptr (PV.cells ((enc) YY)))) (.lit (.req (.abs (Bool) (fun YY=>AV.pv (enc YY)) (.ask (.lit (.lit (.lit (.lit (.lit (.lit (.lit (.lit (.lit (.lit (.lit (.lit (.lit (.lit (.lit (.nil)))))))))))))))) (.lit (.lit (.lit (.req (.lit (.lit (.req (.abs (Bool) (fun YY=>AV.pv (enc YY)) (.lit (.ask (.lit (.lit (.lit (.lit (.lit (.lit (.lit (.lit (.nil))))))))) (.lit (.lit (.lit (.lit (.ask (.lit (.lit (.lit (.lit (.nil))))) (.lit (.lit (.lit (.lit (.ask (.nil) (.lit (.lit (.lit (.ask (.nil) (.lit (.nil)))))))))))))))))))))))))))))))) (.lit (.nil)))) h (by kernel_rfl)
def Yp:IC:=(.seq (.reg [⟨(some 1),(.box 2 (.t 0)),0,none⟩,⟨(some 2),(.mv (.c (.sl 0 true []))),1,none⟩] none) (.seq (.reg [⟨(some 3),(.mv (.c (.sl 0 true []))),0,none⟩] none) (.seq (.seq (.reg [⟨(some 6),(.faddr 1 (.t 1)),0,none⟩,⟨(some 7),(.load false [(.sl 2)] (.t 6)),0,none⟩,⟨(some 8),(.len 1 (.t 7)),0,none⟩,⟨(some 9),(.mv (.c (.int .i64 0))),0,none⟩] none) (.block 0 (.loop [9,8,7,3] (.seq (.reg [⟨(some 10),(.bin .num .lss (.t 9) (.t 8)),0,none⟩] none) (.seq (.cond (.t 10) .skip (.exit 0)) (.seq (.block 1 (.seq (.reg [⟨(some 11),(.iaddr 2 (.t 7) (.t 9)),0,none⟩,⟨(some 12),(.load true [.str,(.int .i64)] (.t 11)),0,none⟩,⟨(some 5),(.alloc (.agg [(.str []),(.int .i64 0)])),0,none⟩,⟨none,(.store 2 (.t 5) (.t 12)),1,none⟩] none) (.reg [⟨(some 13),(.mv (.t 3)),0,none⟩,⟨(some 14),(.faddr 0 (.t 5)),0,none⟩,⟨(some 15),(.load false [.str] (.t 14)),0,none⟩,⟨(some 16),(.bslice 9 1 1 (.str []) [(0,(.t 15))]),0,none⟩,⟨(some 17),(.append 9 1 16 (.t 13) (.t 16)),1,none⟩,⟨(some 3),(.mv (.t 17)),2,none⟩] none))) (.reg [⟨(some 18),(.bin .num .add (.t 9) (.c (.int .i64 1))),0,none⟩,⟨(some 9),(.mv (.t 18)),0,none⟩] none))))))) (.seq (.reg [⟨(some 19),(.mv (.t 3)),0,none⟩,⟨(some 2),(.mv (.t 19)),0,none⟩] none) .ret))))
def Yn:List IRes:=[(.tmp 2)]
abbrev BH:Nat:=20
def YD:ZE:=Xi []
theorem OX{G:AV×List AObj×List AObj->Prop}(l:Lin)(h:At YD 0 (Zh 0 Yn G) Yp 0 20 [(3,(.pv (.sl 0 true []))),(7,(.pv (.sl 2 false (List.map enc l.t)))),(8,(.pv (.int .i64 (↑(List.length (List.map enc l.t)):Int)))),(9,(.pv (.int .i64 0)))] []):Zc YD 0 (Zh 0 Yn G) Yp [] (YH 20 [.pv (enc l)] []):=Zc.to (.nil) h (by kernel_rfl)
theorem AZ{G:AV×List AObj×List AObj->Prop}(l:Lin)(i:Int)(h:if (decide (i<(↑(List.length l.t):Int)))=true then(decide (0<=i)&&decide (Int.toNat i<List.length (List.map enc l.t))&&Enc.sz Coef==2)=true∧(∃ y0:Coef,AV.pv (PV.rptr (PV.cells (List.getD (List.map enc l.t) (Int.toNat i) default)))=AV.pv (PV.rptr (PV.cells ((enc) y0)))∧(At YD 0 (Zh 0 Yn G) Yp 0 20 [(3,(.row 0 1 0 1)),(7,(.pv (.sl 2 false (List.map enc l.t)))),(8,(.pv (.int .i64 (↑(List.length l.t):Int)))),(9,(.pv (.int .i64 (IntKind.wrap IntKind.i64 (i+1)))))] [(.obj (.row false 9 1 [(.str (PV.asStr (List.getD (PV.cells (enc y0)) 0 default)))]))]))else(G (((.pv (.sl 0 true [])),([],[]))))):At YD 0 (Zh 0 Yn G) Yp 0 20 [(3,.pv (.sl 0 true [])),(7,.pv (enc l.t)),(8,.pv (.int .i64 l.t.length)),(9,.pv (.int .i64 i))] []:=At.to (.lit (.ask (.req (.abs (Coef) (fun YY=>AV.pv (PV.rptr (PV.cells ((enc) YY)))) (.lit (.lit (.lit (.lit (.lit (.lit (.lit (.nil)))))))))) (.nil))) h (by kernel_rfl)
theorem AR{G:AV×List AObj×List AObj->Prop}(l:Lin)(i:Int)(q:Nat)(vs:List Str)(h:if (decide (i<(↑(List.length l.t):Int)))=true then(decide (0<=i)&&decide (Int.toNat i<List.length (List.map enc l.t))&&Enc.sz Coef==2)=true∧(∃ y0:Coef,AV.pv (PV.rptr (PV.cells (List.getD (List.map enc l.t) (Int.toNat i) default)))=AV.pv (PV.rptr (PV.cells ((enc) y0)))∧((List.length (List.map enc vs)==q&&q==q&&decide ((q+List.length (List.drop 0 (List.take 1 [Sh.co Sh.str (List.getD (PV.cells (enc y0)) 0 default)])))*16<=1099511627776)&&decide (q+List.length (List.drop 0 (List.take 1 [Sh.co Sh.str (List.getD (PV.cells (enc y0)) 0 default)]))<=1099511627776))=true∧(At YD 0 (Zh 0 Yn G) Yp 0 20 [(3,(.row 0 (q+List.length (List.drop 0 (List.take 1 [Sh.co Sh.str (List.getD (PV.cells (enc y0)) 0 default)]))) 0 (q+List.length (List.drop 0 (List.take 1 [Sh.co Sh.str (List.getD (PV.cells (enc y0)) 0 default)]))))),(7,(.pv (.sl 2 false (List.map enc l.t)))),(8,(.pv (.int .i64 (↑(List.length l.t):Int)))),(9,(.pv (.int .i64 (IntKind.wrap IntKind.i64 (i+1)))))] [(.obj (.row false 9 1 (List.map enc vs++List.drop 0 (List.take 1 [Sh.co Sh.str (List.getD (PV.cells (enc y0)) 0 default)]))))])))else(G (((.row 0 q 0 q),([],[(.row false 9 1 (List.map enc vs))]))))):At YD 0 (Zh 0 Yn G) Yp 0 20 [(3,.row 0 q 0 q),(7,.pv (enc l.t)),(8,.pv (.int .i64 l.t.length)),(9,.pv (.int .i64 i))] [.obj (.row false 9 1 (vs.map enc))]:=At.to (.lit (.ask (.req (.abs (Coef) (fun YY=>AV.pv (PV.rptr (PV.cells ((enc) YY)))) (.lit (.lit (.lit (.req (.lit (.nil)))))))) (.nil))) h (by kernel_rfl)
def RS:IC:=(.seq (.reg [⟨(some 3),(.mv (.c (.bool false))),0,none⟩] none) (.seq (.reg [⟨(some 4),(.faddr 0 (.t 1)),0,none⟩,⟨(some 5),(.load false [(.sl 1)] (.t 4)),0,none⟩,⟨(some 6),(.mv (.t 0)),0,none⟩,⟨(some 7),(.call (.c (.fn 120)) [(.t 5),(.t 6)]),0,none⟩,⟨(some 8),(.un .not (.t 7)),2,none⟩,⟨(some 3),(.mv (.t 8)),2,none⟩] none) .ret))
def Pg:List IRes:=[(.tmp 3)]
abbrev b3n:Nat:=9
def Lb:ZE:=Xi [(120,.pure (preT (fun x:List Str×Str×Unit=>Zt x.1)) (Zg (fun x:List Str×Str×Unit=>x.1.contains x.2.1)))]
theorem c2j{G:AV×List AObj×List AObj->Prop}(s:List UInt8)(b:BoxT)(h:(Go.Pl.preT (fun(x:List Str×Str×Unit)=>Zt x.1) [(.sl 1 false (List.map enc b.v)),(.str s)])=true∧(∃ y0:Bool,AV.pv (Zg (fun(x:List Str×Str×Unit)=>List.contains x.1 x.2.1) [(.sl 1 false (List.map enc b.v)),(.str s)])=AV.pv (enc y0)∧(G (((.pv (.bool !y0)),([(.box [(.pv (.sl 1 false (List.map enc b.v))),(.pv (.int .i64 b.m))])],[])))))):Zc Lb 1 (Zh 1 Pg G) RS [] (YH 9 [.pv (.str s),.ptr 0 0] [.box [.pv (enc b.v),.pv (.int .i64 b.m)]]):=Zc.to (.req (.abs (Bool) (fun YY=>AV.pv (enc YY)) (.nil))) h (by kernel_rfl)
def Uj:IC:=(.seq (.reg [⟨(some 4),(.mv (.c (.int .i64 0))),0,none⟩] none) (.seq (.seq (.reg [⟨(some 6),(.mv (.t 0)),0,none⟩,⟨(some 7),(.len 1 (.t 6)),0,none⟩,⟨(some 8),(.mv (.c (.int .i64 0))),0,none⟩] none) (.block 0 (.loop [8,7,1,0] (.seq (.reg [⟨(some 9),(.bin .num .lss (.t 8) (.t 7)),0,none⟩] none) (.seq (.cond (.t 9) .skip (.exit 0)) (.seq (.block 1 (.seq (.reg [⟨(some 10),(.mv (.t 8)),0,none⟩,⟨(some 5),(.mv (.t 10)),0,none⟩] none) (.seq (.reg [⟨(some 11),(.mv (.t 1)),0,none⟩,⟨(some 12),(.mv (.t 0)),0,none⟩,⟨(some 13),(.mv (.t 5)),0,none⟩,⟨(some 14),(.iaddr 1 (.t 12) (.t 13)),0,none⟩,⟨(some 15),(.load false [.str] (.t 14)),0,none⟩,⟨(some 16),(.call (.t 11) [(.t 15)]),0,none⟩] none) (.cond (.t 16) (.seq (.reg [⟨(some 17),(.mv (.t 5)),0,none⟩,⟨(some 4),(.mv (.t 17)),0,none⟩] none) .ret) .skip)))) (.reg [⟨(some 18),(.bin .num .add (.t 8) (.c (.int .i64 1))),0,none⟩,⟨(some 8),(.mv (.t 18)),0,none⟩] none))))))) (.seq (.reg [⟨(some 4),(.mv (.c (.int .i64 (-1)))),0,none⟩] none) .ret)))
def UM:List IRes:=[(.tmp 4)]
abbrev b9k:Nat:=19
def KG:ZE:=Xi [(176,.own KA Dc)]
theorem c3q{G:AV×List AObj×List AObj->Prop}(l:List Str)(n:Nat)(b:BoxT)(h:At KG 2 (Zh 2 UM G) Uj 0 19 [(0,(.row 0 n 0 n)),(1,(.fn 176 [] [(.ptr 1 0)])),(7,(.pv (.int .i64 (↑(n - 0):Int)))),(8,(.pv (.int .i64 0)))] [(.obj (.row false 9 1 (List.map enc l))),(.obj (.box [(.pv (.sl 1 false (List.map enc b.v))),(.pv (.int .i64 b.m))]))]):Zc KG 2 (Zh 2 UM G) Uj [] (YH 19 [.row 0 n 0 n,.fn 176 [] [.ptr 1 0]] [.row false 9 1 (l.map enc),.box [.pv (enc b.v),.pv (.int .i64 b.m)]]):=Zc.to (.nil) h (by kernel_rfl)
theorem a9h{G:AV×List AObj×List AObj->Prop}(l:List Str)(n:Nat)(b:BoxT)(i:Int)(h:if (decide (i<(↑n:Int)))=true then(decide (0<=i)&&decide (0+Int.toNat i<n)&&List.length (List.map enc l)==n)=true∧((List.length (List.map enc l)==n&&decide (0+Int.toNat i<List.length (List.map enc l)))=true∧((decide (0+List.length [Sh.str]<=List.length (PV.cells (List.getD (List.map enc l) (0+Int.toNat i) default)))&&Y4 (PV.cells (List.getD (List.map enc l) (0+Int.toNat i) default)) 0 [Sh.str])=true∧((KA [(.pv (.str (PV.asStr (List.getD (PV.cells (List.getD (List.map enc l) (0+Int.toNat i) default)) 0 default)))),(.ptr 0 0)] [(.box [(.pv (.sl 1 false (List.map enc b.v))),(.pv (.int .i64 b.m))])])=true∧(if (!List.contains (dec (enc b.v)) (Str.mk (PV.asStr (List.getD (PV.cells (List.getD (List.map enc l) (0+Int.toNat i) default)) 0 default))))=true then G (((.pv (.int .i64 i)),([(.row false 9 1 (List.map enc l)),(.box [(.pv (.sl 1 false (List.map enc b.v))),(.pv (.int .i64 b.m))])],[])))else(At KG 2 (Zh 2 UM G) Uj 0 19 [(0,(.row 0 n 0 n)),(1,(.fn 176 [] [(.ptr 1 0)])),(7,(.pv (.int .i64 (↑n:Int)))),(8,(.pv (.int .i64 (IntKind.wrap IntKind.i64 (i+1)))))] [(.obj (.row false 9 1 (List.map enc l))),(.obj (.box [(.pv (.sl 1 false (List.map enc b.v))),(.pv (.int .i64 b.m))]))])))))else(G (((.pv (.int .i64 (-1))),([(.row false 9 1 (List.map enc l)),(.box [(.pv (.sl 1 false (List.map enc b.v))),(.pv (.int .i64 b.m))])],[]))))):At KG 2 (Zh 2 UM G) Uj 0 19 [(0,.row 0 n 0 n),(1,.fn 176 [] [.ptr 1 0]),(7,.pv (.int .i64 n)),(8,.pv (.int .i64 i))] [.obj (.row false 9 1 (l.map enc)),.obj (.box [.pv (enc b.v),.pv (.int .i64 b.m)])]:=At.to (.lit (.ask (.req (.keep (.req (.req (.req (.keep (.ask (.nil) (.lit (.nil))))))))) (.nil))) h (by kernel_rfl)
def BP:IC:=(.seq (.reg [⟨(some 4),(.mv (.c (.bool false))),0,none⟩] none) (.seq (.reg [⟨(some 5),(.mv (.t 0)),0,none⟩,⟨(some 6),(.mv (.t 1)),0,none⟩,⟨(some 7),(.call (.c (.fn 238)) [(.t 5),(.t 6)]),0,none⟩,⟨(some 8),(.bin .num .geq (.t 7) (.c (.int .i64 0))),2,none⟩,⟨(some 4),(.mv (.t 8)),2,none⟩] none) .ret))
def Rh:List IRes:=[(.tmp 4)]
abbrev b8v:Nat:=9
def O0:ZE:=Xi [(238,.own (XU 176) DF)]
theorem c3f{G:AV×List AObj×List AObj->Prop}(l:List Str)(n:Nat)(b:BoxT)(h:(XU 176 [(.row 0 n 0 n),(.fn 176 [] [(.ptr 1 0)])] [(.row false 9 1 (List.map enc l)),(.box [(.pv (.sl 1 false (List.map enc b.v))),(.pv (.int .i64 b.m))])])=true∧(G (((.pv (.bool (decide (Zx (fun(s:Str)=> !List.contains (dec (enc b.v)) s) (QQ (List.map enc l)) ≥ 0)))),([(.row false 9 1 (List.map enc l)),(.box [(.pv (.sl 1 false (List.map enc b.v))),(.pv (.int .i64 b.m))])],[]))))):Zc O0 2 (Zh 2 Rh G) BP [] (YH 9 [.row 0 n 0 n,.fn 176 [] [.ptr 1 0]] [.row false 9 1 (l.map enc),.box [.pv (enc b.v),.pv (.int .i64 b.m)]]):=Zc.to (.req (.keep (.lit (.nil)))) h (by kernel_rfl)
theorem c3n{G:AV×List AObj×List AObj->Prop}(b:BoxT)(h:At KG 1 (Zh 1 UM G) Uj 0 19 [(0,(.pv (.sl 0 true []))),(1,(.fn 176 [] [(.ptr 0 0)])),(7,(.pv (.int .i64 0))),(8,(.pv (.int .i64 0)))] [(.obj (.box [(.pv (.sl 1 false (List.map enc b.v))),(.pv (.int .i64 b.m))]))]):Zc KG 1 (Zh 1 UM G) Uj [] (YH 19 [.pv (.sl 0 true []),.fn 176 [] [.ptr 0 0]] [.box [.pv (enc b.v),.pv (.int .i64 b.m)]]):=Zc.to (.nil) h (by kernel_rfl)
-- IMPOSSIBLE
theorem c1n{G:AV×List AObj×List AObj->Prop}(b:BoxT)(i:Int)(h:if (decide (i<0))=true then(decide (0<=i)&&decide (Int.toNat i<List.length ([]:List PV))&&0==1)=true∧(False)else(G (((.pv (.int .i64 (-1))),([(.box [(.pv (.sl 1 false (List.map enc b.v))),(.pv (.int .i64 b.m))])],[]))))):At KG 1 (Zh 1 UM G) Uj 0 19 [(0,.pv (.sl 0 true [])),(1,.fn 176 [] [.ptr 0 0]),(7,.pv (.int .i64 0)),(8,.pv (.int .i64 i))] [.obj (.box [.pv (enc b.v),.pv (.int .i64 b.m)])]:=At.to (.lit (.ask (.req (.keep (.lit (.nil)))) (.nil))) h (by kernel_rfl)
theorem c3g{G:AV×List AObj×List AObj->Prop}(b:BoxT)(h:(XU 176 [(.pv (.sl 0 true [])),(.fn 176 [] [(.ptr 0 0)])] [(.box [(.pv (.sl 1 false (List.map enc b.v))),(.pv (.int .i64 b.m))])])=true∧(G (((.pv (.bool false)),([(.box [(.pv (.sl 1 false (List.map enc b.v))),(.pv (.int .i64 b.m))])],[]))))):Zc O0 1 (Zh 1 Rh G) BP [] (YH 9 [.pv (.sl 0 true []),.fn 176 [] [.ptr 0 0]] [.box [.pv (enc b.v),.pv (.int .i64 b.m)]]):=Zc.to (.req (.keep (.lit (.nil)))) h (by kernel_rfl)
theorem a7t{G:PV->Prop}(l:Lin)(h:At YD 0 (Za Yn G) Yp 0 20 [(3,(.pv (.sl 0 true []))),(7,(.pv (.sl 2 false (List.map enc l.t)))),(8,(.pv (.int .i64 (↑(List.length (List.map enc l.t)):Int)))),(9,(.pv (.int .i64 0)))] []):Zc YD 0 (Za Yn G) Yp [] (Yx 20 [enc l]):=Zc.tp (.nil) h (by kernel_rfl)
theorem BM{G:PV->Prop}(l:Lin)(i:Int)(h:if (decide (i<(↑(List.length l.t):Int)))=true then(decide (0<=i)&&decide (Int.toNat i<List.length (List.map enc l.t))&&Enc.sz Coef==2)=true∧(∃ y0:Coef,AV.pv (PV.rptr (PV.cells (List.getD (List.map enc l.t) (Int.toNat i) default)))=AV.pv (PV.rptr (PV.cells ((enc) y0)))∧(At YD 0 (Za Yn G) Yp 0 20 [(3,(.row 0 1 0 1)),(7,(.pv (.sl 2 false (List.map enc l.t)))),(8,(.pv (.int .i64 (↑(List.length l.t):Int)))),(9,(.pv (.int .i64 (IntKind.wrap IntKind.i64 (i+1)))))] [(.obj (.row false 9 1 [(.str (PV.asStr (List.getD (PV.cells (enc y0)) 0 default)))]))]))else(G ((.sl 0 true [])))):At YD 0 (Za Yn G) Yp 0 20 [(3,.pv (.sl 0 true [])),(7,.pv (enc l.t)),(8,.pv (.int .i64 l.t.length)),(9,.pv (.int .i64 i))] []:=At.tp (.lit (.ask (.req (.abs (Coef) (fun YY=>AV.pv (PV.rptr (PV.cells ((enc) YY)))) (.lit (.lit (.lit (.lit (.lit (.lit (.lit (.nil)))))))))) (.nil))) h (by kernel_rfl)
theorem Bo{G:PV->Prop}(l:Lin)(i:Int)(q:Nat)(vs:List Str)(h:if (decide (i<(↑(List.length l.t):Int)))=true then(decide (0<=i)&&decide (Int.toNat i<List.length (List.map enc l.t))&&Enc.sz Coef==2)=true∧(∃ y0:Coef,AV.pv (PV.rptr (PV.cells (List.getD (List.map enc l.t) (Int.toNat i) default)))=AV.pv (PV.rptr (PV.cells ((enc) y0)))∧((List.length (List.map enc vs)==q&&q==q&&decide ((q+List.length (List.drop 0 (List.take 1 [Sh.co Sh.str (List.getD (PV.cells (enc y0)) 0 default)])))*16<=1099511627776)&&decide (q+List.length (List.drop 0 (List.take 1 [Sh.co Sh.str (List.getD (PV.cells (enc y0)) 0 default)]))<=1099511627776))=true∧(At YD 0 (Za Yn G) Yp 0 20 [(3,(.row 0 (q+List.length (List.drop 0 (List.take 1 [Sh.co Sh.str (List.getD (PV.cells (enc y0)) 0 default)]))) 0 (q+List.length (List.drop 0 (List.take 1 [Sh.co Sh.str (List.getD (PV.cells (enc y0)) 0 default)]))))),(7,(.pv (.sl 2 false (List.map enc l.t)))),(8,(.pv (.int .i64 (↑(List.length l.t):Int)))),(9,(.pv (.int .i64 (IntKind.wrap IntKind.i64 (i+1)))))] [(.obj (.row false 9 1 (List.map enc vs++List.drop 0 (List.take 1 [Sh.co Sh.str (List.getD (PV.cells (enc y0)) 0 default)]))))])))else((List.length (List.map enc vs)==q)=true∧(G ((.sl 1 false (List.drop 0 (List.take q (List.map enc vs)))))))):At YD 0 (Za Yn G) Yp 0 20 [(3,.row 0 q 0 q),(7,.pv (enc l.t)),(8,.pv (.int .i64 l.t.length)),(9,.pv (.int .i64 i))] [.obj (.row false 9 1 (vs.map enc))]:=At.tp (.lit (.ask (.req (.abs (Coef) (fun YY=>AV.pv (PV.rptr (PV.cells ((enc) YY)))) (.lit (.lit (.lit (.req (.lit (.nil)))))))) (.req (.nil)))) h (by kernel_rfl)
def Y3:IC:=Xj
def Y2:List IRes:=[(.tmp 2)]
abbrev a2o:Nat:=67
def Xr:ZE:=Xi [(152,.pure (preT (fun _:Str×Str×Unit=>true)) (Zg (fun x:Str×Str×Unit=>x.2.1.s.isPrefixOf x.1.s))),(182,.pure (preT (fun x:Str×Unit=>decide (x.1.s.length<=281474976710656))) (Zg (fun x:Str×Unit=>Yo x.1))),(76,.pure (preT (fun x:Int×Unit=>decide (-9223372036854775808<=x.1)&&decide (x.1<=9223372036854775807))) (Zg (fun x:Int×Unit=>Ng x.1)))]
theorem a9k{G:PV->Prop}(s:List UInt8)(h : ∃ y0:Bool,AV.pv (Zg (fun(x:Str×Str×Unit)=>List.isPrefixOf (Str.s x.2.1) (Str.s x.1)) [(.str s),(.str [(95:UInt8)])])=AV.pv (enc y0)∧(if (y0)=true then(decide (0<=1)&&true&&decide (Int.toNat 1<=List.length s)&&decide (List.length s<=List.length s))=true∧((Go.Pl.preT (fun(x:Str×Unit)=>decide (List.length (Str.s x.1)<=281474976710656)) [(.str (List.drop (Int.toNat 1) (List.take (List.length s) s)))])=true∧(∃ y1:Int×Er,AV.pv (Zg (fun(x:Str×Unit)=>Yo x.1) [(.str (List.drop (Int.toNat 1) (List.take (List.length s) s)))])=AV.pv (enc y1)∧((CW (enc y1.2)&&Prod.fst (true,PV.bool (Uq (enc y1.2))))=true∧(if (Uq (enc y1.2))=true then if (decide (y1.1>0))=true then if (decide ((↑(List.length s):Int)<=10))=true then(Go.Pl.preT (fun(x:Int×Unit)=>decide ((-9223372036854775808:Int)<=x.1)&&decide (x.1<=9223372036854775807)) [(.int .i64 y1.1)])=true∧(∃ y2:Str,AV.pv (Zg (fun(x:Int×Unit)=>Ng x.1) [(.int .i64 y1.1)])=AV.pv (enc y2)∧((decide (0<=1)&&true&&decide (Int.toNat 1<=List.length s)&&decide (List.length s<=List.length s))=true∧(G ((.bool (Str.s y2==List.drop (Int.toNat 1) (List.take (List.length s) s)))))))else(G ((.bool false)))else(G ((.bool false)))else(G ((.bool false)))))))else(At Xr 0 (Za Y2 G) Y3 0 67 [(0,(.pv (.str s))),(34,(.pv (.sl 1 false (Zv s)))),(35,(.pv (.int .i64 (↑(List.length (Zv s)):Int)))),(36,(.pv (.int .i64 0)))] []))):Zc Xr 0 (Za Y2 G) Y3 [] (Yx 67 [.str s]):=Zc.tp (.lit (.abs (Bool) (fun YY=>AV.pv (enc YY)) (.ask (.req (.req (.abs (Int×Er) (fun YY=>AV.pv (enc YY)) (.req (.ask (.lit (.lit (.lit (.ask (.lit (.lit (.lit (.lit (.ask (.lit (.req (.abs (Str) (fun YY=>AV.pv (enc YY)) (.lit (.lit (.req (.lit (.lit (.lit (.nil)))))))))) (.lit (.lit (.lit (.lit (.lit (.nil))))))))))) (.lit (.lit (.lit (.lit (.lit (.lit (.lit (.lit (.lit (.nil)))))))))))))) (.lit (.lit (.lit (.lit (.lit (.lit (.lit (.lit (.lit (.lit (.lit (.lit (.nil)))))))))))))))))) (.nil)))) h (by kernel_rfl)
theorem AC{G:PV->Prop}(s:List UInt8)(i:Int)(h:if (decide (i<(↑(List.length (Zv s)):Int)))=true then(decide (0<=i)&&decide (Int.toNat i<List.length (Zv s))&&1==1)=true∧((decide (0+List.length [Sh.int IntKind.u8]<=List.length (PV.cells (List.getD (Zv s) (Int.toNat i) default)))&&Y4 (PV.cells (List.getD (Zv s) (Int.toNat i) default)) 0 [Sh.int IntKind.u8])=true∧(if (decide (PV.asInt (List.getD (PV.cells (List.getD (Zv s) (Int.toNat i) default)) 0 default)<97))=true then if (i==0)=true then G ((.bool false))else(if (decide (PV.asInt (List.getD (PV.cells (List.getD (Zv s) (Int.toNat i) default)) 0 default)<48))=true then G ((.bool false))else(if (decide (PV.asInt (List.getD (PV.cells (List.getD (Zv s) (Int.toNat i) default)) 0 default)>57))=true then G ((.bool false))else(At Xr 0 (Za Y2 G) Y3 0 67 [(0,(.pv (.str s))),(34,(.pv (.sl 1 false (Zv s)))),(35,(.pv (.int .i64 (↑(List.length (Zv s)):Int)))),(36,(.pv (.int .i64 (IntKind.wrap IntKind.i64 (i+1)))))] [])))else(if (decide (PV.asInt (List.getD (PV.cells (List.getD (Zv s) (Int.toNat i) default)) 0 default)>122))=true then if (i==0)=true then G ((.bool false))else(if (decide (PV.asInt (List.getD (PV.cells (List.getD (Zv s) (Int.toNat i) default)) 0 default)<48))=true then G ((.bool false))else(if (decide (PV.asInt (List.getD (PV.cells (List.getD (Zv s) (Int.toNat i) default)) 0 default)>57))=true then G ((.bool false))else(At Xr 0 (Za Y2 G) Y3 0 67 [(0,(.pv (.str s))),(34,(.pv (.sl 1 false (Zv s)))),(35,(.pv (.int .i64 (↑(List.length (Zv s)):Int)))),(36,(.pv (.int .i64 (IntKind.wrap IntKind.i64 (i+1)))))] [])))else(At Xr 0 (Za Y2 G) Y3 0 67 [(0,(.pv (.str s))),(34,(.pv (.sl 1 false (Zv s)))),(35,(.pv (.int .i64 (↑(List.length (Zv s)):Int)))),(36,(.pv (.int .i64 (IntKind.wrap IntKind.i64 (i+1)))))] []))))else(if (!s==[])=true then G ((.bool (decide ((↑(List.length s):Int)<=30))))else(G ((.bool false))))):At Xr 0 (Za Y2 G) Y3 0 67 [(0,.pv (.str s)),(34,.pv (.sl 1 false (Zv s))),(35,.pv (.int .i64 (Zv s).length)),(36,.pv (.int .i64 i))] []:=At.tp (.lit (.ask (.req (.keep (.req (.lit (.ask (.lit (.lit (.lit (.lit (.lit (.lit (.ask (.lit (.lit (.lit (.lit (.lit (.lit (.lit (.lit (.lit (.lit (.nil))))))))))) (.lit (.lit (.lit (.lit (.lit (.ask (.lit (.lit (.lit (.lit (.lit (.nil)))))) (.lit (.lit (.lit (.lit (.lit (.ask (.nil) (.lit (.nil))))))))))))))))))))) (.lit (.lit (.lit (.ask (.lit (.lit (.lit (.ask (.lit (.lit (.lit (.lit (.lit (.lit (.lit (.lit (.lit (.lit (.nil))))))))))) (.lit (.lit (.lit (.lit (.lit (.ask (.lit (.lit (.lit (.lit (.lit (.nil)))))) (.lit (.lit (.lit (.lit (.lit (.ask (.nil) (.lit (.nil)))))))))))))))))) (.lit (.lit (.lit (.lit (.lit (.lit (.lit (.lit (.nil)))))))))))))))))) (.lit (.ask (.lit (.lit (.lit (.lit (.nil))))) (.lit (.lit (.lit (.nil)))))))) h (by kernel_rfl)
end Go.Pl

namespace Go.Pl
open Go.RowKit
open Enc (enc dec is)
open EncL (encL decL isL)
theorem ZN{α:Type}{l:List α}:Zt l=true ↔ l.length<=9223372036854775807:=by simp[Zt]
theorem PS(l:List Str)(s:List UInt8)(hl:l.length<=9223372036854775807): ∀ (m i:Nat),m+i=l.length->(∀ j (h:j<l.length),j<i->decide (l[j]=⟨s⟩)=false) ->
  At V7 0 (Za Vt (Zf (Zx (fun x:Str=>decide (x=⟨s⟩)) l))) Vj 0 19 [(0,.pv (enc l)),(1,.pv (.str s)),(7,.pv (.int .i64 l.length)),(8,.pv (.int .i64 i))] []:=by
 intro m
 induction m with
 | zero=>
  intro i hi hno
  refine AY l s i (ZV (Z8 (by omega)) (Qm ?_))
  rw[UH _ _ fun k hk=>hno k hk (by omega)]
 | succ m ih=>
  intro i hi hno
  have hlt:i<l.length:=by omega
  refine AY l s i (ZQ (Z4 hlt) ⟨Zu hlt rfl,ZG hlt (Jq (fun h=>Qm ?_) fun h=> ?_)⟩)
  ·have h:s=l[i].s:=h
   rw[Uy (fun x:Str=>decide (x=⟨s⟩)) l i hlt hno (by rw[h];simp)]
  ·have h:s≠l[i].s:=h
   rw[next (by omega)]
   refine ih (i+1) (by omega) fun k hk hki=> ?_
   by_cases e:k=i
   ·subst e;simp only[decide_eq_false_iff_not];intro e;exact h (by rw[e])
   ·exact hno k hk (by omega)
theorem M4: ∀ a:List Str×Str×Unit,Zt a.1=true->Zc V7 0 (Za Vt (Zf (Zx (fun s:Str=>decide (s=a.2.1)) a.1))) Vj [] (Yx a2j (encL a)):=by
 rintro⟨l,⟨s⟩,⟨⟩⟩ h
 have:=PS l s (ZN.1 h) l.length 0 (by omega) fun j _ h=>by omega
 refine b2k l s ?_
 rw[List.length_map]
 exact this
theorem TC(l:List Str)(s:Str):l.any (fun x=>decide (x=s))=l.contains s:=by
 rw[List.contains_eq_any_beq]
 congr 1
 funext x
 by_cases h:x=s
 ·subst h;simp
 ·have h2:s≠x:=fun e=>h e.symm
  simp[h,h2]
theorem a0a: ∀ a:List Str×Str×Unit,Zt a.1=true->Zc RU 0 (Za Cz (Zf (a.1.contains a.2.1))) CR [] (Yx b0m (encL a)):=by
 rintro⟨l,⟨s⟩,⟨⟩⟩ h
 refine b5f l s ⟨Zl (l,⟨s⟩,()) rfl h,Zi (l,⟨s⟩,()) rfl (ZJ ?_)⟩
 show decide (Zx (fun x:Str=>decide (x=⟨s⟩)) l ≥ 0)=_
 rw[Xy,TC]
def gvL(m:Int):List Str->List Str->Int->Bool
 | _,[],_=>decide (m ≥ 0)
 | seen,s::r,n=>ZA s&& !seen.contains s&& !decide (m<0)&& !decide (m ≥ 20000)&& !decide (n*(m+1)>20000)&&gvL m (seen++[s]) r (n*(m+1))
theorem a8c(m:Int): ∀ (r seen:List Str) (n:Int),gvL m seen r n=(r.all ZA&&(decide r.Nodup&&r.all fun s=> !seen.contains s)&&(r.isEmpty||decide (m<20000))&&decide (0<=m)&&(Jg m r n).isSome)
 | [],seen,n=>by
  simp[gvL,Jg]
 | s::r,seen,n=>by
  rw[gvL,a8c m r (seen++[s]) (n*(m+1)),Jg]
  have h1:(r.all fun x=> !(seen++[s]).contains x)=((r.all fun x=> !seen.contains x)&& !r.contains s):=by
   induction r with
   | nil=>rfl
   | cons x r ih=>
    simp only[List.all_cons,ih]
    have e1:(seen++[s]).contains x=(seen.contains x||decide (x=s)):=by simp[List.contains_eq_any_beq,List.any_append,Bool.or_comm]
    have e2:(x::r).contains s=(decide (x=s)||r.contains s):=by
     rw[List.contains_cons]
     congr 1
     by_cases h:x=s
     ·subst h;simp
     ·have h2:s≠x:=fun e=>h e.symm
      simp[h,h2]
    rw[e1,e2]
    cases seen.contains x <;> cases decide (x=s) <;> cases r.contains s <;> cases (r.all fun x=> !seen.contains x) <;> rfl
  have h2:decide (s::r).Nodup=(decide r.Nodup&& !r.contains s):=by
   by_cases h:s∈r
   ·simp[List.nodup_cons,h]
   ·simp[List.nodup_cons,h]
  rw[h1,h2]
  by_cases hm:m<0
  ·have e1:decide (0<=m)=false:=by simp;omega
   rw[decide_eq_true hm,e1];simp
  ·have e1:decide (0<=m)=true:=by simp;omega
   by_cases hm2:m ≥ 20000
   ·have e2:decide (m<20000)=false:=by simp;omega
    rw[decide_eq_true hm2,e2];simp
   ·have e2:decide (m<20000)=true:=by simp;omega
    by_cases hn:n*(m+1)>20000
    ·rw[if_pos hn,decide_eq_true hn];simp
    ·rw[if_neg hn,decide_eq_false hn,decide_eq_false hm,decide_eq_false hm2,e1,e2]
     simp only[List.all_cons,List.isEmpty_cons]
     cases ZA s <;> cases seen.contains s <;> cases r.contains s <;> cases r.all ZA <;> cases decide r.Nodup <;> cases (r.all fun x=> !seen.contains x) <;> cases r.isEmpty <;> cases (Jg m r (n*(m+1))).isSome <;> rfl
theorem O7(b:BoxT):gvL b.m [] b.v 1=Xh b:=by
 rw[a8c,Xh]
 have:(b.v.all fun s=> !([]:List Str).contains s)=true:=by simp
 rw[this,Bool.and_true]
theorem OE{n:Int}(h1 : -9000000000000000000<=n)(h2:n<=9000000000000000000):IntKind.i64.wrap n=n:=WL (by omega) (by omega)
theorem Ny(b:BoxT)(hb:ZW b=true): ∀ (k i:Nat) (n:Int),k+i=b.v.length->1<=n->n<=20000 ->
  At V8 0 (Za Vh (Zf (gvL b.m (b.v.take i) (b.v.drop i) n))) Vs 0 46 [(1,.ptr 0 0),(3,.pv (.int .i64 n)),(7,.pv (enc b.v)),(8,.pv (.int .i64 b.v.length)),(9,.pv (.int .i64 i))] [.obj (.box [.pv (enc b.v),.pv (.int .i64 b.m)])]:=by
 simp only[ZW,Wj,Bool.and_eq_true,List.all_eq_true]at hb
 obtain⟨hb1,hb2⟩:=hb
 have hl:=ZN.1 hb1
 intro k
 induction k with
 | zero=>
  intro i n hi h1 h2
  rw[List.drop_of_length_le (by omega)]
  exact Av b n i (ZV (Z8 (by omega)) (ZJ rfl))
 | succ k ih=>
  intro i n hi h1 h2
  have hlt:i<b.v.length:=by omega
  have hd:b.v.drop i=b.v[i]::b.v.drop (i+1):=List.drop_eq_getElem_cons hlt
  have ht:b.v.take (i+1)=b.v.take i++[b.v[i]]:=List.take_succ_eq_append_getElem hlt
  have hs:=hb2 _ (List.getElem_mem hlt)
  rw[hd,gvL]
  have et:List.drop 0 (List.take (Int.toNat (i:Int)) (List.map (enc:Str->PV) b.v))=(b.v.take i).map enc:=by rw[List.drop_zero,Int.toNat_natCast,List.map_take]
  refine Av b n i (ZQ (Z4 hlt) ⟨Zu hlt rfl,ZG hlt ⟨Zl (b.v[i],()) rfl hs,Zi (b.v[i],()) rfl (Vq (fun h=> ?_) fun h=>⟨by rw[List.length_map,decide_eq_true (show(0:Int)<=(i:Int) by omega),decide_eq_true (show(Int.toNat (i:Int))<=b.v.length by omega)];simp,?_,?_⟩)⟩⟩)
  ·have h:ZA b.v[i]=false:=h
   rw[h];exact ZJ rfl
  ·rw[et]
   exact Zl (b.v.take i,b.v[i],()) rfl (ZN.2 (by rw[List.length_take];omega))
  ·rw[et]
   have hn:ZA b.v[i]=true:=h
   rw[hn,Bool.true_and]
   refine Zi (b.v.take i,b.v[i],()) rfl (Xe (fun h=> ?_) fun h=>We (fun h3=> ?_) fun h3=>We (fun h4=> ?_) fun h4=> ?_)
   ·have h:(b.v.take i).contains b.v[i]=true:=h
    rw[h];exact ZJ rfl
   ·rw[decide_eq_true h3,show(b.v.take i).contains b.v[i]=false from h];exact ZJ rfl
   ·rw[decide_eq_true h4,decide_eq_false h3,show(b.v.take i).contains b.v[i]=false from h];exact ZJ rfl
   ·have h:(b.v.take i).contains b.v[i]=false:=h
    have q1:b.m+1<=20000:=by omega
    have q2:1<=b.m+1:=by omega
    have hm:n*(b.m+1)<=20000*20000:=Int.le_trans (Int.mul_le_mul_of_nonneg_left q1 (by omega)) (Int.mul_le_mul_of_nonneg_right h2 (by omega))
    have hm1:1<=n*(b.m+1):=by
     have:=Int.mul_le_mul h1 q2 (by omega) (by omega)
     omega
    rw[OE (n:=b.m+1) (by omega) (by omega),OE (n:=n*(b.m+1)) (by omega) (by omega),decide_eq_false h3,decide_eq_false h4,h]
    refine We (fun h5=> ?_) fun h5=> ?_
    ·rw[decide_eq_true h5];exact ZJ rfl
    ·rw[decide_eq_false h5,next (by omega),<- ht]
     exact ih (i+1) (n*(b.m+1)) (by omega) hm1 (by omega)
theorem Fv: ∀ a:BoxT×Unit,ZW a.1=true->Zc V8 0 (Za Vh (Zf (Xh a.1))) Vs [] (Yx a2z (encL a)):=by
 rintro⟨b,⟨⟩⟩ h
 rw[<- O7]
 refine a8k b ?_
 have:=Ny b h b.v.length 0 1 (by omega) (by omega) (by omega)
 rw[List.length_map]
 exact this
theorem Kh(vs:List Str)(p:List Int){i:Nat}(h1:i<vs.length)(h2:i<p.length):Zj (vs.take (i+1)) (p.take (i+1))=Zj (vs.take i) (p.take i)++[⟨vs[i],p[i]⟩]:=by
 unfold Zj
 rw[List.take_succ_eq_append_getElem h1,List.take_succ_eq_append_getElem h2,List.zipWith_append (by simp[List.length_take];omega)]
 rfl
theorem MF(vs:List Str)(p:List Int){i:Nat}(h:min vs.length p.length<=i):Zj (vs.take i) (p.take i)=Zj vs p:=by
 unfold Zj
 rw[<- List.take_zipWith]
 exact List.take_of_length_le (by rw[List.length_zipWith];exact h)
theorem JH(vs:List Str)(p:List Int){i:Nat}(h1:i<=vs.length)(h2:i<=p.length):(Zj (vs.take i) (p.take i)).length=i:=by
 unfold Zj
 rw[List.length_zipWith,List.length_take,List.length_take];omega
end Go.Pl

namespace Go.Pl
open Go.RowKit
open Enc (enc dec is)
open EncL (encL decL isL)
set_option maxRecDepth 100000
def Ye:IC:=(.seq (.reg [⟨(some 4),(.box 2 (.t 0)),0,none⟩,⟨(some 8),(.mv (.c (.int .i64 0))),1,none⟩] none) (.seq (.seq (.reg [⟨(some 11),(.load true [(.sl 1),(.int .i64)] (.t 4)),0,none⟩,⟨(some 12),(.call (.c (.fn 50)) [(.t 11)]),0,none⟩,⟨(some 13),(.un .not (.t 12)),2,none⟩,⟨(some 14),(.mv (.t 13)),2,none⟩,⟨(some 15),(.mv (.t 1)),2,(some (14,false))⟩,⟨(some 16),(.call (.c (.fn 95)) [(.t 15)]),2,(some (14,false))⟩,⟨(some 17),(.un .not (.t 16)),4,(some (14,false))⟩,⟨(some 18),(.pick (.t 14) (.c (.bool true)) (.t 17)),4,none⟩,⟨(some 19),(.mv (.t 18)),4,none⟩,⟨(some 20),(.mv (.t 2)),4,(some (19,false))⟩,⟨(some 21),(.un .not (.t 20)),4,(some (19,false))⟩,⟨(some 22),(.pick (.t 19) (.c (.bool true)) (.t 21)),4,none⟩] none) (.cond (.t 22) (.seq (.reg [⟨(some 8),(.mv (.c (.int .i64 1))),0,none⟩] none) .ret) .skip)) (.seq (.seq (.reg [⟨(some 23),(.mv (.t 1)),0,none⟩,⟨(some 24),(.len 1 (.t 23)),0,none⟩,⟨(some 25),(.mv (.c (.int .i64 0))),0,none⟩] none) (.block 0 (.loop [25,24,23,3,4] (.seq (.reg [⟨(some 26),(.bin .num .lss (.t 25) (.t 24)),0,none⟩] none) (.seq (.cond (.t 26) .skip (.exit 0)) (.seq (.block 1 (.seq (.reg [⟨(some 27),(.iaddr 3 (.t 23) (.t 25)),0,none⟩,⟨(some 28),(.load true [.bool,(.int .i64),(.sl 2)] (.t 27)),0,none⟩,⟨(some 10),(.alloc (.agg [(.bool false),(.int .i64 0),(.sl 0 true [])])),0,none⟩,⟨none,(.store 3 (.t 10) (.t 28)),1,none⟩] none) (.reg [⟨(some 29),(.mv (.t 3)),0,none⟩,⟨(some 30),(.faddr 1 (.t 10)),0,none⟩,⟨(some 31),(.load true [(.int .i64),(.sl 2)] (.t 30)),0,none⟩,⟨(some 32),(.call (.c (.fn 174)) [(.t 31)]),0,none⟩,⟨(some 33),(.append 9 1 16 (.t 29) (.t 32)),2,none⟩,⟨(some 3),(.mv (.t 33)),3,none⟩] none))) (.reg [⟨(some 34),(.bin .num .add (.t 25) (.c (.int .i64 1))),0,none⟩,⟨(some 25),(.mv (.t 34)),0,none⟩] none))))))) (.seq (.seq (.reg [⟨(some 35),(.mv (.t 3)),0,none⟩,⟨(some 36),(.mkfn 176 [] [(.t 4)]),0,none⟩,⟨(some 37),(.call (.c (.fn 175)) [(.t 35),(.t 36)]),0,none⟩] none) (.cond (.t 37) (.seq (.reg [⟨(some 8),(.mv (.c (.int .i64 7))),0,none⟩] none) .ret) .skip)) (.seq (.reg [⟨(some 8),(.mv (.c (.int .i64 0))),0,none⟩] none) .ret)))))
def Yd:List IRes:=[(.tmp 8)]
abbrev A9:Nat:=38
def Yq:ZE:=Xi [(50,.pure (preT (fun x:BoxT×Unit=>ZW x.1)) (Zg (fun x:BoxT×Unit=>Xh x.1))),(95,.pure (preT (fun x:List Fact×Unit=>Zm x.1)) (Zg (fun x:List Fact×Unit=>XA x.1))),(174,.pure (preT (fun x:Lin×Unit=>decide (x.1.t.length<=1000000))) (Zg (fun x:Lin×Unit=>Zn x.1))),(175,.own (XU 176) Rx)]
theorem b1c{G:PV->Prop}(b:BoxT)(fs:List Fact)(ok:Bool)(h:(Go.Pl.preT (fun(x:BoxT×Unit)=>ZW x.1) [(.agg [(.sl 1 false (List.map enc b.v)),(.int .i64 b.m)])])=true∧(∃ y0:Bool,AV.pv (Zg (fun(x:BoxT×Unit)=>Xh x.1) [(.agg [(.sl 1 false (List.map enc b.v)),(.int .i64 b.m)])])=AV.pv (enc y0)∧(if (!y0)=true then G ((.int .i64 1))else((Go.Pl.preT (fun(x:List Fact×Unit)=>Zm x.1) [(.sl 3 false (List.map enc fs))])=true∧(∃ y1:Bool,AV.pv (Zg (fun(x:List Fact×Unit)=>XA x.1) [(.sl 3 false (List.map enc fs))])=AV.pv (enc y1)∧(if (!y1)=true then G ((.int .i64 1))else(if (!ok)=true then G ((.int .i64 1))else(At Yq 0 (Za Yd G) Ye 0 38 [(3,(.pv (.sl 0 true []))),(4,(.ptr 0 0)),(23,(.pv (.sl 3 false (List.map enc fs)))),(24,(.pv (.int .i64 (↑(List.length (List.map enc fs)):Int)))),(25,(.pv (.int .i64 0)))] [(.obj (.box [(.pv (.sl 1 false (List.map enc b.v))),(.pv (.int .i64 b.m))]))])))))))):Zc Yq 0 (Za Yd G) Ye [] (Yx 38 [enc b,enc fs,.bool ok,.sl 0 true []]):=Zc.tp (.req (.abs (Bool) (fun YY=>AV.pv (enc YY)) (.ask (.lit (.lit (.lit (.lit (.lit (.lit (.lit (.nil)))))))) (.lit (.req (.abs (Bool) (fun YY=>AV.pv (enc YY)) (.lit (.lit (.ask (.lit (.lit (.lit (.nil)))) (.lit (.lit (.ask (.nil) (.nil))))))))))))) h (by kernel_rfl)
theorem Bd{G:PV->Prop}(b:BoxT)(fs:List Fact)(ok:Bool)(i:Int)(h:if (decide (i<(↑(List.length fs):Int)))=true then(decide (0<=i)&&decide (Int.toNat i<List.length (List.map enc fs))&&Enc.sz Fact==3)=true∧(∃ y0:Fact,AV.pv (PV.rptr (PV.cells (List.getD (List.map enc fs) (Int.toNat i) default)))=AV.pv (PV.rptr (PV.cells ((enc) y0)))∧((Go.Pl.preT (fun(x:Lin×Unit)=>decide (List.length x.1.t<=1000000)) [(.agg [(.int .i64 (PV.asInt (List.getD (PV.cells (enc y0)) (0+1) default))),(.sl 2 false (PV.asXs (List.getD (PV.cells (enc y0)) (0+1+1) default)))])])=true∧(∃ y1:List Str,AV.pv (Zg (fun(x:Lin×Unit)=>Zn x.1) [(.agg [(.int .i64 (PV.asInt (List.getD (PV.cells (enc y0)) (0+1) default))),(.sl 2 false (PV.asXs (List.getD (PV.cells (enc y0)) (0+1+1) default)))])])=AV.pv (enc y1)∧((List.isEmpty (List.map enc y1)||Enc.sz Str==1)=true∧(if (List.isEmpty (List.map enc y1))=true then At Yq 0 (Za Yd G) Ye 0 38 [(3,(.pv (.sl 0 true []))),(4,(.ptr 0 0)),(23,(.pv (.sl 3 false (List.map enc fs)))),(24,(.pv (.int .i64 (↑(List.length fs):Int)))),(25,(.pv (.int .i64 (IntKind.wrap IntKind.i64 (i+1)))))] [(.obj (.box [(.pv (.sl 1 false (List.map enc b.v))),(.pv (.int .i64 b.m))]))]else(((List.isEmpty ([]:List PV)||0==1)&&decide ((List.length ([]:List PV)+List.length (List.map enc y1))*16<=1099511627776)&&decide (List.length ([]:List PV)+List.length (List.map enc y1)<=1099511627776))=true∧(At Yq 0 (Za Yd G) Ye 0 38 [(3,(.row 0 (List.length ([]:List PV)+List.length (List.map enc y1)) 0 (List.length ([]:List PV)+List.length (List.map enc y1)))),(4,(.ptr 1 0)),(23,(.pv (.sl 3 false (List.map enc fs)))),(24,(.pv (.int .i64 (↑(List.length fs):Int)))),(25,(.pv (.int .i64 (IntKind.wrap IntKind.i64 (i+1)))))] [(.obj (.row false 9 1 (([]:List PV)++List.map enc y1))),(.obj (.box [(.pv (.sl 1 false (List.map enc b.v))),(.pv (.int .i64 b.m))]))])))))))else((XU 176 [(.pv (.sl 0 true [])),(.fn 176 [] [(.ptr 0 0)])] [(.box [(.pv (.sl 1 false (List.map enc b.v))),(.pv (.int .i64 b.m))])])=true∧(G ((.int .i64 0))))):At Yq 0 (Za Yd G) Ye 0 38 [(3,.pv (.sl 0 true [])),(4,.ptr 0 0),(23,.pv (enc fs)),(24,.pv (.int .i64 fs.length)),(25,.pv (.int .i64 i))] [.obj (.box [.pv (enc b.v),.pv (.int .i64 b.m)])]:=At.tp (.lit (.ask (.req (.abs (Fact) (fun YY=>AV.pv (PV.rptr (PV.cells ((enc) YY)))) (.lit (.req (.abs (List Str) (fun YY=>AV.pv (enc YY)) (.req (.lit (.ask (.lit (.nil)) (.req (.lit (.nil))))))))))) (.req (.keep (.lit (.nil)))))) h (by kernel_rfl)
theorem Cv{G:PV->Prop}(b:BoxT)(fs:List Fact)(ok:Bool)(i:Int)(q:Nat)(ns:List Str)(h:if (decide (i<(↑(List.length fs):Int)))=true then(decide (0<=i)&&decide (Int.toNat i<List.length (List.map enc fs))&&Enc.sz Fact==3)=true∧(∃ y0:Fact,AV.pv (PV.rptr (PV.cells (List.getD (List.map enc fs) (Int.toNat i) default)))=AV.pv (PV.rptr (PV.cells ((enc) y0)))∧((Go.Pl.preT (fun(x:Lin×Unit)=>decide (List.length x.1.t<=1000000)) [(.agg [(.int .i64 (PV.asInt (List.getD (PV.cells (enc y0)) (0+1) default))),(.sl 2 false (PV.asXs (List.getD (PV.cells (enc y0)) (0+1+1) default)))])])=true∧(∃ y1:List Str,AV.pv (Zg (fun(x:Lin×Unit)=>Zn x.1) [(.agg [(.int .i64 (PV.asInt (List.getD (PV.cells (enc y0)) (0+1) default))),(.sl 2 false (PV.asXs (List.getD (PV.cells (enc y0)) (0+1+1) default)))])])=AV.pv (enc y1)∧((List.isEmpty (List.map enc y1)||Enc.sz Str==1)=true∧((List.length (List.map enc ns)==q&&q==q&&decide ((q+List.length (List.map enc y1))*16<=1099511627776)&&decide (q+List.length (List.map enc y1)<=1099511627776))=true∧(At Yq 0 (Za Yd G) Ye 0 38 [(3,(.row 0 (q+List.length (List.map enc y1)) 0 (q+List.length (List.map enc y1)))),(4,(.ptr 1 0)),(23,(.pv (.sl 3 false (List.map enc fs)))),(24,(.pv (.int .i64 (↑(List.length fs):Int)))),(25,(.pv (.int .i64 (IntKind.wrap IntKind.i64 (i+1)))))] [(.obj (.row false 9 1 (List.map enc ns++List.map enc y1))),(.obj (.box [(.pv (.sl 1 false (List.map enc b.v))),(.pv (.int .i64 b.m))]))]))))))else((XU 176 [(.row 0 q 0 q),(.fn 176 [] [(.ptr 1 0)])] [(.row false 9 1 (List.map enc ns)),(.box [(.pv (.sl 1 false (List.map enc b.v))),(.pv (.int .i64 b.m))])])=true∧(if (List.any (QQ (List.map enc ns)) fun(s:Str)=> !List.contains (dec (enc b.v)) s)=true then G ((.int .i64 7))else(G ((.int .i64 0)))))):At Yq 0 (Za Yd G) Ye 0 38 [(3,.row 0 q 0 q),(4,.ptr 1 0),(23,.pv (enc fs)),(24,.pv (.int .i64 fs.length)),(25,.pv (.int .i64 i))] [.obj (.row false 9 1 (ns.map enc)),.obj (.box [.pv (enc b.v),.pv (.int .i64 b.m)])]:=At.tp (.lit (.ask (.req (.abs (Fact) (fun YY=>AV.pv (PV.rptr (PV.cells ((enc) YY)))) (.lit (.req (.abs (List Str) (fun YY=>AV.pv (enc YY)) (.req (.req (.lit (.nil))))))))) (.req (.keep (.ask (.nil) (.nil)))))) h (by kernel_rfl)
theorem a1g{G:AV×List AObj×List AObj->Prop}(b:BoxT)(fs:List Fact)(ok:Bool)(n:Nat)(l:List Str)(h:(Go.Pl.preT (fun(x:BoxT×Unit)=>ZW x.1) [(.agg [(.sl 1 false (List.map enc b.v)),(.int .i64 b.m)])])=true∧(∃ y0:Bool,AV.pv (Zg (fun(x:BoxT×Unit)=>Xh x.1) [(.agg [(.sl 1 false (List.map enc b.v)),(.int .i64 b.m)])])=AV.pv (enc y0)∧(if (!y0)=true then G (((.pv (.int .i64 1)),([(.row false 9 1 (List.map enc l))],[])))else((Go.Pl.preT (fun(x:List Fact×Unit)=>Zm x.1) [(.sl 3 false (List.map enc fs))])=true∧(∃ y1:Bool,AV.pv (Zg (fun(x:List Fact×Unit)=>XA x.1) [(.sl 3 false (List.map enc fs))])=AV.pv (enc y1)∧(if (!y1)=true then G (((.pv (.int .i64 1)),([(.row false 9 1 (List.map enc l))],[])))else(if (!ok)=true then G (((.pv (.int .i64 1)),([(.row false 9 1 (List.map enc l))],[])))else(At Yq 1 (Zh 1 Yd G) Ye 0 38 [(3,(.row 0 n 0 n)),(4,(.ptr 1 0)),(23,(.pv (.sl 3 false (List.map enc fs)))),(24,(.pv (.int .i64 (↑(List.length (List.map enc fs)):Int)))),(25,(.pv (.int .i64 0)))] [(.obj (.row false 9 1 (List.map enc l))),(.obj (.box [(.pv (.sl 1 false (List.map enc b.v))),(.pv (.int .i64 b.m))]))])))))))):Zc Yq 1 (Zh 1 Yd G) Ye [] (YH 38 [.pv (enc b),.pv (enc fs),.pv (.bool ok),.row 0 n 0 n] [.row false 9 1 (l.map enc)]):=Zc.to (.req (.abs (Bool) (fun YY=>AV.pv (enc YY)) (.ask (.lit (.lit (.lit (.lit (.lit (.lit (.lit (.nil)))))))) (.lit (.req (.abs (Bool) (fun YY=>AV.pv (enc YY)) (.lit (.lit (.ask (.lit (.lit (.lit (.nil)))) (.lit (.lit (.ask (.nil) (.nil))))))))))))) h (by kernel_rfl)
theorem Cb{G:AV×List AObj×List AObj->Prop}(b:BoxT)(fs:List Fact)(ok:Bool)(n:Nat)(l:List Str)(i:Int)(q:Nat)(ns:List Str)(h:if (decide (i<(↑(List.length fs):Int)))=true then(decide (0<=i)&&decide (Int.toNat i<List.length (List.map enc fs))&&Enc.sz Fact==3)=true∧(∃ y0:Fact,AV.pv (PV.rptr (PV.cells (List.getD (List.map enc fs) (Int.toNat i) default)))=AV.pv (PV.rptr (PV.cells ((enc) y0)))∧((Go.Pl.preT (fun(x:Lin×Unit)=>decide (List.length x.1.t<=1000000)) [(.agg [(.int .i64 (PV.asInt (List.getD (PV.cells (enc y0)) (0+1) default))),(.sl 2 false (PV.asXs (List.getD (PV.cells (enc y0)) (0+1+1) default)))])])=true∧(∃ y1:List Str,AV.pv (Zg (fun(x:Lin×Unit)=>Zn x.1) [(.agg [(.int .i64 (PV.asInt (List.getD (PV.cells (enc y0)) (0+1) default))),(.sl 2 false (PV.asXs (List.getD (PV.cells (enc y0)) (0+1+1) default)))])])=AV.pv (enc y1)∧((List.isEmpty (List.map enc y1)||Enc.sz Str==1)=true∧((List.length (List.map enc ns)==q&&q==q&&decide ((q+List.length (List.map enc y1))*16<=1099511627776)&&decide (q+List.length (List.map enc y1)<=1099511627776))=true∧(At Yq 1 (Zh 1 Yd G) Ye 0 38 [(3,(.row 0 (q+List.length (List.map enc y1)) 0 (q+List.length (List.map enc y1)))),(4,(.ptr 1 0)),(23,(.pv (.sl 3 false (List.map enc fs)))),(24,(.pv (.int .i64 (↑(List.length fs):Int)))),(25,(.pv (.int .i64 (IntKind.wrap IntKind.i64 (i+1)))))] [(.obj (.row false 9 1 (List.map enc ns++List.map enc y1))),(.obj (.box [(.pv (.sl 1 false (List.map enc b.v))),(.pv (.int .i64 b.m))]))]))))))else((XU 176 [(.row 0 q 0 q),(.fn 176 [] [(.ptr 1 0)])] [(.row false 9 1 (List.map enc ns)),(.box [(.pv (.sl 1 false (List.map enc b.v))),(.pv (.int .i64 b.m))])])=true∧(if (List.any (QQ (List.map enc ns)) fun(s:Str)=> !List.contains (dec (enc b.v)) s)=true then G (((.pv (.int .i64 7)),([(.row false 9 1 (List.map enc ns))],[])))else(G (((.pv (.int .i64 0)),([(.row false 9 1 (List.map enc ns))],[]))))))):At Yq 1 (Zh 1 Yd G) Ye 0 38 [(3,.row 0 q 0 q),(4,.ptr 1 0),(23,.pv (enc fs)),(24,.pv (.int .i64 fs.length)),(25,.pv (.int .i64 i))] [.obj (.row false 9 1 (ns.map enc)),.obj (.box [.pv (enc b.v),.pv (.int .i64 b.m)])]:=At.to (.lit (.ask (.req (.abs (Fact) (fun YY=>AV.pv (PV.rptr (PV.cells ((enc) YY)))) (.lit (.req (.abs (List Str) (fun YY=>AV.pv (enc YY)) (.req (.req (.lit (.nil))))))))) (.req (.keep (.ask (.nil) (.nil)))))) h (by kernel_rfl)
def RO:IC:=(.seq (.reg [⟨(some 2),(.box 2 (.t 0)),0,none⟩,⟨(some 3),(.box 1 (.t 1)),1,none⟩,⟨(some 4),(.mv (.c .nilfn)),2,none⟩] none) (.seq (.reg [⟨(some 5),(.mkfn 177 [] [(.t 2),(.t 3)]),0,none⟩,⟨(some 4),(.mv (.t 5)),0,none⟩] none) .ret))
def TK:List IRes:=[(.tmp 4)]
abbrev b3w:Nat:=6
def Ov:ZE:=Xi []
theorem c1i{G:AV×List AObj×List AObj->Prop}(b:BoxT)(fs:List Fact)(h:G (((.fn 177 [] [(.ptr 0 0),(.ptr 1 0)]),([],[(.box [(.pv (.sl 1 false (List.map enc b.v))),(.pv (.int .i64 b.m))]),(.box [(.pv (.sl 3 false (List.map enc fs)))])])))):Zc Ov 0 (Zh 0 TK G) RO [] (YH 6 [.pv (enc b),.pv (enc fs)] []):=Zc.to (.nil) h (by kernel_rfl)
def UJ:IC:=(.block 1 (.reg [⟨(some 20),(.load false [(.sl 1)] (.t 7)),0,none⟩,⟨(some 21),(.mv (.t 8)),0,none⟩,⟨(some 22),(.bslice 34 1 1 (.sl 0 true []) [(0,(.t 21))]),0,none⟩,⟨(some 23),(.append 34 1 24 (.t 20) (.t 22)),1,none⟩,⟨none,(.store 1 (.t 7) (.t 23)),2,none⟩] none))
def Rv:ZE:=Xi [(116,.pure (preT (fun x:BoxT×List Fact×Bool×NilS×Unit=>ZW x.1&&Zm x.2.1&&decide (x.2.1.length<=100))) (Zg (fun x:BoxT×List Fact×Bool×NilS×Unit=>Zp x.1 x.2.1 x.2.2.1 []))),(117,.own YX Wn)]
theorem b4b{G:Zr->Prop}(E:Yv)(p:List Int)(vs:List Coef)(h:E 99 ⟨ZO 25 0 [],[(.obj (.box [(.row 1 1 0 1)])),(.obj (.row false 34 1 [(.sl 1 false (List.map enc p))]))]⟩ (fun x S'=>KF Rv E 1 (fun st=>G st.heap) UJ 99 x S')):Zz Rv E 1 (fun st=>G st.heap) (.inl UJ) [.seq (.ext 99 [])] ⟨ZO 25 0 [(7,.ptr 0 0),(8,.pv (enc p)),(18,.pv (enc p)),(19,.pv (enc vs))],[.obj (.box [.pv (.sl 0 true [])])]⟩:=Zz.mh (.lit (.lit (.lit (.lit (.lit (.nil)))))) h (by kernel_rfl)
theorem b4h{G:Zr->Prop}(E:Yv)(p:List Int)(vs:List Coef)(n:Nat)(xs:List (List Int))(h:(List.length (List.map enc xs)==n&&n==n&&decide ((n+List.length (List.drop 0 (List.take 1 [enc p])))*24<=1099511627776)&&decide (n+List.length (List.drop 0 (List.take 1 [enc p]))<=1099511627776))=true∧(E 99 ⟨ZO 25 0 [],[(.obj (.box [(.row 1 (n+List.length (List.drop 0 (List.take 1 [enc p]))) 0 (n+List.length (List.drop 0 (List.take 1 [enc p]))))])),(.obj (.row false 34 1 (List.map enc xs++List.drop 0 (List.take 1 [enc p]))))]⟩ (fun x S'=>KF Rv E 2 (fun st=>G st.heap) UJ 99 x S'))):Zz Rv E 2 (fun st=>G st.heap) (.inl UJ) [.seq (.ext 99 [])] ⟨ZO 25 0 [(7,.ptr 0 0),(8,.pv (enc p)),(18,.pv (enc p)),(19,.pv (enc vs))],[.obj (.box [.row 1 n 0 n]),.obj (.row false 34 1 (xs.map enc))]⟩:=Zz.mh (.lit (.lit (.req (.nil)))) h (by kernel_rfl)
def Hm:IC:=(.seq (.reg [⟨(some 2),(.box 2 (.t 0)),0,none⟩,⟨(some 4),(.mv (.c (.sl 0 true []))),1,none⟩,⟨(some 5),(.mv (.c (.int .i64 0))),1,none⟩] none) (.seq (.seq (.reg [⟨(some 9),(.load true [(.sl 1),(.int .i64)] (.t 2)),0,none⟩,⟨(some 10),(.mv (.t 1)),0,none⟩,⟨(some 11),(.call (.c (.fn 116)) [(.t 9),(.t 10),(.c (.bool true)),(.c (.sl 0 true []))]),0,none⟩,⟨(some 6),(.mv (.t 11)),2,none⟩] none) (.seq (.reg [⟨(some 12),(.mv (.t 6)),0,none⟩,⟨(some 13),(.bin .num .neq (.t 12) (.c (.int .i64 0))),0,none⟩] none) (.cond (.t 13) (.seq (.reg [⟨(some 14),(.mv (.t 6)),0,none⟩,⟨(some 4),(.mv (.c (.sl 0 true []))),0,none⟩,⟨(some 5),(.mv (.t 14)),0,none⟩] none) .ret) .skip))) (.seq (.reg [⟨(some 7),(.alloc (.sl 0 true [])),0,none⟩] none) (.seq (.seq (.reg [⟨(some 15),(.load true [(.sl 1),(.int .i64)] (.t 2)),0,none⟩,⟨(some 16),(.mv (.t 1)),0,none⟩,⟨(some 17),(.call (.c (.fn 117)) [(.t 15),(.t 16)]),0,none⟩] none) (.block 0 (.ext 0 [17,18,7,8,21,20,22,23]))) (.seq (.reg [⟨(some 24),(.load false [(.sl 1)] (.t 7)),0,none⟩,⟨(some 4),(.mv (.t 24)),0,none⟩,⟨(some 5),(.mv (.c (.int .i64 0))),0,none⟩] none) .ret)))))
def Hy:List IRes:=[(.tmp 4),(.tmp 5)]
abbrev b9e:Nat:=25
def KN:ZE:=Xi [(116,.pure (preT (fun x:BoxT×List Fact×Bool×NilS×Unit=>ZW x.1&&Zm x.2.1&&decide (x.2.1.length<=100))) (Zg (fun x:BoxT×List Fact×Bool×NilS×Unit=>Zp x.1 x.2.1 x.2.2.1 []))),(117,.own YX Wn)]
theorem c4k{G:PV->Prop}(E:Yv)(b:BoxT)(fs:List Fact)(h:(Go.Pl.preT (fun(x:BoxT×List Fact×Bool×NilS×Unit)=>ZW x.1&&Zm x.2.1&&decide (List.length x.2.1<=100)) [(.agg [(.sl 1 false (List.map enc b.v)),(.int .i64 b.m)]),(.sl 3 false (List.map enc fs)),(.bool true),(.sl 0 true [])])=true∧(∃ y0:Int,AV.pv (Zg (fun(x:BoxT×List Fact×Bool×NilS×Unit)=>Zp x.1 x.2.1 x.2.2.1 []) [(.agg [(.sl 1 false (List.map enc b.v)),(.int .i64 b.m)]),(.sl 3 false (List.map enc fs)),(.bool true),(.sl 0 true [])])=AV.pv (enc y0)∧(if (y0 != 0)=true then G ((.tup [(.sl 0 true []),(.int .i64 y0)]))else((YX [(.pv (.agg [(.sl 1 false (List.map enc b.v)),(.int .i64 b.m)])),(.pv (.sl 3 false (List.map enc fs)))] [])=true∧(E 0 ⟨ZO 25 0 [(7,(.ptr 0 0)),(8,.undef),(17,(.fn 177 [] [(.ptr 1 0),(.ptr 2 0)])),(18,.undef),(20,.undef),(21,.undef),(22,.undef),(23,.undef)],[(.obj (.box [(.pv (.sl 0 true []))])),(.obj (.box [(.pv (.sl 1 false (List.map enc b.v))),(.pv (.int .i64 b.m))])),(.obj (.box [(.pv (.sl 3 false (List.map enc fs)))]))]⟩ (fun x S'=>KF KN E 0 (Za Hy G) Hm 0 x S')))))):Zz KN E 0 (Za Hy G) (.inl Hm) [] (Yx 25 [enc b,enc fs]):=Zz.mp (.req (.abs (Int) (fun YY=>AV.pv (enc YY)) (.lit (.ask (.nil) (.req (.keep (.nil))))))) h (by kernel_rfl)
theorem b5m{G:PV->Prop}(E:Yv)(b:BoxT)(fs:List Fact)(h:G ((.tup [(.sl 0 true []),(.int .i64 0)]))):KF KN E 0 (Za Hy G) Hm 0 .normal ⟨ZO 25 0 [(7,.ptr 0 0)],[.obj (.box [.pv (.sl 0 true [])])]⟩:=Zz.mp (.nil) h (by kernel_rfl)
theorem b3l{G:PV->Prop}(E:Yv)(b:BoxT)(fs:List Fact)(n:Nat)(xs:List (List Int))(h:(List.length (List.map enc xs)==n)=true∧(G ((.tup [(.sl 1 false (List.drop 0 (List.take n (List.map enc xs)))),(.int .i64 0)])))):KF KN E 0 (Za Hy G) Hm 0 .normal ⟨ZO 25 0 [(7,.ptr 0 0)],[.obj (.box [.row 1 n 0 n]),.obj (.row false 34 1 (xs.map enc))]⟩:=Zz.mp (.req (.nil)) h (by kernel_rfl)
def Hu:IC:=(.seq (.reg [⟨(some 2),(.box 2 (.t 0)),0,none⟩,⟨(some 4),(.mv (.c (.int .i64 0))),1,none⟩,⟨(some 5),(.mv (.c (.int .i64 0))),1,none⟩] none) (.seq (.reg [⟨(some 9),(.load true [(.sl 1),(.int .i64)] (.t 2)),0,none⟩,⟨(some 10),(.mv (.t 1)),0,none⟩,⟨(some 11),(.call (.c (.fn 45)) [(.t 9),(.t 10)]),0,none⟩,⟨(some 8),(.mv (.t 11)),2,none⟩,⟨(some 12),(.extract (.t 8) 0),2,none⟩,⟨(some 13),(.extract (.t 8) 1),2,none⟩,⟨(some 6),(.mv (.t 12)),2,none⟩,⟨(some 7),(.mv (.t 13)),2,none⟩] none) (.seq (.reg [⟨(some 14),(.mv (.t 6)),0,none⟩,⟨(some 15),(.len 1 (.t 14)),0,none⟩,⟨(some 16),(.mv (.t 7)),0,none⟩,⟨(some 4),(.mv (.t 15)),0,none⟩,⟨(some 5),(.mv (.t 16)),0,none⟩] none) .ret)))
def H5:List IRes:=[(.tmp 4),(.tmp 5)]
abbrev a4b:Nat:=17
def C8:ZE:=Xi [(45,.pure (preT (fun x:BoxT×List Fact×Unit=>ZW x.1&&Zm x.2.1&&decide (x.2.1.length<=100)&&decide (x.1.v.length<=1000))) (Zg (fun x:BoxT×List Fact×Unit=>Z9 x.1 x.2.1)))]
theorem a6h{G:PV->Prop}(b:BoxT)(fs:List Fact)(h:(Go.Pl.preT (fun(x:BoxT×List Fact×Unit)=>ZW x.1&&Zm x.2.1&&decide (List.length x.2.1<=100)&&decide (List.length x.1.v<=1000)) [(.agg [(.sl 1 false (List.map enc b.v)),(.int .i64 b.m)]),(.sl 3 false (List.map enc fs))])=true∧(∃ y0:List (List Int)×Int,AV.pv (Zg (fun(x:BoxT×List Fact×Unit)=>Z9 x.1 x.2.1) [(.agg [(.sl 1 false (List.map enc b.v)),(.int .i64 b.m)]),(.sl 3 false (List.map enc fs))])=AV.pv (enc y0)∧(G ((.tup [(.int .i64 (↑(List.length (List.map enc y0.1)):Int)),(.int .i64 y0.2)]))))):Zc C8 0 (Za H5 G) Hu [] (Yx 17 [enc b,enc fs]):=Zc.tp (.req (.abs (List (List Int)×Int) (fun YY=>AV.pv (enc YY)) (.nil))) h (by kernel_rfl)
end Go.Pl

namespace Go.Pl
open Go.RowKit
open Enc (enc dec is)
open EncL (encL decL isL)
end Go.Pl

namespace Go.Pl
open Go.RowKit
open Enc (enc dec is)
open EncL (encL decL isL)
set_option maxRecDepth 100000
-- IMPOSSIBLE
end Go.Pl

namespace Go.Pl
open Go.RowKit
open Enc (enc dec is)
open EncL (encL decL isL)
end Go.Pl

namespace Go.Pl
open Go.RowKit
open Enc (enc dec is)
open EncL (encL decL isL)
def nmI(l:Lin)(i:Nat):List Str:=(l.t.take i).map (·.v)
theorem Dl(l:Lin){i:Nat}(h:i<l.t.length):(nmI l (i+1)).map (enc:Str->PV)=(nmI l i).map enc++[.str l.t[i].v.s]:=by
 unfold nmI
 rw[List.take_succ_eq_append_getElem h,List.map_append,List.map_append];rfl
theorem D7(l:Lin){i:Nat}(h:i<=l.t.length):(nmI l i).length=i:=by unfold nmI;rw[List.length_map,List.length_take];omega
theorem Ob(l:Lin):nmI l l.t.length=Zn l:=by unfold nmI Zn;rw[List.take_of_length_le (Nat.le_refl _)]
theorem Ro{q sz m:Nat}{xs:List PV}(h:xs.length=q)(h1:(q+m)*sz<=1099511627776)(h2:q+m<=1099511627776):(xs.length==q&&q==q&&decide ((q+m)*sz<=1099511627776)&&decide (q+m<=1099511627776))=true:=by simp[h,h1,h2]
theorem Fj(l:Lin)(hl:l.t.length<=1000000): ∀ (k i:Nat),k+i=l.t.length->1<=i ->
  At YD 0 (Zh 0 Yn fun r=>r=QO (Zn l)) Yp 0 20 [(3,.row 0 i 0 i),(7,.pv (enc l.t)),(8,.pv (.int .i64 l.t.length)),(9,.pv (.int .i64 i))] [.obj (.row false 9 1 ((nmI l i).map enc))]:=by
 intro k
 induction k with
 | zero=>
  intro i hi h1
  obtain rfl:i=l.t.length:=by omega
  refine AR l _ _ (nmI l l.t.length) (ZV (Z8 (by omega)) ?_)
  rw[Ob]
  unfold QO
  have e:(Zn l).length=l.t.length:=by rw[<- Ob,D7 l (Nat.le_refl _)]
  rw[e]
 | succ k ih=>
  intro i hi h1
  have hlt:i<l.t.length:=by omega
  refine AR l i i (nmI l i) (ZQ (Z4 hlt) ⟨Zu hlt rfl,ZG hlt ⟨Ro (m:=1) (by rw[List.length_map,D7 l (by omega)]) (by omega) (by omega),?_⟩⟩)
  have:=ih (i+1) (by omega) (by omega)
  rw[Dl l hlt,<- next (by omega)]at this
  exact this
theorem a2f: ∀ args os,Kl args os=true->Zc YD os.length (Zh os.length Yn fun r=>r=J3 args os) Yp [] (YH BH args os):=by
 intro args os h
 unfold Kl at h
 split at h
 ·rename_i a
  simp only[Bool.and_eq_true,Bool.not_eq_true',decide_eq_true_eq]at h
  obtain⟨⟨h1,h2⟩,h3⟩:=h
  obtain⟨l,rfl⟩:=Yu h1
  rw[Enc.dec_enc]at h2 h3
  have hlt:0<l.t.length:=by
   rcases Nat.eq_zero_or_pos l.t.length with e|e
   ·rw[List.length_eq_zero_iff.1 e]at h2;cases h2
   ·exact e
  have ev:J3 [.pv (enc l)] []=QO (Zn l):=by show QO (Zn (dec (enc l:PV)))=_;rw[Enc.dec_enc]
  rw[ev]
  refine OX l ?_
  rw[List.length_map]
  refine AZ l ((0:Nat):Int) (ZQ (Z4 hlt) ⟨Zu hlt rfl,ZG hlt ?_⟩)
  have:=Fj l h3 (l.t.length - 1) 1 (by omega) (by omega)
  rw[show(1:Nat)=0+1 from rfl,Dl l hlt]at this
  exact this
 ·cases h
theorem LG: ∀ args os,Km args os=true->Zc YD os.length (Zh os.length Yn fun r=>r=Dt args os) Yp [] (YH BH args os):=by
 intro args os h
 unfold Km at h
 split at h
 ·rename_i a
  simp only[Bool.and_eq_true,List.isEmpty_iff]at h
  obtain⟨h1,h2⟩:=h
  obtain⟨l,rfl⟩:=Yu h1
  rw[Enc.dec_enc]at h2
  refine OX l ?_
  rw[List.length_map]
  exact AZ l ((0:Nat):Int) (ZV (Z8 (by rw[h2];simp)) rfl)
 ·cases h
theorem P9(l:Lin)(hl:l.t.length<=1000000): ∀ (k i:Nat),k+i=l.t.length->1<=i ->
  At YD 0 (Za Yn (Zf (Zn l))) Yp 0 20 [(3,.row 0 i 0 i),(7,.pv (enc l.t)),(8,.pv (.int .i64 l.t.length)),(9,.pv (.int .i64 i))] [.obj (.row false 9 1 ((nmI l i).map enc))]:=by
 intro k
 induction k with
 | zero=>
  intro i hi h1
  obtain rfl:i=l.t.length:=by omega
  refine Bo l _ _ (nmI l l.t.length) (ZV (Z8 (by omega)) ⟨by simp[D7],?_⟩)
  rw[List.drop_zero,List.take_of_length_le (by rw[List.length_map,D7 l (Nat.le_refl _)];exact Nat.le_refl _),Ob]
  exact ZU (x:=Zn l) rfl
 | succ k ih=>
  intro i hi h1
  have hlt:i<l.t.length:=by omega
  refine Bo l i i (nmI l i) (ZQ (Z4 hlt) ⟨Zu hlt rfl,ZG hlt ⟨Ro (m:=1) (by rw[List.length_map,D7 l (by omega)]) (by omega) (by omega),?_⟩⟩)
  have:=ih (i+1) (by omega) (by omega)
  rw[Dl l hlt,<- next (by omega)]at this
  exact this
theorem Lt: ∀ a:Lin×Unit,decide (a.1.t.length<=1000000)=true->Zc YD 0 (Za Yn (Zf (Zn a.1))) Yp [] (Yx BH (encL a)):=by
 rintro⟨l,⟨⟩⟩ h
 have h:l.t.length<=1000000:=of_decide_eq_true h
 refine a7t l ?_
 rw[List.length_map]
 by_cases h0:l.t.length=0
 ·refine BM l ((0:Nat):Int) (ZV (Z8 (by omega)) ?_)
  have:Zn l=[]:=by unfold Zn;rw[List.length_eq_zero_iff.1 h0];rfl
  rw[this]
  exact⟨rfl,rfl⟩
 ·have hlt:0<l.t.length:=by omega
  refine BM l ((0:Nat):Int) (ZQ (Z4 hlt) ⟨Zu hlt rfl,ZG hlt ?_⟩)
  have:=P9 l h (l.t.length - 1) 1 (by omega) (by omega)
  rw[show(1:Nat)=0+1 from rfl,Dl l hlt]at this
  exact this
theorem b2b: ∀ args os,KA args os=true->Zc Lb os.length (Zh os.length Pg fun r=>r=Dc args os) RS [] (YH b3n args os):=by
 intro args os h
 unfold KA at h
 split at h
 ·rename_i s v m
  simp only[Bool.and_eq_true]at h
  obtain⟨h1,h2⟩:=h
  obtain⟨l,rfl⟩:=Yu h1
  rw[Enc.dec_enc]at h2
  have ev:Dc [.pv (.str s),.ptr 0 0] [.box [.pv (enc l),.pv (.int .i64 m)]]=(.pv (.bool (!(l.contains ⟨s⟩))),[.box [.pv (enc l),.pv (.int .i64 m)]],[]):=by
   show(AV.pv (.bool (!((dec (enc l:PV):List Str).contains ⟨s⟩))),_,_)=_
   rw[Enc.dec_enc]
  rw[ev]
  exact c2j s ⟨l,m⟩ ⟨Zl (l,⟨s⟩,()) rfl h2,Zi (l,⟨s⟩,()) rfl rfl⟩
 ·cases h
theorem TN{n m:Nat}{xs:List PV}(h:Ad n m xs=true): ∃ l:List Str,xs=l.map enc∧m=n∧l.length=n∧l.length<=9223372036854775807:=by
 simp only[Ad,Bool.and_eq_true,beq_iff_eq]at h
 obtain⟨⟨⟨h1,h2⟩,h3⟩,h4⟩:=h
 obtain⟨l,hl⟩:=Yu h3
 have hl:PV.sl 1 false xs=PV.sl 1 false (l.map enc):=hl
 injection hl with _ _ hx
 subst hx
 have e:QQ (l.map enc)=l:=Enc.dec_enc l
 rw[e]at h4
 exact⟨l,rfl,h1,by simpa using h2,ZN.1 h4⟩
theorem Um(l:List Str):QQ (l.map enc)=l:=Enc.dec_enc l
theorem Df{l:List Str}{n:Nat}(hn:l.length=n)(hs:l.length<=9223372036854775807):Ad n n (l.map enc)=true:=by
 have hc:Vf (List Str) (.sl 1 false (l.map enc))=true:=Z5 l
 simp only[Ad,hc,Um,ZN.2 hs,List.length_map,hn]
 simp
theorem a8w{l:List Str}{i:Nat}(h:i<l.length):List.getD (List.map (enc:Str->PV) l) (0+Int.toNat (i:Int)) default=enc l[i]:=by simp[List.getD,h]
theorem b7j(s:List UInt8)(l:List Str)(m:Int)(h:Zt l=true):KA [.pv (.str s),.ptr 0 0] [.box [.pv (enc l),.pv (.int .i64 m)]]=true:=by
 show(Vf (List Str) (enc l)&&Zt (dec (enc l:PV):List Str))=true
 rw[Z5,Enc.dec_enc,h];rfl
theorem b1x(l:List Str)(n:Nat)(b:BoxT)(hn:l.length=n)(hl:l.length<=9223372036854775807)(hb:Zt b.v=true): ∀ (j i:Nat),j+i=n->(∀ k (h:k<l.length),k<i->(!(b.v.contains l[k]))=false) ->
  At KG 2 (Zh 2 UM fun r=>r=(.pv (.int .i64 (Zx (fun s:Str=> !(b.v.contains s)) l)),[.row false 9 1 (l.map enc),.box [.pv (enc b.v),.pv (.int .i64 b.m)]],[])) Uj 0 19 [(0,.row 0 n 0 n),(1,.fn 176 [] [.ptr 1 0]),(7,.pv (.int .i64 n)),(8,.pv (.int .i64 i))] [.obj (.row false 9 1 (l.map enc)),.obj (.box [.pv (enc b.v),.pv (.int .i64 b.m)])]:=by
 intro j
 induction j with
 | zero=>
  intro i hi hno
  refine a9h l n b i (ZV (Z8 (by omega)) ?_)
  rw[UH _ _ (fun k hk=>hno k hk (by omega))]
  rfl
 | succ j ih=>
  intro i hi hno
  have hlt:i<l.length:=by omega
  refine a9h l n b i (ZQ (Z4 (by omega)) ?_)
  simp only[a8w hlt]
  refine⟨by simp;omega,by simp;omega,rfl,b7j _ _ _ hb,?_⟩
  rw[Enc.dec_enc]
  refine Vq (fun h=> ?_) fun h=> ?_
  ·have h:b.v.contains l[i]=false:=h
   rw[Uy (fun s:Str=> !(b.v.contains s)) l i hlt hno (by rw[h];rfl)]
   rfl
  ·have h:b.v.contains l[i]=true:=h
   rw[next (by omega)]
   refine ih (i+1) (by omega) fun k hk hki=> ?_
   by_cases e:k=i
   ·subst e;rw[h];rfl
   ·exact hno k hk (by omega)
theorem b6n: ∀ args os,XU 176 args os=true->Zc KG os.length (Zh os.length UM fun r=>r=DF args os) Uj [] (YH b9k args os):=by
 intro args os h
 unfold XU at h
 split at h
 ·rename_i n m g ty xs v k
  simp only[Bool.and_eq_true,beq_iff_eq]at h
  obtain⟨⟨⟨⟨rfl,rfl⟩,h3⟩,h4⟩,h5⟩:=h
  obtain⟨l,rfl,rfl,hn,hl⟩:=TN h3
  obtain⟨bv,rfl⟩:=Yu h4
  rw[Enc.dec_enc]at h5
  have ev:DF [.row 0 m 0 m,.fn 176 [] [.ptr 1 0]] [.row false 9 1 (l.map enc),.box [.pv (enc bv),.pv (.int .i64 k)]]=(.pv (.int .i64 (Zx (fun s:Str=> !(bv.contains s)) l)),[.row false 9 1 (l.map enc),.box [.pv (enc bv),.pv (.int .i64 k)]],[]):=by
   show(AV.pv (.int .i64 (Zx (fun s:Str=> !((dec (enc bv:PV):List Str).contains s)) (QQ (l.map enc)))),_,_)=_
   rw[Enc.dec_enc,Um]
  rw[ev]
  exact c3q l m ⟨bv,k⟩ (b1x l m ⟨bv,k⟩ hn hl h5 m 0 rfl fun k _ h=>by omega)
 ·rename_i g v k
  simp only[Bool.and_eq_true,beq_iff_eq]at h
  obtain⟨⟨rfl,h4⟩,h5⟩:=h
  obtain⟨bv,rfl⟩:=Yu h4
  exact c3n ⟨bv,k⟩ (c1n ⟨bv,k⟩ 0 (ZV (by decide) rfl))
 ·cases h
theorem b5y: ∀ args os,XU 176 args os=true->Zc O0 os.length (Zh os.length Rh fun r=>r=Rx args os) BP [] (YH b8v args os):=by
 intro args os h
 have h0:=h
 unfold XU at h
 split at h
 ·rename_i n m g ty xs v k
  simp only[Bool.and_eq_true,beq_iff_eq]at h
  obtain⟨⟨⟨⟨rfl,rfl⟩,h3⟩,h4⟩,h5⟩:=h
  obtain⟨l,rfl,rfl,hn,hl⟩:=TN h3
  obtain⟨bv,rfl⟩:=Yu h4
  refine c3f l m ⟨bv,k⟩ ⟨h0,?_⟩
  rw[Xy]
  rfl
 ·rename_i g v k
  simp only[Bool.and_eq_true,beq_iff_eq]at h
  obtain⟨⟨rfl,h4⟩,h5⟩:=h
  obtain⟨bv,rfl⟩:=Yu h4
  exact c3g ⟨bv,k⟩ ⟨h0,rfl⟩
 ·cases h
def KU(fs:List Fact):List Str:=fs.flatMap fun f=>Zn f.l
theorem QI{fs:List Fact}{i:Nat}(h:i<fs.length):KU (fs.take (i+1))=KU (fs.take i)++Zn fs[i].l:=by
 unfold KU
 rw[List.take_succ_eq_append_getElem h,List.flatMap_append];simp
theorem UA{fs:List Fact}(hv:XA fs=true){i:Nat}(hi:i<fs.length):(Zn fs[i].l).length<=12:=by
 unfold Zn
 rw[List.length_map]
 unfold XA at hv
 exact a2k (List.all_eq_true.1 hv _ (List.getElem_mem hi))
theorem JJ{fs:List Fact}(hv:XA fs=true): ∀ i,i<=fs.length->(KU (fs.take i)).length<=12*i
 | 0,_=>by simp[KU]
 | i+1,h=>by
  rw[QI (by omega),List.length_append]
  have:=JJ hv i (by omega)
  have:=UA hv (i:=i) (by omega)
  omega
def inE(vs:List Str)(ns:List Str):Int:=if JF vs ns then 0 else 7
theorem Sv(vs ns:List Str):(ns.any fun s=> !(vs.contains s)) = !(JF vs ns):=by
 unfold JF
 induction ns with
 | nil=>rfl
 | cons s r ih=>simp only[List.any_cons,List.all_cons,ih,Bool.not_and]
theorem TS(b:BoxT)(fs:List Fact)(ok:Bool)(l:List Str)(hb:Zt b.v=true)(hf:Zm fs=true)(hv:XA fs=true)(hfl:fs.length<=100)(hl:l.length<=1000)(n:Nat)(ls:List Str): ∀ (k i:Nat),k+i=fs.length ->
  At Yq 1 (Zh 1 Yd fun r=>r=(.pv (.int .i64 (inE b.v (l++KU fs))),[.row false 9 1 ((l++KU fs).map enc)],[])) Ye 0 38 [(3,.row 0 (l++KU (fs.take i)).length 0 (l++KU (fs.take i)).length),(4,.ptr 1 0),(23,.pv (enc fs)),(24,.pv (.int .i64 fs.length)),(25,.pv (.int .i64 i))] [.obj (.row false 9 1 ((l++KU (fs.take i)).map enc)),.obj (.box [.pv (enc b.v),.pv (.int .i64 b.m)])]:=by
 intro k
 induction k with
 | zero=>
  intro i hi
  have hn:=JJ hv i (by omega)
  have hd:fs.take i=fs:=List.take_of_length_le (by omega)
  rw[hd]at hn ⊢
  refine Cb b fs ok n ls i _ (l++KU fs) (ZV (Z8 (by omega)) ⟨?_,?_⟩)
  ·show(176==176&&9==9&&Ad _ _ _&&Vf (List Str) (enc b.v)&&Zt (dec (enc b.v:PV):List Str))=true
   rw[Df rfl (by rw[List.length_append];omega),Z5,Enc.dec_enc,hb];rfl
  ·rw[Um,Enc.dec_enc,Sv]
   unfold inE
   refine Vq (fun h=> ?_) fun h=> ?_
   ·rw[h];rfl
   ·rw[h];rfl
 | succ k ih=>
  intro i hi
  have hlt:i<fs.length:=by omega
  have hn:=JJ hv i (by omega)
  have hnb:=UA hv hlt
  have hnm:(Zn fs[i].l).length=fs[i].l.t.length:=by unfold Zn;rw[List.length_map]
  refine Cb b fs ok n ls i _ (l++KU (fs.take i)) (ZQ (Z4 hlt) ⟨Zu hlt rfl,ZG hlt ⟨Zl (fs[i].l,()) rfl (decide_eq_true (by show fs[i].l.t.length<=_;omega)),Zi (fs[i].l,()) rfl ⟨by simp,Ro (by rw[List.length_map]) (by rw[List.length_map,List.length_append];show(_+(Zn fs[i].l).length)*16<=_;omega) (by rw[List.length_map,List.length_append];show _+(Zn fs[i].l).length<=_;omega),?_⟩⟩⟩)
  have:=ih (i+1) (by omega)
  rw[QI hlt,<- List.append_assoc,show(l++KU (fs.take i)++Zn fs[i].l).map (enc:Str->PV)=(l++KU (fs.take i)).map enc++(Zn fs[i].l).map enc from List.map_append,List.length_append (as:=l++KU (fs.take i)),<- next (by omega)]at this
  rw[List.length_map]
  exact this
theorem Nz: ∀ args os,VZ args os=true->Zc Yq os.length (Zh os.length Yd fun r=>r=Qp args os) Ye [] (YH A9 args os):=by
 intro args os h
 unfold VZ at h
 split at h
 ·rename_i b0 f0 ok n m ty xs
  simp only[Bool.and_eq_true,beq_iff_eq,decide_eq_true_eq,Bool.not_eq_true']at h
  obtain⟨⟨⟨⟨⟨⟨⟨⟨⟨h1,h2⟩,rfl⟩,h4⟩,h5⟩,h6⟩,h7⟩,h8⟩,h9⟩,h10⟩:=h
  obtain⟨b,rfl⟩:=Yu h1
  obtain⟨fs,rfl⟩:=Yu h2
  obtain⟨l,rfl,rfl,hn,hl⟩:=TN h4
  rw[Enc.dec_enc]at h7 h8 h9
  rw[List.length_map]at h10
  have ev:Qp [.pv (enc b),.pv (enc fs),.pv (.bool ok),.row 0 m 0 m] [.row false 9 1 (l.map enc)]=(.pv (.int .i64 (Zp b fs ok l)),[.row false 9 1 ((ckV b fs ok l).map enc)],[]):=by
   show(AV.pv (.int .i64 (Zp (dec (enc b:PV)) (dec (enc fs:PV)) ok (QQ (l.map enc)))),[AObj.row false 9 1 ((ckV (dec (enc b:PV)) (dec (enc fs:PV)) ok (QQ (l.map enc))).map enc)],_)=_
   rw[Enc.dec_enc,Enc.dec_enc,Um]
  rw[ev]
  have hb:Zt b.v=true:=by simp only[ZW,Wj,Bool.and_eq_true]at h7;exact h7.1
  refine a1g b fs ok m l ⟨Zl (b,()) rfl h7,Zi (b,()) rfl (Vq (fun h=> ?_) fun hbv=>⟨Zl (fs,()) rfl h8,Zi (fs,()) rfl (Vq (fun h=> ?_) fun hfv=>Vq (fun h=> ?_) fun hok=> ?_)⟩)⟩
  ·have h:Xh b=false:=h
   simp[Zp,ckV,h]
  ·have h:XA fs=false:=h
   simp[Zp,ckV,h]
  ·have h:ok=false:=h
   simp[Zp,ckV,h]
  ·have hbv:Xh b=true:=hbv
   have hfv:XA fs=true:=hfv
   have hok:ok=true:=hok
   have e1:Zp b fs ok l=inE b.v (l++KU fs):=by unfold Zp;rw[hbv,hfv,hok];rfl
   have e2:ckV b fs ok l=l++KU fs:=by unfold ckV;rw[hbv,hfv,hok];rfl
   rw[e1,e2,List.length_map]
   have:=TS b fs ok l hb h8 hfv h9 (by omega) m l fs.length 0 (by omega)
   rw[List.take_zero]at this
   have e0:l++KU []=l:=by simp[KU]
   rw[e0,hn]at this
   exact this
 ·cases h
theorem PH(b:BoxT)(fs:List Fact)(ok:Bool)(hb:Zt b.v=true)(hf:Zm fs=true)(hv:XA fs=true)(hfl:fs.length<=100): ∀ (k i:Nat),k+i=fs.length ->
  At Yq 0 (Za Yd (Zf (inE b.v (KU fs)))) Ye 0 38 [(3,.row 0 (KU (fs.take i)).length 0 (KU (fs.take i)).length),(4,.ptr 1 0),(23,.pv (enc fs)),(24,.pv (.int .i64 fs.length)),(25,.pv (.int .i64 i))] [.obj (.row false 9 1 ((KU (fs.take i)).map enc)),.obj (.box [.pv (enc b.v),.pv (.int .i64 b.m)])]:=by
 intro k
 induction k with
 | zero=>
  intro i hi
  have hn:=JJ hv i (by omega)
  have hd:fs.take i=fs:=List.take_of_length_le (by omega)
  rw[hd]at hn ⊢
  refine Cv b fs ok i _ (KU fs) (ZV (Z8 (by omega)) ⟨?_,?_⟩)
  ·show(176==176&&9==9&&Ad _ _ _&&Vf (List Str) (enc b.v)&&Zt (dec (enc b.v:PV):List Str))=true
   rw[Df rfl (by omega),Z5,Enc.dec_enc,hb];rfl
  ·rw[Um,Enc.dec_enc,Sv]
   unfold inE
   refine Vq (fun h=> ?_) fun h=> ?_
   ·rw[h];exact⟨rfl,rfl⟩
   ·rw[h];exact⟨rfl,rfl⟩
 | succ k ih=>
  intro i hi
  have hlt:i<fs.length:=by omega
  have hn:=JJ hv i (by omega)
  have hnb:=UA hv hlt
  have hnm:(Zn fs[i].l).length=fs[i].l.t.length:=by unfold Zn;rw[List.length_map]
  refine Cv b fs ok i _ (KU (fs.take i)) (ZQ (Z4 hlt) ⟨Zu hlt rfl,ZG hlt ⟨Zl (fs[i].l,()) rfl (decide_eq_true (by show fs[i].l.t.length<=_;omega)),Zi (fs[i].l,()) rfl ⟨by simp,Ro (by rw[List.length_map]) (by rw[List.length_map];show(_+(Zn fs[i].l).length)*16<=_;omega) (by rw[List.length_map];show _+(Zn fs[i].l).length<=_;omega),?_⟩⟩⟩)
  have:=ih (i+1) (by omega)
  rw[QI hlt,show(KU (fs.take i)++Zn fs[i].l).map (enc:Str->PV)=(KU (fs.take i)).map enc++(Zn fs[i].l).map enc from List.map_append,List.length_append (as:=KU (fs.take i)),<- next (by omega)]at this
  rw[List.length_map]
  exact this
theorem FE(b:BoxT)(fs:List Fact)(ok:Bool)(hb:Zt b.v=true)(hf:Zm fs=true)(hv:XA fs=true)(hfl:fs.length<=100): ∀ (k i:Nat),k+i=fs.length->KU (fs.take i)=[] ->
  At Yq 0 (Za Yd (Zf (inE b.v (KU fs)))) Ye 0 38 [(3,.pv (.sl 0 true [])),(4,.ptr 0 0),(23,.pv (enc fs)),(24,.pv (.int .i64 fs.length)),(25,.pv (.int .i64 i))] [.obj (.box [.pv (enc b.v),.pv (.int .i64 b.m)])]:=by
 intro k
 induction k with
 | zero=>
  intro i hi h0
  have hd:fs.take i=fs:=List.take_of_length_le (by omega)
  rw[hd]at h0
  refine Bd b fs ok i (ZV (Z8 (by omega)) ⟨?_,?_⟩)
  ·show(176==176&&Vf (List Str) (enc b.v)&&Zt (dec (enc b.v:PV):List Str))=true
   rw[Z5,Enc.dec_enc,hb];rfl
  ·rw[h0]
   exact⟨rfl,rfl⟩
 | succ k ih=>
  intro i hi h0
  have hlt:i<fs.length:=by omega
  have hnb:=UA hv hlt
  have hnm:(Zn fs[i].l).length=fs[i].l.t.length:=by unfold Zn;rw[List.length_map]
  refine Bd b fs ok i (ZQ (Z4 hlt) ⟨Zu hlt rfl,ZG hlt ⟨Zl (fs[i].l,()) rfl (decide_eq_true (by show fs[i].l.t.length<=_;omega)),Zi (fs[i].l,()) rfl ⟨by simp,Xe (fun h=> ?_) fun h=>⟨?_,?_⟩⟩⟩⟩)
  ·have h:Zn fs[i].l=[]:=by simpa using h
   rw[next (by omega)]
   exact ih (i+1) (by omega) (by rw[QI hlt,h0,h];rfl)
  ·rw[List.length_map]
   show(true&&decide ((0+(Zn fs[i].l).length)*16<=1099511627776)&&decide (0+(Zn fs[i].l).length<=1099511627776))=true
   rw[decide_eq_true (by omega),decide_eq_true (by omega)];rfl
  ·have:=PH b fs ok hb hf hv hfl k (i+1) (by omega)
   rw[QI hlt,h0,List.nil_append,<- next (by omega)]at this
   rw[List.length_map]
   show At Yq 0 _ Ye 0 38 [(3,.row 0 (0+(Zn fs[i].l).length) 0 (0+(Zn fs[i].l).length)),_,_,_,_] _
   rw[Nat.zero_add]
   exact this
theorem LQ: ∀ a:BoxT×List Fact×Bool×NilS×Unit,(ZW a.1&&Zm a.2.1&&decide (a.2.1.length<=100))=true->Zc Yq 0 (Za Yd (Zf (Zp a.1 a.2.1 a.2.2.1 []))) Ye [] (Yx A9 (encL a)):=by
 rintro⟨b,fs,ok,⟨⟩,⟨⟩⟩ h
 simp only[Bool.and_eq_true,decide_eq_true_eq]at h
 obtain⟨⟨h7,h8⟩,h9⟩:=h
 have hb:Zt b.v=true:=by have:=h7;simp only[ZW,Wj,Bool.and_eq_true]at this;exact this.1
 show Zc Yq 0 (Za Yd (Zf (Zp b fs ok []))) _ _ _
 refine b1c b fs ok ⟨Zl (b,()) rfl h7,Zi (b,()) rfl (Vq (fun h=> ?_) fun hbv=>⟨Zl (fs,()) rfl h8,Zi (fs,()) rfl (Vq (fun h=> ?_) fun hfv=>Vq (fun h=> ?_) fun hok=> ?_)⟩)⟩
 ·have h:Xh b=false:=h
  exact Qm (by simp[Zp,h])
 ·have h:XA fs=false:=h
  exact Qm (by simp[Zp,h])
 ·have h:ok=false:=h
  exact Qm (by simp[Zp,h])
 ·have hbv:Xh b=true:=hbv
  have hfv:XA fs=true:=hfv
  have hok:ok=true:=hok
  have e1:Zp b fs ok []=inE b.v (KU fs):=by unfold Zp;rw[hbv,hfv,hok];rfl
  rw[e1,List.length_map]
  exact FE b fs ok hb h8 hfv h9 fs.length 0 (by omega) rfl
end Go.Pl

namespace Go.Pl
open Go.RowKit
open Enc (enc dec is)
open EncL (encL decL isL)
theorem PL(s:List UInt8)(hs:s.length<=281474976710656): ∀ (m i:Nat),m+i=s.length->At Xr 0 (Za Y2 (Zf (Xk s i))) Y3 0 67 [(0,.pv (.str s)),(34,.pv (.sl 1 false (Zv s))),(35,.pv (.int .i64 (Zv s).length)),(36,.pv (.int .i64 i))] []:=by
 intro m
 induction m with
 | zero=>
  intro i hi
  have e:Xk s i=(!(s==[])&&decide (s.length<=30)):=by
   unfold Xk
   cases i with
   | zero=>cases s with
    | nil=>rfl
    | cons c r=>simp at hi
   | succ i=>simp only;rw[List.drop_of_length_le (show s.length<=i+1 by omega)];simp
  rw[e]
  refine AC s i (ZV (Z8 (by rw[V4];omega)) (Xe (fun h=>ZJ ?_) fun h=>ZJ ?_))
  ·rw[h,Bool.true_and];exact decide_eq_decide.2 (by omega)
  ·rw[h,Bool.false_and]
 | succ m ih=>
  intro i hi
  have hlt:i<s.length:=by omega
  have h:=ih (i+1) (by omega)
  refine AC s i ?_
  rw[Me hlt,next (by omega)]
  have stop:(Wi s[i]=false∧(i=0∨XQ s[i]=false))->Zf (Xk s i) (.bool false):=fun hb=>ZJ (AQ hlt hb).symm
  have go:(Wi s[i]=true∨(i≠0∧XQ s[i]=true))->At Xr 0 (Za Y2 (Zf (Xk s i))) Y3 0 67 [(0,.pv (.str s)),(34,.pv (.sl 1 false (Zv s))),(35,.pv (.int .i64 (Zv s).length)),(36,.pv (.int .i64 ((i+1:Nat):Int)))] []:=fun hb=>by rw[SF hlt hb];exact h
  have rest:Wi s[i]=false->(if ((i:Int)==0)=true then Zf (Xk s i) (.bool false)else if decide ((s[i].toNat:Int)<48)=true then Zf (Xk s i) (.bool false)else if decide ((s[i].toNat:Int)>57)=true then Zf (Xk s i) (.bool false)else At Xr 0 (Za Y2 (Zf (Xk s i))) Y3 0 67 [(0,.pv (.str s)),(34,.pv (.sl 1 false (Zv s))),(35,.pv (.int .i64 (Zv s).length)),(36,.pv (.int .i64 ((i+1:Nat):Int)))] []):=by
   intro hl
   refine Jq (fun h0=>stop ⟨hl,.inl (by omega)⟩) fun h0=>We (fun h1=>stop ⟨hl,.inr (Kq (by omega))⟩) fun h1=>We (fun h2=>stop ⟨hl,.inr (Kq (by omega))⟩) fun h2=>go (.inr ⟨by omega,WH.2 (by omega)⟩)
  refine ZQ (Z4 (by rw[V4];exact hlt)) ⟨by rw[V4];simp[hlt],by rfl,?_⟩
  refine We (fun h1=>rest (Ko ?_)) fun h1=>We (fun h2=>rest (Ko ?_)) fun h2=>go (.inl (RV.2 ?_))
  ·have h1:(s[i].toNat:Int)<97:=h1
   omega
  ·have h2:(s[i].toNat:Int)>122:=h2
   omega
  ·have h1 : ¬ (s[i].toNat:Int)<97:=h1
   have h2 : ¬ (s[i].toNat:Int)>122:=h2
   omega
theorem Lv: ∀ a:Str×Unit,decide (a.1.s.length<=281474976710656)=true->Zc Xr 0 (Za Y2 (Zf (ZA a.1))) Y3 [] (Yx a2o (encL a)):=by
 rintro⟨⟨s⟩,⟨⟩⟩ hl
 have hl:s.length<=281474976710656:=by simpa using hl
 refine a9k s (Zi (⟨s⟩,⟨[95]⟩,()) rfl (Xe (fun h=> ?_) fun h=> ?_))
 ·have h:[95].isPrefixOf s=true:=h
  obtain⟨r,rfl⟩ : ∃ r,s=95::r:=by
   cases s with
   | nil=>simp at h
   | cons c r=>
    have:95=c:=by simpa using h
    exact⟨r,by rw[this]⟩
  have e1:List.drop (Int.toNat 1) (List.take (List.length (95::r)) (95::r))=r:=by rw[List.take_of_length_le (Nat.le_refl _)];rfl
  simp only[e1]
  refine⟨by simp,Zl (⟨r⟩,()) rfl (by simp at hl ⊢;omega),Zi (⟨r⟩,()) rfl ⟨by show(CW (enc (Yo ⟨r⟩).2)&&true)=true;rw[b8o];rfl,?_⟩⟩
  show if Uq (enc (Yo ⟨r⟩).2)=true then(if decide ((Yo ⟨r⟩).1>0)=true then(if _ then _ else Zf (ZA ⟨95::r⟩) _)else Zf (ZA ⟨95::r⟩) _)else Zf (ZA ⟨95::r⟩) _
  rw[Po]
  by_cases h9:r.length<=9
  ·rw[<- OY r h9,decide_eq_true h9,Bool.and_true]
   refine Xe (fun h1=>Xe (fun h2=>ZQ (by simp;omega) ⟨Zl ((Yo ⟨r⟩).1,()) rfl (by have:=Cy ⟨r⟩;simp;omega),Zi ((Yo ⟨r⟩).1,()) rfl ⟨by simp,ZJ ?_⟩⟩) fun h2=>ZJ ?_) fun h1=>ZJ ?_
   ·rw[h1,h2];simp only[Bool.true_and,Bool.and_true];rfl
   ·rw[h2];simp
   ·rw[h1];simp
  ·rw[decide_eq_false h9,Bool.and_false]
   refine Xe (fun h1=>Xe (fun h2=>ZV (by simp;omega) (ZJ rfl)) fun h2=>ZJ rfl) fun h1=>ZJ rfl
 ·have h:[95].isPrefixOf s=false:=h
  show At Xr 0 (Za Y2 (Zf (ZA ⟨s⟩))) Y3 0 67 _ _
  rw[SQ h]
  exact PL s hl s.length 0 (by omega)
end Go.Pl

